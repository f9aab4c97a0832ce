-- Written by a program of this work, after the translation.
import Derived.Test.YtbciaapkahfcaaaPFlushHearsx0
namespace Go.Proofs.Ytbciaapkahfcaaa.PFlushHears
open Go.RowKit Go.Proofs.YtbciaapkahfcaaaW.PrintWords Go.Proofs.YtbciaapkahfcaaaW.PrintLast Go.Proofs.YtbciaapkahfcaaaW.PrintMore
attribute [local go_sem] max2_int min2_int max_two min_two max_three min_three max_four min_four   -- for this text's walks alone
set_option linter.unusedVariables false
set_option linter.unusedSimpArgs false

/-! ### flush_Pairs_Hear: function 6 (given: its walk is in another text) -/

theorem flush_Pairs_Hear.eqP (d : Nat) (w : World) (x0 y0 : Bool) (x1 y1 : Bool) (x2 y2 : Int) :
    (Op.equalIn (d + 2) 27 (.agg #[.bool x0, .bool x1, .int .u64 x2]) (.agg #[.bool y0, .bool y1, .int .u64 y2])).run Try.prog w = .ok (x0 == y0 && (x1 == y1 && (x2 == y2))) w := by
  refine eqA_of Try.underlying27 (by kernel_rfl) ?_
  refine eqf_cons (by rfl) (by go_simp; rfl) (by go_simp; rfl) (by go_simp) ?_
  refine eqf_cons (by rfl) (by go_simp; rfl) (by go_simp; rfl) (by go_simp) ?_
  exact eqf_last (by rfl) (by go_simp; rfl) (by go_simp; rfl) (by go_simp)
theorem flush_Pairs_Hear.set_b {w W : World} {p : Addr} (h : Below w.heap.size w W) (hp : w.heap.size ≤ p.block) (v : Value) : Below w.heap.size w (W.setCell p v) := h.setCell hp v
theorem flush_Pairs_Hear.wp_W {P : Program} {C : Code} {Q : Exit → Act → World → Prop} {a : Act} {W : World} (h : ∀ W', W' = W → Code.wp P C Q a W') : Code.wp P C Q a W := h W rfl
theorem flush_Pairs_Hear.post_W {P : Program} {fn : Func} {R : Ending → World → Prop} {x : Exit} {a : Act} {W : World} (h : ∀ W', W' = W → bodyPost P fn R x a W') : bodyPost P fn R x a W := h W rfl
/-- One port's pair, and whether tables are emptied. -/
def flush_Pairs_Hear.one (s e : Bool) (n : Int) (s' e' : Bool) (n' : Int) (rq : Int) (bl kp ea : Bool) (nd : Int) : (Bool × Bool × Int) × Bool :=
  if (rq == 0 && !bl) = true then ((false, false, 0), false) else if (s && (e == ea && n == nd)) = true then ((s, e, n), false) else ((true, ea, nd), if kp = true then false else (!s' || (!e' == ea || !n' == nd)))
def flush_Pairs_Hear.f (a0_0 a0_1 : Bool) (a0_2 : Int) (a0_3 a0_4 : Bool) (a0_5 a1 a2_0 : Int) (a2_1 a2_2 a2_3 : Bool) (a2_4 : Int) : Option (Bool × Bool × Int × Bool × Bool × Int × Bool) :=
  if a1 = 0 then (let r := flush_Pairs_Hear.one a0_0 a0_1 a0_2 a0_3 a0_4 a0_5 a2_0 a2_1 a2_2 a2_3 a2_4; some (r.1.1, r.1.2.1, r.1.2.2, a0_3, a0_4, a0_5, r.2))
  else if a1 = 1 then (let r := flush_Pairs_Hear.one a0_3 a0_4 a0_5 a0_0 a0_1 a0_2 a2_0 a2_1 a2_2 a2_3 a2_4; some (a0_0, a0_1, a0_2, r.1.1, r.1.2.1, r.1.2.2, r.2))
  else some (a0_0, a0_1, a0_2, a0_3, a0_4, a0_5, false)
set_option maxHeartbeats 8000000 in
set_option maxRecDepth 100000 in
theorem flush_Pairs_Hear.far (s0 e0 : Bool) (n0 : Int) (s1 e1 : Bool) (n1 : Int) (port rq : Int) (bl kp ea : Bool) (nd : Int) (w : World) (h0 : ¬ port = 0) (h1 : ¬ port = 1) :
    Calls Try.prog 6 #[.agg #[.bool s0, .bool e0, .int .u64 n0, .bool s1, .bool e1, .int .u64 n1], .int .i64 port, .agg #[.int .u8 rq, .bool bl, .bool kp, .bool ea, .int .u64 nd]] w fun e w' =>
      e = .returned (.tuple #[.agg #[.bool s0, .bool e0, .int .u64 n0, .bool s1, .bool e1, .int .u64 n1], .bool (false)]) ∧ Below w.heap.size w w' := by
  have huA := Try.underlying29
  have huP := Try.underlying27
  have hq := flush_Pairs_Hear.eqP
  have e0_ : (port == 0) = false := by simpa using h0
  have e1_ : (port == 1) = false := by simpa using h1
  have e2_ : (port != 0) = true := by simpa using h0
  have e3_ : (port != 1) = true := by simpa using h1
  go_enter Try.func6, Try.ntmps6
  go_wp2
  all_goals exact bodyPost_ret (v := .tuple #[.agg #[.bool s0, .bool e0, .int .u64 n0, .bool s1, .bool e1, .int .u64 n1], .bool (false)]) (by simp [results, Try.results6, go_sem]) rfl ⟨rfl, by repeat (with_reducible first | exact Below.refl _ _ | apply below_alloc | apply below_drew1 | apply pw_below_drewN | refine flush_Pairs_Hear.set_b ?_ (by simp) _)⟩
set_option maxHeartbeats 8000000 in
set_option maxRecDepth 100000 in
theorem flush_Pairs_Hear.w0 (s0 e0 : Bool) (n0 : Int) (s1 e1 : Bool) (n1 : Int) (kp ea : Bool) (nd : Int) (w : World) :
    Calls Try.prog 6 #[.agg #[.bool s0, .bool e0, .int .u64 n0, .bool s1, .bool e1, .int .u64 n1], .int .i64 0, .agg #[.int .u8 0, .bool false, .bool kp, .bool ea, .int .u64 nd]] w fun e w' =>
      e = .returned (.tuple #[.agg #[.bool false, .bool false, .int .u64 0, .bool s1, .bool e1, .int .u64 n1], .bool (false)]) ∧ Below w.heap.size w w' := by
  have huA := Try.underlying29
  have huP := Try.underlying27
  have hq := flush_Pairs_Hear.eqP
  go_enter Try.func6, Try.ntmps6
  go_wp2
  exact bodyPost_ret (v := .tuple #[.agg #[.bool false, .bool false, .int .u64 0, .bool s1, .bool e1, .int .u64 n1], .bool (false)]) (by simp [results, Try.results6, go_sem]) rfl ⟨rfl, by repeat (with_reducible first | exact Below.refl _ _ | apply below_alloc | apply below_drew1 | apply pw_below_drewN | refine flush_Pairs_Hear.set_b ?_ (by simp) _)⟩
set_option maxHeartbeats 8000000 in
set_option maxRecDepth 100000 in
theorem flush_Pairs_Hear.s0 (s0 e0 : Bool) (n0 : Int) (s1 e1 : Bool) (n1 : Int) (rq : Int) (bl kp ea : Bool) (nd : Int) (w : World) (hW : (rq == 0) = false ∨ (rq = 0 ∧ bl = true)) (hE : (s0 && (e0 == ea && n0 == nd)) = true) :
    Calls Try.prog 6 #[.agg #[.bool s0, .bool e0, .int .u64 n0, .bool s1, .bool e1, .int .u64 n1], .int .i64 0, .agg #[.int .u8 rq, .bool bl, .bool kp, .bool ea, .int .u64 nd]] w fun e w' =>
      e = .returned (.tuple #[.agg #[.bool s0, .bool e0, .int .u64 n0, .bool s1, .bool e1, .int .u64 n1], .bool (false)]) ∧ Below w.heap.size w w' := by
  have huA := Try.underlying29
  have huP := Try.underlying27
  have hq := flush_Pairs_Hear.eqP
  rcases hW with hW | ⟨rfl, rfl⟩
  all_goals
    go_enter Try.func6, Try.ntmps6
    go_wp2
    go_quiet (fail)
    go_wp2
    all_goals
      refine flush_Pairs_Hear.post_W (fun W3 hW3 => ?_)
      have hB3 : Below w.heap.size w W3 := by
        rw [hW3]
        repeat (with_reducible first | exact Below.refl _ _ | apply below_alloc | apply below_drew1 | apply pw_below_drewN | refine flush_Pairs_Hear.set_b ?_ (by simp; omega) _)
      have hR3 : W3.heap[w.heap.size + 1 + 1]? = some (.cells #[.bool s0, .bool e0, .int .u64 n0, .bool s1, .bool e1, .int .u64 n1] 29 (0, 0)) := by
        rw [hW3]
        first
        | (have hn_ := blk_new ((w.alloc (.cells #[.bool s0, .bool e0, .int .u64 n0, .bool s1, .bool e1, .int .u64 n1] 29)).alloc (.cells #[.int .u8 rq, .bool bl, .bool kp, .bool ea, .int .u64 nd] 35)) (.cells #[.bool false, .bool false, .int .u64 0, .bool false, .bool false, .int .u64 0] 29); try simp only [World.size_alloc] at hn_; (with_reducible repeat (first | exact hn_ | refine blk_drewN ?_ _ | refine blk_drew ?_ | refine blk_alloc ?_ _)); with_reducible refine blk_put (cs := #[.bool s0, .bool e0, .int .u64 n0, .bool s1, .bool e1, .int .u64 0]) ?_ 5 _ rfl; (with_reducible repeat (first | exact hn_ | refine blk_drewN ?_ _ | refine blk_drew ?_ | refine blk_alloc ?_ _)); with_reducible refine blk_put (cs := #[.bool s0, .bool e0, .int .u64 n0, .bool s1, .bool false, .int .u64 0]) ?_ 4 _ rfl; (with_reducible repeat (first | exact hn_ | refine blk_drewN ?_ _ | refine blk_drew ?_ | refine blk_alloc ?_ _)); with_reducible refine blk_put (cs := #[.bool s0, .bool e0, .int .u64 n0, .bool false, .bool false, .int .u64 0]) ?_ 3 _ rfl; (with_reducible repeat (first | exact hn_ | refine blk_drewN ?_ _ | refine blk_drew ?_ | refine blk_alloc ?_ _)); with_reducible refine blk_put (cs := #[.bool s0, .bool e0, .int .u64 0, .bool false, .bool false, .int .u64 0]) ?_ 2 _ rfl; (with_reducible repeat (first | exact hn_ | refine blk_drewN ?_ _ | refine blk_drew ?_ | refine blk_alloc ?_ _)); with_reducible refine blk_put (cs := #[.bool s0, .bool false, .int .u64 0, .bool false, .bool false, .int .u64 0]) ?_ 1 _ rfl; (with_reducible repeat (first | exact hn_ | refine blk_drewN ?_ _ | refine blk_drew ?_ | refine blk_alloc ?_ _)); with_reducible refine blk_put (cs := #[.bool false, .bool false, .int .u64 0, .bool false, .bool false, .int .u64 0]) ?_ 0 _ rfl; (with_reducible repeat (first | exact hn_ | refine blk_drewN ?_ _ | refine blk_drew ?_ | refine blk_alloc ?_ _)); done)
        | (have hn_ := blk_new ((w.alloc (.cells #[.bool s0, .bool e0, .int .u64 n0, .bool s1, .bool e1, .int .u64 n1] 29)).alloc (.cells #[.int .u8 0, .bool true, .bool kp, .bool ea, .int .u64 nd] 35)) (.cells #[.bool false, .bool false, .int .u64 0, .bool false, .bool false, .int .u64 0] 29); try simp only [World.size_alloc] at hn_; (with_reducible repeat (first | exact hn_ | refine blk_drewN ?_ _ | refine blk_drew ?_ | refine blk_alloc ?_ _)); with_reducible refine blk_put (cs := #[.bool s0, .bool e0, .int .u64 n0, .bool s1, .bool e1, .int .u64 0]) ?_ 5 _ rfl; (with_reducible repeat (first | exact hn_ | refine blk_drewN ?_ _ | refine blk_drew ?_ | refine blk_alloc ?_ _)); with_reducible refine blk_put (cs := #[.bool s0, .bool e0, .int .u64 n0, .bool s1, .bool false, .int .u64 0]) ?_ 4 _ rfl; (with_reducible repeat (first | exact hn_ | refine blk_drewN ?_ _ | refine blk_drew ?_ | refine blk_alloc ?_ _)); with_reducible refine blk_put (cs := #[.bool s0, .bool e0, .int .u64 n0, .bool false, .bool false, .int .u64 0]) ?_ 3 _ rfl; (with_reducible repeat (first | exact hn_ | refine blk_drewN ?_ _ | refine blk_drew ?_ | refine blk_alloc ?_ _)); with_reducible refine blk_put (cs := #[.bool s0, .bool e0, .int .u64 0, .bool false, .bool false, .int .u64 0]) ?_ 2 _ rfl; (with_reducible repeat (first | exact hn_ | refine blk_drewN ?_ _ | refine blk_drew ?_ | refine blk_alloc ?_ _)); with_reducible refine blk_put (cs := #[.bool s0, .bool false, .int .u64 0, .bool false, .bool false, .int .u64 0]) ?_ 1 _ rfl; (with_reducible repeat (first | exact hn_ | refine blk_drewN ?_ _ | refine blk_drew ?_ | refine blk_alloc ?_ _)); with_reducible refine blk_put (cs := #[.bool false, .bool false, .int .u64 0, .bool false, .bool false, .int .u64 0]) ?_ 0 _ rfl; (with_reducible repeat (first | exact hn_ | refine blk_drewN ?_ _ | refine blk_drew ?_ | refine blk_alloc ?_ _)); done)
      have z0 : W3.cell? ⟨w.heap.size + 1 + 1, 0, none⟩ = some (.bool s0) := (blk_cell hR3 0).trans rfl
      have z1 : W3.cell? ⟨w.heap.size + 1 + 1, 1, none⟩ = some (.bool e0) := (blk_cell hR3 1).trans rfl
      have z2 : W3.cell? ⟨w.heap.size + 1 + 1, 2, none⟩ = some (.int .u64 n0) := (blk_cell hR3 2).trans rfl
      have z3 : W3.cell? ⟨w.heap.size + 1 + 1, 3, none⟩ = some (.bool s1) := (blk_cell hR3 3).trans rfl
      have z4 : W3.cell? ⟨w.heap.size + 1 + 1, 4, none⟩ = some (.bool e1) := (blk_cell hR3 4).trans rfl
      have z5 : W3.cell? ⟨w.heap.size + 1 + 1, 5, none⟩ = some (.int .u64 n1) := (blk_cell hR3 5).trans rfl
      exact bodyPost_ret (v := .tuple #[.agg #[.bool s0, .bool e0, .int .u64 n0, .bool s1, .bool e1, .int .u64 n1], .bool (false)]) (by simp [results, Try.results6, go_sem, z0, z1, z2, z3, z4, z5]) rfl ⟨rfl, hB3⟩
set_option maxHeartbeats 8000000 in
set_option maxRecDepth 100000 in
theorem flush_Pairs_Hear.d0t (s0 e0 : Bool) (n0 : Int) (s1 e1 : Bool) (n1 : Int) (rq : Int) (bl ea : Bool) (nd : Int) (w : World) (hW : (rq == 0) = false ∨ (rq = 0 ∧ bl = true)) (hE : (s0 && (e0 == ea && n0 == nd)) = false) :
    Calls Try.prog 6 #[.agg #[.bool s0, .bool e0, .int .u64 n0, .bool s1, .bool e1, .int .u64 n1], .int .i64 0, .agg #[.int .u8 rq, .bool bl, .bool true, .bool ea, .int .u64 nd]] w fun e w' =>
      e = .returned (.tuple #[.agg #[.bool true, .bool ea, .int .u64 nd, .bool s1, .bool e1, .int .u64 n1], .bool (false)]) ∧ Below w.heap.size w w' := by
  have huA := Try.underlying29
  have huP := Try.underlying27
  have hq := flush_Pairs_Hear.eqP
  rcases hW with hW | ⟨rfl, rfl⟩
  · go_enter Try.func6, Try.ntmps6
    go_wp2
    go_quiet (fail)
    go_wp2
    refine flush_Pairs_Hear.wp_W (fun W' hW' => ?_)
    have hBel : Below w.heap.size w W' := by
      rw [hW']
      repeat (with_reducible first | exact Below.refl _ _ | apply below_alloc | apply below_drew1 | apply pw_below_drewN | refine flush_Pairs_Hear.set_b ?_ (by simp) _)
    have hP : W'.heap[w.heap.size]? = some (.cells #[.bool true, .bool ea, .int .u64 nd, .bool s1, .bool e1, .int .u64 n1] 29 (0, 0)) := by
      rw [hW']
      have hn_ := blk_new w (.cells #[.bool s0, .bool e0, .int .u64 n0, .bool s1, .bool e1, .int .u64 n1] 29)
      try simp only [World.size_alloc] at hn_
      (with_reducible repeat (first | exact hn_ | refine blk_drewN ?_ _ | refine blk_drew ?_ | refine blk_alloc ?_ _))
      with_reducible refine blk_put (cs := #[.bool true, .bool ea, .int .u64 n0, .bool s1, .bool e1, .int .u64 n1]) ?_ 2 _ rfl
      (with_reducible repeat (first | exact hn_ | refine blk_drewN ?_ _ | refine blk_drew ?_ | refine blk_alloc ?_ _))
      with_reducible refine blk_put (cs := #[.bool true, .bool e0, .int .u64 n0, .bool s1, .bool e1, .int .u64 n1]) ?_ 1 _ rfl
      (with_reducible repeat (first | exact hn_ | refine blk_drewN ?_ _ | refine blk_drew ?_ | refine blk_alloc ?_ _))
      with_reducible refine blk_put (cs := #[.bool s0, .bool e0, .int .u64 n0, .bool s1, .bool e1, .int .u64 n1]) ?_ 0 _ rfl
      (with_reducible repeat (first | exact hn_ | refine blk_drewN ?_ _ | refine blk_drew ?_ | refine blk_alloc ?_ _))
    have hM : W'.heap[w.heap.size + 1]? = some (.cells #[.int .u8 rq, .bool bl, .bool true, .bool ea, .int .u64 nd] 35 (0, 0)) := by
      rw [hW']
      have hn_ := blk_new (w.alloc (.cells #[.bool s0, .bool e0, .int .u64 n0, .bool s1, .bool e1, .int .u64 n1] 29)) (.cells #[.int .u8 rq, .bool bl, .bool true, .bool ea, .int .u64 nd] 35)
      try simp only [World.size_alloc] at hn_
      (with_reducible repeat (first | exact hn_ | refine blk_drewN ?_ _ | refine blk_drew ?_ | refine blk_alloc ?_ _))
      with_reducible refine blk_far ?_ (by simp) _
      (with_reducible repeat (first | exact hn_ | refine blk_drewN ?_ _ | refine blk_drew ?_ | refine blk_alloc ?_ _))
      with_reducible refine blk_far ?_ (by simp) _
      (with_reducible repeat (first | exact hn_ | refine blk_drewN ?_ _ | refine blk_drew ?_ | refine blk_alloc ?_ _))
      with_reducible refine blk_far ?_ (by simp) _
      (with_reducible repeat (first | exact hn_ | refine blk_drewN ?_ _ | refine blk_drew ?_ | refine blk_alloc ?_ _))
    have hR : W'.heap[w.heap.size + 1 + 1]? = some (.cells #[.bool false, .bool false, .int .u64 0, .bool false, .bool false, .int .u64 0] 29 (0, 0)) := by
      rw [hW']
      have hn_ := blk_new ((w.alloc (.cells #[.bool s0, .bool e0, .int .u64 n0, .bool s1, .bool e1, .int .u64 n1] 29)).alloc (.cells #[.int .u8 rq, .bool bl, .bool true, .bool ea, .int .u64 nd] 35)) (.cells #[.bool false, .bool false, .int .u64 0, .bool false, .bool false, .int .u64 0] 29)
      try simp only [World.size_alloc] at hn_
      (with_reducible repeat (first | exact hn_ | refine blk_drewN ?_ _ | refine blk_drew ?_ | refine blk_alloc ?_ _))
      with_reducible refine blk_far ?_ (by simp; omega) _
      (with_reducible repeat (first | exact hn_ | refine blk_drewN ?_ _ | refine blk_drew ?_ | refine blk_alloc ?_ _))
      with_reducible refine blk_far ?_ (by simp; omega) _
      (with_reducible repeat (first | exact hn_ | refine blk_drewN ?_ _ | refine blk_drew ?_ | refine blk_alloc ?_ _))
      with_reducible refine blk_far ?_ (by simp; omega) _
      (with_reducible repeat (first | exact hn_ | refine blk_drewN ?_ _ | refine blk_drew ?_ | refine blk_alloc ?_ _))
    have hX : W'.heap[w.heap.size + 1 + 1 + 1]? = some (.cells #[.bool true, .bool ea, .int .u64 nd] 27 (0, 0)) := by
      rw [hW']
      have hn_ := blk_new (((w.alloc (.cells #[.bool s0, .bool e0, .int .u64 n0, .bool s1, .bool e1, .int .u64 n1] 29)).alloc (.cells #[.int .u8 rq, .bool bl, .bool true, .bool ea, .int .u64 nd] 35)).alloc (.cells #[.bool false, .bool false, .int .u64 0, .bool false, .bool false, .int .u64 0] 29)) (.cells #[.bool true, .bool ea, .int .u64 nd] 27)
      try simp only [World.size_alloc] at hn_
      (with_reducible repeat (first | exact hn_ | refine blk_drewN ?_ _ | refine blk_drew ?_ | refine blk_alloc ?_ _))
      with_reducible refine blk_far ?_ (by simp; omega) _
      (with_reducible repeat (first | exact hn_ | refine blk_drewN ?_ _ | refine blk_drew ?_ | refine blk_alloc ?_ _))
      with_reducible refine blk_far ?_ (by simp; omega) _
      (with_reducible repeat (first | exact hn_ | refine blk_drewN ?_ _ | refine blk_drew ?_ | refine blk_alloc ?_ _))
      with_reducible refine blk_far ?_ (by simp; omega) _
      (with_reducible repeat (first | exact hn_ | refine blk_drewN ?_ _ | refine blk_drew ?_ | refine blk_alloc ?_ _))
    clear hW'
    have cp0 : W'.cell? ⟨w.heap.size, 0, none⟩ = some (.bool true) := (blk_cell hP 0).trans rfl
    have cp1 : W'.cell? ⟨w.heap.size, 1, none⟩ = some (.bool ea) := (blk_cell hP 1).trans rfl
    have cp2 : W'.cell? ⟨w.heap.size, 2, none⟩ = some (.int .u64 nd) := (blk_cell hP 2).trans rfl
    have cp3 : W'.cell? ⟨w.heap.size, 3, none⟩ = some (.bool s1) := (blk_cell hP 3).trans rfl
    have cp4 : W'.cell? ⟨w.heap.size, 4, none⟩ = some (.bool e1) := (blk_cell hP 4).trans rfl
    have cp5 : W'.cell? ⟨w.heap.size, 5, none⟩ = some (.int .u64 n1) := (blk_cell hP 5).trans rfl
    have cm0 : W'.cell? ⟨w.heap.size + 1, 0, none⟩ = some (.int .u8 rq) := (blk_cell hM 0).trans rfl
    have cm1 : W'.cell? ⟨w.heap.size + 1, 1, none⟩ = some (.bool bl) := (blk_cell hM 1).trans rfl
    have cm2 : W'.cell? ⟨w.heap.size + 1, 2, none⟩ = some (.bool true) := (blk_cell hM 2).trans rfl
    have cm3 : W'.cell? ⟨w.heap.size + 1, 3, none⟩ = some (.bool ea) := (blk_cell hM 3).trans rfl
    have cm4 : W'.cell? ⟨w.heap.size + 1, 4, none⟩ = some (.int .u64 nd) := (blk_cell hM 4).trans rfl
    have cr0 : W'.cell? ⟨w.heap.size + 1 + 1, 0, none⟩ = some (.bool false) := (blk_cell hR 0).trans rfl
    have cr1 : W'.cell? ⟨w.heap.size + 1 + 1, 1, none⟩ = some (.bool false) := (blk_cell hR 1).trans rfl
    have cr2 : W'.cell? ⟨w.heap.size + 1 + 1, 2, none⟩ = some (.int .u64 0) := (blk_cell hR 2).trans rfl
    have cr3 : W'.cell? ⟨w.heap.size + 1 + 1, 3, none⟩ = some (.bool false) := (blk_cell hR 3).trans rfl
    have cr4 : W'.cell? ⟨w.heap.size + 1 + 1, 4, none⟩ = some (.bool false) := (blk_cell hR 4).trans rfl
    have cr5 : W'.cell? ⟨w.heap.size + 1 + 1, 5, none⟩ = some (.int .u64 0) := (blk_cell hR 5).trans rfl
    have cx0 : W'.cell? ⟨w.heap.size + 1 + 1 + 1, 0, none⟩ = some (.bool true) := (blk_cell hX 0).trans rfl
    have cx1 : W'.cell? ⟨w.heap.size + 1 + 1 + 1, 1, none⟩ = some (.bool ea) := (blk_cell hX 1).trans rfl
    have cx2 : W'.cell? ⟨w.heap.size + 1 + 1 + 1, 2, none⟩ = some (.int .u64 nd) := (blk_cell hX 2).trans rfl
    have f0 := blk_frozen hR 0
    have f1 := blk_frozen hR 1
    have f2 := blk_frozen hR 2
    have f3 := blk_frozen hR 3
    have f4 := blk_frozen hR 4
    have f5 := blk_frozen hR 5
    have hlt := blk_lt hX
    go_region
    all_goals (try go_wp2)
    all_goals refine flush_Pairs_Hear.post_W (fun W3 hW3 => ?_)
    all_goals
      have hB3 : Below w.heap.size w W3 := by
        rw [hW3]
        repeat (with_reducible first | exact hBel | apply below_alloc | apply below_drew1 | apply pw_below_drewN | refine flush_Pairs_Hear.set_b ?_ (by simp; omega) _)
      have hR3 : W3.heap[w.heap.size + 1 + 1]? = some (.cells #[.bool true, .bool ea, .int .u64 nd, .bool s1, .bool e1, .int .u64 n1] 29 (0, 0)) := by
        rw [hW3]
        have hn_ := hR
        (with_reducible repeat (first | exact hn_ | refine blk_drewN ?_ _ | refine blk_drew ?_ | refine blk_alloc ?_ _))
        with_reducible refine blk_put (cs := #[.bool true, .bool ea, .int .u64 nd, .bool s1, .bool e1, .int .u64 0]) ?_ 5 _ rfl
        (with_reducible repeat (first | exact hn_ | refine blk_drewN ?_ _ | refine blk_drew ?_ | refine blk_alloc ?_ _))
        with_reducible refine blk_put (cs := #[.bool true, .bool ea, .int .u64 nd, .bool s1, .bool false, .int .u64 0]) ?_ 4 _ rfl
        (with_reducible repeat (first | exact hn_ | refine blk_drewN ?_ _ | refine blk_drew ?_ | refine blk_alloc ?_ _))
        with_reducible refine blk_put (cs := #[.bool true, .bool ea, .int .u64 nd, .bool false, .bool false, .int .u64 0]) ?_ 3 _ rfl
        (with_reducible repeat (first | exact hn_ | refine blk_drewN ?_ _ | refine blk_drew ?_ | refine blk_alloc ?_ _))
        with_reducible refine blk_put (cs := #[.bool true, .bool ea, .int .u64 0, .bool false, .bool false, .int .u64 0]) ?_ 2 _ rfl
        (with_reducible repeat (first | exact hn_ | refine blk_drewN ?_ _ | refine blk_drew ?_ | refine blk_alloc ?_ _))
        with_reducible refine blk_put (cs := #[.bool true, .bool false, .int .u64 0, .bool false, .bool false, .int .u64 0]) ?_ 1 _ rfl
        (with_reducible repeat (first | exact hn_ | refine blk_drewN ?_ _ | refine blk_drew ?_ | refine blk_alloc ?_ _))
        with_reducible refine blk_put (cs := #[.bool false, .bool false, .int .u64 0, .bool false, .bool false, .int .u64 0]) ?_ 0 _ rfl
        (with_reducible repeat (first | exact hn_ | refine blk_drewN ?_ _ | refine blk_drew ?_ | refine blk_alloc ?_ _))
      have z0 : W3.cell? ⟨w.heap.size + 1 + 1, 0, none⟩ = some (.bool true) := (blk_cell hR3 0).trans rfl
      have z1 : W3.cell? ⟨w.heap.size + 1 + 1, 1, none⟩ = some (.bool ea) := (blk_cell hR3 1).trans rfl
      have z2 : W3.cell? ⟨w.heap.size + 1 + 1, 2, none⟩ = some (.int .u64 nd) := (blk_cell hR3 2).trans rfl
      have z3 : W3.cell? ⟨w.heap.size + 1 + 1, 3, none⟩ = some (.bool s1) := (blk_cell hR3 3).trans rfl
      have z4 : W3.cell? ⟨w.heap.size + 1 + 1, 4, none⟩ = some (.bool e1) := (blk_cell hR3 4).trans rfl
      have z5 : W3.cell? ⟨w.heap.size + 1 + 1, 5, none⟩ = some (.int .u64 n1) := (blk_cell hR3 5).trans rfl
      exact bodyPost_ret (v := .tuple #[.agg #[.bool true, .bool ea, .int .u64 nd, .bool s1, .bool e1, .int .u64 n1], .bool (false)]) (by simp [results, Try.results6, go_sem, z0, z1, z2, z3, z4, z5]) rfl ⟨rfl, hB3⟩
  · go_enter Try.func6, Try.ntmps6
    go_wp2
    go_quiet (fail)
    go_wp2
    refine flush_Pairs_Hear.wp_W (fun W' hW' => ?_)
    have hBel : Below w.heap.size w W' := by
      rw [hW']
      repeat (with_reducible first | exact Below.refl _ _ | apply below_alloc | apply below_drew1 | apply pw_below_drewN | refine flush_Pairs_Hear.set_b ?_ (by simp) _)
    have hP : W'.heap[w.heap.size]? = some (.cells #[.bool true, .bool ea, .int .u64 nd, .bool s1, .bool e1, .int .u64 n1] 29 (0, 0)) := by
      rw [hW']
      have hn_ := blk_new w (.cells #[.bool s0, .bool e0, .int .u64 n0, .bool s1, .bool e1, .int .u64 n1] 29)
      try simp only [World.size_alloc] at hn_
      (with_reducible repeat (first | exact hn_ | refine blk_drewN ?_ _ | refine blk_drew ?_ | refine blk_alloc ?_ _))
      with_reducible refine blk_put (cs := #[.bool true, .bool ea, .int .u64 n0, .bool s1, .bool e1, .int .u64 n1]) ?_ 2 _ rfl
      (with_reducible repeat (first | exact hn_ | refine blk_drewN ?_ _ | refine blk_drew ?_ | refine blk_alloc ?_ _))
      with_reducible refine blk_put (cs := #[.bool true, .bool e0, .int .u64 n0, .bool s1, .bool e1, .int .u64 n1]) ?_ 1 _ rfl
      (with_reducible repeat (first | exact hn_ | refine blk_drewN ?_ _ | refine blk_drew ?_ | refine blk_alloc ?_ _))
      with_reducible refine blk_put (cs := #[.bool s0, .bool e0, .int .u64 n0, .bool s1, .bool e1, .int .u64 n1]) ?_ 0 _ rfl
      (with_reducible repeat (first | exact hn_ | refine blk_drewN ?_ _ | refine blk_drew ?_ | refine blk_alloc ?_ _))
    have hM : W'.heap[w.heap.size + 1]? = some (.cells #[.int .u8 0, .bool true, .bool true, .bool ea, .int .u64 nd] 35 (0, 0)) := by
      rw [hW']
      have hn_ := blk_new (w.alloc (.cells #[.bool s0, .bool e0, .int .u64 n0, .bool s1, .bool e1, .int .u64 n1] 29)) (.cells #[.int .u8 0, .bool true, .bool true, .bool ea, .int .u64 nd] 35)
      try simp only [World.size_alloc] at hn_
      (with_reducible repeat (first | exact hn_ | refine blk_drewN ?_ _ | refine blk_drew ?_ | refine blk_alloc ?_ _))
      with_reducible refine blk_far ?_ (by simp) _
      (with_reducible repeat (first | exact hn_ | refine blk_drewN ?_ _ | refine blk_drew ?_ | refine blk_alloc ?_ _))
      with_reducible refine blk_far ?_ (by simp) _
      (with_reducible repeat (first | exact hn_ | refine blk_drewN ?_ _ | refine blk_drew ?_ | refine blk_alloc ?_ _))
      with_reducible refine blk_far ?_ (by simp) _
      (with_reducible repeat (first | exact hn_ | refine blk_drewN ?_ _ | refine blk_drew ?_ | refine blk_alloc ?_ _))
    have hR : W'.heap[w.heap.size + 1 + 1]? = some (.cells #[.bool false, .bool false, .int .u64 0, .bool false, .bool false, .int .u64 0] 29 (0, 0)) := by
      rw [hW']
      have hn_ := blk_new ((w.alloc (.cells #[.bool s0, .bool e0, .int .u64 n0, .bool s1, .bool e1, .int .u64 n1] 29)).alloc (.cells #[.int .u8 0, .bool true, .bool true, .bool ea, .int .u64 nd] 35)) (.cells #[.bool false, .bool false, .int .u64 0, .bool false, .bool false, .int .u64 0] 29)
      try simp only [World.size_alloc] at hn_
      (with_reducible repeat (first | exact hn_ | refine blk_drewN ?_ _ | refine blk_drew ?_ | refine blk_alloc ?_ _))
      with_reducible refine blk_far ?_ (by simp; omega) _
      (with_reducible repeat (first | exact hn_ | refine blk_drewN ?_ _ | refine blk_drew ?_ | refine blk_alloc ?_ _))
      with_reducible refine blk_far ?_ (by simp; omega) _
      (with_reducible repeat (first | exact hn_ | refine blk_drewN ?_ _ | refine blk_drew ?_ | refine blk_alloc ?_ _))
      with_reducible refine blk_far ?_ (by simp; omega) _
      (with_reducible repeat (first | exact hn_ | refine blk_drewN ?_ _ | refine blk_drew ?_ | refine blk_alloc ?_ _))
    have hX : W'.heap[w.heap.size + 1 + 1 + 1]? = some (.cells #[.bool true, .bool ea, .int .u64 nd] 27 (0, 0)) := by
      rw [hW']
      have hn_ := blk_new (((w.alloc (.cells #[.bool s0, .bool e0, .int .u64 n0, .bool s1, .bool e1, .int .u64 n1] 29)).alloc (.cells #[.int .u8 0, .bool true, .bool true, .bool ea, .int .u64 nd] 35)).alloc (.cells #[.bool false, .bool false, .int .u64 0, .bool false, .bool false, .int .u64 0] 29)) (.cells #[.bool true, .bool ea, .int .u64 nd] 27)
      try simp only [World.size_alloc] at hn_
      (with_reducible repeat (first | exact hn_ | refine blk_drewN ?_ _ | refine blk_drew ?_ | refine blk_alloc ?_ _))
      with_reducible refine blk_far ?_ (by simp; omega) _
      (with_reducible repeat (first | exact hn_ | refine blk_drewN ?_ _ | refine blk_drew ?_ | refine blk_alloc ?_ _))
      with_reducible refine blk_far ?_ (by simp; omega) _
      (with_reducible repeat (first | exact hn_ | refine blk_drewN ?_ _ | refine blk_drew ?_ | refine blk_alloc ?_ _))
      with_reducible refine blk_far ?_ (by simp; omega) _
      (with_reducible repeat (first | exact hn_ | refine blk_drewN ?_ _ | refine blk_drew ?_ | refine blk_alloc ?_ _))
    clear hW'
    have cp0 : W'.cell? ⟨w.heap.size, 0, none⟩ = some (.bool true) := (blk_cell hP 0).trans rfl
    have cp1 : W'.cell? ⟨w.heap.size, 1, none⟩ = some (.bool ea) := (blk_cell hP 1).trans rfl
    have cp2 : W'.cell? ⟨w.heap.size, 2, none⟩ = some (.int .u64 nd) := (blk_cell hP 2).trans rfl
    have cp3 : W'.cell? ⟨w.heap.size, 3, none⟩ = some (.bool s1) := (blk_cell hP 3).trans rfl
    have cp4 : W'.cell? ⟨w.heap.size, 4, none⟩ = some (.bool e1) := (blk_cell hP 4).trans rfl
    have cp5 : W'.cell? ⟨w.heap.size, 5, none⟩ = some (.int .u64 n1) := (blk_cell hP 5).trans rfl
    have cm0 : W'.cell? ⟨w.heap.size + 1, 0, none⟩ = some (.int .u8 0) := (blk_cell hM 0).trans rfl
    have cm1 : W'.cell? ⟨w.heap.size + 1, 1, none⟩ = some (.bool true) := (blk_cell hM 1).trans rfl
    have cm2 : W'.cell? ⟨w.heap.size + 1, 2, none⟩ = some (.bool true) := (blk_cell hM 2).trans rfl
    have cm3 : W'.cell? ⟨w.heap.size + 1, 3, none⟩ = some (.bool ea) := (blk_cell hM 3).trans rfl
    have cm4 : W'.cell? ⟨w.heap.size + 1, 4, none⟩ = some (.int .u64 nd) := (blk_cell hM 4).trans rfl
    have cr0 : W'.cell? ⟨w.heap.size + 1 + 1, 0, none⟩ = some (.bool false) := (blk_cell hR 0).trans rfl
    have cr1 : W'.cell? ⟨w.heap.size + 1 + 1, 1, none⟩ = some (.bool false) := (blk_cell hR 1).trans rfl
    have cr2 : W'.cell? ⟨w.heap.size + 1 + 1, 2, none⟩ = some (.int .u64 0) := (blk_cell hR 2).trans rfl
    have cr3 : W'.cell? ⟨w.heap.size + 1 + 1, 3, none⟩ = some (.bool false) := (blk_cell hR 3).trans rfl
    have cr4 : W'.cell? ⟨w.heap.size + 1 + 1, 4, none⟩ = some (.bool false) := (blk_cell hR 4).trans rfl
    have cr5 : W'.cell? ⟨w.heap.size + 1 + 1, 5, none⟩ = some (.int .u64 0) := (blk_cell hR 5).trans rfl
    have cx0 : W'.cell? ⟨w.heap.size + 1 + 1 + 1, 0, none⟩ = some (.bool true) := (blk_cell hX 0).trans rfl
    have cx1 : W'.cell? ⟨w.heap.size + 1 + 1 + 1, 1, none⟩ = some (.bool ea) := (blk_cell hX 1).trans rfl
    have cx2 : W'.cell? ⟨w.heap.size + 1 + 1 + 1, 2, none⟩ = some (.int .u64 nd) := (blk_cell hX 2).trans rfl
    have f0 := blk_frozen hR 0
    have f1 := blk_frozen hR 1
    have f2 := blk_frozen hR 2
    have f3 := blk_frozen hR 3
    have f4 := blk_frozen hR 4
    have f5 := blk_frozen hR 5
    have hlt := blk_lt hX
    go_region
    all_goals (try go_wp2)
    all_goals refine flush_Pairs_Hear.post_W (fun W3 hW3 => ?_)
    all_goals
      have hB3 : Below w.heap.size w W3 := by
        rw [hW3]
        repeat (with_reducible first | exact hBel | apply below_alloc | apply below_drew1 | apply pw_below_drewN | refine flush_Pairs_Hear.set_b ?_ (by simp; omega) _)
      have hR3 : W3.heap[w.heap.size + 1 + 1]? = some (.cells #[.bool true, .bool ea, .int .u64 nd, .bool s1, .bool e1, .int .u64 n1] 29 (0, 0)) := by
        rw [hW3]
        have hn_ := hR
        (with_reducible repeat (first | exact hn_ | refine blk_drewN ?_ _ | refine blk_drew ?_ | refine blk_alloc ?_ _))
        with_reducible refine blk_put (cs := #[.bool true, .bool ea, .int .u64 nd, .bool s1, .bool e1, .int .u64 0]) ?_ 5 _ rfl
        (with_reducible repeat (first | exact hn_ | refine blk_drewN ?_ _ | refine blk_drew ?_ | refine blk_alloc ?_ _))
        with_reducible refine blk_put (cs := #[.bool true, .bool ea, .int .u64 nd, .bool s1, .bool false, .int .u64 0]) ?_ 4 _ rfl
        (with_reducible repeat (first | exact hn_ | refine blk_drewN ?_ _ | refine blk_drew ?_ | refine blk_alloc ?_ _))
        with_reducible refine blk_put (cs := #[.bool true, .bool ea, .int .u64 nd, .bool false, .bool false, .int .u64 0]) ?_ 3 _ rfl
        (with_reducible repeat (first | exact hn_ | refine blk_drewN ?_ _ | refine blk_drew ?_ | refine blk_alloc ?_ _))
        with_reducible refine blk_put (cs := #[.bool true, .bool ea, .int .u64 0, .bool false, .bool false, .int .u64 0]) ?_ 2 _ rfl
        (with_reducible repeat (first | exact hn_ | refine blk_drewN ?_ _ | refine blk_drew ?_ | refine blk_alloc ?_ _))
        with_reducible refine blk_put (cs := #[.bool true, .bool false, .int .u64 0, .bool false, .bool false, .int .u64 0]) ?_ 1 _ rfl
        (with_reducible repeat (first | exact hn_ | refine blk_drewN ?_ _ | refine blk_drew ?_ | refine blk_alloc ?_ _))
        with_reducible refine blk_put (cs := #[.bool false, .bool false, .int .u64 0, .bool false, .bool false, .int .u64 0]) ?_ 0 _ rfl
        (with_reducible repeat (first | exact hn_ | refine blk_drewN ?_ _ | refine blk_drew ?_ | refine blk_alloc ?_ _))
      have z0 : W3.cell? ⟨w.heap.size + 1 + 1, 0, none⟩ = some (.bool true) := (blk_cell hR3 0).trans rfl
      have z1 : W3.cell? ⟨w.heap.size + 1 + 1, 1, none⟩ = some (.bool ea) := (blk_cell hR3 1).trans rfl
      have z2 : W3.cell? ⟨w.heap.size + 1 + 1, 2, none⟩ = some (.int .u64 nd) := (blk_cell hR3 2).trans rfl
      have z3 : W3.cell? ⟨w.heap.size + 1 + 1, 3, none⟩ = some (.bool s1) := (blk_cell hR3 3).trans rfl
      have z4 : W3.cell? ⟨w.heap.size + 1 + 1, 4, none⟩ = some (.bool e1) := (blk_cell hR3 4).trans rfl
      have z5 : W3.cell? ⟨w.heap.size + 1 + 1, 5, none⟩ = some (.int .u64 n1) := (blk_cell hR3 5).trans rfl
      exact bodyPost_ret (v := .tuple #[.agg #[.bool true, .bool ea, .int .u64 nd, .bool s1, .bool e1, .int .u64 n1], .bool (false)]) (by simp [results, Try.results6, go_sem, z0, z1, z2, z3, z4, z5]) rfl ⟨rfl, hB3⟩
set_option maxHeartbeats 8000000 in
set_option maxRecDepth 100000 in
theorem flush_Pairs_Hear.d0f (s0 e0 : Bool) (n0 : Int) (s1 e1 : Bool) (n1 : Int) (rq : Int) (bl ea : Bool) (nd : Int) (w : World) (hW : (rq == 0) = false ∨ (rq = 0 ∧ bl = true)) (hE : (s0 && (e0 == ea && n0 == nd)) = false) :
    Calls Try.prog 6 #[.agg #[.bool s0, .bool e0, .int .u64 n0, .bool s1, .bool e1, .int .u64 n1], .int .i64 0, .agg #[.int .u8 rq, .bool bl, .bool false, .bool ea, .int .u64 nd]] w fun e w' =>
      e = .returned (.tuple #[.agg #[.bool true, .bool ea, .int .u64 nd, .bool s1, .bool e1, .int .u64 n1], .bool (!s1 || (!e1 == ea || !n1 == nd))]) ∧ Below w.heap.size w w' := by
  have huA := Try.underlying29
  have huP := Try.underlying27
  have hq := flush_Pairs_Hear.eqP
  rcases hW with hW | ⟨rfl, rfl⟩
  · go_enter Try.func6, Try.ntmps6
    go_wp2
    go_quiet (fail)
    go_wp2
    refine flush_Pairs_Hear.wp_W (fun W' hW' => ?_)
    have hBel : Below w.heap.size w W' := by
      rw [hW']
      repeat (with_reducible first | exact Below.refl _ _ | apply below_alloc | apply below_drew1 | apply pw_below_drewN | refine flush_Pairs_Hear.set_b ?_ (by simp) _)
    have hP : W'.heap[w.heap.size]? = some (.cells #[.bool true, .bool ea, .int .u64 nd, .bool s1, .bool e1, .int .u64 n1] 29 (0, 0)) := by
      rw [hW']
      have hn_ := blk_new w (.cells #[.bool s0, .bool e0, .int .u64 n0, .bool s1, .bool e1, .int .u64 n1] 29)
      try simp only [World.size_alloc] at hn_
      (with_reducible repeat (first | exact hn_ | refine blk_drewN ?_ _ | refine blk_drew ?_ | refine blk_alloc ?_ _))
      with_reducible refine blk_put (cs := #[.bool true, .bool ea, .int .u64 n0, .bool s1, .bool e1, .int .u64 n1]) ?_ 2 _ rfl
      (with_reducible repeat (first | exact hn_ | refine blk_drewN ?_ _ | refine blk_drew ?_ | refine blk_alloc ?_ _))
      with_reducible refine blk_put (cs := #[.bool true, .bool e0, .int .u64 n0, .bool s1, .bool e1, .int .u64 n1]) ?_ 1 _ rfl
      (with_reducible repeat (first | exact hn_ | refine blk_drewN ?_ _ | refine blk_drew ?_ | refine blk_alloc ?_ _))
      with_reducible refine blk_put (cs := #[.bool s0, .bool e0, .int .u64 n0, .bool s1, .bool e1, .int .u64 n1]) ?_ 0 _ rfl
      (with_reducible repeat (first | exact hn_ | refine blk_drewN ?_ _ | refine blk_drew ?_ | refine blk_alloc ?_ _))
    have hM : W'.heap[w.heap.size + 1]? = some (.cells #[.int .u8 rq, .bool bl, .bool false, .bool ea, .int .u64 nd] 35 (0, 0)) := by
      rw [hW']
      have hn_ := blk_new (w.alloc (.cells #[.bool s0, .bool e0, .int .u64 n0, .bool s1, .bool e1, .int .u64 n1] 29)) (.cells #[.int .u8 rq, .bool bl, .bool false, .bool ea, .int .u64 nd] 35)
      try simp only [World.size_alloc] at hn_
      (with_reducible repeat (first | exact hn_ | refine blk_drewN ?_ _ | refine blk_drew ?_ | refine blk_alloc ?_ _))
      with_reducible refine blk_far ?_ (by simp) _
      (with_reducible repeat (first | exact hn_ | refine blk_drewN ?_ _ | refine blk_drew ?_ | refine blk_alloc ?_ _))
      with_reducible refine blk_far ?_ (by simp) _
      (with_reducible repeat (first | exact hn_ | refine blk_drewN ?_ _ | refine blk_drew ?_ | refine blk_alloc ?_ _))
      with_reducible refine blk_far ?_ (by simp) _
      (with_reducible repeat (first | exact hn_ | refine blk_drewN ?_ _ | refine blk_drew ?_ | refine blk_alloc ?_ _))
    have hR : W'.heap[w.heap.size + 1 + 1]? = some (.cells #[.bool false, .bool false, .int .u64 0, .bool false, .bool false, .int .u64 0] 29 (0, 0)) := by
      rw [hW']
      have hn_ := blk_new ((w.alloc (.cells #[.bool s0, .bool e0, .int .u64 n0, .bool s1, .bool e1, .int .u64 n1] 29)).alloc (.cells #[.int .u8 rq, .bool bl, .bool false, .bool ea, .int .u64 nd] 35)) (.cells #[.bool false, .bool false, .int .u64 0, .bool false, .bool false, .int .u64 0] 29)
      try simp only [World.size_alloc] at hn_
      (with_reducible repeat (first | exact hn_ | refine blk_drewN ?_ _ | refine blk_drew ?_ | refine blk_alloc ?_ _))
      with_reducible refine blk_far ?_ (by simp; omega) _
      (with_reducible repeat (first | exact hn_ | refine blk_drewN ?_ _ | refine blk_drew ?_ | refine blk_alloc ?_ _))
      with_reducible refine blk_far ?_ (by simp; omega) _
      (with_reducible repeat (first | exact hn_ | refine blk_drewN ?_ _ | refine blk_drew ?_ | refine blk_alloc ?_ _))
      with_reducible refine blk_far ?_ (by simp; omega) _
      (with_reducible repeat (first | exact hn_ | refine blk_drewN ?_ _ | refine blk_drew ?_ | refine blk_alloc ?_ _))
    have hX : W'.heap[w.heap.size + 1 + 1 + 1]? = some (.cells #[.bool true, .bool ea, .int .u64 nd] 27 (0, 0)) := by
      rw [hW']
      have hn_ := blk_new (((w.alloc (.cells #[.bool s0, .bool e0, .int .u64 n0, .bool s1, .bool e1, .int .u64 n1] 29)).alloc (.cells #[.int .u8 rq, .bool bl, .bool false, .bool ea, .int .u64 nd] 35)).alloc (.cells #[.bool false, .bool false, .int .u64 0, .bool false, .bool false, .int .u64 0] 29)) (.cells #[.bool true, .bool ea, .int .u64 nd] 27)
      try simp only [World.size_alloc] at hn_
      (with_reducible repeat (first | exact hn_ | refine blk_drewN ?_ _ | refine blk_drew ?_ | refine blk_alloc ?_ _))
      with_reducible refine blk_far ?_ (by simp; omega) _
      (with_reducible repeat (first | exact hn_ | refine blk_drewN ?_ _ | refine blk_drew ?_ | refine blk_alloc ?_ _))
      with_reducible refine blk_far ?_ (by simp; omega) _
      (with_reducible repeat (first | exact hn_ | refine blk_drewN ?_ _ | refine blk_drew ?_ | refine blk_alloc ?_ _))
      with_reducible refine blk_far ?_ (by simp; omega) _
      (with_reducible repeat (first | exact hn_ | refine blk_drewN ?_ _ | refine blk_drew ?_ | refine blk_alloc ?_ _))
    clear hW'
    have cp0 : W'.cell? ⟨w.heap.size, 0, none⟩ = some (.bool true) := (blk_cell hP 0).trans rfl
    have cp1 : W'.cell? ⟨w.heap.size, 1, none⟩ = some (.bool ea) := (blk_cell hP 1).trans rfl
    have cp2 : W'.cell? ⟨w.heap.size, 2, none⟩ = some (.int .u64 nd) := (blk_cell hP 2).trans rfl
    have cp3 : W'.cell? ⟨w.heap.size, 3, none⟩ = some (.bool s1) := (blk_cell hP 3).trans rfl
    have cp4 : W'.cell? ⟨w.heap.size, 4, none⟩ = some (.bool e1) := (blk_cell hP 4).trans rfl
    have cp5 : W'.cell? ⟨w.heap.size, 5, none⟩ = some (.int .u64 n1) := (blk_cell hP 5).trans rfl
    have cm0 : W'.cell? ⟨w.heap.size + 1, 0, none⟩ = some (.int .u8 rq) := (blk_cell hM 0).trans rfl
    have cm1 : W'.cell? ⟨w.heap.size + 1, 1, none⟩ = some (.bool bl) := (blk_cell hM 1).trans rfl
    have cm2 : W'.cell? ⟨w.heap.size + 1, 2, none⟩ = some (.bool false) := (blk_cell hM 2).trans rfl
    have cm3 : W'.cell? ⟨w.heap.size + 1, 3, none⟩ = some (.bool ea) := (blk_cell hM 3).trans rfl
    have cm4 : W'.cell? ⟨w.heap.size + 1, 4, none⟩ = some (.int .u64 nd) := (blk_cell hM 4).trans rfl
    have cr0 : W'.cell? ⟨w.heap.size + 1 + 1, 0, none⟩ = some (.bool false) := (blk_cell hR 0).trans rfl
    have cr1 : W'.cell? ⟨w.heap.size + 1 + 1, 1, none⟩ = some (.bool false) := (blk_cell hR 1).trans rfl
    have cr2 : W'.cell? ⟨w.heap.size + 1 + 1, 2, none⟩ = some (.int .u64 0) := (blk_cell hR 2).trans rfl
    have cr3 : W'.cell? ⟨w.heap.size + 1 + 1, 3, none⟩ = some (.bool false) := (blk_cell hR 3).trans rfl
    have cr4 : W'.cell? ⟨w.heap.size + 1 + 1, 4, none⟩ = some (.bool false) := (blk_cell hR 4).trans rfl
    have cr5 : W'.cell? ⟨w.heap.size + 1 + 1, 5, none⟩ = some (.int .u64 0) := (blk_cell hR 5).trans rfl
    have cx0 : W'.cell? ⟨w.heap.size + 1 + 1 + 1, 0, none⟩ = some (.bool true) := (blk_cell hX 0).trans rfl
    have cx1 : W'.cell? ⟨w.heap.size + 1 + 1 + 1, 1, none⟩ = some (.bool ea) := (blk_cell hX 1).trans rfl
    have cx2 : W'.cell? ⟨w.heap.size + 1 + 1 + 1, 2, none⟩ = some (.int .u64 nd) := (blk_cell hX 2).trans rfl
    have f0 := blk_frozen hR 0
    have f1 := blk_frozen hR 1
    have f2 := blk_frozen hR 2
    have f3 := blk_frozen hR 3
    have f4 := blk_frozen hR 4
    have f5 := blk_frozen hR 5
    have hlt := blk_lt hX
    go_region
    all_goals (try go_wp2)
    all_goals refine flush_Pairs_Hear.post_W (fun W3 hW3 => ?_)
    all_goals
      have hB3 : Below w.heap.size w W3 := by
        rw [hW3]
        repeat (with_reducible first | exact hBel | apply below_alloc | apply below_drew1 | apply pw_below_drewN | refine flush_Pairs_Hear.set_b ?_ (by simp; omega) _)
      have hR3 : W3.heap[w.heap.size + 1 + 1]? = some (.cells #[.bool true, .bool ea, .int .u64 nd, .bool s1, .bool e1, .int .u64 n1] 29 (0, 0)) := by
        rw [hW3]
        have hn_ := hR
        (with_reducible repeat (first | exact hn_ | refine blk_drewN ?_ _ | refine blk_drew ?_ | refine blk_alloc ?_ _))
        with_reducible refine blk_put (cs := #[.bool true, .bool ea, .int .u64 nd, .bool s1, .bool e1, .int .u64 0]) ?_ 5 _ rfl
        (with_reducible repeat (first | exact hn_ | refine blk_drewN ?_ _ | refine blk_drew ?_ | refine blk_alloc ?_ _))
        with_reducible refine blk_put (cs := #[.bool true, .bool ea, .int .u64 nd, .bool s1, .bool false, .int .u64 0]) ?_ 4 _ rfl
        (with_reducible repeat (first | exact hn_ | refine blk_drewN ?_ _ | refine blk_drew ?_ | refine blk_alloc ?_ _))
        with_reducible refine blk_put (cs := #[.bool true, .bool ea, .int .u64 nd, .bool false, .bool false, .int .u64 0]) ?_ 3 _ rfl
        (with_reducible repeat (first | exact hn_ | refine blk_drewN ?_ _ | refine blk_drew ?_ | refine blk_alloc ?_ _))
        with_reducible refine blk_put (cs := #[.bool true, .bool ea, .int .u64 0, .bool false, .bool false, .int .u64 0]) ?_ 2 _ rfl
        (with_reducible repeat (first | exact hn_ | refine blk_drewN ?_ _ | refine blk_drew ?_ | refine blk_alloc ?_ _))
        with_reducible refine blk_put (cs := #[.bool true, .bool false, .int .u64 0, .bool false, .bool false, .int .u64 0]) ?_ 1 _ rfl
        (with_reducible repeat (first | exact hn_ | refine blk_drewN ?_ _ | refine blk_drew ?_ | refine blk_alloc ?_ _))
        with_reducible refine blk_put (cs := #[.bool false, .bool false, .int .u64 0, .bool false, .bool false, .int .u64 0]) ?_ 0 _ rfl
        (with_reducible repeat (first | exact hn_ | refine blk_drewN ?_ _ | refine blk_drew ?_ | refine blk_alloc ?_ _))
      have z0 : W3.cell? ⟨w.heap.size + 1 + 1, 0, none⟩ = some (.bool true) := (blk_cell hR3 0).trans rfl
      have z1 : W3.cell? ⟨w.heap.size + 1 + 1, 1, none⟩ = some (.bool ea) := (blk_cell hR3 1).trans rfl
      have z2 : W3.cell? ⟨w.heap.size + 1 + 1, 2, none⟩ = some (.int .u64 nd) := (blk_cell hR3 2).trans rfl
      have z3 : W3.cell? ⟨w.heap.size + 1 + 1, 3, none⟩ = some (.bool s1) := (blk_cell hR3 3).trans rfl
      have z4 : W3.cell? ⟨w.heap.size + 1 + 1, 4, none⟩ = some (.bool e1) := (blk_cell hR3 4).trans rfl
      have z5 : W3.cell? ⟨w.heap.size + 1 + 1, 5, none⟩ = some (.int .u64 n1) := (blk_cell hR3 5).trans rfl
      exact bodyPost_ret (v := .tuple #[.agg #[.bool true, .bool ea, .int .u64 nd, .bool s1, .bool e1, .int .u64 n1], .bool (!s1 || (!e1 == ea || !n1 == nd))]) (by simp [results, Try.results6, go_sem, z0, z1, z2, z3, z4, z5]) rfl ⟨rfl, hB3⟩
  · go_enter Try.func6, Try.ntmps6
    go_wp2
    go_quiet (fail)
    go_wp2
    refine flush_Pairs_Hear.wp_W (fun W' hW' => ?_)
    have hBel : Below w.heap.size w W' := by
      rw [hW']
      repeat (with_reducible first | exact Below.refl _ _ | apply below_alloc | apply below_drew1 | apply pw_below_drewN | refine flush_Pairs_Hear.set_b ?_ (by simp) _)
    have hP : W'.heap[w.heap.size]? = some (.cells #[.bool true, .bool ea, .int .u64 nd, .bool s1, .bool e1, .int .u64 n1] 29 (0, 0)) := by
      rw [hW']
      have hn_ := blk_new w (.cells #[.bool s0, .bool e0, .int .u64 n0, .bool s1, .bool e1, .int .u64 n1] 29)
      try simp only [World.size_alloc] at hn_
      (with_reducible repeat (first | exact hn_ | refine blk_drewN ?_ _ | refine blk_drew ?_ | refine blk_alloc ?_ _))
      with_reducible refine blk_put (cs := #[.bool true, .bool ea, .int .u64 n0, .bool s1, .bool e1, .int .u64 n1]) ?_ 2 _ rfl
      (with_reducible repeat (first | exact hn_ | refine blk_drewN ?_ _ | refine blk_drew ?_ | refine blk_alloc ?_ _))
      with_reducible refine blk_put (cs := #[.bool true, .bool e0, .int .u64 n0, .bool s1, .bool e1, .int .u64 n1]) ?_ 1 _ rfl
      (with_reducible repeat (first | exact hn_ | refine blk_drewN ?_ _ | refine blk_drew ?_ | refine blk_alloc ?_ _))
      with_reducible refine blk_put (cs := #[.bool s0, .bool e0, .int .u64 n0, .bool s1, .bool e1, .int .u64 n1]) ?_ 0 _ rfl
      (with_reducible repeat (first | exact hn_ | refine blk_drewN ?_ _ | refine blk_drew ?_ | refine blk_alloc ?_ _))
    have hM : W'.heap[w.heap.size + 1]? = some (.cells #[.int .u8 0, .bool true, .bool false, .bool ea, .int .u64 nd] 35 (0, 0)) := by
      rw [hW']
      have hn_ := blk_new (w.alloc (.cells #[.bool s0, .bool e0, .int .u64 n0, .bool s1, .bool e1, .int .u64 n1] 29)) (.cells #[.int .u8 0, .bool true, .bool false, .bool ea, .int .u64 nd] 35)
      try simp only [World.size_alloc] at hn_
      (with_reducible repeat (first | exact hn_ | refine blk_drewN ?_ _ | refine blk_drew ?_ | refine blk_alloc ?_ _))
      with_reducible refine blk_far ?_ (by simp) _
      (with_reducible repeat (first | exact hn_ | refine blk_drewN ?_ _ | refine blk_drew ?_ | refine blk_alloc ?_ _))
      with_reducible refine blk_far ?_ (by simp) _
      (with_reducible repeat (first | exact hn_ | refine blk_drewN ?_ _ | refine blk_drew ?_ | refine blk_alloc ?_ _))
      with_reducible refine blk_far ?_ (by simp) _
      (with_reducible repeat (first | exact hn_ | refine blk_drewN ?_ _ | refine blk_drew ?_ | refine blk_alloc ?_ _))
    have hR : W'.heap[w.heap.size + 1 + 1]? = some (.cells #[.bool false, .bool false, .int .u64 0, .bool false, .bool false, .int .u64 0] 29 (0, 0)) := by
      rw [hW']
      have hn_ := blk_new ((w.alloc (.cells #[.bool s0, .bool e0, .int .u64 n0, .bool s1, .bool e1, .int .u64 n1] 29)).alloc (.cells #[.int .u8 0, .bool true, .bool false, .bool ea, .int .u64 nd] 35)) (.cells #[.bool false, .bool false, .int .u64 0, .bool false, .bool false, .int .u64 0] 29)
      try simp only [World.size_alloc] at hn_
      (with_reducible repeat (first | exact hn_ | refine blk_drewN ?_ _ | refine blk_drew ?_ | refine blk_alloc ?_ _))
      with_reducible refine blk_far ?_ (by simp; omega) _
      (with_reducible repeat (first | exact hn_ | refine blk_drewN ?_ _ | refine blk_drew ?_ | refine blk_alloc ?_ _))
      with_reducible refine blk_far ?_ (by simp; omega) _
      (with_reducible repeat (first | exact hn_ | refine blk_drewN ?_ _ | refine blk_drew ?_ | refine blk_alloc ?_ _))
      with_reducible refine blk_far ?_ (by simp; omega) _
      (with_reducible repeat (first | exact hn_ | refine blk_drewN ?_ _ | refine blk_drew ?_ | refine blk_alloc ?_ _))
    have hX : W'.heap[w.heap.size + 1 + 1 + 1]? = some (.cells #[.bool true, .bool ea, .int .u64 nd] 27 (0, 0)) := by
      rw [hW']
      have hn_ := blk_new (((w.alloc (.cells #[.bool s0, .bool e0, .int .u64 n0, .bool s1, .bool e1, .int .u64 n1] 29)).alloc (.cells #[.int .u8 0, .bool true, .bool false, .bool ea, .int .u64 nd] 35)).alloc (.cells #[.bool false, .bool false, .int .u64 0, .bool false, .bool false, .int .u64 0] 29)) (.cells #[.bool true, .bool ea, .int .u64 nd] 27)
      try simp only [World.size_alloc] at hn_
      (with_reducible repeat (first | exact hn_ | refine blk_drewN ?_ _ | refine blk_drew ?_ | refine blk_alloc ?_ _))
      with_reducible refine blk_far ?_ (by simp; omega) _
      (with_reducible repeat (first | exact hn_ | refine blk_drewN ?_ _ | refine blk_drew ?_ | refine blk_alloc ?_ _))
      with_reducible refine blk_far ?_ (by simp; omega) _
      (with_reducible repeat (first | exact hn_ | refine blk_drewN ?_ _ | refine blk_drew ?_ | refine blk_alloc ?_ _))
      with_reducible refine blk_far ?_ (by simp; omega) _
      (with_reducible repeat (first | exact hn_ | refine blk_drewN ?_ _ | refine blk_drew ?_ | refine blk_alloc ?_ _))
    clear hW'
    have cp0 : W'.cell? ⟨w.heap.size, 0, none⟩ = some (.bool true) := (blk_cell hP 0).trans rfl
    have cp1 : W'.cell? ⟨w.heap.size, 1, none⟩ = some (.bool ea) := (blk_cell hP 1).trans rfl
    have cp2 : W'.cell? ⟨w.heap.size, 2, none⟩ = some (.int .u64 nd) := (blk_cell hP 2).trans rfl
    have cp3 : W'.cell? ⟨w.heap.size, 3, none⟩ = some (.bool s1) := (blk_cell hP 3).trans rfl
    have cp4 : W'.cell? ⟨w.heap.size, 4, none⟩ = some (.bool e1) := (blk_cell hP 4).trans rfl
    have cp5 : W'.cell? ⟨w.heap.size, 5, none⟩ = some (.int .u64 n1) := (blk_cell hP 5).trans rfl
    have cm0 : W'.cell? ⟨w.heap.size + 1, 0, none⟩ = some (.int .u8 0) := (blk_cell hM 0).trans rfl
    have cm1 : W'.cell? ⟨w.heap.size + 1, 1, none⟩ = some (.bool true) := (blk_cell hM 1).trans rfl
    have cm2 : W'.cell? ⟨w.heap.size + 1, 2, none⟩ = some (.bool false) := (blk_cell hM 2).trans rfl
    have cm3 : W'.cell? ⟨w.heap.size + 1, 3, none⟩ = some (.bool ea) := (blk_cell hM 3).trans rfl
    have cm4 : W'.cell? ⟨w.heap.size + 1, 4, none⟩ = some (.int .u64 nd) := (blk_cell hM 4).trans rfl
    have cr0 : W'.cell? ⟨w.heap.size + 1 + 1, 0, none⟩ = some (.bool false) := (blk_cell hR 0).trans rfl
    have cr1 : W'.cell? ⟨w.heap.size + 1 + 1, 1, none⟩ = some (.bool false) := (blk_cell hR 1).trans rfl
    have cr2 : W'.cell? ⟨w.heap.size + 1 + 1, 2, none⟩ = some (.int .u64 0) := (blk_cell hR 2).trans rfl
    have cr3 : W'.cell? ⟨w.heap.size + 1 + 1, 3, none⟩ = some (.bool false) := (blk_cell hR 3).trans rfl
    have cr4 : W'.cell? ⟨w.heap.size + 1 + 1, 4, none⟩ = some (.bool false) := (blk_cell hR 4).trans rfl
    have cr5 : W'.cell? ⟨w.heap.size + 1 + 1, 5, none⟩ = some (.int .u64 0) := (blk_cell hR 5).trans rfl
    have cx0 : W'.cell? ⟨w.heap.size + 1 + 1 + 1, 0, none⟩ = some (.bool true) := (blk_cell hX 0).trans rfl
    have cx1 : W'.cell? ⟨w.heap.size + 1 + 1 + 1, 1, none⟩ = some (.bool ea) := (blk_cell hX 1).trans rfl
    have cx2 : W'.cell? ⟨w.heap.size + 1 + 1 + 1, 2, none⟩ = some (.int .u64 nd) := (blk_cell hX 2).trans rfl
    have f0 := blk_frozen hR 0
    have f1 := blk_frozen hR 1
    have f2 := blk_frozen hR 2
    have f3 := blk_frozen hR 3
    have f4 := blk_frozen hR 4
    have f5 := blk_frozen hR 5
    have hlt := blk_lt hX
    go_region
    all_goals (try go_wp2)
    all_goals refine flush_Pairs_Hear.post_W (fun W3 hW3 => ?_)
    all_goals
      have hB3 : Below w.heap.size w W3 := by
        rw [hW3]
        repeat (with_reducible first | exact hBel | apply below_alloc | apply below_drew1 | apply pw_below_drewN | refine flush_Pairs_Hear.set_b ?_ (by simp; omega) _)
      have hR3 : W3.heap[w.heap.size + 1 + 1]? = some (.cells #[.bool true, .bool ea, .int .u64 nd, .bool s1, .bool e1, .int .u64 n1] 29 (0, 0)) := by
        rw [hW3]
        have hn_ := hR
        (with_reducible repeat (first | exact hn_ | refine blk_drewN ?_ _ | refine blk_drew ?_ | refine blk_alloc ?_ _))
        with_reducible refine blk_put (cs := #[.bool true, .bool ea, .int .u64 nd, .bool s1, .bool e1, .int .u64 0]) ?_ 5 _ rfl
        (with_reducible repeat (first | exact hn_ | refine blk_drewN ?_ _ | refine blk_drew ?_ | refine blk_alloc ?_ _))
        with_reducible refine blk_put (cs := #[.bool true, .bool ea, .int .u64 nd, .bool s1, .bool false, .int .u64 0]) ?_ 4 _ rfl
        (with_reducible repeat (first | exact hn_ | refine blk_drewN ?_ _ | refine blk_drew ?_ | refine blk_alloc ?_ _))
        with_reducible refine blk_put (cs := #[.bool true, .bool ea, .int .u64 nd, .bool false, .bool false, .int .u64 0]) ?_ 3 _ rfl
        (with_reducible repeat (first | exact hn_ | refine blk_drewN ?_ _ | refine blk_drew ?_ | refine blk_alloc ?_ _))
        with_reducible refine blk_put (cs := #[.bool true, .bool ea, .int .u64 0, .bool false, .bool false, .int .u64 0]) ?_ 2 _ rfl
        (with_reducible repeat (first | exact hn_ | refine blk_drewN ?_ _ | refine blk_drew ?_ | refine blk_alloc ?_ _))
        with_reducible refine blk_put (cs := #[.bool true, .bool false, .int .u64 0, .bool false, .bool false, .int .u64 0]) ?_ 1 _ rfl
        (with_reducible repeat (first | exact hn_ | refine blk_drewN ?_ _ | refine blk_drew ?_ | refine blk_alloc ?_ _))
        with_reducible refine blk_put (cs := #[.bool false, .bool false, .int .u64 0, .bool false, .bool false, .int .u64 0]) ?_ 0 _ rfl
        (with_reducible repeat (first | exact hn_ | refine blk_drewN ?_ _ | refine blk_drew ?_ | refine blk_alloc ?_ _))
      have z0 : W3.cell? ⟨w.heap.size + 1 + 1, 0, none⟩ = some (.bool true) := (blk_cell hR3 0).trans rfl
      have z1 : W3.cell? ⟨w.heap.size + 1 + 1, 1, none⟩ = some (.bool ea) := (blk_cell hR3 1).trans rfl
      have z2 : W3.cell? ⟨w.heap.size + 1 + 1, 2, none⟩ = some (.int .u64 nd) := (blk_cell hR3 2).trans rfl
      have z3 : W3.cell? ⟨w.heap.size + 1 + 1, 3, none⟩ = some (.bool s1) := (blk_cell hR3 3).trans rfl
      have z4 : W3.cell? ⟨w.heap.size + 1 + 1, 4, none⟩ = some (.bool e1) := (blk_cell hR3 4).trans rfl
      have z5 : W3.cell? ⟨w.heap.size + 1 + 1, 5, none⟩ = some (.int .u64 n1) := (blk_cell hR3 5).trans rfl
      exact bodyPost_ret (v := .tuple #[.agg #[.bool true, .bool ea, .int .u64 nd, .bool s1, .bool e1, .int .u64 n1], .bool (!s1 || (!e1 == ea || !n1 == nd))]) (by simp [results, Try.results6, go_sem, z0, z1, z2, z3, z4, z5]) rfl ⟨rfl, hB3⟩
set_option maxHeartbeats 8000000 in
set_option maxRecDepth 100000 in
theorem flush_Pairs_Hear.w1 (s0 e0 : Bool) (n0 : Int) (s1 e1 : Bool) (n1 : Int) (kp ea : Bool) (nd : Int) (w : World) :
    Calls Try.prog 6 #[.agg #[.bool s0, .bool e0, .int .u64 n0, .bool s1, .bool e1, .int .u64 n1], .int .i64 1, .agg #[.int .u8 0, .bool false, .bool kp, .bool ea, .int .u64 nd]] w fun e w' =>
      e = .returned (.tuple #[.agg #[.bool s0, .bool e0, .int .u64 n0, .bool false, .bool false, .int .u64 0], .bool (false)]) ∧ Below w.heap.size w w' := by
  have huA := Try.underlying29
  have huP := Try.underlying27
  have hq := flush_Pairs_Hear.eqP
  go_enter Try.func6, Try.ntmps6
  go_wp2
  exact bodyPost_ret (v := .tuple #[.agg #[.bool s0, .bool e0, .int .u64 n0, .bool false, .bool false, .int .u64 0], .bool (false)]) (by simp [results, Try.results6, go_sem]) rfl ⟨rfl, by repeat (with_reducible first | exact Below.refl _ _ | apply below_alloc | apply below_drew1 | apply pw_below_drewN | refine flush_Pairs_Hear.set_b ?_ (by simp) _)⟩
set_option maxHeartbeats 8000000 in
set_option maxRecDepth 100000 in
theorem flush_Pairs_Hear.s1 (s0 e0 : Bool) (n0 : Int) (s1 e1 : Bool) (n1 : Int) (rq : Int) (bl kp ea : Bool) (nd : Int) (w : World) (hW : (rq == 0) = false ∨ (rq = 0 ∧ bl = true)) (hE : (s1 && (e1 == ea && n1 == nd)) = true) :
    Calls Try.prog 6 #[.agg #[.bool s0, .bool e0, .int .u64 n0, .bool s1, .bool e1, .int .u64 n1], .int .i64 1, .agg #[.int .u8 rq, .bool bl, .bool kp, .bool ea, .int .u64 nd]] w fun e w' =>
      e = .returned (.tuple #[.agg #[.bool s0, .bool e0, .int .u64 n0, .bool s1, .bool e1, .int .u64 n1], .bool (false)]) ∧ Below w.heap.size w w' := by
  have huA := Try.underlying29
  have huP := Try.underlying27
  have hq := flush_Pairs_Hear.eqP
  rcases hW with hW | ⟨rfl, rfl⟩
  all_goals
    go_enter Try.func6, Try.ntmps6
    go_wp2
    go_quiet (fail)
    go_wp2
    all_goals
      refine flush_Pairs_Hear.post_W (fun W3 hW3 => ?_)
      have hB3 : Below w.heap.size w W3 := by
        rw [hW3]
        repeat (with_reducible first | exact Below.refl _ _ | apply below_alloc | apply below_drew1 | apply pw_below_drewN | refine flush_Pairs_Hear.set_b ?_ (by simp; omega) _)
      have hR3 : W3.heap[w.heap.size + 1 + 1]? = some (.cells #[.bool s0, .bool e0, .int .u64 n0, .bool s1, .bool e1, .int .u64 n1] 29 (0, 0)) := by
        rw [hW3]
        first
        | (have hn_ := blk_new ((w.alloc (.cells #[.bool s0, .bool e0, .int .u64 n0, .bool s1, .bool e1, .int .u64 n1] 29)).alloc (.cells #[.int .u8 rq, .bool bl, .bool kp, .bool ea, .int .u64 nd] 35)) (.cells #[.bool false, .bool false, .int .u64 0, .bool false, .bool false, .int .u64 0] 29); try simp only [World.size_alloc] at hn_; (with_reducible repeat (first | exact hn_ | refine blk_drewN ?_ _ | refine blk_drew ?_ | refine blk_alloc ?_ _)); with_reducible refine blk_put (cs := #[.bool s0, .bool e0, .int .u64 n0, .bool s1, .bool e1, .int .u64 0]) ?_ 5 _ rfl; (with_reducible repeat (first | exact hn_ | refine blk_drewN ?_ _ | refine blk_drew ?_ | refine blk_alloc ?_ _)); with_reducible refine blk_put (cs := #[.bool s0, .bool e0, .int .u64 n0, .bool s1, .bool false, .int .u64 0]) ?_ 4 _ rfl; (with_reducible repeat (first | exact hn_ | refine blk_drewN ?_ _ | refine blk_drew ?_ | refine blk_alloc ?_ _)); with_reducible refine blk_put (cs := #[.bool s0, .bool e0, .int .u64 n0, .bool false, .bool false, .int .u64 0]) ?_ 3 _ rfl; (with_reducible repeat (first | exact hn_ | refine blk_drewN ?_ _ | refine blk_drew ?_ | refine blk_alloc ?_ _)); with_reducible refine blk_put (cs := #[.bool s0, .bool e0, .int .u64 0, .bool false, .bool false, .int .u64 0]) ?_ 2 _ rfl; (with_reducible repeat (first | exact hn_ | refine blk_drewN ?_ _ | refine blk_drew ?_ | refine blk_alloc ?_ _)); with_reducible refine blk_put (cs := #[.bool s0, .bool false, .int .u64 0, .bool false, .bool false, .int .u64 0]) ?_ 1 _ rfl; (with_reducible repeat (first | exact hn_ | refine blk_drewN ?_ _ | refine blk_drew ?_ | refine blk_alloc ?_ _)); with_reducible refine blk_put (cs := #[.bool false, .bool false, .int .u64 0, .bool false, .bool false, .int .u64 0]) ?_ 0 _ rfl; (with_reducible repeat (first | exact hn_ | refine blk_drewN ?_ _ | refine blk_drew ?_ | refine blk_alloc ?_ _)); done)
        | (have hn_ := blk_new ((w.alloc (.cells #[.bool s0, .bool e0, .int .u64 n0, .bool s1, .bool e1, .int .u64 n1] 29)).alloc (.cells #[.int .u8 0, .bool true, .bool kp, .bool ea, .int .u64 nd] 35)) (.cells #[.bool false, .bool false, .int .u64 0, .bool false, .bool false, .int .u64 0] 29); try simp only [World.size_alloc] at hn_; (with_reducible repeat (first | exact hn_ | refine blk_drewN ?_ _ | refine blk_drew ?_ | refine blk_alloc ?_ _)); with_reducible refine blk_put (cs := #[.bool s0, .bool e0, .int .u64 n0, .bool s1, .bool e1, .int .u64 0]) ?_ 5 _ rfl; (with_reducible repeat (first | exact hn_ | refine blk_drewN ?_ _ | refine blk_drew ?_ | refine blk_alloc ?_ _)); with_reducible refine blk_put (cs := #[.bool s0, .bool e0, .int .u64 n0, .bool s1, .bool false, .int .u64 0]) ?_ 4 _ rfl; (with_reducible repeat (first | exact hn_ | refine blk_drewN ?_ _ | refine blk_drew ?_ | refine blk_alloc ?_ _)); with_reducible refine blk_put (cs := #[.bool s0, .bool e0, .int .u64 n0, .bool false, .bool false, .int .u64 0]) ?_ 3 _ rfl; (with_reducible repeat (first | exact hn_ | refine blk_drewN ?_ _ | refine blk_drew ?_ | refine blk_alloc ?_ _)); with_reducible refine blk_put (cs := #[.bool s0, .bool e0, .int .u64 0, .bool false, .bool false, .int .u64 0]) ?_ 2 _ rfl; (with_reducible repeat (first | exact hn_ | refine blk_drewN ?_ _ | refine blk_drew ?_ | refine blk_alloc ?_ _)); with_reducible refine blk_put (cs := #[.bool s0, .bool false, .int .u64 0, .bool false, .bool false, .int .u64 0]) ?_ 1 _ rfl; (with_reducible repeat (first | exact hn_ | refine blk_drewN ?_ _ | refine blk_drew ?_ | refine blk_alloc ?_ _)); with_reducible refine blk_put (cs := #[.bool false, .bool false, .int .u64 0, .bool false, .bool false, .int .u64 0]) ?_ 0 _ rfl; (with_reducible repeat (first | exact hn_ | refine blk_drewN ?_ _ | refine blk_drew ?_ | refine blk_alloc ?_ _)); done)
      have z0 : W3.cell? ⟨w.heap.size + 1 + 1, 0, none⟩ = some (.bool s0) := (blk_cell hR3 0).trans rfl
      have z1 : W3.cell? ⟨w.heap.size + 1 + 1, 1, none⟩ = some (.bool e0) := (blk_cell hR3 1).trans rfl
      have z2 : W3.cell? ⟨w.heap.size + 1 + 1, 2, none⟩ = some (.int .u64 n0) := (blk_cell hR3 2).trans rfl
      have z3 : W3.cell? ⟨w.heap.size + 1 + 1, 3, none⟩ = some (.bool s1) := (blk_cell hR3 3).trans rfl
      have z4 : W3.cell? ⟨w.heap.size + 1 + 1, 4, none⟩ = some (.bool e1) := (blk_cell hR3 4).trans rfl
      have z5 : W3.cell? ⟨w.heap.size + 1 + 1, 5, none⟩ = some (.int .u64 n1) := (blk_cell hR3 5).trans rfl
      exact bodyPost_ret (v := .tuple #[.agg #[.bool s0, .bool e0, .int .u64 n0, .bool s1, .bool e1, .int .u64 n1], .bool (false)]) (by simp [results, Try.results6, go_sem, z0, z1, z2, z3, z4, z5]) rfl ⟨rfl, hB3⟩
set_option maxHeartbeats 8000000 in
set_option maxRecDepth 100000 in
theorem flush_Pairs_Hear.d1t (s0 e0 : Bool) (n0 : Int) (s1 e1 : Bool) (n1 : Int) (rq : Int) (bl ea : Bool) (nd : Int) (w : World) (hW : (rq == 0) = false ∨ (rq = 0 ∧ bl = true)) (hE : (s1 && (e1 == ea && n1 == nd)) = false) :
    Calls Try.prog 6 #[.agg #[.bool s0, .bool e0, .int .u64 n0, .bool s1, .bool e1, .int .u64 n1], .int .i64 1, .agg #[.int .u8 rq, .bool bl, .bool true, .bool ea, .int .u64 nd]] w fun e w' =>
      e = .returned (.tuple #[.agg #[.bool s0, .bool e0, .int .u64 n0, .bool true, .bool ea, .int .u64 nd], .bool (false)]) ∧ Below w.heap.size w w' := by
  have huA := Try.underlying29
  have huP := Try.underlying27
  have hq := flush_Pairs_Hear.eqP
  rcases hW with hW | ⟨rfl, rfl⟩
  · go_enter Try.func6, Try.ntmps6
    go_wp2
    go_quiet (fail)
    go_wp2
    refine flush_Pairs_Hear.wp_W (fun W' hW' => ?_)
    have hBel : Below w.heap.size w W' := by
      rw [hW']
      repeat (with_reducible first | exact Below.refl _ _ | apply below_alloc | apply below_drew1 | apply pw_below_drewN | refine flush_Pairs_Hear.set_b ?_ (by simp) _)
    have hP : W'.heap[w.heap.size]? = some (.cells #[.bool s0, .bool e0, .int .u64 n0, .bool true, .bool ea, .int .u64 nd] 29 (0, 0)) := by
      rw [hW']
      have hn_ := blk_new w (.cells #[.bool s0, .bool e0, .int .u64 n0, .bool s1, .bool e1, .int .u64 n1] 29)
      try simp only [World.size_alloc] at hn_
      (with_reducible repeat (first | exact hn_ | refine blk_drewN ?_ _ | refine blk_drew ?_ | refine blk_alloc ?_ _))
      with_reducible refine blk_put (cs := #[.bool s0, .bool e0, .int .u64 n0, .bool true, .bool ea, .int .u64 n1]) ?_ 5 _ rfl
      (with_reducible repeat (first | exact hn_ | refine blk_drewN ?_ _ | refine blk_drew ?_ | refine blk_alloc ?_ _))
      with_reducible refine blk_put (cs := #[.bool s0, .bool e0, .int .u64 n0, .bool true, .bool e1, .int .u64 n1]) ?_ 4 _ rfl
      (with_reducible repeat (first | exact hn_ | refine blk_drewN ?_ _ | refine blk_drew ?_ | refine blk_alloc ?_ _))
      with_reducible refine blk_put (cs := #[.bool s0, .bool e0, .int .u64 n0, .bool s1, .bool e1, .int .u64 n1]) ?_ 3 _ rfl
      (with_reducible repeat (first | exact hn_ | refine blk_drewN ?_ _ | refine blk_drew ?_ | refine blk_alloc ?_ _))
    have hM : W'.heap[w.heap.size + 1]? = some (.cells #[.int .u8 rq, .bool bl, .bool true, .bool ea, .int .u64 nd] 35 (0, 0)) := by
      rw [hW']
      have hn_ := blk_new (w.alloc (.cells #[.bool s0, .bool e0, .int .u64 n0, .bool s1, .bool e1, .int .u64 n1] 29)) (.cells #[.int .u8 rq, .bool bl, .bool true, .bool ea, .int .u64 nd] 35)
      try simp only [World.size_alloc] at hn_
      (with_reducible repeat (first | exact hn_ | refine blk_drewN ?_ _ | refine blk_drew ?_ | refine blk_alloc ?_ _))
      with_reducible refine blk_far ?_ (by simp) _
      (with_reducible repeat (first | exact hn_ | refine blk_drewN ?_ _ | refine blk_drew ?_ | refine blk_alloc ?_ _))
      with_reducible refine blk_far ?_ (by simp) _
      (with_reducible repeat (first | exact hn_ | refine blk_drewN ?_ _ | refine blk_drew ?_ | refine blk_alloc ?_ _))
      with_reducible refine blk_far ?_ (by simp) _
      (with_reducible repeat (first | exact hn_ | refine blk_drewN ?_ _ | refine blk_drew ?_ | refine blk_alloc ?_ _))
    have hR : W'.heap[w.heap.size + 1 + 1]? = some (.cells #[.bool false, .bool false, .int .u64 0, .bool false, .bool false, .int .u64 0] 29 (0, 0)) := by
      rw [hW']
      have hn_ := blk_new ((w.alloc (.cells #[.bool s0, .bool e0, .int .u64 n0, .bool s1, .bool e1, .int .u64 n1] 29)).alloc (.cells #[.int .u8 rq, .bool bl, .bool true, .bool ea, .int .u64 nd] 35)) (.cells #[.bool false, .bool false, .int .u64 0, .bool false, .bool false, .int .u64 0] 29)
      try simp only [World.size_alloc] at hn_
      (with_reducible repeat (first | exact hn_ | refine blk_drewN ?_ _ | refine blk_drew ?_ | refine blk_alloc ?_ _))
      with_reducible refine blk_far ?_ (by simp; omega) _
      (with_reducible repeat (first | exact hn_ | refine blk_drewN ?_ _ | refine blk_drew ?_ | refine blk_alloc ?_ _))
      with_reducible refine blk_far ?_ (by simp; omega) _
      (with_reducible repeat (first | exact hn_ | refine blk_drewN ?_ _ | refine blk_drew ?_ | refine blk_alloc ?_ _))
      with_reducible refine blk_far ?_ (by simp; omega) _
      (with_reducible repeat (first | exact hn_ | refine blk_drewN ?_ _ | refine blk_drew ?_ | refine blk_alloc ?_ _))
    have hX : W'.heap[w.heap.size + 1 + 1 + 1]? = some (.cells #[.bool true, .bool ea, .int .u64 nd] 27 (0, 0)) := by
      rw [hW']
      have hn_ := blk_new (((w.alloc (.cells #[.bool s0, .bool e0, .int .u64 n0, .bool s1, .bool e1, .int .u64 n1] 29)).alloc (.cells #[.int .u8 rq, .bool bl, .bool true, .bool ea, .int .u64 nd] 35)).alloc (.cells #[.bool false, .bool false, .int .u64 0, .bool false, .bool false, .int .u64 0] 29)) (.cells #[.bool true, .bool ea, .int .u64 nd] 27)
      try simp only [World.size_alloc] at hn_
      (with_reducible repeat (first | exact hn_ | refine blk_drewN ?_ _ | refine blk_drew ?_ | refine blk_alloc ?_ _))
      with_reducible refine blk_far ?_ (by simp; omega) _
      (with_reducible repeat (first | exact hn_ | refine blk_drewN ?_ _ | refine blk_drew ?_ | refine blk_alloc ?_ _))
      with_reducible refine blk_far ?_ (by simp; omega) _
      (with_reducible repeat (first | exact hn_ | refine blk_drewN ?_ _ | refine blk_drew ?_ | refine blk_alloc ?_ _))
      with_reducible refine blk_far ?_ (by simp; omega) _
      (with_reducible repeat (first | exact hn_ | refine blk_drewN ?_ _ | refine blk_drew ?_ | refine blk_alloc ?_ _))
    clear hW'
    have cp0 : W'.cell? ⟨w.heap.size, 0, none⟩ = some (.bool s0) := (blk_cell hP 0).trans rfl
    have cp1 : W'.cell? ⟨w.heap.size, 1, none⟩ = some (.bool e0) := (blk_cell hP 1).trans rfl
    have cp2 : W'.cell? ⟨w.heap.size, 2, none⟩ = some (.int .u64 n0) := (blk_cell hP 2).trans rfl
    have cp3 : W'.cell? ⟨w.heap.size, 3, none⟩ = some (.bool true) := (blk_cell hP 3).trans rfl
    have cp4 : W'.cell? ⟨w.heap.size, 4, none⟩ = some (.bool ea) := (blk_cell hP 4).trans rfl
    have cp5 : W'.cell? ⟨w.heap.size, 5, none⟩ = some (.int .u64 nd) := (blk_cell hP 5).trans rfl
    have cm0 : W'.cell? ⟨w.heap.size + 1, 0, none⟩ = some (.int .u8 rq) := (blk_cell hM 0).trans rfl
    have cm1 : W'.cell? ⟨w.heap.size + 1, 1, none⟩ = some (.bool bl) := (blk_cell hM 1).trans rfl
    have cm2 : W'.cell? ⟨w.heap.size + 1, 2, none⟩ = some (.bool true) := (blk_cell hM 2).trans rfl
    have cm3 : W'.cell? ⟨w.heap.size + 1, 3, none⟩ = some (.bool ea) := (blk_cell hM 3).trans rfl
    have cm4 : W'.cell? ⟨w.heap.size + 1, 4, none⟩ = some (.int .u64 nd) := (blk_cell hM 4).trans rfl
    have cr0 : W'.cell? ⟨w.heap.size + 1 + 1, 0, none⟩ = some (.bool false) := (blk_cell hR 0).trans rfl
    have cr1 : W'.cell? ⟨w.heap.size + 1 + 1, 1, none⟩ = some (.bool false) := (blk_cell hR 1).trans rfl
    have cr2 : W'.cell? ⟨w.heap.size + 1 + 1, 2, none⟩ = some (.int .u64 0) := (blk_cell hR 2).trans rfl
    have cr3 : W'.cell? ⟨w.heap.size + 1 + 1, 3, none⟩ = some (.bool false) := (blk_cell hR 3).trans rfl
    have cr4 : W'.cell? ⟨w.heap.size + 1 + 1, 4, none⟩ = some (.bool false) := (blk_cell hR 4).trans rfl
    have cr5 : W'.cell? ⟨w.heap.size + 1 + 1, 5, none⟩ = some (.int .u64 0) := (blk_cell hR 5).trans rfl
    have cx0 : W'.cell? ⟨w.heap.size + 1 + 1 + 1, 0, none⟩ = some (.bool true) := (blk_cell hX 0).trans rfl
    have cx1 : W'.cell? ⟨w.heap.size + 1 + 1 + 1, 1, none⟩ = some (.bool ea) := (blk_cell hX 1).trans rfl
    have cx2 : W'.cell? ⟨w.heap.size + 1 + 1 + 1, 2, none⟩ = some (.int .u64 nd) := (blk_cell hX 2).trans rfl
    have f0 := blk_frozen hR 0
    have f1 := blk_frozen hR 1
    have f2 := blk_frozen hR 2
    have f3 := blk_frozen hR 3
    have f4 := blk_frozen hR 4
    have f5 := blk_frozen hR 5
    have hlt := blk_lt hX
    go_region
    all_goals (try go_wp2)
    all_goals refine flush_Pairs_Hear.post_W (fun W3 hW3 => ?_)
    all_goals
      have hB3 : Below w.heap.size w W3 := by
        rw [hW3]
        repeat (with_reducible first | exact hBel | apply below_alloc | apply below_drew1 | apply pw_below_drewN | refine flush_Pairs_Hear.set_b ?_ (by simp; omega) _)
      have hR3 : W3.heap[w.heap.size + 1 + 1]? = some (.cells #[.bool s0, .bool e0, .int .u64 n0, .bool true, .bool ea, .int .u64 nd] 29 (0, 0)) := by
        rw [hW3]
        have hn_ := hR
        (with_reducible repeat (first | exact hn_ | refine blk_drewN ?_ _ | refine blk_drew ?_ | refine blk_alloc ?_ _))
        with_reducible refine blk_put (cs := #[.bool s0, .bool e0, .int .u64 n0, .bool true, .bool ea, .int .u64 0]) ?_ 5 _ rfl
        (with_reducible repeat (first | exact hn_ | refine blk_drewN ?_ _ | refine blk_drew ?_ | refine blk_alloc ?_ _))
        with_reducible refine blk_put (cs := #[.bool s0, .bool e0, .int .u64 n0, .bool true, .bool false, .int .u64 0]) ?_ 4 _ rfl
        (with_reducible repeat (first | exact hn_ | refine blk_drewN ?_ _ | refine blk_drew ?_ | refine blk_alloc ?_ _))
        with_reducible refine blk_put (cs := #[.bool s0, .bool e0, .int .u64 n0, .bool false, .bool false, .int .u64 0]) ?_ 3 _ rfl
        (with_reducible repeat (first | exact hn_ | refine blk_drewN ?_ _ | refine blk_drew ?_ | refine blk_alloc ?_ _))
        with_reducible refine blk_put (cs := #[.bool s0, .bool e0, .int .u64 0, .bool false, .bool false, .int .u64 0]) ?_ 2 _ rfl
        (with_reducible repeat (first | exact hn_ | refine blk_drewN ?_ _ | refine blk_drew ?_ | refine blk_alloc ?_ _))
        with_reducible refine blk_put (cs := #[.bool s0, .bool false, .int .u64 0, .bool false, .bool false, .int .u64 0]) ?_ 1 _ rfl
        (with_reducible repeat (first | exact hn_ | refine blk_drewN ?_ _ | refine blk_drew ?_ | refine blk_alloc ?_ _))
        with_reducible refine blk_put (cs := #[.bool false, .bool false, .int .u64 0, .bool false, .bool false, .int .u64 0]) ?_ 0 _ rfl
        (with_reducible repeat (first | exact hn_ | refine blk_drewN ?_ _ | refine blk_drew ?_ | refine blk_alloc ?_ _))
      have z0 : W3.cell? ⟨w.heap.size + 1 + 1, 0, none⟩ = some (.bool s0) := (blk_cell hR3 0).trans rfl
      have z1 : W3.cell? ⟨w.heap.size + 1 + 1, 1, none⟩ = some (.bool e0) := (blk_cell hR3 1).trans rfl
      have z2 : W3.cell? ⟨w.heap.size + 1 + 1, 2, none⟩ = some (.int .u64 n0) := (blk_cell hR3 2).trans rfl
      have z3 : W3.cell? ⟨w.heap.size + 1 + 1, 3, none⟩ = some (.bool true) := (blk_cell hR3 3).trans rfl
      have z4 : W3.cell? ⟨w.heap.size + 1 + 1, 4, none⟩ = some (.bool ea) := (blk_cell hR3 4).trans rfl
      have z5 : W3.cell? ⟨w.heap.size + 1 + 1, 5, none⟩ = some (.int .u64 nd) := (blk_cell hR3 5).trans rfl
      exact bodyPost_ret (v := .tuple #[.agg #[.bool s0, .bool e0, .int .u64 n0, .bool true, .bool ea, .int .u64 nd], .bool (false)]) (by simp [results, Try.results6, go_sem, z0, z1, z2, z3, z4, z5]) rfl ⟨rfl, hB3⟩
  · go_enter Try.func6, Try.ntmps6
    go_wp2
    go_quiet (fail)
    go_wp2
    refine flush_Pairs_Hear.wp_W (fun W' hW' => ?_)
    have hBel : Below w.heap.size w W' := by
      rw [hW']
      repeat (with_reducible first | exact Below.refl _ _ | apply below_alloc | apply below_drew1 | apply pw_below_drewN | refine flush_Pairs_Hear.set_b ?_ (by simp) _)
    have hP : W'.heap[w.heap.size]? = some (.cells #[.bool s0, .bool e0, .int .u64 n0, .bool true, .bool ea, .int .u64 nd] 29 (0, 0)) := by
      rw [hW']
      have hn_ := blk_new w (.cells #[.bool s0, .bool e0, .int .u64 n0, .bool s1, .bool e1, .int .u64 n1] 29)
      try simp only [World.size_alloc] at hn_
      (with_reducible repeat (first | exact hn_ | refine blk_drewN ?_ _ | refine blk_drew ?_ | refine blk_alloc ?_ _))
      with_reducible refine blk_put (cs := #[.bool s0, .bool e0, .int .u64 n0, .bool true, .bool ea, .int .u64 n1]) ?_ 5 _ rfl
      (with_reducible repeat (first | exact hn_ | refine blk_drewN ?_ _ | refine blk_drew ?_ | refine blk_alloc ?_ _))
      with_reducible refine blk_put (cs := #[.bool s0, .bool e0, .int .u64 n0, .bool true, .bool e1, .int .u64 n1]) ?_ 4 _ rfl
      (with_reducible repeat (first | exact hn_ | refine blk_drewN ?_ _ | refine blk_drew ?_ | refine blk_alloc ?_ _))
      with_reducible refine blk_put (cs := #[.bool s0, .bool e0, .int .u64 n0, .bool s1, .bool e1, .int .u64 n1]) ?_ 3 _ rfl
      (with_reducible repeat (first | exact hn_ | refine blk_drewN ?_ _ | refine blk_drew ?_ | refine blk_alloc ?_ _))
    have hM : W'.heap[w.heap.size + 1]? = some (.cells #[.int .u8 0, .bool true, .bool true, .bool ea, .int .u64 nd] 35 (0, 0)) := by
      rw [hW']
      have hn_ := blk_new (w.alloc (.cells #[.bool s0, .bool e0, .int .u64 n0, .bool s1, .bool e1, .int .u64 n1] 29)) (.cells #[.int .u8 0, .bool true, .bool true, .bool ea, .int .u64 nd] 35)
      try simp only [World.size_alloc] at hn_
      (with_reducible repeat (first | exact hn_ | refine blk_drewN ?_ _ | refine blk_drew ?_ | refine blk_alloc ?_ _))
      with_reducible refine blk_far ?_ (by simp) _
      (with_reducible repeat (first | exact hn_ | refine blk_drewN ?_ _ | refine blk_drew ?_ | refine blk_alloc ?_ _))
      with_reducible refine blk_far ?_ (by simp) _
      (with_reducible repeat (first | exact hn_ | refine blk_drewN ?_ _ | refine blk_drew ?_ | refine blk_alloc ?_ _))
      with_reducible refine blk_far ?_ (by simp) _
      (with_reducible repeat (first | exact hn_ | refine blk_drewN ?_ _ | refine blk_drew ?_ | refine blk_alloc ?_ _))
    have hR : W'.heap[w.heap.size + 1 + 1]? = some (.cells #[.bool false, .bool false, .int .u64 0, .bool false, .bool false, .int .u64 0] 29 (0, 0)) := by
      rw [hW']
      have hn_ := blk_new ((w.alloc (.cells #[.bool s0, .bool e0, .int .u64 n0, .bool s1, .bool e1, .int .u64 n1] 29)).alloc (.cells #[.int .u8 0, .bool true, .bool true, .bool ea, .int .u64 nd] 35)) (.cells #[.bool false, .bool false, .int .u64 0, .bool false, .bool false, .int .u64 0] 29)
      try simp only [World.size_alloc] at hn_
      (with_reducible repeat (first | exact hn_ | refine blk_drewN ?_ _ | refine blk_drew ?_ | refine blk_alloc ?_ _))
      with_reducible refine blk_far ?_ (by simp; omega) _
      (with_reducible repeat (first | exact hn_ | refine blk_drewN ?_ _ | refine blk_drew ?_ | refine blk_alloc ?_ _))
      with_reducible refine blk_far ?_ (by simp; omega) _
      (with_reducible repeat (first | exact hn_ | refine blk_drewN ?_ _ | refine blk_drew ?_ | refine blk_alloc ?_ _))
      with_reducible refine blk_far ?_ (by simp; omega) _
      (with_reducible repeat (first | exact hn_ | refine blk_drewN ?_ _ | refine blk_drew ?_ | refine blk_alloc ?_ _))
    have hX : W'.heap[w.heap.size + 1 + 1 + 1]? = some (.cells #[.bool true, .bool ea, .int .u64 nd] 27 (0, 0)) := by
      rw [hW']
      have hn_ := blk_new (((w.alloc (.cells #[.bool s0, .bool e0, .int .u64 n0, .bool s1, .bool e1, .int .u64 n1] 29)).alloc (.cells #[.int .u8 0, .bool true, .bool true, .bool ea, .int .u64 nd] 35)).alloc (.cells #[.bool false, .bool false, .int .u64 0, .bool false, .bool false, .int .u64 0] 29)) (.cells #[.bool true, .bool ea, .int .u64 nd] 27)
      try simp only [World.size_alloc] at hn_
      (with_reducible repeat (first | exact hn_ | refine blk_drewN ?_ _ | refine blk_drew ?_ | refine blk_alloc ?_ _))
      with_reducible refine blk_far ?_ (by simp; omega) _
      (with_reducible repeat (first | exact hn_ | refine blk_drewN ?_ _ | refine blk_drew ?_ | refine blk_alloc ?_ _))
      with_reducible refine blk_far ?_ (by simp; omega) _
      (with_reducible repeat (first | exact hn_ | refine blk_drewN ?_ _ | refine blk_drew ?_ | refine blk_alloc ?_ _))
      with_reducible refine blk_far ?_ (by simp; omega) _
      (with_reducible repeat (first | exact hn_ | refine blk_drewN ?_ _ | refine blk_drew ?_ | refine blk_alloc ?_ _))
    clear hW'
    have cp0 : W'.cell? ⟨w.heap.size, 0, none⟩ = some (.bool s0) := (blk_cell hP 0).trans rfl
    have cp1 : W'.cell? ⟨w.heap.size, 1, none⟩ = some (.bool e0) := (blk_cell hP 1).trans rfl
    have cp2 : W'.cell? ⟨w.heap.size, 2, none⟩ = some (.int .u64 n0) := (blk_cell hP 2).trans rfl
    have cp3 : W'.cell? ⟨w.heap.size, 3, none⟩ = some (.bool true) := (blk_cell hP 3).trans rfl
    have cp4 : W'.cell? ⟨w.heap.size, 4, none⟩ = some (.bool ea) := (blk_cell hP 4).trans rfl
    have cp5 : W'.cell? ⟨w.heap.size, 5, none⟩ = some (.int .u64 nd) := (blk_cell hP 5).trans rfl
    have cm0 : W'.cell? ⟨w.heap.size + 1, 0, none⟩ = some (.int .u8 0) := (blk_cell hM 0).trans rfl
    have cm1 : W'.cell? ⟨w.heap.size + 1, 1, none⟩ = some (.bool true) := (blk_cell hM 1).trans rfl
    have cm2 : W'.cell? ⟨w.heap.size + 1, 2, none⟩ = some (.bool true) := (blk_cell hM 2).trans rfl
    have cm3 : W'.cell? ⟨w.heap.size + 1, 3, none⟩ = some (.bool ea) := (blk_cell hM 3).trans rfl
    have cm4 : W'.cell? ⟨w.heap.size + 1, 4, none⟩ = some (.int .u64 nd) := (blk_cell hM 4).trans rfl
    have cr0 : W'.cell? ⟨w.heap.size + 1 + 1, 0, none⟩ = some (.bool false) := (blk_cell hR 0).trans rfl
    have cr1 : W'.cell? ⟨w.heap.size + 1 + 1, 1, none⟩ = some (.bool false) := (blk_cell hR 1).trans rfl
    have cr2 : W'.cell? ⟨w.heap.size + 1 + 1, 2, none⟩ = some (.int .u64 0) := (blk_cell hR 2).trans rfl
    have cr3 : W'.cell? ⟨w.heap.size + 1 + 1, 3, none⟩ = some (.bool false) := (blk_cell hR 3).trans rfl
    have cr4 : W'.cell? ⟨w.heap.size + 1 + 1, 4, none⟩ = some (.bool false) := (blk_cell hR 4).trans rfl
    have cr5 : W'.cell? ⟨w.heap.size + 1 + 1, 5, none⟩ = some (.int .u64 0) := (blk_cell hR 5).trans rfl
    have cx0 : W'.cell? ⟨w.heap.size + 1 + 1 + 1, 0, none⟩ = some (.bool true) := (blk_cell hX 0).trans rfl
    have cx1 : W'.cell? ⟨w.heap.size + 1 + 1 + 1, 1, none⟩ = some (.bool ea) := (blk_cell hX 1).trans rfl
    have cx2 : W'.cell? ⟨w.heap.size + 1 + 1 + 1, 2, none⟩ = some (.int .u64 nd) := (blk_cell hX 2).trans rfl
    have f0 := blk_frozen hR 0
    have f1 := blk_frozen hR 1
    have f2 := blk_frozen hR 2
    have f3 := blk_frozen hR 3
    have f4 := blk_frozen hR 4
    have f5 := blk_frozen hR 5
    have hlt := blk_lt hX
    go_region
    all_goals (try go_wp2)
    all_goals refine flush_Pairs_Hear.post_W (fun W3 hW3 => ?_)
    all_goals
      have hB3 : Below w.heap.size w W3 := by
        rw [hW3]
        repeat (with_reducible first | exact hBel | apply below_alloc | apply below_drew1 | apply pw_below_drewN | refine flush_Pairs_Hear.set_b ?_ (by simp; omega) _)
      have hR3 : W3.heap[w.heap.size + 1 + 1]? = some (.cells #[.bool s0, .bool e0, .int .u64 n0, .bool true, .bool ea, .int .u64 nd] 29 (0, 0)) := by
        rw [hW3]
        have hn_ := hR
        (with_reducible repeat (first | exact hn_ | refine blk_drewN ?_ _ | refine blk_drew ?_ | refine blk_alloc ?_ _))
        with_reducible refine blk_put (cs := #[.bool s0, .bool e0, .int .u64 n0, .bool true, .bool ea, .int .u64 0]) ?_ 5 _ rfl
        (with_reducible repeat (first | exact hn_ | refine blk_drewN ?_ _ | refine blk_drew ?_ | refine blk_alloc ?_ _))
        with_reducible refine blk_put (cs := #[.bool s0, .bool e0, .int .u64 n0, .bool true, .bool false, .int .u64 0]) ?_ 4 _ rfl
        (with_reducible repeat (first | exact hn_ | refine blk_drewN ?_ _ | refine blk_drew ?_ | refine blk_alloc ?_ _))
        with_reducible refine blk_put (cs := #[.bool s0, .bool e0, .int .u64 n0, .bool false, .bool false, .int .u64 0]) ?_ 3 _ rfl
        (with_reducible repeat (first | exact hn_ | refine blk_drewN ?_ _ | refine blk_drew ?_ | refine blk_alloc ?_ _))
        with_reducible refine blk_put (cs := #[.bool s0, .bool e0, .int .u64 0, .bool false, .bool false, .int .u64 0]) ?_ 2 _ rfl
        (with_reducible repeat (first | exact hn_ | refine blk_drewN ?_ _ | refine blk_drew ?_ | refine blk_alloc ?_ _))
        with_reducible refine blk_put (cs := #[.bool s0, .bool false, .int .u64 0, .bool false, .bool false, .int .u64 0]) ?_ 1 _ rfl
        (with_reducible repeat (first | exact hn_ | refine blk_drewN ?_ _ | refine blk_drew ?_ | refine blk_alloc ?_ _))
        with_reducible refine blk_put (cs := #[.bool false, .bool false, .int .u64 0, .bool false, .bool false, .int .u64 0]) ?_ 0 _ rfl
        (with_reducible repeat (first | exact hn_ | refine blk_drewN ?_ _ | refine blk_drew ?_ | refine blk_alloc ?_ _))
      have z0 : W3.cell? ⟨w.heap.size + 1 + 1, 0, none⟩ = some (.bool s0) := (blk_cell hR3 0).trans rfl
      have z1 : W3.cell? ⟨w.heap.size + 1 + 1, 1, none⟩ = some (.bool e0) := (blk_cell hR3 1).trans rfl
      have z2 : W3.cell? ⟨w.heap.size + 1 + 1, 2, none⟩ = some (.int .u64 n0) := (blk_cell hR3 2).trans rfl
      have z3 : W3.cell? ⟨w.heap.size + 1 + 1, 3, none⟩ = some (.bool true) := (blk_cell hR3 3).trans rfl
      have z4 : W3.cell? ⟨w.heap.size + 1 + 1, 4, none⟩ = some (.bool ea) := (blk_cell hR3 4).trans rfl
      have z5 : W3.cell? ⟨w.heap.size + 1 + 1, 5, none⟩ = some (.int .u64 nd) := (blk_cell hR3 5).trans rfl
      exact bodyPost_ret (v := .tuple #[.agg #[.bool s0, .bool e0, .int .u64 n0, .bool true, .bool ea, .int .u64 nd], .bool (false)]) (by simp [results, Try.results6, go_sem, z0, z1, z2, z3, z4, z5]) rfl ⟨rfl, hB3⟩
set_option maxHeartbeats 8000000 in
set_option maxRecDepth 100000 in
theorem flush_Pairs_Hear.d1f (s0 e0 : Bool) (n0 : Int) (s1 e1 : Bool) (n1 : Int) (rq : Int) (bl ea : Bool) (nd : Int) (w : World) (hW : (rq == 0) = false ∨ (rq = 0 ∧ bl = true)) (hE : (s1 && (e1 == ea && n1 == nd)) = false) :
    Calls Try.prog 6 #[.agg #[.bool s0, .bool e0, .int .u64 n0, .bool s1, .bool e1, .int .u64 n1], .int .i64 1, .agg #[.int .u8 rq, .bool bl, .bool false, .bool ea, .int .u64 nd]] w fun e w' =>
      e = .returned (.tuple #[.agg #[.bool s0, .bool e0, .int .u64 n0, .bool true, .bool ea, .int .u64 nd], .bool (!s0 || (!e0 == ea || !n0 == nd))]) ∧ Below w.heap.size w w' := by
  have huA := Try.underlying29
  have huP := Try.underlying27
  have hq := flush_Pairs_Hear.eqP
  rcases hW with hW | ⟨rfl, rfl⟩
  · go_enter Try.func6, Try.ntmps6
    go_wp2
    go_quiet (fail)
    go_wp2
    refine flush_Pairs_Hear.wp_W (fun W' hW' => ?_)
    have hBel : Below w.heap.size w W' := by
      rw [hW']
      repeat (with_reducible first | exact Below.refl _ _ | apply below_alloc | apply below_drew1 | apply pw_below_drewN | refine flush_Pairs_Hear.set_b ?_ (by simp) _)
    have hP : W'.heap[w.heap.size]? = some (.cells #[.bool s0, .bool e0, .int .u64 n0, .bool true, .bool ea, .int .u64 nd] 29 (0, 0)) := by
      rw [hW']
      have hn_ := blk_new w (.cells #[.bool s0, .bool e0, .int .u64 n0, .bool s1, .bool e1, .int .u64 n1] 29)
      try simp only [World.size_alloc] at hn_
      (with_reducible repeat (first | exact hn_ | refine blk_drewN ?_ _ | refine blk_drew ?_ | refine blk_alloc ?_ _))
      with_reducible refine blk_put (cs := #[.bool s0, .bool e0, .int .u64 n0, .bool true, .bool ea, .int .u64 n1]) ?_ 5 _ rfl
      (with_reducible repeat (first | exact hn_ | refine blk_drewN ?_ _ | refine blk_drew ?_ | refine blk_alloc ?_ _))
      with_reducible refine blk_put (cs := #[.bool s0, .bool e0, .int .u64 n0, .bool true, .bool e1, .int .u64 n1]) ?_ 4 _ rfl
      (with_reducible repeat (first | exact hn_ | refine blk_drewN ?_ _ | refine blk_drew ?_ | refine blk_alloc ?_ _))
      with_reducible refine blk_put (cs := #[.bool s0, .bool e0, .int .u64 n0, .bool s1, .bool e1, .int .u64 n1]) ?_ 3 _ rfl
      (with_reducible repeat (first | exact hn_ | refine blk_drewN ?_ _ | refine blk_drew ?_ | refine blk_alloc ?_ _))
    have hM : W'.heap[w.heap.size + 1]? = some (.cells #[.int .u8 rq, .bool bl, .bool false, .bool ea, .int .u64 nd] 35 (0, 0)) := by
      rw [hW']
      have hn_ := blk_new (w.alloc (.cells #[.bool s0, .bool e0, .int .u64 n0, .bool s1, .bool e1, .int .u64 n1] 29)) (.cells #[.int .u8 rq, .bool bl, .bool false, .bool ea, .int .u64 nd] 35)
      try simp only [World.size_alloc] at hn_
      (with_reducible repeat (first | exact hn_ | refine blk_drewN ?_ _ | refine blk_drew ?_ | refine blk_alloc ?_ _))
      with_reducible refine blk_far ?_ (by simp) _
      (with_reducible repeat (first | exact hn_ | refine blk_drewN ?_ _ | refine blk_drew ?_ | refine blk_alloc ?_ _))
      with_reducible refine blk_far ?_ (by simp) _
      (with_reducible repeat (first | exact hn_ | refine blk_drewN ?_ _ | refine blk_drew ?_ | refine blk_alloc ?_ _))
      with_reducible refine blk_far ?_ (by simp) _
      (with_reducible repeat (first | exact hn_ | refine blk_drewN ?_ _ | refine blk_drew ?_ | refine blk_alloc ?_ _))
    have hR : W'.heap[w.heap.size + 1 + 1]? = some (.cells #[.bool false, .bool false, .int .u64 0, .bool false, .bool false, .int .u64 0] 29 (0, 0)) := by
      rw [hW']
      have hn_ := blk_new ((w.alloc (.cells #[.bool s0, .bool e0, .int .u64 n0, .bool s1, .bool e1, .int .u64 n1] 29)).alloc (.cells #[.int .u8 rq, .bool bl, .bool false, .bool ea, .int .u64 nd] 35)) (.cells #[.bool false, .bool false, .int .u64 0, .bool false, .bool false, .int .u64 0] 29)
      try simp only [World.size_alloc] at hn_
      (with_reducible repeat (first | exact hn_ | refine blk_drewN ?_ _ | refine blk_drew ?_ | refine blk_alloc ?_ _))
      with_reducible refine blk_far ?_ (by simp; omega) _
      (with_reducible repeat (first | exact hn_ | refine blk_drewN ?_ _ | refine blk_drew ?_ | refine blk_alloc ?_ _))
      with_reducible refine blk_far ?_ (by simp; omega) _
      (with_reducible repeat (first | exact hn_ | refine blk_drewN ?_ _ | refine blk_drew ?_ | refine blk_alloc ?_ _))
      with_reducible refine blk_far ?_ (by simp; omega) _
      (with_reducible repeat (first | exact hn_ | refine blk_drewN ?_ _ | refine blk_drew ?_ | refine blk_alloc ?_ _))
    have hX : W'.heap[w.heap.size + 1 + 1 + 1]? = some (.cells #[.bool true, .bool ea, .int .u64 nd] 27 (0, 0)) := by
      rw [hW']
      have hn_ := blk_new (((w.alloc (.cells #[.bool s0, .bool e0, .int .u64 n0, .bool s1, .bool e1, .int .u64 n1] 29)).alloc (.cells #[.int .u8 rq, .bool bl, .bool false, .bool ea, .int .u64 nd] 35)).alloc (.cells #[.bool false, .bool false, .int .u64 0, .bool false, .bool false, .int .u64 0] 29)) (.cells #[.bool true, .bool ea, .int .u64 nd] 27)
      try simp only [World.size_alloc] at hn_
      (with_reducible repeat (first | exact hn_ | refine blk_drewN ?_ _ | refine blk_drew ?_ | refine blk_alloc ?_ _))
      with_reducible refine blk_far ?_ (by simp; omega) _
      (with_reducible repeat (first | exact hn_ | refine blk_drewN ?_ _ | refine blk_drew ?_ | refine blk_alloc ?_ _))
      with_reducible refine blk_far ?_ (by simp; omega) _
      (with_reducible repeat (first | exact hn_ | refine blk_drewN ?_ _ | refine blk_drew ?_ | refine blk_alloc ?_ _))
      with_reducible refine blk_far ?_ (by simp; omega) _
      (with_reducible repeat (first | exact hn_ | refine blk_drewN ?_ _ | refine blk_drew ?_ | refine blk_alloc ?_ _))
    clear hW'
    have cp0 : W'.cell? ⟨w.heap.size, 0, none⟩ = some (.bool s0) := (blk_cell hP 0).trans rfl
    have cp1 : W'.cell? ⟨w.heap.size, 1, none⟩ = some (.bool e0) := (blk_cell hP 1).trans rfl
    have cp2 : W'.cell? ⟨w.heap.size, 2, none⟩ = some (.int .u64 n0) := (blk_cell hP 2).trans rfl
    have cp3 : W'.cell? ⟨w.heap.size, 3, none⟩ = some (.bool true) := (blk_cell hP 3).trans rfl
    have cp4 : W'.cell? ⟨w.heap.size, 4, none⟩ = some (.bool ea) := (blk_cell hP 4).trans rfl
    have cp5 : W'.cell? ⟨w.heap.size, 5, none⟩ = some (.int .u64 nd) := (blk_cell hP 5).trans rfl
    have cm0 : W'.cell? ⟨w.heap.size + 1, 0, none⟩ = some (.int .u8 rq) := (blk_cell hM 0).trans rfl
    have cm1 : W'.cell? ⟨w.heap.size + 1, 1, none⟩ = some (.bool bl) := (blk_cell hM 1).trans rfl
    have cm2 : W'.cell? ⟨w.heap.size + 1, 2, none⟩ = some (.bool false) := (blk_cell hM 2).trans rfl
    have cm3 : W'.cell? ⟨w.heap.size + 1, 3, none⟩ = some (.bool ea) := (blk_cell hM 3).trans rfl
    have cm4 : W'.cell? ⟨w.heap.size + 1, 4, none⟩ = some (.int .u64 nd) := (blk_cell hM 4).trans rfl
    have cr0 : W'.cell? ⟨w.heap.size + 1 + 1, 0, none⟩ = some (.bool false) := (blk_cell hR 0).trans rfl
    have cr1 : W'.cell? ⟨w.heap.size + 1 + 1, 1, none⟩ = some (.bool false) := (blk_cell hR 1).trans rfl
    have cr2 : W'.cell? ⟨w.heap.size + 1 + 1, 2, none⟩ = some (.int .u64 0) := (blk_cell hR 2).trans rfl
    have cr3 : W'.cell? ⟨w.heap.size + 1 + 1, 3, none⟩ = some (.bool false) := (blk_cell hR 3).trans rfl
    have cr4 : W'.cell? ⟨w.heap.size + 1 + 1, 4, none⟩ = some (.bool false) := (blk_cell hR 4).trans rfl
    have cr5 : W'.cell? ⟨w.heap.size + 1 + 1, 5, none⟩ = some (.int .u64 0) := (blk_cell hR 5).trans rfl
    have cx0 : W'.cell? ⟨w.heap.size + 1 + 1 + 1, 0, none⟩ = some (.bool true) := (blk_cell hX 0).trans rfl
    have cx1 : W'.cell? ⟨w.heap.size + 1 + 1 + 1, 1, none⟩ = some (.bool ea) := (blk_cell hX 1).trans rfl
    have cx2 : W'.cell? ⟨w.heap.size + 1 + 1 + 1, 2, none⟩ = some (.int .u64 nd) := (blk_cell hX 2).trans rfl
    have f0 := blk_frozen hR 0
    have f1 := blk_frozen hR 1
    have f2 := blk_frozen hR 2
    have f3 := blk_frozen hR 3
    have f4 := blk_frozen hR 4
    have f5 := blk_frozen hR 5
    have hlt := blk_lt hX
    go_region
    all_goals (try go_wp2)
    all_goals refine flush_Pairs_Hear.post_W (fun W3 hW3 => ?_)
    all_goals
      have hB3 : Below w.heap.size w W3 := by
        rw [hW3]
        repeat (with_reducible first | exact hBel | apply below_alloc | apply below_drew1 | apply pw_below_drewN | refine flush_Pairs_Hear.set_b ?_ (by simp; omega) _)
      have hR3 : W3.heap[w.heap.size + 1 + 1]? = some (.cells #[.bool s0, .bool e0, .int .u64 n0, .bool true, .bool ea, .int .u64 nd] 29 (0, 0)) := by
        rw [hW3]
        have hn_ := hR
        (with_reducible repeat (first | exact hn_ | refine blk_drewN ?_ _ | refine blk_drew ?_ | refine blk_alloc ?_ _))
        with_reducible refine blk_put (cs := #[.bool s0, .bool e0, .int .u64 n0, .bool true, .bool ea, .int .u64 0]) ?_ 5 _ rfl
        (with_reducible repeat (first | exact hn_ | refine blk_drewN ?_ _ | refine blk_drew ?_ | refine blk_alloc ?_ _))
        with_reducible refine blk_put (cs := #[.bool s0, .bool e0, .int .u64 n0, .bool true, .bool false, .int .u64 0]) ?_ 4 _ rfl
        (with_reducible repeat (first | exact hn_ | refine blk_drewN ?_ _ | refine blk_drew ?_ | refine blk_alloc ?_ _))
        with_reducible refine blk_put (cs := #[.bool s0, .bool e0, .int .u64 n0, .bool false, .bool false, .int .u64 0]) ?_ 3 _ rfl
        (with_reducible repeat (first | exact hn_ | refine blk_drewN ?_ _ | refine blk_drew ?_ | refine blk_alloc ?_ _))
        with_reducible refine blk_put (cs := #[.bool s0, .bool e0, .int .u64 0, .bool false, .bool false, .int .u64 0]) ?_ 2 _ rfl
        (with_reducible repeat (first | exact hn_ | refine blk_drewN ?_ _ | refine blk_drew ?_ | refine blk_alloc ?_ _))
        with_reducible refine blk_put (cs := #[.bool s0, .bool false, .int .u64 0, .bool false, .bool false, .int .u64 0]) ?_ 1 _ rfl
        (with_reducible repeat (first | exact hn_ | refine blk_drewN ?_ _ | refine blk_drew ?_ | refine blk_alloc ?_ _))
        with_reducible refine blk_put (cs := #[.bool false, .bool false, .int .u64 0, .bool false, .bool false, .int .u64 0]) ?_ 0 _ rfl
        (with_reducible repeat (first | exact hn_ | refine blk_drewN ?_ _ | refine blk_drew ?_ | refine blk_alloc ?_ _))
      have z0 : W3.cell? ⟨w.heap.size + 1 + 1, 0, none⟩ = some (.bool s0) := (blk_cell hR3 0).trans rfl
      have z1 : W3.cell? ⟨w.heap.size + 1 + 1, 1, none⟩ = some (.bool e0) := (blk_cell hR3 1).trans rfl
      have z2 : W3.cell? ⟨w.heap.size + 1 + 1, 2, none⟩ = some (.int .u64 n0) := (blk_cell hR3 2).trans rfl
      have z3 : W3.cell? ⟨w.heap.size + 1 + 1, 3, none⟩ = some (.bool true) := (blk_cell hR3 3).trans rfl
      have z4 : W3.cell? ⟨w.heap.size + 1 + 1, 4, none⟩ = some (.bool ea) := (blk_cell hR3 4).trans rfl
      have z5 : W3.cell? ⟨w.heap.size + 1 + 1, 5, none⟩ = some (.int .u64 nd) := (blk_cell hR3 5).trans rfl
      exact bodyPost_ret (v := .tuple #[.agg #[.bool s0, .bool e0, .int .u64 n0, .bool true, .bool ea, .int .u64 nd], .bool (!s0 || (!e0 == ea || !n0 == nd))]) (by simp [results, Try.results6, go_sem, z0, z1, z2, z3, z4, z5]) rfl ⟨rfl, hB3⟩
  · go_enter Try.func6, Try.ntmps6
    go_wp2
    go_quiet (fail)
    go_wp2
    refine flush_Pairs_Hear.wp_W (fun W' hW' => ?_)
    have hBel : Below w.heap.size w W' := by
      rw [hW']
      repeat (with_reducible first | exact Below.refl _ _ | apply below_alloc | apply below_drew1 | apply pw_below_drewN | refine flush_Pairs_Hear.set_b ?_ (by simp) _)
    have hP : W'.heap[w.heap.size]? = some (.cells #[.bool s0, .bool e0, .int .u64 n0, .bool true, .bool ea, .int .u64 nd] 29 (0, 0)) := by
      rw [hW']
      have hn_ := blk_new w (.cells #[.bool s0, .bool e0, .int .u64 n0, .bool s1, .bool e1, .int .u64 n1] 29)
      try simp only [World.size_alloc] at hn_
      (with_reducible repeat (first | exact hn_ | refine blk_drewN ?_ _ | refine blk_drew ?_ | refine blk_alloc ?_ _))
      with_reducible refine blk_put (cs := #[.bool s0, .bool e0, .int .u64 n0, .bool true, .bool ea, .int .u64 n1]) ?_ 5 _ rfl
      (with_reducible repeat (first | exact hn_ | refine blk_drewN ?_ _ | refine blk_drew ?_ | refine blk_alloc ?_ _))
      with_reducible refine blk_put (cs := #[.bool s0, .bool e0, .int .u64 n0, .bool true, .bool e1, .int .u64 n1]) ?_ 4 _ rfl
      (with_reducible repeat (first | exact hn_ | refine blk_drewN ?_ _ | refine blk_drew ?_ | refine blk_alloc ?_ _))
      with_reducible refine blk_put (cs := #[.bool s0, .bool e0, .int .u64 n0, .bool s1, .bool e1, .int .u64 n1]) ?_ 3 _ rfl
      (with_reducible repeat (first | exact hn_ | refine blk_drewN ?_ _ | refine blk_drew ?_ | refine blk_alloc ?_ _))
    have hM : W'.heap[w.heap.size + 1]? = some (.cells #[.int .u8 0, .bool true, .bool false, .bool ea, .int .u64 nd] 35 (0, 0)) := by
      rw [hW']
      have hn_ := blk_new (w.alloc (.cells #[.bool s0, .bool e0, .int .u64 n0, .bool s1, .bool e1, .int .u64 n1] 29)) (.cells #[.int .u8 0, .bool true, .bool false, .bool ea, .int .u64 nd] 35)
      try simp only [World.size_alloc] at hn_
      (with_reducible repeat (first | exact hn_ | refine blk_drewN ?_ _ | refine blk_drew ?_ | refine blk_alloc ?_ _))
      with_reducible refine blk_far ?_ (by simp) _
      (with_reducible repeat (first | exact hn_ | refine blk_drewN ?_ _ | refine blk_drew ?_ | refine blk_alloc ?_ _))
      with_reducible refine blk_far ?_ (by simp) _
      (with_reducible repeat (first | exact hn_ | refine blk_drewN ?_ _ | refine blk_drew ?_ | refine blk_alloc ?_ _))
      with_reducible refine blk_far ?_ (by simp) _
      (with_reducible repeat (first | exact hn_ | refine blk_drewN ?_ _ | refine blk_drew ?_ | refine blk_alloc ?_ _))
    have hR : W'.heap[w.heap.size + 1 + 1]? = some (.cells #[.bool false, .bool false, .int .u64 0, .bool false, .bool false, .int .u64 0] 29 (0, 0)) := by
      rw [hW']
      have hn_ := blk_new ((w.alloc (.cells #[.bool s0, .bool e0, .int .u64 n0, .bool s1, .bool e1, .int .u64 n1] 29)).alloc (.cells #[.int .u8 0, .bool true, .bool false, .bool ea, .int .u64 nd] 35)) (.cells #[.bool false, .bool false, .int .u64 0, .bool false, .bool false, .int .u64 0] 29)
      try simp only [World.size_alloc] at hn_
      (with_reducible repeat (first | exact hn_ | refine blk_drewN ?_ _ | refine blk_drew ?_ | refine blk_alloc ?_ _))
      with_reducible refine blk_far ?_ (by simp; omega) _
      (with_reducible repeat (first | exact hn_ | refine blk_drewN ?_ _ | refine blk_drew ?_ | refine blk_alloc ?_ _))
      with_reducible refine blk_far ?_ (by simp; omega) _
      (with_reducible repeat (first | exact hn_ | refine blk_drewN ?_ _ | refine blk_drew ?_ | refine blk_alloc ?_ _))
      with_reducible refine blk_far ?_ (by simp; omega) _
      (with_reducible repeat (first | exact hn_ | refine blk_drewN ?_ _ | refine blk_drew ?_ | refine blk_alloc ?_ _))
    have hX : W'.heap[w.heap.size + 1 + 1 + 1]? = some (.cells #[.bool true, .bool ea, .int .u64 nd] 27 (0, 0)) := by
      rw [hW']
      have hn_ := blk_new (((w.alloc (.cells #[.bool s0, .bool e0, .int .u64 n0, .bool s1, .bool e1, .int .u64 n1] 29)).alloc (.cells #[.int .u8 0, .bool true, .bool false, .bool ea, .int .u64 nd] 35)).alloc (.cells #[.bool false, .bool false, .int .u64 0, .bool false, .bool false, .int .u64 0] 29)) (.cells #[.bool true, .bool ea, .int .u64 nd] 27)
      try simp only [World.size_alloc] at hn_
      (with_reducible repeat (first | exact hn_ | refine blk_drewN ?_ _ | refine blk_drew ?_ | refine blk_alloc ?_ _))
      with_reducible refine blk_far ?_ (by simp; omega) _
      (with_reducible repeat (first | exact hn_ | refine blk_drewN ?_ _ | refine blk_drew ?_ | refine blk_alloc ?_ _))
      with_reducible refine blk_far ?_ (by simp; omega) _
      (with_reducible repeat (first | exact hn_ | refine blk_drewN ?_ _ | refine blk_drew ?_ | refine blk_alloc ?_ _))
      with_reducible refine blk_far ?_ (by simp; omega) _
      (with_reducible repeat (first | exact hn_ | refine blk_drewN ?_ _ | refine blk_drew ?_ | refine blk_alloc ?_ _))
    clear hW'
    have cp0 : W'.cell? ⟨w.heap.size, 0, none⟩ = some (.bool s0) := (blk_cell hP 0).trans rfl
    have cp1 : W'.cell? ⟨w.heap.size, 1, none⟩ = some (.bool e0) := (blk_cell hP 1).trans rfl
    have cp2 : W'.cell? ⟨w.heap.size, 2, none⟩ = some (.int .u64 n0) := (blk_cell hP 2).trans rfl
    have cp3 : W'.cell? ⟨w.heap.size, 3, none⟩ = some (.bool true) := (blk_cell hP 3).trans rfl
    have cp4 : W'.cell? ⟨w.heap.size, 4, none⟩ = some (.bool ea) := (blk_cell hP 4).trans rfl
    have cp5 : W'.cell? ⟨w.heap.size, 5, none⟩ = some (.int .u64 nd) := (blk_cell hP 5).trans rfl
    have cm0 : W'.cell? ⟨w.heap.size + 1, 0, none⟩ = some (.int .u8 0) := (blk_cell hM 0).trans rfl
    have cm1 : W'.cell? ⟨w.heap.size + 1, 1, none⟩ = some (.bool true) := (blk_cell hM 1).trans rfl
    have cm2 : W'.cell? ⟨w.heap.size + 1, 2, none⟩ = some (.bool false) := (blk_cell hM 2).trans rfl
    have cm3 : W'.cell? ⟨w.heap.size + 1, 3, none⟩ = some (.bool ea) := (blk_cell hM 3).trans rfl
    have cm4 : W'.cell? ⟨w.heap.size + 1, 4, none⟩ = some (.int .u64 nd) := (blk_cell hM 4).trans rfl
    have cr0 : W'.cell? ⟨w.heap.size + 1 + 1, 0, none⟩ = some (.bool false) := (blk_cell hR 0).trans rfl
    have cr1 : W'.cell? ⟨w.heap.size + 1 + 1, 1, none⟩ = some (.bool false) := (blk_cell hR 1).trans rfl
    have cr2 : W'.cell? ⟨w.heap.size + 1 + 1, 2, none⟩ = some (.int .u64 0) := (blk_cell hR 2).trans rfl
    have cr3 : W'.cell? ⟨w.heap.size + 1 + 1, 3, none⟩ = some (.bool false) := (blk_cell hR 3).trans rfl
    have cr4 : W'.cell? ⟨w.heap.size + 1 + 1, 4, none⟩ = some (.bool false) := (blk_cell hR 4).trans rfl
    have cr5 : W'.cell? ⟨w.heap.size + 1 + 1, 5, none⟩ = some (.int .u64 0) := (blk_cell hR 5).trans rfl
    have cx0 : W'.cell? ⟨w.heap.size + 1 + 1 + 1, 0, none⟩ = some (.bool true) := (blk_cell hX 0).trans rfl
    have cx1 : W'.cell? ⟨w.heap.size + 1 + 1 + 1, 1, none⟩ = some (.bool ea) := (blk_cell hX 1).trans rfl
    have cx2 : W'.cell? ⟨w.heap.size + 1 + 1 + 1, 2, none⟩ = some (.int .u64 nd) := (blk_cell hX 2).trans rfl
    have f0 := blk_frozen hR 0
    have f1 := blk_frozen hR 1
    have f2 := blk_frozen hR 2
    have f3 := blk_frozen hR 3
    have f4 := blk_frozen hR 4
    have f5 := blk_frozen hR 5
    have hlt := blk_lt hX
    go_region
    all_goals (try go_wp2)
    all_goals refine flush_Pairs_Hear.post_W (fun W3 hW3 => ?_)
    all_goals
      have hB3 : Below w.heap.size w W3 := by
        rw [hW3]
        repeat (with_reducible first | exact hBel | apply below_alloc | apply below_drew1 | apply pw_below_drewN | refine flush_Pairs_Hear.set_b ?_ (by simp; omega) _)
      have hR3 : W3.heap[w.heap.size + 1 + 1]? = some (.cells #[.bool s0, .bool e0, .int .u64 n0, .bool true, .bool ea, .int .u64 nd] 29 (0, 0)) := by
        rw [hW3]
        have hn_ := hR
        (with_reducible repeat (first | exact hn_ | refine blk_drewN ?_ _ | refine blk_drew ?_ | refine blk_alloc ?_ _))
        with_reducible refine blk_put (cs := #[.bool s0, .bool e0, .int .u64 n0, .bool true, .bool ea, .int .u64 0]) ?_ 5 _ rfl
        (with_reducible repeat (first | exact hn_ | refine blk_drewN ?_ _ | refine blk_drew ?_ | refine blk_alloc ?_ _))
        with_reducible refine blk_put (cs := #[.bool s0, .bool e0, .int .u64 n0, .bool true, .bool false, .int .u64 0]) ?_ 4 _ rfl
        (with_reducible repeat (first | exact hn_ | refine blk_drewN ?_ _ | refine blk_drew ?_ | refine blk_alloc ?_ _))
        with_reducible refine blk_put (cs := #[.bool s0, .bool e0, .int .u64 n0, .bool false, .bool false, .int .u64 0]) ?_ 3 _ rfl
        (with_reducible repeat (first | exact hn_ | refine blk_drewN ?_ _ | refine blk_drew ?_ | refine blk_alloc ?_ _))
        with_reducible refine blk_put (cs := #[.bool s0, .bool e0, .int .u64 0, .bool false, .bool false, .int .u64 0]) ?_ 2 _ rfl
        (with_reducible repeat (first | exact hn_ | refine blk_drewN ?_ _ | refine blk_drew ?_ | refine blk_alloc ?_ _))
        with_reducible refine blk_put (cs := #[.bool s0, .bool false, .int .u64 0, .bool false, .bool false, .int .u64 0]) ?_ 1 _ rfl
        (with_reducible repeat (first | exact hn_ | refine blk_drewN ?_ _ | refine blk_drew ?_ | refine blk_alloc ?_ _))
        with_reducible refine blk_put (cs := #[.bool false, .bool false, .int .u64 0, .bool false, .bool false, .int .u64 0]) ?_ 0 _ rfl
        (with_reducible repeat (first | exact hn_ | refine blk_drewN ?_ _ | refine blk_drew ?_ | refine blk_alloc ?_ _))
      have z0 : W3.cell? ⟨w.heap.size + 1 + 1, 0, none⟩ = some (.bool s0) := (blk_cell hR3 0).trans rfl
      have z1 : W3.cell? ⟨w.heap.size + 1 + 1, 1, none⟩ = some (.bool e0) := (blk_cell hR3 1).trans rfl
      have z2 : W3.cell? ⟨w.heap.size + 1 + 1, 2, none⟩ = some (.int .u64 n0) := (blk_cell hR3 2).trans rfl
      have z3 : W3.cell? ⟨w.heap.size + 1 + 1, 3, none⟩ = some (.bool true) := (blk_cell hR3 3).trans rfl
      have z4 : W3.cell? ⟨w.heap.size + 1 + 1, 4, none⟩ = some (.bool ea) := (blk_cell hR3 4).trans rfl
      have z5 : W3.cell? ⟨w.heap.size + 1 + 1, 5, none⟩ = some (.int .u64 nd) := (blk_cell hR3 5).trans rfl
      exact bodyPost_ret (v := .tuple #[.agg #[.bool s0, .bool e0, .int .u64 n0, .bool true, .bool ea, .int .u64 nd], .bool (!s0 || (!e0 == ea || !n0 == nd))]) (by simp [results, Try.results6, go_sem, z0, z1, z2, z3, z4, z5]) rfl ⟨rfl, hB3⟩
theorem flush_Pairs_Hear.calls (a0_0 a0_1 : Bool) (a0_2 : Int) (a0_3 a0_4 : Bool) (a0_5 a1 a2_0 : Int) (a2_1 a2_2 a2_3 : Bool) (a2_4 : Int) (r1 r2 : Bool) (r3 : Int) (r4 r5 : Bool) (r6 : Int) (r7 : Bool) (w : World) (h : flush_Pairs_Hear.f a0_0 a0_1 a0_2 a0_3 a0_4 a0_5 a1 a2_0 a2_1 a2_2 a2_3 a2_4 = some (r1, r2, r3, r4, r5, r6, r7)) :
    Calls Try.prog 6 #[.agg #[.bool a0_0, .bool a0_1, .int .u64 a0_2, .bool a0_3, .bool a0_4, .int .u64 a0_5], .int .i64 a1, .agg #[.int .u8 a2_0, .bool a2_1, .bool a2_2, .bool a2_3, .int .u64 a2_4]] w fun e w' => e = .returned (.tuple #[.agg #[.bool r1, .bool r2, .int .u64 r3, .bool r4, .bool r5, .int .u64 r6], .bool r7]) ∧ Below w.heap.size w w' := by
  unfold flush_Pairs_Hear.f flush_Pairs_Hear.one at h
  by_cases p0 : a1 = 0
  · subst p0
    simp only [if_true] at h
    by_cases hW : (a2_0 == 0 && !a2_1) = true
    · rw [if_pos hW] at h
      simp only [Bool.and_eq_true, beq_iff_eq, Bool.not_eq_true'] at hW
      obtain ⟨h1, h2⟩ := hW
      subst h1; subst h2
      simp only [Option.some.injEq, Prod.mk.injEq] at h
      obtain ⟨rfl, rfl, rfl, rfl, rfl, rfl, rfl⟩ := h
      exact flush_Pairs_Hear.w0 _ _ _ _ _ _ _ _ _ w
    · rw [if_neg hW] at h
      have hW2 : (a2_0 == 0) = false ∨ (a2_0 = 0 ∧ a2_1 = true) := by
        by_cases hz : a2_0 = 0
        · right; subst hz; exact ⟨rfl, by cases a2_1 <;> simp_all⟩
        · left; simpa using hz
      by_cases hE : (a0_0 && (a0_1 == a2_3 && a0_2 == a2_4)) = true
      · rw [if_pos hE] at h
        simp only [Option.some.injEq, Prod.mk.injEq] at h
        obtain ⟨rfl, rfl, rfl, rfl, rfl, rfl, rfl⟩ := h
        exact flush_Pairs_Hear.s0 _ _ _ _ _ _ _ _ _ _ _ w hW2 hE
      · rw [if_neg hE] at h
        have hE2 : (a0_0 && (a0_1 == a2_3 && a0_2 == a2_4)) = false := Bool.eq_false_iff.2 hE
        simp only [Option.some.injEq, Prod.mk.injEq] at h
        obtain ⟨rfl, rfl, rfl, rfl, rfl, rfl, rfl⟩ := h
        cases a2_2
        · exact flush_Pairs_Hear.d0f _ _ _ _ _ _ _ _ _ _ w hW2 hE2
        · exact flush_Pairs_Hear.d0t _ _ _ _ _ _ _ _ _ _ w hW2 hE2
  by_cases p1 : a1 = 1
  · subst p1
    simp only [show ¬ ((1 : Int) = 0) from by decide, if_false, if_true] at h
    by_cases hW : (a2_0 == 0 && !a2_1) = true
    · rw [if_pos hW] at h
      simp only [Bool.and_eq_true, beq_iff_eq, Bool.not_eq_true'] at hW
      obtain ⟨h1, h2⟩ := hW
      subst h1; subst h2
      simp only [Option.some.injEq, Prod.mk.injEq] at h
      obtain ⟨rfl, rfl, rfl, rfl, rfl, rfl, rfl⟩ := h
      exact flush_Pairs_Hear.w1 _ _ _ _ _ _ _ _ _ w
    · rw [if_neg hW] at h
      have hW2 : (a2_0 == 0) = false ∨ (a2_0 = 0 ∧ a2_1 = true) := by
        by_cases hz : a2_0 = 0
        · right; subst hz; exact ⟨rfl, by cases a2_1 <;> simp_all⟩
        · left; simpa using hz
      by_cases hE : (a0_3 && (a0_4 == a2_3 && a0_5 == a2_4)) = true
      · rw [if_pos hE] at h
        simp only [Option.some.injEq, Prod.mk.injEq] at h
        obtain ⟨rfl, rfl, rfl, rfl, rfl, rfl, rfl⟩ := h
        exact flush_Pairs_Hear.s1 _ _ _ _ _ _ _ _ _ _ _ w hW2 hE
      · rw [if_neg hE] at h
        have hE2 : (a0_3 && (a0_4 == a2_3 && a0_5 == a2_4)) = false := Bool.eq_false_iff.2 hE
        simp only [Option.some.injEq, Prod.mk.injEq] at h
        obtain ⟨rfl, rfl, rfl, rfl, rfl, rfl, rfl⟩ := h
        cases a2_2
        · exact flush_Pairs_Hear.d1f _ _ _ _ _ _ _ _ _ _ w hW2 hE2
        · exact flush_Pairs_Hear.d1t _ _ _ _ _ _ _ _ _ _ w hW2 hE2
  · rw [if_neg p0, if_neg p1] at h
    simp only [Option.some.injEq, Prod.mk.injEq] at h
    obtain ⟨rfl, rfl, rfl, rfl, rfl, rfl, rfl⟩ := h
    exact flush_Pairs_Hear.far _ _ _ _ _ _ _ _ _ _ _ _ w p0 p1


end Go.Proofs.Ytbciaapkahfcaaa.PFlushHears
