/- The law WatchSends, walked by hand. -/
import Derived.Test.YtapicoienpbdfaaLAllWatchSends
import Derived.WalkKit
import Derived.Deep.LoopGhost
import Derived.Deep.RegionHeld3
import Derived.Lib.Hide
import Derived.WideLaws
namespace Go.Proofs.Ytapicoienpbdfaa.Se
open Go.RowKit Go.Proofs.Ytapicoienpbdfaa.PWatchSends Go.Proofs.YtapicoienpbdfaaW.PrintWords Go.Proofs.YtapicoienpbdfaaW.PrintLast Go.Proofs.YtapicoienpbdfaaW.PrintMore Go.Proofs.Ytapicoienpbdfaa Go.Proofs.Ytapicoienpbdfaa.LWatchSends
set_option linter.unusedVariables false
set_option linter.unusedSimpArgs false
theorem below_call {w W w1 : World} (h : Below w.heap.size w W) (hb : Below W.heap.size W w1) : Below w.heap.size w w1 := h.trans (hb.mono h.size)
theorem calls_W {P : Program} {f : FuncId} {args : Array Value} {Q : Ending → World → Prop} {W : World} (h : ∀ W', W' = W → Calls P f args W' Q) : Calls P f args W Q := h W rfl
theorem wi_W {P : Program} {C : Code} {Q : Exit → Act → World → Prop} {a : Act} {W : World} (h : ∀ W', W' = W → Code.wp P C Q a W') : Code.wp P C Q a W := h W rfl
theorem box10 {w W : World} {g : Nat} {o0 o1 o2 o3 o4 o5 o6 o7 o8 o9 : Value} (hx : W.heap[g]? = some (.cells #[o0, o1, o2, o3, o4, o5, o6, o7, o8, o9] 42 (0, 0))) (hg : w.heap.size ≤ g) (hB : Below w.heap.size w W) (n0 n1 n2 n3 n4 n5 n6 n7 n8 n9 : Value) (W' : World) (hW : W' = (((((((((W.setCell ⟨g, 0, none⟩ n0).setCell ⟨g, 1, none⟩ n1).setCell ⟨g, 2, none⟩ n2).setCell ⟨g, 3, none⟩ n3).setCell ⟨g, 4, none⟩ n4).setCell ⟨g, 5, none⟩ n5).setCell ⟨g, 6, none⟩ n6).setCell ⟨g, 7, none⟩ n7).setCell ⟨g, 8, none⟩ n8).setCell ⟨g, 9, none⟩ n9) :
    W'.heap[g]? = some (.cells #[n0, n1, n2, n3, n4, n5, n6, n7, n8, n9] 42 (0, 0)) ∧ Below w.heap.size w W' ∧ (∀ (g' : Nat) (cs : Array Value) (t : TypeId), g' ≠ g → W.heap[g']? = some (.cells cs t (0, 0)) → W'.heap[g']? = some (.cells cs t (0, 0))) := by
  have q0 := blk_put (cs' := #[n0, o1, o2, o3, o4, o5, o6, o7, o8, o9]) hx 0 n0 rfl
  have q1 := blk_put (cs' := #[n0, n1, o2, o3, o4, o5, o6, o7, o8, o9]) q0 1 n1 rfl
  have q2 := blk_put (cs' := #[n0, n1, n2, o3, o4, o5, o6, o7, o8, o9]) q1 2 n2 rfl
  have q3 := blk_put (cs' := #[n0, n1, n2, n3, o4, o5, o6, o7, o8, o9]) q2 3 n3 rfl
  have q4 := blk_put (cs' := #[n0, n1, n2, n3, n4, o5, o6, o7, o8, o9]) q3 4 n4 rfl
  have q5 := blk_put (cs' := #[n0, n1, n2, n3, n4, n5, o6, o7, o8, o9]) q4 5 n5 rfl
  have q6 := blk_put (cs' := #[n0, n1, n2, n3, n4, n5, n6, o7, o8, o9]) q5 6 n6 rfl
  have q7 := blk_put (cs' := #[n0, n1, n2, n3, n4, n5, n6, n7, o8, o9]) q6 7 n7 rfl
  have q8 := blk_put (cs' := #[n0, n1, n2, n3, n4, n5, n6, n7, n8, o9]) q7 8 n8 rfl
  have q9 := blk_put (cs' := #[n0, n1, n2, n3, n4, n5, n6, n7, n8, n9]) q8 9 n9 rfl
  subst hW
  exact ⟨q9, Below.setCell (Below.setCell (Below.setCell (Below.setCell (Below.setCell (Below.setCell (Below.setCell (Below.setCell (Below.setCell (Below.setCell (hB) hg _) hg _) hg _) hg _) hg _) hg _) hg _) hg _) hg _) hg _, fun g' cs t hne h => blk_far (blk_far (blk_far (blk_far (blk_far (blk_far (blk_far (blk_far (blk_far (blk_far (h) (by exact hne) _) (by exact hne) _) (by exact hne) _) (by exact hne) _) (by exact hne) _) (by exact hne) _) (by exact hne) _) (by exact hne) _) (by exact hne) _) (by exact hne) _⟩
theorem sl_step {n s : Int} {j : Nat} (hn : 1 ≤ n) (h1 : (j : Int) ≤ n * s) (h2 : n * s ≤ j) : (10 : Int) + j + n = 10 + n * (s + 1) ∧ ((j + 1 : Nat) : Int) ≤ n * (s + 1) ∧ n * (s + 1) < ((j + 1 : Nat) : Int) + n := by
  rw [Int.mul_add]
  omega
theorem sl_rem {n s : Int} {j : Nat} (hn : 1 ≤ n) (h1 : (j : Int) < n * s) (h2 : n * s < j + n) : ¬ (j : Int) % n = 0 := by
  intro hz
  have hd := Int.mul_ediv_add_emod (j : Int) n
  rw [hz] at hd
  have hlt : n * ((j : Int) / n) < n * s := by omega
  have hlt2 : n * (s - 1) < n * ((j : Int) / n) := by rw [Int.mul_sub]; omega
  have a1 := Int.lt_of_mul_lt_mul_left hlt (by omega)
  have a2 := Int.lt_of_mul_lt_mul_left hlt2 (by omega)
  omega
theorem sl_int (j : Nat) : Value.int .i64 ((j : Int) + 1) = Value.int .i64 ((j + 1 : Nat) : Int) := by simp
def wA (n x s : Int) (lost f : Bool) : Obj := .cells #[.int .u8 3, .int .u16 1, .int .u8 4, .string grp, .int .i64 n, .int .i64 10, .int .i64 x, .int .u64 s, .bool lost, .bool f] 42 (0, 0)
def wB (n : Int) : Obj := .cells #[.int .u8 3, .int .u16 2, .int .u8 4, .string grp, .int .i64 n, .int .i64 10, .int .i64 10, .int .u64 0, .bool false, .bool false] 42 (0, 0)
theorem tick_e (now n x s : Int) (l f : Bool) (hn : 1 ≤ n ∧ n ≤ 50) (h1 : 10 ≤ now) (h2 : now ≤ 1000000) (hs : 0 ≤ s ∧ s ≤ 1000000) (hx : now ≥ x) (w : World) : Calls Try.prog 26 #[.agg #[.int .u8 3, .int .u16 1, .int .u8 4, .string grp, .int .i64 n, .int .i64 10, .int .i64 x, .int .u64 s, .bool l, .bool f], .int .i64 now] w fun y w' => (∃ l2, y = .returned (.tuple #[.agg #[.int .u8 3, .int .u16 1, .int .u8 4, .string grp, .int .i64 n, .int .i64 10, .int .i64 (now + n), .int .u64 (s + 1), .bool l2, .bool f], .string (said l s)])) ∧ Below w.heap.size w w' :=
  (tick_c now n x s l f hn h1 h2 hs hx w).mono fun _ _ h => ⟨⟨_, h.1⟩, h.2⟩
theorem tick_m (now n x s : Int) (l f : Bool) (hn : 1 ≤ n ∧ n ≤ 50) (h1 : 10 ≤ now) (h2 : now ≤ 1000000) (hx : ¬ now ≥ x) (w : World) : Calls Try.prog 26 #[.agg #[.int .u8 3, .int .u16 1, .int .u8 4, .string grp, .int .i64 n, .int .i64 10, .int .i64 x, .int .u64 s, .bool l, .bool f], .int .i64 now] w fun y w' => (∃ l2, y = .returned (.tuple #[.agg #[.int .u8 3, .int .u16 1, .int .u8 4, .string grp, .int .i64 n, .int .i64 10, .int .i64 x, .int .u64 s, .bool l2, .bool f], .string (⟨#[]⟩ : ByteArray)])) ∧ Below w.heap.size w w' :=
  (tick_n now n x s l f hn h1 h2 hx w).mono fun _ _ h => ⟨⟨_, h.1⟩, h.2⟩
theorem hear_d (l : Bool) (s now n h x t : Int) (l2 f : Bool) (hs : 0 ≤ s ∧ s ≤ 1000000) (w : World) : Calls Try.prog 24 #[.agg #[.int .u8 3, .int .u16 2, .int .u8 4, .string grp, .int .i64 n, .int .i64 h, .int .i64 x, .int .u64 t, .bool l2, .bool f], .int .i64 now, .string (said l s)] w fun y w' => (∃ f2, y = .returned (.tuple #[.agg #[.int .u8 3, .int .u16 2, .int .u8 4, .string grp, .int .i64 n, .int .i64 now, .int .i64 x, .int .u64 t, .bool false, .bool f2], .int .i64 0])) ∧ Below w.heap.size w w' :=
  (hear_b l s now n h x t l2 f hs w).mono fun _ _ h => h.1.elim fun _ e => ⟨⟨_, e⟩, h.2⟩
def SL (Ba Bb : Nat) (n : Int) (w wr : World) (j : Nat) (s : Int) (lost f : Bool) : Prop := 0 ≤ s ∧ s ≤ j ∧ (j : Int) ≤ n * s ∧ n * s < j + n ∧ wr.heap[Ba]? = some (wA n (10 + n * s) s lost f) ∧ wr.heap[Bb]? = some (wB n) ∧ Below w.heap.size w wr
set_option maxHeartbeats 16000000 in
set_option maxRecDepth 100000 in
theorem sends (a t : Int) (w : World) (ha : 0 ≤ a ∧ a ≤ 255) (ht : 0 ≤ t ∧ t ≤ 65535) :
    Calls Try.prog 5 #[.int .u8 a, .int .u16 t] w fun e w' => e = .returned (.bool true) ∧ Below w.heap.size w w' := by
  have hu42 := Try.underlying42
  have hu62 := Try.underlying62
  go_enter Try.func5, Try.ntmps5
  go_wp2_with fail
  have hn : 1 ≤ a % 50 + 1 ∧ a % 50 + 1 ≤ 50 := by omega
  generalize a % 50 + 1 = n at hn ⊢
  have hm0 : 0 ≤ t % 400 := by omega
  have hm1 : t % 400 ≤ 399 := by omega
  have hB0 := Below.refl w.heap.size w
  refine (name_c _).mono ?_
  rintro e' w1 ⟨rfl, hb⟩
  have hB1 := below_call hB0 hb
  go_wp2_with fail
  refine (new_c 1 n (Or.inl rfl) hn _).mono ?_
  rintro e' w2 ⟨rfl, hb⟩
  have hB2 := below_call hB1 hb
  go_wp2_with fail
  refine calls_W (fun W3 hW3 => ?_)
  have hB3 : Below w.heap.size w W3 := by rw [hW3]; first | exact hB2 | exact below_alloc (hB2) _ | exact below_alloc (below_alloc (hB2) _) _ | exact below_alloc (below_alloc (below_alloc (hB2) _) _) _
  have ha3 : W3.heap[w2.heap.size]? = some (.cells #[.int .u8 3, .int .u16 1, .int .u8 4, .string grp, .int .i64 n, .int .i64 10, .int .i64 (10), .int .u64 (0), .bool false, .bool false] 42 (0, 0)) := by rw [hW3]; exact blk_new _ _
  clear hW3
  refine (name_c _).mono ?_
  rintro e' w4 ⟨rfl, hb⟩
  have ha4 := blk_below ha3 hb
  have hB4 := below_call hB3 hb
  have ta := blk_lt ha4
  have za0 : w4.cell? ⟨w2.heap.size, 0, none⟩ = some (.int .u8 3) := (blk_cell ha4 0).trans rfl
  have fa0 := blk_frozen ha4 0
  have za1 : w4.cell? ⟨w2.heap.size, 1, none⟩ = some (.int .u16 1) := (blk_cell ha4 1).trans rfl
  have fa1 := blk_frozen ha4 1
  have za2 : w4.cell? ⟨w2.heap.size, 2, none⟩ = some (.int .u8 4) := (blk_cell ha4 2).trans rfl
  have fa2 := blk_frozen ha4 2
  have za3 : w4.cell? ⟨w2.heap.size, 3, none⟩ = some (.string grp) := (blk_cell ha4 3).trans rfl
  have fa3 := blk_frozen ha4 3
  have za4 : w4.cell? ⟨w2.heap.size, 4, none⟩ = some (.int .i64 n) := (blk_cell ha4 4).trans rfl
  have fa4 := blk_frozen ha4 4
  have za5 : w4.cell? ⟨w2.heap.size, 5, none⟩ = some (.int .i64 10) := (blk_cell ha4 5).trans rfl
  have fa5 := blk_frozen ha4 5
  have za6 : w4.cell? ⟨w2.heap.size, 6, none⟩ = some (.int .i64 (10)) := (blk_cell ha4 6).trans rfl
  have fa6 := blk_frozen ha4 6
  have za7 : w4.cell? ⟨w2.heap.size, 7, none⟩ = some (.int .u64 (0)) := (blk_cell ha4 7).trans rfl
  have fa7 := blk_frozen ha4 7
  have za8 : w4.cell? ⟨w2.heap.size, 8, none⟩ = some (.bool false) := (blk_cell ha4 8).trans rfl
  have fa8 := blk_frozen ha4 8
  have za9 : w4.cell? ⟨w2.heap.size, 9, none⟩ = some (.bool false) := (blk_cell ha4 9).trans rfl
  have fa9 := blk_frozen ha4 9
  go_wp2_with fail
  refine calls_W (fun W5 hW5 => ?_)
  have ha5 : W5.heap[w2.heap.size]? = some (.cells #[.int .u8 3, .int .u16 1, .int .u8 4, .string grp, .int .i64 n, .int .i64 10, .int .i64 (10), .int .u64 (0), .bool false, .bool false] 42 (0, 0)) := by rw [hW5]; first | exact ha4 | exact blk_alloc (ha4) _ | exact blk_alloc (blk_alloc (ha4) _) _ | exact blk_alloc (blk_alloc (blk_alloc (ha4) _) _) _
  have hB5 : Below w.heap.size w W5 := by rw [hW5]; first | exact hB4 | exact below_alloc (hB4) _ | exact below_alloc (below_alloc (hB4) _) _ | exact below_alloc (below_alloc (below_alloc (hB4) _) _) _
  clear hW5
  clear ta za0 fa0 za1 fa1 za2 fa2 za3 fa3 za4 fa4 za5 fa5 za6 fa6 za7 fa7 za8 fa8 za9 fa9
  refine (new_c 2 n (Or.inr rfl) hn _).mono ?_
  rintro e' w6 ⟨rfl, hb⟩
  have ha6 := blk_below ha5 hb
  have hB6 := below_call hB5 hb
  have ta := blk_lt ha6
  have za0 : w6.cell? ⟨w2.heap.size, 0, none⟩ = some (.int .u8 3) := (blk_cell ha6 0).trans rfl
  have fa0 := blk_frozen ha6 0
  have za1 : w6.cell? ⟨w2.heap.size, 1, none⟩ = some (.int .u16 1) := (blk_cell ha6 1).trans rfl
  have fa1 := blk_frozen ha6 1
  have za2 : w6.cell? ⟨w2.heap.size, 2, none⟩ = some (.int .u8 4) := (blk_cell ha6 2).trans rfl
  have fa2 := blk_frozen ha6 2
  have za3 : w6.cell? ⟨w2.heap.size, 3, none⟩ = some (.string grp) := (blk_cell ha6 3).trans rfl
  have fa3 := blk_frozen ha6 3
  have za4 : w6.cell? ⟨w2.heap.size, 4, none⟩ = some (.int .i64 n) := (blk_cell ha6 4).trans rfl
  have fa4 := blk_frozen ha6 4
  have za5 : w6.cell? ⟨w2.heap.size, 5, none⟩ = some (.int .i64 10) := (blk_cell ha6 5).trans rfl
  have fa5 := blk_frozen ha6 5
  have za6 : w6.cell? ⟨w2.heap.size, 6, none⟩ = some (.int .i64 (10)) := (blk_cell ha6 6).trans rfl
  have fa6 := blk_frozen ha6 6
  have za7 : w6.cell? ⟨w2.heap.size, 7, none⟩ = some (.int .u64 (0)) := (blk_cell ha6 7).trans rfl
  have fa7 := blk_frozen ha6 7
  have za8 : w6.cell? ⟨w2.heap.size, 8, none⟩ = some (.bool false) := (blk_cell ha6 8).trans rfl
  have fa8 := blk_frozen ha6 8
  have za9 : w6.cell? ⟨w2.heap.size, 9, none⟩ = some (.bool false) := (blk_cell ha6 9).trans rfl
  have fa9 := blk_frozen ha6 9
  go_wp2_with fail
  have hab := Nat.ne_of_lt (blk_lt ha6)
  have hBb := hB6.size
  have hBa := hB2.size
  go_loopw [44] (fun i wr => ∃ (j : Nat) (s : Int) (lost f : Bool), (j : Int) ≤ t % 400 ∧ i = .int .i64 j ∧ SL w2.heap.size w6.heap.size n w wr j s lost f) (fun i _ => (t % 400).toNat - (intOf i).toNat)
  case atStart =>
    refine ⟨0, 0, false, false, hm0, rfl, by omega, by omega, by omega, by omega, ?_, blk_new w6 _, below_alloc hB6 _⟩
    rw [show (10 : Int) + n * 0 = 10 from by omega]
    exact blk_alloc ha6 _
  case round =>
    obtain ⟨j, s, lost, f, hj, rfl, hs0, hsj, hj1, hj2, hxa, hxb, hB⟩ := hrel
    clear ta za0 fa0 za1 fa1 za2 fa2 za3 fa3 za4 fa4 za5 fa5 za6 fa6 za7 fa7 za8 fa8 za9 fa9
    by_cases hlt : (j : Int) < t % 400
    · skip
      by_cases he : (j : Int) = n * s
      · skip
        have ha7 : wr.heap[w2.heap.size]? = some (.cells #[.int .u8 3, .int .u16 1, .int .u8 4, .string grp, .int .i64 n, .int .i64 10, .int .i64 (10 + n * s), .int .u64 (s), .bool lost, .bool f] 42 (0, 0)) := hxa
        have hb7 : wr.heap[w6.heap.size]? = some (.cells #[.int .u8 3, .int .u16 2, .int .u8 4, .string grp, .int .i64 n, .int .i64 10, .int .i64 10, .int .u64 0, .bool false, .bool false] 42 (0, 0)) := hxb
        have hB7 := hB
        clear hxa hxb hB
        have htm : Int.tmod (j : Int) n = 0 := by rw [Int.tmod_eq_emod_of_nonneg (by omega), he]; exact Int.mul_emod_right n s
        have htd : Int.tdiv (j : Int) n = s := by rw [Int.tdiv_eq_ediv_of_nonneg (by omega), he]; exact Int.mul_ediv_cancel_left s (by omega)
        have hem : (j : Int) % n = 0 := by rw [he]; exact Int.mul_emod_right n s
        have hed : (j : Int) / n = s := by rw [he]; exact Int.mul_ediv_cancel_left s (by omega)
        have hbn := said_bne lost s
        have hbl := said_list lost s
        have hn0 : (n = 0) = False := eq_false (by omega)
        have hjd : decide ((j : Int) < t % 400) = true := decide_eq_true hlt
        have he2 : n * s ≤ j := by omega
        clear he
        have ta := blk_lt ha7
        have za0 : wr.cell? ⟨w2.heap.size, 0, none⟩ = some (.int .u8 3) := (blk_cell ha7 0).trans rfl
        have fa0 := blk_frozen ha7 0
        have za1 : wr.cell? ⟨w2.heap.size, 1, none⟩ = some (.int .u16 1) := (blk_cell ha7 1).trans rfl
        have fa1 := blk_frozen ha7 1
        have za2 : wr.cell? ⟨w2.heap.size, 2, none⟩ = some (.int .u8 4) := (blk_cell ha7 2).trans rfl
        have fa2 := blk_frozen ha7 2
        have za3 : wr.cell? ⟨w2.heap.size, 3, none⟩ = some (.string grp) := (blk_cell ha7 3).trans rfl
        have fa3 := blk_frozen ha7 3
        have za4 : wr.cell? ⟨w2.heap.size, 4, none⟩ = some (.int .i64 n) := (blk_cell ha7 4).trans rfl
        have fa4 := blk_frozen ha7 4
        have za5 : wr.cell? ⟨w2.heap.size, 5, none⟩ = some (.int .i64 10) := (blk_cell ha7 5).trans rfl
        have fa5 := blk_frozen ha7 5
        have za6 : wr.cell? ⟨w2.heap.size, 6, none⟩ = some (.int .i64 (10 + n * s)) := (blk_cell ha7 6).trans rfl
        have fa6 := blk_frozen ha7 6
        have za7 : wr.cell? ⟨w2.heap.size, 7, none⟩ = some (.int .u64 (s)) := (blk_cell ha7 7).trans rfl
        have fa7 := blk_frozen ha7 7
        have za8 : wr.cell? ⟨w2.heap.size, 8, none⟩ = some (.bool lost) := (blk_cell ha7 8).trans rfl
        have fa8 := blk_frozen ha7 8
        have za9 : wr.cell? ⟨w2.heap.size, 9, none⟩ = some (.bool f) := (blk_cell ha7 9).trans rfl
        have fa9 := blk_frozen ha7 9
        have tb := blk_lt hb7
        have zb0 : wr.cell? ⟨w6.heap.size, 0, none⟩ = some (.int .u8 3) := (blk_cell hb7 0).trans rfl
        have fb0 := blk_frozen hb7 0
        have zb1 : wr.cell? ⟨w6.heap.size, 1, none⟩ = some (.int .u16 2) := (blk_cell hb7 1).trans rfl
        have fb1 := blk_frozen hb7 1
        have zb2 : wr.cell? ⟨w6.heap.size, 2, none⟩ = some (.int .u8 4) := (blk_cell hb7 2).trans rfl
        have fb2 := blk_frozen hb7 2
        have zb3 : wr.cell? ⟨w6.heap.size, 3, none⟩ = some (.string grp) := (blk_cell hb7 3).trans rfl
        have fb3 := blk_frozen hb7 3
        have zb4 : wr.cell? ⟨w6.heap.size, 4, none⟩ = some (.int .i64 n) := (blk_cell hb7 4).trans rfl
        have fb4 := blk_frozen hb7 4
        have zb5 : wr.cell? ⟨w6.heap.size, 5, none⟩ = some (.int .i64 10) := (blk_cell hb7 5).trans rfl
        have fb5 := blk_frozen hb7 5
        have zb6 : wr.cell? ⟨w6.heap.size, 6, none⟩ = some (.int .i64 10) := (blk_cell hb7 6).trans rfl
        have fb6 := blk_frozen hb7 6
        have zb7 : wr.cell? ⟨w6.heap.size, 7, none⟩ = some (.int .u64 0) := (blk_cell hb7 7).trans rfl
        have fb7 := blk_frozen hb7 7
        have zb8 : wr.cell? ⟨w6.heap.size, 8, none⟩ = some (.bool false) := (blk_cell hb7 8).trans rfl
        have fb8 := blk_frozen hb7 8
        have zb9 : wr.cell? ⟨w6.heap.size, 9, none⟩ = some (.bool false) := (blk_cell hb7 9).trans rfl
        have fb9 := blk_frozen hb7 9
        go_wp2_with fail
        refine calls_W (fun W8 hW8 => ?_)
        have ha8 : W8.heap[w2.heap.size]? = some (.cells #[.int .u8 3, .int .u16 1, .int .u8 4, .string grp, .int .i64 n, .int .i64 10, .int .i64 (10 + n * s), .int .u64 (s), .bool lost, .bool f] 42 (0, 0)) := by rw [hW8]; first | exact ha7 | exact blk_alloc (ha7) _ | exact blk_alloc (blk_alloc (ha7) _) _ | exact blk_alloc (blk_alloc (blk_alloc (ha7) _) _) _
        have hb8 : W8.heap[w6.heap.size]? = some (.cells #[.int .u8 3, .int .u16 2, .int .u8 4, .string grp, .int .i64 n, .int .i64 10, .int .i64 10, .int .u64 0, .bool false, .bool false] 42 (0, 0)) := by rw [hW8]; first | exact hb7 | exact blk_alloc (hb7) _ | exact blk_alloc (blk_alloc (hb7) _) _ | exact blk_alloc (blk_alloc (blk_alloc (hb7) _) _) _
        have hB8 : Below w.heap.size w W8 := by rw [hW8]; first | exact hB7 | exact below_alloc (hB7) _ | exact below_alloc (below_alloc (hB7) _) _ | exact below_alloc (below_alloc (below_alloc (hB7) _) _) _
        clear hW8
        clear ta za0 fa0 za1 fa1 za2 fa2 za3 fa3 za4 fa4 za5 fa5 za6 fa6 za7 fa7 za8 fa8 za9 fa9 tb zb0 fb0 zb1 fb1 zb2 fb2 zb3 fb3 zb4 fb4 zb5 fb5 zb6 fb6 zb7 fb7 zb8 fb8 zb9 fb9
        refine (tick_e (10 + j) n (10 + n * s) s lost f hn (by omega) (by omega) ⟨hs0, by omega⟩ (by omega) _).mono ?_
        rintro e' w9 ⟨⟨l2, rfl⟩, hb⟩
        have ha9 := blk_below ha8 hb
        have hb9 := blk_below hb8 hb
        have hB9 := below_call hB8 hb
        have hbe : (said lost s).toList.isEmpty = false := by cases h : (said lost s).toList.isEmpty with | false => rfl | true => exact ((said_list lost s).mp (List.isEmpty_iff.1 h)).elim
        have ta := blk_lt ha9
        have za0 : w9.cell? ⟨w2.heap.size, 0, none⟩ = some (.int .u8 3) := (blk_cell ha9 0).trans rfl
        have fa0 := blk_frozen ha9 0
        have za1 : w9.cell? ⟨w2.heap.size, 1, none⟩ = some (.int .u16 1) := (blk_cell ha9 1).trans rfl
        have fa1 := blk_frozen ha9 1
        have za2 : w9.cell? ⟨w2.heap.size, 2, none⟩ = some (.int .u8 4) := (blk_cell ha9 2).trans rfl
        have fa2 := blk_frozen ha9 2
        have za3 : w9.cell? ⟨w2.heap.size, 3, none⟩ = some (.string grp) := (blk_cell ha9 3).trans rfl
        have fa3 := blk_frozen ha9 3
        have za4 : w9.cell? ⟨w2.heap.size, 4, none⟩ = some (.int .i64 n) := (blk_cell ha9 4).trans rfl
        have fa4 := blk_frozen ha9 4
        have za5 : w9.cell? ⟨w2.heap.size, 5, none⟩ = some (.int .i64 10) := (blk_cell ha9 5).trans rfl
        have fa5 := blk_frozen ha9 5
        have za6 : w9.cell? ⟨w2.heap.size, 6, none⟩ = some (.int .i64 (10 + n * s)) := (blk_cell ha9 6).trans rfl
        have fa6 := blk_frozen ha9 6
        have za7 : w9.cell? ⟨w2.heap.size, 7, none⟩ = some (.int .u64 (s)) := (blk_cell ha9 7).trans rfl
        have fa7 := blk_frozen ha9 7
        have za8 : w9.cell? ⟨w2.heap.size, 8, none⟩ = some (.bool lost) := (blk_cell ha9 8).trans rfl
        have fa8 := blk_frozen ha9 8
        have za9 : w9.cell? ⟨w2.heap.size, 9, none⟩ = some (.bool f) := (blk_cell ha9 9).trans rfl
        have fa9 := blk_frozen ha9 9
        have tb := blk_lt hb9
        have zb0 : w9.cell? ⟨w6.heap.size, 0, none⟩ = some (.int .u8 3) := (blk_cell hb9 0).trans rfl
        have fb0 := blk_frozen hb9 0
        have zb1 : w9.cell? ⟨w6.heap.size, 1, none⟩ = some (.int .u16 2) := (blk_cell hb9 1).trans rfl
        have fb1 := blk_frozen hb9 1
        have zb2 : w9.cell? ⟨w6.heap.size, 2, none⟩ = some (.int .u8 4) := (blk_cell hb9 2).trans rfl
        have fb2 := blk_frozen hb9 2
        have zb3 : w9.cell? ⟨w6.heap.size, 3, none⟩ = some (.string grp) := (blk_cell hb9 3).trans rfl
        have fb3 := blk_frozen hb9 3
        have zb4 : w9.cell? ⟨w6.heap.size, 4, none⟩ = some (.int .i64 n) := (blk_cell hb9 4).trans rfl
        have fb4 := blk_frozen hb9 4
        have zb5 : w9.cell? ⟨w6.heap.size, 5, none⟩ = some (.int .i64 10) := (blk_cell hb9 5).trans rfl
        have fb5 := blk_frozen hb9 5
        have zb6 : w9.cell? ⟨w6.heap.size, 6, none⟩ = some (.int .i64 10) := (blk_cell hb9 6).trans rfl
        have fb6 := blk_frozen hb9 6
        have zb7 : w9.cell? ⟨w6.heap.size, 7, none⟩ = some (.int .u64 0) := (blk_cell hb9 7).trans rfl
        have fb7 := blk_frozen hb9 7
        have zb8 : w9.cell? ⟨w6.heap.size, 8, none⟩ = some (.bool false) := (blk_cell hb9 8).trans rfl
        have fb8 := blk_frozen hb9 8
        have zb9 : w9.cell? ⟨w6.heap.size, 9, none⟩ = some (.bool false) := (blk_cell hb9 9).trans rfl
        have fb9 := blk_frozen hb9 9
        go_wp2_with fail
        refine calls_W (fun W10 hW10 => ?_)
        have ha10 : W10.heap[w2.heap.size]? = some (.cells #[.int .u8 3, .int .u16 1, .int .u8 4, .string grp, .int .i64 n, .int .i64 10, .int .i64 (10 + n * s), .int .u64 (s), .bool lost, .bool f] 42 (0, 0)) := by rw [hW10]; first | exact ha9 | exact blk_alloc (ha9) _ | exact blk_alloc (blk_alloc (ha9) _) _ | exact blk_alloc (blk_alloc (blk_alloc (ha9) _) _) _
        have hb10 : W10.heap[w6.heap.size]? = some (.cells #[.int .u8 3, .int .u16 2, .int .u8 4, .string grp, .int .i64 n, .int .i64 10, .int .i64 10, .int .u64 0, .bool false, .bool false] 42 (0, 0)) := by rw [hW10]; first | exact hb9 | exact blk_alloc (hb9) _ | exact blk_alloc (blk_alloc (hb9) _) _ | exact blk_alloc (blk_alloc (blk_alloc (hb9) _) _) _
        have hB10 : Below w.heap.size w W10 := by rw [hW10]; first | exact hB9 | exact below_alloc (hB9) _ | exact below_alloc (below_alloc (hB9) _) _ | exact below_alloc (below_alloc (below_alloc (hB9) _) _) _
        have hc10 : W10.heap[w9.heap.size]? = some (.cells #[.int .u8 3, .int .u16 1, .int .u8 4, .string grp, .int .i64 n, .int .i64 10, .int .i64 (10 + j + n), .int .u64 (s + 1), .bool l2, .bool f] 42 (0, 0)) := by rw [hW10]; exact blk_new _ _
        clear hW10
        clear ta za0 fa0 za1 fa1 za2 fa2 za3 fa3 za4 fa4 za5 fa5 za6 fa6 za7 fa7 za8 fa8 za9 fa9 tb zb0 fb0 zb1 fb1 zb2 fb2 zb3 fb3 zb4 fb4 zb5 fb5 zb6 fb6 zb7 fb7 zb8 fb8 zb9 fb9
        refine (open_c lost s ⟨hs0, by omega⟩ _).mono ?_
        rintro e' w11 ⟨rfl, hb⟩
        have ha11 := blk_below ha10 hb
        have hb11 := blk_below hb10 hb
        have hc11 := blk_below hc10 hb
        have hB11 := below_call hB10 hb
        have ta := blk_lt ha11
        have za0 : w11.cell? ⟨w2.heap.size, 0, none⟩ = some (.int .u8 3) := (blk_cell ha11 0).trans rfl
        have fa0 := blk_frozen ha11 0
        have za1 : w11.cell? ⟨w2.heap.size, 1, none⟩ = some (.int .u16 1) := (blk_cell ha11 1).trans rfl
        have fa1 := blk_frozen ha11 1
        have za2 : w11.cell? ⟨w2.heap.size, 2, none⟩ = some (.int .u8 4) := (blk_cell ha11 2).trans rfl
        have fa2 := blk_frozen ha11 2
        have za3 : w11.cell? ⟨w2.heap.size, 3, none⟩ = some (.string grp) := (blk_cell ha11 3).trans rfl
        have fa3 := blk_frozen ha11 3
        have za4 : w11.cell? ⟨w2.heap.size, 4, none⟩ = some (.int .i64 n) := (blk_cell ha11 4).trans rfl
        have fa4 := blk_frozen ha11 4
        have za5 : w11.cell? ⟨w2.heap.size, 5, none⟩ = some (.int .i64 10) := (blk_cell ha11 5).trans rfl
        have fa5 := blk_frozen ha11 5
        have za6 : w11.cell? ⟨w2.heap.size, 6, none⟩ = some (.int .i64 (10 + n * s)) := (blk_cell ha11 6).trans rfl
        have fa6 := blk_frozen ha11 6
        have za7 : w11.cell? ⟨w2.heap.size, 7, none⟩ = some (.int .u64 (s)) := (blk_cell ha11 7).trans rfl
        have fa7 := blk_frozen ha11 7
        have za8 : w11.cell? ⟨w2.heap.size, 8, none⟩ = some (.bool lost) := (blk_cell ha11 8).trans rfl
        have fa8 := blk_frozen ha11 8
        have za9 : w11.cell? ⟨w2.heap.size, 9, none⟩ = some (.bool f) := (blk_cell ha11 9).trans rfl
        have fa9 := blk_frozen ha11 9
        have tb := blk_lt hb11
        have zb0 : w11.cell? ⟨w6.heap.size, 0, none⟩ = some (.int .u8 3) := (blk_cell hb11 0).trans rfl
        have fb0 := blk_frozen hb11 0
        have zb1 : w11.cell? ⟨w6.heap.size, 1, none⟩ = some (.int .u16 2) := (blk_cell hb11 1).trans rfl
        have fb1 := blk_frozen hb11 1
        have zb2 : w11.cell? ⟨w6.heap.size, 2, none⟩ = some (.int .u8 4) := (blk_cell hb11 2).trans rfl
        have fb2 := blk_frozen hb11 2
        have zb3 : w11.cell? ⟨w6.heap.size, 3, none⟩ = some (.string grp) := (blk_cell hb11 3).trans rfl
        have fb3 := blk_frozen hb11 3
        have zb4 : w11.cell? ⟨w6.heap.size, 4, none⟩ = some (.int .i64 n) := (blk_cell hb11 4).trans rfl
        have fb4 := blk_frozen hb11 4
        have zb5 : w11.cell? ⟨w6.heap.size, 5, none⟩ = some (.int .i64 10) := (blk_cell hb11 5).trans rfl
        have fb5 := blk_frozen hb11 5
        have zb6 : w11.cell? ⟨w6.heap.size, 6, none⟩ = some (.int .i64 10) := (blk_cell hb11 6).trans rfl
        have fb6 := blk_frozen hb11 6
        have zb7 : w11.cell? ⟨w6.heap.size, 7, none⟩ = some (.int .u64 0) := (blk_cell hb11 7).trans rfl
        have fb7 := blk_frozen hb11 7
        have zb8 : w11.cell? ⟨w6.heap.size, 8, none⟩ = some (.bool false) := (blk_cell hb11 8).trans rfl
        have fb8 := blk_frozen hb11 8
        have zb9 : w11.cell? ⟨w6.heap.size, 9, none⟩ = some (.bool false) := (blk_cell hb11 9).trans rfl
        have fb9 := blk_frozen hb11 9
        have tc := blk_lt hc11
        have zc0 : w11.cell? ⟨w9.heap.size, 0, none⟩ = some (.int .u8 3) := (blk_cell hc11 0).trans rfl
        have fc0 := blk_frozen hc11 0
        have zc1 : w11.cell? ⟨w9.heap.size, 1, none⟩ = some (.int .u16 1) := (blk_cell hc11 1).trans rfl
        have fc1 := blk_frozen hc11 1
        have zc2 : w11.cell? ⟨w9.heap.size, 2, none⟩ = some (.int .u8 4) := (blk_cell hc11 2).trans rfl
        have fc2 := blk_frozen hc11 2
        have zc3 : w11.cell? ⟨w9.heap.size, 3, none⟩ = some (.string grp) := (blk_cell hc11 3).trans rfl
        have fc3 := blk_frozen hc11 3
        have zc4 : w11.cell? ⟨w9.heap.size, 4, none⟩ = some (.int .i64 n) := (blk_cell hc11 4).trans rfl
        have fc4 := blk_frozen hc11 4
        have zc5 : w11.cell? ⟨w9.heap.size, 5, none⟩ = some (.int .i64 10) := (blk_cell hc11 5).trans rfl
        have fc5 := blk_frozen hc11 5
        have zc6 : w11.cell? ⟨w9.heap.size, 6, none⟩ = some (.int .i64 (10 + j + n)) := (blk_cell hc11 6).trans rfl
        have fc6 := blk_frozen hc11 6
        have zc7 : w11.cell? ⟨w9.heap.size, 7, none⟩ = some (.int .u64 (s + 1)) := (blk_cell hc11 7).trans rfl
        have fc7 := blk_frozen hc11 7
        have zc8 : w11.cell? ⟨w9.heap.size, 8, none⟩ = some (.bool l2) := (blk_cell hc11 8).trans rfl
        have fc8 := blk_frozen hc11 8
        have zc9 : w11.cell? ⟨w9.heap.size, 9, none⟩ = some (.bool f) := (blk_cell hc11 9).trans rfl
        have fc9 := blk_frozen hc11 9
        go_wp2_with fail
        refine calls_W (fun W12 hW12 => ?_)
        have ha12 : W12.heap[w2.heap.size]? = some (.cells #[.int .u8 3, .int .u16 1, .int .u8 4, .string grp, .int .i64 n, .int .i64 10, .int .i64 (10 + n * s), .int .u64 (s), .bool lost, .bool f] 42 (0, 0)) := by rw [hW12]; first | exact ha11 | exact blk_alloc (ha11) _ | exact blk_alloc (blk_alloc (ha11) _) _ | exact blk_alloc (blk_alloc (blk_alloc (ha11) _) _) _
        have hb12 : W12.heap[w6.heap.size]? = some (.cells #[.int .u8 3, .int .u16 2, .int .u8 4, .string grp, .int .i64 n, .int .i64 10, .int .i64 10, .int .u64 0, .bool false, .bool false] 42 (0, 0)) := by rw [hW12]; first | exact hb11 | exact blk_alloc (hb11) _ | exact blk_alloc (blk_alloc (hb11) _) _ | exact blk_alloc (blk_alloc (blk_alloc (hb11) _) _) _
        have hc12 : W12.heap[w9.heap.size]? = some (.cells #[.int .u8 3, .int .u16 1, .int .u8 4, .string grp, .int .i64 n, .int .i64 10, .int .i64 (10 + j + n), .int .u64 (s + 1), .bool l2, .bool f] 42 (0, 0)) := by rw [hW12]; first | exact hc11 | exact blk_alloc (hc11) _ | exact blk_alloc (blk_alloc (hc11) _) _ | exact blk_alloc (blk_alloc (blk_alloc (hc11) _) _) _
        have hB12 : Below w.heap.size w W12 := by rw [hW12]; first | exact hB11 | exact below_alloc (hB11) _ | exact below_alloc (below_alloc (hB11) _) _ | exact below_alloc (below_alloc (below_alloc (hB11) _) _) _
        have hm12 : W12.heap[w11.heap.size]? = some (.cells #[.bool lost, .int .u8 4, .int .u32 s, .int .u16 1, .string grp] 62 (0, 0)) := by rw [hW12]; exact blk_new _ _
        clear hW12
        clear ta za0 fa0 za1 fa1 za2 fa2 za3 fa3 za4 fa4 za5 fa5 za6 fa6 za7 fa7 za8 fa8 za9 fa9 tb zb0 fb0 zb1 fb1 zb2 fb2 zb3 fb3 zb4 fb4 zb5 fb5 zb6 fb6 zb7 fb7 zb8 fb8 zb9 fb9 tc zc0 fc0 zc1 fc1 zc2 fc2 zc3 fc3 zc4 fc4 zc5 fc5 zc6 fc6 zc7 fc7 zc8 fc8 zc9 fc9
        refine (hear_d lost s (10 + j) n 10 10 0 false false ⟨hs0, by omega⟩ _).mono ?_
        rintro e' w13 ⟨⟨f2, rfl⟩, hb⟩
        have ha13 := blk_below ha12 hb
        have hb13 := blk_below hb12 hb
        have hc13 := blk_below hc12 hb
        have hm13 := blk_below hm12 hb
        have hB13 := below_call hB12 hb
        have ta := blk_lt ha13
        have za0 : w13.cell? ⟨w2.heap.size, 0, none⟩ = some (.int .u8 3) := (blk_cell ha13 0).trans rfl
        have fa0 := blk_frozen ha13 0
        have za1 : w13.cell? ⟨w2.heap.size, 1, none⟩ = some (.int .u16 1) := (blk_cell ha13 1).trans rfl
        have fa1 := blk_frozen ha13 1
        have za2 : w13.cell? ⟨w2.heap.size, 2, none⟩ = some (.int .u8 4) := (blk_cell ha13 2).trans rfl
        have fa2 := blk_frozen ha13 2
        have za3 : w13.cell? ⟨w2.heap.size, 3, none⟩ = some (.string grp) := (blk_cell ha13 3).trans rfl
        have fa3 := blk_frozen ha13 3
        have za4 : w13.cell? ⟨w2.heap.size, 4, none⟩ = some (.int .i64 n) := (blk_cell ha13 4).trans rfl
        have fa4 := blk_frozen ha13 4
        have za5 : w13.cell? ⟨w2.heap.size, 5, none⟩ = some (.int .i64 10) := (blk_cell ha13 5).trans rfl
        have fa5 := blk_frozen ha13 5
        have za6 : w13.cell? ⟨w2.heap.size, 6, none⟩ = some (.int .i64 (10 + n * s)) := (blk_cell ha13 6).trans rfl
        have fa6 := blk_frozen ha13 6
        have za7 : w13.cell? ⟨w2.heap.size, 7, none⟩ = some (.int .u64 (s)) := (blk_cell ha13 7).trans rfl
        have fa7 := blk_frozen ha13 7
        have za8 : w13.cell? ⟨w2.heap.size, 8, none⟩ = some (.bool lost) := (blk_cell ha13 8).trans rfl
        have fa8 := blk_frozen ha13 8
        have za9 : w13.cell? ⟨w2.heap.size, 9, none⟩ = some (.bool f) := (blk_cell ha13 9).trans rfl
        have fa9 := blk_frozen ha13 9
        have tb := blk_lt hb13
        have zb0 : w13.cell? ⟨w6.heap.size, 0, none⟩ = some (.int .u8 3) := (blk_cell hb13 0).trans rfl
        have fb0 := blk_frozen hb13 0
        have zb1 : w13.cell? ⟨w6.heap.size, 1, none⟩ = some (.int .u16 2) := (blk_cell hb13 1).trans rfl
        have fb1 := blk_frozen hb13 1
        have zb2 : w13.cell? ⟨w6.heap.size, 2, none⟩ = some (.int .u8 4) := (blk_cell hb13 2).trans rfl
        have fb2 := blk_frozen hb13 2
        have zb3 : w13.cell? ⟨w6.heap.size, 3, none⟩ = some (.string grp) := (blk_cell hb13 3).trans rfl
        have fb3 := blk_frozen hb13 3
        have zb4 : w13.cell? ⟨w6.heap.size, 4, none⟩ = some (.int .i64 n) := (blk_cell hb13 4).trans rfl
        have fb4 := blk_frozen hb13 4
        have zb5 : w13.cell? ⟨w6.heap.size, 5, none⟩ = some (.int .i64 10) := (blk_cell hb13 5).trans rfl
        have fb5 := blk_frozen hb13 5
        have zb6 : w13.cell? ⟨w6.heap.size, 6, none⟩ = some (.int .i64 10) := (blk_cell hb13 6).trans rfl
        have fb6 := blk_frozen hb13 6
        have zb7 : w13.cell? ⟨w6.heap.size, 7, none⟩ = some (.int .u64 0) := (blk_cell hb13 7).trans rfl
        have fb7 := blk_frozen hb13 7
        have zb8 : w13.cell? ⟨w6.heap.size, 8, none⟩ = some (.bool false) := (blk_cell hb13 8).trans rfl
        have fb8 := blk_frozen hb13 8
        have zb9 : w13.cell? ⟨w6.heap.size, 9, none⟩ = some (.bool false) := (blk_cell hb13 9).trans rfl
        have fb9 := blk_frozen hb13 9
        have tc := blk_lt hc13
        have zc0 : w13.cell? ⟨w9.heap.size, 0, none⟩ = some (.int .u8 3) := (blk_cell hc13 0).trans rfl
        have fc0 := blk_frozen hc13 0
        have zc1 : w13.cell? ⟨w9.heap.size, 1, none⟩ = some (.int .u16 1) := (blk_cell hc13 1).trans rfl
        have fc1 := blk_frozen hc13 1
        have zc2 : w13.cell? ⟨w9.heap.size, 2, none⟩ = some (.int .u8 4) := (blk_cell hc13 2).trans rfl
        have fc2 := blk_frozen hc13 2
        have zc3 : w13.cell? ⟨w9.heap.size, 3, none⟩ = some (.string grp) := (blk_cell hc13 3).trans rfl
        have fc3 := blk_frozen hc13 3
        have zc4 : w13.cell? ⟨w9.heap.size, 4, none⟩ = some (.int .i64 n) := (blk_cell hc13 4).trans rfl
        have fc4 := blk_frozen hc13 4
        have zc5 : w13.cell? ⟨w9.heap.size, 5, none⟩ = some (.int .i64 10) := (blk_cell hc13 5).trans rfl
        have fc5 := blk_frozen hc13 5
        have zc6 : w13.cell? ⟨w9.heap.size, 6, none⟩ = some (.int .i64 (10 + j + n)) := (blk_cell hc13 6).trans rfl
        have fc6 := blk_frozen hc13 6
        have zc7 : w13.cell? ⟨w9.heap.size, 7, none⟩ = some (.int .u64 (s + 1)) := (blk_cell hc13 7).trans rfl
        have fc7 := blk_frozen hc13 7
        have zc8 : w13.cell? ⟨w9.heap.size, 8, none⟩ = some (.bool l2) := (blk_cell hc13 8).trans rfl
        have fc8 := blk_frozen hc13 8
        have zc9 : w13.cell? ⟨w9.heap.size, 9, none⟩ = some (.bool f) := (blk_cell hc13 9).trans rfl
        have fc9 := blk_frozen hc13 9
        have tm := blk_lt hm13
        have zm0 : w13.cell? ⟨w11.heap.size, 0, none⟩ = some (.bool lost) := (blk_cell hm13 0).trans rfl
        have fm0 := blk_frozen hm13 0
        have zm1 : w13.cell? ⟨w11.heap.size, 1, none⟩ = some (.int .u8 4) := (blk_cell hm13 1).trans rfl
        have fm1 := blk_frozen hm13 1
        have zm2 : w13.cell? ⟨w11.heap.size, 2, none⟩ = some (.int .u32 s) := (blk_cell hm13 2).trans rfl
        have fm2 := blk_frozen hm13 2
        have zm3 : w13.cell? ⟨w11.heap.size, 3, none⟩ = some (.int .u16 1) := (blk_cell hm13 3).trans rfl
        have fm3 := blk_frozen hm13 3
        have zm4 : w13.cell? ⟨w11.heap.size, 4, none⟩ = some (.string grp) := (blk_cell hm13 4).trans rfl
        have fm4 := blk_frozen hm13 4
        go_wp2_with fail
        refine calls_W (fun W14 hW14 => ?_)
        have ha14 : W14.heap[w2.heap.size]? = some (.cells #[.int .u8 3, .int .u16 1, .int .u8 4, .string grp, .int .i64 n, .int .i64 10, .int .i64 (10 + n * s), .int .u64 (s), .bool lost, .bool f] 42 (0, 0)) := by rw [hW14]; first | exact ha13 | exact blk_alloc (ha13) _ | exact blk_alloc (blk_alloc (ha13) _) _ | exact blk_alloc (blk_alloc (blk_alloc (ha13) _) _) _
        have hb14 : W14.heap[w6.heap.size]? = some (.cells #[.int .u8 3, .int .u16 2, .int .u8 4, .string grp, .int .i64 n, .int .i64 10, .int .i64 10, .int .u64 0, .bool false, .bool false] 42 (0, 0)) := by rw [hW14]; first | exact hb13 | exact blk_alloc (hb13) _ | exact blk_alloc (blk_alloc (hb13) _) _ | exact blk_alloc (blk_alloc (blk_alloc (hb13) _) _) _
        have hc14 : W14.heap[w9.heap.size]? = some (.cells #[.int .u8 3, .int .u16 1, .int .u8 4, .string grp, .int .i64 n, .int .i64 10, .int .i64 (10 + j + n), .int .u64 (s + 1), .bool l2, .bool f] 42 (0, 0)) := by rw [hW14]; first | exact hc13 | exact blk_alloc (hc13) _ | exact blk_alloc (blk_alloc (hc13) _) _ | exact blk_alloc (blk_alloc (blk_alloc (hc13) _) _) _
        have hm14 : W14.heap[w11.heap.size]? = some (.cells #[.bool lost, .int .u8 4, .int .u32 s, .int .u16 1, .string grp] 62 (0, 0)) := by rw [hW14]; first | exact hm13 | exact blk_alloc (hm13) _ | exact blk_alloc (blk_alloc (hm13) _) _ | exact blk_alloc (blk_alloc (blk_alloc (hm13) _) _) _
        have hB14 : Below w.heap.size w W14 := by rw [hW14]; first | exact hB13 | exact below_alloc (hB13) _ | exact below_alloc (below_alloc (hB13) _) _ | exact below_alloc (below_alloc (below_alloc (hB13) _) _) _
        clear hW14
        clear ta za0 fa0 za1 fa1 za2 fa2 za3 fa3 za4 fa4 za5 fa5 za6 fa6 za7 fa7 za8 fa8 za9 fa9 tb zb0 fb0 zb1 fb1 zb2 fb2 zb3 fb3 zb4 fb4 zb5 fb5 zb6 fb6 zb7 fb7 zb8 fb8 zb9 fb9 tc zc0 fc0 zc1 fc1 zc2 fc2 zc3 fc3 zc4 fc4 zc5 fc5 zc6 fc6 zc7 fc7 zc8 fc8 zc9 fc9 tm zm0 fm0 zm1 fm1 zm2 fm2 zm3 fm3 zm4 fm4
        refine (hear_a lost s (10 + j) n 10 (10 + n * s) s lost f ⟨hs0, by omega⟩ _).mono ?_
        rintro e' w15 ⟨rfl, hb⟩
        have ha15 := blk_below ha14 hb
        have hb15 := blk_below hb14 hb
        have hc15 := blk_below hc14 hb
        have hm15 := blk_below hm14 hb
        have hB15 := below_call hB14 hb
        have ta := blk_lt ha15
        have za0 : w15.cell? ⟨w2.heap.size, 0, none⟩ = some (.int .u8 3) := (blk_cell ha15 0).trans rfl
        have fa0 := blk_frozen ha15 0
        have za1 : w15.cell? ⟨w2.heap.size, 1, none⟩ = some (.int .u16 1) := (blk_cell ha15 1).trans rfl
        have fa1 := blk_frozen ha15 1
        have za2 : w15.cell? ⟨w2.heap.size, 2, none⟩ = some (.int .u8 4) := (blk_cell ha15 2).trans rfl
        have fa2 := blk_frozen ha15 2
        have za3 : w15.cell? ⟨w2.heap.size, 3, none⟩ = some (.string grp) := (blk_cell ha15 3).trans rfl
        have fa3 := blk_frozen ha15 3
        have za4 : w15.cell? ⟨w2.heap.size, 4, none⟩ = some (.int .i64 n) := (blk_cell ha15 4).trans rfl
        have fa4 := blk_frozen ha15 4
        have za5 : w15.cell? ⟨w2.heap.size, 5, none⟩ = some (.int .i64 10) := (blk_cell ha15 5).trans rfl
        have fa5 := blk_frozen ha15 5
        have za6 : w15.cell? ⟨w2.heap.size, 6, none⟩ = some (.int .i64 (10 + n * s)) := (blk_cell ha15 6).trans rfl
        have fa6 := blk_frozen ha15 6
        have za7 : w15.cell? ⟨w2.heap.size, 7, none⟩ = some (.int .u64 (s)) := (blk_cell ha15 7).trans rfl
        have fa7 := blk_frozen ha15 7
        have za8 : w15.cell? ⟨w2.heap.size, 8, none⟩ = some (.bool lost) := (blk_cell ha15 8).trans rfl
        have fa8 := blk_frozen ha15 8
        have za9 : w15.cell? ⟨w2.heap.size, 9, none⟩ = some (.bool f) := (blk_cell ha15 9).trans rfl
        have fa9 := blk_frozen ha15 9
        have tb := blk_lt hb15
        have zb0 : w15.cell? ⟨w6.heap.size, 0, none⟩ = some (.int .u8 3) := (blk_cell hb15 0).trans rfl
        have fb0 := blk_frozen hb15 0
        have zb1 : w15.cell? ⟨w6.heap.size, 1, none⟩ = some (.int .u16 2) := (blk_cell hb15 1).trans rfl
        have fb1 := blk_frozen hb15 1
        have zb2 : w15.cell? ⟨w6.heap.size, 2, none⟩ = some (.int .u8 4) := (blk_cell hb15 2).trans rfl
        have fb2 := blk_frozen hb15 2
        have zb3 : w15.cell? ⟨w6.heap.size, 3, none⟩ = some (.string grp) := (blk_cell hb15 3).trans rfl
        have fb3 := blk_frozen hb15 3
        have zb4 : w15.cell? ⟨w6.heap.size, 4, none⟩ = some (.int .i64 n) := (blk_cell hb15 4).trans rfl
        have fb4 := blk_frozen hb15 4
        have zb5 : w15.cell? ⟨w6.heap.size, 5, none⟩ = some (.int .i64 10) := (blk_cell hb15 5).trans rfl
        have fb5 := blk_frozen hb15 5
        have zb6 : w15.cell? ⟨w6.heap.size, 6, none⟩ = some (.int .i64 10) := (blk_cell hb15 6).trans rfl
        have fb6 := blk_frozen hb15 6
        have zb7 : w15.cell? ⟨w6.heap.size, 7, none⟩ = some (.int .u64 0) := (blk_cell hb15 7).trans rfl
        have fb7 := blk_frozen hb15 7
        have zb8 : w15.cell? ⟨w6.heap.size, 8, none⟩ = some (.bool false) := (blk_cell hb15 8).trans rfl
        have fb8 := blk_frozen hb15 8
        have zb9 : w15.cell? ⟨w6.heap.size, 9, none⟩ = some (.bool false) := (blk_cell hb15 9).trans rfl
        have fb9 := blk_frozen hb15 9
        have tc := blk_lt hc15
        have zc0 : w15.cell? ⟨w9.heap.size, 0, none⟩ = some (.int .u8 3) := (blk_cell hc15 0).trans rfl
        have fc0 := blk_frozen hc15 0
        have zc1 : w15.cell? ⟨w9.heap.size, 1, none⟩ = some (.int .u16 1) := (blk_cell hc15 1).trans rfl
        have fc1 := blk_frozen hc15 1
        have zc2 : w15.cell? ⟨w9.heap.size, 2, none⟩ = some (.int .u8 4) := (blk_cell hc15 2).trans rfl
        have fc2 := blk_frozen hc15 2
        have zc3 : w15.cell? ⟨w9.heap.size, 3, none⟩ = some (.string grp) := (blk_cell hc15 3).trans rfl
        have fc3 := blk_frozen hc15 3
        have zc4 : w15.cell? ⟨w9.heap.size, 4, none⟩ = some (.int .i64 n) := (blk_cell hc15 4).trans rfl
        have fc4 := blk_frozen hc15 4
        have zc5 : w15.cell? ⟨w9.heap.size, 5, none⟩ = some (.int .i64 10) := (blk_cell hc15 5).trans rfl
        have fc5 := blk_frozen hc15 5
        have zc6 : w15.cell? ⟨w9.heap.size, 6, none⟩ = some (.int .i64 (10 + j + n)) := (blk_cell hc15 6).trans rfl
        have fc6 := blk_frozen hc15 6
        have zc7 : w15.cell? ⟨w9.heap.size, 7, none⟩ = some (.int .u64 (s + 1)) := (blk_cell hc15 7).trans rfl
        have fc7 := blk_frozen hc15 7
        have zc8 : w15.cell? ⟨w9.heap.size, 8, none⟩ = some (.bool l2) := (blk_cell hc15 8).trans rfl
        have fc8 := blk_frozen hc15 8
        have zc9 : w15.cell? ⟨w9.heap.size, 9, none⟩ = some (.bool f) := (blk_cell hc15 9).trans rfl
        have fc9 := blk_frozen hc15 9
        have tm := blk_lt hm15
        have zm0 : w15.cell? ⟨w11.heap.size, 0, none⟩ = some (.bool lost) := (blk_cell hm15 0).trans rfl
        have fm0 := blk_frozen hm15 0
        have zm1 : w15.cell? ⟨w11.heap.size, 1, none⟩ = some (.int .u8 4) := (blk_cell hm15 1).trans rfl
        have fm1 := blk_frozen hm15 1
        have zm2 : w15.cell? ⟨w11.heap.size, 2, none⟩ = some (.int .u32 s) := (blk_cell hm15 2).trans rfl
        have fm2 := blk_frozen hm15 2
        have zm3 : w15.cell? ⟨w11.heap.size, 3, none⟩ = some (.int .u16 1) := (blk_cell hm15 3).trans rfl
        have fm3 := blk_frozen hm15 3
        have zm4 : w15.cell? ⟨w11.heap.size, 4, none⟩ = some (.string grp) := (blk_cell hm15 4).trans rfl
        have fm4 := blk_frozen hm15 4
        go_wp2_with fail
        refine wi_W (fun W16 hW16 => ?_)
        have ha16 : W16.heap[w2.heap.size]? = some (.cells #[.int .u8 3, .int .u16 1, .int .u8 4, .string grp, .int .i64 n, .int .i64 10, .int .i64 (10 + n * s), .int .u64 (s), .bool lost, .bool f] 42 (0, 0)) := by rw [hW16]; first | exact ha15 | exact blk_alloc (ha15) _ | exact blk_alloc (blk_alloc (ha15) _) _ | exact blk_alloc (blk_alloc (blk_alloc (ha15) _) _) _
        have hb16 : W16.heap[w6.heap.size]? = some (.cells #[.int .u8 3, .int .u16 2, .int .u8 4, .string grp, .int .i64 n, .int .i64 10, .int .i64 10, .int .u64 0, .bool false, .bool false] 42 (0, 0)) := by rw [hW16]; first | exact hb15 | exact blk_alloc (hb15) _ | exact blk_alloc (blk_alloc (hb15) _) _ | exact blk_alloc (blk_alloc (blk_alloc (hb15) _) _) _
        have hc16 : W16.heap[w9.heap.size]? = some (.cells #[.int .u8 3, .int .u16 1, .int .u8 4, .string grp, .int .i64 n, .int .i64 10, .int .i64 (10 + j + n), .int .u64 (s + 1), .bool l2, .bool f] 42 (0, 0)) := by rw [hW16]; first | exact hc15 | exact blk_alloc (hc15) _ | exact blk_alloc (blk_alloc (hc15) _) _ | exact blk_alloc (blk_alloc (blk_alloc (hc15) _) _) _
        have hm16 : W16.heap[w11.heap.size]? = some (.cells #[.bool lost, .int .u8 4, .int .u32 s, .int .u16 1, .string grp] 62 (0, 0)) := by rw [hW16]; first | exact hm15 | exact blk_alloc (hm15) _ | exact blk_alloc (blk_alloc (hm15) _) _ | exact blk_alloc (blk_alloc (blk_alloc (hm15) _) _) _
        have hB16 : Below w.heap.size w W16 := by rw [hW16]; first | exact hB15 | exact below_alloc (hB15) _ | exact below_alloc (below_alloc (hB15) _) _ | exact below_alloc (below_alloc (below_alloc (hB15) _) _) _
        clear hW16
        clear ta za0 fa0 za1 fa1 za2 fa2 za3 fa3 za4 fa4 za5 fa5 za6 fa6 za7 fa7 za8 fa8 za9 fa9 tb zb0 fb0 zb1 fb1 zb2 fb2 zb3 fb3 zb4 fb4 zb5 fb5 zb6 fb6 zb7 fb7 zb8 fb8 zb9 fb9 tc zc0 fc0 zc1 fc1 zc2 fc2 zc3 fc3 zc4 fc4 zc5 fc5 zc6 fc6 zc7 fc7 zc8 fc8 zc9 fc9 tm zm0 fm0 zm1 fm1 zm2 fm2 zm3 fm3 zm4 fm4
        have hs1 : s ≤ 1000000 := by omega
        have ta := blk_lt ha16
        have za0 : W16.cell? ⟨w2.heap.size, 0, none⟩ = some (.int .u8 3) := (blk_cell ha16 0).trans rfl
        have fa0 := blk_frozen ha16 0
        have za1 : W16.cell? ⟨w2.heap.size, 1, none⟩ = some (.int .u16 1) := (blk_cell ha16 1).trans rfl
        have fa1 := blk_frozen ha16 1
        have za2 : W16.cell? ⟨w2.heap.size, 2, none⟩ = some (.int .u8 4) := (blk_cell ha16 2).trans rfl
        have fa2 := blk_frozen ha16 2
        have za3 : W16.cell? ⟨w2.heap.size, 3, none⟩ = some (.string grp) := (blk_cell ha16 3).trans rfl
        have fa3 := blk_frozen ha16 3
        have za4 : W16.cell? ⟨w2.heap.size, 4, none⟩ = some (.int .i64 n) := (blk_cell ha16 4).trans rfl
        have fa4 := blk_frozen ha16 4
        have za5 : W16.cell? ⟨w2.heap.size, 5, none⟩ = some (.int .i64 10) := (blk_cell ha16 5).trans rfl
        have fa5 := blk_frozen ha16 5
        have za6 : W16.cell? ⟨w2.heap.size, 6, none⟩ = some (.int .i64 (10 + n * s)) := (blk_cell ha16 6).trans rfl
        have fa6 := blk_frozen ha16 6
        have za7 : W16.cell? ⟨w2.heap.size, 7, none⟩ = some (.int .u64 (s)) := (blk_cell ha16 7).trans rfl
        have fa7 := blk_frozen ha16 7
        have za8 : W16.cell? ⟨w2.heap.size, 8, none⟩ = some (.bool lost) := (blk_cell ha16 8).trans rfl
        have fa8 := blk_frozen ha16 8
        have za9 : W16.cell? ⟨w2.heap.size, 9, none⟩ = some (.bool f) := (blk_cell ha16 9).trans rfl
        have fa9 := blk_frozen ha16 9
        have tb := blk_lt hb16
        have zb0 : W16.cell? ⟨w6.heap.size, 0, none⟩ = some (.int .u8 3) := (blk_cell hb16 0).trans rfl
        have fb0 := blk_frozen hb16 0
        have zb1 : W16.cell? ⟨w6.heap.size, 1, none⟩ = some (.int .u16 2) := (blk_cell hb16 1).trans rfl
        have fb1 := blk_frozen hb16 1
        have zb2 : W16.cell? ⟨w6.heap.size, 2, none⟩ = some (.int .u8 4) := (blk_cell hb16 2).trans rfl
        have fb2 := blk_frozen hb16 2
        have zb3 : W16.cell? ⟨w6.heap.size, 3, none⟩ = some (.string grp) := (blk_cell hb16 3).trans rfl
        have fb3 := blk_frozen hb16 3
        have zb4 : W16.cell? ⟨w6.heap.size, 4, none⟩ = some (.int .i64 n) := (blk_cell hb16 4).trans rfl
        have fb4 := blk_frozen hb16 4
        have zb5 : W16.cell? ⟨w6.heap.size, 5, none⟩ = some (.int .i64 10) := (blk_cell hb16 5).trans rfl
        have fb5 := blk_frozen hb16 5
        have zb6 : W16.cell? ⟨w6.heap.size, 6, none⟩ = some (.int .i64 10) := (blk_cell hb16 6).trans rfl
        have fb6 := blk_frozen hb16 6
        have zb7 : W16.cell? ⟨w6.heap.size, 7, none⟩ = some (.int .u64 0) := (blk_cell hb16 7).trans rfl
        have fb7 := blk_frozen hb16 7
        have zb8 : W16.cell? ⟨w6.heap.size, 8, none⟩ = some (.bool false) := (blk_cell hb16 8).trans rfl
        have fb8 := blk_frozen hb16 8
        have zb9 : W16.cell? ⟨w6.heap.size, 9, none⟩ = some (.bool false) := (blk_cell hb16 9).trans rfl
        have fb9 := blk_frozen hb16 9
        have tc := blk_lt hc16
        have zc0 : W16.cell? ⟨w9.heap.size, 0, none⟩ = some (.int .u8 3) := (blk_cell hc16 0).trans rfl
        have fc0 := blk_frozen hc16 0
        have zc1 : W16.cell? ⟨w9.heap.size, 1, none⟩ = some (.int .u16 1) := (blk_cell hc16 1).trans rfl
        have fc1 := blk_frozen hc16 1
        have zc2 : W16.cell? ⟨w9.heap.size, 2, none⟩ = some (.int .u8 4) := (blk_cell hc16 2).trans rfl
        have fc2 := blk_frozen hc16 2
        have zc3 : W16.cell? ⟨w9.heap.size, 3, none⟩ = some (.string grp) := (blk_cell hc16 3).trans rfl
        have fc3 := blk_frozen hc16 3
        have zc4 : W16.cell? ⟨w9.heap.size, 4, none⟩ = some (.int .i64 n) := (blk_cell hc16 4).trans rfl
        have fc4 := blk_frozen hc16 4
        have zc5 : W16.cell? ⟨w9.heap.size, 5, none⟩ = some (.int .i64 10) := (blk_cell hc16 5).trans rfl
        have fc5 := blk_frozen hc16 5
        have zc6 : W16.cell? ⟨w9.heap.size, 6, none⟩ = some (.int .i64 (10 + j + n)) := (blk_cell hc16 6).trans rfl
        have fc6 := blk_frozen hc16 6
        have zc7 : W16.cell? ⟨w9.heap.size, 7, none⟩ = some (.int .u64 (s + 1)) := (blk_cell hc16 7).trans rfl
        have fc7 := blk_frozen hc16 7
        have zc8 : W16.cell? ⟨w9.heap.size, 8, none⟩ = some (.bool l2) := (blk_cell hc16 8).trans rfl
        have fc8 := blk_frozen hc16 8
        have zc9 : W16.cell? ⟨w9.heap.size, 9, none⟩ = some (.bool f) := (blk_cell hc16 9).trans rfl
        have fc9 := blk_frozen hc16 9
        have tm := blk_lt hm16
        have zm0 : W16.cell? ⟨w11.heap.size, 0, none⟩ = some (.bool lost) := (blk_cell hm16 0).trans rfl
        have fm0 := blk_frozen hm16 0
        have zm1 : W16.cell? ⟨w11.heap.size, 1, none⟩ = some (.int .u8 4) := (blk_cell hm16 1).trans rfl
        have fm1 := blk_frozen hm16 1
        have zm2 : W16.cell? ⟨w11.heap.size, 2, none⟩ = some (.int .u32 s) := (blk_cell hm16 2).trans rfl
        have fm2 := blk_frozen hm16 2
        have zm3 : W16.cell? ⟨w11.heap.size, 3, none⟩ = some (.int .u16 1) := (blk_cell hm16 3).trans rfl
        have fm3 := blk_frozen hm16 3
        have zm4 : W16.cell? ⟨w11.heap.size, 4, none⟩ = some (.string grp) := (blk_cell hm16 4).trans rfl
        have fm4 := blk_frozen hm16 4
        go_region_held3 (fun w' => w'.cell? ⟨w11.heap.size, 0, none⟩ = some (.bool lost) ∧ w'.cell? ⟨w11.heap.size, 2, none⟩ = some (.int .u32 s) ∧ w'.cell? ⟨w2.heap.size, 8, none⟩ = some (.bool lost)) (go_keep) (fail)
        go_wp2_with fail
        go_roundw
        case rel =>
          obtain ⟨hx, hBx, hNx⟩ := box10 ha16 (by omega) hB16 (.int .u8 3) (.int .u16 1) (.int .u8 4) (.string grp) (.int .i64 n) (.int .i64 10) (.int .i64 (10 + j + n)) (.int .u64 (s + 1)) (.bool l2) (.bool f) _ rfl
          have hbx := hNx _ _ _ (by omega) hb16
          clear hNx
          obtain ⟨e0, e1, e2⟩ := sl_step hn.1 hj1 he2
          refine ⟨j + 1, s + 1, l2, f, ?_, sl_int j, ?_⟩
          · omega
          refine ⟨by omega, by omega, e1, e2, ?_, blk_drew hbx, below_drew1 hBx⟩
          rw [← e0]
          exact blk_drew hx
        case measure => simp [intOf]; omega
      · skip
        have ha7 : wr.heap[w2.heap.size]? = some (.cells #[.int .u8 3, .int .u16 1, .int .u8 4, .string grp, .int .i64 n, .int .i64 10, .int .i64 (10 + n * s), .int .u64 (s), .bool lost, .bool f] 42 (0, 0)) := hxa
        have hb7 : wr.heap[w6.heap.size]? = some (.cells #[.int .u8 3, .int .u16 2, .int .u8 4, .string grp, .int .i64 n, .int .i64 10, .int .i64 10, .int .u64 0, .bool false, .bool false] 42 (0, 0)) := hxb
        have hB7 := hB
        clear hxa hxb hB
        have hlt2 : (j : Int) < n * s := by omega
        have h4 := sl_rem hn.1 hlt2 hj2
        have htm : Int.tmod (j : Int) n = (j : Int) % n := Int.tmod_eq_emod_of_nonneg (by omega)
        have hb4 : decide ((j : Int) % n = 0) = false := decide_eq_false h4
        have hq4 : ((j : Int) % n = 0) = False := eq_false h4
        have hn0 : (n = 0) = False := eq_false (by omega)
        have hjd : decide ((j : Int) < t % 400) = true := decide_eq_true hlt
        clear he
        have ta := blk_lt ha7
        have za0 : wr.cell? ⟨w2.heap.size, 0, none⟩ = some (.int .u8 3) := (blk_cell ha7 0).trans rfl
        have fa0 := blk_frozen ha7 0
        have za1 : wr.cell? ⟨w2.heap.size, 1, none⟩ = some (.int .u16 1) := (blk_cell ha7 1).trans rfl
        have fa1 := blk_frozen ha7 1
        have za2 : wr.cell? ⟨w2.heap.size, 2, none⟩ = some (.int .u8 4) := (blk_cell ha7 2).trans rfl
        have fa2 := blk_frozen ha7 2
        have za3 : wr.cell? ⟨w2.heap.size, 3, none⟩ = some (.string grp) := (blk_cell ha7 3).trans rfl
        have fa3 := blk_frozen ha7 3
        have za4 : wr.cell? ⟨w2.heap.size, 4, none⟩ = some (.int .i64 n) := (blk_cell ha7 4).trans rfl
        have fa4 := blk_frozen ha7 4
        have za5 : wr.cell? ⟨w2.heap.size, 5, none⟩ = some (.int .i64 10) := (blk_cell ha7 5).trans rfl
        have fa5 := blk_frozen ha7 5
        have za6 : wr.cell? ⟨w2.heap.size, 6, none⟩ = some (.int .i64 (10 + n * s)) := (blk_cell ha7 6).trans rfl
        have fa6 := blk_frozen ha7 6
        have za7 : wr.cell? ⟨w2.heap.size, 7, none⟩ = some (.int .u64 (s)) := (blk_cell ha7 7).trans rfl
        have fa7 := blk_frozen ha7 7
        have za8 : wr.cell? ⟨w2.heap.size, 8, none⟩ = some (.bool lost) := (blk_cell ha7 8).trans rfl
        have fa8 := blk_frozen ha7 8
        have za9 : wr.cell? ⟨w2.heap.size, 9, none⟩ = some (.bool f) := (blk_cell ha7 9).trans rfl
        have fa9 := blk_frozen ha7 9
        have tb := blk_lt hb7
        have zb0 : wr.cell? ⟨w6.heap.size, 0, none⟩ = some (.int .u8 3) := (blk_cell hb7 0).trans rfl
        have fb0 := blk_frozen hb7 0
        have zb1 : wr.cell? ⟨w6.heap.size, 1, none⟩ = some (.int .u16 2) := (blk_cell hb7 1).trans rfl
        have fb1 := blk_frozen hb7 1
        have zb2 : wr.cell? ⟨w6.heap.size, 2, none⟩ = some (.int .u8 4) := (blk_cell hb7 2).trans rfl
        have fb2 := blk_frozen hb7 2
        have zb3 : wr.cell? ⟨w6.heap.size, 3, none⟩ = some (.string grp) := (blk_cell hb7 3).trans rfl
        have fb3 := blk_frozen hb7 3
        have zb4 : wr.cell? ⟨w6.heap.size, 4, none⟩ = some (.int .i64 n) := (blk_cell hb7 4).trans rfl
        have fb4 := blk_frozen hb7 4
        have zb5 : wr.cell? ⟨w6.heap.size, 5, none⟩ = some (.int .i64 10) := (blk_cell hb7 5).trans rfl
        have fb5 := blk_frozen hb7 5
        have zb6 : wr.cell? ⟨w6.heap.size, 6, none⟩ = some (.int .i64 10) := (blk_cell hb7 6).trans rfl
        have fb6 := blk_frozen hb7 6
        have zb7 : wr.cell? ⟨w6.heap.size, 7, none⟩ = some (.int .u64 0) := (blk_cell hb7 7).trans rfl
        have fb7 := blk_frozen hb7 7
        have zb8 : wr.cell? ⟨w6.heap.size, 8, none⟩ = some (.bool false) := (blk_cell hb7 8).trans rfl
        have fb8 := blk_frozen hb7 8
        have zb9 : wr.cell? ⟨w6.heap.size, 9, none⟩ = some (.bool false) := (blk_cell hb7 9).trans rfl
        have fb9 := blk_frozen hb7 9
        go_wp2_with fail
        refine calls_W (fun W8 hW8 => ?_)
        have ha8 : W8.heap[w2.heap.size]? = some (.cells #[.int .u8 3, .int .u16 1, .int .u8 4, .string grp, .int .i64 n, .int .i64 10, .int .i64 (10 + n * s), .int .u64 (s), .bool lost, .bool f] 42 (0, 0)) := by rw [hW8]; first | exact ha7 | exact blk_alloc (ha7) _ | exact blk_alloc (blk_alloc (ha7) _) _ | exact blk_alloc (blk_alloc (blk_alloc (ha7) _) _) _
        have hb8 : W8.heap[w6.heap.size]? = some (.cells #[.int .u8 3, .int .u16 2, .int .u8 4, .string grp, .int .i64 n, .int .i64 10, .int .i64 10, .int .u64 0, .bool false, .bool false] 42 (0, 0)) := by rw [hW8]; first | exact hb7 | exact blk_alloc (hb7) _ | exact blk_alloc (blk_alloc (hb7) _) _ | exact blk_alloc (blk_alloc (blk_alloc (hb7) _) _) _
        have hB8 : Below w.heap.size w W8 := by rw [hW8]; first | exact hB7 | exact below_alloc (hB7) _ | exact below_alloc (below_alloc (hB7) _) _ | exact below_alloc (below_alloc (below_alloc (hB7) _) _) _
        clear hW8
        clear ta za0 fa0 za1 fa1 za2 fa2 za3 fa3 za4 fa4 za5 fa5 za6 fa6 za7 fa7 za8 fa8 za9 fa9 tb zb0 fb0 zb1 fb1 zb2 fb2 zb3 fb3 zb4 fb4 zb5 fb5 zb6 fb6 zb7 fb7 zb8 fb8 zb9 fb9
        refine (tick_m (10 + j) n (10 + n * s) s lost f hn (by omega) (by omega) (by omega) _).mono ?_
        rintro e' w9 ⟨⟨l2, rfl⟩, hb⟩
        have ha9 := blk_below ha8 hb
        have hb9 := blk_below hb8 hb
        have hB9 := below_call hB8 hb
        have ta := blk_lt ha9
        have za0 : w9.cell? ⟨w2.heap.size, 0, none⟩ = some (.int .u8 3) := (blk_cell ha9 0).trans rfl
        have fa0 := blk_frozen ha9 0
        have za1 : w9.cell? ⟨w2.heap.size, 1, none⟩ = some (.int .u16 1) := (blk_cell ha9 1).trans rfl
        have fa1 := blk_frozen ha9 1
        have za2 : w9.cell? ⟨w2.heap.size, 2, none⟩ = some (.int .u8 4) := (blk_cell ha9 2).trans rfl
        have fa2 := blk_frozen ha9 2
        have za3 : w9.cell? ⟨w2.heap.size, 3, none⟩ = some (.string grp) := (blk_cell ha9 3).trans rfl
        have fa3 := blk_frozen ha9 3
        have za4 : w9.cell? ⟨w2.heap.size, 4, none⟩ = some (.int .i64 n) := (blk_cell ha9 4).trans rfl
        have fa4 := blk_frozen ha9 4
        have za5 : w9.cell? ⟨w2.heap.size, 5, none⟩ = some (.int .i64 10) := (blk_cell ha9 5).trans rfl
        have fa5 := blk_frozen ha9 5
        have za6 : w9.cell? ⟨w2.heap.size, 6, none⟩ = some (.int .i64 (10 + n * s)) := (blk_cell ha9 6).trans rfl
        have fa6 := blk_frozen ha9 6
        have za7 : w9.cell? ⟨w2.heap.size, 7, none⟩ = some (.int .u64 (s)) := (blk_cell ha9 7).trans rfl
        have fa7 := blk_frozen ha9 7
        have za8 : w9.cell? ⟨w2.heap.size, 8, none⟩ = some (.bool lost) := (blk_cell ha9 8).trans rfl
        have fa8 := blk_frozen ha9 8
        have za9 : w9.cell? ⟨w2.heap.size, 9, none⟩ = some (.bool f) := (blk_cell ha9 9).trans rfl
        have fa9 := blk_frozen ha9 9
        have tb := blk_lt hb9
        have zb0 : w9.cell? ⟨w6.heap.size, 0, none⟩ = some (.int .u8 3) := (blk_cell hb9 0).trans rfl
        have fb0 := blk_frozen hb9 0
        have zb1 : w9.cell? ⟨w6.heap.size, 1, none⟩ = some (.int .u16 2) := (blk_cell hb9 1).trans rfl
        have fb1 := blk_frozen hb9 1
        have zb2 : w9.cell? ⟨w6.heap.size, 2, none⟩ = some (.int .u8 4) := (blk_cell hb9 2).trans rfl
        have fb2 := blk_frozen hb9 2
        have zb3 : w9.cell? ⟨w6.heap.size, 3, none⟩ = some (.string grp) := (blk_cell hb9 3).trans rfl
        have fb3 := blk_frozen hb9 3
        have zb4 : w9.cell? ⟨w6.heap.size, 4, none⟩ = some (.int .i64 n) := (blk_cell hb9 4).trans rfl
        have fb4 := blk_frozen hb9 4
        have zb5 : w9.cell? ⟨w6.heap.size, 5, none⟩ = some (.int .i64 10) := (blk_cell hb9 5).trans rfl
        have fb5 := blk_frozen hb9 5
        have zb6 : w9.cell? ⟨w6.heap.size, 6, none⟩ = some (.int .i64 10) := (blk_cell hb9 6).trans rfl
        have fb6 := blk_frozen hb9 6
        have zb7 : w9.cell? ⟨w6.heap.size, 7, none⟩ = some (.int .u64 0) := (blk_cell hb9 7).trans rfl
        have fb7 := blk_frozen hb9 7
        have zb8 : w9.cell? ⟨w6.heap.size, 8, none⟩ = some (.bool false) := (blk_cell hb9 8).trans rfl
        have fb8 := blk_frozen hb9 8
        have zb9 : w9.cell? ⟨w6.heap.size, 9, none⟩ = some (.bool false) := (blk_cell hb9 9).trans rfl
        have fb9 := blk_frozen hb9 9
        go_wp2_with fail
        go_roundw
        case rel =>
          obtain ⟨hx, hBx, hNx⟩ := box10 ha9 (by omega) hB9 (.int .u8 3) (.int .u16 1) (.int .u8 4) (.string grp) (.int .i64 n) (.int .i64 10) (.int .i64 (10 + n * s)) (.int .u64 s) (.bool l2) (.bool f) _ rfl
          have hbx := hNx _ _ _ (by omega) hb9
          clear hNx
          refine ⟨j + 1, s, l2, f, ?_, sl_int j, ?_⟩
          · omega
          have e1 : ((j + 1 : Nat) : Int) ≤ n * s := by omega
          have e2 : n * s < ((j + 1 : Nat) : Int) + n := by omega
          exact ⟨hs0, by omega, e1, e2, blk_alloc hx _, blk_alloc hbx _, below_alloc hBx _⟩
        case measure => simp [intOf]; omega
    · have hje : t % 400 ≤ j := by omega
      have hjd : decide ((j : Int) < t % 400) = false := decide_eq_false (by omega)
      go_wp2_with fail
      refine (awake_c _).mono ?_
      rintro e' w8 ⟨rfl, hb⟩
      have hB8 := below_call hB hb
      go_wp2_with fail
      go_ret
      exact ⟨rfl, hB8⟩
end Go.Proofs.Ytapicoienpbdfaa.Se
