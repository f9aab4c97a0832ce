-- Written by a program of this work, after the translation.
import Derived.Test.YtbciaapkahfcaaaPFlushHearsx0
namespace Go.Proofs.Ytbciaapkahfcaaa.PFlushHears
open Go.RowKit Go.Proofs.YtbciaapkahfcaaaW.PrintWords Go.Proofs.YtbciaapkahfcaaaW.PrintLast Go.Proofs.YtbciaapkahfcaaaW.PrintMore
attribute [local go_sem] max2_int min2_int max_two min_two max_three min_three max_four min_four   -- for this text's walks alone
set_option linter.unusedVariables false
set_option linter.unusedSimpArgs false

/-! ### carousellaw05_Of: function 8 -/
def carousellaw05_Of.f (a0_0 : Int) (a0_1 : Bool) (a0_2 : Bool) (a0_3 : Bool) (a0_4 : Int) : Option (Int × Bool × Bool × Bool × Int) := some (a0_0, a0_1, a0_2, a0_3, a0_4)
set_option maxHeartbeats 8000000 in
set_option maxRecDepth 100000 in
theorem carousellaw05_Of.calls (a0_0 : Int) (a0_1 : Bool) (a0_2 : Bool) (a0_3 : Bool) (a0_4 : Int) (r1 : Int) (r2 : Bool) (r3 : Bool) (r4 : Bool) (r5 : Int) (w : World) (h : carousellaw05_Of.f a0_0 a0_1 a0_2 a0_3 a0_4 = some (r1, r2, r3, r4, r5)) :
    Calls Try.prog 8 #[.agg #[.int .u8 a0_0, .bool a0_1, .bool a0_2, .bool a0_3, .int .u64 a0_4]] w fun e w' => e = .returned (.agg #[.int .u8 r1, .bool r2, .bool r3, .bool r4, .int .u64 r5]) ∧ Below w.heap.size w w' := by
  have hu35 := Try.underlying35
  have hu43 := Try.underlying43
  have HB := Aside0.mk (Below.refl w.heap.size w)
  have H : (some (a0_0, a0_1, a0_2, a0_3, a0_4)) = some (r1, r2, r3, r4, r5) := h
  clear h
  simp only [Option.some.injEq, Prod.mk.injEq] at H
  obtain ⟨rfl, rfl, rfl, rfl, rfl⟩ := H
  go_enter Try.func8, Try.ntmps8
  go_wp2_with (first | ((with_reducible refine gate_dst (N := 1) rfl ?_); refine box_event ?hg (N := 1) ?hd (cs := #[.int .u8 a0_0, .bool a0_1, .bool a0_2, .bool a0_3, .int .u64 a0_4]) (t := 35) ?hr ?_; (case hd => rfl); (case hg => rfl); (case hr => first | (go_simp; done) | (go_simp; rfl)); intro gb187 hg w2 hbox hb; have n0_ := Aside0.mk (below_step (by repeat (first | (with_reducible first | exact HB.out | apply below_alloc | apply pw_below_drewN | apply below_drew1) | exact HB.out)) hb); have n1_ := Aside0.mk (hbox); have n2_ := Aside0.mk ((by rw [hg]; exact (below_size (by repeat (first | (with_reducible first | exact HB.out | apply below_alloc | apply pw_below_drewN | apply below_drew1) | exact HB.out))) : w.heap.size ≤ gb187)); have n3_ := Aside0.mk ((by rw [hg]; exact (below_size (by repeat (first | (with_reducible first | exact HB.out | apply below_alloc | apply pw_below_drewN | apply below_drew1) | exact HB.out))) : w.heap.size ≤ gb187)); clear HB; have HB := n0_; have BK187 := n1_; have GW187 := n2_; have GE187 := n3_; clear n0_ n1_ n2_ n3_; clear hb hbox hg) | ((with_reducible refine gate_dst (N := 2) rfl ?_); refine box_event ?hg (N := 2) ?hd (cs := #[.int .u8 0, .bool false, .bool false, .bool false, .int .u64 0]) (t := 43) ?hr ?_; (case hd => rfl); (case hg => rfl); (case hr => first | (go_simp; done) | (go_simp; rfl)); intro gb188 hg w3 hbox hb; have n0_ := Aside0.mk (blk_below (g := gb187) (o := .cells #[.int .u8 a0_0, .bool a0_1, .bool a0_2, .bool a0_3, .int .u64 a0_4] 35 (0, 0)) (by (with_reducible repeat (first | refine blk_drewN ?_ _ | refine blk_drew ?_ | refine blk_alloc ?_ _)); exact BK187.out) hb); have n1_ := Aside0.mk (below_step (by repeat (first | (with_reducible first | exact HB.out | apply below_alloc | apply pw_below_drewN | apply below_drew1 | refine below_set ?_ GE187.out) | exact HB.out)) hb); have n2_ := Aside0.mk (hbox); have n3_ := Aside0.mk ((by rw [hg]; exact (below_size (by repeat (first | (with_reducible first | exact HB.out | apply below_alloc | apply pw_below_drewN | apply below_drew1 | refine below_set ?_ GE187.out) | exact HB.out))) : w.heap.size ≤ gb188)); have n4_ := Aside0.mk ((by rw [hg]; exact (below_size (by repeat (first | (with_reducible first | exact HB.out | apply below_alloc | apply pw_below_drewN | apply below_drew1 | refine below_set ?_ GE187.out) | exact HB.out))) : w.heap.size ≤ gb188)); have n5_ := Aside0.mk ((by rw [hg]; exact Nat.ne_of_lt (blk_lt (g := gb187) (o := .cells #[.int .u8 a0_0, .bool a0_1, .bool a0_2, .bool a0_3, .int .u64 a0_4] 35 (0, 0)) (by (with_reducible repeat (first | refine blk_drewN ?_ _ | refine blk_drew ?_ | refine blk_alloc ?_ _)); exact BK187.out)) : gb187 ≠ gb188)); have n6_ := Aside0.mk ((by rw [hg]; exact Nat.ne_of_gt (blk_lt (g := gb187) (o := .cells #[.int .u8 a0_0, .bool a0_1, .bool a0_2, .bool a0_3, .int .u64 a0_4] 35 (0, 0)) (by (with_reducible repeat (first | refine blk_drewN ?_ _ | refine blk_drew ?_ | refine blk_alloc ?_ _)); exact BK187.out)) : gb188 ≠ gb187)); clear BK187; clear HB; have BK187 := n0_; have HB := n1_; have BK188 := n2_; have GW188 := n3_; have GE188 := n4_; have NB187_188 := n5_; have NB188_187 := n6_; clear n0_ n1_ n2_ n3_ n4_ n5_ n6_; clear hb hbox hg; have hnb4 := NB187_188.out; have hnc4 := NB188_187.out; have hcz5_0 : w3.cell? ⟨gb187, 0, none⟩ = some (.int .u8 a0_0) := (blk_cell BK187.out 0).trans rfl; have hcz5_1 : w3.cell? ⟨gb187, 1, none⟩ = some (.bool a0_1) := (blk_cell BK187.out 1).trans rfl; have hcz5_2 : w3.cell? ⟨gb187, 2, none⟩ = some (.bool a0_2) := (blk_cell BK187.out 2).trans rfl; have hcz5_3 : w3.cell? ⟨gb187, 3, none⟩ = some (.bool a0_3) := (blk_cell BK187.out 3).trans rfl; have hcz5_4 : w3.cell? ⟨gb187, 4, none⟩ = some (.int .u64 a0_4) := (blk_cell BK187.out 4).trans rfl; have hfz5_0 := blk_frozen BK187.out 0; have hfz5_1 := blk_frozen BK187.out 1; have hfz5_2 := blk_frozen BK187.out 2; have hfz5_3 := blk_frozen BK187.out 3; have hfz5_4 := blk_frozen BK187.out 4; have hcz6_0 : w3.cell? ⟨gb188, 0, none⟩ = some (.int .u8 0) := (blk_cell BK188.out 0).trans rfl; have hcz6_1 : w3.cell? ⟨gb188, 1, none⟩ = some (.bool false) := (blk_cell BK188.out 1).trans rfl; have hcz6_2 : w3.cell? ⟨gb188, 2, none⟩ = some (.bool false) := (blk_cell BK188.out 2).trans rfl; have hcz6_3 : w3.cell? ⟨gb188, 3, none⟩ = some (.bool false) := (blk_cell BK188.out 3).trans rfl; have hcz6_4 : w3.cell? ⟨gb188, 4, none⟩ = some (.int .u64 0) := (blk_cell BK188.out 4).trans rfl; have hfz6_0 := blk_frozen BK188.out 0; have hfz6_1 := blk_frozen BK188.out 1; have hfz6_2 := blk_frozen BK188.out 2; have hfz6_3 := blk_frozen BK188.out 3; have hfz6_4 := blk_frozen BK188.out 4))
  refine bodyPost_ret (results_cell_row rfl _ _ gb188 43 #[.int .u8 a0_0, .bool a0_1, .bool a0_2, .bool a0_3, .int .u64 a0_4] (0, 0) _ rfl (by (with_reducible repeat (first | refine blk_drewN ?_ _ | refine blk_drew ?_ | refine blk_alloc ?_ _)); refine blk_put (cs := #[.int .u8 a0_0, .bool a0_1, .bool a0_2, .bool a0_3, .int .u64 0]) ?_ 4 _ rfl; (with_reducible repeat (first | refine blk_drewN ?_ _ | refine blk_drew ?_ | refine blk_alloc ?_ _)); refine blk_put (cs := #[.int .u8 a0_0, .bool a0_1, .bool a0_2, .bool false, .int .u64 0]) ?_ 3 _ rfl; (with_reducible repeat (first | refine blk_drewN ?_ _ | refine blk_drew ?_ | refine blk_alloc ?_ _)); refine blk_put (cs := #[.int .u8 a0_0, .bool a0_1, .bool false, .bool false, .int .u64 0]) ?_ 2 _ rfl; (with_reducible repeat (first | refine blk_drewN ?_ _ | refine blk_drew ?_ | refine blk_alloc ?_ _)); refine blk_put (cs := #[.int .u8 a0_0, .bool false, .bool false, .bool false, .int .u64 0]) ?_ 1 _ rfl; (with_reducible repeat (first | refine blk_drewN ?_ _ | refine blk_drew ?_ | refine blk_alloc ?_ _)); refine blk_put (cs := #[.int .u8 0, .bool false, .bool false, .bool false, .int .u64 0]) ?_ 0 _ rfl; (with_reducible repeat (first | refine blk_drewN ?_ _ | refine blk_drew ?_ | refine blk_alloc ?_ _)); exact BK188.out) Try.underlying43 rfl (by kernel_rfl)) rfl ?_
  exact ⟨by first | rfl | (simp [errW_none, errW_some] <;> rfl) | (simp [*, errW_none, errW_some] <;> rfl), by repeat (first | (with_reducible first | exact HB.out | apply below_alloc | apply pw_below_drewN | apply below_drew1 | refine below_set ?_ GE187.out | refine below_set ?_ GE188.out) | exact HB.out)⟩

/-! ### carousellaw14_Of: function 9 (given: its walk is in another text) -/

def carousellaw14_Of.f (a0_0 a0_1 : Bool) (a0_2 : Int) (a0_3 a0_4 : Bool) (a0_5 : Int) : Option (Bool × Bool × Int × Bool × Bool × Int) := some (a0_0, a0_1, a0_2, a0_3, a0_4, a0_5)
theorem carousellaw14_Of.set_b {w W : World} {p : Addr} (h : Below w.heap.size w W) (hp : w.heap.size ≤ p.block) (v : Value) : Below w.heap.size w (W.setCell p v) := h.setCell hp v
theorem carousellaw14_Of.post_W {P : Program} {fn : Func} {R : Ending → World → Prop} {x : Exit} {a : Act} {W : World} (h : ∀ W', W' = W → bodyPost P fn R x a W') : bodyPost P fn R x a W := h W rfl
def carousellaw14_Of.row (s0 e0 : Bool) (n0 : Int) (s1 e1 : Bool) (n1 : Int) (k : Int) : Array Value :=
  if k = 0 then #[.bool false, .bool false, .int .u64 0, .bool false, .bool false, .int .u64 0] else if k = 1 then #[.bool s0, .bool e0, .int .u64 n0, .bool false, .bool false, .int .u64 0] else #[.bool s0, .bool e0, .int .u64 n0, .bool s1, .bool e1, .int .u64 n1]
def carousellaw14_Of.Rel (s0 e0 : Bool) (n0 : Int) (s1 e1 : Bool) (n1 : Int) (w wr : World) (k : Int) : Prop :=
  wr.heap[w.heap.size]? = some (.cells #[.bool s0, .bool e0, .int .u64 n0, .bool s1, .bool e1, .int .u64 n1] 29 (0, 0)) ∧ wr.heap[w.heap.size + 1]? = some (.cells #[.bool false, .bool false, .int .u64 0, .bool false, .bool false, .int .u64 0] 32 (0, 0)) ∧
  wr.heap[w.heap.size + 1 + 1]? = some (.cells (carousellaw14_Of.row s0 e0 n0 s1 e1 n1 k) 32 (0, 0)) ∧ Below w.heap.size w wr
set_option maxHeartbeats 8000000 in
set_option maxRecDepth 100000 in
theorem carousellaw14_Of.walk (s0 e0 : Bool) (n0 : Int) (s1 e1 : Bool) (n1 : Int) (w : World) :
    Calls Try.prog 9 #[.agg #[.bool s0, .bool e0, .int .u64 n0, .bool s1, .bool e1, .int .u64 n1]] w fun e w' =>
      e = .returned (.agg #[.bool s0, .bool e0, .int .u64 n0, .bool s1, .bool e1, .int .u64 n1]) ∧ Below w.heap.size w w' := by
  have huA := Try.underlying32
  have huB := Try.underlying29
  go_enter Try.func9, Try.ntmps9
  go_wp2
  go_loopw [5] (fun i wr => ∃ k : Int, (k = 0 ∨ k = 1 ∨ k = 2) ∧ i = .int .i64 k ∧ carousellaw14_Of.Rel s0 e0 n0 s1 e1 n1 w wr k) (fun i _ => (2 - intOf i).toNat)
  case atStart =>
    refine ⟨0, Or.inl rfl, rfl, ?_, ?_, ?_, ?_⟩
    · with_reducible exact blk_alloc (blk_alloc (blk_new _ _) _) _
    · have h := blk_new (w.alloc (.cells #[.bool s0, .bool e0, .int .u64 n0, .bool s1, .bool e1, .int .u64 n1] 29)) (.cells #[.bool false, .bool false, .int .u64 0, .bool false, .bool false, .int .u64 0] 32)
      simp only [World.size_alloc] at h
      exact blk_alloc h _
    · have h := blk_new ((w.alloc (.cells #[.bool s0, .bool e0, .int .u64 n0, .bool s1, .bool e1, .int .u64 n1] 29)).alloc (.cells #[.bool false, .bool false, .int .u64 0, .bool false, .bool false, .int .u64 0] 32)) (.cells #[.bool false, .bool false, .int .u64 0, .bool false, .bool false, .int .u64 0] 32)
      simp only [World.size_alloc] at h
      exact h
    · repeat (with_reducible first | exact Below.refl _ _ | apply below_alloc)
  case round =>
    obtain ⟨k, hk, rfl, hP, hR, hO, hB⟩ := hrel
    rcases hk with rfl | rfl | rfl
    · have hO' : wr.heap[w.heap.size + 1 + 1]? = some (.cells #[.bool false, .bool false, .int .u64 0, .bool false, .bool false, .int .u64 0] 32 (0, 0)) := hO
      clear hO
      have p0 : wr.cell? ⟨w.heap.size, 0, none⟩ = some (.bool s0) := (blk_cell hP 0).trans rfl
      have p1 : wr.cell? ⟨w.heap.size, 1, none⟩ = some (.bool e0) := (blk_cell hP 1).trans rfl
      have p2 : wr.cell? ⟨w.heap.size, 2, none⟩ = some (.int .u64 n0) := (blk_cell hP 2).trans rfl
      have p3 : wr.cell? ⟨w.heap.size, 3, none⟩ = some (.bool s1) := (blk_cell hP 3).trans rfl
      have p4 : wr.cell? ⟨w.heap.size, 4, none⟩ = some (.bool e1) := (blk_cell hP 4).trans rfl
      have p5 : wr.cell? ⟨w.heap.size, 5, none⟩ = some (.int .u64 n1) := (blk_cell hP 5).trans rfl
      have o0 : wr.cell? ⟨w.heap.size + 1 + 1, 0, none⟩ = some (.bool false) := (blk_cell hO' 0).trans rfl
      have o1 : wr.cell? ⟨w.heap.size + 1 + 1, 1, none⟩ = some (.bool false) := (blk_cell hO' 1).trans rfl
      have o2 : wr.cell? ⟨w.heap.size + 1 + 1, 2, none⟩ = some (.int .u64 0) := (blk_cell hO' 2).trans rfl
      have o3 : wr.cell? ⟨w.heap.size + 1 + 1, 3, none⟩ = some (.bool false) := (blk_cell hO' 3).trans rfl
      have o4 : wr.cell? ⟨w.heap.size + 1 + 1, 4, none⟩ = some (.bool false) := (blk_cell hO' 4).trans rfl
      have o5 : wr.cell? ⟨w.heap.size + 1 + 1, 5, none⟩ = some (.int .u64 0) := (blk_cell hO' 5).trans rfl
      have f0 := blk_frozen hO' 0
      have f1 := blk_frozen hO' 1
      have f2 := blk_frozen hO' 2
      have f3 := blk_frozen hO' 3
      have f4 := blk_frozen hO' 4
      have f5 := blk_frozen hO' 5
      go_wp2
      go_region
      go_wp2
      go_roundw
      case rel =>
        refine ⟨1, by decide, rfl, ?_, ?_, ?_, ?_⟩
        · with_reducible refine blk_drew (blk_far (blk_far (blk_far hP (by simp <;> omega) _) (by simp <;> omega) _) (by simp <;> omega) _)
        · with_reducible refine blk_drew (blk_far (blk_far (blk_far hR (by simp <;> omega) _) (by simp <;> omega) _) (by simp <;> omega) _)
        · have hO_ : ∀ W : World, W.heap[w.heap.size + 1 + 1]? = some (Obj.cells #[.bool s0, .bool e0, .int .u64 n0, .bool false, .bool false, .int .u64 0] 32 (0, 0)) → W.heap[w.heap.size + 1 + 1]? = some (Obj.cells (carousellaw14_Of.row s0 e0 n0 s1 e1 n1 1) 32 (0, 0)) := fun _ h => h
          refine hO_ _ ?_
          with_reducible refine blk_drew ?_
          with_reducible refine blk_put (cs := #[.bool s0, .bool e0, .int .u64 0, .bool false, .bool false, .int .u64 0]) ?_ 2 _ rfl
          with_reducible refine blk_put (cs := #[.bool s0, .bool false, .int .u64 0, .bool false, .bool false, .int .u64 0]) ?_ 1 _ rfl
          with_reducible refine blk_put (cs := #[.bool false, .bool false, .int .u64 0, .bool false, .bool false, .int .u64 0]) ?_ 0 _ rfl
          exact hO'
        · with_reducible exact below_drew1 (carousellaw14_Of.set_b (carousellaw14_Of.set_b (carousellaw14_Of.set_b hB (by simp <;> omega) _) (by simp <;> omega) _) (by simp <;> omega) _)
      case measure => simp [intOf]
    · have hO' : wr.heap[w.heap.size + 1 + 1]? = some (.cells #[.bool s0, .bool e0, .int .u64 n0, .bool false, .bool false, .int .u64 0] 32 (0, 0)) := hO
      clear hO
      have p0 : wr.cell? ⟨w.heap.size, 0, none⟩ = some (.bool s0) := (blk_cell hP 0).trans rfl
      have p1 : wr.cell? ⟨w.heap.size, 1, none⟩ = some (.bool e0) := (blk_cell hP 1).trans rfl
      have p2 : wr.cell? ⟨w.heap.size, 2, none⟩ = some (.int .u64 n0) := (blk_cell hP 2).trans rfl
      have p3 : wr.cell? ⟨w.heap.size, 3, none⟩ = some (.bool s1) := (blk_cell hP 3).trans rfl
      have p4 : wr.cell? ⟨w.heap.size, 4, none⟩ = some (.bool e1) := (blk_cell hP 4).trans rfl
      have p5 : wr.cell? ⟨w.heap.size, 5, none⟩ = some (.int .u64 n1) := (blk_cell hP 5).trans rfl
      have o0 : wr.cell? ⟨w.heap.size + 1 + 1, 0, none⟩ = some (.bool s0) := (blk_cell hO' 0).trans rfl
      have o1 : wr.cell? ⟨w.heap.size + 1 + 1, 1, none⟩ = some (.bool e0) := (blk_cell hO' 1).trans rfl
      have o2 : wr.cell? ⟨w.heap.size + 1 + 1, 2, none⟩ = some (.int .u64 n0) := (blk_cell hO' 2).trans rfl
      have o3 : wr.cell? ⟨w.heap.size + 1 + 1, 3, none⟩ = some (.bool false) := (blk_cell hO' 3).trans rfl
      have o4 : wr.cell? ⟨w.heap.size + 1 + 1, 4, none⟩ = some (.bool false) := (blk_cell hO' 4).trans rfl
      have o5 : wr.cell? ⟨w.heap.size + 1 + 1, 5, none⟩ = some (.int .u64 0) := (blk_cell hO' 5).trans rfl
      have f0 := blk_frozen hO' 0
      have f1 := blk_frozen hO' 1
      have f2 := blk_frozen hO' 2
      have f3 := blk_frozen hO' 3
      have f4 := blk_frozen hO' 4
      have f5 := blk_frozen hO' 5
      go_wp2
      go_region
      go_wp2
      go_roundw
      case rel =>
        refine ⟨2, by decide, rfl, ?_, ?_, ?_, ?_⟩
        · with_reducible refine blk_drew (blk_far (blk_far (blk_far hP (by simp <;> omega) _) (by simp <;> omega) _) (by simp <;> omega) _)
        · with_reducible refine blk_drew (blk_far (blk_far (blk_far hR (by simp <;> omega) _) (by simp <;> omega) _) (by simp <;> omega) _)
        · have hO_ : ∀ W : World, W.heap[w.heap.size + 1 + 1]? = some (Obj.cells #[.bool s0, .bool e0, .int .u64 n0, .bool s1, .bool e1, .int .u64 n1] 32 (0, 0)) → W.heap[w.heap.size + 1 + 1]? = some (Obj.cells (carousellaw14_Of.row s0 e0 n0 s1 e1 n1 2) 32 (0, 0)) := fun _ h => h
          refine hO_ _ ?_
          with_reducible refine blk_drew ?_
          with_reducible refine blk_put (cs := #[.bool s0, .bool e0, .int .u64 n0, .bool s1, .bool e1, .int .u64 0]) ?_ 5 _ rfl
          with_reducible refine blk_put (cs := #[.bool s0, .bool e0, .int .u64 n0, .bool s1, .bool false, .int .u64 0]) ?_ 4 _ rfl
          with_reducible refine blk_put (cs := #[.bool s0, .bool e0, .int .u64 n0, .bool false, .bool false, .int .u64 0]) ?_ 3 _ rfl
          exact hO'
        · with_reducible exact below_drew1 (carousellaw14_Of.set_b (carousellaw14_Of.set_b (carousellaw14_Of.set_b hB (by simp <;> omega) _) (by simp <;> omega) _) (by simp <;> omega) _)
      case measure => simp [intOf]
    · have hO' : wr.heap[w.heap.size + 1 + 1]? = some (.cells #[.bool s0, .bool e0, .int .u64 n0, .bool s1, .bool e1, .int .u64 n1] 32 (0, 0)) := hO
      clear hO
      have o0 : wr.cell? ⟨w.heap.size + 1 + 1, 0, none⟩ = some (.bool s0) := (blk_cell hO' 0).trans rfl
      have o1 : wr.cell? ⟨w.heap.size + 1 + 1, 1, none⟩ = some (.bool e0) := (blk_cell hO' 1).trans rfl
      have o2 : wr.cell? ⟨w.heap.size + 1 + 1, 2, none⟩ = some (.int .u64 n0) := (blk_cell hO' 2).trans rfl
      have o3 : wr.cell? ⟨w.heap.size + 1 + 1, 3, none⟩ = some (.bool s1) := (blk_cell hO' 3).trans rfl
      have o4 : wr.cell? ⟨w.heap.size + 1 + 1, 4, none⟩ = some (.bool e1) := (blk_cell hO' 4).trans rfl
      have o5 : wr.cell? ⟨w.heap.size + 1 + 1, 5, none⟩ = some (.int .u64 n1) := (blk_cell hO' 5).trans rfl
      have r0 : wr.cell? ⟨w.heap.size + 1, 0, none⟩ = some (.bool false) := (blk_cell hR 0).trans rfl
      have r1 : wr.cell? ⟨w.heap.size + 1, 1, none⟩ = some (.bool false) := (blk_cell hR 1).trans rfl
      have r2 : wr.cell? ⟨w.heap.size + 1, 2, none⟩ = some (.int .u64 0) := (blk_cell hR 2).trans rfl
      have r3 : wr.cell? ⟨w.heap.size + 1, 3, none⟩ = some (.bool false) := (blk_cell hR 3).trans rfl
      have r4 : wr.cell? ⟨w.heap.size + 1, 4, none⟩ = some (.bool false) := (blk_cell hR 4).trans rfl
      have r5 : wr.cell? ⟨w.heap.size + 1, 5, none⟩ = some (.int .u64 0) := (blk_cell hR 5).trans rfl
      have f0 := blk_frozen hR 0
      have f1 := blk_frozen hR 1
      have f2 := blk_frozen hR 2
      have f3 := blk_frozen hR 3
      have f4 := blk_frozen hR 4
      have f5 := blk_frozen hR 5
      go_wp2
      refine carousellaw14_Of.post_W (fun W3 hW3 => ?_)
      have hB3 : Below w.heap.size w W3 := by
        rw [hW3]
        repeat (with_reducible first | exact hB | apply below_alloc | apply below_drew1 | apply pw_below_drewN | refine carousellaw14_Of.set_b ?_ (by simp <;> omega) _)
      have hR3 : W3.heap[w.heap.size + 1]? = some (.cells #[.bool s0, .bool e0, .int .u64 n0, .bool s1, .bool e1, .int .u64 n1] 32 (0, 0)) := by
        rw [hW3]
        with_reducible refine blk_put (cs := #[.bool s0, .bool e0, .int .u64 n0, .bool s1, .bool e1, .int .u64 0]) ?_ 5 _ rfl
        with_reducible refine blk_put (cs := #[.bool s0, .bool e0, .int .u64 n0, .bool s1, .bool false, .int .u64 0]) ?_ 4 _ rfl
        with_reducible refine blk_put (cs := #[.bool s0, .bool e0, .int .u64 n0, .bool false, .bool false, .int .u64 0]) ?_ 3 _ rfl
        with_reducible refine blk_put (cs := #[.bool s0, .bool e0, .int .u64 0, .bool false, .bool false, .int .u64 0]) ?_ 2 _ rfl
        with_reducible refine blk_put (cs := #[.bool s0, .bool false, .int .u64 0, .bool false, .bool false, .int .u64 0]) ?_ 1 _ rfl
        with_reducible refine blk_put (cs := #[.bool false, .bool false, .int .u64 0, .bool false, .bool false, .int .u64 0]) ?_ 0 _ rfl
        exact hR
      have z0 : W3.cell? ⟨w.heap.size + 1, 0, none⟩ = some (.bool s0) := (blk_cell hR3 0).trans rfl
      have z1 : W3.cell? ⟨w.heap.size + 1, 1, none⟩ = some (.bool e0) := (blk_cell hR3 1).trans rfl
      have z2 : W3.cell? ⟨w.heap.size + 1, 2, none⟩ = some (.int .u64 n0) := (blk_cell hR3 2).trans rfl
      have z3 : W3.cell? ⟨w.heap.size + 1, 3, none⟩ = some (.bool s1) := (blk_cell hR3 3).trans rfl
      have z4 : W3.cell? ⟨w.heap.size + 1, 4, none⟩ = some (.bool e1) := (blk_cell hR3 4).trans rfl
      have z5 : W3.cell? ⟨w.heap.size + 1, 5, none⟩ = some (.int .u64 n1) := (blk_cell hR3 5).trans rfl
      exact bodyPost_ret (v := .agg #[.bool s0, .bool e0, .int .u64 n0, .bool s1, .bool e1, .int .u64 n1]) (by simp [results, Try.results9, go_sem, z0, z1, z2, z3, z4, z5]) rfl ⟨rfl, hB3⟩
theorem carousellaw14_Of.calls (a0_0 a0_1 : Bool) (a0_2 : Int) (a0_3 a0_4 : Bool) (a0_5 : Int) (r1 r2 : Bool) (r3 : Int) (r4 r5 : Bool) (r6 : Int) (w : World) (h : carousellaw14_Of.f a0_0 a0_1 a0_2 a0_3 a0_4 a0_5 = some (r1, r2, r3, r4, r5, r6)) :
    Calls Try.prog 9 #[.agg #[.bool a0_0, .bool a0_1, .int .u64 a0_2, .bool a0_3, .bool a0_4, .int .u64 a0_5]] w fun e w' => e = .returned (.agg #[.bool r1, .bool r2, .int .u64 r3, .bool r4, .bool r5, .int .u64 r6]) ∧ Below w.heap.size w w' := by
  unfold carousellaw14_Of.f at h
  simp only [Option.some.injEq, Prod.mk.injEq] at h
  obtain ⟨rfl, rfl, rfl, rfl, rfl, rfl⟩ := h
  exact carousellaw14_Of.walk _ _ _ _ _ _ w


end Go.Proofs.Ytbciaapkahfcaaa.PFlushHears
