/- Counters' document's answer, walked by hand. -/
import Derived.Test.YtehicbehljfkhaaGwTallyD
namespace Go.Proofs.Ytehicbehljfkhaa.Ta
set_option linter.unusedVariables false
set_option linter.unusedSimpArgs false
open Go.RowKit Go.Proofs.YtehicbehljfkhaaW.PrintWords Go.Proofs.YtehicbehljfkhaaW.PrintLast Go.Proofs.YtehicbehljfkhaaW.PrintMore
theorem tp_W {P : Program} {C : Code} {Q : Exit → Act → World → Prop} {a : Act} {W : World} (h : ∀ W', W' = W → Code.wp P C Q a W') : Code.wp P C Q a W := h W rfl
/-- An array's cells in a box. -/
def BIs (w : World) (b : Nat) (l : List Int) : Prop := w.heap[b]? = some (.cells (cellsOf l) 58 (0, 0))
theorem BIs.cell {w : World} {b : Nat} {l : List Int} (h : BIs w b l) (k : Nat) (hk : k < l.length) : w.cell? ⟨b, k, none⟩ = some (.int .u64 l[k]) := by
  rw [blk_cell h k]
  simp [cellsOf, hk]
theorem BIs.below {w w1 : World} {b : Nat} {l : List Int} (h : BIs w b l) (hb : Below w.heap.size w w1) : BIs w1 b l := blk_below h hb
set_option maxHeartbeats 4000000 in
set_option maxRecDepth 100000 in
theorem refget_ok (l : List Int) (k : Int) (w : World) (hl : l.length = 16) :
    Calls Try.prog 25 #[.agg (cellsOf l), .int .i64 k] w fun e w' => e = .returned (.int .u64 (getL l k)) ∧ Below w.heap.size w w' := by
  have hu58 := Try.underlying58
  by_cases hk : 0 ≤ k ∧ k < 16
  · obtain ⟨j, rfl⟩ := Int.eq_ofNat_of_zero_le hk.1
    have hj : j < l.length := by rw [hl]; omega
    have hg : getL l (j : Int) = l[j] := by unfold getL; rw [if_pos hk, Int.toNat_natCast, List.getD_eq_getElem?_getD, List.getElem?_eq_getElem hj]; rfl
    have hj16 : j < 16 := by omega
    have q0 : decide ((j : Int) < 0) = false := decide_eq_false (by omega)
    have q1 : decide ((j : Int) > 15) = false := decide_eq_false (by omega)
    have q2 : decide (15 < j) = false := decide_eq_false (by omega)
    have hcell := BIs.cell (blk_new w (.cells (cellsOf l) 58)) j hj
    rw [hg]
    clear hk hg
    go_enter Try.func25, Try.ntmps25
    go_wp2
    go_ret
    exact ⟨rfl, below_alloc (Below.refl _ _) _⟩
  · have hg : getL l k = 0 := by unfold getL; rw [if_neg hk]
    rw [hg]
    by_cases h0 : k < 0
    · have q0 : decide (k < 0) = true := decide_eq_true h0
      clear hk hg
      go_enter Try.func25, Try.ntmps25
      go_wp2
      go_ret
      exact ⟨rfl, below_alloc (Below.refl _ _) _⟩
    · have q0 : decide (k < 0) = false := decide_eq_false h0
      have hg15 : 15 < k := by omega
      have q1 : decide (k > 15) = true := decide_eq_true hg15
      have q2 : decide (15 < k) = true := decide_eq_true hg15
      clear hk hg
      go_enter Try.func25, Try.ntmps25
      go_wp2
      go_ret
      exact ⟨rfl, below_alloc (Below.refl _ _) _⟩
theorem cellsOf_list (l : List Int) : (cellsOf l).toList = l.map (Value.int .u64) := rfl
/-- A whole array is read. -/
theorem load_run {W : World} {b : Nat} {l : List Int} (h : BIs W b l) (hl : l.length = 16) : (loadVar 58 ⟨b, 0, none⟩).run Try.prog W = .ok (.agg (cellsOf l)) W := by
  have hs : (sizeOf 58).run Try.prog W = .ok 16 W := by
    have h0 : (Try.prog.info? 58).map (·.size) = some 16 := by kernel_rfl
    obtain ⟨i, hi, hz⟩ := Option.map_eq_some_iff.1 h0
    simp [sizeOf, typeInfo, hi, hz]
  have ha : (isAgg 58).run Try.prog W = .ok true W := by
    simp [isAgg, underlying, typeInfo, run_underlying Try.underlying58]
  have hc := run_loadCells_list (P := Try.prog) W ⟨b, 0, none⟩ (l.map (Value.int .u64)) (fun j v hj => by
    have hj2 : j < l.length := by have := (List.getElem?_eq_some_iff.1 hj).1; simpa using this
    have e : (⟨b, 0, none⟩ : Addr).add j = ⟨b, j, none⟩ := by unfold Addr.add; split <;> simp_all
    rw [e, h.cell j hj2]
    simpa [List.getElem?_map, List.getElem?_eq_getElem hj2] using hj)
  rw [List.length_map, hl] at hc
  simp only [loadVar, Sem.run_bind, ha, Result.andThen_ok, if_true, hs, hc]
  rfl
theorem set_all (g : Nat) (l l' : List Int) (W : World) (h : BIs W g l) (hl : l.length = 16) (hl' : l'.length = 16) : BIs (W.setCells g 0 (l'.map (Value.int .u64))) g l' := by
  have e0 : (0 : Nat) + (l'.map (Value.int .u64)).length ≤ (cellsOf l).size := by simp [cellsOf, hl, hl']
  obtain ⟨cur', h1, h2, h3⟩ := setCells_row (l'.map (Value.int .u64)) 0 W (cellsOf l) h e0
  unfold BIs
  rw [h1]
  have : cur' = cellsOf l' := by
    apply Array.toList_inj.1
    rw [h3]
    simp [cellsOf, hl, hl']
  rw [this]
section
variable {ops : Array Oper} {rest : List Oper} {o : Oper} {a : Act} {Q : Exit → Act → World → Prop}
theorem load_arm {W : World} {N : Tmp} (hN : o.dst = some N) (hgd : o.guard = none) {p : Tmp} (ho : o.op = .load 58 (.tmp p)) {b : Nat} {l : List Int} (hp : a.eval (.tmp p) = .pointer (some ⟨b, 0, none⟩)) (h : BIs W b l) (hl : l.length = 16)
    (hk : wpList Try.prog ops Q rest (a.put o.dst (.agg (cellsOf l))) W) : wpList Try.prog ops Q (o :: rest) a W := by
  refine Kd.event_run hgd (v := .agg (cellsOf l)) (w1 := W) ?_ hk
  have hr := load_run h hl
  unfold execOp
  simp [ho, hp, Instr.loadAt, Instr.sureAddr, hr, Result.andThen]
theorem store_arm {W w : World} (hN : o.dst = none) (hgd : o.guard = none) {p : Tmp} {v : Operand} (ho : o.op = .store 58 (.tmp p) v) {b : Nat} {l l' : List Int} (hp : a.eval (.tmp p) = .pointer (some ⟨b, 0, none⟩)) (hv : a.eval v = .agg (cellsOf l')) (h : BIs W b l) (hl : l.length = 16) (hl' : l'.length = 16) (hB : Below w.heap.size w W) (hb : w.heap.size ≤ b)
    (hk : ∀ W', BIs W' b l' → Below w.heap.size w W' → (∀ k, k ≠ b → W'.heap[k]? = W.heap[k]?) → W'.heap.size = W.heap.size → wpList Try.prog ops Q rest a W') : wpList Try.prog ops Q (o :: rest) a W := by
  have hst := run_store_run (P := Try.prog) (o := 0) 58 (.agg (cellsOf l')) (l'.map (Value.int .u64)) h rfl (by rw [List.length_map, hl']; kernel_rfl) (by simp [cellsOf, hl, hl']) (fun q hq => by obtain ⟨x, _, rfl⟩ := List.mem_map.1 hq; rfl)
  have hs := setCells_same b (l'.map (Value.int .u64)) 0 W
  have hfar : ∀ k, k ≠ b → (W.setCells b 0 (l'.map (Value.int .u64))).heap[k]? = W.heap[k]? := fun k hk => setCells_far _ _ k hk
  refine store_event hgd ho hN (w1 := W.setCells b 0 (l'.map (Value.int .u64))) ?_ ?_
  · unfold execOp
    simp [ho, hp, hv, hst, Result.andThen]
  · rintro W' rfl
    refine hk _ (set_all b l l' W h hl hl') ?_ hfar hs.2.2.2
    exact hB.trans ⟨hs.1, hs.2.1, hs.2.2.1, Nat.le_of_eq hs.2.2.2.symm, fun k hk => hfar k (by omega)⟩
end
theorem BIs.set {w : World} {b : Nat} {l : List Int} (h : BIs w b l) (k : Nat) (hk : k < l.length) (x : Int) : BIs (w.setCell ⟨b, k, none⟩ (.int .u64 x)) b (l.set k x) := by
  unfold BIs at h ⊢
  have := blk_set h k (.int .u64 x)
  rw [this]
  simp [cellsOf, List.map_set]
theorem zero_cells : cellsOf zero16 = #[.int .u64 0, .int .u64 0, .int .u64 0, .int .u64 0, .int .u64 0, .int .u64 0, .int .u64 0, .int .u64 0, .int .u64 0, .int .u64 0, .int .u64 0, .int .u64 0, .int .u64 0, .int .u64 0, .int .u64 0, .int .u64 0] := rfl
set_option maxHeartbeats 4000000 in
set_option maxRecDepth 100000 in
theorem refadd_out (l : List Int) (k n : Int) (w : World) (hl : l.length = 16) (hk : ¬ (0 ≤ k ∧ k < 16)) :
    Calls Try.prog 23 #[.agg (cellsOf l), .int .i64 k, .int .u64 n] w fun e w' => e = .returned (.agg (cellsOf l)) ∧ Below w.heap.size w w' := by
  have hu58 := Try.underlying58
  have h0 : BIs ((w.alloc (.cells (cellsOf l) 58)).alloc (.cells #[.int .u64 0, .int .u64 0, .int .u64 0, .int .u64 0, .int .u64 0, .int .u64 0, .int .u64 0, .int .u64 0, .int .u64 0, .int .u64 0, .int .u64 0, .int .u64 0, .int .u64 0, .int .u64 0, .int .u64 0, .int .u64 0] 58)) w.heap.size l := blk_alloc (blk_new w (.cells (cellsOf l) 58)) _
  have h1 : BIs ((w.alloc (.cells (cellsOf l) 58)).alloc (.cells #[.int .u64 0, .int .u64 0, .int .u64 0, .int .u64 0, .int .u64 0, .int .u64 0, .int .u64 0, .int .u64 0, .int .u64 0, .int .u64 0, .int .u64 0, .int .u64 0, .int .u64 0, .int .u64 0, .int .u64 0, .int .u64 0] 58)) (w.heap.size + 1) zero16 := by
    have := blk_new (w.alloc (.cells (cellsOf l) 58)) (.cells (cellsOf zero16) 58)
    rw [World.size_alloc] at this
    exact this
  have hB : Below w.heap.size w ((w.alloc (.cells (cellsOf l) 58)).alloc (.cells #[.int .u64 0, .int .u64 0, .int .u64 0, .int .u64 0, .int .u64 0, .int .u64 0, .int .u64 0, .int .u64 0, .int .u64 0, .int .u64 0, .int .u64 0, .int .u64 0, .int .u64 0, .int .u64 0, .int .u64 0, .int .u64 0] 58)) := below_alloc (below_alloc (Below.refl _ w) _) _
  have H0 := Lib.hid h0
  have H1 := Lib.hid h1
  have HB := Lib.hid hB
  clear h0 h1 hB
  by_cases hk0 : k < 0
  · have q0 : decide (k < 0) = true := decide_eq_true hk0
    go_enter Try.func23, Try.ntmps23
    go_wp2_with (first | ((with_reducible refine gate_dst (N := 13) rfl ?_); refine load_arm (N := 13) rfl rfl rfl rfl H0.out hl ?_) | (refine store_arm (w := w) rfl rfl rfl rfl rfl H1.out rfl hl HB.out (by simp) ?_; intro W' hW' hB' _ _))
    exact bodyPost_ret (results_cell_row rfl _ _ (w.heap.size + 1) 58 (cellsOf l) (0, 0) _ rfl hW' Try.underlying58 rfl (by rw [show (cellsOf l).size = 16 from by simp [cellsOf, hl]]; kernel_rfl)) rfl ⟨rfl, hB'⟩
  · have q0 : decide (k < 0) = false := decide_eq_false hk0
    have hg15 : 15 < k := by omega
    have q1 : decide (k > 15) = true := decide_eq_true hg15
    have q2 : decide (15 < k) = true := decide_eq_true hg15
    go_enter Try.func23, Try.ntmps23
    go_wp2_with (first | ((with_reducible refine gate_dst (N := 13) rfl ?_); refine load_arm (N := 13) rfl rfl rfl rfl H0.out hl ?_) | (refine store_arm (w := w) rfl rfl rfl rfl rfl H1.out rfl hl HB.out (by simp) ?_; intro W' hW' hB' _ _))
    exact bodyPost_ret (results_cell_row rfl _ _ (w.heap.size + 1) 58 (cellsOf l) (0, 0) _ rfl hW' Try.underlying58 rfl (by rw [show (cellsOf l).size = 16 from by simp [cellsOf, hl]]; kernel_rfl)) rfl ⟨rfl, hB'⟩
set_option maxHeartbeats 4000000 in
set_option maxRecDepth 100000 in
theorem refadd_ina (l : List Int) (j : Nat) (n : Int) (w : World) (hl : l.length = 16) (hj : j < l.length) (hx0 : 0 ≤ l[j]) (hx1 : l[j] ≤ 18446744073709551615) (hn0 : 0 ≤ n) (hn1 : n ≤ 18446744073709551615) (h : 18446744073709551615 - l[j] < n) :
    Calls Try.prog 23 #[.agg (cellsOf l), .int .i64 (j : Int), .int .u64 n] w fun e w' => e = .returned (.agg (cellsOf (l.set j (18446744073709551615)))) ∧ Below w.heap.size w w' := by
  have hu58 := Try.underlying58
  have h0 : BIs ((w.alloc (.cells (cellsOf l) 58)).alloc (.cells #[.int .u64 0, .int .u64 0, .int .u64 0, .int .u64 0, .int .u64 0, .int .u64 0, .int .u64 0, .int .u64 0, .int .u64 0, .int .u64 0, .int .u64 0, .int .u64 0, .int .u64 0, .int .u64 0, .int .u64 0, .int .u64 0] 58)) w.heap.size l := blk_alloc (blk_new w (.cells (cellsOf l) 58)) _
  have h1 : BIs ((w.alloc (.cells (cellsOf l) 58)).alloc (.cells #[.int .u64 0, .int .u64 0, .int .u64 0, .int .u64 0, .int .u64 0, .int .u64 0, .int .u64 0, .int .u64 0, .int .u64 0, .int .u64 0, .int .u64 0, .int .u64 0, .int .u64 0, .int .u64 0, .int .u64 0, .int .u64 0] 58)) (w.heap.size + 1) zero16 := by
    have := blk_new (w.alloc (.cells (cellsOf l) 58)) (.cells (cellsOf zero16) 58)
    rw [World.size_alloc] at this
    exact this
  have hB : Below w.heap.size w ((w.alloc (.cells (cellsOf l) 58)).alloc (.cells #[.int .u64 0, .int .u64 0, .int .u64 0, .int .u64 0, .int .u64 0, .int .u64 0, .int .u64 0, .int .u64 0, .int .u64 0, .int .u64 0, .int .u64 0, .int .u64 0, .int .u64 0, .int .u64 0, .int .u64 0, .int .u64 0] 58)) := below_alloc (below_alloc (Below.refl _ w) _) _
  have hc := h0.cell j hj
  have hf : ((w.alloc (.cells (cellsOf l) 58)).alloc (.cells #[.int .u64 0, .int .u64 0, .int .u64 0, .int .u64 0, .int .u64 0, .int .u64 0, .int .u64 0, .int .u64 0, .int .u64 0, .int .u64 0, .int .u64 0, .int .u64 0, .int .u64 0, .int .u64 0, .int .u64 0, .int .u64 0] 58)).frozen? ⟨w.heap.size, j, none⟩ = false := blk_frozen h0 j
  have ec : (cellsOf l).setIfInBounds j (.int .u64 (18446744073709551615)) = cellsOf (l.set j (18446744073709551615)) := by simp [cellsOf, List.map_set]
  have h2 : BIs ((w.alloc (.cells ((cellsOf l).setIfInBounds j (.int .u64 (18446744073709551615))) 58)).alloc (.cells #[.int .u64 0, .int .u64 0, .int .u64 0, .int .u64 0, .int .u64 0, .int .u64 0, .int .u64 0, .int .u64 0, .int .u64 0, .int .u64 0, .int .u64 0, .int .u64 0, .int .u64 0, .int .u64 0, .int .u64 0, .int .u64 0] 58)) w.heap.size (l.set j (18446744073709551615)) := by
    rw [ec]
    exact blk_alloc (blk_new w (.cells (cellsOf (l.set j (18446744073709551615))) 58)) _
  have h3 : BIs ((w.alloc (.cells ((cellsOf l).setIfInBounds j (.int .u64 (18446744073709551615))) 58)).alloc (.cells #[.int .u64 0, .int .u64 0, .int .u64 0, .int .u64 0, .int .u64 0, .int .u64 0, .int .u64 0, .int .u64 0, .int .u64 0, .int .u64 0, .int .u64 0, .int .u64 0, .int .u64 0, .int .u64 0, .int .u64 0, .int .u64 0] 58)) (w.heap.size + 1) zero16 := by
    have := blk_new (w.alloc (.cells ((cellsOf l).setIfInBounds j (.int .u64 (18446744073709551615))) 58)) (.cells (cellsOf zero16) 58)
    rw [World.size_alloc] at this
    exact this
  have hB2 : Below w.heap.size w ((w.alloc (.cells ((cellsOf l).setIfInBounds j (.int .u64 (18446744073709551615))) 58)).alloc (.cells #[.int .u64 0, .int .u64 0, .int .u64 0, .int .u64 0, .int .u64 0, .int .u64 0, .int .u64 0, .int .u64 0, .int .u64 0, .int .u64 0, .int .u64 0, .int .u64 0, .int .u64 0, .int .u64 0, .int .u64 0, .int .u64 0] 58)) := below_alloc (below_alloc (Below.refl _ w) _) _
  clear ec
  have H2 := Lib.hid h2
  have H3 := Lib.hid h3
  have HB := Lib.hid hB2
  clear h0 h1 h2 h3 hB hB2
  have hj16 : j < 16 := by omega
  have p0 : decide ((j : Int) < 0) = false := decide_eq_false (by omega)
  have p1 : decide ((j : Int) > 15) = false := decide_eq_false (by omega)
  have p2 : decide (15 < j) = false := decide_eq_false (by omega)
  have q0 : decide (n > 18446744073709551615 - l[j]) = true := decide_eq_true h
  have q1 : decide (18446744073709551615 - l[j] < n) = true := decide_eq_true h
  clear h
  have hls : (l.set j (18446744073709551615)).length = 16 := by rw [List.length_set]; exact hl
  go_enter Try.func23, Try.ntmps23
  go_wp2_with (first | ((with_reducible refine gate_dst (N := 29) rfl ?_); refine load_arm (N := 29) rfl rfl rfl rfl H2.out hls ?_) | (refine store_arm (w := w) rfl rfl rfl rfl rfl H3.out rfl hls HB.out (by simp) ?_; intro W' hW' hB' _ _))
  exact bodyPost_ret (results_cell_row rfl _ _ (w.heap.size + 1) 58 (cellsOf (l.set j (18446744073709551615))) (0, 0) _ rfl hW' Try.underlying58 rfl (by rw [show (cellsOf (l.set j (18446744073709551615))).size = 16 from by simp [cellsOf, hl]]; kernel_rfl)) rfl ⟨rfl, hB'⟩
set_option maxHeartbeats 4000000 in
set_option maxRecDepth 100000 in
theorem refadd_inb (l : List Int) (j : Nat) (n : Int) (w : World) (hl : l.length = 16) (hj : j < l.length) (hx0 : 0 ≤ l[j]) (hx1 : l[j] ≤ 18446744073709551615) (hn0 : 0 ≤ n) (hn1 : n ≤ 18446744073709551615) (h : ¬ 18446744073709551615 - l[j] < n) :
    Calls Try.prog 23 #[.agg (cellsOf l), .int .i64 (j : Int), .int .u64 n] w fun e w' => e = .returned (.agg (cellsOf (l.set j (l[j] + n)))) ∧ Below w.heap.size w w' := by
  have hu58 := Try.underlying58
  have h0 : BIs ((w.alloc (.cells (cellsOf l) 58)).alloc (.cells #[.int .u64 0, .int .u64 0, .int .u64 0, .int .u64 0, .int .u64 0, .int .u64 0, .int .u64 0, .int .u64 0, .int .u64 0, .int .u64 0, .int .u64 0, .int .u64 0, .int .u64 0, .int .u64 0, .int .u64 0, .int .u64 0] 58)) w.heap.size l := blk_alloc (blk_new w (.cells (cellsOf l) 58)) _
  have h1 : BIs ((w.alloc (.cells (cellsOf l) 58)).alloc (.cells #[.int .u64 0, .int .u64 0, .int .u64 0, .int .u64 0, .int .u64 0, .int .u64 0, .int .u64 0, .int .u64 0, .int .u64 0, .int .u64 0, .int .u64 0, .int .u64 0, .int .u64 0, .int .u64 0, .int .u64 0, .int .u64 0] 58)) (w.heap.size + 1) zero16 := by
    have := blk_new (w.alloc (.cells (cellsOf l) 58)) (.cells (cellsOf zero16) 58)
    rw [World.size_alloc] at this
    exact this
  have hB : Below w.heap.size w ((w.alloc (.cells (cellsOf l) 58)).alloc (.cells #[.int .u64 0, .int .u64 0, .int .u64 0, .int .u64 0, .int .u64 0, .int .u64 0, .int .u64 0, .int .u64 0, .int .u64 0, .int .u64 0, .int .u64 0, .int .u64 0, .int .u64 0, .int .u64 0, .int .u64 0, .int .u64 0] 58)) := below_alloc (below_alloc (Below.refl _ w) _) _
  have hc := h0.cell j hj
  have hf : ((w.alloc (.cells (cellsOf l) 58)).alloc (.cells #[.int .u64 0, .int .u64 0, .int .u64 0, .int .u64 0, .int .u64 0, .int .u64 0, .int .u64 0, .int .u64 0, .int .u64 0, .int .u64 0, .int .u64 0, .int .u64 0, .int .u64 0, .int .u64 0, .int .u64 0, .int .u64 0] 58)).frozen? ⟨w.heap.size, j, none⟩ = false := blk_frozen h0 j
  have ec : (cellsOf l).setIfInBounds j (.int .u64 (l[j] + n)) = cellsOf (l.set j (l[j] + n)) := by simp [cellsOf, List.map_set]
  have h2 : BIs ((w.alloc (.cells ((cellsOf l).setIfInBounds j (.int .u64 (l[j] + n))) 58)).alloc (.cells #[.int .u64 0, .int .u64 0, .int .u64 0, .int .u64 0, .int .u64 0, .int .u64 0, .int .u64 0, .int .u64 0, .int .u64 0, .int .u64 0, .int .u64 0, .int .u64 0, .int .u64 0, .int .u64 0, .int .u64 0, .int .u64 0] 58)) w.heap.size (l.set j (l[j] + n)) := by
    rw [ec]
    exact blk_alloc (blk_new w (.cells (cellsOf (l.set j (l[j] + n))) 58)) _
  have h3 : BIs ((w.alloc (.cells ((cellsOf l).setIfInBounds j (.int .u64 (l[j] + n))) 58)).alloc (.cells #[.int .u64 0, .int .u64 0, .int .u64 0, .int .u64 0, .int .u64 0, .int .u64 0, .int .u64 0, .int .u64 0, .int .u64 0, .int .u64 0, .int .u64 0, .int .u64 0, .int .u64 0, .int .u64 0, .int .u64 0, .int .u64 0] 58)) (w.heap.size + 1) zero16 := by
    have := blk_new (w.alloc (.cells ((cellsOf l).setIfInBounds j (.int .u64 (l[j] + n))) 58)) (.cells (cellsOf zero16) 58)
    rw [World.size_alloc] at this
    exact this
  have hB2 : Below w.heap.size w ((w.alloc (.cells ((cellsOf l).setIfInBounds j (.int .u64 (l[j] + n))) 58)).alloc (.cells #[.int .u64 0, .int .u64 0, .int .u64 0, .int .u64 0, .int .u64 0, .int .u64 0, .int .u64 0, .int .u64 0, .int .u64 0, .int .u64 0, .int .u64 0, .int .u64 0, .int .u64 0, .int .u64 0, .int .u64 0, .int .u64 0] 58)) := below_alloc (below_alloc (Below.refl _ w) _) _
  clear ec
  have H2 := Lib.hid h2
  have H3 := Lib.hid h3
  have HB := Lib.hid hB2
  clear h0 h1 h2 h3 hB hB2
  have hj16 : j < 16 := by omega
  have p0 : decide ((j : Int) < 0) = false := decide_eq_false (by omega)
  have p1 : decide ((j : Int) > 15) = false := decide_eq_false (by omega)
  have p2 : decide (15 < j) = false := decide_eq_false (by omega)
  have q0 : decide (n > 18446744073709551615 - l[j]) = false := decide_eq_false h
  have q1 : decide (18446744073709551615 - l[j] < n) = false := decide_eq_false h
  have q2 : IntKind.u64.wrap (l[j] + n) = l[j] + n := by rw [show IntKind.u64.wrap (l[j] + n) = (l[j] + n) % 18446744073709551616 from rfl]; omega
  clear h
  have hls : (l.set j (l[j] + n)).length = 16 := by rw [List.length_set]; exact hl
  go_enter Try.func23, Try.ntmps23
  go_wp2_with (first | ((with_reducible refine gate_dst (N := 29) rfl ?_); refine load_arm (N := 29) rfl rfl rfl rfl H2.out hls ?_) | (refine store_arm (w := w) rfl rfl rfl rfl rfl H3.out rfl hls HB.out (by simp) ?_; intro W' hW' hB' _ _))
  exact bodyPost_ret (results_cell_row rfl _ _ (w.heap.size + 1) 58 (cellsOf (l.set j (l[j] + n))) (0, 0) _ rfl hW' Try.underlying58 rfl (by rw [show (cellsOf (l.set j (l[j] + n))).size = 16 from by simp [cellsOf, hl]]; kernel_rfl)) rfl ⟨rfl, hB'⟩
theorem refadd_ok (l : List Int) (k n : Int) (w : World) (hl : Good l) (hn0 : 0 ≤ n) (hn1 : n ≤ 18446744073709551615) :
    Calls Try.prog 23 #[.agg (cellsOf l), .int .i64 k, .int .u64 n] w fun e w' => e = .returned (.agg (cellsOf (addL l k n))) ∧ Below w.heap.size w w' := by
  by_cases hk : 0 ≤ k ∧ k < 16
  · obtain ⟨j, rfl⟩ := Int.eq_ofNat_of_zero_le hk.1
    have hj : j < l.length := by rw [hl.1]; omega
    have hx := hl.2 _ (List.getElem_mem hj)
    have e : addL l (j : Int) n = l.set j (sat l[j] n) := by unfold addL; rw [if_pos hk, Int.toNat_natCast, List.getD_eq_getElem?_getD, List.getElem?_eq_getElem hj]; rfl
    rw [e]
    by_cases h : 18446744073709551615 - l[j] < n
    · rw [show sat l[j] n = 18446744073709551615 from if_neg (by omega)]
      exact refadd_ina l j n w hl.1 hj hx.1 hx.2 hn0 hn1 h
    · rw [show sat l[j] n = l[j] + n from if_pos (by omega)]
      exact refadd_inb l j n w hl.1 hj hx.1 hx.2 hn0 hn1 h
  · have e : addL l k n = l := by unfold addL; rw [if_neg hk]
    rw [e]
    exact refadd_out l k n w hl.1 hk
end Go.Proofs.Ytehicbehljfkhaa.Ta
