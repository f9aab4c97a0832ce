/- Tables of addresses: slices.AppendSeq, Collect over a table's rows. -/
import Derived.Test.YtmlenepeocginaaGvFdLaw
namespace Go.Proofs.Ytmlenepeocginaa.Gv
open Go.Shelf Go.RowKit Go.Maps Go.WideElems Go.Proofs.YtmlenepeocginaaW.PrintWords Go.Proofs.YtmlenepeocginaaW.PrintLast Go.Proofs.YtmlenepeocginaaW.PrintMore
set_option linter.unusedVariables false
set_option linter.unusedSimpArgs false
def fdMk (p : Prop) : Prop := p
theorem fdMk_in {p : Prop} (h : fdMk p) : p := h
theorem infoRow : (Try.prog.info? 64).map (fun i => (i.zero, i.size, i.bytes)) = some (some (.agg #[.int .u16 0, .int .u64 0, .int .i64 0, .int .i64 0]), 4, 32) := by kernel_rfl
def AI (L : List Rw) (w : World) (o : List Rw) (W : World) : Prop := o.length ≤ L.length ∧ (∃ v, Boxed W w.heap.size 30 v ∧ W.ownsRow w.heap.size 64 4 v o.length (o.flatMap rowCells)) ∧ Below w.heap.size w W
theorem AI_walk {L : List Rw} {w : World} {o : List Rw} {W W' : World} {row : Option Nat} (h : AI L w o W) (hg : W.grownBy W' row) (hr : ∀ r, row = some r → w.heap.size ≤ r ∧ ∃ ob : Obj, W.heap[r]? = some ob ∧ ob.isCells = false) : AI L w o W' := by
  obtain ⟨hl, ⟨v, h1, h2⟩, h3⟩ := h
  have hne : ∀ k cs t fz, W.heap[k]? = some (.cells cs t fz) → some k ≠ row := by
    intro k cs t fz hk e
    obtain ⟨_, ob, h4, h5⟩ := hr k e.symm
    rw [hk] at h4
    obtain rfl := Option.some.inj h4
    simp [Obj.isCells] at h5
  refine ⟨hl, ⟨v, h1.kept hg (hne _ _ _ _ h1), h2.kept hg ?_⟩, h3.grown hg h3.size (fun k e => (hr k e).1)⟩
  rcases h2.2 with ⟨rfl, _⟩ | ⟨g, cap, cur, rfl, _, hgb, _⟩
  · exact .inl rfl
  · exact .inr (hne g _ _ _ hgb)
theorem fd_below_call {w W w1 : World} (h : Below w.heap.size w W) (hb : Below W.heap.size W w1) : Below w.heap.size w w1 := h.trans (hb.mono h.size)
theorem fd_row_below {w w' : World} {base n : Nat} {e : TypeId} {size : Nat} {v : Value} {xs : List Value} (h : w.ownsRow base e size v n xs) (hb : Below w.heap.size w w') : w'.ownsRow base e size v n xs := by
  refine ⟨h.1, ?_⟩
  rcases h.2 with ho | ⟨g, cap, cur, hv, hg0, hg, rest⟩
  · exact .inl ho
  · exact .inr ⟨g, cap, cur, hv, hg0, blk_below hg hb, rest⟩
set_option maxRecDepth 100000 in
set_option maxHeartbeats 4000000 in
theorem append_calls (Bm : Nat) (mb : Option Nat) (L : List Rw) (hL : L.length ≤ 1000000) (w : World) (hT : Tab w mb L) (hm : w.cell? ⟨Bm, 0, none⟩ = some (.map mb)) :
    Calls Try.prog 56 #[.slice none 0 0, .func (.func 48) #[] #[.pointer (some ⟨Bm, 0, none⟩)]] w fun e w' => ∃ (v : Value) (xs : List Rw), e = .returned v ∧ xs.Perm L ∧ w'.ownsRow w.heap.size 64 4 v xs.length (xs.flatMap rowCells) ∧ Below w.heap.size w w' := by
  refine (callsIn_wide (n := 5)).1 ?_
  refine callsIn_of_wp_marks Try.func56 rfl trivial ?_ rfl
  simp only [Try.ntmps56, List.size_toArray, List.length_cons, List.length_nil, Nat.reduceAdd, Nat.reduceSub, Array.replicate_succ, Array.replicate_zero, List.push_toArray, List.append_toArray, List.nil_append, List.cons_append]
  have HT := Lib.hid hT
  have HM := Lib.hid hm
  clear hT hm
  gi_wp2_with fail
  obtain ⟨W0, hW0⟩ : ∃ W0, w.alloc (.cells #[.slice none 0 0] 30) = W0 := ⟨_, rfl⟩
  have hsz : W0.heap.size = w.heap.size + 1 := by rw [← hW0]; simp
  have hb0 : Below w.heap.size w W0 := by rw [← hW0]; exact below_alloc (Below.refl _ _) _
  have hA0 : AI L w [] W0 := by rw [← hW0]; exact ⟨Nat.zero_le _, ⟨_, blk_new _ _, World.ownsRow_nil _ _ _ _⟩, below_alloc (Below.refl _ _) _⟩
  rw [hW0]
  clear hW0
  refine rows_law (Bm := Bm) (mb := mb) (L := L) rfl rfl (HT.out.below hb0) ((hb0.cell (p := ⟨Bm, 0, none⟩) (World.block_lt_of_cell? w _ HM.out)).trans HM.out) (AI L w)
    (fun o W W' row h hg hr => AI_walk h hg (fun r e => ⟨by have := (hr r e).1; omega, (hr r e).2⟩)) hA0
    (fun b x => { tmps := #[.slice none 0 0, .func (.func 48) #[] #[.pointer (some ⟨Bm, 0, none⟩)], .pointer (some ⟨w.heap.size, 0, none⟩), undef, .slice none 0 0, .pointer (some ⟨b, 0, none⟩), .func (.func 48) #[] #[.pointer (some ⟨Bm, 0, none⟩)], rowV x, undef, undef, undef, undef, undef], defers := [] }) ?assign ?body ?done
  case assign =>
    intro l x W K hK
    obtain ⟨x0, x1, x2, x3⟩ := x
    dsimp only [rowV, rowObj, rowCells] at hK ⊢
    gi_wp2_with (rw [Oper.semAt_eq _ _ _ (fun c h => by cases h)]; go_simp; try go_bits)
    exact hK
  case body =>
    rintro l b o x W ⟨hl, ⟨v, h1, h2⟩, h3⟩ hxb hb hlen
    obtain ⟨A, c, rfl⟩ : ∃ A c, v = .slice A o.length c := by
      rcases h2.2 with ⟨hv, hn⟩ | ⟨g, cap, cur, hv, _⟩
      · exact ⟨none, 0, by rw [hv, hn]⟩
      · exact ⟨_, _, hv⟩
    obtain ⟨x0, x1, x2, x3⟩ := x
    have hxb : W.heap[b]? = some (.cells #[.int .u16 x0, .int .u64 x1, .int .i64 x2, .int .i64 x3] 64 (0, 0)) := hxb
    obtain ⟨i0, hi, hz0, hz1, hz2⟩ := info_parts infoRow
    have c0 := h1.cell
    have f0 := h1.frozen
    have z0 := (blk_cell hxb 0).trans rfl
    have z1 := (blk_cell hxb 1).trans rfl
    have z2 := (blk_cell hxb 2).trans rfl
    have z3 := (blk_cell hxb 3).trans rfl
    have hnews : ∀ j u, ([.int .u16 x0, .int .u64 x1, .int .i64 x2, .int .i64 x3] : List Value)[j]? = some u → (W.alloc (.cells #[.int .u16 x0, .int .u64 x1, .int .i64 x2, .int .i64 x3] 64)).cell? ((⟨W.heap.size, 0, none⟩ : Addr).add j) = some u := by
      intro j u hj
      rw [show ((⟨W.heap.size, 0, none⟩ : Addr).add j) = ⟨W.heap.size, j, none⟩ from by unfold Addr.add; by_cases hj0 : j = 0 <;> simp [hj0]]
      rw [show (W.alloc (.cells #[.int .u16 x0, .int .u64 x1, .int .i64 x2, .int .i64 x3] 64)).cell? ⟨W.heap.size, j, none⟩ = _ from blk_cell (blk_new W _) j]
      simpa using hj
    have hone : ∀ u ∈ ([.int .u16 x0, .int .u64 x1, .int .i64 x2, .int .i64 x3] : List Value), u.oneCell' = true := by intro u hu; simp at hu; rcases hu with rfl | rfl | rfl | rfl <;> rfl
    have hm1 : o.length + 1 ≤ maxLen := by unfold maxLen; omega
    have hm2 : (o.length + 1) * 32 ≤ 140737488355328 := by omega
    have hm3 : w.heap.size ≤ (W.alloc (.cells #[.int .u16 x0, .int .u64 x1, .int .i64 x2, .int .i64 x3] 64)).heap.size := Nat.le_trans h3.size (below_alloc (Below.refl W.heap.size W) _).size
    have hro := h2.alloc (.cells #[.int .u16 x0, .int .u64 x1, .int .i64 x2, .int .i64 x3] 64)
    have HH := Lib.hid (And.intro h1 (And.intro h2 h3))
    clear h1 h2 h3
    dsimp only [rowV]
    gi_wp2_with (first | (gi_at_builtin; refine fdMk_in ?_) | (rw [Oper.semAt_eq _ _ _ (fun c h => by cases h)]; go_simp; try go_bits))
    unfold fdMk
    refine wpListIn_append_own _ rfl _ _ 30 rfl w.heap.size 64 i0 (.agg #[.int .u16 0, .int .u64 0, .int .i64 0, .int .i64 0]) 4 32 Try.underlying30 hi hz0 hz1 hz2 rfl (by decide) _ _ _ rfl hro ⟨W.heap.size, 0, none⟩ 1 1 [.int .u16 x0, .int .u64 x1, .int .i64 x2, .int .i64 x3] rfl rfl hnews hone hm1 hm2 hm3 ?_
    intro v' w3 hown' hg3 _
    obtain ⟨g', cap', rfl⟩ := ownsRow_succ hown'
    obtain ⟨h1, h2, h3⟩ := HH.out
    have hg3' : (W.alloc (.cells #[.int .u16 x0, .int .u64 x1, .int .i64 x2, .int .i64 x3] 64)).grownBy w3 (Value.slice A o.length c).ownBlock := hg3
    obtain ⟨p1, p2, p3, p4, p5⟩ := Boxed.appended h1 (by decide) h2 h3.size (Nat.le_refl _) hown' hg3'
    have x1' := p1.cell
    have x2' := p1.frozen
    have HH2 := Lib.hid (And.intro p2 (And.intro p3 (And.intro p4 (And.intro h3 p5))))
    clear h1 h2 h3 hg3 hg3' p1 p2 p3 p4 p5 hown' HH hnews hone hm1 hm2 hm3 hro hi hz0 hz1 hz2
    simp only [Act.put, List.setIfInBounds_toArray, List.set_cons_zero, List.set_cons_succ]
    gi_wp2_with (rw [Oper.semAt_eq _ _ _ (fun c h => by cases h)]; go_simp; try go_bits)
    obtain ⟨p2, p3, p4, h3, p5⟩ := HH2.out
    refine ⟨p4, by rw [List.length_append, List.length_singleton]; omega, ⟨_, p2, ?_⟩, h3.trans p5⟩
    rw [List.flatMap_append, List.length_append, List.length_singleton]
    simpa [rowCells] using p3
  case done =>
    rintro D xs W hp ⟨hl, ⟨v, h1, h2⟩, h3⟩ hD hK
    obtain ⟨A, c, rfl⟩ : ∃ A c, v = .slice A xs.length c := by
      rcases h2.2 with ⟨hv, hn⟩ | ⟨g, cap, cur, hv, _⟩
      · exact ⟨none, 0, by rw [hv, hn]⟩
      · exact ⟨_, _, hv⟩
    have c0 := h1.cell
    have HH := Lib.hid (And.intro h2 (And.intro h3 hK))
    clear h2 h3 hK
    gi_wp2_with fail
    obtain ⟨h2, h3, hK⟩ := HH.out
    refine ⟨by simp, .inl ⟨_, _, rfl, run_takeDeferred hK, ?_⟩⟩
    refine ⟨_, results_tmp rfl _ _ _, .slice A xs.length c, xs, rfl, hp, ownsRow_putObj h2 _ hK rfl, ?_⟩
    exact h3.grown (grownBy_putObj' W D _) h3.size (fun k e => by cases e; omega)
end Go.Proofs.Ytmlenepeocginaa.Gv
