/- event.Open walked by hand: a range over a function. -/
import Derived.Test.YtkjjdphlfbecdaaGvEvLaw
import Derived.OwnWalkIn
namespace Go.Proofs.Ytkjjdphlfbecdaa.Gv
open Go.RowKit Go.Proofs.YtkjjdphlfbecdaaW.PrintWords Go.Proofs.YtkjjdphlfbecdaaW.PrintLast Go.Proofs.YtkjjdphlfbecdaaW.PrintMore
set_option linter.unusedVariables false
set_option linter.unusedSimpArgs false
def evVals (x : Ev) : List Value := [.int .u8 x.1, .int .u8 x.2.1, .int .u8 x.2.2.1, .int .u8 x.2.2.2.1, .string x.2.2.2.2]
def evRow (l : List Ev) : List Value := l.flatMap evVals
theorem evRow_snoc (l : List Ev) (x : Ev) : evRow (l ++ [x]) = evRow l ++ evVals x := by simp [evRow]
/-- Between two rounds. -/
def OI (w : World) (o : List Ev) (W : World) : Prop := o.length ≤ 10000 ∧ Boxed W w.heap.size 22 (.slice none 0 0) ∧ Boxed W (w.heap.size + 1) 32 (.int .i64 0) ∧ (∃ v, Boxed W (w.heap.size + 2) 22 v ∧ W.ownsRow w.heap.size 28 5 v o.length (evRow o)) ∧ Below w.heap.size w W
/-- When a round has left. -/
def OX (w : World) (r : List Ev × Int) (W : World) : Prop := Boxed W w.heap.size 22 (.slice none 0 0) ∧ Boxed W (w.heap.size + 1) 32 (.int .i64 r.2) ∧ Below w.heap.size w W
theorem box_set {W : World} {B b : Nat} {t : TypeId} {v u : Value} (h : Boxed W B t v) (hne : B ≠ b) : Boxed (W.setCell ⟨b, 0, none⟩ u) B t v := (Below.heap_setCell _ _ _ _ hne).trans h
theorem row_set {W : World} {base n b : Nat} {t e : TypeId} {size : Nat} {v u u' : Value} {xs : List Value} (h : W.ownsRow base e size v n xs) (hb : Boxed W b t u) (hte : t ≠ e) : (W.setCell ⟨b, 0, none⟩ u').ownsRow base e size v n xs :=
  h.kept (grownBy_setCell' W b u') (.inr (hb.not_row hte h).symm)
theorem OI_set {w : World} {o : List Ev} {W : World} {t : Value} (h : OI w o W) (hb : Boxed W (w.heap.size + 3) 9 t) (v : Value) : OI w o (W.setCell ⟨w.heap.size + 3, 0, none⟩ v) := by
  obtain ⟨hl, h0, h1, ⟨u, h2, h3⟩, h4⟩ := h
  exact ⟨hl, box_set h0 (by omega), box_set h1 (by omega), ⟨u, box_set h2 (by omega), row_set h3 hb (by decide)⟩, below_set h4 (by omega)⟩
theorem OI_below {w : World} {o : List Ev} {W W' : World} (h : OI w o W) (hb : Below W.heap.size W W') : OI w o W' := by
  obtain ⟨hl, h0, h1, ⟨u, h2, h3⟩, h4⟩ := h
  exact ⟨hl, blk_below h0 hb, blk_below h1 hb, ⟨u, blk_below h2 hb, row_below h3 hb⟩, below_call h4 hb⟩
theorem below_put {w W : World} {l : Nat} {x' : Obj} (h : Below w.heap.size w W) (hl : w.heap.size ≤ l) : Below w.heap.size w (W.putObj l x') := h.grown (grownBy_putObj' W l x') h.size (fun k e => by cases e; exact hl)
theorem OI_put {w : World} {o : List Ev} {W : World} {l : Nat} {x x' : Obj} (h : OI w o W) (hlw : w.heap.size ≤ l) (hl : W.heap[l]? = some x) (hx : x.isCells = false) : OI w o (W.putObj l x') := by
  obtain ⟨hl0, h0, h1, ⟨u, h2, h3⟩, h4⟩ := h
  exact ⟨hl0, box_put h0 hl hx, box_put h1 hl hx, ⟨u, box_put h2 hl hx, ownsRow_putObj h3 x' hl hx⟩, below_put h4 hlw⟩
theorem OX_put {w : World} {r : List Ev × Int} {W : World} {l : Nat} {x x' : Obj} (h : OX w r W) (hlw : w.heap.size ≤ l) (hl : W.heap[l]? = some x) (hx : x.isCells = false) : OX w r (W.putObj l x') :=
  ⟨box_put h.1 hl hx, box_put h.2.1 hl hx, below_put h.2.2 hlw⟩
theorem infoEv : (Try.prog.info? 28).map (fun i => (i.zero, i.size, i.bytes)) = some (some (.agg #[.int .u8 0, .int .u8 0, .int .u8 0, .int .u8 0, .string ⟨#[]⟩]), 5, 24) := by kernel_rfl
set_option maxHeartbeats 4000000 in
set_option maxRecDepth 100000 in
theorem open_calls (s : ByteArray) (hs : s.size ≤ 100000) (w : World) : Calls Try.prog 14 #[.string s] w fun e w' => ∃ v, e = .returned (.tuple #[v, .int .i64 (runP s []).2]) ∧ w'.ownsRow w.heap.size 28 5 v (runP s []).1.length (evRow (runP s []).1) ∧ Below w.heap.size w w' := by
  refine (callsIn_wide (n := 5)).1 ?_
  refine callsIn_of_wp_marks Try.func14 rfl trivial ?_ rfl
  simp only [Try.ntmps14, List.size_toArray, List.length_cons, List.length_nil, Nat.reduceAdd, Nat.reduceSub, Array.replicate_succ, Array.replicate_zero, List.push_toArray, List.append_toArray, List.nil_append, List.cons_append]
  gi_wp2_with fail
  refine ⟨trivial, callsIn_wide.2 ?_⟩
  refine (events_calls s _).mono ?_
  rintro e' w2 ⟨rfl, rfl⟩
  gi_wp2_with fail
  obtain ⟨W0, hW0⟩ : ∃ W0, (((w.alloc (Obj.cells #[Value.slice none 0 0] 22)).alloc (Obj.cells #[Value.int IntKind.i64 0] 32)).alloc (Obj.cells #[Value.slice none 0 0] 22)).alloc (Obj.cells #[Value.string s] 9) = W0 := ⟨_, rfl⟩
  have hsz : W0.heap.size = w.heap.size + 4 := by rw [← hW0]; simp
  have hI0 : OI w [] W0 := by
    rw [← hW0]
    exact ⟨by simp, blk_alloc (blk_alloc (blk_alloc (blk_new _ _) _) _) _, blk_alloc (blk_alloc (blk_new2 _ _ _) _) _, ⟨_, blk_alloc (by have h := blk_new2 (w.alloc (Obj.cells #[Value.slice none 0 0] 22)) (Obj.cells #[Value.int IntKind.i64 0] 32) (Obj.cells #[Value.slice none 0 0] 22); simpa using h) _, World.ownsRow_nil _ _ _ _⟩, below_alloc (below_alloc (below_alloc (below_alloc (Below.refl _ _) _) _) _) _⟩
  have hbx0 : Boxed W0 (w.heap.size + 3) 9 (.string s) := by
    rw [← hW0]
    have h := blk_new (((w.alloc (Obj.cells #[Value.slice none 0 0] 22)).alloc (Obj.cells #[Value.int IntKind.i64 0] 32)).alloc (Obj.cells #[Value.slice none 0 0] 22)) (Obj.cells #[Value.string s] 9)
    simpa [Boxed] using h
  rw [hW0]
  clear hW0
  refine range_law (bs := w.heap.size + 3) rfl rfl hs hbx0 (fun o W => OI w o W ∧ ∃ t, Boxed W (w.heap.size + 3) 9 t) (OX w)
    ?hset ?hbelow ?hput (fun r W l x x' h hl hx hc => OX_put h (by omega) hx hc) ⟨hI0, _, hbx0⟩
    (fun b x er => { tmps := #[.string s, undef, .pointer (some ⟨w.heap.size, 0, none⟩), .pointer (some ⟨w.heap.size + 1, 0, none⟩), .pointer (some ⟨w.heap.size + 2, 0, none⟩), .pointer (some ⟨b, 0, none⟩), .int .i64 er, .string s, .func (.func 25) #[] #[.pointer (some ⟨w.heap.size + 3, 0, none⟩)], evAgg x, .int .i64 er, undef, undef, undef, undef, undef, undef, undef, undef, undef, undef, undef], defers := [] }) ?assign ?body ?done ?stop
  case hset => exact fun o W v h => ⟨OI_set h.1 h.2.choose_spec v, v, h.2.choose_spec.set v⟩
  case hbelow => exact fun o W W' h hb => ⟨OI_below h.1 hb, _, blk_below h.2.choose_spec hb⟩
  case hput => exact fun o W l x x' h hl hx hc => ⟨OI_put h.1 (by omega) hx hc, _, box_put h.2.choose_spec hx hc⟩
  case assign =>
    intro l x er W K hK
    dsimp only [evAgg, evObj] at hK ⊢
    gi_wp2_with (rw [Oper.semAt_eq _ _ _ (fun c h => by cases h)]; go_simp; try go_bits)
    exact hK
  case body =>
    rintro l b o x er W ⟨⟨hl, h0, h1, ⟨v, h2, h3⟩, h4⟩, hu⟩ hxb ⟨t, hbt⟩ hb
    obtain ⟨A, c, rfl⟩ : ∃ A c, v = .slice A o.length c := by
      rcases h3.2 with ⟨hv, hn⟩ | ⟨g, cap, cur, hv, _⟩
      · exact ⟨none, 0, by rw [hv, hn]⟩
      · exact ⟨_, _, hv⟩
    have c0 := h0.cell
    have f0 := h0.frozen
    have c1 := h1.cell
    have f1 := h1.frozen
    have c2 := h2.cell
    have f2 := h2.frozen
    have d1 : ∀ u, Boxed (W.setCell ⟨w.heap.size, 0, none⟩ u) (w.heap.size + 1) 32 (.int .i64 0) := fun u => box_set h1 (by omega)
    have e1 := fun u => (d1 u).cell
    have e2 := fun u => (d1 u).frozen
    by_cases hfull : o.length = 10000
    · have q1 : ((o.length : Int) == 10000) = true := beq_iff_eq.2 (by omega)
      have q2 : decide ((o.length : Int) = 10000) = true := decide_eq_true (by omega)
      have q3 : (o.length : Int) = 10000 := by omega
      have HH := Lib.hid (And.intro h0 (And.intro h1 h4))
      dsimp only [evAgg]
      gi_wp2_with (rw [Oper.semAt_eq _ _ _ (fun c h => by cases h)]; go_simp; try go_bits)
      obtain ⟨h0, h1, h4⟩ := HH.out
      refine ⟨(KeepsOthers.setCell _ _ _).trans (KeepsOthers.setCell _ _ _), .inl ⟨hfull, ?_, ?_, ?_⟩⟩
      · exact box_set (h0.set _) (by omega)
      · exact (d1 _).set _
      · exact below_set (below_set h4 (Nat.le_refl _)) (Nat.le_succ _)
    · have q1 : ((o.length : Int) == 10000) = false := beq_eq_false_iff_ne.2 (by omega)
      have q2 : decide ((o.length : Int) = 10000) = false := decide_eq_false (by omega)
      have q3 : ¬ (o.length : Int) = 10000 := by omega
      by_cases her : er = 0
      · subst her
        obtain ⟨xk, xa, xb, xc, xs⟩ := x
        dsimp only [evObj] at hxb
        obtain ⟨i0, hi, hz0, hz1, hz2⟩ := info_parts infoEv
        have z0 := (blk_cell hxb 0).trans rfl
        have z1 := (blk_cell hxb 1).trans rfl
        have z2 := (blk_cell hxb 2).trans rfl
        have z3 := (blk_cell hxb 3).trans rfl
        have z4 := (blk_cell hxb 4).trans rfl
        have hnews : ∀ j u, ([.int .u8 xk, .int .u8 xa, .int .u8 xb, .int .u8 xc, .string xs] : List Value)[j]? = some u → (W.alloc (.cells #[.int .u8 xk, .int .u8 xa, .int .u8 xb, .int .u8 xc, .string xs] 28)).cell? ((⟨W.heap.size, 0, none⟩ : Addr).add j) = some u := by
          intro j u hj
          rw [show ((⟨W.heap.size, 0, none⟩ : Addr).add j) = ⟨W.heap.size, j, none⟩ from by unfold Addr.add; by_cases hj0 : j = 0 <;> simp [hj0]]
          rw [show (W.alloc (.cells #[.int .u8 xk, .int .u8 xa, .int .u8 xb, .int .u8 xc, .string xs] 28)).cell? ⟨W.heap.size, j, none⟩ = _ from blk_cell (blk_new W _) j]
          simpa using hj
        have hone : ∀ u ∈ ([.int .u8 xk, .int .u8 xa, .int .u8 xb, .int .u8 xc, .string xs] : List Value), u.oneCell' = true := by intro u hu; simp at hu; rcases hu with rfl | rfl | rfl | rfl | rfl <;> rfl
        have hm1 : o.length + 1 ≤ maxLen := by unfold maxLen; omega
        have hm2 : (o.length + 1) * 24 ≤ 140737488355328 := by omega
        have hm3 : w.heap.size ≤ (W.alloc (.cells #[.int .u8 xk, .int .u8 xa, .int .u8 xb, .int .u8 xc, .string xs] 28)).heap.size := Nat.le_trans h4.size (below_alloc (Below.refl W.heap.size W) _).size
        have hro := h3.alloc (.cells #[.int .u8 xk, .int .u8 xa, .int .u8 xb, .int .u8 xc, .string xs] 28)
        have HH := Lib.hid (And.intro h0 (And.intro h1 (And.intro h2 (And.intro h3 (And.intro h4 hbt)))))
        clear h0 h1 h2 h3 h4 hbt d1
        dsimp only [evAgg]
        gi_wp2_with (first | (gi_at_builtin; refine Mk_in ?_) | (rw [Oper.semAt_eq _ _ _ (fun c h => by cases h)]; go_simp; try go_bits))
        unfold Mk
        refine wpListIn_append_own _ rfl _ _ 22 rfl w.heap.size 28 i0 (.agg #[.int .u8 0, .int .u8 0, .int .u8 0, .int .u8 0, .string ⟨#[]⟩]) 5 24 Try.underlying22 hi hz0 hz1 hz2 rfl (by decide) _ _ _ rfl hro ⟨W.heap.size, 0, none⟩ 1 1 [.int .u8 xk, .int .u8 xa, .int .u8 xb, .int .u8 xc, .string xs] rfl rfl hnews hone hm1 hm2 hm3 ?_
        intro v' w3 hown' hg3 _
        obtain ⟨g', cap', rfl⟩ := ownsRow_succ hown'
        obtain ⟨h0, h1, h2, h3, h4, hbt⟩ := HH.out
        have hg3' : (W.alloc (.cells #[.int .u8 xk, .int .u8 xa, .int .u8 xb, .int .u8 xc, .string xs] 28)).grownBy w3 (Value.slice A o.length c).ownBlock := hg3
        obtain ⟨p1, p2, p3, p4, p5⟩ := Boxed.appended h2 (by decide) h3 h4.size (by omega) hown' hg3'
        have hk : ∀ {B : Nat} {ty : TypeId} {u : Value}, Boxed W B ty u → ty ≠ 28 → B ≠ w.heap.size + 2 → Boxed (w3.setCell ⟨w.heap.size + 2, 0, none⟩ (.slice (some ⟨g', 0, none⟩) (o.length + 1) cap')) B ty u := fun hB hty hne => box_set ((hB.alloc _).kept hg3' (hB.not_row hty h3)) hne
        have h0' := hk h0 (by decide) (by omega)
        have h1' := hk h1 (by decide) (by omega)
        have hbt' := hk hbt (by decide) (by omega)
        have x1 := p1.cell
        have x2 := p1.frozen
        have HH2 := Lib.hid (And.intro h0' (And.intro h1' (And.intro hbt' (And.intro p2 (And.intro p3 (And.intro p4 (And.intro h4 (And.intro p5 hbt))))))))
        clear h0 h1 h2 h3 h4 hbt hg3 hg3' p1 p2 p3 p4 p5 hk h0' h1' hbt' hown' HH hnews hone hm1 hm2 hm3 hro hi hz0 hz1 hz2
        simp only [Act.put, List.setIfInBounds_toArray, List.set_cons_zero, List.set_cons_succ]
        gi_wp2_with (rw [Oper.semAt_eq _ _ _ (fun c h => by cases h)]; go_simp; try go_bits)
        obtain ⟨h0', h1', hbt', p2, p3, p4, h4, p5, hbt⟩ := HH2.out
        refine ⟨p4, (show _ = _ from hbt').trans (show _ = _ from hbt).symm, hfull, rfl, ⟨by rw [List.length_append, List.length_singleton]; omega, h0', h1', ⟨_, p2, ?_⟩, h4.trans p5⟩, _, hbt'⟩
        rw [evRow_snoc, List.length_append, List.length_singleton]
        exact p3
      · have q4 : (er != 0) = true := bne_iff_ne.2 her
        have q5 : decide (er = 0) = false := decide_eq_false her
        have HH := Lib.hid (And.intro h0 (And.intro h1 h4))
        dsimp only [evAgg]
        gi_wp2_with (rw [Oper.semAt_eq _ _ _ (fun c h => by cases h)]; go_simp; try go_bits)
        obtain ⟨h0, h1, h4⟩ := HH.out
        refine ⟨(KeepsOthers.setCell _ _ _).trans (KeepsOthers.setCell _ _ _), .inr ⟨hfull, her, ?_, ?_, ?_⟩⟩
        · exact box_set (h0.set _) (by omega)
        · exact (d1 _).set _
        · exact below_set (below_set h4 (Nat.le_refl _)) (Nat.le_succ _)
  case done =>
    rintro D o W hr ⟨⟨hl, h0, h1, ⟨v, h2, h3⟩, h4⟩, _⟩ hD hK
    obtain ⟨A, c, rfl⟩ : ∃ A c, v = .slice A o.length c := by
      rcases h3.2 with ⟨hv, hn⟩ | ⟨g, cap, cur, hv, _⟩
      · exact ⟨none, 0, by rw [hv, hn]⟩
      · exact ⟨_, _, hv⟩
    have c0 := h0.cell
    have f0 := h0.frozen
    have c1 := h1.cell
    have f1 := h1.frozen
    have c2 := h2.cell
    have d0 : Boxed (W.setCell ⟨w.heap.size, 0, none⟩ (.slice A o.length c)) w.heap.size 22 (.slice A o.length c) := h0.set _
    have d1 : Boxed (W.setCell ⟨w.heap.size, 0, none⟩ (.slice A o.length c)) (w.heap.size + 1) 32 (.int .i64 0) := box_set h1 (by omega)
    have e1 := d1.cell
    have e2 := d1.frozen
    have d2 : Boxed ((W.setCell ⟨w.heap.size, 0, none⟩ (.slice A o.length c)).setCell ⟨w.heap.size + 1, 0, none⟩ (.int .i64 0)) w.heap.size 22 (.slice A o.length c) := box_set d0 (by omega)
    have d3 : Boxed ((W.setCell ⟨w.heap.size, 0, none⟩ (.slice A o.length c)).setCell ⟨w.heap.size + 1, 0, none⟩ (.int .i64 0)) (w.heap.size + 1) 32 (.int .i64 0) := d1.set _
    have hrow := row_set (row_set h3 h0 (by decide) (u' := .slice A o.length c)) d1 (by decide) (u' := .int .i64 0)
    have hBel := below_set (below_set h4 (Nat.le_refl _) (j := 0) (v := .slice A o.length c)) (Nat.le_succ w.heap.size) (j := 0) (v := .int .i64 0)
    have hKD : ((W.setCell ⟨w.heap.size, 0, none⟩ (.slice A o.length c)).setCell ⟨w.heap.size + 1, 0, none⟩ (.int .i64 0)).heap[D]? = some (.deferred (some [])) := (Below.heap_setCell _ _ _ _ (by show D ≠ w.heap.size + 1; omega)).trans ((Below.heap_setCell _ _ _ _ (by show D ≠ w.heap.size; omega)).trans hK)
    have HH := Lib.hid (And.intro d2 (And.intro d3 (And.intro hrow (And.intro hBel hKD))))
    clear d2 d3 hrow hBel hKD d0 d1
    gi_wp2_with fail
    obtain ⟨d2, d3, hrow, hBel, hKD⟩ := HH.out
    refine ⟨by simp, .inl ⟨_, _, rfl, run_takeDeferred hKD, ?_⟩⟩
    have g2 := (box_put (x' := .deferred none) d2 hKD rfl).cell
    have g3 := (box_put (x' := .deferred none) d3 hKD rfl).cell
    refine ⟨.tuple #[.slice A o.length c, .int .i64 0], by simp [results, Try.f14, go_sem, g2, g3], _, by rw [hr], ?_, below_put hBel (by omega)⟩
    rw [hr]
    exact ownsRow_putObj hrow _ hKD rfl
  case stop =>
    rintro D r W hr hr1 ⟨h0, h1, h4⟩ hD hK
    gi_wp2_with fail
    refine ⟨by simp, .inl ⟨_, _, rfl, run_takeDeferred hK, ?_⟩⟩
    have g2 := (box_put (x' := .deferred none) h0 hK rfl).cell
    have g3 := (box_put (x' := .deferred none) h1 hK rfl).cell
    refine ⟨.tuple #[.slice none 0 0, .int .i64 r.2], by simp [results, Try.f14, go_sem, g2, g3], _, by rw [hr], ?_, below_put h4 (by omega)⟩
    rw [hr, hr1]
    exact World.ownsRow_nil _ _ _ _
end Go.Proofs.Ytkjjdphlfbecdaa.Gv
