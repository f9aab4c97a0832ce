/- The statement 'for x, e := range events(s)': what its caller owes. -/
import Derived.Test.YtkjjdphlfbecdaaGvEvIter
namespace Go.Proofs.Ytkjjdphlfbecdaa.Gv
open Go.RowKit Go.Proofs.YtkjjdphlfbecdaaW.PrintWords Go.Proofs.YtkjjdphlfbecdaaW.PrintLast Go.Proofs.YtkjjdphlfbecdaaW.PrintMore
set_option linter.unusedVariables false
set_option linter.unusedSimpArgs false
def evObj (x : Ev) : Obj := .cells #[.int .u8 x.1, .int .u8 x.2.1, .int .u8 x.2.2.1, .int .u8 x.2.2.2.1, .string x.2.2.2.2] 28
/-- How a round's body is left. -/
def roundEnd (bs : Nat) (I : List Ev → World → Prop) (Ix : List Ev × Int → World → Prop) (o : List Ev) (x : Ev) (er : Int) (W : World) : Exit → Act → World → Prop
  | .normal, _, W3 => KeepsOthers W W3 ∧ W3.heap[bs]? = W.heap[bs]? ∧ o.length ≠ 10000 ∧ er = 0 ∧ I (o ++ [x]) W3
  | .ret, _, W3 => KeepsOthers W W3 ∧ ((o.length = 10000 ∧ Ix ([], 9) W3) ∨ (o.length ≠ 10000 ∧ er ≠ 0 ∧ Ix ([], er) W3))
  | _, _, _ => False
theorem box_put {W : World} {b l : Nat} {t : TypeId} {v : Value} {x x' : Obj} (h : Boxed W b t v) (hl : W.heap[l]? = some x) (hx : x.isCells = false) : Boxed (W.putObj l x') b t v := by
  have hne : b ≠ l := by
    intro e
    subst e
    rw [show W.heap[b]? = _ from h] at hl
    obtain rfl := Option.some.inj hl
    simp [Obj.isCells] at hx
  exact (World.putObj_heap_other hne).trans h
set_option maxRecDepth 100000 in
set_option maxHeartbeats 2000000 in
theorem range_law {n bs : Nat} {g : Operand} {ps : Array Tmp} {assign body : Code} {Q : Exit → Act → World → Prop} {a : Act} {w : World} {s : ByteArray}
    (hg : a.eval g = .func (.func 25) #[] #[.pointer (some ⟨bs, 0, none⟩)]) (hps : ps.size = 2) (hs : s.size ≤ 100000)
    (hbox : Boxed w bs 9 (.string s))
    (I : List Ev → World → Prop) (Ix : List Ev × Int → World → Prop)
    (hIset : ∀ o W v, I o W → I o (W.setCell ⟨bs, 0, none⟩ v))
    (hIb : ∀ o W W', I o W → Below W.heap.size W W' → I o W')
    (hIput : ∀ o W l x x', I o W → w.heap.size ≤ l → W.heap[l]? = some x → x.isCells = false → I o (W.putObj l x'))
    (hXput : ∀ r W l x x', Ix r W → w.heap.size ≤ l → W.heap[l]? = some x → x.isCells = false → Ix r (W.putObj l x'))
    (h0 : I [] w) (a₁ : Nat → Ev → Int → Act)
    (hassign : ∀ (l : Nat) (x : Ev) (er : Int) (W : World) (K : Act → World → Prop), K (a₁ W.heap.size x er) (W.alloc (evObj x)) →
      assign.wpIn (Fence.wide.inRound l) (n - 1 - 1) Try.prog (Exit.then K (fun _ _ _ => False)) { tmps := (ps.zip #[evAgg x, .int .i64 er]).foldl (fun t (p, v) => t.setIfInBounds p v) a.tmps, defers := [] } W)
    (hbody : ∀ (l b : Nat) (o : List Ev) (x : Ev) (er : Int) (W : World), I o W → W.heap[b]? = some (evObj x) → (∃ t, Boxed W bs 9 (.string t)) → w.heap.size ≤ b →
      body.wpIn (Fence.wide.inRound l) (n - 1 - 1) Try.prog (roundEnd bs I Ix o x er W) (a₁ b x er) W)
    (hdone : ∀ (D : Nat) (o : List Ev) (W : World), runP s [] = (o, 0) → I o W → w.heap.size ≤ D → W.heap[D]? = some (.deferred (some [])) → Q .normal { a with defers := { target := .collected D, args := #[] } :: a.defers } W)
    (hstop : ∀ (D : Nat) (r : List Ev × Int) (W : World), runP s [] = r → r.1 = [] → Ix r W → w.heap.size ≤ D → W.heap[D]? = some (.deferred (some [])) → Code.ret.wpIn Fence.wide n Try.prog Q { a with defers := { target := .collected D, args := #[] } :: a.defers } W) :
    (Code.rangeFunc g ps assign body).wpIn Fence.wide n Try.prog Q a w := by
  refine wpIn_rangeFunc ?_
  intro fn hfn
  obtain ⟨rec, hrec⟩ : ∃ rec : LoopState → Option Code → Loop, rec = fun st pe => { state := st, pending := pe, fn, tmps := a.tmps, params := ps, assign, body, defers := w.heap.size } := ⟨_, rfl⟩
  obtain ⟨W1, hW1⟩ : ∃ W1, (w.alloc (.deferred (some []))).alloc (.loop (rec .ready none)) = W1 := ⟨_, rfl⟩
  have hL1 : W1.heap[w.heap.size + 1]? = some (.loop (rec .ready none)) := by rw [← hW1]; exact blk_new2 _ _ _
  have hK1 : W1.heap[w.heap.size]? = some (.deferred (some [])) := by rw [← hW1]; exact blk_alloc (blk_new _ _) _
  have hb1 : Below w.heap.size w W1 := by rw [← hW1]; exact below_alloc (below_alloc (Below.refl _ _) _) _
  refine ⟨w.heap.size + 1, [{ target := .collected w.heap.size, args := #[] }], W1, { target := .fn (.func 25) #[.pointer (some ⟨bs, 0, none⟩)], args := #[.func (.yield (w.heap.size + 1)) #[] #[]] }, W1, 25,
    #[.func (.yield (w.heap.size + 1)) #[] #[], .pointer (some ⟨bs, 0, none⟩)], W1, ?_, ?_, fun _ _ => trivial, ?_, fun h => (by cases h), ?_⟩
  · rw [← hW1, hrec]; exact run_enterLoop_outer _ _ _ _ _
  · simp only [resolve, rangeCall, hg]
    simp [go_sem]
  · have eg := enters_of (P := Try.prog) Try.func25 (by kernel_rfl) rfl
    simp [invoke, go_sem, eg]
  · refine (iter_calls (n - 1) (w.heap.size + 1) bs
      (fun o W => I o W ∧ W.heap[w.heap.size + 1]? = some (.loop (rec .ready none)) ∧ W.heap[w.heap.size]? = some (.deferred (some [])) ∧ w.heap.size + 1 < W.heap.size)
      (fun r W => Ix r W ∧ W.heap[w.heap.size + 1]? = some (.loop (rec .done (some .ret))) ∧ W.heap[w.heap.size]? = some (.deferred (some [])))
      (fun o W v h => ⟨hIset o W v h.1, (Below.heap_setCell _ _ _ _ (Nat.ne_of_gt (Nat.lt_succ_of_lt hbox.lt))).trans h.2.1, (Below.heap_setCell _ _ _ _ (Nat.ne_of_gt hbox.lt)).trans h.2.2.1, by rw [show (W.setCell ⟨bs, 0, none⟩ v).heap.size = W.heap.size from by simp [World.setCell]]; exact h.2.2.2⟩)
      (fun o W W' h hb => ⟨hIb o W W' h.1 hb, blk_below h.2.1 hb, blk_below h.2.2.1 hb, Nat.lt_of_lt_of_le h.2.2.2 hb.size⟩)
      ?_ s hs W1 ⟨hIb _ _ _ h0 hb1, hL1, hK1, blk_lt hL1⟩ (blk_below hbox hb1)).mono ?_
    · rintro o x er W ⟨hi, hl, hk, hlt⟩ ⟨t, hbt⟩
      have hy := run_yield (P := Try.prog) (args := #[evAgg x, .int .i64 er]) hl (by rw [hrec]; exact hps.symm)
      rw [hrec] at hy
      refine ⟨fn, _, assign, body, hy, roundIn_of_wpIn hfn (hassign _ x er W _ ?_)⟩
      have hl1 := blk_alloc hl (evObj x)
      have hk1 := blk_alloc hk (evObj x)
      have hx1 := blk_new W (evObj x)
      have hi1 := hIb _ _ _ hi (below_alloc (Below.refl _ _) (evObj x))
      have hbt1 : Boxed (W.alloc (evObj x)) bs 9 (.string t) := blk_alloc hbt (evObj x)
      refine ⟨_, run_beginRound hl1 (by rw [hrec]), ?_⟩
      have hneb : W.heap.size ≠ w.heap.size + 1 := Nat.ne_of_gt hlt
      have hl2 := World.putObj_heap_same (o := .loop { rec .ready none with state := .busy }) (blk_lt hl1)
      have hk2 := (World.putObj_heap_other (w := W.alloc (evObj x)) (r := w.heap.size + 1) (k := w.heap.size) (o := .loop { rec .ready none with state := .busy }) (by omega)).trans hk1
      have hx2 := (World.putObj_heap_other (w := W.alloc (evObj x)) (r := w.heap.size + 1) (k := W.heap.size) (o := .loop { rec .ready none with state := .busy }) hneb).trans hx1
      have hi2 := hIput _ _ (w.heap.size + 1) _ (.loop { rec .ready none with state := .busy }) hi1 (Nat.le_succ _) hl1 rfl
      have hbt2 : Boxed ((W.alloc (evObj x)).putObj (w.heap.size + 1) (.loop { rec .ready none with state := .busy })) bs 9 (.string t) := box_put hbt1 hl1 rfl
      have hbs2 : ((W.alloc (evObj x)).putObj (w.heap.size + 1) (.loop { rec .ready none with state := .busy })).heap[bs]? = W.heap[bs]? := (show _ = _ from hbt2).trans (show _ = _ from hbt).symm
      refine wpIn_mono (hbody _ W.heap.size o x er _ hi2 hx2 ⟨t, hbt2⟩ (by omega)) ?_
      have fin : ∀ (jump : Option Code) (W3 : World), KeepsOthers ((W.alloc (evObj x)).putObj (w.heap.size + 1) (.loop { rec .ready none with state := .busy })) W3 →
          (Instr.endRound (w.heap.size + 1) jump).run Try.prog W3 = .ok (.bool jump.isNone) (W3.putObj (w.heap.size + 1) (.loop (rec (if jump.isNone then .ready else .done) jump))) ∧
          W3.heap[w.heap.size + 1]? = some (.loop { rec .ready none with state := .busy }) ∧
          (W3.putObj (w.heap.size + 1) (.loop (rec (if jump.isNone then .ready else .done) jump))).heap[w.heap.size + 1]? = some (.loop (rec (if jump.isNone then .ready else .done) jump)) ∧
          (W3.putObj (w.heap.size + 1) (.loop (rec (if jump.isNone then .ready else .done) jump))).heap[w.heap.size]? = some (.deferred (some [])) := fun jump W3 hk3 => by
        have hl3 := hk3.same _ _ hl2 rfl
        have := run_endRound (P := Try.prog) jump hl3
        rw [hrec] at this ⊢
        exact ⟨this, by rw [hrec] at hl3; exact hl3, World.putObj_heap_same (Array.getElem?_eq_some_iff.1 hl3).1, (World.putObj_heap_other (by omega)).trans (hk3.same _ _ hk2 rfl)⟩
      rintro e a3 W3 hp
      cases e with
      | normal =>
        obtain ⟨hk3, hb3, hlen, her, hi3⟩ := hp
        obtain ⟨hr, hl3, hl4, hk4⟩ := fin none W3 hk3
        refine ⟨_, _, hr, .inr (.inr ⟨hlen, her, rfl, ⟨hIput _ _ _ _ _ hi3 (Nat.le_succ _) hl3 rfl, hl4, hk4, blk_lt hl4⟩, ?_⟩)⟩
        have hb3' : Boxed W3 bs 9 (.string t) := hb3.trans hbt2
        exact (show _ = _ from box_put (x' := .loop (rec .ready none)) hb3' hl3 rfl).trans (show _ = _ from hbt).symm
      | ret =>
        obtain ⟨hk3, hp⟩ := hp
        obtain ⟨hr, hl3, hl4, hk4⟩ := fin (some .ret) W3 hk3
        rcases hp with ⟨hlen, hx⟩ | ⟨hlen, her, hx⟩
        · exact ⟨_, _, hr, .inl ⟨hlen, rfl, hXput _ _ _ _ _ hx (Nat.le_succ _) hl3 rfl, hl4, hk4⟩⟩
        · exact ⟨_, _, hr, .inr (.inl ⟨hlen, her, rfl, hXput _ _ _ _ _ hx (Nat.le_succ _) hl3 rfl, hl4, hk4⟩)⟩
      | exit id => exact hp.elim
      | goto t => exact hp.elim
      | panic ch => exact hp.elim
      | outgrown => exact hp.elim
    · rintro e W2 ⟨⟨v, rfl⟩, (⟨o, hS, hi, hl, hk, _⟩ | ⟨r, hSp, hr1, hi, hl, hk⟩)⟩
      · exact ⟨none, _, by have := run_endLoop (P := Try.prog) hl (by rw [hrec]; simp); rw [hrec] at this; exact this, hdone _ o _ hS (hIput _ _ _ _ _ hi (Nat.le_succ _) hl rfl) (Nat.le_refl _) ((World.putObj_heap_other (by omega)).trans hk)⟩
      · exact ⟨some .ret, _, by have := run_endLoop (P := Try.prog) hl (by rw [hrec]; simp); rw [hrec] at this; exact this, hstop _ r _ hSp hr1 (hXput _ _ _ _ _ hi (Nat.le_succ _) hl rfl) (Nat.le_refl _) ((World.putObj_heap_other (by omega)).trans hk)⟩
end Go.Proofs.Ytkjjdphlfbecdaa.Gv
