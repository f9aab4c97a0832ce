/- Tables of addresses: the statement 'for r := range rows': what its caller owes. -/
import Derived.Test.YtmlenepeocginaaGvFdIter
import Derived.Shelf.Abstract
namespace Go.Proofs.Ytmlenepeocginaa.Gv
open Go.Shelf Go.RowKit Go.Maps Go.WideElems Go.Proofs.YtmlenepeocginaaW.PrintWords Go.Proofs.YtmlenepeocginaaW.PrintLast Go.Proofs.YtmlenepeocginaaW.PrintMore
set_option linter.unusedVariables false
set_option linter.unusedSimpArgs false
def rowCells (r : Rw) : List Value := [.int .u16 r.1, .int .u64 r.2.1, .int .i64 r.2.2.1, .int .i64 r.2.2.2]
def rowObj (r : Rw) : Obj := .cells (rowCells r).toArray 64
/-- How a round's body is left. -/
def roundEndR (I : List Rw → World → Prop) (o : List Rw) (W : World) : Exit → Act → World → Prop
  | .normal, _, W3 => KeepsOthers W W3 ∧ I o W3
  | _, _, _ => False
theorem fd_blk_new2 (w : World) (o o' : Obj) : ((w.alloc o).alloc o').heap[w.heap.size + 1]? = some o' := by
  have h := blk_new (w.alloc o) o'
  rwa [show (w.alloc o).heap.size = w.heap.size + 1 from by simp] at h
set_option maxRecDepth 100000 in
set_option maxHeartbeats 2000000 in
theorem rows_law {n Bm : Nat} {mb : Option Nat} {L : List Rw} {g : Operand} {ps : Array Tmp} {assign body : Code} {Q : Exit → Act → World → Prop} {a : Act} {w : World}
    (hg : a.eval g = .func (.func 48) #[] #[.pointer (some ⟨Bm, 0, none⟩)]) (hps : ps.size = 1)
    (hT : Tab w mb L) (hm : w.cell? ⟨Bm, 0, none⟩ = some (.map mb))
    (I : List Rw → World → Prop)
    (hIw : ∀ o W W' row, I o W → W.grownBy W' row → (∀ r, row = some r → w.heap.size ≤ r ∧ ∃ ob : Obj, W.heap[r]? = some ob ∧ ob.isCells = false) → I o W')
    (h0 : I [] w) (a₁ : Nat → Rw → Act)
    (hassign : ∀ (l : Nat) (x : Rw) (W : World) (K : Act → World → Prop), K (a₁ W.heap.size x) (W.alloc (rowObj x)) →
      assign.wpIn (Fence.wide.inRound l) (n - 1 - 1) Try.prog (Exit.then K (fun _ _ _ => False)) { tmps := (ps.zip #[rowV x]).foldl (fun t (p, v) => t.setIfInBounds p v) a.tmps, defers := [] } W)
    (hbody : ∀ (l b : Nat) (o : List Rw) (x : Rw) (W : World), I o W → W.heap[b]? = some (rowObj x) → w.heap.size ≤ b → o.length < L.length →
      body.wpIn (Fence.wide.inRound l) (n - 1 - 1) Try.prog (roundEndR I (o ++ [x]) W) (a₁ b x) W)
    (hdone : ∀ (D : Nat) (xs : List Rw) (W : World), xs.Perm L → I xs W → w.heap.size ≤ D → W.heap[D]? = some (.deferred (some [])) → Q .normal { a with defers := { target := .collected D, args := #[] } :: a.defers } W) :
    (Code.rangeFunc g ps assign body).wpIn Fence.wide n Try.prog Q a w := by
  refine wpIn_rangeFunc ?_
  intro fn hfn
  obtain ⟨rec, hrec⟩ : ∃ rec : LoopState → Option Code → Loop, rec = fun st pe => { state := st, pending := pe, fn, tmps := a.tmps, params := ps, assign, body, defers := w.heap.size } := ⟨_, rfl⟩
  obtain ⟨W1, hW1⟩ : ∃ W1, (w.alloc (.deferred (some []))).alloc (.loop (rec .ready none)) = W1 := ⟨_, rfl⟩
  have hL1 : W1.heap[w.heap.size + 1]? = some (.loop (rec .ready none)) := by rw [← hW1]; exact fd_blk_new2 _ _ _
  have hK1 : W1.heap[w.heap.size]? = some (.deferred (some [])) := by rw [← hW1]; exact blk_alloc (blk_new _ _) _
  have hb1 : Below w.heap.size w W1 := by rw [← hW1]; exact below_alloc (below_alloc (Below.refl _ _) _) _
  have hI1 : I [] W1 := by
    rw [← hW1]
    exact hIw _ _ _ none (hIw _ _ _ none h0 (World.grownBy_alloc _ _ _) (fun r e => by cases e)) (World.grownBy_alloc _ _ _) (fun r e => by cases e)
  refine ⟨w.heap.size + 1, [{ target := .collected w.heap.size, args := #[] }], W1, { target := .fn (.func 48) #[.pointer (some ⟨Bm, 0, none⟩)], args := #[.func (.yield (w.heap.size + 1)) #[] #[]] }, W1, 48,
    #[.func (.yield (w.heap.size + 1)) #[] #[], .pointer (some ⟨Bm, 0, none⟩)], W1, ?_, ?_, fun _ _ => trivial, ?_, fun h => (by cases h), ?_⟩
  · rw [← hW1, hrec]; exact run_enterLoop_outer _ _ _ _ _
  · simp only [resolve, rangeCall, hg]
    simp [go_sem]
  · have eg := enters_of (P := Try.prog) Try.func48 (by kernel_rfl) rfl
    simp [invoke, go_sem, eg]
  · have hput : ∀ (o : List Rw) (W : World) (l : Nat) (x x' : Obj), I o W → w.heap.size ≤ l → W.heap[l]? = some x → x.isCells = false → I o (W.putObj l x') := fun o W l x x' h hl hx hc => hIw o W _ (some l) h (grownBy_putObj' W l x') (fun r e => by cases e; exact ⟨hl, x, hx, hc⟩)
    refine (values_stops (n - 1) Bm mb L w hT hm (w.heap.size + 1)
      (fun o W => I o W ∧ W.heap[w.heap.size + 1]? = some (.loop (rec .ready none)) ∧ W.heap[w.heap.size]? = some (.deferred (some [])) ∧ w.heap.size + 1 < W.heap.size)
      (fun _ _ => False) W1 hb1
      (fun s A B row hs hg' hr => ⟨hIw s A B row hs.1 hg' (fun r e => by obtain ⟨h1, o, h2, h3⟩ := hr r e; exact ⟨Nat.le_trans hb1.size h1, o, h2, Obj.not_cells_of_walk h3⟩), (grownBy_keeps hg' (fun r e => (hr r e).2) hs.2.1 rfl).trans hs.2.1, (grownBy_keeps hg' (fun r e => (hr r e).2) hs.2.2.1 rfl).trans hs.2.2.1, Nat.lt_of_lt_of_le hs.2.2.2 hg'.size⟩)
      (fun s A B row hs _ _ => hs) ?_ ⟨hI1, hL1, hK1, blk_lt hL1⟩).mono ?_
    · rintro o x W ⟨hi, hl, hk, hlt⟩ hlen
      have hy := run_yield (P := Try.prog) (args := #[rowV x]) hl (by rw [hrec]; exact hps.symm)
      rw [hrec] at hy
      refine ⟨fn, _, assign, body, hy, roundIn_of_wpIn hfn (hassign _ x W _ ?_)⟩
      have hl1 := blk_alloc hl (rowObj x)
      have hk1 := blk_alloc hk (rowObj x)
      have hx1 := blk_new W (rowObj x)
      have hi1 := hIw _ _ _ none hi (World.grownBy_alloc W (rowObj x) none) (fun r e => by cases e)
      refine ⟨_, run_beginRound hl1 (by rw [hrec]), ?_⟩
      have hneb : W.heap.size ≠ w.heap.size + 1 := Nat.ne_of_gt hlt
      have hl2 := World.putObj_heap_same (o := .loop { rec .ready none with state := .busy }) (blk_lt hl1)
      have hk2 := (World.putObj_heap_other (w := W.alloc (rowObj x)) (r := w.heap.size + 1) (k := w.heap.size) (o := .loop { rec .ready none with state := .busy }) (by omega)).trans hk1
      have hx2 := (World.putObj_heap_other (w := W.alloc (rowObj x)) (r := w.heap.size + 1) (k := W.heap.size) (o := .loop { rec .ready none with state := .busy }) hneb).trans hx1
      have hi2 := hput _ _ (w.heap.size + 1) _ (.loop { rec .ready none with state := .busy }) hi1 (Nat.le_succ _) hl1 rfl
      have hw2 : KeepsWalks W ((W.alloc (rowObj x)).putObj (w.heap.size + 1) (.loop { rec .ready none with state := .busy })) := (KeepsWalks.alloc _ _).trans (KeepsWalks.putObj _ hl1 rfl)
      refine wpIn_mono (hbody _ W.heap.size o x _ hi2 hx2 (by omega) hlen) ?_
      rintro e a3 W3 hp
      cases e with
      | normal =>
        obtain ⟨hk3, hi3⟩ := hp
        have hl3 := hk3.same _ _ hl2 rfl
        have hr := run_endRound (P := Try.prog) none hl3
        rw [hrec] at hr
        have hlt3 := blk_lt hl3
        refine ⟨_, _, hr, .inl ⟨rfl, ⟨hput _ _ _ _ _ hi3 (Nat.le_succ _) hl3 rfl, ?_, ?_, ?_⟩, (hw2.trans hk3.walks).trans (KeepsWalks.putObj _ hl3 rfl)⟩⟩
        · rw [hrec]; exact World.putObj_heap_same hlt3
        · exact (World.putObj_heap_other (by omega)).trans (hk3.same _ _ hk2 rfl)
        · rw [show ∀ o', (W3.putObj (w.heap.size + 1) o').heap.size = W3.heap.size from fun o' => by simp [World.putObj]]; exact hlt3
      | ret => exact hp.elim
      | exit id => exact hp.elim
      | goto t => exact hp.elim
      | panic ch => exact hp.elim
      | outgrown => exact hp.elim
    · rintro e W2 ⟨⟨v, rfl⟩, (⟨xs, hS, hi, hl, hk, _⟩ | ⟨_, _, hf⟩)⟩
      · exact ⟨none, _, by have := run_endLoop (P := Try.prog) hl (by rw [hrec]; simp); rw [hrec] at this; exact this, hdone _ xs _ hS (hput _ _ _ _ _ hi (Nat.le_succ _) hl rfl) (Nat.le_refl _) ((World.putObj_heap_other (by omega)).trans hk)⟩
      · exact hf.elim
end Go.Proofs.Ytmlenepeocginaa.Gv
