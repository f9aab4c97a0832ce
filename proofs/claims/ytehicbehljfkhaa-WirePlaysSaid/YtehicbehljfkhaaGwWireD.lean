/- Wires, walked by hand: the document's Push and Pop. -/
import Derived.Test.YtehicbehljfkhaaGwWireC
import Derived.Laws.AppendOwnNone
namespace Go.Proofs.Ytehicbehljfkhaa.Wi
set_option linter.unusedVariables false
set_option linter.unusedSimpArgs false
open Go.RowKit Go.Proofs.YtehicbehljfkhaaW.PrintWords Go.Proofs.YtehicbehljfkhaaW.PrintLast Go.Proofs.YtehicbehljfkhaaW.PrintMore
/-- The document's row: its own. -/
def RefV (w : World) (v : Value) (l : List ByteArray) : Prop := w.ownsRow 0 9 1 v l.length (l.map Value.string)
theorem RefV.nil (w : World) : RefV w (.slice none 0 0) [] := World.ownsRow_nil w 0 9 1
theorem RefV.below {w w1 : World} {v : Value} {l : List ByteArray} (h : RefV w v l) (hb : Below w.heap.size w w1) : RefV w1 v l := by
  obtain ⟨hl, h⟩ := h
  refine ⟨hl, ?_⟩
  rcases h with h | ⟨g, cap, cur, e, h0, hg, hr⟩
  · exact .inl h
  · exact .inr ⟨g, cap, cur, e, h0, blk_below hg hb, hr⟩
theorem RefV.far {w : World} {v : Value} {l : List ByteArray} (h : RefV w v l) {g : Nat} {t : TypeId} {cs : Array Value} (hg : w.heap[g]? = some (.cells cs t (0, 0))) (ht : 9 ≠ t) (j : Nat) (u : Value) : RefV (w.setCell ⟨g, j, none⟩ u) v l := by
  obtain ⟨hl, h⟩ := h
  refine ⟨hl, ?_⟩
  rcases h with h | ⟨g', cap, cur, e, h0, hg', hr⟩
  · exact .inl h
  · exact .inr ⟨g', cap, cur, e, h0, blk_far hg' (by exact blk_ne hg' hg ht) u, hr⟩
theorem RefV.slice {w : World} {v : Value} {l : List ByteArray} (h : RefV w v l) : ∃ A c, v = .slice A l.length c := by
  obtain ⟨hl, h⟩ := h
  rcases h with ⟨e, hn⟩ | ⟨g, cap, cur, e, _⟩
  · exact ⟨none, 0, by rw [e, hn]⟩
  · exact ⟨_, _, e⟩
theorem own_ne {w : World} {base : Nat} {v : Value} {n : Nat} {xs : List Value} {g : Nat} {t : TypeId} {cs : Array Value} (h : w.ownsRow base 9 1 v n xs) (hg : w.heap[g]? = some (.cells cs t (0, 0))) (ht : 9 ≠ t) : some g ≠ v.ownBlock := by
  obtain ⟨hl, h⟩ := h
  rcases h with ⟨e, hn⟩ | ⟨g', cap, cur, e, h0, hg', hr⟩
  · subst e; simp [Value.ownBlock]
  · subst e
    have := blk_ne hg' hg ht
    simp only [Value.ownBlock, ne_eq, Option.some.injEq]
    exact fun h => this h.symm
theorem own_base {w : World} {base : Nat} {v : Value} {n : Nat} {xs : List Value} (h : w.ownsRow base 9 1 v n xs) (k : Nat) (e : v.ownBlock = some k) : base ≤ k := by
  obtain ⟨hl, h⟩ := h
  rcases h with ⟨e', hn⟩ | ⟨g', cap, cur, e', h0, hg', hr⟩
  · subst e'; simp [Value.ownBlock] at e
  · subst e'
    simp only [Value.ownBlock, Option.some.injEq] at e
    omega
theorem own_zero {w : World} {base : Nat} {v : Value} {n : Nat} {xs : List Value} (h : w.ownsRow base 9 1 v n xs) : w.ownsRow 0 9 1 v n xs := by
  obtain ⟨hl, h⟩ := h
  refine ⟨hl, ?_⟩
  rcases h with h | ⟨g', cap, cur, e', h0, hr⟩
  · exact .inl h
  · exact .inr ⟨g', cap, cur, e', Nat.zero_le _, hr⟩
theorem own_empty (w : World) (base g : Nat) (hb : base ≤ g) (h : w.heap[g]? = some (.cells #[] 9 (0, 0))) : w.ownsRow base 9 1 (.slice (some ⟨g, 0, none⟩) 0 0) 0 [] :=
  ⟨rfl, .inr ⟨g, 0, #[], rfl, hb, h, Nat.le_refl _, Nat.zero_le _, rfl, rfl⟩⟩
theorem own_olds {w W : World} {g n : Nat} {cur : Array Value} {xs : List Value} (hg : w.heap[g]? = some (.cells cur 9 (0, 0))) (ht : cur.toList.take n = xs) (hb : Below w.heap.size w W) (m : Nat) : ∀ (j : Nat) u, (xs.drop m)[j]? = some u → W.cell? (Addr.add ⟨g, m, none⟩ j) = some u := by
  intro j u hj
  have h1 := blk_below hg hb
  rw [← ht, List.getElem?_drop, List.getElem?_take] at hj
  split at hj
  · have e : Addr.add ⟨g, m, none⟩ j = ⟨g, m + j, none⟩ := by simp [Addr.add]
    rw [e, blk_cell h1]
    simpa using hj
  · cases hj
theorem own_olds0 {w W : World} {g n : Nat} {cur : Array Value} {xs : List Value} (hg : w.heap[g]? = some (.cells cur 9 (0, 0))) (ht : cur.toList.take n = xs) (hb : Below w.heap.size w W) : ∀ (j : Nat) u, xs[j]? = some u → W.cell? (Addr.add ⟨g, 0, none⟩ j) = some u :=
  fun j u hj => own_olds hg ht hb 0 j u (by simpa using hj)
theorem one_str (l : List ByteArray) : ∀ u ∈ l.map Value.string, u.oneCell' = true := by
  intro u hu
  obtain ⟨x, _, rfl⟩ := List.mem_map.1 hu
  rfl
def RPushPost (room : Int) (l : List ByteArray) (s : ByteArray) (w : World) (e : Ending) (w' : World) : Prop := ∃ v', e = .returned (.tuple #[.agg #[.int .i64 room, .bool false, v'], .bool true]) ∧ RefV w' v' (l ++ [s]) ∧ Below w.heap.size w w'
set_option maxHeartbeats 8000000 in
set_option maxRecDepth 100000 in
theorem rpush_ok (room : Int) (v : Value) (l : List ByteArray) (s : ByteArray) (w : World) (hv : RefV w v l) (hl : (l.length : Int) < room) (hr : room ≤ 256) :
    Calls Try.prog 12 #[.agg #[.int .i64 room, .bool false, v], .string s] w (RPushPost room l s w) := by
  have hu := Try.underlying37
  have hn : decide ((l.length : Int) ≥ room) = false := decide_eq_false (by omega)
  have hn2 : decide (room ≤ (l.length : Int)) = false := decide_eq_false (by omega)
  obtain ⟨i0, hi, hz0, hz1, hz2⟩ := info_parts info9
  have hle := hv.1
  rcases hv.2 with ⟨rfl, hz⟩ | ⟨g, cap, cur, rfl, _, hg, hcap, hmx, hsz, ht⟩
  · obtain rfl := List.eq_nil_of_length_eq_zero hz
    simp only [List.length_nil] at hl hn hn2 ⊢
    go_enter Try.func12, Try.ntmps12
    have hBw : Below w.heap.size w (((w.alloc (.cells #[.int .i64 room, .bool false, .slice none 0 0] 37)).alloc (.cells #[.int .i64 0, .bool false, .slice none 0 0] 37)).alloc (.cells #[] 9)) := below_alloc (below_alloc (below_alloc (Below.refl _ w) _) _) _
    have hn1 := blk_alloc (blk_alloc (blk_new w (.cells #[.int .i64 room, .bool false, .slice none 0 0] 37)) (.cells #[.int .i64 0, .bool false, .slice none 0 0] 37)) (.cells #[] 9)
    have hn2 := blk_alloc (blk_new (w.alloc (.cells #[.int .i64 room, .bool false, .slice none 0 0] 37)) (.cells #[.int .i64 0, .bool false, .slice none 0 0] 37)) (.cells #[] 9)
    have hn3 := blk_new ((w.alloc (.cells #[.int .i64 room, .bool false, .slice none 0 0] 37)).alloc (.cells #[.int .i64 0, .bool false, .slice none 0 0] 37)) (.cells #[] 9)
    simp only [World.size_alloc] at hn2 hn3
    have HW := Lib.hid hBw
    have H1 := Lib.hid hn1
    have H2 := Lib.hid hn2
    have HE := Lib.hid (own_empty _ w.heap.size _ (by omega) hn3)
    clear hBw hn1 hn2 hn3
    go_wp2_with (first
      | (at_builtin; refine wpList_append_own_none rfl _ _ 22 rfl w.heap.size 9 i0 1 Try.underlying22 hi _ 0 _ rfl HE.out rfl ?_
         have H1' := Lib.hid (blk_alloc H1.out (.cells #[.string s] 9))
         have H2' := Lib.hid (blk_alloc H2.out (.cells #[.string s] 9))
         have HW' := Lib.hid (below_alloc HW.out (.cells #[.string s] 9))
         have HO' := Lib.hid (World.ownsRow.alloc HE.out (.cells #[.string s] 9))
         have hcc := cell_one_new (((w.alloc (.cells #[.int .i64 room, .bool false, .slice none 0 0] 37)).alloc (.cells #[.int .i64 0, .bool false, .slice none 0 0] 37)).alloc (.cells #[] 9)) (.string s) 9
         simp only [World.size_alloc] at hcc
         have HCC := Lib.hid hcc
         clear hcc H1 H2 HW HE)
      | (at_builtin; refine wpList_append_own _ rfl _ _ 22 rfl w.heap.size 9 i0 (.string .empty) 1 16 Try.underlying22 hi hz0 hz1 hz2 rfl (by decide) _ 0 _ rfl HO'.out ⟨w.heap.size + 1 + 1 + 1, 0, none⟩ 1 1 [.string s] rfl rfl HCC.out (by simp [Value.oneCell']) (by unfold maxLen; omega) (by omega) HW'.out.size ?_
         intro v2 w2 hown hgrow _
         have hb1 := blk_grown H1'.out hgrow (own_ne HO'.out H1'.out (by decide))
         have hb2 := blk_grown H2'.out hgrow (own_ne HO'.out H2'.out (by decide))
         have hbw := HW'.out.grown hgrow HW'.out.size (own_base HO'.out)
         have HV := Lib.hid (show RefV w2 v2 ([] ++ [s]) from by simpa [RefV] using own_zero hown)
         have z0 : w2.cell? ⟨w.heap.size, 0, none⟩ = some (.int .i64 room) := (blk_cell hb1 0).trans rfl
         have z1 : w2.cell? ⟨w.heap.size, 1, none⟩ = some (.bool false) := (blk_cell hb1 1).trans rfl
         have z2 : w2.cell? ⟨w.heap.size, 2, none⟩ = some (.slice none 0 0) := (blk_cell hb1 2).trans rfl
         have f2 := blk_frozen hb1 2
         have y0 : w2.cell? ⟨w.heap.size + 1, 0, none⟩ = some (.int .i64 0) := (blk_cell hb2 0).trans rfl
         have y1 : w2.cell? ⟨w.heap.size + 1, 1, none⟩ = some (.bool false) := (blk_cell hb2 1).trans rfl
         have y2 : w2.cell? ⟨w.heap.size + 1, 2, none⟩ = some (.slice none 0 0) := (blk_cell hb2 2).trans rfl
         have g0 := blk_frozen hb2 0
         have g1 := blk_frozen hb2 1
         have g2 := blk_frozen hb2 2
         obtain ⟨A', c', rfl⟩ : ∃ A' c', v2 = .slice A' (1) c' := (by obtain ⟨A', c', e⟩ := HV.out.slice; exact ⟨A', c', by simpa using e⟩)
         clear hown hgrow))
    refine wi_post (fun W3 hW3 => ?_)
    have q1 := blk_put (cs' := #[.int .i64 room, .bool false, .slice A' (1) c']) hb1 2 (.slice A' (1) c') rfl
    have q2 := blk_far hb2 (p := ⟨w.heap.size, 2, none⟩) (by simp) (.slice A' (1) c')
    have q3 := blk_put (cs' := #[.int .i64 room, .bool false, .slice none 0 0]) q2 0 (.int .i64 room) rfl
    have q4 := blk_put (cs' := #[.int .i64 room, .bool false, .slice none 0 0]) q3 1 (.bool false) rfl
    have q5 := blk_put (cs' := #[.int .i64 room, .bool false, .slice A' (1) c']) q4 2 (.slice A' (1) c') rfl
    have hV3 : RefV W3 (.slice A' (1) c') ([] ++ [s]) := by
      rw [hW3]
      exact (((HV.out.far hb1 (by decide) _ _).far q2 (by decide) _ _).far q3 (by decide) _ _).far q4 (by decide) _ _
    have hB3 : Below w.heap.size w W3 := by
      rw [hW3]
      exact wi_set (wi_set (wi_set (wi_set hbw (by simp) _) (by simp) _) (by simp) _) (by simp) _
    rw [← hW3] at q5
    have x0 : W3.cell? ⟨w.heap.size + 1, 0, none⟩ = some (.int .i64 room) := (blk_cell q5 0).trans rfl
    have x1 : W3.cell? ⟨w.heap.size + 1, 1, none⟩ = some (.bool false) := (blk_cell q5 1).trans rfl
    have x2 : W3.cell? ⟨w.heap.size + 1, 2, none⟩ = some (.slice A' (1) c') := (blk_cell q5 2).trans rfl
    exact bodyPost_ret (v := .tuple #[.agg #[.int .i64 room, .bool false, .slice A' (1) c'], .bool true]) (by simp [results, Try.results12, go_sem, x0, x1, x2]) rfl ⟨_, rfl, hV3, hB3⟩
  · go_enter Try.func12, Try.ntmps12
    have hBw : Below w.heap.size w (((w.alloc (.cells #[.int .i64 room, .bool false, Value.slice (some ⟨g, 0, none⟩) l.length cap] 37)).alloc (.cells #[.int .i64 0, .bool false, .slice none 0 0] 37)).alloc (.cells #[] 9)) := below_alloc (below_alloc (below_alloc (Below.refl _ w) _) _) _
    have hn1 := blk_alloc (blk_alloc (blk_new w (.cells #[.int .i64 room, .bool false, Value.slice (some ⟨g, 0, none⟩) l.length cap] 37)) (.cells #[.int .i64 0, .bool false, .slice none 0 0] 37)) (.cells #[] 9)
    have hn2 := blk_alloc (blk_new (w.alloc (.cells #[.int .i64 room, .bool false, Value.slice (some ⟨g, 0, none⟩) l.length cap] 37)) (.cells #[.int .i64 0, .bool false, .slice none 0 0] 37)) (.cells #[] 9)
    have hn3 := blk_new ((w.alloc (.cells #[.int .i64 room, .bool false, Value.slice (some ⟨g, 0, none⟩) l.length cap] 37)).alloc (.cells #[.int .i64 0, .bool false, .slice none 0 0] 37)) (.cells #[] 9)
    simp only [World.size_alloc] at hn2 hn3
    have hold := own_olds0 hg ht hBw
    have HC := Lib.hid hold
    have HW := Lib.hid hBw
    have H1 := Lib.hid hn1
    have H2 := Lib.hid hn2
    have HE := Lib.hid (own_empty _ w.heap.size _ (by omega) hn3)
    clear hold hBw hn1 hn2 hn3 hg ht
    go_wp2_with (first
      | (at_builtin; refine wpList_append_own _ rfl _ _ 22 rfl w.heap.size 9 i0 (.string .empty) 1 16 Try.underlying22 hi hz0 hz1 hz2 rfl (by decide) _ 0 _ rfl HE.out ⟨g, 0, none⟩ l.length cap (l.map Value.string) rfl (by simp) HC.out (one_str l) (by unfold maxLen; omega) (by omega) (by simp <;> omega) ?_
         intro v1 w1 hown hgrow _
         have hb1 := blk_grown H1.out hgrow (own_ne HE.out H1.out (by decide))
         have hb2 := blk_grown H2.out hgrow (own_ne HE.out H2.out (by decide))
         have hbw := HW.out.grown hgrow HW.out.size (own_base HE.out)
         have H1' := Lib.hid (blk_alloc hb1 (.cells #[.string s] 9))
         have H2' := Lib.hid (blk_alloc hb2 (.cells #[.string s] 9))
         have HW' := Lib.hid (below_alloc hbw (.cells #[.string s] 9))
         have HO' := Lib.hid (World.ownsRow.alloc (by simpa using hown : w1.ownsRow w.heap.size 9 1 v1 l.length (l.map Value.string)) (.cells #[.string s] 9))
         have hcc := cell_one_new w1 (.string s) 9
         have HCC := Lib.hid hcc
         clear hown hgrow hb1 hb2 hbw hcc H1 H2 HW HE HC)
      | (at_builtin; refine wpList_append_own _ rfl _ _ 22 rfl w.heap.size 9 i0 (.string .empty) 1 16 Try.underlying22 hi hz0 hz1 hz2 rfl (by decide) _ l.length _ rfl HO'.out ⟨w1.heap.size, 0, none⟩ 1 1 [.string s] rfl rfl HCC.out (by simp [Value.oneCell']) (by unfold maxLen; omega) (by omega) HW'.out.size ?_
         intro v2 w2 hown hgrow _
         have hb1 := blk_grown H1'.out hgrow (own_ne HO'.out H1'.out (by decide))
         have hb2 := blk_grown H2'.out hgrow (own_ne HO'.out H2'.out (by decide))
         have hbw := HW'.out.grown hgrow HW'.out.size (own_base HO'.out)
         have HV := Lib.hid (show RefV w2 v2 (l ++ [s]) from by simpa [RefV] using own_zero hown)
         have z0 : w2.cell? ⟨w.heap.size, 0, none⟩ = some (.int .i64 room) := (blk_cell hb1 0).trans rfl
         have z1 : w2.cell? ⟨w.heap.size, 1, none⟩ = some (.bool false) := (blk_cell hb1 1).trans rfl
         have z2 : w2.cell? ⟨w.heap.size, 2, none⟩ = some (.slice (some ⟨g, 0, none⟩) l.length cap) := (blk_cell hb1 2).trans rfl
         have f2 := blk_frozen hb1 2
         have y0 : w2.cell? ⟨w.heap.size + 1, 0, none⟩ = some (.int .i64 0) := (blk_cell hb2 0).trans rfl
         have y1 : w2.cell? ⟨w.heap.size + 1, 1, none⟩ = some (.bool false) := (blk_cell hb2 1).trans rfl
         have y2 : w2.cell? ⟨w.heap.size + 1, 2, none⟩ = some (.slice none 0 0) := (blk_cell hb2 2).trans rfl
         have g0 := blk_frozen hb2 0
         have g1 := blk_frozen hb2 1
         have g2 := blk_frozen hb2 2
         obtain ⟨A', c', rfl⟩ : ∃ A' c', v2 = .slice A' (l.length + 1) c' := (by obtain ⟨A', c', e⟩ := HV.out.slice; exact ⟨A', c', by simpa using e⟩)
         clear hown hgrow))
    refine wi_post (fun W3 hW3 => ?_)
    have q1 := blk_put (cs' := #[.int .i64 room, .bool false, .slice A' (l.length + 1) c']) hb1 2 (.slice A' (l.length + 1) c') rfl
    have q2 := blk_far hb2 (p := ⟨w.heap.size, 2, none⟩) (by simp) (.slice A' (l.length + 1) c')
    have q3 := blk_put (cs' := #[.int .i64 room, .bool false, .slice none 0 0]) q2 0 (.int .i64 room) rfl
    have q4 := blk_put (cs' := #[.int .i64 room, .bool false, .slice none 0 0]) q3 1 (.bool false) rfl
    have q5 := blk_put (cs' := #[.int .i64 room, .bool false, .slice A' (l.length + 1) c']) q4 2 (.slice A' (l.length + 1) c') rfl
    have hV3 : RefV W3 (.slice A' (l.length + 1) c') (l ++ [s]) := by
      rw [hW3]
      exact (((HV.out.far hb1 (by decide) _ _).far q2 (by decide) _ _).far q3 (by decide) _ _).far q4 (by decide) _ _
    have hB3 : Below w.heap.size w W3 := by
      rw [hW3]
      exact wi_set (wi_set (wi_set (wi_set hbw (by simp) _) (by simp) _) (by simp) _) (by simp) _
    rw [← hW3] at q5
    have x0 : W3.cell? ⟨w.heap.size + 1, 0, none⟩ = some (.int .i64 room) := (blk_cell q5 0).trans rfl
    have x1 : W3.cell? ⟨w.heap.size + 1, 1, none⟩ = some (.bool false) := (blk_cell q5 1).trans rfl
    have x2 : W3.cell? ⟨w.heap.size + 1, 2, none⟩ = some (.slice A' (l.length + 1) c') := (blk_cell q5 2).trans rfl
    exact bodyPost_ret (v := .tuple #[.agg #[.int .i64 room, .bool false, .slice A' (l.length + 1) c'], .bool true]) (by simp [results, Try.results12, go_sem, x0, x1, x2]) rfl ⟨_, rfl, hV3, hB3⟩
end Go.Proofs.Ytehicbehljfkhaa.Wi
