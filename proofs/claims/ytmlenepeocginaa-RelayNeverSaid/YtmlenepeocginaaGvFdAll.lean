/- Tables of addresses: Collect, SortedFunc, Rows. -/
import Derived.Test.YtmlenepeocginaaGvFdNone
namespace Go.Proofs.Ytmlenepeocginaa.Gv
open Go.Shelf Go.RowKit Go.Lib Go.Proofs.YtmlenepeocginaaW.PrintWords Go.Proofs.YtmlenepeocginaaW.PrintLast Go.Proofs.YtmlenepeocginaaW.PrintMore
set_option linter.unusedVariables false
set_option linter.unusedSimpArgs false
theorem flat_get (xs : List Rw) : ∀ j : Nat, j < xs.length * 4 → (xs.flatMap rowCells)[j]? = some ((rowCells xs.toArray[j / 4]!)[j % 4]!) := by
  induction xs with
  | nil => intro j hj; simp at hj
  | cons r xs ih =>
    intro j hj
    rw [List.length_cons] at hj
    rw [List.flatMap_cons]
    by_cases h : j < 4
    · rw [List.getElem?_append_left (by simpa [rowCells] using h), show j / 4 = 0 from by omega, show j % 4 = j from by omega]
      have hj4 : j = 0 ∨ j = 1 ∨ j = 2 ∨ j = 3 := by omega
      rcases hj4 with rfl | rfl | rfl | rfl <;> rfl
    · rw [List.getElem?_append_right (by simp [rowCells]; omega)]
      have hl : (rowCells r).length = 4 := rfl
      rw [hl, ih (j - 4) (by omega), show (j - 4) % 4 = j % 4 from by omega]
      have e : (r :: xs).toArray[j / 4]! = xs.toArray[(j - 4) / 4]! := by
        rw [show j / 4 = (j - 4) / 4 + 1 from by omega]
        simp
      rw [e]
theorem holds_of_own {w : World} {base g c : Nat} {xs : List Rw} (h : w.ownsRow base 64 4 (.slice (some ⟨g, 0, none⟩) xs.length c) xs.length (xs.flatMap rowCells)) : Go.Sort.HoldsK rowCells 4 w g 0 xs.toArray := by
  intro j hj
  rw [Go.Sort.size_flatK, List.size_toArray] at hj
  rw [Nat.zero_add]
  refine ⟨?_, h.frozenAt j⟩
  rw [h.cellAt j hj, flat_get xs j hj, Go.Sort.get_flatK _ _ _ _ (by rw [List.size_toArray]; exact hj)]
  rfl
set_option maxHeartbeats 4000000 in
theorem collect_calls (Bm : Nat) (mb : Option Nat) (L : List Rw) (hL : L.length ≤ 1000000) (w : World) (hT : Tab w mb L) (hm : w.cell? ⟨Bm, 0, none⟩ = some (.map mb)) :
    Calls Try.prog 46 #[.func (.func 48) #[] #[.pointer (some ⟨Bm, 0, none⟩)]] w fun e w' => ∃ (v : Value) (xs : List Rw), e = .returned v ∧ xs.Perm L ∧ w'.ownsRow w.heap.size 64 4 v xs.length (xs.flatMap rowCells) ∧ Below w.heap.size w w' := by
  go_enter Try.func46, Try.ntmps46
  go_wp2_with fail
  refine (append_calls Bm mb L hL w hT hm).mono ?_
  rintro e' w1 ⟨v, xs, rfl, hp, ho, hb⟩
  have HH := Lib.hid (And.intro hp (And.intro ho hb))
  clear hp ho hb
  go_wp2_with fail
  go_ret
  exact ⟨_, xs, rfl, HH.out.1, HH.out.2.1, HH.out.2.2⟩
set_option maxHeartbeats 4000000 in
set_option maxRecDepth 100000 in
theorem sorted_calls (Bm : Nat) (mb : Option Nat) (L : List Rw) (hL : L.length ≤ 1000000) (w : World) (hT : Tab w mb L) (hm : w.cell? ⟨Bm, 0, none⟩ = some (.map mb)) :
    Calls Try.prog 21 #[.func (.func 48) #[] #[.pointer (some ⟨Bm, 0, none⟩)], .func (.func 23) #[] #[]] w fun e w' => ∃ (v : Value) (xs : List Rw), e = .returned v ∧ xs.Perm L ∧ xs.Pairwise (fun a b => ltOf rcf b a = false) ∧ RowsAt w' v xs ∧ Below w.heap.size w w' := by
  go_enter Try.func21, Try.ntmps21
  go_wp2_with fail
  refine (collect_calls Bm mb L hL w hT hm).mono ?_
  rintro e' w1 ⟨v, xs, rfl, hp, ho, hb⟩
  have hxl : xs.length ≤ 1000000 := by rw [hp.length_eq]; exact hL
  rcases ho.2 with ⟨rfl, h0⟩ | ⟨g, cap, cur, rfl, hg0, hgb, _⟩
  · have hx0 : xs = [] := List.eq_nil_of_length_eq_zero h0
    subst hx0
    go_wp2_with fail
    refine (sort_none_calls none 0 _ w1).mono ?_
    rintro e' w2 ⟨rfl, rfl⟩
    go_wp2_with fail
    go_ret
    exact ⟨_, [], rfl, hp, List.Pairwise.nil, .inl ⟨rfl, _, _, rfl⟩, hb⟩
  · have hglt := blk_lt hgb
    have hH := holds_of_own ho
    have HH := Lib.hid hH
    have HO := Lib.hid (And.intro hp hb)
    clear hH ho hp hb hgb
    go_wp2_with fail
    refine (sort_calls g cap xs hxl w1 HH.out hglt).mono ?_
    rintro e' w2 ⟨rfl, l', hp2, hs2, hH2, hb2, hsz2⟩
    have HO2 := Lib.hid (And.intro hp2 (And.intro hs2 (And.intro hH2 hb2)))
    clear hp2 hs2 hH2 hb2
    go_wp2_with fail
    go_ret
    obtain ⟨hp2, hs2, hH2, hb2⟩ := HO2.out
    refine ⟨_, l', rfl, hp2.trans HO.out.1, hs2, .inr ⟨g, cap, ?_, Nat.lt_of_lt_of_le hglt hsz2, hH2⟩, hb2 w HO.out.2 hg0⟩
    rw [hp2.length_eq]
    rfl
set_option maxHeartbeats 4000000 in
set_option maxRecDepth 100000 in
/-- **Rows**: a table's rows, by rising VLANs and addresses. -/
theorem rows_calls (room age : Int) (mb : Option Nat) (L : List Rw) (hL : L.length ≤ 1000000) (w : World) (hT : Tab w mb L) :
    Calls Try.prog 7 #[.agg #[.int .i64 room, .int .i64 age, .map mb]] w fun e w' => ∃ (v : Value) (xs : List Rw), e = .returned v ∧ xs.Perm L ∧ xs.Pairwise (fun a b => ltOf rcf b a = false) ∧ RowsAt w' v xs ∧ Below w.heap.size w w' := by
  go_enter Try.func7, Try.ntmps7
  go_wp2_with fail
  refine fd_calls_W ?_
  intro W1 hW1
  have hB1 : Below w.heap.size w W1 := by rw [hW1]; exact below_alloc (Below.refl _ _) _
  clear hW1
  refine (values_calls mb W1).mono ?_
  rintro e' w1 ⟨rfl, rfl⟩
  have hc1 : (W1.alloc (.cells #[.map mb] 24)).cell? ⟨W1.heap.size, 0, none⟩ = some (.map mb) := by
    rw [World.cell?_alloc_new]; rfl
  have hB2 : Below w.heap.size w (W1.alloc (.cells #[.map mb] 24)) := hB1.trans ((below_alloc (Below.refl _ W1) _).mono hB1.size)
  generalize hW2 : W1.alloc (.cells #[.map mb] 24) = W2 at hc1 hB2 ⊢
  clear hW2
  have HH := Lib.hid (And.intro hc1 hB2)
  clear hc1 hB2 hB1
  go_wp2_with fail
  refine (sorted_calls W1.heap.size mb L hL W2 (hT.below HH.out.2) HH.out.1).mono ?_
  rintro e' w3 ⟨v, xs, rfl, hp, hs, hr, hb⟩
  have HR := Lib.hid (And.intro hp (And.intro hs (And.intro hr hb)))
  clear hp hs hr hb
  go_wp2_with fail
  go_ret
  obtain ⟨hp, hs, hr, hb⟩ := HR.out
  exact ⟨_, xs, rfl, hp, hs, hr, HH.out.2.trans (hb.mono HH.out.2.size)⟩
end Go.Proofs.Ytmlenepeocginaa.Gv
