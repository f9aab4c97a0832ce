/- Wires, walked by hand: the document's Pop. -/
import Derived.Test.YtehicbehljfkhaaGwWireD
namespace Go.Proofs.Ytehicbehljfkhaa.Wi
set_option linter.unusedVariables false
set_option linter.unusedSimpArgs false
open Go.RowKit Go.Proofs.YtehicbehljfkhaaW.PrintWords Go.Proofs.YtehicbehljfkhaaW.PrintLast Go.Proofs.YtehicbehljfkhaaW.PrintMore
def RPopPost (room : Int) (d : Bool) (l : List ByteArray) (x : ByteArray) (w : World) (e : Ending) (w' : World) : Prop := ∃ v', e = .returned (.tuple #[.agg #[.int .i64 room, .bool d, v'], .string x, .bool true]) ∧ RefV w' v' l ∧ Below w.heap.size w w'
set_option maxHeartbeats 8000000 in
set_option maxRecDepth 100000 in
theorem rpop_ok (room : Int) (d : Bool) (v : Value) (x : ByteArray) (l : List ByteArray) (w : World) (hv : RefV w v (x :: l)) (hb : l.length ≤ 1000) :
    Calls Try.prog 13 #[.agg #[.int .i64 room, .bool d, v]] w (RPopPost room d l x w) := by
  have hu := Try.underlying37
  obtain ⟨i0, hi, hz0, hz1, hz2⟩ := info_parts info9
  have hle := hv.1
  rcases hv.2 with ⟨rfl, hz⟩ | ⟨g, cap, cur, rfl, _, hg, hcap, hmx, hsz, ht⟩
  · simp at hz
  by_cases hc1 : cap = 1
  · obtain rfl : l = [] := List.eq_nil_of_length_eq_zero (by simp at hcap; omega)
    subst hc1
    simp only [List.length_cons, List.length_nil, Nat.zero_add] at hcap ⊢
    go_enter Try.func13, Try.ntmps13
    have hBw : Below w.heap.size w (((w.alloc (.cells #[.int .i64 room, .bool d, .slice (some ⟨g, 0, none⟩) 1 1] 37)).alloc (.cells #[.int .i64 0, .bool false, .slice none 0 0] 37)).alloc (.cells #[] 9)) := below_alloc (below_alloc (below_alloc (Below.refl _ w) _) _) _
    have hn1 := blk_alloc (blk_alloc (blk_new w (.cells #[.int .i64 room, .bool d, .slice (some ⟨g, 0, none⟩) 1 1] 37)) (.cells #[.int .i64 0, .bool false, .slice none 0 0] 37)) (.cells #[] 9)
    have hn2 := blk_alloc (blk_new (w.alloc (.cells #[.int .i64 room, .bool d, .slice (some ⟨g, 0, none⟩) 1 1] 37)) (.cells #[.int .i64 0, .bool false, .slice none 0 0] 37)) (.cells #[] 9)
    have hn3 := blk_new ((w.alloc (.cells #[.int .i64 room, .bool d, .slice (some ⟨g, 0, none⟩) 1 1] 37)).alloc (.cells #[.int .i64 0, .bool false, .slice none 0 0] 37)) (.cells #[] 9)
    simp only [World.size_alloc] at hn2 hn3
    have hx2 := own_olds0 hg ht (below_alloc (below_alloc (Below.refl _ w) (.cells #[.int .i64 room, .bool d, .slice (some ⟨g, 0, none⟩) 1 1] 37)) (.cells #[.int .i64 0, .bool false, .slice none 0 0] 37)) 0 (.string x) rfl
    simp only [Addr.add_zero'] at hx2
    have hold := own_olds hg ht hBw 1
    simp only [List.map_cons, List.drop_succ_cons, List.drop_zero] at hold
    have HC := Lib.hid hold
    have HW := Lib.hid hBw
    have H1 := Lib.hid hn1
    have H2 := Lib.hid hn2
    have HE := Lib.hid (own_empty _ w.heap.size _ (by omega) hn3)
    clear hold hBw hn1 hn2 hn3 hg ht
    go_wp2_with (first
        | (at_builtin; refine wpList_append_own _ rfl _ _ 22 rfl w.heap.size 9 i0 (.string .empty) 1 16 Try.underlying22 hi hz0 hz1 hz2 rfl (by decide) _ 0 _ rfl HE.out ⟨g, 0, none⟩ 0 0 ([]) rfl (by simp) (by intro j u hj; simp at hj) (by simp) (by unfold maxLen; omega) (by omega) (by simp <;> omega) ?_
           intro v1 w1 hown hgrow _
           have hb1 := blk_grown H1.out hgrow (own_ne HE.out H1.out (by decide))
           have hb2 := blk_grown H2.out hgrow (own_ne HE.out H2.out (by decide))
           have hbw := HW.out.grown hgrow HW.out.size (own_base HE.out)
           have HV := Lib.hid (show RefV w1 v1 [] from by simpa [RefV] using own_zero hown)
           have z0 : w1.cell? ⟨w.heap.size, 0, none⟩ = some (.int .i64 room) := (blk_cell hb1 0).trans rfl
           have z1 : w1.cell? ⟨w.heap.size, 1, none⟩ = some (.bool d) := (blk_cell hb1 1).trans rfl
           have z2 : w1.cell? ⟨w.heap.size, 2, none⟩ = some (.slice (some ⟨g, 0, none⟩) 1 1) := (blk_cell hb1 2).trans rfl
           have f2 := blk_frozen hb1 2
           have y0 : w1.cell? ⟨w.heap.size + 1, 0, none⟩ = some (.int .i64 0) := (blk_cell hb2 0).trans rfl
           have y1 : w1.cell? ⟨w.heap.size + 1, 1, none⟩ = some (.bool false) := (blk_cell hb2 1).trans rfl
           have y2 : w1.cell? ⟨w.heap.size + 1, 2, none⟩ = some (.slice none 0 0) := (blk_cell hb2 2).trans rfl
           have g0 := blk_frozen hb2 0
           have g1 := blk_frozen hb2 1
           have g2 := blk_frozen hb2 2
           obtain ⟨A', c', rfl⟩ := HV.out.slice
           clear hown hgrow H1 H2 HW HE HC))
    refine wi_post (fun W3 hW3 => ?_)
    have q1 := blk_put (cs' := #[.int .i64 room, .bool d, .slice A' (0) c']) hb1 2 (.slice A' (0) c') rfl
    have q2 := blk_far hb2 (p := ⟨w.heap.size, 2, none⟩) (by simp) (.slice A' (0) c')
    have q3 := blk_put (cs' := #[.int .i64 room, .bool false, .slice none 0 0]) q2 0 (.int .i64 room) rfl
    have q4 := blk_put (cs' := #[.int .i64 room, .bool d, .slice none 0 0]) q3 1 (.bool d) rfl
    have q5 := blk_put (cs' := #[.int .i64 room, .bool d, .slice A' (0) c']) q4 2 (.slice A' (0) c') rfl
    have hV3 : RefV W3 (.slice A' (0) c') ([]) := by
      rw [hW3]
      exact (((HV.out.far hb1 (by decide) _ _).far q2 (by decide) _ _).far q3 (by decide) _ _).far q4 (by decide) _ _
    have hB3 : Below w.heap.size w W3 := by
      rw [hW3]
      exact wi_set (wi_set (wi_set (wi_set hbw (by simp) _) (by simp) _) (by simp) _) (by simp) _
    rw [← hW3] at q5
    have x0 : W3.cell? ⟨w.heap.size + 1, 0, none⟩ = some (.int .i64 room) := (blk_cell q5 0).trans rfl
    have x1 : W3.cell? ⟨w.heap.size + 1, 1, none⟩ = some (.bool d) := (blk_cell q5 1).trans rfl
    have x2 : W3.cell? ⟨w.heap.size + 1, 2, none⟩ = some (.slice A' (0) c') := (blk_cell q5 2).trans rfl
    exact bodyPost_ret (v := .tuple #[.agg #[.int .i64 room, .bool d, .slice A' 0 c'], .string x, .bool true]) (by simp [results, Try.results13, go_sem, x0, x1, x2]) rfl ⟨_, rfl, hV3, hB3⟩
  · simp only [List.length_cons] at hcap ⊢
    have h0 : decide ((0 : Int) < ((l.length + 1 : Nat) : Int)) = true := by simp <;> omega
    have h1 : (((l.length + 1 : Nat) : Int) == 0) = false := by simp <;> omega
    go_enter Try.func13, Try.ntmps13
    have hBw : Below w.heap.size w (((w.alloc (.cells #[.int .i64 room, .bool d, .slice (some ⟨g, 0, none⟩) (l.length + 1) cap] 37)).alloc (.cells #[.int .i64 0, .bool false, .slice none 0 0] 37)).alloc (.cells #[] 9)) := below_alloc (below_alloc (below_alloc (Below.refl _ w) _) _) _
    have hn1 := blk_alloc (blk_alloc (blk_new w (.cells #[.int .i64 room, .bool d, .slice (some ⟨g, 0, none⟩) (l.length + 1) cap] 37)) (.cells #[.int .i64 0, .bool false, .slice none 0 0] 37)) (.cells #[] 9)
    have hn2 := blk_alloc (blk_new (w.alloc (.cells #[.int .i64 room, .bool d, .slice (some ⟨g, 0, none⟩) (l.length + 1) cap] 37)) (.cells #[.int .i64 0, .bool false, .slice none 0 0] 37)) (.cells #[] 9)
    have hn3 := blk_new ((w.alloc (.cells #[.int .i64 room, .bool d, .slice (some ⟨g, 0, none⟩) (l.length + 1) cap] 37)).alloc (.cells #[.int .i64 0, .bool false, .slice none 0 0] 37)) (.cells #[] 9)
    simp only [World.size_alloc] at hn2 hn3
    have hx2 := own_olds0 hg ht (below_alloc (below_alloc (Below.refl _ w) (.cells #[.int .i64 room, .bool d, .slice (some ⟨g, 0, none⟩) (l.length + 1) cap] 37)) (.cells #[.int .i64 0, .bool false, .slice none 0 0] 37)) 0 (.string x) rfl
    simp only [Addr.add_zero'] at hx2
    have hold := own_olds hg ht hBw 1
    simp only [List.map_cons, List.drop_succ_cons, List.drop_zero] at hold
    have HC := Lib.hid hold
    have HW := Lib.hid hBw
    have H1 := Lib.hid hn1
    have H2 := Lib.hid hn2
    have HE := Lib.hid (own_empty _ w.heap.size _ (by omega) hn3)
    clear hold hBw hn1 hn2 hn3 hg ht
    go_wp2_with (first
        | (at_builtin; refine wpList_append_own _ rfl _ _ 22 rfl w.heap.size 9 i0 (.string .empty) 1 16 Try.underlying22 hi hz0 hz1 hz2 rfl (by decide) _ 0 _ rfl HE.out ⟨g, 1, none⟩ l.length (cap - 1) (l.map Value.string) rfl (by simp) HC.out (one_str l) (by unfold maxLen; omega) (by omega) (by simp <;> omega) ?_
           intro v1 w1 hown hgrow _
           have hb1 := blk_grown H1.out hgrow (own_ne HE.out H1.out (by decide))
           have hb2 := blk_grown H2.out hgrow (own_ne HE.out H2.out (by decide))
           have hbw := HW.out.grown hgrow HW.out.size (own_base HE.out)
           have HV := Lib.hid (show RefV w1 v1 l from by simpa [RefV] using own_zero hown)
           have z0 : w1.cell? ⟨w.heap.size, 0, none⟩ = some (.int .i64 room) := (blk_cell hb1 0).trans rfl
           have z1 : w1.cell? ⟨w.heap.size, 1, none⟩ = some (.bool d) := (blk_cell hb1 1).trans rfl
           have z2 : w1.cell? ⟨w.heap.size, 2, none⟩ = some (.slice (some ⟨g, 0, none⟩) (l.length + 1) cap) := (blk_cell hb1 2).trans rfl
           have f2 := blk_frozen hb1 2
           have y0 : w1.cell? ⟨w.heap.size + 1, 0, none⟩ = some (.int .i64 0) := (blk_cell hb2 0).trans rfl
           have y1 : w1.cell? ⟨w.heap.size + 1, 1, none⟩ = some (.bool false) := (blk_cell hb2 1).trans rfl
           have y2 : w1.cell? ⟨w.heap.size + 1, 2, none⟩ = some (.slice none 0 0) := (blk_cell hb2 2).trans rfl
           have g0 := blk_frozen hb2 0
           have g1 := blk_frozen hb2 1
           have g2 := blk_frozen hb2 2
           obtain ⟨A', c', rfl⟩ := HV.out.slice
           clear hown hgrow H1 H2 HW HE HC))
    all_goals first
      | (exfalso; omega)
      | (skip
         refine wi_post (fun W3 hW3 => ?_)
         have q1 := blk_put (cs' := #[.int .i64 room, .bool d, .slice A' (l.length) c']) hb1 2 (.slice A' (l.length) c') rfl
         have q2 := blk_far hb2 (p := ⟨w.heap.size, 2, none⟩) (by simp) (.slice A' (l.length) c')
         have q3 := blk_put (cs' := #[.int .i64 room, .bool false, .slice none 0 0]) q2 0 (.int .i64 room) rfl
         have q4 := blk_put (cs' := #[.int .i64 room, .bool d, .slice none 0 0]) q3 1 (.bool d) rfl
         have q5 := blk_put (cs' := #[.int .i64 room, .bool d, .slice A' (l.length) c']) q4 2 (.slice A' (l.length) c') rfl
         have hV3 : RefV W3 (.slice A' (l.length) c') (l) := by
           rw [hW3]
           exact (((HV.out.far hb1 (by decide) _ _).far q2 (by decide) _ _).far q3 (by decide) _ _).far q4 (by decide) _ _
         have hB3 : Below w.heap.size w W3 := by
           rw [hW3]
           exact wi_set (wi_set (wi_set (wi_set hbw (by simp) _) (by simp) _) (by simp) _) (by simp) _
         rw [← hW3] at q5
         have x0 : W3.cell? ⟨w.heap.size + 1, 0, none⟩ = some (.int .i64 room) := (blk_cell q5 0).trans rfl
         have x1 : W3.cell? ⟨w.heap.size + 1, 1, none⟩ = some (.bool d) := (blk_cell q5 1).trans rfl
         have x2 : W3.cell? ⟨w.heap.size + 1, 2, none⟩ = some (.slice A' (l.length) c') := (blk_cell q5 2).trans rfl
         exact bodyPost_ret (v := .tuple #[.agg #[.int .i64 room, .bool d, .slice A' l.length c'], .string x, .bool true]) (by simp [results, Try.results13, go_sem, x0, x1, x2]) rfl ⟨_, rfl, hV3, hB3⟩)
end Go.Proofs.Ytehicbehljfkhaa.Wi
