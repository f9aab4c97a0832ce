/- Wires, walked by hand. -/
import Derived.Test.YtehicbehljfkhaaWMore
import Derived.Test.YtehicbehljfkhaaProg
import Derived.WalkKit
import Derived.ArgAppend
import Derived.Maps.AppendAt
import Derived.Deep.LoopGhost
import Derived.Lib.Hide
import Derived.WideLaws
namespace Go.Proofs.Ytehicbehljfkhaa.Wi
set_option linter.unusedVariables false
set_option linter.unusedSimpArgs false
open Go.RowKit Go.Proofs.YtehicbehljfkhaaW.PrintWords Go.Proofs.YtehicbehljfkhaaW.PrintLast Go.Proofs.YtehicbehljfkhaaW.PrintMore
/-- A wire's row: what it reads as; it lies among the strings. -/
def WireV (w : World) (v : Value) (l : List ByteArray) : Prop := ∃ A c, v = .slice A l.length c ∧ l.length ≤ c ∧ Kd.C Kd.string w A l.length l ∧ (∀ ad, A = some ad → 0 < l.length → ∃ cells, w.heap[ad.block]? = some (.cells cells 9 (0, 0)))
theorem WireV.below {w w1 : World} {v : Value} {l : List ByteArray} (h : WireV w v l) (hb : Below w.heap.size w w1) : WireV w1 v l := by
  obtain ⟨A, c, e, hc, hC, hT⟩ := h
  refine ⟨A, c, e, hc, Kd.C_below hC hb, fun ad ha hl => ?_⟩
  obtain ⟨cells, h⟩ := hT ad ha hl
  exact ⟨cells, blk_below h hb⟩
/-- A store into a box leaves it. -/
theorem WireV.set {w : World} {v : Value} {l : List ByteArray} (h : WireV w v l) {g : Nat} {cs : Array Value} (hg : w.heap[g]? = some (.cells cs 24 (0, 0))) (j : Nat) (u : Value) : WireV (w.setCell ⟨g, j, none⟩ u) v l := by
  obtain ⟨A, c, e, hc, hC, hT⟩ := h
  have hne : ∀ ad, A = some ad → 0 < l.length → ad.block ≠ g := by
    intro ad ha hl
    obtain ⟨cells, h⟩ := hT ad ha hl
    exact blk_ne h hg (by decide)
  refine ⟨A, c, e, hc, Kd.C_keep (enc := Value.string) (h1 := fun _ => rfl) ByteArray.empty hC ((KeepBut.refl w g none).set_ j u) hne, fun ad ha hl => ?_⟩
  obtain ⟨cells, h⟩ := hT ad ha hl
  exact ⟨cells, blk_far h (by exact hne ad ha hl) u⟩
theorem WireV.nil (w : World) : WireV w (.slice none 0 0) [] := by
  obtain ⟨A, c, e, hc, hC⟩ := Kd.R_reads (Kd.R_nil Kd.string 9 w 0 (fun _ => True))
  exact ⟨A, c, e, hc, hC, fun ad _ hl => absurd hl (by simp)⟩
theorem info9 : (Try.prog.info? 9).map (fun i => (i.zero, i.size, i.bytes)) = some (some (.string .empty), 1, 16) := by kernel_rfl
theorem wire_olds {w W : World} {A : Option Addr} {l : List ByteArray} (hC : Kd.C Kd.string w A l.length l) (hb : Below w.heap.size w W) : ∀ b, A = some b → ∀ (j : Nat) u, (l.map Value.string)[j]? = some u → W.cell? (b.add j) = some u := by
  intro b hA j u hj
  rw [List.getElem?_map] at hj
  cases hx : l[j]? with
  | none => rw [hx] at hj; cases hj
  | some x =>
    rw [hx] at hj
    obtain rfl := Option.some.inj hj
    have hlt := (List.getElem?_eq_some_iff.1 hx).1
    obtain ⟨ad, e, hcell⟩ := Kd.at_string (Kd.C_below hC hb) (j : Int) (by omega) (by omega)
    rw [e] at hA
    obtain rfl := Option.some.inj hA
    rw [Int.toNat_natCast] at hcell
    rw [hcell]
    simp [rdOf, List.getD_eq_getElem?_getD, hx]
theorem wire_none {w : World} {A : Option Addr} {l : List ByteArray} (hC : Kd.C Kd.string w A l.length l) (h : A = none) : l.length = 0 ∧ l.length = 0 := by
  by_cases hz : l.length = 0
  · exact ⟨hz, hz⟩
  · obtain ⟨ad, e, _⟩ := Kd.at_string hC 0 (by decide) (by omega)
    rw [e] at h; cases h
theorem wire_grown {w W w1 : World} {v : Value} {l : List ByteArray} (hB : Below w.heap.size w W) (hown : w1.ownsRow W.heap.size 9 1 v l.length (l.map Value.string)) (hg : W.grownBy w1 none) : WireV w1 v l ∧ Below w.heap.size w w1 := by
  have hb1 : Below w.heap.size w w1 := hB.grown hg hB.size (fun k e => by cases e)
  have hR : Kd.R Kd.string 9 w1 W.heap.size (fun _ => True) v l := Kd.R_of_own (enc := Value.string) (h1 := fun _ => rfl) (by simpa [encs] using hown) (fun _ _ => trivial)
  have hty := Kd.own_of_R hR
  obtain ⟨A, c, rfl⟩ := Kd.R_slice hR
  obtain ⟨_, hc, hC⟩ := Kd.R_reads' hR
  exact ⟨⟨A, c, rfl, hc, hC, fun ad ha _ => own_typed hty ad.block (by simp [Value.ownBlock, ha])⟩, hb1⟩
theorem wi_set {w W : World} {p : Addr} (h : Below w.heap.size w W) (hp : w.heap.size ≤ p.block) (v : Value) : Below w.heap.size w (W.setCell p v) := h.setCell hp v
theorem wi_post {P : Program} {fn : Func} {R : Ending → World → Prop} {x : Exit} {a : Act} {W : World} (h : ∀ W', W' = W → bodyPost P fn R x a W') : bodyPost P fn R x a W := h W rfl
def PushPost (room : Int) (l : List ByteArray) (s : ByteArray) (w : World) (e : Ending) (w' : World) : Prop := ∃ v', e = .returned (.tuple #[.agg #[.int .i64 room, .bool false, v'], .bool true]) ∧ WireV w' v' (l ++ [s]) ∧ Below w.heap.size w w'
set_option maxHeartbeats 4000000 in
set_option maxRecDepth 100000 in
theorem push_ok (room : Int) (v : Value) (l : List ByteArray) (s : ByteArray) (w : World) (hv : WireV w v l) (hl : (l.length : Int) < room) (hr : room ≤ 256) :
    Calls Try.prog 9 #[.agg #[.int .i64 room, .bool false, v], .string s] w (PushPost room l s w) := by
  obtain ⟨A, c, rfl, hc, hC, hT⟩ := hv
  clear hT
  have HC := Lib.hid hC
  clear hC
  have hu24 := Try.underlying24
  have hn : decide ((l.length : Int) ≥ room) = false := decide_eq_false (by omega)
  have hn2 : decide (room ≤ (l.length : Int)) = false := decide_eq_false (by omega)
  obtain ⟨i0, hi, hz0, hz1, hz2⟩ := info_parts info9
  go_enter Try.func9, Try.ntmps9
  have hBw : Below w.heap.size w (((w.alloc (.cells #[.int .i64 room, .bool false, .slice A l.length c] 24)).alloc (.cells #[.int .i64 0, .bool false, .slice none 0 0] 24)).alloc (.cells #[.string s] 9)) := below_alloc (below_alloc (below_alloc (Below.refl _ w) _) _) _
  have hold := wire_olds HC.out hBw
  have hnone := wire_none HC.out
  have hn1 := blk_alloc (blk_alloc (blk_new w (.cells #[.int .i64 room, .bool false, .slice A l.length c] 24)) (.cells #[.int .i64 0, .bool false, .slice none 0 0] 24)) (.cells #[.string s] 9)
  have hn2 := blk_alloc (blk_new (w.alloc (.cells #[.int .i64 room, .bool false, .slice A l.length c] 24)) (.cells #[.int .i64 0, .bool false, .slice none 0 0] 24)) (.cells #[.string s] 9)
  have hcc := cell_one_new ((w.alloc (.cells #[.int .i64 room, .bool false, .slice A l.length c] 24)).alloc (.cells #[.int .i64 0, .bool false, .slice none 0 0] 24)) (.string s) 9
  simp only [World.size_alloc] at hn2 hcc
  have HO := Lib.hid hold
  have HN := Lib.hid hnone
  have HW := Lib.hid hBw
  have H1 := Lib.hid hn1
  have H2 := Lib.hid hn2
  have H3 := Lib.hid hcc
  clear hold hnone hBw hn1 hn2 hcc
  go_wp2_with (first | (at_builtin; refine wpList_append_grows _ rfl _ _ 22 rfl 9 i0 (.string .empty) 1 16 Try.underlying22 hi hz0 hz1 hz2 rfl (by decide) A l.length l.length (l.map Value.string) rfl HN.out (by simp) HO.out ⟨w.heap.size + 1 + 1, 0, none⟩ 1 1 [.string s] rfl rfl H3.out (by simp [Value.oneCell']) (by omega) (by unfold maxLen; omega) (by omega) ?_; intro v' w1 hown hgrow; have hwb := wire_grown (l := l ++ [s]) HW.out (by simpa using hown) hgrow; have hb1 := blk_grown H1.out hgrow (by simp); have hb2 := blk_grown H2.out hgrow (by simp); clear hown hgrow; obtain ⟨hwv, hbel⟩ := hwb; obtain ⟨A', c', rfl⟩ : ∃ A' c', v' = .slice A' (l.length + 1) c' := (by obtain ⟨A', c', e, _⟩ := hwv; exact ⟨A', c', by simpa using e⟩); have HV := Lib.hid hwv; clear hwv; have z0 : w1.cell? ⟨w.heap.size, 0, none⟩ = some (.int .i64 room) := (blk_cell hb1 0).trans rfl; have z1 : w1.cell? ⟨w.heap.size, 1, none⟩ = some (.bool false) := (blk_cell hb1 1).trans rfl; have z2 : w1.cell? ⟨w.heap.size, 2, none⟩ = some (.slice A l.length c) := (blk_cell hb1 2).trans rfl; have f2 := blk_frozen hb1 2; have y0 : w1.cell? ⟨w.heap.size + 1, 0, none⟩ = some (.int .i64 0) := (blk_cell hb2 0).trans rfl; have y1 : w1.cell? ⟨w.heap.size + 1, 1, none⟩ = some (.bool false) := (blk_cell hb2 1).trans rfl; have y2 : w1.cell? ⟨w.heap.size + 1, 2, none⟩ = some (.slice none 0 0) := (blk_cell hb2 2).trans rfl; have g0 := blk_frozen hb2 0; have g1 := blk_frozen hb2 1; have g2 := blk_frozen hb2 2))
  refine wi_post (fun W3 hW3 => ?_)
  have q1 := blk_put (cs' := #[.int .i64 room, .bool false, .slice A' (l.length + 1) c']) hb1 2 (.slice A' (l.length + 1) c') rfl
  have q2 := blk_far hb2 (p := ⟨w.heap.size, 2, none⟩) (by simp) (.slice A' (l.length + 1) c')
  have q3 := blk_put (cs' := #[.int .i64 room, .bool false, .slice none 0 0]) q2 0 (.int .i64 room) rfl
  have q4 := blk_put (cs' := #[.int .i64 room, .bool false, .slice none 0 0]) q3 1 (.bool false) rfl
  have q5 := blk_put (cs' := #[.int .i64 room, .bool false, .slice A' (l.length + 1) c']) q4 2 (.slice A' (l.length + 1) c') rfl
  have hV3 : WireV W3 (.slice A' (l.length + 1) c') (l ++ [s]) := by
    rw [hW3]
    exact (((HV.out.set hb1 _ _).set q2 _ _).set q3 _ _).set q4 _ _
  have hB3 : Below w.heap.size w W3 := by
    rw [hW3]
    exact wi_set (wi_set (wi_set (wi_set hbel (by simp) _) (by simp) _) (by simp) _) (by simp) _
  rw [← hW3] at q5
  have x0 : W3.cell? ⟨w.heap.size + 1, 0, none⟩ = some (.int .i64 room) := (blk_cell q5 0).trans rfl
  have x1 : W3.cell? ⟨w.heap.size + 1, 1, none⟩ = some (.bool false) := (blk_cell q5 1).trans rfl
  have x2 : W3.cell? ⟨w.heap.size + 1, 2, none⟩ = some (.slice A' (l.length + 1) c') := (blk_cell q5 2).trans rfl
  exact bodyPost_ret (v := .tuple #[.agg #[.int .i64 room, .bool false, .slice A' (l.length + 1) c'], .bool true]) (by simp [results, Try.results9, go_sem, x0, x1, x2]) rfl ⟨_, rfl, hV3, hB3⟩
end Go.Proofs.Ytehicbehljfkhaa.Wi
