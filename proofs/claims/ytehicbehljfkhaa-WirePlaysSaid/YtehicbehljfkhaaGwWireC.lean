/- Wires, walked by hand: the calls that are refused, Set, and the document's. -/
import Derived.Test.YtehicbehljfkhaaGwB
namespace Go.Proofs.Ytehicbehljfkhaa.Wi
set_option linter.unusedVariables false
set_option linter.unusedSimpArgs false
open Go.RowKit Go.Proofs.YtehicbehljfkhaaW.PrintWords Go.Proofs.YtehicbehljfkhaaW.PrintLast Go.Proofs.YtehicbehljfkhaaW.PrintMore
/-- A store into another type's box leaves it. -/
theorem WireV.far {w : World} {v : Value} {l : List ByteArray} (h : WireV w v l) {g : Nat} {t : TypeId} {cs : Array Value} (hg : w.heap[g]? = some (.cells cs t (0, 0))) (ht : 9 ≠ t) (j : Nat) (u : Value) : WireV (w.setCell ⟨g, j, none⟩ u) v l := by
  obtain ⟨A, c, e, hc, hC, hT⟩ := h
  have hne : ∀ ad, A = some ad → 0 < l.length → ad.block ≠ g := by
    intro ad ha hl
    obtain ⟨cells, h⟩ := hT ad ha hl
    exact blk_ne h hg ht
  refine ⟨A, c, e, hc, Kd.C_keep (enc := Value.string) (h1 := fun _ => rfl) ByteArray.empty hC ((KeepBut.refl w g none).set_ j u) hne, fun ad ha hl => ?_⟩
  obtain ⟨cells, h⟩ := hT ad ha hl
  exact ⟨cells, blk_far h (by exact hne ad ha hl) u⟩
/-- What a call returns that leaves a wire as it was. -/
def SamePost (x : Value) (w : World) (e : Ending) (w' : World) : Prop := e = .returned x ∧ Below w.heap.size w w'
set_option maxHeartbeats 4000000 in
set_option maxRecDepth 100000 in
theorem new_no (room : Int) (w : World) (h : room < 1 ∨ 256 < room) :
    Calls Try.prog 7 #[.int .i64 room] w (SamePost (.tuple #[.agg #[.int .i64 0, .bool false, .slice none 0 0], .int .i64 4]) w) := by
  have hu24 := Try.underlying24
  by_cases h1 : room < 1
  · have q1 : decide (room < 1) = true := decide_eq_true h1
    go_enter Try.func7, Try.ntmps7
    go_wp2
    exact bodyPost_ret (v := .tuple #[.agg #[.int .i64 0, .bool false, .slice none 0 0], .int .i64 4]) (by simp [results, Try.results7, go_sem]) rfl ⟨rfl, by repeat (with_reducible first | exact Below.refl _ _ | apply below_alloc | refine wi_set ?_ (by simp <;> omega) _)⟩
  · have q1 : decide (room < 1) = false := decide_eq_false h1
    have q2 : decide (room > 256) = true := decide_eq_true (by omega)
    have q3 : decide (256 < room) = true := decide_eq_true (by omega)
    go_enter Try.func7, Try.ntmps7
    go_wp2
    exact bodyPost_ret (v := .tuple #[.agg #[.int .i64 0, .bool false, .slice none 0 0], .int .i64 4]) (by simp [results, Try.results7, go_sem]) rfl ⟨rfl, by repeat (with_reducible first | exact Below.refl _ _ | apply below_alloc | refine wi_set ?_ (by simp <;> omega) _)⟩
set_option maxHeartbeats 4000000 in
set_option maxRecDepth 100000 in
theorem set_ok (room : Int) (d up : Bool) (v : Value) (l : List ByteArray) (w : World) (hv : WireV w v l) :
    Calls Try.prog 14 #[.agg #[.int .i64 room, .bool d, v], .bool up] w (SamePost (.agg #[.int .i64 room, .bool (!up), if up then v else .slice none 0 0]) w) := by
  obtain ⟨A, c, rfl, hc, hC, hT⟩ := hv
  clear hC hT
  have hu := Try.underlying24
  cases up
  · go_enter Try.func14, Try.ntmps14
    go_wp2
    exact bodyPost_ret (v := .agg #[.int .i64 room, .bool true, .slice none 0 0]) (by simp [results, Try.results14, go_sem]) rfl ⟨rfl, by repeat (with_reducible first | exact Below.refl _ _ | apply below_alloc | refine wi_set ?_ (by simp <;> omega) _)⟩
  · go_enter Try.func14, Try.ntmps14
    go_wp2
    exact bodyPost_ret (v := .agg #[.int .i64 room, .bool false, .slice A l.length c]) (by simp [results, Try.results14, go_sem]) rfl ⟨rfl, by repeat (with_reducible first | exact Below.refl _ _ | apply below_alloc | refine wi_set ?_ (by simp <;> omega) _)⟩
set_option maxHeartbeats 4000000 in
set_option maxRecDepth 100000 in
theorem rset_ok (room : Int) (d up : Bool) (v : Value) (l : List ByteArray) (w : World) (hv : WireV w v l) :
    Calls Try.prog 15 #[.agg #[.int .i64 room, .bool d, v], .bool up] w (SamePost (.agg #[.int .i64 room, .bool (!up), if up then v else .slice none 0 0]) w) := by
  obtain ⟨A, c, rfl, hc, hC, hT⟩ := hv
  clear hC hT
  have hu := Try.underlying37
  cases up
  · go_enter Try.func15, Try.ntmps15
    go_wp2
    exact bodyPost_ret (v := .agg #[.int .i64 room, .bool true, .slice none 0 0]) (by simp [results, Try.results15, go_sem]) rfl ⟨rfl, by repeat (with_reducible first | exact Below.refl _ _ | apply below_alloc | refine wi_set ?_ (by simp <;> omega) _)⟩
  · go_enter Try.func15, Try.ntmps15
    go_wp2
    exact bodyPost_ret (v := .agg #[.int .i64 room, .bool false, .slice A l.length c]) (by simp [results, Try.results15, go_sem]) rfl ⟨rfl, by repeat (with_reducible first | exact Below.refl _ _ | apply below_alloc | refine wi_set ?_ (by simp <;> omega) _)⟩
set_option maxHeartbeats 4000000 in
set_option maxRecDepth 100000 in
theorem push_no (room : Int) (d : Bool) (v : Value) (l : List ByteArray) (s : ByteArray) (w : World) (hv : WireV w v l) (hd : d = true ∨ room ≤ (l.length : Int)) :
    Calls Try.prog 9 #[.agg #[.int .i64 room, .bool d, v], .string s] w (SamePost (.tuple #[.agg #[.int .i64 room, .bool d, v], .bool false]) w) := by
  obtain ⟨A, c, rfl, hc, hC, hT⟩ := hv
  clear hC hT
  have hu := Try.underlying24
  cases d
  · have hn : decide ((l.length : Int) ≥ room) = true := decide_eq_true (by simpa using hd)
    have hn2 : decide (room ≤ (l.length : Int)) = true := decide_eq_true (by simpa using hd)
    go_enter Try.func9, Try.ntmps9
    go_wp2
    exact bodyPost_ret (v := .tuple #[.agg #[.int .i64 room, .bool false, .slice A l.length c], .bool false]) (by simp [results, Try.results9, go_sem]) rfl ⟨rfl, by repeat (with_reducible first | exact Below.refl _ _ | apply below_alloc | refine wi_set ?_ (by simp <;> omega) _)⟩
  · go_enter Try.func9, Try.ntmps9
    go_wp2
    exact bodyPost_ret (v := .tuple #[.agg #[.int .i64 room, .bool true, .slice A l.length c], .bool false]) (by simp [results, Try.results9, go_sem]) rfl ⟨rfl, by repeat (with_reducible first | exact Below.refl _ _ | apply below_alloc | refine wi_set ?_ (by simp <;> omega) _)⟩
set_option maxHeartbeats 4000000 in
set_option maxRecDepth 100000 in
theorem rpush_no (room : Int) (d : Bool) (v : Value) (l : List ByteArray) (s : ByteArray) (w : World) (hv : WireV w v l) (hd : d = true ∨ room ≤ (l.length : Int)) :
    Calls Try.prog 12 #[.agg #[.int .i64 room, .bool d, v], .string s] w (SamePost (.tuple #[.agg #[.int .i64 room, .bool d, v], .bool false]) w) := by
  obtain ⟨A, c, rfl, hc, hC, hT⟩ := hv
  clear hC hT
  have hu := Try.underlying37
  cases d
  · have hn : decide ((l.length : Int) ≥ room) = true := decide_eq_true (by simpa using hd)
    have hn2 : decide (room ≤ (l.length : Int)) = true := decide_eq_true (by simpa using hd)
    go_enter Try.func12, Try.ntmps12
    go_wp2
    exact bodyPost_ret (v := .tuple #[.agg #[.int .i64 room, .bool false, .slice A l.length c], .bool false]) (by simp [results, Try.results12, go_sem]) rfl ⟨rfl, by repeat (with_reducible first | exact Below.refl _ _ | apply below_alloc | refine wi_set ?_ (by simp <;> omega) _)⟩
  · go_enter Try.func12, Try.ntmps12
    go_wp2
    exact bodyPost_ret (v := .tuple #[.agg #[.int .i64 room, .bool true, .slice A l.length c], .bool false]) (by simp [results, Try.results12, go_sem]) rfl ⟨rfl, by repeat (with_reducible first | exact Below.refl _ _ | apply below_alloc | refine wi_set ?_ (by simp <;> omega) _)⟩
set_option maxHeartbeats 4000000 in
set_option maxRecDepth 100000 in
theorem pop_nil (room : Int) (d : Bool) (v : Value) (w : World) (hv : WireV w v []) :
    Calls Try.prog 11 #[.agg #[.int .i64 room, .bool d, v]] w (SamePost (.tuple #[.agg #[.int .i64 room, .bool d, v], .string ByteArray.empty, .bool false]) w) := by
  obtain ⟨A, c, rfl, hc, hC, hT⟩ := hv
  clear hC hT
  have hu := Try.underlying24
  simp only [List.length_nil] at hc ⊢
  go_enter Try.func11, Try.ntmps11
  go_wp2
  exact bodyPost_ret (v := .tuple #[.agg #[.int .i64 room, .bool d, .slice A 0 c], .string ByteArray.empty, .bool false]) (by simp [results, Try.results11, go_sem]; rfl) rfl ⟨rfl, by repeat (with_reducible first | exact Below.refl _ _ | apply below_alloc | refine wi_set ?_ (by simp <;> omega) _)⟩
set_option maxHeartbeats 4000000 in
set_option maxRecDepth 100000 in
theorem rpop_nil (room : Int) (d : Bool) (v : Value) (w : World) (hv : WireV w v []) :
    Calls Try.prog 13 #[.agg #[.int .i64 room, .bool d, v]] w (SamePost (.tuple #[.agg #[.int .i64 room, .bool d, v], .string ByteArray.empty, .bool false]) w) := by
  obtain ⟨A, c, rfl, hc, hC, hT⟩ := hv
  clear hC hT
  have hu := Try.underlying37
  simp only [List.length_nil] at hc ⊢
  go_enter Try.func13, Try.ntmps13
  go_wp2
  exact bodyPost_ret (v := .tuple #[.agg #[.int .i64 room, .bool d, .slice A 0 c], .string ByteArray.empty, .bool false]) (by simp [results, Try.results13, go_sem]; rfl) rfl ⟨rfl, by repeat (with_reducible first | exact Below.refl _ _ | apply below_alloc | refine wi_set ?_ (by simp <;> omega) _)⟩
end Go.Proofs.Ytehicbehljfkhaa.Wi
