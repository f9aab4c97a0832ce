/- Wires, walked by hand: the document's refusals, for its own rows. -/
import Derived.Test.YtehicbehljfkhaaGwWireE
namespace Go.Proofs.Ytehicbehljfkhaa.Wi
set_option linter.unusedVariables false
set_option linter.unusedSimpArgs false
open Go.RowKit Go.Proofs.YtehicbehljfkhaaW.PrintWords Go.Proofs.YtehicbehljfkhaaW.PrintLast Go.Proofs.YtehicbehljfkhaaW.PrintMore
set_option maxHeartbeats 4000000 in
set_option maxRecDepth 100000 in
theorem rset_okR (room : Int) (d up : Bool) (v : Value) (l : List ByteArray) (w : World) (hv : RefV w v l) :
    Calls Try.prog 15 #[.agg #[.int .i64 room, .bool d, v], .bool up] w (SamePost (.agg #[.int .i64 room, .bool (!up), if up then v else .slice none 0 0]) w) := by
  have hc := 0
  obtain ⟨A, c, rfl⟩ := hv.slice
  clear hv
  have hu := Try.underlying37
  cases up
  · go_enter Try.func15, Try.ntmps15
    go_wp2
    exact bodyPost_ret (v := .agg #[.int .i64 room, .bool true, .slice none 0 0]) (by simp [results, Try.results15, go_sem]) rfl ⟨rfl, by repeat (with_reducible first | exact Below.refl _ _ | apply below_alloc | refine wi_set ?_ (by simp <;> omega) _)⟩
  · go_enter Try.func15, Try.ntmps15
    go_wp2
    exact bodyPost_ret (v := .agg #[.int .i64 room, .bool false, .slice A l.length c]) (by simp [results, Try.results15, go_sem]) rfl ⟨rfl, by repeat (with_reducible first | exact Below.refl _ _ | apply below_alloc | refine wi_set ?_ (by simp <;> omega) _)⟩
set_option maxHeartbeats 4000000 in
set_option maxRecDepth 100000 in
theorem rpush_noR (room : Int) (d : Bool) (v : Value) (l : List ByteArray) (s : ByteArray) (w : World) (hv : RefV w v l) (hd : d = true ∨ room ≤ (l.length : Int)) :
    Calls Try.prog 12 #[.agg #[.int .i64 room, .bool d, v], .string s] w (SamePost (.tuple #[.agg #[.int .i64 room, .bool d, v], .bool false]) w) := by
  have hc := 0
  obtain ⟨A, c, rfl⟩ := hv.slice
  clear hv
  have hu := Try.underlying37
  cases d
  · have hn : decide ((l.length : Int) ≥ room) = true := decide_eq_true (by simpa using hd)
    have hn2 : decide (room ≤ (l.length : Int)) = true := decide_eq_true (by simpa using hd)
    go_enter Try.func12, Try.ntmps12
    go_wp2
    exact bodyPost_ret (v := .tuple #[.agg #[.int .i64 room, .bool false, .slice A l.length c], .bool false]) (by simp [results, Try.results12, go_sem]) rfl ⟨rfl, by repeat (with_reducible first | exact Below.refl _ _ | apply below_alloc | refine wi_set ?_ (by simp <;> omega) _)⟩
  · go_enter Try.func12, Try.ntmps12
    go_wp2
    exact bodyPost_ret (v := .tuple #[.agg #[.int .i64 room, .bool true, .slice A l.length c], .bool false]) (by simp [results, Try.results12, go_sem]) rfl ⟨rfl, by repeat (with_reducible first | exact Below.refl _ _ | apply below_alloc | refine wi_set ?_ (by simp <;> omega) _)⟩
set_option maxHeartbeats 4000000 in
set_option maxRecDepth 100000 in
theorem rpop_nilR (room : Int) (d : Bool) (v : Value) (w : World) (hv : RefV w v []) :
    Calls Try.prog 13 #[.agg #[.int .i64 room, .bool d, v]] w (SamePost (.tuple #[.agg #[.int .i64 room, .bool d, v], .string ByteArray.empty, .bool false]) w) := by
  have hc := 0
  obtain ⟨A, c, rfl⟩ := hv.slice
  clear hv
  have hu := Try.underlying37
  simp only [List.length_nil] at ⊢
  go_enter Try.func13, Try.ntmps13
  go_wp2
  exact bodyPost_ret (v := .tuple #[.agg #[.int .i64 room, .bool d, .slice A 0 c], .string ByteArray.empty, .bool false]) (by simp [results, Try.results13, go_sem]; rfl) rfl ⟨rfl, by repeat (with_reducible first | exact Below.refl _ _ | apply below_alloc | refine wi_set ?_ (by simp <;> omega) _)⟩
end Go.Proofs.Ytehicbehljfkhaa.Wi
