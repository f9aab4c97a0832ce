/- A law's arguments opened: a slice of elements of whatever kind, given how one element is opened. -/
import Derived.Test.YtmlenepeocginaaWMore
import Derived.ChangeSame
import Derived.ChangeArms
import Derived.Deep.Slices
import Derived.SizedLaws
namespace Go.Proofs.Ytmlenepeocginaa.Gv
open Go.RowKit Go.Proofs.YtmlenepeocginaaW.PrintWords Go.ChangeShapes Go.WideShapes Go.Deep
set_option linter.unusedVariables false
theorem list_cons {α : Type} {l : List α} {n : Nat} (h : l.length = n + 1) : ∃ a m, l = a :: m ∧ m.length = n := by
  cases l with
  | nil => simp at h
  | cons a m => exact ⟨a, m, rfl, by simpa using h⟩
section
variable {H : Type} {enc : TypeId × Value → H} {P : Program} {w : World} {base : Nat} {spare : Nat → Bool} {held : Bool}

theorem open_slice_kd {α : Type} {d : Kd α} (good : α → Prop) {t e : TypeId} {fuel : Nat} {a : Option Addr} {len cap : Nat} {x : DataW H × List MemPlace} (ht : P.underlying t = some (.slice e)) (hC : P.cellsOf e = d.sz)
    (hop : ∀ {n : Nat} {cs : List Value} {y : DataW H × List MemPlace}, DataW.trod enc P w base spare held n e cs = some y → ∃ s, d.K w s cs ∧ good s)
    (h : DataW.trod enc P w base spare held fuel t [.slice a len cap] = some x) :
    ∃ l : List α, l.length = len ∧ len ≤ cap ∧ len ≤ maxLen ∧ Kd.C d w a len l ∧ (∀ s ∈ l, good s) ∧ ((len = 0) ∨ ∃ es sp, x.1 = .slice es sp ∧ len ≤ es.length) := by
  rcases open_slice ht h with ⟨hcs, _⟩ | ⟨a', len', cap', m, n, D, Pl, hcs, hb, hl, hm, hmm, hx, hi⟩
  · simp only [List.cons.injEq, Value.slice.injEq, and_true] at hcs
    obtain ⟨rfl, rfl, rfl⟩ := hcs
    exact ⟨[], rfl, Nat.le_refl _, Nat.zero_le _, ⟨rfl, Nat.zero_le _, fun h => by omega⟩, fun s hs => by simp at hs, .inl rfl⟩
  · simp only [List.cons.injEq, Value.slice.injEq, and_true] at hcs
    obtain ⟨rfl, rfl, rfl⟩ := hcs
    by_cases hz : len = 0
    · subst hz
      exact ⟨[], rfl, Nat.zero_le _, Nat.zero_le _, ⟨rfl, Nat.zero_le _, fun h => by omega⟩, fun s hs => by simp at hs, .inl rfl⟩
    have hlm : len ≤ m := by rw [hmm]; split <;> omega
    have hel : ∀ i : Nat, i < len → ∃ s : α, good s ∧ ∃ c, c.length = d.sz ∧ d.K w s c ∧ ∀ j u, c[j]? = some u → w.cell? (a'.add (i * d.sz + j)) = some u := by
      intro i hi'
      obtain ⟨cs', hc, htr⟩ := hi i (by omega)
      obtain ⟨s, hK, hg⟩ := hop htr
      rw [hC] at hc
      obtain ⟨_, hcl, hat⟩ := World.cells?_some hc
      refine ⟨s, hg, cs', hcl, hK, fun j u hu => ?_⟩
      have hj : j < d.sz := by rw [← hcl]; exact (List.getElem?_eq_some_iff.1 hu).1
      rw [← Go.Deep.add_add, hat j hj, hu]
    have hch : ∃ f : Nat → α, ∀ i, i < len → good (f i) ∧ ∃ c, c.length = d.sz ∧ d.K w (f i) c ∧ ∀ j u, c[j]? = some u → w.cell? (a'.add (i * d.sz + j)) = some u := by
      obtain ⟨s0, _⟩ := hel 0 (by omega)
      refine ⟨fun i => if hi : i < len then Classical.choose (hel i hi) else s0, fun i hi => ?_⟩
      simp only [dif_pos hi]
      exact Classical.choose_spec (hel i hi)
    obtain ⟨f, hf⟩ := hch
    refine ⟨(List.range len).map f, by simp, hl, by omega, ⟨by simp, by unfold maxLen at hm; omega, fun _ => ⟨a', rfl, fun j p hp => ?_⟩⟩, ?_, .inr ⟨_, _, by rw [hx], by simp⟩⟩
    · simp only [List.getElem?_map, Option.map_eq_some_iff] at hp
      obtain ⟨i, hi', rfl⟩ := hp
      have hj : j < len := by
        have := (List.getElem?_eq_some_iff.1 hi').1
        simpa using this
      rw [List.getElem?_range hj] at hi'
      obtain rfl := Option.some.inj hi'
      exact (hf j hj).2
    · intro s hs
      simp only [List.mem_map, List.mem_range] at hs
      obtain ⟨i, hi', rfl⟩ := hs
      exact (hf i hi').1

/-- One element: a whole number, a bool, a string. -/
theorem open_el_int {k : IntKind} {e : TypeId} (he : P.underlying e = some (.int k)) {n : Nat} {cs : List Value} {y : DataW H × List MemPlace} (h : DataW.trod enc P w base spare held n e cs = some y) : ∃ s : Int, (Kd.int k).K w s cs ∧ (Lit.int k s).wf = true := by
  obtain ⟨s, rfl, _, hw⟩ := DataW.trod_int he h
  exact ⟨s, rfl, hw⟩
theorem open_el_bool {e : TypeId} (he : P.underlying e = some .bool) {n : Nat} {cs : List Value} {y : DataW H × List MemPlace} (h : DataW.trod enc P w base spare held n e cs = some y) : ∃ s : Bool, Kd.bool.K w s cs ∧ True := by
  obtain ⟨s, rfl, _⟩ := DataW.trod_bool he h
  exact ⟨s, rfl, trivial⟩
theorem open_el_str {e : TypeId} (he : P.underlying e = some .string) {n : Nat} {cs : List Value} {y : DataW H × List MemPlace} (h : DataW.trod enc P w base spare held n e cs = some y) : ∃ s : ByteArray, Kd.string.K w s cs ∧ s.size ≤ 9223372036854775807 := by
  obtain ⟨s, rfl, _, hs⟩ := DataW.trod_string he h
  exact ⟨s, rfl, hs⟩

/-- A slice is no longer than its weight allows. -/
theorem sized_slice_kd {t e : TypeId} {len : Nat} {d : DataW H} {ts : List TypeId} {ds : List (DataW H)} {j : Nat}
    (hsz : (DataW.weightsEach P ts ds).all (· ≤ reachBytes) = true) (ht : ts[j]? = some t) (hd : ds[j]? = some d) (hu : P.underlying t = some (.slice e)) {B : Nat} (hB : P.bytesOf e = B)
    (h : (len = 0) ∨ ∃ es sp, d = .slice es sp ∧ len ≤ es.length) : len * B ≤ 140737488351232 := by
  rcases h with rfl | ⟨es, sp, rfl, hl⟩
  · simp
  · have z := sized_slice hsz ht hd hu
    rw [hB] at z
    have : len * B ≤ (es.length + sp.length) * B := Nat.mul_le_mul_right _ (by omega)
    exact Nat.le_trans this z
end
end Go.Proofs.Ytmlenepeocginaa.Gv
