/- Tables of addresses: the sort of rows. -/
import Derived.Test.YtmlenepeocginaaGvFdRows
import Derived.Test.YtmlenepeocginaaGvLaySort
import Derived.Shelf.SlSortCmp.WholeK
namespace Go.Proofs.Ytmlenepeocginaa.Gv
open Go.Shelf Go.RowKit Go.Lib Go.Sort Go.Proofs.YtmlenepeocginaaW.PrintWords Go.Proofs.YtmlenepeocginaaW.PrintLast Go.Proofs.YtmlenepeocginaaW.PrintMore
set_option linter.unusedVariables false
set_option linter.unusedSimpArgs false
def rcf (x y : Rw) : Int := rowCmp x.1 x.2.1 y.1 y.2.1
theorem rcf_lt (x y : Rw) : ltOf rcf x y = decide (x.1 < y.1 ∨ (x.1 = y.1 ∧ x.2.1 < y.2.1)) := by
  unfold ltOf rcf rowCmp orI cmpI
  by_cases h1 : x.1 < y.1
  · simp [h1]
  · by_cases h2 : y.1 < x.1
    · have : ¬ x.1 = y.1 := by omega
      simp [h1, h2, this]
    · have h3 : x.1 = y.1 := by omega
      by_cases h4 : x.2.1 < y.2.1
      · simp [h3, h4]
      · by_cases h5 : y.2.1 < x.2.1 <;> simp [h3, h4, h5]
theorem rcf_swo : SWO (ltOf rcf) where
  irrefl x := by rw [rcf_lt]; simp
  trans x y z h1 h2 := by rw [rcf_lt] at *; simp at *; omega
  ntrans x y z h1 h2 := by rw [rcf_lt] at *; simp at *; omega
theorem rcf_lays (blk off size : Nat) (w : World) : CmpLays Try.prog 23 #[] rowCells 4 rcf blk off size w := by
  intro m os dk hs x y
  refine (cmp_calls x.1 x.2.1 x.2.2.1 x.2.2.2 y.1 y.2.1 y.2.2.1 y.2.2.2 _).mono ?_
  rintro e w' ⟨rfl, q, os', rfl⟩
  exact ⟨rfl, q, os', rfl⟩
theorem sort_block (w : World) (blk n : Nat) (d : Array Rw) (os : Array Obj) (k : Nat) (hk : k < w.heap.size) (hne : k ≠ blk) : (sortWorldK rowCells 4 w blk 0 n d os).heap[k]? = w.heap[k]? := by
  show ((w.heap.modify blk _) ++ os)[k]? = _
  rw [Array.getElem?_append_left (by simpa using hk), Array.getElem?_modify, if_neg (Ne.symm hne)]
theorem sort_below {w0 w : World} (h : Go.RowKit.Below w0.heap.size w0 w) (blk n : Nat) (d : Array Rw) (os : Array Obj) (hb : w0.heap.size ≤ blk) : Go.RowKit.Below w0.heap.size w0 (sortWorldK rowCells 4 w blk 0 n d os) :=
  h.trans ⟨rfl, rfl, rfl, size_sortWorldK_c rowCells 4 w blk 0 n d os, fun k hk => sort_block w blk n d os k (Nat.lt_of_lt_of_le hk h.size) (by omega)⟩
/-- A slice's rows in memory. -/
def RowsAt (w : World) (v : Value) (l : List Rw) : Prop := (l = [] ∧ ∃ A c, v = .slice A 0 c) ∨ ∃ g c, v = .slice (some ⟨g, 0, none⟩) l.length c ∧ g < w.heap.size ∧ HoldsK rowCells 4 w g 0 l.toArray
set_option maxHeartbeats 4000000 in
set_option maxRecDepth 100000 in
theorem sort_calls (g cap : Nat) (l : List Rw) (hl : l.length ≤ 1000000) (w : World) (hH : HoldsK rowCells 4 w g 0 l.toArray) (hg : g < w.heap.size) :
    Calls Try.prog 47 #[.slice (some ⟨g, 0, none⟩) l.length cap, .func (.func 23) #[] #[]] w fun e w' => e = .returned (.tuple #[]) ∧ ∃ l' : List Rw, l'.Perm l ∧ l'.Pairwise (fun a b => ltOf rcf b a = false) ∧ HoldsK rowCells 4 w' g 0 l'.toArray ∧ (∀ w0 : World, Go.RowKit.Below w0.heap.size w0 w → w0.heap.size ≤ g → Go.RowKit.Below w0.heap.size w0 w') ∧ w.heap.size ≤ w'.heap.size := by
  have eg : ∀ args w, (callFunc 23 args).run Try.prog w = .ok (.enter 23 args) w := enters_of Try.func23 (by kernel_rfl) rfl
  have hcon := AnyQ.slices_SortFunc Try.sort47 4 Try.isAgg64 Try.sizeOf64 rowCells (fun _ => rfl) (fun x v hv => by simp [rowCells] at hv; rcases hv with rfl | rfl | rfl | rfl <;> rfl) rcf rcf_swo 23 #[] g 0 cap l.toArray w eg (rcf_lays g 0 _ w) hH hg (by simp; omega)
  change Calls Try.prog 47 _ _ _ at hcon
  rw [List.size_toArray] at hcon
  refine hcon.mono ?_
  rintro e w' ⟨rfl, d', n, os, ⟨h1, _, h2⟩, hs, rfl⟩
  refine ⟨rfl, d'.toList, ?_, ?_, ?_, fun w0 hb hg0 => sort_below hb g n d' os hg0, size_sortWorldK_c rowCells 4 w g 0 n d' os⟩
  · have hs' : d'.size = l.length := by rw [h1]; simp
    have e1 : d'.extract 0 l.length = d' := by rw [← hs']; exact Array.extract_size
    have e2 : l.toArray.extract 0 l.length = l.toArray := by
      have h := Array.extract_size (xs := l.toArray)
      rwa [List.size_toArray] at h
    rw [e1, e2] at h2
    exact h2
  · rw [List.pairwise_iff_getElem]
    intro i j hi hj hij
    have hs' : d'.size = l.length := by rw [h1]; simp
    rw [Array.length_toList] at hi hj
    have h := hs i j (Nat.zero_le _) hij (by omega)
    rw [getElem!_pos d' j hj, getElem!_pos d' i hi] at h
    simpa using h
  · exact holdsK_sortWorldK_c rowCells 4 w g 0 l.toArray d' n os hH hg h1
end Go.Proofs.Ytmlenepeocginaa.Gv
