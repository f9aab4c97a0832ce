/- Counters, walked by hand. -/
import Derived.Test.YtehicbehljfkhaaGwTallyB
namespace Go.Proofs.Ytehicbehljfkhaa.Ta
set_option linter.unusedVariables false
set_option linter.unusedSimpArgs false
open Go.RowKit Go.Proofs.YtehicbehljfkhaaW.PrintWords Go.Proofs.YtehicbehljfkhaaW.PrintLast Go.Proofs.YtehicbehljfkhaaW.PrintMore
theorem info50 : (Try.prog.info? 50).map (fun i => (i.zero, i.size, i.bytes)) = some (some (.int .u64 0), 1, 8) := by kernel_rfl
theorem TIs.below {w w1 : World} {b : Nat} {l : List Int} (h : TIs w b l) (hb : Below w.heap.size w w1) : TIs w1 b l := blk_below h hb
def AllRel (l : List Int) (w wr : World) (v : Value) (k : Nat) : Prop := wr.ownsRow w.heap.size 50 1 v k ((l.take k).map (Value.int .u64)) ∧ Below w.heap.size w wr
def AllPost (l : List Int) (w : World) (e : Ending) (w' : World) : Prop := ∃ v, e = .returned v ∧ Kd.R (Kd.int .u64) 50 w' w.heap.size (fun _ => True) v l ∧ Below w.heap.size w w'
set_option maxHeartbeats 4000000 in
set_option maxRecDepth 100000 in
theorem all_ok (b : Nat) (l : List Int) (w : World) (h : TIs w b l) (hl : l.length = 16) :
    Calls Try.prog 20 #[.pointer (some ⟨b, 0, none⟩)] w (AllPost l w) := by
  have hu71 := Try.underlying71
  have hu69 := Try.underlying69
  obtain ⟨i0, hi, hz0, hz1, hz2⟩ := info_parts info50
  go_enter Try.func20, Try.ntmps20
  go_wp2_with fail
  go_loopw [3, 5] (fun v i wr => ∃ k : Nat, k ≤ 16 ∧ i = .int .i64 k ∧ AllRel l w wr v k) (fun _ i _ => 16 - (intOf i).toNat)
  case atStart => exact ⟨0, by omega, rfl, by rw [List.take_zero]; exact World.ownsRow_nil w _ 50 1, Below.refl _ _⟩
  case round =>
    obtain ⟨k, hk, rfl, ho, hB⟩ := hrel
    by_cases hlt : k < 16
    · have hT : TIs wr b l := h.below hB
      have hc := hT.cell k (by omega)
      have HO := Lib.hid ho
      have HB := Lib.hid hB
      have hs := hB.size
      clear ho hB hT
      go_wp2_with fail
      refine (load_ok b k _ _ hc).mono ?_
      rintro e' w1 ⟨rfl, rfl⟩
      have hcc := cell_one_new wr (.int .u64 l[k]) 50
      have HCC := Lib.hid hcc
      clear hcc
      go_wp2_with (first | (at_builtin; refine wpList_append_own _ rfl _ _ 54 rfl w.heap.size 50 i0 (.int .u64 0) 1 8 Try.underlying54 hi hz0 hz1 hz2 rfl (by decide) _ k _ rfl (World.ownsRow.alloc HO.out _) ⟨wr.heap.size, 0, none⟩ 1 1 [.int .u64 l[k]] rfl rfl HCC.out (by simp [Value.oneCell']) (by unfold maxLen; omega) (by omega) (by simp; omega) ?_; intro v' w2 hown hgrow _))
      have hB2 : Below w.heap.size w w2 := (below_alloc HB.out (.cells #[.int .u64 l[k]] 50)).grown hgrow (by simp; omega) (own_base HO.out)
      go_roundw
      case rel =>
        refine ⟨k + 1, by omega, by go_num, ?_, hB2⟩
        rw [List.take_succ_eq_append_getElem (by omega), List.map_append]
        exact hown
      case measure => simp [intOf]; omega
    · have hk16 : k = 16 := by omega
      subst hk16
      rw [List.take_of_length_le (by omega)] at ho
      rw [← hl] at ho
      have hR := Kd.R_of_own (ok := fun _ => True) (enc := Value.int .u64) (h1 := fun _ => rfl) (xs := l) ho (fun _ _ => trivial)
      clear ho
      have HR := Lib.hid hR
      clear hR
      go_wp2_with fail
      go_ret
      exact ⟨_, rfl, HR.out, hB⟩
end Go.Proofs.Ytehicbehljfkhaa.Ta
