/- Counters, walked by hand. -/
import Derived.Test.YtehicbehljfkhaaGwTally
namespace Go.Proofs.Ytehicbehljfkhaa.Ta
set_option linter.unusedVariables false
set_option linter.unusedSimpArgs false
open Go.RowKit Go.Proofs.YtehicbehljfkhaaW.PrintWords Go.Proofs.YtehicbehljfkhaaW.PrintLast Go.Proofs.YtehicbehljfkhaaW.PrintMore
def sat (x n : Int) : Int := if x + n ≤ 18446744073709551615 then x + n else 18446744073709551615
set_option maxHeartbeats 4000000 in
set_option maxRecDepth 100000 in
theorem add_in (b k : Nat) (n x : Int) (w : World) (hk : k < 16) (hc : w.cell? ⟨b, k, none⟩ = some (.int .u64 x)) (hf : w.frozen? ⟨b, k, none⟩ = false) (hx0 : 0 ≤ x) (hx1 : x ≤ 18446744073709551615) (hn0 : 0 ≤ n) (hn1 : n ≤ 18446744073709551615) :
    Calls Try.prog 19 #[.pointer (some ⟨b, 0, none⟩), .int .i64 (k : Int), .int .u64 n] w fun e w' => e = .returned (.tuple #[]) ∧ w.setCell ⟨b, k, none⟩ (.int .u64 (sat x n)) = w' := by
  have hu71 := Try.underlying71
  have hu69 := Try.underlying69
  have hh : decide ((0 : Int) ≤ (k : Int) ∧ (k : Int) < 16) = true := decide_eq_true (by omega)
  by_cases hs : x + n ≤ 18446744073709551615
  · have q0 : IntKind.u64.wrap (x + n) = x + n := by rw [show IntKind.u64.wrap (x + n) = (x + n) % 18446744073709551616 from rfl]; omega
    have q1 : decide (x + n < x) = false := decide_eq_false (by omega)
    rw [show sat x n = x + n from if_pos hs]
    go_enter Try.func19, Try.ntmps19
    go_wp2_with fail
    refine (has_ok _ _).mono ?_
    rintro e' w1 ⟨rfl, rfl⟩
    rw [hh]
    clear hh
    go_wp2_with fail
    go_loopw [6] (fun _ wr => wr = w) (fun _ _ => 0)
    case atStart => rfl
    case round =>
      obtain rfl := hrel
      go_wp2_with fail
      refine (load_ok b k x _ hc).mono ?_
      rintro e' w1 ⟨rfl, rfl⟩
      go_wp2_with fail
      refine (cas_ok b k x _ _ hc hf).mono ?_
      rintro e' w2 ⟨rfl, rfl⟩
      go_wp2_with fail
      first | (go_end0; exact ⟨rfl, rfl⟩) | exact bodyPost_ret (results_none rfl _ _ _) rfl ⟨rfl, rfl⟩
  · have q0 : IntKind.u64.wrap (x + n) = x + n - 18446744073709551616 := by rw [show IntKind.u64.wrap (x + n) = (x + n) % 18446744073709551616 from rfl]; omega
    have q1 : decide (x + n - 18446744073709551616 < x) = true := decide_eq_true (by omega)
    rw [show sat x n = 18446744073709551615 from if_neg hs]
    clear hs
    go_enter Try.func19, Try.ntmps19
    go_wp2_with fail
    refine (has_ok _ _).mono ?_
    rintro e' w1 ⟨rfl, rfl⟩
    rw [hh]
    clear hh
    go_wp2_with fail
    go_loopw [6] (fun _ wr => wr = w) (fun _ _ => 0)
    case atStart => rfl
    case round =>
      obtain rfl := hrel
      go_wp2_with fail
      refine (load_ok b k x _ hc).mono ?_
      rintro e' w1 ⟨rfl, rfl⟩
      go_wp2_with fail
      refine (cas_ok b k x _ _ hc hf).mono ?_
      rintro e' w2 ⟨rfl, rfl⟩
      go_wp2_with fail
      first | (go_end0; exact ⟨rfl, rfl⟩) | exact bodyPost_ret (results_none rfl _ _ _) rfl ⟨rfl, rfl⟩
set_option maxHeartbeats 4000000 in
set_option maxRecDepth 100000 in
theorem add_out (b : Nat) (k n : Int) (w : World) (hk : ¬ (0 ≤ k ∧ k < 16)) :
    Calls Try.prog 19 #[.pointer (some ⟨b, 0, none⟩), .int .i64 k, .int .u64 n] w fun e w' => e = .returned (.tuple #[]) ∧ w = w' := by
  have hh : decide (0 ≤ k ∧ k < 16) = false := decide_eq_false hk
  go_enter Try.func19, Try.ntmps19
  go_wp2_with fail
  refine (has_ok _ _).mono ?_
  rintro e' w1 ⟨rfl, rfl⟩
  rw [hh]
  clear hh
  go_wp2_with fail
  first | (go_end0; exact ⟨rfl, rfl⟩) | exact bodyPost_ret (results_none rfl _ _ _) rfl ⟨rfl, rfl⟩
/-- What is added. -/
def addL (l : List Int) (k n : Int) : List Int := if 0 ≤ k ∧ k < 16 then l.set k.toNat (sat (l.getD k.toNat 0) n) else l
def Good (l : List Int) : Prop := l.length = 16 ∧ ∀ x ∈ l, 0 ≤ x ∧ x ≤ 18446744073709551615
theorem sat_bd {x n : Int} (h0 : 0 ≤ x) (hn : 0 ≤ n) : 0 ≤ sat x n ∧ sat x n ≤ 18446744073709551615 := by unfold sat; split <;> omega
theorem addL_good {l : List Int} (h : Good l) (k : Int) {n : Int} (hn : 0 ≤ n) : Good (addL l k n) := by
  unfold addL
  by_cases hk : 0 ≤ k ∧ k < 16
  · rw [if_pos hk]
    refine ⟨by rw [List.length_set]; exact h.1, fun x hx => ?_⟩
    rcases List.mem_or_eq_of_mem_set hx with hx | rfl
    · exact h.2 x hx
    · have hlt : k.toNat < l.length := by rw [h.1]; omega
      rw [List.getD_eq_getElem?_getD, List.getElem?_eq_getElem hlt]
      exact sat_bd (h.2 _ (List.getElem_mem hlt)).1 hn
  · rw [if_neg hk]; exact h
theorem TIs.set {w : World} {b : Nat} {l : List Int} (h : TIs w b l) (k : Nat) (hk : k < l.length) (x : Int) : TIs (w.setCell ⟨b, k, none⟩ (.int .u64 x)) b (l.set k x) := by
  unfold TIs at h ⊢
  have := blk_set h k (.int .u64 x)
  rw [this]
  simp [cellsOf, List.map_set]
theorem TIs.frozen {w : World} {b : Nat} {l : List Int} (h : TIs w b l) (k : Nat) : w.frozen? ⟨b, k, none⟩ = false := blk_frozen h k
/-- Add, whatever the counter. -/
theorem add_ok (b : Nat) (l : List Int) (k n : Int) (w : World) (h : TIs w b l) (hl : Good l) (hn0 : 0 ≤ n) (hn1 : n ≤ 18446744073709551615) :
    Calls Try.prog 19 #[.pointer (some ⟨b, 0, none⟩), .int .i64 k, .int .u64 n] w fun e w' => e = .returned (.tuple #[]) ∧ TIs w' b (addL l k n) ∧ w'.heap.size = w.heap.size ∧ (∀ g, g ≠ b → w'.heap[g]? = w.heap[g]?) ∧ (∀ B, B ≤ b → Below B w w') := by
  by_cases hk : 0 ≤ k ∧ k < 16
  · obtain ⟨j, rfl⟩ := Int.eq_ofNat_of_zero_le hk.1
    have hj : j < l.length := by rw [hl.1]; omega
    have hx := hl.2 _ (List.getElem_mem hj)
    refine (add_in b j n l[j] w (by omega) (h.cell j hj) (h.frozen j) hx.1 hx.2 hn0 hn1).mono ?_
    rintro e w' ⟨rfl, rfl⟩
    refine ⟨rfl, ?_, by simp, fun g hg => Below.heap_setCell w ⟨b, j, none⟩ _ g hg, fun B hB => (Below.refl B w).setCell hB _⟩
    unfold addL
    rw [if_pos hk, Int.toNat_natCast, List.getD_eq_getElem?_getD, List.getElem?_eq_getElem hj]
    exact h.set j hj _
  · refine (add_out b k n w hk).mono ?_
    rintro e w' ⟨rfl, rfl⟩
    refine ⟨rfl, ?_, rfl, fun g hg => rfl, fun B hB => Below.refl B w⟩
    unfold addL
    rw [if_neg hk]
    exact h
end Go.Proofs.Ytehicbehljfkhaa.Ta
