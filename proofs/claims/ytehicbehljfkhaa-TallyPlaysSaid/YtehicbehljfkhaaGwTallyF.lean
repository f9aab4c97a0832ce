/- Counters: Reset, and the comparison with the document's, walked by hand. -/
import Derived.Test.YtehicbehljfkhaaGwTallyE
import Derived.Deep.QuietTactic
import Derived.BigQuiet
namespace Go.Proofs.Ytehicbehljfkhaa.Ta
set_option linter.unusedVariables false
set_option linter.unusedSimpArgs false
open Go.RowKit Go.Proofs.YtehicbehljfkhaaW.PrintWords Go.Proofs.YtehicbehljfkhaaW.PrintLast Go.Proofs.YtehicbehljfkhaaW.PrintMore
theorem run_call_swap {P : Program} {f : FuncId} {fn : Func} (hf : P.funcs[f]? = some fn) (hname : (fn.name == "runtime.NumGoroutine") = false) (hb : fn.body.isNone = true) (hn : Extern.findNext fn = none) (k : IntKind)
    (he : Extern.find fn = some (Extern.Atomic.swapT (.int k))) {a : Addr} {x y : Int} {w : World} (hc : w.cell? a = some (.int k x)) (hz : w.frozen? a = false) :
    (callFunc f #[.pointer (some a), .int k y]).run P w = .ok (.value (.int k x)) (w.setCell a (.int k y)) := by
  rw [run_callFunc_extern hf hname hb hn he]
  change (Sem.run P (do
    let a' ← asAddr (.pointer (some a))
    let old ← Extern.Atomic.read (.int k) a'
    store a' (.int k y) .atomic
    pure old) w).andThen _ = _
  simp [Extern.Atomic.read, asAddr, hc, hz, run_store P w a (.int k y) .atomic rfl, Result.andThen]
set_option maxHeartbeats 4000000 in
theorem swap_ok (b k : Nat) (x y : Int) (w : World) (hc : w.cell? ⟨b, k, none⟩ = some (.int .u64 x)) (hf : w.frozen? ⟨b, k, none⟩ = false) :
    Calls Try.prog 29 #[.pointer (some ⟨b, k, none⟩), .int .u64 y] w fun e w' => e = .returned (.int .u64 x) ∧ w.setCell ⟨b, k, none⟩ (.int .u64 y) = w' := by
  have hu68 := Try.underlying68
  have hl := run_call_swap (P := Try.prog) Try.func32 (by kernel_rfl) (by kernel_rfl) (by kernel_rfl) .u64 (by kernel_rfl) (y := y) hc hf
  go_enter Try.func29, Try.ntmps29
  go_wp2
  go_ret
  exact ⟨rfl, rfl⟩
/-- What the counters are when k of them have been reset. -/
def half (l : List Int) (k : Nat) : List Int := List.replicate k 0 ++ l.drop k
theorem half_length (l : List Int) (k : Nat) (hk : k ≤ l.length) : (half l k).length = l.length := by simp [half]; omega
theorem half_get (l : List Int) (k : Nat) (hk : k < l.length) : (half l k)[k]'(by rw [half_length l k (by omega)]; exact hk) = l[k] := by
  unfold half
  rw [List.getElem_append_right (by simp)]
  simp
theorem half_set (l : List Int) (k : Nat) (hk : k < l.length) : (half l k).set k 0 = half l (k + 1) := by
  unfold half
  rw [List.set_append_right _ _ (by simp), List.length_replicate, Nat.sub_self, List.drop_eq_getElem_cons hk, List.set_cons_zero, List.replicate_succ', List.append_assoc]
  rfl
def ResRel (l : List Int) (b : Nat) (w wr : World) (v : Value) (k : Nat) : Prop := wr.ownsRow w.heap.size 50 1 v k ((l.take k).map (Value.int .u64)) ∧ TIs wr b (half l k) ∧ w.heap.size ≤ wr.heap.size ∧ (∀ g, g < w.heap.size → g ≠ b → wr.heap[g]? = w.heap[g]?) ∧ (∀ B, B ≤ b → Below B w wr)
def ResPost (l : List Int) (b : Nat) (w : World) (e : Ending) (w' : World) : Prop := ∃ v, e = .returned v ∧ Kd.R (Kd.int .u64) 50 w' w.heap.size (fun _ => True) v l ∧ TIs w' b zero16 ∧ w.heap.size ≤ w'.heap.size ∧ (∀ g, g < w.heap.size → g ≠ b → w'.heap[g]? = w.heap[g]?) ∧ (∀ B, B ≤ b → Below B w w')
set_option maxHeartbeats 4000000 in
set_option maxRecDepth 100000 in
theorem reset_ok (b : Nat) (l : List Int) (w : World) (h : TIs w b l) (hl : l.length = 16) :
    Calls Try.prog 22 #[.pointer (some ⟨b, 0, none⟩)] w (ResPost l b w) := by
  have hu71 := Try.underlying71
  have hu69 := Try.underlying69
  have hbw := blk_lt h
  obtain ⟨i0, hi, hz0, hz1, hz2⟩ := info_parts info50
  have HH := Lib.hid h
  clear h
  go_enter Try.func22, Try.ntmps22
  go_wp2_with fail
  go_loopw [3, 5] (fun v i wr => ∃ k : Nat, k ≤ 16 ∧ i = .int .i64 k ∧ ResRel l b w wr v k) (fun _ i _ => 16 - (intOf i).toNat)
  case atStart => exact ⟨0, by omega, rfl, by rw [List.take_zero]; exact World.ownsRow_nil w _ 50 1, by simpa [half] using HH.out, Nat.le_refl _, fun _ _ _ => rfl, fun B _ => Below.refl B w⟩
  case round =>
    obtain ⟨k, hk, rfl, ho, hT, hs, hK, hB⟩ := hrel
    by_cases hlt : k < 16
    · have hkl : k < l.length := by omega
      have hc := hT.cell k (by rw [half_length l k (by omega)]; exact hkl)
      rw [half_get l k hkl] at hc
      have hf := hT.frozen k
      have HO := Lib.hid ho
      have HT := Lib.hid hT
      have HK := Lib.hid hK
      have HB := Lib.hid hB
      clear ho hT hK hB
      go_wp2_with fail
      refine (swap_ok b k _ 0 _ hc hf).mono ?_
      rintro e' w1 ⟨rfl, hw1⟩
      have hT1 : TIs w1 b (half l (k + 1)) := by rw [← hw1, ← half_set l k hkl]; exact HT.out.set k (by rw [half_length l k (by omega)]; exact hkl) 0
      have hs1 : w.heap.size ≤ w1.heap.size := by rw [← hw1]; simpa using hs
      have hs0 : wr.heap.size ≤ w1.heap.size := by rw [← hw1]; simp
      have hK1 : ∀ g, g ≠ b → w1.heap[g]? = wr.heap[g]? := fun g hg => by rw [← hw1]; exact Below.heap_setCell wr ⟨b, k, none⟩ _ g hg
      have hB1 : ∀ B, B ≤ b → Below B w w1 := fun B hB => by rw [← hw1]; exact (HB.out B hB).setCell hB _
      have ho1 : w1.ownsRow w.heap.size 50 1 _ k ((l.take k).map (Value.int .u64)) := own_move HO.out (fun g hg => hK1 g (by have := own_base HO.out g hg; omega))
      clear hw1 hc hf
      have hT1' := Lib.hid hT1
      have hK1' := Lib.hid hK1
      have hB1' := Lib.hid hB1
      have HO1 := Lib.hid ho1
      clear hT1 hK1 hB1 ho1
      have hcc := cell_one_new w1 (.int .u64 l[k]) 50
      have HCC := Lib.hid hcc
      clear hcc
      go_wp2_with (first | (at_builtin; refine wpList_append_own _ rfl _ _ 54 rfl w.heap.size 50 i0 (.int .u64 0) 1 8 Try.underlying54 hi hz0 hz1 hz2 rfl (by decide) _ k _ rfl (World.ownsRow.alloc HO1.out _) ⟨w1.heap.size, 0, none⟩ 1 1 [.int .u64 l[k]] rfl rfl HCC.out (by simp [Value.oneCell']) (by unfold maxLen; omega) (by omega) (by simp; omega) ?_; intro v' w2 hown hgrow _))
      have hr := own_base HO1.out
      have hT2 : TIs w2 b (half l (k + 1)) := (hgrow.block b (by simp; omega) (fun e => by have := hr b e.symm; omega)).trans (blk_alloc hT1'.out _)
      have hs2 := hgrow.size
      go_roundw
      case rel =>
        refine ⟨k + 1, by omega, by go_num, ?_, hT2, ?_, ?_, ?_⟩
        · rw [List.take_succ_eq_append_getElem hkl, List.map_append]
          exact hown
        · simp at hs2; omega
        · intro g hg hgb
          rw [hgrow.block g (by simp; omega) (fun e => by have := hr g e.symm; omega), Below.heap_alloc w1 _ g (by omega), hK1'.out g hgb]
          exact HK.out g hg hgb
        · intro B hB
          exact ((hB1'.out B hB).alloc (by omega) _).grown hgrow (by simp; omega) (fun g e => by have := hr g e; omega)
      case measure => simp [intOf]; omega
    · have hk16 : k = 16 := by omega
      subst hk16
      rw [List.take_of_length_le (by omega)] at ho
      rw [← hl] at ho
      have hR := Kd.R_of_own (ok := fun _ => True) (enc := Value.int .u64) (h1 := fun _ => rfl) (xs := l) ho (fun _ _ => trivial)
      have hz : half l 16 = zero16 := by simp [half, zero16, List.drop_of_length_le (show l.length ≤ 16 by omega)]
      rw [hz] at hT
      clear ho hz
      have HR := Lib.hid hR
      have HT := Lib.hid hT
      have HK := Lib.hid hK
      have HB := Lib.hid hB
      clear hR hT hK hB
      go_wp2_with fail
      go_ret
      exact ⟨_, rfl, HR.out, HT.out, hs, HK.out, HB.out⟩
def SameRel (A : Option Addr) (l : List Int) (w wr : World) : Prop := BIs wr w.heap.size l ∧ Kd.C (Kd.int .u64) wr A l.length l ∧ Below w.heap.size w wr
set_option maxHeartbeats 4000000 in
set_option maxRecDepth 100000 in
theorem same_ok (A : Option Addr) (c : Nat) (l : List Int) (w : World) (hC : Kd.C (Kd.int .u64) w A l.length l) (hl : l.length = 16) :
    Calls Try.prog 21 #[.slice A 16 c, .agg (cellsOf l)] w fun e w' => e = .returned (.bool true) ∧ Below w.heap.size w w' := by
  have hu58 := Try.underlying58
  have HC := Lib.hid hC
  clear hC
  go_enter Try.func21, Try.ntmps21
  go_wp2_with fail
  go_loopw [11] (fun i wr => ∃ k : Nat, k ≤ 16 ∧ i = .int .i64 k ∧ SameRel A l w wr) (fun i _ => 16 - (intOf i).toNat)
  case atStart => exact ⟨0, by omega, rfl, blk_new _ _, Kd.C_alloc HC.out _, below_alloc (Below.refl _ w) _⟩
  case round =>
    obtain ⟨k, hk, rfl, hM, hC, hB⟩ := hrel
    by_cases hlt : k < 16
    · obtain ⟨ad, rfl, hcell⟩ := Kd.at_int hC (k : Int) (by omega) (by omega)
      have hc := hM.cell k (by omega)
      have hrd : rd l (k : Int) = l[k] := by simp [rd, List.getD_eq_getElem?_getD, show k < l.length from by omega]
      rw [Int.toNat_natCast] at hcell
      first | rw [hrd] at hcell | skip
      have HM := Lib.hid hM
      have HC2 := Lib.hid hC
      clear hM hC hrd
      go_wp2_with fail
      go_quiet (fail)
      go_wp2_with fail
      go_roundw
      case rel => exact ⟨k + 1, by omega, by go_num, blk_drewN HM.out _, Kd.C_drewN HC2.out _, pw_below_drewN hB _⟩
      case measure => simp [intOf]; omega
    · have hk16 : k = 16 := by omega
      subst hk16
      have HM := Lib.hid hM
      have HC2 := Lib.hid hC
      clear hM hC
      go_wp2_with fail
      go_ret
      exact ⟨rfl, hB⟩
end Go.Proofs.Ytehicbehljfkhaa.Ta
