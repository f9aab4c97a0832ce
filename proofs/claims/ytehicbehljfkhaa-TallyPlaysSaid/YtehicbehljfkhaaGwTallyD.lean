/- Counters, walked by hand. -/
import Derived.Test.YtehicbehljfkhaaGwTallyC
namespace Go.Proofs.Ytehicbehljfkhaa.Ta
set_option linter.unusedVariables false
set_option linter.unusedSimpArgs false
open Go.RowKit Go.Proofs.YtehicbehljfkhaaW.PrintWords Go.Proofs.YtehicbehljfkhaaW.PrintLast Go.Proofs.YtehicbehljfkhaaW.PrintMore
def getL (l : List Int) (k : Int) : Int := if 0 ≤ k ∧ k < 16 then l.getD k.toNat 0 else 0
set_option maxHeartbeats 4000000 in
set_option maxRecDepth 100000 in
theorem get_ok (b : Nat) (l : List Int) (k : Int) (w : World) (h : TIs w b l) (hl : l.length = 16) :
    Calls Try.prog 24 #[.pointer (some ⟨b, 0, none⟩), .int .i64 k] w fun e w' => e = .returned (.int .u64 (getL l k)) ∧ w = w' := by
  have hu71 := Try.underlying71
  have hu69 := Try.underlying69
  by_cases hk : 0 ≤ k ∧ k < 16
  · obtain ⟨j, rfl⟩ := Int.eq_ofNat_of_zero_le hk.1
    have hj : j < l.length := by rw [hl]; omega
    have hc := h.cell j hj
    have hg : getL l (j : Int) = l[j] := by unfold getL; rw [if_pos hk, Int.toNat_natCast, List.getD_eq_getElem?_getD, List.getElem?_eq_getElem hj]; rfl
    have hh : decide (0 ≤ (j : Int) ∧ (j : Int) < 16) = true := decide_eq_true hk
    have hj16 : j < 16 := by omega
    rw [hg]
    clear hk hg
    go_enter Try.func24, Try.ntmps24
    go_wp2_with fail
    refine (has_ok _ _).mono ?_
    rintro e' w1 ⟨rfl, rfl⟩
    rw [hh]
    clear hh
    go_wp2_with fail
    refine (load_ok b j _ _ hc).mono ?_
    rintro e' w1 ⟨rfl, rfl⟩
    go_wp2_with fail
    go_ret
    exact ⟨rfl, rfl⟩
  · have hg : getL l k = 0 := by unfold getL; rw [if_neg hk]
    have hh : decide (0 ≤ k ∧ k < 16) = false := decide_eq_false hk
    rw [hg]
    clear hk hg
    go_enter Try.func24, Try.ntmps24
    go_wp2_with fail
    refine (has_ok _ _).mono ?_
    rintro e' w1 ⟨rfl, rfl⟩
    rw [hh]
    clear hh
    go_wp2_with fail
    go_ret
    exact ⟨rfl, rfl⟩
def zero16 : List Int := List.replicate 16 0
theorem zero_good : Good zero16 := ⟨rfl, fun x hx => by rw [List.eq_of_mem_replicate hx]; decide⟩
set_option maxHeartbeats 4000000 in
set_option maxRecDepth 100000 in
theorem awake_ok (w : World) : Calls Try.prog 18 #[] w fun e w' => e = .returned (.bool true) ∧ Below w.heap.size w w' := by
  go_enter Try.func18, Try.ntmps18
  go_wp2_with fail
  refine (new_ok _).mono ?_
  rintro e' w1 ⟨rfl, hT1, hb1⟩
  have HT1 := Lib.hid hT1
  clear hT1
  go_wp2_with fail
  refine (add_ok _ zero16 3 5 _ HT1.out zero_good (by decide) (by decide)).mono ?_
  rintro e' w2 ⟨rfl, hT2, _, _, hb2⟩
  have hB2 := hb1.trans (hb2 _ (Nat.le_refl _))
  have HT2 := Lib.hid hT2
  clear hT2 hb2
  go_wp2_with fail
  refine (add_ok _ _ 3 18446744073709551613 _ HT2.out (addL_good zero_good 3 (by decide)) (by decide) (by decide)).mono ?_
  rintro e' w3 ⟨rfl, hT3, _, _, hb3⟩
  have hB3 := hB2.trans (hb3 _ (Nat.le_refl _))
  have HT3 := Lib.hid hT3
  clear hT3 hb3
  go_wp2_with fail
  refine (get_ok _ _ 3 _ HT3.out (by decide)).mono ?_
  rintro e' w4 ⟨rfl, rfl⟩
  rw [show getL (addL (addL zero16 3 5) 3 18446744073709551613) 3 = 18446744073709551615 from by decide]
  go_wp2_with fail
  refine (get_ok _ _ 2 _ HT3.out (by decide)).mono ?_
  rintro e' w4 ⟨rfl, rfl⟩
  rw [show getL (addL (addL zero16 3 5) 3 18446744073709551613) 2 = 0 from by decide]
  go_wp2_with fail
  refine (all_ok _ _ _ HT3.out (by decide)).mono ?_
  rintro e' w5 ⟨v5, rfl, hR5, hb5⟩
  have hB5 := below_call hB3 hb5
  obtain ⟨A5, c5, rfl⟩ := Kd.R_slice hR5
  rw [show (addL (addL zero16 3 5) 3 18446744073709551613).length = 16 from by decide]
  clear hR5
  go_wp2_with fail
  go_ret
  exact ⟨rfl, hB5⟩
end Go.Proofs.Ytehicbehljfkhaa.Ta
