/- The law WatchLoses: out of its plain statement and the walk of its code. Written by this work's program. -/
import Derived.Test.YtmdaaphjndjakagRows
import Derived.Test.YtmdaaphjndjakagPWatchLosesx7
import Derived.Test.YtmdaaphjndjakagPureWatchLoses
import Derived.Test.YtmdaaphjndjakagGvOpen
import Derived.WalkKit
import Derived.ProofKit
import Derived.OpenShut
import Derived.ShutString
import Derived.ChangeOld
import Derived.Below
import Derived.SizedLaws
import Derived.ChangeArms
namespace Go.Proofs.Ytmdaaphjndjakag.watchLoses
open Go.ChangeShapes Go.WideShapes Go.ChangeAt Go.RowKit Go.Proofs.Ytmdaaphjndjakag.PWatchLoses Go.Proofs.YtmdaaphjndjakagW.PrintWords
open Go.ChangeMaps (open_string shut_string)
set_option linter.unusedVariables false
theorem own : ownKnob Try.prog.godebug = none := by kernel_rfl
theorem laidOut : laidOutB Try.prog = true := by kernel_rfl
set_option maxRecDepth 100000 in
theorem lifted (os : Os) (started : os.Started) (H : Type) (enc : TypeId × Value → H) :
    ReturnsInHanded {} Try.checked os 8 .any (Rows.watchLosesSpec.pre6 enc Try.prog Try.f8 Rows.watchLosesRow.domain false) (Rows.watchLosesSpec.post enc Try.prog Try.f8 false true false false) := by
  refine returnsInHanded_of_change_sized (C := Try.checked) own started (by kernel_rfl) Try.func8
    (ChangeSpec.witness6 (enc := enc) (C := Try.checked) false ⟨#[], #[.int .u8 0, .slice none 0 0], []⟩ 8 (by kernel_rfl) (by kernel_rfl) (by kernel_rfl) (by kernel_rfl)) ?_
  intro W base args ds gs before hval0 hW hcnd hsz0 _
  have hsz : (DataW.weightsEach Try.prog (Try.f8.params.toList ++ Rows.watchLosesSpec.plain.varTypes Try.prog) (ds ++ gs)).all (· ≤ reachBytes) = true := hsz0
  have hval : ∀ (j : Nat) t v, Try.f8.params[j]? = some t → args[j]? = some v → Value.okWide Try.prog W .any base t v := hval0
  have hW' := hW
  obtain ⟨p, q, hA0, hV, rfl, hfz, hnd⟩ := hW
  have hA : DataW.TrodAll enc Try.prog W 0 (fun _ => true) true Try.f8.params.toList args.toList ds p := hA0
  rw [Try.params8] at hA hval hsz
  obtain ⟨v0, vs0, d0, ds0, p0, q0, hargs, rfl, rfl, h0, r0⟩ := trodAll_cons hA
  obtain ⟨v1, vs1, d1, ds1, p1, q1, rfl, rfl, rfl, h1, r1⟩ := trodAll_cons r0
  obtain ⟨rfl, rfl, rfl⟩ := trodAll_nil r1
  obtain rfl : args = #[v0, v1] := by cases args; simp_all
  obtain ⟨rfl, rfl⟩ := trodVars_none hV
  obtain ⟨a0, rfl, rfl, rfl, w0⟩ := open_int Try.underlying5 (hval 0 5 v0 rfl rfl) h0
  obtain ⟨A1, len1, cap1, rfl⟩ := okWide_slice Try.underlying75 (hval 1 75 v1 rfl rfl)
  have k1 := h1
  have lt1 : ∀ x ∈ p1, x.block < W.heap.size := by obtain ⟨m, hm⟩ := k1; exact DataW.trod_lt m _ _ _ hm
  obtain ⟨l1, hl1, hlc1, hlm1, hr1, hg1, hx1⟩ : ∃ l : List Int, l.length = len1 ∧ len1 ≤ cap1 ∧ len1 ≤ maxLen ∧ Kd.C (Kd.int .u16) W A1 len1 l ∧ (∀ x ∈ l, (Lit.int .u16 x).wf = true) ∧ ((len1 = 0) ∨ ∃ es sp, d1 = .slice es sp ∧ len1 ≤ es.length) := by
    obtain ⟨fuel, hf⟩ := h1
    exact Gv.open_slice_kd (d := (Kd.int .u16)) (good := fun x => (Lit.int .u16 x).wf = true) Try.underlying75 (by kernel_rfl) (Gv.open_el_int Try.underlying24) hf
  have y1 : len1 * 2 ≤ 140737488351232 := Gv.sized_slice_kd hsz (j := 1) (t := 75) rfl rfl Try.underlying75 (by kernel_rfl) hx1
  subst hl1
  clear hA0 hval0 hsz0 hsz
  refine (PWatchLoses.carousellaw09_WatchLoses.walk Pure.WatchLoses a0 A1 cap1 l1 W w0 hr1 hlc1 hlm1 y1 hg1).mono fun e W' ⟨he, bel⟩ => ?_
  subst he
  exact ⟨_, rfl, _, _, _, [], _, [], hW', trodAll_mk1 (shut_bool Try.underlying4 _), (trodAll_cons_mk (shut_int Try.underlying5 w0) (trodAll_cons_mk (Below.trod laidOut (by kernel_rfl) (of_decide_eq_true (by kernel_rfl)) k1 bel lt1) trodAll_mk0)), rfl, bel.frame _, fun h => by cases h⟩
theorem over : Rows.watchLosesRow.holds Try.pinned (OpenSpec.ofChange Rows.watchLosesSpec) :=
  OpenClaim.holds_of_wide 8 Try.f8 rfl rfl rfl rfl rfl rfl rfl ⟨rfl, rfl, rfl, rfl, rfl⟩ rfl rfl rfl rfl rfl (by kernel_rfl) Try.func8 (by kernel_rfl)
    (of_decide_eq_true (by kernel_rfl)) (by unfold Func.isWrapper; first | (rw [if_pos (by decide +kernel)]; kernel_rfl) | (rw [if_neg (by decide +kernel)]; exact ⟨rfl, rfl⟩))
    (fun os started H enc _ => lifted os started H enc)
theorem proved : Rows.WatchLosesSaid := over
#print axioms proved
end Go.Proofs.Ytmdaaphjndjakag.watchLoses
namespace Go.Proofs.Ytmdaaphjndjakag
/-- The row, under a short name, for the claim. -/
theorem watchLoses_holds : Rows.WatchLosesSaid := watchLoses.proved
end Go.Proofs.Ytmdaaphjndjakag
