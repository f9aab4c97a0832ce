/- The law ReqOrders: out of its plain statement and the walk of its code. Written by this work's program. -/
import Derived.Test.YtmdaaphjndjakadRows
import Derived.Test.YtmdaaphjndjakadPReqOrdersx5
import Derived.Test.YtmdaaphjndjakadPureReqOrders
import Derived.Test.YtmdaaphjndjakadGvOpen
import Derived.WalkKit
import Derived.ProofKit
import Derived.OpenShut
import Derived.ShutString
import Derived.ChangeOld
import Derived.Below
import Derived.SizedLaws
import Derived.ChangeArms
namespace Go.Proofs.Ytmdaaphjndjakad.reqOrders
open Go.ChangeShapes Go.WideShapes Go.ChangeAt Go.RowKit Go.Proofs.Ytmdaaphjndjakad.PReqOrders Go.Proofs.YtmdaaphjndjakadW.PrintWords
open Go.ChangeMaps (open_string shut_string)
set_option linter.unusedVariables false
theorem own : ownKnob Try.prog.godebug = none := by kernel_rfl
theorem laidOut : laidOutB Try.prog = true := by kernel_rfl
set_option maxRecDepth 100000 in
theorem lifted (os : Os) (started : os.Started) (H : Type) (enc : TypeId × Value → H) :
    ReturnsInHanded {} Try.checked os 7 .any (Rows.reqOrdersSpec.pre6 enc Try.prog Try.f7 Rows.reqOrdersRow.domain false) (Rows.reqOrdersSpec.post enc Try.prog Try.f7 false true false false) := by
  refine returnsInHanded_of_change_sized (C := Try.checked) own started (by kernel_rfl) Try.func7
    (ChangeSpec.witness6 (enc := enc) (C := Try.checked) false ⟨#[], #[.int .u8 0, .int .u8 0, .int .u8 0, .slice none 0 0], []⟩ 8 (by kernel_rfl) (by kernel_rfl) (by kernel_rfl) (by kernel_rfl)) ?_
  intro W base args ds gs before hval0 hW hcnd hsz0 _
  have hsz : (DataW.weightsEach Try.prog (Try.f7.params.toList ++ Rows.reqOrdersSpec.plain.varTypes Try.prog) (ds ++ gs)).all (· ≤ reachBytes) = true := hsz0
  have hval : ∀ (j : Nat) t v, Try.f7.params[j]? = some t → args[j]? = some v → Value.okWide Try.prog W .any base t v := hval0
  have hW' := hW
  obtain ⟨p, q, hA0, hV, rfl, hfz, hnd⟩ := hW
  have hA : DataW.TrodAll enc Try.prog W 0 (fun _ => true) true Try.f7.params.toList args.toList ds p := hA0
  rw [Try.params7] at hA hval hsz
  obtain ⟨v0, vs0, d0, ds0, p0, q0, hargs, rfl, rfl, h0, r0⟩ := trodAll_cons hA
  obtain ⟨v1, vs1, d1, ds1, p1, q1, rfl, rfl, rfl, h1, r1⟩ := trodAll_cons r0
  obtain ⟨v2, vs2, d2, ds2, p2, q2, rfl, rfl, rfl, h2, r2⟩ := trodAll_cons r1
  obtain ⟨v3, vs3, d3, ds3, p3, q3, rfl, rfl, rfl, h3, r3⟩ := trodAll_cons r2
  obtain ⟨rfl, rfl, rfl⟩ := trodAll_nil r3
  obtain rfl : args = #[v0, v1, v2, v3] := by cases args; simp_all
  obtain ⟨rfl, rfl⟩ := trodVars_none hV
  obtain ⟨a0, rfl, rfl, rfl, w0⟩ := open_int Try.underlying5 (hval 0 5 v0 rfl rfl) h0
  obtain ⟨a1, rfl, rfl, rfl, w1⟩ := open_int Try.underlying5 (hval 1 5 v1 rfl rfl) h1
  obtain ⟨a2, rfl, rfl, rfl, w2⟩ := open_int Try.underlying5 (hval 2 5 v2 rfl rfl) h2
  obtain ⟨A3, len3, cap3, rfl⟩ := okWide_slice Try.underlying60 (hval 3 60 v3 rfl rfl)
  have k3 := h3
  have lt3 : ∀ x ∈ p3, x.block < W.heap.size := by obtain ⟨m, hm⟩ := k3; exact DataW.trod_lt m _ _ _ hm
  obtain ⟨l3, hl3, hlc3, hlm3, hr3, hg3, hx3⟩ : ∃ l : List Int, l.length = len3 ∧ len3 ≤ cap3 ∧ len3 ≤ maxLen ∧ Kd.C (Kd.int .u8) W A3 len3 l ∧ (∀ x ∈ l, (Lit.int .u8 x).wf = true) ∧ ((len3 = 0) ∨ ∃ es sp, d3 = .slice es sp ∧ len3 ≤ es.length) := by
    obtain ⟨fuel, hf⟩ := h3
    exact Gv.open_slice_kd (d := (Kd.int .u8)) (good := fun x => (Lit.int .u8 x).wf = true) Try.underlying60 (by kernel_rfl) (Gv.open_el_int Try.underlying5) hf
  have y3 : len3 * 1 ≤ 140737488351232 := Gv.sized_slice_kd hsz (j := 3) (t := 60) rfl rfl Try.underlying60 (by kernel_rfl) hx3
  subst hl3
  clear hA0 hval0 hsz0 hsz
  refine (PReqOrders.carousellaw12_ReqOrders.walk Pure.ReqOrders a0 a1 a2 A3 cap3 l3 W w0 w1 w2 hr3 hlc3 hlm3 y3 hg3).mono fun e W' ⟨he, bel⟩ => ?_
  subst he
  exact ⟨_, rfl, _, _, _, [], _, [], hW', trodAll_mk1 (shut_bool Try.underlying4 _), (trodAll_cons_mk (shut_int Try.underlying5 w0) (trodAll_cons_mk (shut_int Try.underlying5 w1) (trodAll_cons_mk (shut_int Try.underlying5 w2) (trodAll_cons_mk (Below.trod laidOut (by kernel_rfl) (of_decide_eq_true (by kernel_rfl)) k3 bel lt3) trodAll_mk0)))), rfl, bel.frame _, fun h => by cases h⟩
theorem over : Rows.reqOrdersRow.holds Try.pinned (OpenSpec.ofChange Rows.reqOrdersSpec) :=
  OpenClaim.holds_of_wide 7 Try.f7 rfl rfl rfl rfl rfl rfl rfl ⟨rfl, rfl, rfl, rfl, rfl⟩ rfl rfl rfl rfl rfl (by kernel_rfl) Try.func7 (by kernel_rfl)
    (of_decide_eq_true (by kernel_rfl)) (by unfold Func.isWrapper; first | (rw [if_pos (by decide +kernel)]; kernel_rfl) | (rw [if_neg (by decide +kernel)]; exact ⟨rfl, rfl⟩))
    (fun os started H enc _ => lifted os started H enc)
theorem proved : Rows.ReqOrdersSaid := over
#print axioms proved
end Go.Proofs.Ytmdaaphjndjakad.reqOrders
namespace Go.Proofs.Ytmdaaphjndjakad
/-- The row, under a short name, for the claim. -/
theorem reqOrders_holds : Rows.ReqOrdersSaid := reqOrders.proved
end Go.Proofs.Ytmdaaphjndjakad
