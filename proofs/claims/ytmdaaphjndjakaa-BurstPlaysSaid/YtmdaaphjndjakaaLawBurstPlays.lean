/- The law BurstPlays: out of its plain statement and the walk of its code. Written by this work's program. -/
import Derived.Test.YtmdaaphjndjakaaRows
import Derived.Test.YtmdaaphjndjakaaPBurstPlaysx5
import Derived.Test.YtmdaaphjndjakaaPureBurstPlays
import Derived.Test.YtmdaaphjndjakaaGvOpen
import Derived.WalkKit
import Derived.ProofKit
import Derived.OpenShut
import Derived.ShutString
import Derived.ChangeOld
import Derived.Below
import Derived.SizedLaws
import Derived.ChangeArms
namespace Go.Proofs.Ytmdaaphjndjakaa.burstPlays
open Go.ChangeShapes Go.WideShapes Go.ChangeAt Go.RowKit Go.Proofs.Ytmdaaphjndjakaa.PBurstPlays Go.Proofs.YtmdaaphjndjakaaW.PrintWords
open Go.ChangeMaps (open_string shut_string)
set_option linter.unusedVariables false
theorem own : ownKnob Try.prog.godebug = none := by kernel_rfl
theorem laidOut : laidOutB Try.prog = true := by kernel_rfl
theorem cells61 : Try.prog.cellsOf 61 = 2 := by kernel_rfl
theorem cells5 : Try.prog.cellsOf 5 = 1 := by kernel_rfl
theorem cells59 : Try.prog.cellsOf 59 = 1 := by kernel_rfl
set_option maxRecDepth 100000 in
theorem open_S61 {H : Type} {enc : TypeId × Value → H} {w : World} {base : Nat} {spare : Nat → Bool} {held : Bool} {n : Nat} {cs : List Value} {y : DataW H × List MemPlace} (h : DataW.trod enc Try.prog w base spare held n 61 cs = some y) : ∃ s : S61, cs = [.int .u8 ((s).f0), .int .u16 ((s).f1)] ∧ ((Lit.int .u8 (s).f0).wf = true ∧ (Lit.int .u16 (s).f1).wf = true) := by
  obtain ⟨xs, m, _, _, hlen, hxl, hf⟩ := DataW.trod_struct Try.underlying61 h
  rw [cells61] at hlen
  obtain ⟨c0, cs0_, rfl, hl0_⟩ := Gv.list_cons hlen
  obtain ⟨c1, cs1_, rfl, hl1_⟩ := Gv.list_cons hl0_
  obtain rfl := List.eq_nil_of_length_eq_zero hl1_
  have hxl2 : xs.length = 2 := hxl
  obtain ⟨y0, xs0_, rfl, hx0_⟩ := Gv.list_cons hxl2
  obtain ⟨y1, xs1_, rfl, hx1_⟩ := Gv.list_cons hx0_
  obtain rfl := List.eq_nil_of_length_eq_zero hx1_
  have g0 : DataW.trod enc Try.prog w base spare held m 5 [c0] = some y0 := by
    have h0 : DataW.trod enc Try.prog w base spare held m 5 (([c0, c1].drop 0).take (Try.prog.cellsOf 5)) = [y0, y1][0]? := hf 0 _ rfl
    rw [cells5] at h0
    exact h0
  have g1 : DataW.trod enc Try.prog w base spare held m 59 [c1] = some y1 := by
    have h0 : DataW.trod enc Try.prog w base spare held m 59 (([c0, c1].drop 1).take (Try.prog.cellsOf 59)) = [y0, y1][1]? := hf 1 _ rfl
    rw [cells59] at h0
    exact h0
  obtain ⟨f0, e0, _, w0⟩ := DataW.trod_int Try.underlying5 g0
  simp only [List.cons.injEq, and_true] at e0
  obtain rfl := e0
  obtain ⟨f1, e1, _, w1⟩ := DataW.trod_int Try.underlying59 g1
  simp only [List.cons.injEq, and_true] at e1
  obtain rfl := e1
  exact ⟨⟨f0, f1⟩, rfl, ⟨w0, w1⟩⟩
set_option maxRecDepth 100000 in
theorem lifted (os : Os) (started : os.Started) (H : Type) (enc : TypeId × Value → H) :
    ReturnsInHanded {} Try.checked os 7 .any (Rows.burstPlaysSpec.pre6 enc Try.prog Try.f7 Rows.burstPlaysRow.domain false) (Rows.burstPlaysSpec.post enc Try.prog Try.f7 false true false false) := by
  refine returnsInHanded_of_change_sized (C := Try.checked) own started (by kernel_rfl) Try.func7
    (ChangeSpec.witness6 (enc := enc) (C := Try.checked) false ⟨#[], #[.int .i64 0, .int .i64 0, .slice none 0 0], []⟩ 8 (by kernel_rfl) (by kernel_rfl) (by kernel_rfl) (by kernel_rfl)) ?_
  intro W base args ds gs before hval0 hW hcnd hsz0 _
  have hsz : (DataW.weightsEach Try.prog (Try.f7.params.toList ++ Rows.burstPlaysSpec.plain.varTypes Try.prog) (ds ++ gs)).all (· ≤ reachBytes) = true := hsz0
  have hval : ∀ (j : Nat) t v, Try.f7.params[j]? = some t → args[j]? = some v → Value.okWide Try.prog W .any base t v := hval0
  have hW' := hW
  obtain ⟨p, q, hA0, hV, rfl, hfz, hnd⟩ := hW
  have hA : DataW.TrodAll enc Try.prog W 0 (fun _ => true) true Try.f7.params.toList args.toList ds p := hA0
  rw [Try.params7] at hA hval hsz
  obtain ⟨v0, vs0, d0, ds0, p0, q0, hargs, rfl, rfl, h0, r0⟩ := trodAll_cons hA
  obtain ⟨v1, vs1, d1, ds1, p1, q1, rfl, rfl, rfl, h1, r1⟩ := trodAll_cons r0
  obtain ⟨v2, vs2, d2, ds2, p2, q2, rfl, rfl, rfl, h2, r2⟩ := trodAll_cons r1
  obtain ⟨rfl, rfl, rfl⟩ := trodAll_nil r2
  obtain rfl : args = #[v0, v1, v2] := by cases args; simp_all
  obtain ⟨rfl, rfl⟩ := trodVars_none hV
  obtain ⟨a0, rfl, rfl, rfl, w0⟩ := open_int Try.underlying2 (hval 0 2 v0 rfl rfl) h0
  obtain ⟨a1, rfl, rfl, rfl, w1⟩ := open_int Try.underlying2 (hval 1 2 v1 rfl rfl) h1
  obtain ⟨A2, len2, cap2, rfl⟩ := okWide_slice Try.underlying53 (hval 2 53 v2 rfl rfl)
  have k2 := h2
  have lt2 : ∀ x ∈ p2, x.block < W.heap.size := by obtain ⟨m, hm⟩ := k2; exact DataW.trod_lt m _ _ _ hm
  obtain ⟨l2, hl2, hlc2, hlm2, hr2, hg2, hx2⟩ : ∃ l : List (S61), l.length = len2 ∧ len2 ≤ cap2 ∧ len2 ≤ maxLen ∧ Kd.C k61 W A2 len2 l ∧ (∀ x ∈ l, (Lit.int .u8 (x).f0).wf = true ∧ (Lit.int .u16 (x).f1).wf = true) ∧ ((len2 = 0) ∨ ∃ es sp, d2 = .slice es sp ∧ len2 ≤ es.length) := by
    obtain ⟨fuel, hf⟩ := h2
    exact Gv.open_slice_kd (d := k61) (good := fun x => (Lit.int .u8 (x).f0).wf = true ∧ (Lit.int .u16 (x).f1).wf = true) Try.underlying53 (by kernel_rfl) (fun hh => by obtain ⟨s, rfl, hg⟩ := open_S61 hh; exact ⟨s, k61_mk _ s, hg⟩) hf
  have y2 : len2 * 4 ≤ 140737488351232 := Gv.sized_slice_kd hsz (j := 2) (t := 53) rfl rfl Try.underlying53 (by kernel_rfl) hx2
  subst hl2
  clear hA0 hval0 hsz0 hsz
  refine (PBurstPlays.carousellaw15_BurstPlays.walk Pure.BurstPlays a0 a1 A2 cap2 l2 W w0 w1 hr2 hlc2 hlm2 y2 hg2).mono fun e W' ⟨he, bel⟩ => ?_
  subst he
  exact ⟨_, rfl, _, _, _, [], _, [], hW', trodAll_mk1 (shut_bool Try.underlying4 _), (trodAll_cons_mk (shut_int Try.underlying2 w0) (trodAll_cons_mk (shut_int Try.underlying2 w1) (trodAll_cons_mk (Below.trod laidOut (by kernel_rfl) (of_decide_eq_true (by kernel_rfl)) k2 bel lt2) trodAll_mk0))), rfl, bel.frame _, fun h => by cases h⟩
theorem over : Rows.burstPlaysRow.holds Try.pinned (OpenSpec.ofChange Rows.burstPlaysSpec) :=
  OpenClaim.holds_of_wide 7 Try.f7 rfl rfl rfl rfl rfl rfl rfl ⟨rfl, rfl, rfl, rfl, rfl⟩ rfl rfl rfl rfl rfl (by kernel_rfl) Try.func7 (by kernel_rfl)
    (of_decide_eq_true (by kernel_rfl)) (by unfold Func.isWrapper; first | (rw [if_pos (by decide +kernel)]; kernel_rfl) | (rw [if_neg (by decide +kernel)]; exact ⟨rfl, rfl⟩))
    (fun os started H enc _ => lifted os started H enc)
theorem proved : Rows.BurstPlaysSaid := over
#print axioms proved
end Go.Proofs.Ytmdaaphjndjakaa.burstPlays
namespace Go.Proofs.Ytmdaaphjndjakaa
/-- The row, under a short name, for the claim. -/
theorem burstPlays_holds : Rows.BurstPlaysSaid := burstPlays.proved
end Go.Proofs.Ytmdaaphjndjakaa
