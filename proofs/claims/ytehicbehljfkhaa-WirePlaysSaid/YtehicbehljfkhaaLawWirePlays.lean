/- The law WirePlays: out of its plain statement and the walk of its code. Written by this work's program. -/
import Derived.Test.YtehicbehljfkhaaRows
import Derived.Test.YtehicbehljfkhaaPWirePlaysx1
import Derived.Test.YtehicbehljfkhaaPureWirePlays
import Derived.Test.YtehicbehljfkhaaGvOpen
import Derived.WalkKit
import Derived.ProofKit
import Derived.OpenShut
import Derived.ShutString
import Derived.ChangeOld
import Derived.Below
import Derived.SizedLaws
import Derived.ChangeArms
namespace Go.Proofs.Ytehicbehljfkhaa.wirePlays
open Go.ChangeShapes Go.WideShapes Go.ChangeAt Go.RowKit Go.Proofs.Ytehicbehljfkhaa.PWirePlays Go.Proofs.YtehicbehljfkhaaW.PrintWords
open Go.ChangeMaps (open_string shut_string)
set_option linter.unusedVariables false
theorem own : ownKnob Try.prog.godebug = none := by kernel_rfl
theorem laidOut : laidOutB Try.prog = true := by kernel_rfl
theorem cells39 : Try.prog.cellsOf 39 = 2 := by kernel_rfl
theorem cells5 : Try.prog.cellsOf 5 = 1 := by kernel_rfl
theorem cells9 : Try.prog.cellsOf 9 = 1 := by kernel_rfl
set_option maxRecDepth 100000 in
theorem open_S39 {H : Type} {enc : TypeId × Value → H} {w : World} {base : Nat} {spare : Nat → Bool} {held : Bool} {n : Nat} {cs : List Value} {y : DataW H × List MemPlace} (h : DataW.trod enc Try.prog w base spare held n 39 cs = some y) : ∃ s : S39, cs = [.int .u8 ((s).f0), .string ((s).f1)] ∧ ((Lit.int .u8 (s).f0).wf = true ∧ (s).f1.size ≤ 9223372036854775807) := by
  obtain ⟨xs, m, _, _, hlen, hxl, hf⟩ := DataW.trod_struct Try.underlying39 h
  rw [cells39] at hlen
  obtain ⟨c0, cs0_, rfl, hl0_⟩ := Gv.list_cons hlen
  obtain ⟨c1, cs1_, rfl, hl1_⟩ := Gv.list_cons hl0_
  obtain rfl := List.eq_nil_of_length_eq_zero hl1_
  have hxl2 : xs.length = 2 := hxl
  obtain ⟨y0, xs0_, rfl, hx0_⟩ := Gv.list_cons hxl2
  obtain ⟨y1, xs1_, rfl, hx1_⟩ := Gv.list_cons hx0_
  obtain rfl := List.eq_nil_of_length_eq_zero hx1_
  have g0 : DataW.trod enc Try.prog w base spare held m 5 [c0] = some y0 := by
    have h0 : DataW.trod enc Try.prog w base spare held m 5 (([c0, c1].drop 0).take (Try.prog.cellsOf 5)) = [y0, y1][0]? := hf 0 _ rfl
    rw [cells5] at h0
    exact h0
  have g1 : DataW.trod enc Try.prog w base spare held m 9 [c1] = some y1 := by
    have h0 : DataW.trod enc Try.prog w base spare held m 9 (([c0, c1].drop 1).take (Try.prog.cellsOf 9)) = [y0, y1][1]? := hf 1 _ rfl
    rw [cells9] at h0
    exact h0
  obtain ⟨f0, e0, _, w0⟩ := DataW.trod_int Try.underlying5 g0
  simp only [List.cons.injEq, and_true] at e0
  obtain rfl := e0
  obtain ⟨f1, e1, _, w1⟩ := DataW.trod_string Try.underlying9 g1
  simp only [List.cons.injEq, and_true] at e1
  obtain rfl := e1
  exact ⟨⟨f0, f1⟩, rfl, ⟨w0, w1⟩⟩
set_option maxRecDepth 100000 in
theorem lifted (os : Os) (started : os.Started) (H : Type) (enc : TypeId × Value → H) :
    ReturnsInHanded {} Try.checked os 4 .any (Rows.wirePlaysSpec.pre6 enc Try.prog Try.f4 Rows.wirePlaysRow.domain false) (Rows.wirePlaysSpec.post enc Try.prog Try.f4 false true false false) := by
  refine returnsInHanded_of_change_sized (C := Try.checked) own started (by kernel_rfl) Try.func4
    (ChangeSpec.witness6 (enc := enc) (C := Try.checked) false ⟨#[], #[.int .i64 0, .slice none 0 0], []⟩ 8 (by kernel_rfl) (by kernel_rfl) (by kernel_rfl) (by kernel_rfl)) ?_
  intro W base args ds gs before hval0 hW hcnd hsz0 _
  have hsz : (DataW.weightsEach Try.prog (Try.f4.params.toList ++ Rows.wirePlaysSpec.plain.varTypes Try.prog) (ds ++ gs)).all (· ≤ reachBytes) = true := hsz0
  have hval : ∀ (j : Nat) t v, Try.f4.params[j]? = some t → args[j]? = some v → Value.okWide Try.prog W .any base t v := hval0
  have hW' := hW
  obtain ⟨p, q, hA0, hV, rfl, hfz, hnd⟩ := hW
  have hA : DataW.TrodAll enc Try.prog W 0 (fun _ => true) true Try.f4.params.toList args.toList ds p := hA0
  rw [Try.params4] at hA hval hsz
  obtain ⟨v0, vs0, d0, ds0, p0, q0, hargs, rfl, rfl, h0, r0⟩ := trodAll_cons hA
  obtain ⟨v1, vs1, d1, ds1, p1, q1, rfl, rfl, rfl, h1, r1⟩ := trodAll_cons r0
  obtain ⟨rfl, rfl, rfl⟩ := trodAll_nil r1
  obtain rfl : args = #[v0, v1] := by cases args; simp_all
  obtain ⟨rfl, rfl⟩ := trodVars_none hV
  obtain ⟨a0, rfl, rfl, rfl, w0⟩ := open_int Try.underlying3 (hval 0 3 v0 rfl rfl) h0
  obtain ⟨A1, len1, cap1, rfl⟩ := okWide_slice Try.underlying35 (hval 1 35 v1 rfl rfl)
  have k1 := h1
  have lt1 : ∀ x ∈ p1, x.block < W.heap.size := by obtain ⟨m, hm⟩ := k1; exact DataW.trod_lt m _ _ _ hm
  obtain ⟨l1, hl1, hlc1, hlm1, hr1, hg1, hx1⟩ : ∃ l : List (S39), l.length = len1 ∧ len1 ≤ cap1 ∧ len1 ≤ maxLen ∧ Kd.C k39 W A1 len1 l ∧ (∀ x ∈ l, (Lit.int .u8 (x).f0).wf = true ∧ (x).f1.size ≤ 9223372036854775807) ∧ ((len1 = 0) ∨ ∃ es sp, d1 = .slice es sp ∧ len1 ≤ es.length) := by
    obtain ⟨fuel, hf⟩ := h1
    exact Gv.open_slice_kd (d := k39) (good := fun x => (Lit.int .u8 (x).f0).wf = true ∧ (x).f1.size ≤ 9223372036854775807) Try.underlying35 (by kernel_rfl) (fun hh => by obtain ⟨s, rfl, hg⟩ := open_S39 hh; exact ⟨s, k39_mk _ s, hg⟩) hf
  have y1 : len1 * 24 ≤ 140737488351232 := Gv.sized_slice_kd hsz (j := 1) (t := 35) rfl rfl Try.underlying35 (by kernel_rfl) hx1
  subst hl1
  clear hA0 hval0 hsz0 hsz
  refine (PWirePlays.carousellaw21_WirePlays.walk Pure.WirePlays a0 A1 cap1 l1 W w0 hr1 hlc1 hlm1 y1 hg1).mono fun e W' ⟨he, bel⟩ => ?_
  subst he
  exact ⟨_, rfl, _, _, _, [], _, [], hW', trodAll_mk1 (shut_bool Try.underlying4 _), (trodAll_cons_mk (shut_int Try.underlying3 w0) (trodAll_cons_mk (Below.trod laidOut (by kernel_rfl) (of_decide_eq_true (by kernel_rfl)) k1 bel lt1) trodAll_mk0)), rfl, bel.frame _, fun h => by cases h⟩
theorem over : Rows.wirePlaysRow.holds Try.pinned (OpenSpec.ofChange Rows.wirePlaysSpec) :=
  OpenClaim.holds_of_wide 4 Try.f4 rfl rfl rfl rfl rfl rfl rfl ⟨rfl, rfl, rfl, rfl, rfl⟩ rfl rfl rfl rfl rfl (by kernel_rfl) Try.func4 (by kernel_rfl)
    (of_decide_eq_true (by kernel_rfl)) (by unfold Func.isWrapper; first | (rw [if_pos (by decide +kernel)]; kernel_rfl) | (rw [if_neg (by decide +kernel)]; exact ⟨rfl, rfl⟩))
    (fun os started H enc _ => lifted os started H enc)
theorem proved : Rows.WirePlaysSaid := over
#print axioms proved
end Go.Proofs.Ytehicbehljfkhaa.wirePlays
namespace Go.Proofs.Ytehicbehljfkhaa
/-- The row, under a short name, for the claim. -/
theorem wirePlays_holds : Rows.WirePlaysSaid := wirePlays.proved
end Go.Proofs.Ytehicbehljfkhaa
