/- The law TallyPlays: out of its plain statement and the walk of its code. Written by this work's program. -/
import Derived.Test.YtehicbehljfkhaaRows
import Derived.Test.YtehicbehljfkhaaPTallyPlaysx1
import Derived.Test.YtehicbehljfkhaaPureTallyPlays
import Derived.Test.YtehicbehljfkhaaGvOpen
import Derived.WalkKit
import Derived.ProofKit
import Derived.OpenShut
import Derived.ShutString
import Derived.ChangeOld
import Derived.Below
import Derived.SizedLaws
import Derived.ChangeArms
namespace Go.Proofs.Ytehicbehljfkhaa.tallyPlays
open Go.ChangeShapes Go.WideShapes Go.ChangeAt Go.RowKit Go.Proofs.Ytehicbehljfkhaa.PTallyPlays Go.Proofs.YtehicbehljfkhaaW.PrintWords
open Go.ChangeMaps (open_string shut_string)
set_option linter.unusedVariables false
theorem own : ownKnob Try.prog.godebug = none := by kernel_rfl
theorem laidOut : laidOutB Try.prog = true := by kernel_rfl
theorem cells52 : Try.prog.cellsOf 52 = 3 := by kernel_rfl
theorem cells3 : Try.prog.cellsOf 3 = 1 := by kernel_rfl
theorem cells4 : Try.prog.cellsOf 4 = 1 := by kernel_rfl
theorem cells50 : Try.prog.cellsOf 50 = 1 := by kernel_rfl
set_option maxRecDepth 100000 in
theorem open_S52 {H : Type} {enc : TypeId × Value → H} {w : World} {base : Nat} {spare : Nat → Bool} {held : Bool} {n : Nat} {cs : List Value} {y : DataW H × List MemPlace} (h : DataW.trod enc Try.prog w base spare held n 52 cs = some y) : ∃ s : S52, cs = [.int .i64 ((s).f0), .int .u64 ((s).f1), .bool ((s).f2)] ∧ ((Lit.int .i64 (s).f0).wf = true ∧ (Lit.int .u64 (s).f1).wf = true) := by
  obtain ⟨xs, m, _, _, hlen, hxl, hf⟩ := DataW.trod_struct Try.underlying52 h
  rw [cells52] at hlen
  obtain ⟨c0, cs0_, rfl, hl0_⟩ := Gv.list_cons hlen
  obtain ⟨c1, cs1_, rfl, hl1_⟩ := Gv.list_cons hl0_
  obtain ⟨c2, cs2_, rfl, hl2_⟩ := Gv.list_cons hl1_
  obtain rfl := List.eq_nil_of_length_eq_zero hl2_
  have hxl2 : xs.length = 3 := hxl
  obtain ⟨y0, xs0_, rfl, hx0_⟩ := Gv.list_cons hxl2
  obtain ⟨y1, xs1_, rfl, hx1_⟩ := Gv.list_cons hx0_
  obtain ⟨y2, xs2_, rfl, hx2_⟩ := Gv.list_cons hx1_
  obtain rfl := List.eq_nil_of_length_eq_zero hx2_
  have g0 : DataW.trod enc Try.prog w base spare held m 3 [c0] = some y0 := by
    have h0 : DataW.trod enc Try.prog w base spare held m 3 (([c0, c1, c2].drop 0).take (Try.prog.cellsOf 3)) = [y0, y1, y2][0]? := hf 0 _ rfl
    rw [cells3] at h0
    exact h0
  have g1 : DataW.trod enc Try.prog w base spare held m 50 [c1] = some y1 := by
    have h0 : DataW.trod enc Try.prog w base spare held m 50 (([c0, c1, c2].drop 1).take (Try.prog.cellsOf 50)) = [y0, y1, y2][1]? := hf 1 _ rfl
    rw [cells50] at h0
    exact h0
  have g2 : DataW.trod enc Try.prog w base spare held m 4 [c2] = some y2 := by
    have h0 : DataW.trod enc Try.prog w base spare held m 4 (([c0, c1, c2].drop 2).take (Try.prog.cellsOf 4)) = [y0, y1, y2][2]? := hf 2 _ rfl
    rw [cells4] at h0
    exact h0
  obtain ⟨f0, e0, _, w0⟩ := DataW.trod_int Try.underlying3 g0
  simp only [List.cons.injEq, and_true] at e0
  obtain rfl := e0
  obtain ⟨f1, e1, _, w1⟩ := DataW.trod_int Try.underlying50 g1
  simp only [List.cons.injEq, and_true] at e1
  obtain rfl := e1
  obtain ⟨f2, e2, _⟩ := DataW.trod_bool Try.underlying4 g2
  simp only [List.cons.injEq, and_true] at e2
  obtain rfl := e2
  exact ⟨⟨f0, f1, f2⟩, rfl, ⟨w0, w1⟩⟩
set_option maxRecDepth 100000 in
theorem lifted (os : Os) (started : os.Started) (H : Type) (enc : TypeId × Value → H) :
    ReturnsInHanded {} Try.checked os 6 .any (Rows.tallyPlaysSpec.pre6 enc Try.prog Try.f6 Rows.tallyPlaysRow.domain false) (Rows.tallyPlaysSpec.post enc Try.prog Try.f6 false true false false) := by
  refine returnsInHanded_of_change_sized (C := Try.checked) own started (by kernel_rfl) Try.func6
    (ChangeSpec.witness6 (enc := enc) (C := Try.checked) false ⟨#[], #[.slice none 0 0], []⟩ 8 (by kernel_rfl) (by kernel_rfl) (by kernel_rfl) (by kernel_rfl)) ?_
  intro W base args ds gs before hval0 hW hcnd hsz0 _
  have hsz : (DataW.weightsEach Try.prog (Try.f6.params.toList ++ Rows.tallyPlaysSpec.plain.varTypes Try.prog) (ds ++ gs)).all (· ≤ reachBytes) = true := hsz0
  have hval : ∀ (j : Nat) t v, Try.f6.params[j]? = some t → args[j]? = some v → Value.okWide Try.prog W .any base t v := hval0
  have hW' := hW
  obtain ⟨p, q, hA0, hV, rfl, hfz, hnd⟩ := hW
  have hA : DataW.TrodAll enc Try.prog W 0 (fun _ => true) true Try.f6.params.toList args.toList ds p := hA0
  rw [Try.params6] at hA hval hsz
  obtain ⟨v0, vs0, d0, ds0, p0, q0, hargs, rfl, rfl, h0, r0⟩ := trodAll_cons hA
  obtain ⟨rfl, rfl, rfl⟩ := trodAll_nil r0
  obtain rfl : args = #[v0] := by cases args; simp_all
  obtain ⟨rfl, rfl⟩ := trodVars_none hV
  obtain ⟨A0, len0, cap0, rfl⟩ := okWide_slice Try.underlying47 (hval 0 47 v0 rfl rfl)
  have k0 := h0
  have lt0 : ∀ x ∈ p0, x.block < W.heap.size := by obtain ⟨m, hm⟩ := k0; exact DataW.trod_lt m _ _ _ hm
  obtain ⟨l0, hl0, hlc0, hlm0, hr0, hg0, hx0⟩ : ∃ l : List (S52), l.length = len0 ∧ len0 ≤ cap0 ∧ len0 ≤ maxLen ∧ Kd.C k52 W A0 len0 l ∧ (∀ x ∈ l, (Lit.int .i64 (x).f0).wf = true ∧ (Lit.int .u64 (x).f1).wf = true) ∧ ((len0 = 0) ∨ ∃ es sp, d0 = .slice es sp ∧ len0 ≤ es.length) := by
    obtain ⟨fuel, hf⟩ := h0
    exact Gv.open_slice_kd (d := k52) (good := fun x => (Lit.int .i64 (x).f0).wf = true ∧ (Lit.int .u64 (x).f1).wf = true) Try.underlying47 (by kernel_rfl) (fun hh => by obtain ⟨s, rfl, hg⟩ := open_S52 hh; exact ⟨s, k52_mk _ s, hg⟩) hf
  have y0 : len0 * 24 ≤ 140737488351232 := Gv.sized_slice_kd hsz (j := 0) (t := 47) rfl rfl Try.underlying47 (by kernel_rfl) hx0
  subst hl0
  clear hA0 hval0 hsz0 hsz
  refine (PTallyPlays.carousellaw07_TallyPlays.walk Pure.TallyPlays A0 cap0 l0 W hr0 hlc0 hlm0 y0 hg0).mono fun e W' ⟨he, bel⟩ => ?_
  subst he
  exact ⟨_, rfl, _, _, _, [], _, [], hW', trodAll_mk1 (shut_bool Try.underlying4 _), (trodAll_cons_mk (Below.trod laidOut (by kernel_rfl) (of_decide_eq_true (by kernel_rfl)) k0 bel lt0) trodAll_mk0), rfl, bel.frame _, fun h => by cases h⟩
theorem over : Rows.tallyPlaysRow.holds Try.pinned (OpenSpec.ofChange Rows.tallyPlaysSpec) :=
  OpenClaim.holds_of_wide 6 Try.f6 rfl rfl rfl rfl rfl rfl rfl ⟨rfl, rfl, rfl, rfl, rfl⟩ rfl rfl rfl rfl rfl (by kernel_rfl) Try.func6 (by kernel_rfl)
    (of_decide_eq_true (by kernel_rfl)) (by unfold Func.isWrapper; first | (rw [if_pos (by decide +kernel)]; kernel_rfl) | (rw [if_neg (by decide +kernel)]; exact ⟨rfl, rfl⟩))
    (fun os started H enc _ => lifted os started H enc)
theorem proved : Rows.TallyPlaysSaid := over
#print axioms proved
end Go.Proofs.Ytehicbehljfkhaa.tallyPlays
namespace Go.Proofs.Ytehicbehljfkhaa
/-- The row, under a short name, for the claim. -/
theorem tallyPlays_holds : Rows.TallyPlaysSaid := tallyPlays.proved
end Go.Proofs.Ytehicbehljfkhaa
