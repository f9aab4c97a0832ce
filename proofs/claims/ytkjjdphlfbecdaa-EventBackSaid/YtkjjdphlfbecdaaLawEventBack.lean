/- The law EventBack: out of its plain statement and the walk of its code. Written by this work's program. -/
import Derived.Test.YtkjjdphlfbecdaaRows
import Derived.Test.YtkjjdphlfbecdaaPAllx8
import Derived.Test.YtkjjdphlfbecdaaPureEventBack
import Derived.Test.YtkjjdphlfbecdaaGvOpen
import Derived.WalkKit
import Derived.ProofKit
import Derived.OpenShut
import Derived.ShutString
import Derived.ChangeOld
import Derived.Below
import Derived.SizedLaws
import Derived.ChangeArms
namespace Go.Proofs.Ytkjjdphlfbecdaa.eventBack
open Go.ChangeShapes Go.WideShapes Go.ChangeAt Go.RowKit Go.Proofs.Ytkjjdphlfbecdaa.PAll Go.Proofs.YtkjjdphlfbecdaaW.PrintWords
open Go.ChangeMaps (open_string shut_string)
set_option linter.unusedVariables false
theorem own : ownKnob Try.prog.godebug = none := by kernel_rfl
theorem laidOut : laidOutB Try.prog = true := by kernel_rfl
theorem cells28 : Try.prog.cellsOf 28 = 5 := by kernel_rfl
theorem cells5 : Try.prog.cellsOf 5 = 1 := by kernel_rfl
theorem cells9 : Try.prog.cellsOf 9 = 1 := by kernel_rfl
theorem cells26 : Try.prog.cellsOf 26 = 1 := by kernel_rfl
set_option maxRecDepth 100000 in
theorem open_S28 {H : Type} {enc : TypeId × Value → H} {w : World} {base : Nat} {spare : Nat → Bool} {held : Bool} {n : Nat} {cs : List Value} {y : DataW H × List MemPlace} (h : DataW.trod enc Try.prog w base spare held n 28 cs = some y) : ∃ s : S28, cs = [.int .u8 ((s).f0), .int .u8 ((s).f1), .int .u8 ((s).f2), .int .u8 ((s).f3), .string ((s).f4)] ∧ ((Lit.int .u8 (s).f0).wf = true ∧ (Lit.int .u8 (s).f1).wf = true ∧ (Lit.int .u8 (s).f2).wf = true ∧ (Lit.int .u8 (s).f3).wf = true ∧ (s).f4.size ≤ 9223372036854775807) := by
  obtain ⟨xs, m, _, _, hlen, hxl, hf⟩ := DataW.trod_struct Try.underlying28 h
  rw [cells28] at hlen
  obtain ⟨c0, cs0_, rfl, hl0_⟩ := Gv.list_cons hlen
  obtain ⟨c1, cs1_, rfl, hl1_⟩ := Gv.list_cons hl0_
  obtain ⟨c2, cs2_, rfl, hl2_⟩ := Gv.list_cons hl1_
  obtain ⟨c3, cs3_, rfl, hl3_⟩ := Gv.list_cons hl2_
  obtain ⟨c4, cs4_, rfl, hl4_⟩ := Gv.list_cons hl3_
  obtain rfl := List.eq_nil_of_length_eq_zero hl4_
  have hxl2 : xs.length = 5 := hxl
  obtain ⟨y0, xs0_, rfl, hx0_⟩ := Gv.list_cons hxl2
  obtain ⟨y1, xs1_, rfl, hx1_⟩ := Gv.list_cons hx0_
  obtain ⟨y2, xs2_, rfl, hx2_⟩ := Gv.list_cons hx1_
  obtain ⟨y3, xs3_, rfl, hx3_⟩ := Gv.list_cons hx2_
  obtain ⟨y4, xs4_, rfl, hx4_⟩ := Gv.list_cons hx3_
  obtain rfl := List.eq_nil_of_length_eq_zero hx4_
  have g0 : DataW.trod enc Try.prog w base spare held m 26 [c0] = some y0 := by
    have h0 : DataW.trod enc Try.prog w base spare held m 26 (([c0, c1, c2, c3, c4].drop 0).take (Try.prog.cellsOf 26)) = [y0, y1, y2, y3, y4][0]? := hf 0 _ rfl
    rw [cells26] at h0
    exact h0
  have g1 : DataW.trod enc Try.prog w base spare held m 5 [c1] = some y1 := by
    have h0 : DataW.trod enc Try.prog w base spare held m 5 (([c0, c1, c2, c3, c4].drop 1).take (Try.prog.cellsOf 5)) = [y0, y1, y2, y3, y4][1]? := hf 1 _ rfl
    rw [cells5] at h0
    exact h0
  have g2 : DataW.trod enc Try.prog w base spare held m 5 [c2] = some y2 := by
    have h0 : DataW.trod enc Try.prog w base spare held m 5 (([c0, c1, c2, c3, c4].drop 2).take (Try.prog.cellsOf 5)) = [y0, y1, y2, y3, y4][2]? := hf 2 _ rfl
    rw [cells5] at h0
    exact h0
  have g3 : DataW.trod enc Try.prog w base spare held m 5 [c3] = some y3 := by
    have h0 : DataW.trod enc Try.prog w base spare held m 5 (([c0, c1, c2, c3, c4].drop 3).take (Try.prog.cellsOf 5)) = [y0, y1, y2, y3, y4][3]? := hf 3 _ rfl
    rw [cells5] at h0
    exact h0
  have g4 : DataW.trod enc Try.prog w base spare held m 9 [c4] = some y4 := by
    have h0 : DataW.trod enc Try.prog w base spare held m 9 (([c0, c1, c2, c3, c4].drop 4).take (Try.prog.cellsOf 9)) = [y0, y1, y2, y3, y4][4]? := hf 4 _ rfl
    rw [cells9] at h0
    exact h0
  obtain ⟨f0, e0, _, w0⟩ := DataW.trod_int Try.underlying26 g0
  simp only [List.cons.injEq, and_true] at e0
  obtain rfl := e0
  obtain ⟨f1, e1, _, w1⟩ := DataW.trod_int Try.underlying5 g1
  simp only [List.cons.injEq, and_true] at e1
  obtain rfl := e1
  obtain ⟨f2, e2, _, w2⟩ := DataW.trod_int Try.underlying5 g2
  simp only [List.cons.injEq, and_true] at e2
  obtain rfl := e2
  obtain ⟨f3, e3, _, w3⟩ := DataW.trod_int Try.underlying5 g3
  simp only [List.cons.injEq, and_true] at e3
  obtain rfl := e3
  obtain ⟨f4, e4, _, w4⟩ := DataW.trod_string Try.underlying9 g4
  simp only [List.cons.injEq, and_true] at e4
  obtain rfl := e4
  exact ⟨⟨f0, f1, f2, f3, f4⟩, rfl, ⟨w0, w1, w2, w3, w4⟩⟩
set_option maxRecDepth 100000 in
theorem lifted (os : Os) (started : os.Started) (H : Type) (enc : TypeId × Value → H) :
    ReturnsInHanded {} Try.checked os 5 .any (Rows.eventBackSpec.pre6 enc Try.prog Try.f5 Rows.eventBackRow.domain false) (Rows.eventBackSpec.post enc Try.prog Try.f5 false true false false) := by
  refine returnsInHanded_of_change_sized (C := Try.checked) own started (by kernel_rfl) Try.func5
    (ChangeSpec.witness6 (enc := enc) (C := Try.checked) false ⟨#[], #[.slice none 0 0, .string ByteArray.empty], []⟩ 8 (by kernel_rfl) (by kernel_rfl) (by kernel_rfl) (by kernel_rfl)) ?_
  intro W base args ds gs before hval0 hW hcnd hsz0 _
  have hsz : (DataW.weightsEach Try.prog (Try.f5.params.toList ++ Rows.eventBackSpec.plain.varTypes Try.prog) (ds ++ gs)).all (· ≤ reachBytes) = true := hsz0
  have hval : ∀ (j : Nat) t v, Try.f5.params[j]? = some t → args[j]? = some v → Value.okWide Try.prog W .any base t v := hval0
  have hW' := hW
  obtain ⟨p, q, hA0, hV, rfl, hfz, hnd⟩ := hW
  have hA : DataW.TrodAll enc Try.prog W 0 (fun _ => true) true Try.f5.params.toList args.toList ds p := hA0
  rw [Try.params5] at hA hval hsz
  obtain ⟨v0, vs0, d0, ds0, p0, q0, hargs, rfl, rfl, h0, r0⟩ := trodAll_cons hA
  obtain ⟨v1, vs1, d1, ds1, p1, q1, rfl, rfl, rfl, h1, r1⟩ := trodAll_cons r0
  obtain ⟨rfl, rfl, rfl⟩ := trodAll_nil r1
  obtain rfl : args = #[v0, v1] := by cases args; simp_all
  obtain ⟨rfl, rfl⟩ := trodVars_none hV
  obtain ⟨A0, len0, cap0, rfl⟩ := okWide_slice Try.underlying22 (hval 0 22 v0 rfl rfl)
  have k0 := h0
  have lt0 : ∀ x ∈ p0, x.block < W.heap.size := by obtain ⟨m, hm⟩ := k0; exact DataW.trod_lt m _ _ _ hm
  obtain ⟨l0, hl0, hlc0, hlm0, hr0, hg0, hx0⟩ : ∃ l : List (S28), l.length = len0 ∧ len0 ≤ cap0 ∧ len0 ≤ maxLen ∧ Kd.C k28 W A0 len0 l ∧ (∀ x ∈ l, (Lit.int .u8 (x).f0).wf = true ∧ (Lit.int .u8 (x).f1).wf = true ∧ (Lit.int .u8 (x).f2).wf = true ∧ (Lit.int .u8 (x).f3).wf = true ∧ (x).f4.size ≤ 9223372036854775807) ∧ ((len0 = 0) ∨ ∃ es sp, d0 = .slice es sp ∧ len0 ≤ es.length) := by
    obtain ⟨fuel, hf⟩ := h0
    exact Gv.open_slice_kd (d := k28) (good := fun x => (Lit.int .u8 (x).f0).wf = true ∧ (Lit.int .u8 (x).f1).wf = true ∧ (Lit.int .u8 (x).f2).wf = true ∧ (Lit.int .u8 (x).f3).wf = true ∧ (x).f4.size ≤ 9223372036854775807) Try.underlying22 (by kernel_rfl) (fun hh => by obtain ⟨s, rfl, hg⟩ := open_S28 hh; exact ⟨s, k28_mk _ s, hg⟩) hf
  have y0 : len0 * 24 ≤ 140737488351232 := Gv.sized_slice_kd hsz (j := 0) (t := 22) rfl rfl Try.underlying22 (by kernel_rfl) hx0
  subst hl0
  obtain ⟨a1, rfl, rfl, rfl, y1⟩ := open_string Try.underlying9 (hval 1 9 v1 rfl rfl) h1
  have w1 : a1.size ≤ 140737488351232 := by
    have z := sized_string hsz (j := 1) (t := 9) rfl rfl
    rw [Array.length_toList] at z
    exact z
  clear hA0 hval0 hsz0 hsz
  refine (PAll.carousellaw22_EventBack.walk Pure.EventBack A0 cap0 l0 a1 W hr0 hlc0 hlm0 y0 hg0 w1).mono fun e W' ⟨he, bel⟩ => ?_
  subst he
  exact ⟨_, rfl, _, _, _, [], _, [], hW', trodAll_mk1 (shut_bool Try.underlying4 _), (trodAll_cons_mk (Below.trod laidOut (by kernel_rfl) (of_decide_eq_true (by kernel_rfl)) k0 bel lt0) (trodAll_cons_mk (shut_string Try.underlying9 y1) trodAll_mk0)), rfl, bel.frame _, fun h => by cases h⟩
theorem over : Rows.eventBackRow.holds Try.pinned (OpenSpec.ofChange Rows.eventBackSpec) :=
  OpenClaim.holds_of_wide 5 Try.f5 rfl rfl rfl rfl rfl rfl rfl ⟨rfl, rfl, rfl, rfl, rfl⟩ rfl rfl rfl rfl rfl (by kernel_rfl) Try.func5 (by kernel_rfl)
    (of_decide_eq_true (by kernel_rfl)) (by unfold Func.isWrapper; first | (rw [if_pos (by decide +kernel)]; kernel_rfl) | (rw [if_neg (by decide +kernel)]; exact ⟨rfl, rfl⟩))
    (fun os started H enc _ => lifted os started H enc)
theorem proved : Rows.EventBackSaid := over
#print axioms proved
end Go.Proofs.Ytkjjdphlfbecdaa.eventBack
namespace Go.Proofs.Ytkjjdphlfbecdaa
/-- The row, under a short name, for the claim. -/
theorem eventBack_holds : Rows.EventBackSaid := eventBack.proved
end Go.Proofs.Ytkjjdphlfbecdaa
