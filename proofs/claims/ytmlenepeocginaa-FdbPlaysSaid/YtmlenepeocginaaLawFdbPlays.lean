/- The law FdbPlays: out of its plain statement and the walk of its code. Written by this work's program. -/
import Derived.Test.YtmlenepeocginaaRows
import Derived.Test.YtmlenepeocginaaPFdbPlaysx5
import Derived.Test.YtmlenepeocginaaPureFdbPlays
import Derived.Test.YtmlenepeocginaaGvOpen
import Derived.WalkKit
import Derived.ProofKit
import Derived.OpenShut
import Derived.ShutString
import Derived.ChangeOld
import Derived.Below
import Derived.SizedLaws
import Derived.ChangeArms
namespace Go.Proofs.Ytmlenepeocginaa.fdbPlays
open Go.ChangeShapes Go.WideShapes Go.ChangeAt Go.RowKit Go.Proofs.Ytmlenepeocginaa.PFdbPlays Go.Proofs.YtmlenepeocginaaW.PrintWords
open Go.ChangeMaps (open_string shut_string)
set_option linter.unusedVariables false
theorem own : ownKnob Try.prog.godebug = none := by kernel_rfl
theorem laidOut : laidOutB Try.prog = true := by kernel_rfl
theorem cells38 : Try.prog.cellsOf 38 = 5 := by kernel_rfl
theorem cells3 : Try.prog.cellsOf 3 = 1 := by kernel_rfl
theorem cells5 : Try.prog.cellsOf 5 = 1 := by kernel_rfl
theorem cells35 : Try.prog.cellsOf 35 = 1 := by kernel_rfl
theorem cells36 : Try.prog.cellsOf 36 = 1 := by kernel_rfl
set_option maxRecDepth 100000 in
theorem open_S38 {H : Type} {enc : TypeId × Value → H} {w : World} {base : Nat} {spare : Nat → Bool} {held : Bool} {n : Nat} {cs : List Value} {y : DataW H × List MemPlace} (h : DataW.trod enc Try.prog w base spare held n 38 cs = some y) : ∃ s : S38, cs = [.int .u8 ((s).f0), .int .u16 ((s).f1), .int .u16 ((s).f2), .int .u64 ((s).f3), .int .i64 ((s).f4)] ∧ ((Lit.int .u8 (s).f0).wf = true ∧ (Lit.int .u16 (s).f1).wf = true ∧ (Lit.int .u16 (s).f2).wf = true ∧ (Lit.int .u64 (s).f3).wf = true ∧ (Lit.int .i64 (s).f4).wf = true) := by
  obtain ⟨xs, m, _, _, hlen, hxl, hf⟩ := DataW.trod_struct Try.underlying38 h
  rw [cells38] at hlen
  obtain ⟨c0, cs0_, rfl, hl0_⟩ := Gv.list_cons hlen
  obtain ⟨c1, cs1_, rfl, hl1_⟩ := Gv.list_cons hl0_
  obtain ⟨c2, cs2_, rfl, hl2_⟩ := Gv.list_cons hl1_
  obtain ⟨c3, cs3_, rfl, hl3_⟩ := Gv.list_cons hl2_
  obtain ⟨c4, cs4_, rfl, hl4_⟩ := Gv.list_cons hl3_
  obtain rfl := List.eq_nil_of_length_eq_zero hl4_
  have hxl2 : xs.length = 5 := hxl
  obtain ⟨y0, xs0_, rfl, hx0_⟩ := Gv.list_cons hxl2
  obtain ⟨y1, xs1_, rfl, hx1_⟩ := Gv.list_cons hx0_
  obtain ⟨y2, xs2_, rfl, hx2_⟩ := Gv.list_cons hx1_
  obtain ⟨y3, xs3_, rfl, hx3_⟩ := Gv.list_cons hx2_
  obtain ⟨y4, xs4_, rfl, hx4_⟩ := Gv.list_cons hx3_
  obtain rfl := List.eq_nil_of_length_eq_zero hx4_
  have g0 : DataW.trod enc Try.prog w base spare held m 5 [c0] = some y0 := by
    have h0 : DataW.trod enc Try.prog w base spare held m 5 (([c0, c1, c2, c3, c4].drop 0).take (Try.prog.cellsOf 5)) = [y0, y1, y2, y3, y4][0]? := hf 0 _ rfl
    rw [cells5] at h0
    exact h0
  have g1 : DataW.trod enc Try.prog w base spare held m 35 [c1] = some y1 := by
    have h0 : DataW.trod enc Try.prog w base spare held m 35 (([c0, c1, c2, c3, c4].drop 1).take (Try.prog.cellsOf 35)) = [y0, y1, y2, y3, y4][1]? := hf 1 _ rfl
    rw [cells35] at h0
    exact h0
  have g2 : DataW.trod enc Try.prog w base spare held m 35 [c2] = some y2 := by
    have h0 : DataW.trod enc Try.prog w base spare held m 35 (([c0, c1, c2, c3, c4].drop 2).take (Try.prog.cellsOf 35)) = [y0, y1, y2, y3, y4][2]? := hf 2 _ rfl
    rw [cells35] at h0
    exact h0
  have g3 : DataW.trod enc Try.prog w base spare held m 36 [c3] = some y3 := by
    have h0 : DataW.trod enc Try.prog w base spare held m 36 (([c0, c1, c2, c3, c4].drop 3).take (Try.prog.cellsOf 36)) = [y0, y1, y2, y3, y4][3]? := hf 3 _ rfl
    rw [cells36] at h0
    exact h0
  have g4 : DataW.trod enc Try.prog w base spare held m 3 [c4] = some y4 := by
    have h0 : DataW.trod enc Try.prog w base spare held m 3 (([c0, c1, c2, c3, c4].drop 4).take (Try.prog.cellsOf 3)) = [y0, y1, y2, y3, y4][4]? := hf 4 _ rfl
    rw [cells3] at h0
    exact h0
  obtain ⟨f0, e0, _, w0⟩ := DataW.trod_int Try.underlying5 g0
  simp only [List.cons.injEq, and_true] at e0
  obtain rfl := e0
  obtain ⟨f1, e1, _, w1⟩ := DataW.trod_int Try.underlying35 g1
  simp only [List.cons.injEq, and_true] at e1
  obtain rfl := e1
  obtain ⟨f2, e2, _, w2⟩ := DataW.trod_int Try.underlying35 g2
  simp only [List.cons.injEq, and_true] at e2
  obtain rfl := e2
  obtain ⟨f3, e3, _, w3⟩ := DataW.trod_int Try.underlying36 g3
  simp only [List.cons.injEq, and_true] at e3
  obtain rfl := e3
  obtain ⟨f4, e4, _, w4⟩ := DataW.trod_int Try.underlying3 g4
  simp only [List.cons.injEq, and_true] at e4
  obtain rfl := e4
  exact ⟨⟨f0, f1, f2, f3, f4⟩, rfl, ⟨w0, w1, w2, w3, w4⟩⟩
set_option maxRecDepth 100000 in
theorem lifted (os : Os) (started : os.Started) (H : Type) (enc : TypeId × Value → H) :
    ReturnsInHanded {} Try.checked os 3 .any (Rows.fdbPlaysSpec.pre6 enc Try.prog Try.f3 Rows.fdbPlaysRow.domain false) (Rows.fdbPlaysSpec.post enc Try.prog Try.f3 false true false false) := by
  refine returnsInHanded_of_change_sized (C := Try.checked) own started (by kernel_rfl) Try.func3
    (ChangeSpec.witness6 (enc := enc) (C := Try.checked) false ⟨#[], #[.int .i64 0, .int .i64 0, .slice none 0 0], []⟩ 8 (by kernel_rfl) (by kernel_rfl) (by kernel_rfl) (by kernel_rfl)) ?_
  intro W base args ds gs before hval0 hW hcnd hsz0 _
  have hsz : (DataW.weightsEach Try.prog (Try.f3.params.toList ++ Rows.fdbPlaysSpec.plain.varTypes Try.prog) (ds ++ gs)).all (· ≤ reachBytes) = true := hsz0
  have hval : ∀ (j : Nat) t v, Try.f3.params[j]? = some t → args[j]? = some v → Value.okWide Try.prog W .any base t v := hval0
  have hW' := hW
  obtain ⟨p, q, hA0, hV, rfl, hfz, hnd⟩ := hW
  have hA : DataW.TrodAll enc Try.prog W 0 (fun _ => true) true Try.f3.params.toList args.toList ds p := hA0
  rw [Try.params3] at hA hval hsz
  obtain ⟨v0, vs0, d0, ds0, p0, q0, hargs, rfl, rfl, h0, r0⟩ := trodAll_cons hA
  obtain ⟨v1, vs1, d1, ds1, p1, q1, rfl, rfl, rfl, h1, r1⟩ := trodAll_cons r0
  obtain ⟨v2, vs2, d2, ds2, p2, q2, rfl, rfl, rfl, h2, r2⟩ := trodAll_cons r1
  obtain ⟨rfl, rfl, rfl⟩ := trodAll_nil r2
  obtain rfl : args = #[v0, v1, v2] := by cases args; simp_all
  obtain ⟨rfl, rfl⟩ := trodVars_none hV
  obtain ⟨a0, rfl, rfl, rfl, w0⟩ := open_int Try.underlying3 (hval 0 3 v0 rfl rfl) h0
  obtain ⟨a1, rfl, rfl, rfl, w1⟩ := open_int Try.underlying2 (hval 1 2 v1 rfl rfl) h1
  obtain ⟨A2, len2, cap2, rfl⟩ := okWide_slice Try.underlying22 (hval 2 22 v2 rfl rfl)
  have k2 := h2
  have lt2 : ∀ x ∈ p2, x.block < W.heap.size := by obtain ⟨m, hm⟩ := k2; exact DataW.trod_lt m _ _ _ hm
  obtain ⟨l2, hl2, hlc2, hlm2, hr2, hg2, hx2⟩ : ∃ l : List (S38), l.length = len2 ∧ len2 ≤ cap2 ∧ len2 ≤ maxLen ∧ Kd.C k38 W A2 len2 l ∧ (∀ x ∈ l, (Lit.int .u8 (x).f0).wf = true ∧ (Lit.int .u16 (x).f1).wf = true ∧ (Lit.int .u16 (x).f2).wf = true ∧ (Lit.int .u64 (x).f3).wf = true ∧ (Lit.int .i64 (x).f4).wf = true) ∧ ((len2 = 0) ∨ ∃ es sp, d2 = .slice es sp ∧ len2 ≤ es.length) := by
    obtain ⟨fuel, hf⟩ := h2
    exact Gv.open_slice_kd (d := k38) (good := fun x => (Lit.int .u8 (x).f0).wf = true ∧ (Lit.int .u16 (x).f1).wf = true ∧ (Lit.int .u16 (x).f2).wf = true ∧ (Lit.int .u64 (x).f3).wf = true ∧ (Lit.int .i64 (x).f4).wf = true) Try.underlying22 (by kernel_rfl) (fun hh => by obtain ⟨s, rfl, hg⟩ := open_S38 hh; exact ⟨s, k38_mk _ s, hg⟩) hf
  have y2 : len2 * 24 ≤ 140737488351232 := Gv.sized_slice_kd hsz (j := 2) (t := 22) rfl rfl Try.underlying22 (by kernel_rfl) hx2
  subst hl2
  clear hA0 hval0 hsz0 hsz
  refine (PFdbPlays.carousellaw11_FdbPlays.walk Pure.FdbPlays a0 a1 A2 cap2 l2 W w0 w1 hr2 hlc2 hlm2 y2 hg2).mono fun e W' ⟨he, bel⟩ => ?_
  subst he
  exact ⟨_, rfl, _, _, _, [], _, [], hW', trodAll_mk1 (shut_bool Try.underlying4 _), (trodAll_cons_mk (shut_int Try.underlying3 w0) (trodAll_cons_mk (shut_int Try.underlying2 w1) (trodAll_cons_mk (Below.trod laidOut (by kernel_rfl) (of_decide_eq_true (by kernel_rfl)) k2 bel lt2) trodAll_mk0))), rfl, bel.frame _, fun h => by cases h⟩
theorem over : Rows.fdbPlaysRow.holds Try.pinned (OpenSpec.ofChange Rows.fdbPlaysSpec) :=
  OpenClaim.holds_of_wide 3 Try.f3 rfl rfl rfl rfl rfl rfl rfl ⟨rfl, rfl, rfl, rfl, rfl⟩ rfl rfl rfl rfl rfl (by kernel_rfl) Try.func3 (by kernel_rfl)
    (of_decide_eq_true (by kernel_rfl)) (by unfold Func.isWrapper; first | (rw [if_pos (by decide +kernel)]; kernel_rfl) | (rw [if_neg (by decide +kernel)]; exact ⟨rfl, rfl⟩))
    (fun os started H enc _ => lifted os started H enc)
theorem proved : Rows.FdbPlaysSaid := over
#print axioms proved
end Go.Proofs.Ytmlenepeocginaa.fdbPlays
namespace Go.Proofs.Ytmlenepeocginaa
/-- The row, under a short name, for the claim. -/
theorem fdbPlays_holds : Rows.FdbPlaysSaid := fdbPlays.proved
end Go.Proofs.Ytmlenepeocginaa
