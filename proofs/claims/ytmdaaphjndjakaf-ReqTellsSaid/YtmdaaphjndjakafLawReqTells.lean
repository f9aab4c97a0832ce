/- The law ReqTells: out of its plain statement and the walk of its code. Written by this work's program. -/
import Derived.Test.YtmdaaphjndjakafRows
import Derived.Test.YtmdaaphjndjakafPReqTellsx5
import Derived.Test.YtmdaaphjndjakafPureReqTells
import Derived.Test.YtmdaaphjndjakafGvOpen
import Derived.WalkKit
import Derived.ProofKit
import Derived.OpenShut
import Derived.ShutString
import Derived.ChangeOld
import Derived.Below
import Derived.SizedLaws
import Derived.ChangeArms
namespace Go.Proofs.Ytmdaaphjndjakaf.reqTells
open Go.ChangeShapes Go.WideShapes Go.ChangeAt Go.RowKit Go.Proofs.Ytmdaaphjndjakaf.PReqTells Go.Proofs.YtmdaaphjndjakafW.PrintWords
open Go.ChangeMaps (open_string shut_string)
set_option linter.unusedVariables false
theorem own : ownKnob Try.prog.godebug = none := by kernel_rfl
theorem laidOut : laidOutB Try.prog = true := by kernel_rfl
theorem cells26 : Try.prog.cellsOf 26 = 5 := by kernel_rfl
theorem cells4 : Try.prog.cellsOf 4 = 1 := by kernel_rfl
theorem cells22 : Try.prog.cellsOf 22 = 1 := by kernel_rfl
theorem cells24 : Try.prog.cellsOf 24 = 1 := by kernel_rfl
set_option maxRecDepth 100000 in
theorem open_S26 {H : Type} {enc : TypeId × Value → H} {w : World} {base : Nat} {spare : Nat → Bool} {held : Bool} {n : Nat} {cs : List Value} {y : DataW H × List MemPlace} (h : DataW.trod enc Try.prog w base spare held n 26 cs = some y) : ∃ s : S26, cs = [.int .u8 ((s).f0), .bool ((s).f1), .bool ((s).f2), .bool ((s).f3), .int .u64 ((s).f4)] ∧ ((Lit.int .u8 (s).f0).wf = true ∧ (Lit.int .u64 (s).f4).wf = true) := by
  obtain ⟨xs, m, _, _, hlen, hxl, hf⟩ := DataW.trod_struct Try.underlying26 h
  rw [cells26] at hlen
  obtain ⟨c0, cs0_, rfl, hl0_⟩ := Gv.list_cons hlen
  obtain ⟨c1, cs1_, rfl, hl1_⟩ := Gv.list_cons hl0_
  obtain ⟨c2, cs2_, rfl, hl2_⟩ := Gv.list_cons hl1_
  obtain ⟨c3, cs3_, rfl, hl3_⟩ := Gv.list_cons hl2_
  obtain ⟨c4, cs4_, rfl, hl4_⟩ := Gv.list_cons hl3_
  obtain rfl := List.eq_nil_of_length_eq_zero hl4_
  have hxl2 : xs.length = 5 := hxl
  obtain ⟨y0, xs0_, rfl, hx0_⟩ := Gv.list_cons hxl2
  obtain ⟨y1, xs1_, rfl, hx1_⟩ := Gv.list_cons hx0_
  obtain ⟨y2, xs2_, rfl, hx2_⟩ := Gv.list_cons hx1_
  obtain ⟨y3, xs3_, rfl, hx3_⟩ := Gv.list_cons hx2_
  obtain ⟨y4, xs4_, rfl, hx4_⟩ := Gv.list_cons hx3_
  obtain rfl := List.eq_nil_of_length_eq_zero hx4_
  have g0 : DataW.trod enc Try.prog w base spare held m 22 [c0] = some y0 := by
    have h0 : DataW.trod enc Try.prog w base spare held m 22 (([c0, c1, c2, c3, c4].drop 0).take (Try.prog.cellsOf 22)) = [y0, y1, y2, y3, y4][0]? := hf 0 _ rfl
    rw [cells22] at h0
    exact h0
  have g1 : DataW.trod enc Try.prog w base spare held m 4 [c1] = some y1 := by
    have h0 : DataW.trod enc Try.prog w base spare held m 4 (([c0, c1, c2, c3, c4].drop 1).take (Try.prog.cellsOf 4)) = [y0, y1, y2, y3, y4][1]? := hf 1 _ rfl
    rw [cells4] at h0
    exact h0
  have g2 : DataW.trod enc Try.prog w base spare held m 4 [c2] = some y2 := by
    have h0 : DataW.trod enc Try.prog w base spare held m 4 (([c0, c1, c2, c3, c4].drop 2).take (Try.prog.cellsOf 4)) = [y0, y1, y2, y3, y4][2]? := hf 2 _ rfl
    rw [cells4] at h0
    exact h0
  have g3 : DataW.trod enc Try.prog w base spare held m 4 [c3] = some y3 := by
    have h0 : DataW.trod enc Try.prog w base spare held m 4 (([c0, c1, c2, c3, c4].drop 3).take (Try.prog.cellsOf 4)) = [y0, y1, y2, y3, y4][3]? := hf 3 _ rfl
    rw [cells4] at h0
    exact h0
  have g4 : DataW.trod enc Try.prog w base spare held m 24 [c4] = some y4 := by
    have h0 : DataW.trod enc Try.prog w base spare held m 24 (([c0, c1, c2, c3, c4].drop 4).take (Try.prog.cellsOf 24)) = [y0, y1, y2, y3, y4][4]? := hf 4 _ rfl
    rw [cells24] at h0
    exact h0
  obtain ⟨f0, e0, _, w0⟩ := DataW.trod_int Try.underlying22 g0
  simp only [List.cons.injEq, and_true] at e0
  obtain rfl := e0
  obtain ⟨f1, e1, _⟩ := DataW.trod_bool Try.underlying4 g1
  simp only [List.cons.injEq, and_true] at e1
  obtain rfl := e1
  obtain ⟨f2, e2, _⟩ := DataW.trod_bool Try.underlying4 g2
  simp only [List.cons.injEq, and_true] at e2
  obtain rfl := e2
  obtain ⟨f3, e3, _⟩ := DataW.trod_bool Try.underlying4 g3
  simp only [List.cons.injEq, and_true] at e3
  obtain rfl := e3
  obtain ⟨f4, e4, _, w4⟩ := DataW.trod_int Try.underlying24 g4
  simp only [List.cons.injEq, and_true] at e4
  obtain rfl := e4
  exact ⟨⟨f0, f1, f2, f3, f4⟩, rfl, ⟨w0, w4⟩⟩
set_option maxRecDepth 100000 in
theorem lifted (os : Os) (started : os.Started) (H : Type) (enc : TypeId × Value → H) :
    ReturnsInHanded {} Try.checked os 3 .any (Rows.reqTellsSpec.pre6 enc Try.prog Try.f3 Rows.reqTellsRow.domain false) (Rows.reqTellsSpec.post enc Try.prog Try.f3 false true false false) := by
  refine returnsInHanded_of_change_sized (C := Try.checked) own started (by kernel_rfl) Try.func3
    (ChangeSpec.witness6 (enc := enc) (C := Try.checked) false ⟨#[], #[.agg #[.int .u8 0, .bool false, .bool false, .bool false, .int .u64 0], .slice none 0 0], []⟩ 8 (by kernel_rfl) (by kernel_rfl) (by kernel_rfl) (by kernel_rfl)) ?_
  intro W base args ds gs before hval0 hW hcnd hsz0 _
  have hsz : (DataW.weightsEach Try.prog (Try.f3.params.toList ++ Rows.reqTellsSpec.plain.varTypes Try.prog) (ds ++ gs)).all (· ≤ reachBytes) = true := hsz0
  have hval : ∀ (j : Nat) t v, Try.f3.params[j]? = some t → args[j]? = some v → Value.okWide Try.prog W .any base t v := hval0
  have hW' := hW
  obtain ⟨p, q, hA0, hV, rfl, hfz, hnd⟩ := hW
  have hA : DataW.TrodAll enc Try.prog W 0 (fun _ => true) true Try.f3.params.toList args.toList ds p := hA0
  rw [Try.params3] at hA hval hsz
  obtain ⟨v0, vs0, d0, ds0, p0, q0, hargs, rfl, rfl, h0, r0⟩ := trodAll_cons hA
  obtain ⟨v1, vs1, d1, ds1, p1, q1, rfl, rfl, rfl, h1, r1⟩ := trodAll_cons r0
  obtain ⟨rfl, rfl, rfl⟩ := trodAll_nil r1
  obtain rfl : args = #[v0, v1] := by cases args; simp_all
  obtain ⟨rfl, rfl⟩ := trodVars_none hV
  obtain ⟨cs0, rfl, hcs0⟩ := okWide_struct Try.underlying26 (hval 0 26 v0 rfl rfl)
  have k0 := h0
  have lt0 : ∀ x ∈ p0, x.block < W.heap.size := by obtain ⟨m, hm⟩ := k0; exact DataW.trod_lt m _ _ _ hm
  obtain ⟨s0, es0, g0⟩ : ∃ s : S26, cs0 = #[.int .u8 ((s).f0), .bool ((s).f1), .bool ((s).f2), .bool ((s).f3), .int .u64 ((s).f4)] ∧ ((Lit.int .u8 (s).f0).wf = true ∧ (Lit.int .u64 (s).f4).wf = true) := by
    obtain ⟨fuel, hf⟩ := h0
    obtain ⟨s, hs, hg⟩ := open_S26 (cs := cs0.toList) hf
    refine ⟨s, ?_, hg⟩
    apply Array.toList_inj.1
    rw [hs]
  subst es0
  obtain ⟨A1, len1, cap1, rfl⟩ := okWide_slice Try.underlying27 (hval 1 27 v1 rfl rfl)
  have k1 := h1
  have lt1 : ∀ x ∈ p1, x.block < W.heap.size := by obtain ⟨m, hm⟩ := k1; exact DataW.trod_lt m _ _ _ hm
  obtain ⟨l1, hl1, hlc1, hlm1, hr1, hg1, hx1⟩ : ∃ l : List Int, l.length = len1 ∧ len1 ≤ cap1 ∧ len1 ≤ maxLen ∧ Kd.C (Kd.int .i64) W A1 len1 l ∧ (∀ x ∈ l, (Lit.int .i64 x).wf = true) ∧ ((len1 = 0) ∨ ∃ es sp, d1 = .slice es sp ∧ len1 ≤ es.length) := by
    obtain ⟨fuel, hf⟩ := h1
    exact Gv.open_slice_kd (d := (Kd.int .i64)) (good := fun x => (Lit.int .i64 x).wf = true) Try.underlying27 (by kernel_rfl) (Gv.open_el_int Try.underlying3) hf
  have y1 : len1 * 8 ≤ 140737488351232 := Gv.sized_slice_kd hsz (j := 1) (t := 27) rfl rfl Try.underlying27 (by kernel_rfl) hx1
  subst hl1
  clear hA0 hval0 hsz0 hsz
  refine (PReqTells.carousellaw12_ReqTells.walk Pure.ReqTells (s0).f0 (s0).f1 (s0).f2 (s0).f3 (s0).f4 A1 cap1 l1 W g0.1 g0.2 hr1 hlc1 hlm1 y1 hg1).mono fun e W' ⟨he, bel⟩ => ?_
  subst he
  exact ⟨_, rfl, _, _, _, [], _, [], hW', trodAll_mk1 (shut_bool Try.underlying4 _), (trodAll_cons_mk (Below.trod laidOut (by kernel_rfl) (of_decide_eq_true (by kernel_rfl)) k0 bel lt0) (trodAll_cons_mk (Below.trod laidOut (by kernel_rfl) (of_decide_eq_true (by kernel_rfl)) k1 bel lt1) trodAll_mk0)), rfl, bel.frame _, fun h => by cases h⟩
theorem over : Rows.reqTellsRow.holds Try.pinned (OpenSpec.ofChange Rows.reqTellsSpec) :=
  OpenClaim.holds_of_wide 3 Try.f3 rfl rfl rfl rfl rfl rfl rfl ⟨rfl, rfl, rfl, rfl, rfl⟩ rfl rfl rfl rfl rfl (by kernel_rfl) Try.func3 (by kernel_rfl)
    (of_decide_eq_true (by kernel_rfl)) (by unfold Func.isWrapper; first | (rw [if_pos (by decide +kernel)]; kernel_rfl) | (rw [if_neg (by decide +kernel)]; exact ⟨rfl, rfl⟩))
    (fun os started H enc _ => lifted os started H enc)
theorem proved : Rows.ReqTellsSaid := over
#print axioms proved
end Go.Proofs.Ytmdaaphjndjakaf.reqTells
namespace Go.Proofs.Ytmdaaphjndjakaf
/-- The row, under a short name, for the claim. -/
theorem reqTells_holds : Rows.ReqTellsSaid := reqTells.proved
end Go.Proofs.Ytmdaaphjndjakaf
