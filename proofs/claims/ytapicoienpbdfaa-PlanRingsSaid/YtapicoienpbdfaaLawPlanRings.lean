/- The law PlanRings: out of its plain statement and the walk of its code. Written by this work's program. -/
import Derived.Test.YtapicoienpbdfaaRows
import Derived.Test.YtapicoienpbdfaaPPlanRingsx6
import Derived.Test.YtapicoienpbdfaaPurePlanRings
import Derived.Test.YtapicoienpbdfaaGvOpen
import Derived.WalkKit
import Derived.ProofKit
import Derived.OpenShut
import Derived.ShutString
import Derived.ChangeOld
import Derived.Below
import Derived.SizedLaws
import Derived.ChangeArms
namespace Go.Proofs.Ytapicoienpbdfaa.planRings
open Go.ChangeShapes Go.WideShapes Go.ChangeAt Go.RowKit Go.Proofs.Ytapicoienpbdfaa.PPlanRings Go.Proofs.YtapicoienpbdfaaW.PrintWords
open Go.ChangeMaps (open_string shut_string)
set_option linter.unusedVariables false
theorem own : ownKnob Try.prog.godebug = none := by kernel_rfl
theorem laidOut : laidOutB Try.prog = true := by kernel_rfl
theorem cells24 : Try.prog.cellsOf 24 = 16 := by kernel_rfl
theorem cells2 : Try.prog.cellsOf 2 = 1 := by kernel_rfl
theorem cells3 : Try.prog.cellsOf 3 = 1 := by kernel_rfl
theorem cells4 : Try.prog.cellsOf 4 = 1 := by kernel_rfl
theorem cells5 : Try.prog.cellsOf 5 = 1 := by kernel_rfl
theorem cells22 : Try.prog.cellsOf 22 = 1 := by kernel_rfl
set_option maxRecDepth 100000 in
theorem open_S24 {H : Type} {enc : TypeId × Value → H} {w : World} {base : Nat} {spare : Nat → Bool} {held : Bool} {n : Nat} {cs : List Value} {y : DataW H × List MemPlace} (h : DataW.trod enc Try.prog w base spare held n 24 cs = some y) : ∃ s : S24, cs = [.int .i64 ((s).f0), .int .i64 ((s).f1), .int .u8 ((s).f2), .int .u16 ((s).f3), .int .u16 ((s).f4), .int .i64 ((s).f5), .int .i64 ((s).f6), .int .i64 ((s).f7), .int .i64 ((s).f8), .int .i64 ((s).f9), .int .i64 ((s).f10), .int .i64 ((s).f11), .int .i64 ((s).f12), .int .i64 ((s).f13), .int .i64 ((s).f14), .bool ((s).f15)] ∧ ((Lit.int .i64 (s).f0).wf = true ∧ (Lit.int .i64 (s).f1).wf = true ∧ (Lit.int .u8 (s).f2).wf = true ∧ (Lit.int .u16 (s).f3).wf = true ∧ (Lit.int .u16 (s).f4).wf = true ∧ (Lit.int .i64 (s).f5).wf = true ∧ (Lit.int .i64 (s).f6).wf = true ∧ (Lit.int .i64 (s).f7).wf = true ∧ (Lit.int .i64 (s).f8).wf = true ∧ (Lit.int .i64 (s).f9).wf = true ∧ (Lit.int .i64 (s).f10).wf = true ∧ (Lit.int .i64 (s).f11).wf = true ∧ (Lit.int .i64 (s).f12).wf = true ∧ (Lit.int .i64 (s).f13).wf = true ∧ (Lit.int .i64 (s).f14).wf = true) := by
  obtain ⟨xs, m, _, _, hlen, hxl, hf⟩ := DataW.trod_struct Try.underlying24 h
  rw [cells24] at hlen
  obtain ⟨c0, cs0_, rfl, hl0_⟩ := Gv.list_cons hlen
  obtain ⟨c1, cs1_, rfl, hl1_⟩ := Gv.list_cons hl0_
  obtain ⟨c2, cs2_, rfl, hl2_⟩ := Gv.list_cons hl1_
  obtain ⟨c3, cs3_, rfl, hl3_⟩ := Gv.list_cons hl2_
  obtain ⟨c4, cs4_, rfl, hl4_⟩ := Gv.list_cons hl3_
  obtain ⟨c5, cs5_, rfl, hl5_⟩ := Gv.list_cons hl4_
  obtain ⟨c6, cs6_, rfl, hl6_⟩ := Gv.list_cons hl5_
  obtain ⟨c7, cs7_, rfl, hl7_⟩ := Gv.list_cons hl6_
  obtain ⟨c8, cs8_, rfl, hl8_⟩ := Gv.list_cons hl7_
  obtain ⟨c9, cs9_, rfl, hl9_⟩ := Gv.list_cons hl8_
  obtain ⟨c10, cs10_, rfl, hl10_⟩ := Gv.list_cons hl9_
  obtain ⟨c11, cs11_, rfl, hl11_⟩ := Gv.list_cons hl10_
  obtain ⟨c12, cs12_, rfl, hl12_⟩ := Gv.list_cons hl11_
  obtain ⟨c13, cs13_, rfl, hl13_⟩ := Gv.list_cons hl12_
  obtain ⟨c14, cs14_, rfl, hl14_⟩ := Gv.list_cons hl13_
  obtain ⟨c15, cs15_, rfl, hl15_⟩ := Gv.list_cons hl14_
  obtain rfl := List.eq_nil_of_length_eq_zero hl15_
  have hxl2 : xs.length = 16 := hxl
  obtain ⟨y0, xs0_, rfl, hx0_⟩ := Gv.list_cons hxl2
  obtain ⟨y1, xs1_, rfl, hx1_⟩ := Gv.list_cons hx0_
  obtain ⟨y2, xs2_, rfl, hx2_⟩ := Gv.list_cons hx1_
  obtain ⟨y3, xs3_, rfl, hx3_⟩ := Gv.list_cons hx2_
  obtain ⟨y4, xs4_, rfl, hx4_⟩ := Gv.list_cons hx3_
  obtain ⟨y5, xs5_, rfl, hx5_⟩ := Gv.list_cons hx4_
  obtain ⟨y6, xs6_, rfl, hx6_⟩ := Gv.list_cons hx5_
  obtain ⟨y7, xs7_, rfl, hx7_⟩ := Gv.list_cons hx6_
  obtain ⟨y8, xs8_, rfl, hx8_⟩ := Gv.list_cons hx7_
  obtain ⟨y9, xs9_, rfl, hx9_⟩ := Gv.list_cons hx8_
  obtain ⟨y10, xs10_, rfl, hx10_⟩ := Gv.list_cons hx9_
  obtain ⟨y11, xs11_, rfl, hx11_⟩ := Gv.list_cons hx10_
  obtain ⟨y12, xs12_, rfl, hx12_⟩ := Gv.list_cons hx11_
  obtain ⟨y13, xs13_, rfl, hx13_⟩ := Gv.list_cons hx12_
  obtain ⟨y14, xs14_, rfl, hx14_⟩ := Gv.list_cons hx13_
  obtain ⟨y15, xs15_, rfl, hx15_⟩ := Gv.list_cons hx14_
  obtain rfl := List.eq_nil_of_length_eq_zero hx15_
  have g0 : DataW.trod enc Try.prog w base spare held m 3 [c0] = some y0 := by
    have h0 : DataW.trod enc Try.prog w base spare held m 3 (([c0, c1, c2, c3, c4, c5, c6, c7, c8, c9, c10, c11, c12, c13, c14, c15].drop 0).take (Try.prog.cellsOf 3)) = [y0, y1, y2, y3, y4, y5, y6, y7, y8, y9, y10, y11, y12, y13, y14, y15][0]? := hf 0 _ rfl
    rw [cells3] at h0
    exact h0
  have g1 : DataW.trod enc Try.prog w base spare held m 3 [c1] = some y1 := by
    have h0 : DataW.trod enc Try.prog w base spare held m 3 (([c0, c1, c2, c3, c4, c5, c6, c7, c8, c9, c10, c11, c12, c13, c14, c15].drop 1).take (Try.prog.cellsOf 3)) = [y0, y1, y2, y3, y4, y5, y6, y7, y8, y9, y10, y11, y12, y13, y14, y15][1]? := hf 1 _ rfl
    rw [cells3] at h0
    exact h0
  have g2 : DataW.trod enc Try.prog w base spare held m 5 [c2] = some y2 := by
    have h0 : DataW.trod enc Try.prog w base spare held m 5 (([c0, c1, c2, c3, c4, c5, c6, c7, c8, c9, c10, c11, c12, c13, c14, c15].drop 2).take (Try.prog.cellsOf 5)) = [y0, y1, y2, y3, y4, y5, y6, y7, y8, y9, y10, y11, y12, y13, y14, y15][2]? := hf 2 _ rfl
    rw [cells5] at h0
    exact h0
  have g3 : DataW.trod enc Try.prog w base spare held m 22 [c3] = some y3 := by
    have h0 : DataW.trod enc Try.prog w base spare held m 22 (([c0, c1, c2, c3, c4, c5, c6, c7, c8, c9, c10, c11, c12, c13, c14, c15].drop 3).take (Try.prog.cellsOf 22)) = [y0, y1, y2, y3, y4, y5, y6, y7, y8, y9, y10, y11, y12, y13, y14, y15][3]? := hf 3 _ rfl
    rw [cells22] at h0
    exact h0
  have g4 : DataW.trod enc Try.prog w base spare held m 22 [c4] = some y4 := by
    have h0 : DataW.trod enc Try.prog w base spare held m 22 (([c0, c1, c2, c3, c4, c5, c6, c7, c8, c9, c10, c11, c12, c13, c14, c15].drop 4).take (Try.prog.cellsOf 22)) = [y0, y1, y2, y3, y4, y5, y6, y7, y8, y9, y10, y11, y12, y13, y14, y15][4]? := hf 4 _ rfl
    rw [cells22] at h0
    exact h0
  have g5 : DataW.trod enc Try.prog w base spare held m 2 [c5] = some y5 := by
    have h0 : DataW.trod enc Try.prog w base spare held m 2 (([c0, c1, c2, c3, c4, c5, c6, c7, c8, c9, c10, c11, c12, c13, c14, c15].drop 5).take (Try.prog.cellsOf 2)) = [y0, y1, y2, y3, y4, y5, y6, y7, y8, y9, y10, y11, y12, y13, y14, y15][5]? := hf 5 _ rfl
    rw [cells2] at h0
    exact h0
  have g6 : DataW.trod enc Try.prog w base spare held m 2 [c6] = some y6 := by
    have h0 : DataW.trod enc Try.prog w base spare held m 2 (([c0, c1, c2, c3, c4, c5, c6, c7, c8, c9, c10, c11, c12, c13, c14, c15].drop 6).take (Try.prog.cellsOf 2)) = [y0, y1, y2, y3, y4, y5, y6, y7, y8, y9, y10, y11, y12, y13, y14, y15][6]? := hf 6 _ rfl
    rw [cells2] at h0
    exact h0
  have g7 : DataW.trod enc Try.prog w base spare held m 2 [c7] = some y7 := by
    have h0 : DataW.trod enc Try.prog w base spare held m 2 (([c0, c1, c2, c3, c4, c5, c6, c7, c8, c9, c10, c11, c12, c13, c14, c15].drop 7).take (Try.prog.cellsOf 2)) = [y0, y1, y2, y3, y4, y5, y6, y7, y8, y9, y10, y11, y12, y13, y14, y15][7]? := hf 7 _ rfl
    rw [cells2] at h0
    exact h0
  have g8 : DataW.trod enc Try.prog w base spare held m 2 [c8] = some y8 := by
    have h0 : DataW.trod enc Try.prog w base spare held m 2 (([c0, c1, c2, c3, c4, c5, c6, c7, c8, c9, c10, c11, c12, c13, c14, c15].drop 8).take (Try.prog.cellsOf 2)) = [y0, y1, y2, y3, y4, y5, y6, y7, y8, y9, y10, y11, y12, y13, y14, y15][8]? := hf 8 _ rfl
    rw [cells2] at h0
    exact h0
  have g9 : DataW.trod enc Try.prog w base spare held m 2 [c9] = some y9 := by
    have h0 : DataW.trod enc Try.prog w base spare held m 2 (([c0, c1, c2, c3, c4, c5, c6, c7, c8, c9, c10, c11, c12, c13, c14, c15].drop 9).take (Try.prog.cellsOf 2)) = [y0, y1, y2, y3, y4, y5, y6, y7, y8, y9, y10, y11, y12, y13, y14, y15][9]? := hf 9 _ rfl
    rw [cells2] at h0
    exact h0
  have g10 : DataW.trod enc Try.prog w base spare held m 2 [c10] = some y10 := by
    have h0 : DataW.trod enc Try.prog w base spare held m 2 (([c0, c1, c2, c3, c4, c5, c6, c7, c8, c9, c10, c11, c12, c13, c14, c15].drop 10).take (Try.prog.cellsOf 2)) = [y0, y1, y2, y3, y4, y5, y6, y7, y8, y9, y10, y11, y12, y13, y14, y15][10]? := hf 10 _ rfl
    rw [cells2] at h0
    exact h0
  have g11 : DataW.trod enc Try.prog w base spare held m 2 [c11] = some y11 := by
    have h0 : DataW.trod enc Try.prog w base spare held m 2 (([c0, c1, c2, c3, c4, c5, c6, c7, c8, c9, c10, c11, c12, c13, c14, c15].drop 11).take (Try.prog.cellsOf 2)) = [y0, y1, y2, y3, y4, y5, y6, y7, y8, y9, y10, y11, y12, y13, y14, y15][11]? := hf 11 _ rfl
    rw [cells2] at h0
    exact h0
  have g12 : DataW.trod enc Try.prog w base spare held m 2 [c12] = some y12 := by
    have h0 : DataW.trod enc Try.prog w base spare held m 2 (([c0, c1, c2, c3, c4, c5, c6, c7, c8, c9, c10, c11, c12, c13, c14, c15].drop 12).take (Try.prog.cellsOf 2)) = [y0, y1, y2, y3, y4, y5, y6, y7, y8, y9, y10, y11, y12, y13, y14, y15][12]? := hf 12 _ rfl
    rw [cells2] at h0
    exact h0
  have g13 : DataW.trod enc Try.prog w base spare held m 3 [c13] = some y13 := by
    have h0 : DataW.trod enc Try.prog w base spare held m 3 (([c0, c1, c2, c3, c4, c5, c6, c7, c8, c9, c10, c11, c12, c13, c14, c15].drop 13).take (Try.prog.cellsOf 3)) = [y0, y1, y2, y3, y4, y5, y6, y7, y8, y9, y10, y11, y12, y13, y14, y15][13]? := hf 13 _ rfl
    rw [cells3] at h0
    exact h0
  have g14 : DataW.trod enc Try.prog w base spare held m 3 [c14] = some y14 := by
    have h0 : DataW.trod enc Try.prog w base spare held m 3 (([c0, c1, c2, c3, c4, c5, c6, c7, c8, c9, c10, c11, c12, c13, c14, c15].drop 14).take (Try.prog.cellsOf 3)) = [y0, y1, y2, y3, y4, y5, y6, y7, y8, y9, y10, y11, y12, y13, y14, y15][14]? := hf 14 _ rfl
    rw [cells3] at h0
    exact h0
  have g15 : DataW.trod enc Try.prog w base spare held m 4 [c15] = some y15 := by
    have h0 : DataW.trod enc Try.prog w base spare held m 4 (([c0, c1, c2, c3, c4, c5, c6, c7, c8, c9, c10, c11, c12, c13, c14, c15].drop 15).take (Try.prog.cellsOf 4)) = [y0, y1, y2, y3, y4, y5, y6, y7, y8, y9, y10, y11, y12, y13, y14, y15][15]? := hf 15 _ rfl
    rw [cells4] at h0
    exact h0
  obtain ⟨f0, e0, _, w0⟩ := DataW.trod_int Try.underlying3 g0
  simp only [List.cons.injEq, and_true] at e0
  obtain rfl := e0
  obtain ⟨f1, e1, _, w1⟩ := DataW.trod_int Try.underlying3 g1
  simp only [List.cons.injEq, and_true] at e1
  obtain rfl := e1
  obtain ⟨f2, e2, _, w2⟩ := DataW.trod_int Try.underlying5 g2
  simp only [List.cons.injEq, and_true] at e2
  obtain rfl := e2
  obtain ⟨f3, e3, _, w3⟩ := DataW.trod_int Try.underlying22 g3
  simp only [List.cons.injEq, and_true] at e3
  obtain rfl := e3
  obtain ⟨f4, e4, _, w4⟩ := DataW.trod_int Try.underlying22 g4
  simp only [List.cons.injEq, and_true] at e4
  obtain rfl := e4
  obtain ⟨f5, e5, _, w5⟩ := DataW.trod_int Try.underlying2 g5
  simp only [List.cons.injEq, and_true] at e5
  obtain rfl := e5
  obtain ⟨f6, e6, _, w6⟩ := DataW.trod_int Try.underlying2 g6
  simp only [List.cons.injEq, and_true] at e6
  obtain rfl := e6
  obtain ⟨f7, e7, _, w7⟩ := DataW.trod_int Try.underlying2 g7
  simp only [List.cons.injEq, and_true] at e7
  obtain rfl := e7
  obtain ⟨f8, e8, _, w8⟩ := DataW.trod_int Try.underlying2 g8
  simp only [List.cons.injEq, and_true] at e8
  obtain rfl := e8
  obtain ⟨f9, e9, _, w9⟩ := DataW.trod_int Try.underlying2 g9
  simp only [List.cons.injEq, and_true] at e9
  obtain rfl := e9
  obtain ⟨f10, e10, _, w10⟩ := DataW.trod_int Try.underlying2 g10
  simp only [List.cons.injEq, and_true] at e10
  obtain rfl := e10
  obtain ⟨f11, e11, _, w11⟩ := DataW.trod_int Try.underlying2 g11
  simp only [List.cons.injEq, and_true] at e11
  obtain rfl := e11
  obtain ⟨f12, e12, _, w12⟩ := DataW.trod_int Try.underlying2 g12
  simp only [List.cons.injEq, and_true] at e12
  obtain rfl := e12
  obtain ⟨f13, e13, _, w13⟩ := DataW.trod_int Try.underlying3 g13
  simp only [List.cons.injEq, and_true] at e13
  obtain rfl := e13
  obtain ⟨f14, e14, _, w14⟩ := DataW.trod_int Try.underlying3 g14
  simp only [List.cons.injEq, and_true] at e14
  obtain rfl := e14
  obtain ⟨f15, e15, _⟩ := DataW.trod_bool Try.underlying4 g15
  simp only [List.cons.injEq, and_true] at e15
  obtain rfl := e15
  exact ⟨⟨f0, f1, f2, f3, f4, f5, f6, f7, f8, f9, f10, f11, f12, f13, f14, f15⟩, rfl, ⟨w0, w1, w2, w3, w4, w5, w6, w7, w8, w9, w10, w11, w12, w13, w14⟩⟩
set_option maxRecDepth 100000 in
theorem lifted (os : Os) (started : os.Started) (H : Type) (enc : TypeId × Value → H) :
    ReturnsInHanded {} Try.checked os 6 .any (Rows.planRingsSpec.pre6 enc Try.prog Try.f6 Rows.planRingsRow.domain false) (Rows.planRingsSpec.post enc Try.prog Try.f6 false true false false) := by
  refine returnsInHanded_of_change_sized (C := Try.checked) own started (by kernel_rfl) Try.func6
    (ChangeSpec.witness6 (enc := enc) (C := Try.checked) false ⟨#[], #[.agg #[.int .i64 0, .int .i64 0, .int .u8 0, .int .u16 0, .int .u16 0, .int .i64 0, .int .i64 0, .int .i64 0, .int .i64 0, .int .i64 0, .int .i64 0, .int .i64 0, .int .i64 0, .int .i64 0, .int .i64 0, .bool false]], []⟩ 8 (by kernel_rfl) (by kernel_rfl) (by kernel_rfl) (by kernel_rfl)) ?_
  intro W base args ds gs before hval0 hW hcnd hsz0 _
  have hsz : (DataW.weightsEach Try.prog (Try.f6.params.toList ++ Rows.planRingsSpec.plain.varTypes Try.prog) (ds ++ gs)).all (· ≤ reachBytes) = true := hsz0
  have hval : ∀ (j : Nat) t v, Try.f6.params[j]? = some t → args[j]? = some v → Value.okWide Try.prog W .any base t v := hval0
  have hW' := hW
  obtain ⟨p, q, hA0, hV, rfl, hfz, hnd⟩ := hW
  have hA : DataW.TrodAll enc Try.prog W 0 (fun _ => true) true Try.f6.params.toList args.toList ds p := hA0
  rw [Try.params6] at hA hval hsz
  obtain ⟨v0, vs0, d0, ds0, p0, q0, hargs, rfl, rfl, h0, r0⟩ := trodAll_cons hA
  obtain ⟨rfl, rfl, rfl⟩ := trodAll_nil r0
  obtain rfl : args = #[v0] := by cases args; simp_all
  obtain ⟨rfl, rfl⟩ := trodVars_none hV
  obtain ⟨cs0, rfl, hcs0⟩ := okWide_struct Try.underlying24 (hval 0 24 v0 rfl rfl)
  have k0 := h0
  have lt0 : ∀ x ∈ p0, x.block < W.heap.size := by obtain ⟨m, hm⟩ := k0; exact DataW.trod_lt m _ _ _ hm
  obtain ⟨s0, es0, g0⟩ : ∃ s : S24, cs0 = #[.int .i64 ((s).f0), .int .i64 ((s).f1), .int .u8 ((s).f2), .int .u16 ((s).f3), .int .u16 ((s).f4), .int .i64 ((s).f5), .int .i64 ((s).f6), .int .i64 ((s).f7), .int .i64 ((s).f8), .int .i64 ((s).f9), .int .i64 ((s).f10), .int .i64 ((s).f11), .int .i64 ((s).f12), .int .i64 ((s).f13), .int .i64 ((s).f14), .bool ((s).f15)] ∧ ((Lit.int .i64 (s).f0).wf = true ∧ (Lit.int .i64 (s).f1).wf = true ∧ (Lit.int .u8 (s).f2).wf = true ∧ (Lit.int .u16 (s).f3).wf = true ∧ (Lit.int .u16 (s).f4).wf = true ∧ (Lit.int .i64 (s).f5).wf = true ∧ (Lit.int .i64 (s).f6).wf = true ∧ (Lit.int .i64 (s).f7).wf = true ∧ (Lit.int .i64 (s).f8).wf = true ∧ (Lit.int .i64 (s).f9).wf = true ∧ (Lit.int .i64 (s).f10).wf = true ∧ (Lit.int .i64 (s).f11).wf = true ∧ (Lit.int .i64 (s).f12).wf = true ∧ (Lit.int .i64 (s).f13).wf = true ∧ (Lit.int .i64 (s).f14).wf = true) := by
    obtain ⟨fuel, hf⟩ := h0
    obtain ⟨s, hs, hg⟩ := open_S24 (cs := cs0.toList) hf
    refine ⟨s, ?_, hg⟩
    apply Array.toList_inj.1
    rw [hs]
  subst es0
  clear hA0 hval0 hsz0 hsz
  refine (PPlanRings.carousellaw16_PlanRings.walk Pure.PlanRings (s0).f0 (s0).f1 (s0).f2 (s0).f3 (s0).f4 (s0).f5 (s0).f6 (s0).f7 (s0).f8 (s0).f9 (s0).f10 (s0).f11 (s0).f12 (s0).f13 (s0).f14 (s0).f15 W g0.1 g0.2.1 g0.2.2.1 g0.2.2.2.1 g0.2.2.2.2.1 g0.2.2.2.2.2.1 g0.2.2.2.2.2.2.1 g0.2.2.2.2.2.2.2.1 g0.2.2.2.2.2.2.2.2.1 g0.2.2.2.2.2.2.2.2.2.1 g0.2.2.2.2.2.2.2.2.2.2.1 g0.2.2.2.2.2.2.2.2.2.2.2.1 g0.2.2.2.2.2.2.2.2.2.2.2.2.1 g0.2.2.2.2.2.2.2.2.2.2.2.2.2.1 g0.2.2.2.2.2.2.2.2.2.2.2.2.2.2).mono fun e W' ⟨he, bel⟩ => ?_
  subst he
  exact ⟨_, rfl, _, _, _, [], _, [], hW', trodAll_mk1 (shut_bool Try.underlying4 _), (trodAll_cons_mk (Below.trod laidOut (by kernel_rfl) (of_decide_eq_true (by kernel_rfl)) k0 bel lt0) trodAll_mk0), rfl, bel.frame _, fun h => by cases h⟩
theorem over : Rows.planRingsRow.holds Try.pinned (OpenSpec.ofChange Rows.planRingsSpec) :=
  OpenClaim.holds_of_wide 6 Try.f6 rfl rfl rfl rfl rfl rfl rfl ⟨rfl, rfl, rfl, rfl, rfl⟩ rfl rfl rfl rfl rfl (by kernel_rfl) Try.func6 (by kernel_rfl)
    (of_decide_eq_true (by kernel_rfl)) (by unfold Func.isWrapper; first | (rw [if_pos (by decide +kernel)]; kernel_rfl) | (rw [if_neg (by decide +kernel)]; exact ⟨rfl, rfl⟩))
    (fun os started H enc _ => lifted os started H enc)
theorem proved : Rows.PlanRingsSaid := over
#print axioms proved
end Go.Proofs.Ytapicoienpbdfaa.planRings
namespace Go.Proofs.Ytapicoienpbdfaa
/-- The row, under a short name, for the claim. -/
theorem planRings_holds : Rows.PlanRingsSaid := planRings.proved
end Go.Proofs.Ytapicoienpbdfaa
