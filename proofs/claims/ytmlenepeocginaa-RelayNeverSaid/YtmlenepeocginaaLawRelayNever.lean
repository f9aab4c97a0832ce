/- The law RelayNever: out of its plain statement and the walk of its code. Written by this work's program. -/
import Derived.Test.YtmlenepeocginaaRows
import Derived.Test.YtmlenepeocginaaPRelayNeverx4
import Derived.Test.YtmlenepeocginaaPureRelayNever
import Derived.Test.YtmlenepeocginaaGvOpen
import Derived.WalkKit
import Derived.ProofKit
import Derived.OpenShut
import Derived.ShutString
import Derived.ChangeOld
import Derived.Below
import Derived.SizedLaws
import Derived.ChangeArms
namespace Go.Proofs.Ytmlenepeocginaa.relayNever
open Go.ChangeShapes Go.WideShapes Go.ChangeAt Go.RowKit Go.Proofs.Ytmlenepeocginaa.PRelayNever Go.Proofs.YtmlenepeocginaaW.PrintWords
open Go.ChangeMaps (open_string shut_string)
set_option linter.unusedVariables false
theorem own : ownKnob Try.prog.godebug = none := by kernel_rfl
theorem laidOut : laidOutB Try.prog = true := by kernel_rfl
theorem cells54 : Try.prog.cellsOf 54 = 7 := by kernel_rfl
theorem cells4 : Try.prog.cellsOf 4 = 1 := by kernel_rfl
theorem cells5 : Try.prog.cellsOf 5 = 1 := by kernel_rfl
theorem cells9 : Try.prog.cellsOf 9 = 1 := by kernel_rfl
theorem cells35 : Try.prog.cellsOf 35 = 1 := by kernel_rfl
theorem cells40 : Try.prog.cellsOf 40 = 1 := by kernel_rfl
set_option maxRecDepth 100000 in
theorem open_S54 {H : Type} {enc : TypeId × Value → H} {w : World} {base : Nat} {spare : Nat → Bool} {held : Bool} {n : Nat} {cs : List Value} {y : DataW H × List MemPlace} (h : DataW.trod enc Try.prog w base spare held n 54 cs = some y) : ∃ s : S54, cs = [.int .u64 ((s).f0), .int .u64 ((s).f1), .int .u8 ((s).f2), .bool ((s).f3), .int .u16 ((s).f4), .int .u16 ((s).f5), .string ((s).f6)] ∧ ((Lit.int .u64 (s).f0).wf = true ∧ (Lit.int .u64 (s).f1).wf = true ∧ (Lit.int .u8 (s).f2).wf = true ∧ (Lit.int .u16 (s).f4).wf = true ∧ (Lit.int .u16 (s).f5).wf = true ∧ (s).f6.size ≤ 9223372036854775807) := by
  obtain ⟨xs, m, _, _, hlen, hxl, hf⟩ := DataW.trod_struct Try.underlying54 h
  rw [cells54] at hlen
  obtain ⟨c0, cs0_, rfl, hl0_⟩ := Gv.list_cons hlen
  obtain ⟨c1, cs1_, rfl, hl1_⟩ := Gv.list_cons hl0_
  obtain ⟨c2, cs2_, rfl, hl2_⟩ := Gv.list_cons hl1_
  obtain ⟨c3, cs3_, rfl, hl3_⟩ := Gv.list_cons hl2_
  obtain ⟨c4, cs4_, rfl, hl4_⟩ := Gv.list_cons hl3_
  obtain ⟨c5, cs5_, rfl, hl5_⟩ := Gv.list_cons hl4_
  obtain ⟨c6, cs6_, rfl, hl6_⟩ := Gv.list_cons hl5_
  obtain rfl := List.eq_nil_of_length_eq_zero hl6_
  have hxl2 : xs.length = 7 := hxl
  obtain ⟨y0, xs0_, rfl, hx0_⟩ := Gv.list_cons hxl2
  obtain ⟨y1, xs1_, rfl, hx1_⟩ := Gv.list_cons hx0_
  obtain ⟨y2, xs2_, rfl, hx2_⟩ := Gv.list_cons hx1_
  obtain ⟨y3, xs3_, rfl, hx3_⟩ := Gv.list_cons hx2_
  obtain ⟨y4, xs4_, rfl, hx4_⟩ := Gv.list_cons hx3_
  obtain ⟨y5, xs5_, rfl, hx5_⟩ := Gv.list_cons hx4_
  obtain ⟨y6, xs6_, rfl, hx6_⟩ := Gv.list_cons hx5_
  obtain rfl := List.eq_nil_of_length_eq_zero hx6_
  have g0 : DataW.trod enc Try.prog w base spare held m 40 [c0] = some y0 := by
    have h0 : DataW.trod enc Try.prog w base spare held m 40 (([c0, c1, c2, c3, c4, c5, c6].drop 0).take (Try.prog.cellsOf 40)) = [y0, y1, y2, y3, y4, y5, y6][0]? := hf 0 _ rfl
    rw [cells40] at h0
    exact h0
  have g1 : DataW.trod enc Try.prog w base spare held m 40 [c1] = some y1 := by
    have h0 : DataW.trod enc Try.prog w base spare held m 40 (([c0, c1, c2, c3, c4, c5, c6].drop 1).take (Try.prog.cellsOf 40)) = [y0, y1, y2, y3, y4, y5, y6][1]? := hf 1 _ rfl
    rw [cells40] at h0
    exact h0
  have g2 : DataW.trod enc Try.prog w base spare held m 5 [c2] = some y2 := by
    have h0 : DataW.trod enc Try.prog w base spare held m 5 (([c0, c1, c2, c3, c4, c5, c6].drop 2).take (Try.prog.cellsOf 5)) = [y0, y1, y2, y3, y4, y5, y6][2]? := hf 2 _ rfl
    rw [cells5] at h0
    exact h0
  have g3 : DataW.trod enc Try.prog w base spare held m 4 [c3] = some y3 := by
    have h0 : DataW.trod enc Try.prog w base spare held m 4 (([c0, c1, c2, c3, c4, c5, c6].drop 3).take (Try.prog.cellsOf 4)) = [y0, y1, y2, y3, y4, y5, y6][3]? := hf 3 _ rfl
    rw [cells4] at h0
    exact h0
  have g4 : DataW.trod enc Try.prog w base spare held m 35 [c4] = some y4 := by
    have h0 : DataW.trod enc Try.prog w base spare held m 35 (([c0, c1, c2, c3, c4, c5, c6].drop 4).take (Try.prog.cellsOf 35)) = [y0, y1, y2, y3, y4, y5, y6][4]? := hf 4 _ rfl
    rw [cells35] at h0
    exact h0
  have g5 : DataW.trod enc Try.prog w base spare held m 35 [c5] = some y5 := by
    have h0 : DataW.trod enc Try.prog w base spare held m 35 (([c0, c1, c2, c3, c4, c5, c6].drop 5).take (Try.prog.cellsOf 35)) = [y0, y1, y2, y3, y4, y5, y6][5]? := hf 5 _ rfl
    rw [cells35] at h0
    exact h0
  have g6 : DataW.trod enc Try.prog w base spare held m 9 [c6] = some y6 := by
    have h0 : DataW.trod enc Try.prog w base spare held m 9 (([c0, c1, c2, c3, c4, c5, c6].drop 6).take (Try.prog.cellsOf 9)) = [y0, y1, y2, y3, y4, y5, y6][6]? := hf 6 _ rfl
    rw [cells9] at h0
    exact h0
  obtain ⟨f0, e0, _, w0⟩ := DataW.trod_int Try.underlying40 g0
  simp only [List.cons.injEq, and_true] at e0
  obtain rfl := e0
  obtain ⟨f1, e1, _, w1⟩ := DataW.trod_int Try.underlying40 g1
  simp only [List.cons.injEq, and_true] at e1
  obtain rfl := e1
  obtain ⟨f2, e2, _, w2⟩ := DataW.trod_int Try.underlying5 g2
  simp only [List.cons.injEq, and_true] at e2
  obtain rfl := e2
  obtain ⟨f3, e3, _⟩ := DataW.trod_bool Try.underlying4 g3
  simp only [List.cons.injEq, and_true] at e3
  obtain rfl := e3
  obtain ⟨f4, e4, _, w4⟩ := DataW.trod_int Try.underlying35 g4
  simp only [List.cons.injEq, and_true] at e4
  obtain rfl := e4
  obtain ⟨f5, e5, _, w5⟩ := DataW.trod_int Try.underlying35 g5
  simp only [List.cons.injEq, and_true] at e5
  obtain rfl := e5
  obtain ⟨f6, e6, _, w6⟩ := DataW.trod_string Try.underlying9 g6
  simp only [List.cons.injEq, and_true] at e6
  obtain rfl := e6
  exact ⟨⟨f0, f1, f2, f3, f4, f5, f6⟩, rfl, ⟨w0, w1, w2, w4, w5, w6⟩⟩
theorem cells56 : Try.prog.cellsOf 56 = 12 := by kernel_rfl
theorem cells3 : Try.prog.cellsOf 3 = 1 := by kernel_rfl
set_option maxRecDepth 100000 in
theorem open_S56 {H : Type} {enc : TypeId × Value → H} {w : World} {base : Nat} {spare : Nat → Bool} {held : Bool} {n : Nat} {cs : List Value} {y : DataW H × List MemPlace} (h : DataW.trod enc Try.prog w base spare held n 56 cs = some y) : ∃ s : S56, cs = [.int .u16 ((s).f0), .int .i64 ((s).f1), .bool ((s).f2), .bool ((s).f3), .int .u64 ((s).f4.f0), .int .u64 ((s).f4.f1), .int .u8 ((s).f4.f2), .bool ((s).f4.f3), .int .u16 ((s).f4.f4), .int .u16 ((s).f4.f5), .string ((s).f4.f6), .bool ((s).f5)] ∧ ((Lit.int .u16 (s).f0).wf = true ∧ (Lit.int .i64 (s).f1).wf = true ∧ (Lit.int .u64 (s).f4.f0).wf = true ∧ (Lit.int .u64 (s).f4.f1).wf = true ∧ (Lit.int .u8 (s).f4.f2).wf = true ∧ (Lit.int .u16 (s).f4.f4).wf = true ∧ (Lit.int .u16 (s).f4.f5).wf = true ∧ (s).f4.f6.size ≤ 9223372036854775807) := by
  obtain ⟨xs, m, _, _, hlen, hxl, hf⟩ := DataW.trod_struct Try.underlying56 h
  rw [cells56] at hlen
  obtain ⟨c0, cs0_, rfl, hl0_⟩ := Gv.list_cons hlen
  obtain ⟨c1, cs1_, rfl, hl1_⟩ := Gv.list_cons hl0_
  obtain ⟨c2, cs2_, rfl, hl2_⟩ := Gv.list_cons hl1_
  obtain ⟨c3, cs3_, rfl, hl3_⟩ := Gv.list_cons hl2_
  obtain ⟨c4, cs4_, rfl, hl4_⟩ := Gv.list_cons hl3_
  obtain ⟨c5, cs5_, rfl, hl5_⟩ := Gv.list_cons hl4_
  obtain ⟨c6, cs6_, rfl, hl6_⟩ := Gv.list_cons hl5_
  obtain ⟨c7, cs7_, rfl, hl7_⟩ := Gv.list_cons hl6_
  obtain ⟨c8, cs8_, rfl, hl8_⟩ := Gv.list_cons hl7_
  obtain ⟨c9, cs9_, rfl, hl9_⟩ := Gv.list_cons hl8_
  obtain ⟨c10, cs10_, rfl, hl10_⟩ := Gv.list_cons hl9_
  obtain ⟨c11, cs11_, rfl, hl11_⟩ := Gv.list_cons hl10_
  obtain rfl := List.eq_nil_of_length_eq_zero hl11_
  have hxl2 : xs.length = 6 := hxl
  obtain ⟨y0, xs0_, rfl, hx0_⟩ := Gv.list_cons hxl2
  obtain ⟨y1, xs1_, rfl, hx1_⟩ := Gv.list_cons hx0_
  obtain ⟨y2, xs2_, rfl, hx2_⟩ := Gv.list_cons hx1_
  obtain ⟨y3, xs3_, rfl, hx3_⟩ := Gv.list_cons hx2_
  obtain ⟨y4, xs4_, rfl, hx4_⟩ := Gv.list_cons hx3_
  obtain ⟨y5, xs5_, rfl, hx5_⟩ := Gv.list_cons hx4_
  obtain rfl := List.eq_nil_of_length_eq_zero hx5_
  have g0 : DataW.trod enc Try.prog w base spare held m 35 [c0] = some y0 := by
    have h0 : DataW.trod enc Try.prog w base spare held m 35 (([c0, c1, c2, c3, c4, c5, c6, c7, c8, c9, c10, c11].drop 0).take (Try.prog.cellsOf 35)) = [y0, y1, y2, y3, y4, y5][0]? := hf 0 _ rfl
    rw [cells35] at h0
    exact h0
  have g1 : DataW.trod enc Try.prog w base spare held m 3 [c1] = some y1 := by
    have h0 : DataW.trod enc Try.prog w base spare held m 3 (([c0, c1, c2, c3, c4, c5, c6, c7, c8, c9, c10, c11].drop 1).take (Try.prog.cellsOf 3)) = [y0, y1, y2, y3, y4, y5][1]? := hf 1 _ rfl
    rw [cells3] at h0
    exact h0
  have g2 : DataW.trod enc Try.prog w base spare held m 4 [c2] = some y2 := by
    have h0 : DataW.trod enc Try.prog w base spare held m 4 (([c0, c1, c2, c3, c4, c5, c6, c7, c8, c9, c10, c11].drop 2).take (Try.prog.cellsOf 4)) = [y0, y1, y2, y3, y4, y5][2]? := hf 2 _ rfl
    rw [cells4] at h0
    exact h0
  have g3 : DataW.trod enc Try.prog w base spare held m 4 [c3] = some y3 := by
    have h0 : DataW.trod enc Try.prog w base spare held m 4 (([c0, c1, c2, c3, c4, c5, c6, c7, c8, c9, c10, c11].drop 3).take (Try.prog.cellsOf 4)) = [y0, y1, y2, y3, y4, y5][3]? := hf 3 _ rfl
    rw [cells4] at h0
    exact h0
  have g4 : DataW.trod enc Try.prog w base spare held m 54 [c4, c5, c6, c7, c8, c9, c10] = some y4 := by
    have h0 : DataW.trod enc Try.prog w base spare held m 54 (([c0, c1, c2, c3, c4, c5, c6, c7, c8, c9, c10, c11].drop 4).take (Try.prog.cellsOf 54)) = [y0, y1, y2, y3, y4, y5][4]? := hf 4 _ rfl
    rw [cells54] at h0
    exact h0
  have g5 : DataW.trod enc Try.prog w base spare held m 4 [c11] = some y5 := by
    have h0 : DataW.trod enc Try.prog w base spare held m 4 (([c0, c1, c2, c3, c4, c5, c6, c7, c8, c9, c10, c11].drop 11).take (Try.prog.cellsOf 4)) = [y0, y1, y2, y3, y4, y5][5]? := hf 5 _ rfl
    rw [cells4] at h0
    exact h0
  obtain ⟨f0, e0, _, w0⟩ := DataW.trod_int Try.underlying35 g0
  simp only [List.cons.injEq, and_true] at e0
  obtain rfl := e0
  obtain ⟨f1, e1, _, w1⟩ := DataW.trod_int Try.underlying3 g1
  simp only [List.cons.injEq, and_true] at e1
  obtain rfl := e1
  obtain ⟨f2, e2, _⟩ := DataW.trod_bool Try.underlying4 g2
  simp only [List.cons.injEq, and_true] at e2
  obtain rfl := e2
  obtain ⟨f3, e3, _⟩ := DataW.trod_bool Try.underlying4 g3
  simp only [List.cons.injEq, and_true] at e3
  obtain rfl := e3
  obtain ⟨f4, e4, w4⟩ := open_S54 g4
  simp only [List.cons.injEq, and_true] at e4
  obtain ⟨rfl, rfl, rfl, rfl, rfl, rfl, rfl⟩ := e4
  obtain ⟨f5, e5, _⟩ := DataW.trod_bool Try.underlying4 g5
  simp only [List.cons.injEq, and_true] at e5
  obtain rfl := e5
  exact ⟨⟨f0, f1, f2, f3, f4, f5⟩, rfl, ⟨w0, w1, w4.1, w4.2.1, w4.2.2.1, w4.2.2.2.1, w4.2.2.2.2.1, w4.2.2.2.2.2⟩⟩
set_option maxRecDepth 100000 in
theorem lifted (os : Os) (started : os.Started) (H : Type) (enc : TypeId × Value → H) :
    ReturnsInHanded {} Try.checked os 4 .any (Rows.relayNeverSpec.pre6 enc Try.prog Try.f4 Rows.relayNeverRow.domain false) (Rows.relayNeverSpec.post enc Try.prog Try.f4 false true false false) := by
  refine returnsInHanded_of_change_sized (C := Try.checked) own started (by kernel_rfl) Try.func4
    (ChangeSpec.witness6 (enc := enc) (C := Try.checked) false ⟨#[], #[.slice none 0 0, .agg #[.int .u16 0, .int .i64 0, .bool false, .bool false, .int .u64 0, .int .u64 0, .int .u8 0, .bool false, .int .u16 0, .int .u16 0, .string ByteArray.empty, .bool false]], []⟩ 8 (by kernel_rfl) (by kernel_rfl) (by kernel_rfl) (by kernel_rfl)) ?_
  intro W base args ds gs before hval0 hW hcnd hsz0 _
  have hsz : (DataW.weightsEach Try.prog (Try.f4.params.toList ++ Rows.relayNeverSpec.plain.varTypes Try.prog) (ds ++ gs)).all (· ≤ reachBytes) = true := hsz0
  have hval : ∀ (j : Nat) t v, Try.f4.params[j]? = some t → args[j]? = some v → Value.okWide Try.prog W .any base t v := hval0
  have hW' := hW
  obtain ⟨p, q, hA0, hV, rfl, hfz, hnd⟩ := hW
  have hA : DataW.TrodAll enc Try.prog W 0 (fun _ => true) true Try.f4.params.toList args.toList ds p := hA0
  rw [Try.params4] at hA hval hsz
  obtain ⟨v0, vs0, d0, ds0, p0, q0, hargs, rfl, rfl, h0, r0⟩ := trodAll_cons hA
  obtain ⟨v1, vs1, d1, ds1, p1, q1, rfl, rfl, rfl, h1, r1⟩ := trodAll_cons r0
  obtain ⟨rfl, rfl, rfl⟩ := trodAll_nil r1
  obtain rfl : args = #[v0, v1] := by cases args; simp_all
  obtain ⟨rfl, rfl⟩ := trodVars_none hV
  obtain ⟨A0, len0, cap0, rfl⟩ := okWide_slice Try.underlying52 (hval 0 52 v0 rfl rfl)
  have k0 := h0
  have lt0 : ∀ x ∈ p0, x.block < W.heap.size := by obtain ⟨m, hm⟩ := k0; exact DataW.trod_lt m _ _ _ hm
  obtain ⟨l0, hl0, hlc0, hlm0, hr0, hg0, hx0⟩ : ∃ l : List (S56), l.length = len0 ∧ len0 ≤ cap0 ∧ len0 ≤ maxLen ∧ Kd.C k56 W A0 len0 l ∧ (∀ x ∈ l, (Lit.int .u16 (x).f0).wf = true ∧ (Lit.int .i64 (x).f1).wf = true ∧ (Lit.int .u64 (x).f4.f0).wf = true ∧ (Lit.int .u64 (x).f4.f1).wf = true ∧ (Lit.int .u8 (x).f4.f2).wf = true ∧ (Lit.int .u16 (x).f4.f4).wf = true ∧ (Lit.int .u16 (x).f4.f5).wf = true ∧ (x).f4.f6.size ≤ 9223372036854775807) ∧ ((len0 = 0) ∨ ∃ es sp, d0 = .slice es sp ∧ len0 ≤ es.length) := by
    obtain ⟨fuel, hf⟩ := h0
    exact Gv.open_slice_kd (d := k56) (good := fun x => (Lit.int .u16 (x).f0).wf = true ∧ (Lit.int .i64 (x).f1).wf = true ∧ (Lit.int .u64 (x).f4.f0).wf = true ∧ (Lit.int .u64 (x).f4.f1).wf = true ∧ (Lit.int .u8 (x).f4.f2).wf = true ∧ (Lit.int .u16 (x).f4.f4).wf = true ∧ (Lit.int .u16 (x).f4.f5).wf = true ∧ (x).f4.f6.size ≤ 9223372036854775807) Try.underlying52 (by kernel_rfl) (fun hh => by obtain ⟨s, rfl, hg⟩ := open_S56 hh; exact ⟨s, k56_mk _ s, hg⟩) hf
  have y0 : len0 * 72 ≤ 140737488351232 := Gv.sized_slice_kd hsz (j := 0) (t := 52) rfl rfl Try.underlying52 (by kernel_rfl) hx0
  subst hl0
  obtain ⟨cs1, rfl, hcs1⟩ := okWide_struct Try.underlying56 (hval 1 56 v1 rfl rfl)
  have k1 := h1
  have lt1 : ∀ x ∈ p1, x.block < W.heap.size := by obtain ⟨m, hm⟩ := k1; exact DataW.trod_lt m _ _ _ hm
  obtain ⟨s1, es1, g1⟩ : ∃ s : S56, cs1 = #[.int .u16 ((s).f0), .int .i64 ((s).f1), .bool ((s).f2), .bool ((s).f3), .int .u64 ((s).f4.f0), .int .u64 ((s).f4.f1), .int .u8 ((s).f4.f2), .bool ((s).f4.f3), .int .u16 ((s).f4.f4), .int .u16 ((s).f4.f5), .string ((s).f4.f6), .bool ((s).f5)] ∧ ((Lit.int .u16 (s).f0).wf = true ∧ (Lit.int .i64 (s).f1).wf = true ∧ (Lit.int .u64 (s).f4.f0).wf = true ∧ (Lit.int .u64 (s).f4.f1).wf = true ∧ (Lit.int .u8 (s).f4.f2).wf = true ∧ (Lit.int .u16 (s).f4.f4).wf = true ∧ (Lit.int .u16 (s).f4.f5).wf = true ∧ (s).f4.f6.size ≤ 9223372036854775807) := by
    obtain ⟨fuel, hf⟩ := h1
    obtain ⟨s, hs, hg⟩ := open_S56 (cs := cs1.toList) hf
    refine ⟨s, ?_, hg⟩
    apply Array.toList_inj.1
    rw [hs]
  subst es1
  clear hA0 hval0 hsz0 hsz
  refine (PRelayNever.carousellaw19_RelayNever.walk Pure.RelayNever A0 cap0 l0 (s1).f0 (s1).f1 (s1).f2 (s1).f3 (s1).f4.f0 (s1).f4.f1 (s1).f4.f2 (s1).f4.f3 (s1).f4.f4 (s1).f4.f5 (s1).f4.f6 (s1).f5 W hr0 hlc0 hlm0 y0 hg0 g1.1 g1.2.1 g1.2.2.1 g1.2.2.2.1 g1.2.2.2.2.1 g1.2.2.2.2.2.1 g1.2.2.2.2.2.2.1 g1.2.2.2.2.2.2.2).mono fun e W' ⟨he, bel⟩ => ?_
  subst he
  exact ⟨_, rfl, _, _, _, [], _, [], hW', trodAll_mk1 (shut_bool Try.underlying4 _), (trodAll_cons_mk (Below.trod laidOut (by kernel_rfl) (of_decide_eq_true (by kernel_rfl)) k0 bel lt0) (trodAll_cons_mk (Below.trod laidOut (by kernel_rfl) (of_decide_eq_true (by kernel_rfl)) k1 bel lt1) trodAll_mk0)), rfl, bel.frame _, fun h => by cases h⟩
theorem over : Rows.relayNeverRow.holds Try.pinned (OpenSpec.ofChange Rows.relayNeverSpec) :=
  OpenClaim.holds_of_wide 4 Try.f4 rfl rfl rfl rfl rfl rfl rfl ⟨rfl, rfl, rfl, rfl, rfl⟩ rfl rfl rfl rfl rfl (by kernel_rfl) Try.func4 (by kernel_rfl)
    (of_decide_eq_true (by kernel_rfl)) (by unfold Func.isWrapper; first | (rw [if_pos (by decide +kernel)]; kernel_rfl) | (rw [if_neg (by decide +kernel)]; exact ⟨rfl, rfl⟩))
    (fun os started H enc _ => lifted os started H enc)
theorem proved : Rows.RelayNeverSaid := over
#print axioms proved
end Go.Proofs.Ytmlenepeocginaa.relayNever
namespace Go.Proofs.Ytmlenepeocginaa
/-- The row, under a short name, for the claim. -/
theorem relayNever_holds : Rows.RelayNeverSaid := relayNever.proved
end Go.Proofs.Ytmlenepeocginaa
