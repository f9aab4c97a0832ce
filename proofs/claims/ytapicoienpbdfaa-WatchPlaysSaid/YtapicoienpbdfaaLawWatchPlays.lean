/- The law WatchPlays: out of its plain statement and the walk of its code. Written by this work's program. -/
import Derived.Test.YtapicoienpbdfaaRows
import Derived.Test.YtapicoienpbdfaaPWatchPlaysx14
import Derived.Test.YtapicoienpbdfaaPureWatchPlays
import Derived.Test.YtapicoienpbdfaaVWatchPlaysb
import Derived.WalkKit
import Derived.ProofKit
import Derived.OpenShut
import Derived.ShutString
import Derived.ChangeOld
import Derived.Below
import Derived.SizedLaws
import Derived.ChangeArms
namespace Go.Proofs.Ytapicoienpbdfaa.watchPlays
open Go.ChangeShapes Go.WideShapes Go.ChangeAt Go.RowKit Go.Proofs.Ytapicoienpbdfaa.PWatchPlays Go.Proofs.YtapicoienpbdfaaW.PrintWords
open Go.ChangeMaps (open_string shut_string)
set_option linter.unusedVariables false
theorem own : ownKnob Try.prog.godebug = none := by kernel_rfl
theorem laidOut : laidOutB Try.prog = true := by kernel_rfl
theorem cells42 : Try.prog.cellsOf 42 = 10 := by kernel_rfl
theorem cells2 : Try.prog.cellsOf 2 = 1 := by kernel_rfl
theorem cells4 : Try.prog.cellsOf 4 = 1 := by kernel_rfl
theorem cells5 : Try.prog.cellsOf 5 = 1 := by kernel_rfl
theorem cells9 : Try.prog.cellsOf 9 = 1 := by kernel_rfl
theorem cells22 : Try.prog.cellsOf 22 = 1 := by kernel_rfl
theorem cells33 : Try.prog.cellsOf 33 = 1 := by kernel_rfl
set_option maxRecDepth 100000 in
theorem open_S42 {H : Type} {enc : TypeId × Value → H} {w : World} {base : Nat} {spare : Nat → Bool} {held : Bool} {n : Nat} {cs : List Value} {y : DataW H × List MemPlace} (h : DataW.trod enc Try.prog w base spare held n 42 cs = some y) : ∃ s : S42, cs = [.int .u8 ((s).f0), .int .u16 ((s).f1), .int .u8 ((s).f2), .string ((s).f3), .int .i64 ((s).f4), .int .i64 ((s).f5), .int .i64 ((s).f6), .int .u64 ((s).f7), .bool ((s).f8), .bool ((s).f9)] ∧ ((Lit.int .u8 (s).f0).wf = true ∧ (Lit.int .u16 (s).f1).wf = true ∧ (Lit.int .u8 (s).f2).wf = true ∧ (s).f3.size ≤ 9223372036854775807 ∧ (Lit.int .i64 (s).f4).wf = true ∧ (Lit.int .i64 (s).f5).wf = true ∧ (Lit.int .i64 (s).f6).wf = true ∧ (Lit.int .u64 (s).f7).wf = true) := by
  obtain ⟨xs, m, _, _, hlen, hxl, hf⟩ := DataW.trod_struct Try.underlying42 h
  rw [cells42] at hlen
  obtain ⟨c0, cs0_, rfl, hl0_⟩ := Gv.list_cons hlen
  obtain ⟨c1, cs1_, rfl, hl1_⟩ := Gv.list_cons hl0_
  obtain ⟨c2, cs2_, rfl, hl2_⟩ := Gv.list_cons hl1_
  obtain ⟨c3, cs3_, rfl, hl3_⟩ := Gv.list_cons hl2_
  obtain ⟨c4, cs4_, rfl, hl4_⟩ := Gv.list_cons hl3_
  obtain ⟨c5, cs5_, rfl, hl5_⟩ := Gv.list_cons hl4_
  obtain ⟨c6, cs6_, rfl, hl6_⟩ := Gv.list_cons hl5_
  obtain ⟨c7, cs7_, rfl, hl7_⟩ := Gv.list_cons hl6_
  obtain ⟨c8, cs8_, rfl, hl8_⟩ := Gv.list_cons hl7_
  obtain ⟨c9, cs9_, rfl, hl9_⟩ := Gv.list_cons hl8_
  obtain rfl := List.eq_nil_of_length_eq_zero hl9_
  have hxl2 : xs.length = 10 := hxl
  obtain ⟨y0, xs0_, rfl, hx0_⟩ := Gv.list_cons hxl2
  obtain ⟨y1, xs1_, rfl, hx1_⟩ := Gv.list_cons hx0_
  obtain ⟨y2, xs2_, rfl, hx2_⟩ := Gv.list_cons hx1_
  obtain ⟨y3, xs3_, rfl, hx3_⟩ := Gv.list_cons hx2_
  obtain ⟨y4, xs4_, rfl, hx4_⟩ := Gv.list_cons hx3_
  obtain ⟨y5, xs5_, rfl, hx5_⟩ := Gv.list_cons hx4_
  obtain ⟨y6, xs6_, rfl, hx6_⟩ := Gv.list_cons hx5_
  obtain ⟨y7, xs7_, rfl, hx7_⟩ := Gv.list_cons hx6_
  obtain ⟨y8, xs8_, rfl, hx8_⟩ := Gv.list_cons hx7_
  obtain ⟨y9, xs9_, rfl, hx9_⟩ := Gv.list_cons hx8_
  obtain rfl := List.eq_nil_of_length_eq_zero hx9_
  have g0 : DataW.trod enc Try.prog w base spare held m 5 [c0] = some y0 := by
    have h0 : DataW.trod enc Try.prog w base spare held m 5 (([c0, c1, c2, c3, c4, c5, c6, c7, c8, c9].drop 0).take (Try.prog.cellsOf 5)) = [y0, y1, y2, y3, y4, y5, y6, y7, y8, y9][0]? := hf 0 _ rfl
    rw [cells5] at h0
    exact h0
  have g1 : DataW.trod enc Try.prog w base spare held m 22 [c1] = some y1 := by
    have h0 : DataW.trod enc Try.prog w base spare held m 22 (([c0, c1, c2, c3, c4, c5, c6, c7, c8, c9].drop 1).take (Try.prog.cellsOf 22)) = [y0, y1, y2, y3, y4, y5, y6, y7, y8, y9][1]? := hf 1 _ rfl
    rw [cells22] at h0
    exact h0
  have g2 : DataW.trod enc Try.prog w base spare held m 5 [c2] = some y2 := by
    have h0 : DataW.trod enc Try.prog w base spare held m 5 (([c0, c1, c2, c3, c4, c5, c6, c7, c8, c9].drop 2).take (Try.prog.cellsOf 5)) = [y0, y1, y2, y3, y4, y5, y6, y7, y8, y9][2]? := hf 2 _ rfl
    rw [cells5] at h0
    exact h0
  have g3 : DataW.trod enc Try.prog w base spare held m 9 [c3] = some y3 := by
    have h0 : DataW.trod enc Try.prog w base spare held m 9 (([c0, c1, c2, c3, c4, c5, c6, c7, c8, c9].drop 3).take (Try.prog.cellsOf 9)) = [y0, y1, y2, y3, y4, y5, y6, y7, y8, y9][3]? := hf 3 _ rfl
    rw [cells9] at h0
    exact h0
  have g4 : DataW.trod enc Try.prog w base spare held m 2 [c4] = some y4 := by
    have h0 : DataW.trod enc Try.prog w base spare held m 2 (([c0, c1, c2, c3, c4, c5, c6, c7, c8, c9].drop 4).take (Try.prog.cellsOf 2)) = [y0, y1, y2, y3, y4, y5, y6, y7, y8, y9][4]? := hf 4 _ rfl
    rw [cells2] at h0
    exact h0
  have g5 : DataW.trod enc Try.prog w base spare held m 2 [c5] = some y5 := by
    have h0 : DataW.trod enc Try.prog w base spare held m 2 (([c0, c1, c2, c3, c4, c5, c6, c7, c8, c9].drop 5).take (Try.prog.cellsOf 2)) = [y0, y1, y2, y3, y4, y5, y6, y7, y8, y9][5]? := hf 5 _ rfl
    rw [cells2] at h0
    exact h0
  have g6 : DataW.trod enc Try.prog w base spare held m 2 [c6] = some y6 := by
    have h0 : DataW.trod enc Try.prog w base spare held m 2 (([c0, c1, c2, c3, c4, c5, c6, c7, c8, c9].drop 6).take (Try.prog.cellsOf 2)) = [y0, y1, y2, y3, y4, y5, y6, y7, y8, y9][6]? := hf 6 _ rfl
    rw [cells2] at h0
    exact h0
  have g7 : DataW.trod enc Try.prog w base spare held m 33 [c7] = some y7 := by
    have h0 : DataW.trod enc Try.prog w base spare held m 33 (([c0, c1, c2, c3, c4, c5, c6, c7, c8, c9].drop 7).take (Try.prog.cellsOf 33)) = [y0, y1, y2, y3, y4, y5, y6, y7, y8, y9][7]? := hf 7 _ rfl
    rw [cells33] at h0
    exact h0
  have g8 : DataW.trod enc Try.prog w base spare held m 4 [c8] = some y8 := by
    have h0 : DataW.trod enc Try.prog w base spare held m 4 (([c0, c1, c2, c3, c4, c5, c6, c7, c8, c9].drop 8).take (Try.prog.cellsOf 4)) = [y0, y1, y2, y3, y4, y5, y6, y7, y8, y9][8]? := hf 8 _ rfl
    rw [cells4] at h0
    exact h0
  have g9 : DataW.trod enc Try.prog w base spare held m 4 [c9] = some y9 := by
    have h0 : DataW.trod enc Try.prog w base spare held m 4 (([c0, c1, c2, c3, c4, c5, c6, c7, c8, c9].drop 9).take (Try.prog.cellsOf 4)) = [y0, y1, y2, y3, y4, y5, y6, y7, y8, y9][9]? := hf 9 _ rfl
    rw [cells4] at h0
    exact h0
  obtain ⟨f0, e0, _, w0⟩ := DataW.trod_int Try.underlying5 g0
  simp only [List.cons.injEq, and_true] at e0
  obtain rfl := e0
  obtain ⟨f1, e1, _, w1⟩ := DataW.trod_int Try.underlying22 g1
  simp only [List.cons.injEq, and_true] at e1
  obtain rfl := e1
  obtain ⟨f2, e2, _, w2⟩ := DataW.trod_int Try.underlying5 g2
  simp only [List.cons.injEq, and_true] at e2
  obtain rfl := e2
  obtain ⟨f3, e3, _, w3⟩ := DataW.trod_string Try.underlying9 g3
  simp only [List.cons.injEq, and_true] at e3
  obtain rfl := e3
  obtain ⟨f4, e4, _, w4⟩ := DataW.trod_int Try.underlying2 g4
  simp only [List.cons.injEq, and_true] at e4
  obtain rfl := e4
  obtain ⟨f5, e5, _, w5⟩ := DataW.trod_int Try.underlying2 g5
  simp only [List.cons.injEq, and_true] at e5
  obtain rfl := e5
  obtain ⟨f6, e6, _, w6⟩ := DataW.trod_int Try.underlying2 g6
  simp only [List.cons.injEq, and_true] at e6
  obtain rfl := e6
  obtain ⟨f7, e7, _, w7⟩ := DataW.trod_int Try.underlying33 g7
  simp only [List.cons.injEq, and_true] at e7
  obtain rfl := e7
  obtain ⟨f8, e8, _⟩ := DataW.trod_bool Try.underlying4 g8
  simp only [List.cons.injEq, and_true] at e8
  obtain rfl := e8
  obtain ⟨f9, e9, _⟩ := DataW.trod_bool Try.underlying4 g9
  simp only [List.cons.injEq, and_true] at e9
  obtain rfl := e9
  exact ⟨⟨f0, f1, f2, f3, f4, f5, f6, f7, f8, f9⟩, rfl, ⟨w0, w1, w2, w3, w4, w5, w6, w7⟩⟩
theorem cells51 : Try.prog.cellsOf 51 = 3 := by kernel_rfl
set_option maxRecDepth 100000 in
theorem open_S51 {H : Type} {enc : TypeId × Value → H} {w : World} {base : Nat} {spare : Nat → Bool} {held : Bool} {n : Nat} {cs : List Value} {y : DataW H × List MemPlace} (h : DataW.trod enc Try.prog w base spare held n 51 cs = some y) : ∃ s : S51, cs = [.int .u16 ((s).f0), .bool ((s).f1), .string ((s).f2)] ∧ ((Lit.int .u16 (s).f0).wf = true ∧ (s).f2.size ≤ 9223372036854775807) := by
  obtain ⟨xs, m, _, _, hlen, hxl, hf⟩ := DataW.trod_struct Try.underlying51 h
  rw [cells51] at hlen
  obtain ⟨c0, cs0_, rfl, hl0_⟩ := Gv.list_cons hlen
  obtain ⟨c1, cs1_, rfl, hl1_⟩ := Gv.list_cons hl0_
  obtain ⟨c2, cs2_, rfl, hl2_⟩ := Gv.list_cons hl1_
  obtain rfl := List.eq_nil_of_length_eq_zero hl2_
  have hxl2 : xs.length = 3 := hxl
  obtain ⟨y0, xs0_, rfl, hx0_⟩ := Gv.list_cons hxl2
  obtain ⟨y1, xs1_, rfl, hx1_⟩ := Gv.list_cons hx0_
  obtain ⟨y2, xs2_, rfl, hx2_⟩ := Gv.list_cons hx1_
  obtain rfl := List.eq_nil_of_length_eq_zero hx2_
  have g0 : DataW.trod enc Try.prog w base spare held m 22 [c0] = some y0 := by
    have h0 : DataW.trod enc Try.prog w base spare held m 22 (([c0, c1, c2].drop 0).take (Try.prog.cellsOf 22)) = [y0, y1, y2][0]? := hf 0 _ rfl
    rw [cells22] at h0
    exact h0
  have g1 : DataW.trod enc Try.prog w base spare held m 4 [c1] = some y1 := by
    have h0 : DataW.trod enc Try.prog w base spare held m 4 (([c0, c1, c2].drop 1).take (Try.prog.cellsOf 4)) = [y0, y1, y2][1]? := hf 1 _ rfl
    rw [cells4] at h0
    exact h0
  have g2 : DataW.trod enc Try.prog w base spare held m 9 [c2] = some y2 := by
    have h0 : DataW.trod enc Try.prog w base spare held m 9 (([c0, c1, c2].drop 2).take (Try.prog.cellsOf 9)) = [y0, y1, y2][2]? := hf 2 _ rfl
    rw [cells9] at h0
    exact h0
  obtain ⟨f0, e0, _, w0⟩ := DataW.trod_int Try.underlying22 g0
  simp only [List.cons.injEq, and_true] at e0
  obtain rfl := e0
  obtain ⟨f1, e1, _⟩ := DataW.trod_bool Try.underlying4 g1
  simp only [List.cons.injEq, and_true] at e1
  obtain rfl := e1
  obtain ⟨f2, e2, _, w2⟩ := DataW.trod_string Try.underlying9 g2
  simp only [List.cons.injEq, and_true] at e2
  obtain rfl := e2
  exact ⟨⟨f0, f1, f2⟩, rfl, ⟨w0, w2⟩⟩
set_option maxRecDepth 100000 in
theorem lifted (os : Os) (started : os.Started) (H : Type) (enc : TypeId × Value → H) :
    ReturnsInHanded {} Try.checked os 4 .any (Rows.watchPlaysSpec.pre6 enc Try.prog Try.f4 Rows.watchPlaysRow.domain false) (Rows.watchPlaysSpec.post enc Try.prog Try.f4 false true false false) := by
  refine returnsInHanded_of_change_sized (C := Try.checked) own started (by kernel_rfl) Try.func4
    (ChangeSpec.witness6 (enc := enc) (C := Try.checked) false ⟨#[], #[.agg #[.int .u8 0, .int .u16 0, .int .u8 0, .string ByteArray.empty, .int .i64 0, .int .i64 0, .int .i64 0, .int .u64 0, .bool false, .bool false], .int .i64 0, .slice none 0 0], []⟩ 8 (by kernel_rfl) (by kernel_rfl) (by kernel_rfl) (by kernel_rfl)) ?_
  intro W base args ds gs before hval0 hW hcnd hsz0 _
  have hsz : (DataW.weightsEach Try.prog (Try.f4.params.toList ++ Rows.watchPlaysSpec.plain.varTypes Try.prog) (ds ++ gs)).all (· ≤ reachBytes) = true := hsz0
  have hval : ∀ (j : Nat) t v, Try.f4.params[j]? = some t → args[j]? = some v → Value.okWide Try.prog W .any base t v := hval0
  have hW' := hW
  obtain ⟨p, q, hA0, hV, rfl, hfz, hnd⟩ := hW
  have hA : DataW.TrodAll enc Try.prog W 0 (fun _ => true) true Try.f4.params.toList args.toList ds p := hA0
  rw [Try.params4] at hA hval hsz
  obtain ⟨v0, vs0, d0, ds0, p0, q0, hargs, rfl, rfl, h0, r0⟩ := trodAll_cons hA
  obtain ⟨v1, vs1, d1, ds1, p1, q1, rfl, rfl, rfl, h1, r1⟩ := trodAll_cons r0
  obtain ⟨v2, vs2, d2, ds2, p2, q2, rfl, rfl, rfl, h2, r2⟩ := trodAll_cons r1
  obtain ⟨rfl, rfl, rfl⟩ := trodAll_nil r2
  obtain rfl : args = #[v0, v1, v2] := by cases args; simp_all
  obtain ⟨rfl, rfl⟩ := trodVars_none hV
  obtain ⟨cs0, rfl, hcs0⟩ := okWide_struct Try.underlying42 (hval 0 42 v0 rfl rfl)
  have k0 := h0
  have lt0 : ∀ x ∈ p0, x.block < W.heap.size := by obtain ⟨m, hm⟩ := k0; exact DataW.trod_lt m _ _ _ hm
  obtain ⟨s0, es0, g0⟩ : ∃ s : S42, cs0 = #[.int .u8 ((s).f0), .int .u16 ((s).f1), .int .u8 ((s).f2), .string ((s).f3), .int .i64 ((s).f4), .int .i64 ((s).f5), .int .i64 ((s).f6), .int .u64 ((s).f7), .bool ((s).f8), .bool ((s).f9)] ∧ ((Lit.int .u8 (s).f0).wf = true ∧ (Lit.int .u16 (s).f1).wf = true ∧ (Lit.int .u8 (s).f2).wf = true ∧ (s).f3.size ≤ 9223372036854775807 ∧ (Lit.int .i64 (s).f4).wf = true ∧ (Lit.int .i64 (s).f5).wf = true ∧ (Lit.int .i64 (s).f6).wf = true ∧ (Lit.int .u64 (s).f7).wf = true) := by
    obtain ⟨fuel, hf⟩ := h0
    obtain ⟨s, hs, hg⟩ := open_S42 (cs := cs0.toList) hf
    refine ⟨s, ?_, hg⟩
    apply Array.toList_inj.1
    rw [hs]
  subst es0
  obtain ⟨a1, rfl, rfl, rfl, w1⟩ := open_int Try.underlying2 (hval 1 2 v1 rfl rfl) h1
  obtain ⟨A2, len2, cap2, rfl⟩ := okWide_slice Try.underlying43 (hval 2 43 v2 rfl rfl)
  have k2 := h2
  have lt2 : ∀ x ∈ p2, x.block < W.heap.size := by obtain ⟨m, hm⟩ := k2; exact DataW.trod_lt m _ _ _ hm
  obtain ⟨l2, hl2, hlc2, hlm2, hr2, hg2, hx2⟩ : ∃ l : List (S51), l.length = len2 ∧ len2 ≤ cap2 ∧ len2 ≤ maxLen ∧ Kd.C k51 W A2 len2 l ∧ (∀ x ∈ l, (Lit.int .u16 (x).f0).wf = true ∧ (x).f2.size ≤ 9223372036854775807) ∧ ((len2 = 0) ∨ ∃ es sp, d2 = .slice es sp ∧ len2 ≤ es.length) := by
    obtain ⟨fuel, hf⟩ := h2
    exact Gv.open_slice_kd (d := k51) (good := fun x => (Lit.int .u16 (x).f0).wf = true ∧ (x).f2.size ≤ 9223372036854775807) Try.underlying43 (by kernel_rfl) (fun hh => by obtain ⟨s, rfl, hg⟩ := open_S51 hh; exact ⟨s, k51_mk _ s, hg⟩) hf
  have y2 : len2 * 24 ≤ 140737488351232 := Gv.sized_slice_kd hsz (j := 2) (t := 43) rfl rfl Try.underlying43 (by kernel_rfl) hx2
  subst hl2
  clear hA0 hval0 hsz0 hsz
  refine (PWatchPlays.carousellaw09_WatchPlays.walk Pure.WatchPlays (s0).f0 (s0).f1 (s0).f2 (s0).f3 (s0).f4 (s0).f5 (s0).f6 (s0).f7 (s0).f8 (s0).f9 a1 A2 cap2 l2 W g0.1 g0.2.1 g0.2.2.1 g0.2.2.2.1 g0.2.2.2.2.1 g0.2.2.2.2.2.1 g0.2.2.2.2.2.2.1 g0.2.2.2.2.2.2.2 w1 hr2 hlc2 hlm2 y2 hg2).mono fun e W' ⟨he, bel⟩ => ?_
  subst he
  exact ⟨_, rfl, _, _, _, [], _, [], hW', trodAll_mk1 (shut_bool Try.underlying4 _), (trodAll_cons_mk (Below.trod laidOut (by kernel_rfl) (of_decide_eq_true (by kernel_rfl)) k0 bel lt0) (trodAll_cons_mk (shut_int Try.underlying2 w1) (trodAll_cons_mk (Below.trod laidOut (by kernel_rfl) (of_decide_eq_true (by kernel_rfl)) k2 bel lt2) trodAll_mk0))), rfl, bel.frame _, fun h => by cases h⟩
theorem over : Rows.watchPlaysRow.holds Try.pinned (OpenSpec.ofChange Rows.watchPlaysSpec) :=
  OpenClaim.holds_of_wide 4 Try.f4 rfl rfl rfl rfl rfl rfl rfl ⟨rfl, rfl, rfl, rfl, rfl⟩ rfl rfl rfl rfl rfl (by kernel_rfl) Try.func4 (by kernel_rfl)
    (of_decide_eq_true (by kernel_rfl)) (by unfold Func.isWrapper; first | (rw [if_pos (by decide +kernel)]; kernel_rfl) | (rw [if_neg (by decide +kernel)]; exact ⟨rfl, rfl⟩))
    (fun os started H enc _ => lifted os started H enc)
theorem proved : Rows.WatchPlaysSaid := over
#print axioms proved
end Go.Proofs.Ytapicoienpbdfaa.watchPlays
namespace Go.Proofs.Ytapicoienpbdfaa
/-- The row, under a short name, for the claim. -/
theorem watchPlays_holds : Rows.WatchPlaysSaid := watchPlays.proved
end Go.Proofs.Ytapicoienpbdfaa
