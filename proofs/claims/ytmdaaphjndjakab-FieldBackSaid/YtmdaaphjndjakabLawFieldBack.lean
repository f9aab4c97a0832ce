/- The law FieldBack: out of its plain statement and the walk of its code. Written by this work's program. -/
import Derived.Test.YtmdaaphjndjakabRows
import Derived.Test.YtmdaaphjndjakabPFieldBackx2
import Derived.Test.YtmdaaphjndjakabPureFieldBack
import Derived.Test.YtmdaaphjndjakabGvOpen
import Derived.WalkKit
import Derived.ProofKit
import Derived.OpenShut
import Derived.ShutString
import Derived.ChangeOld
import Derived.Below
import Derived.SizedLaws
import Derived.ChangeArms
namespace Go.Proofs.Ytmdaaphjndjakab.fieldBack
open Go.ChangeShapes Go.WideShapes Go.ChangeAt Go.RowKit Go.Proofs.Ytmdaaphjndjakab.PFieldBack Go.Proofs.YtmdaaphjndjakabW.PrintWords
open Go.ChangeMaps (open_string shut_string)
set_option linter.unusedVariables false
theorem own : ownKnob Try.prog.godebug = none := by kernel_rfl
theorem laidOut : laidOutB Try.prog = true := by kernel_rfl
theorem cells101 : Try.prog.cellsOf 101 = 2 := by kernel_rfl
theorem cells3 : Try.prog.cellsOf 3 = 1 := by kernel_rfl
theorem cells49 : Try.prog.cellsOf 49 = 1 := by kernel_rfl
set_option maxRecDepth 100000 in
theorem open_S101 {H : Type} {enc : TypeId × Value → H} {w : World} {base : Nat} {spare : Nat → Bool} {held : Bool} {n : Nat} {cs : List Value} {y : DataW H × List MemPlace} (h : DataW.trod enc Try.prog w base spare held n 101 cs = some y) : ∃ s : S101, cs = [.int .i64 ((s).f0), .int .u64 ((s).f1)] ∧ ((Lit.int .i64 (s).f0).wf = true ∧ (Lit.int .u64 (s).f1).wf = true) := by
  obtain ⟨xs, m, _, _, hlen, hxl, hf⟩ := DataW.trod_struct Try.underlying101 h
  rw [cells101] at hlen
  obtain ⟨c0, cs0_, rfl, hl0_⟩ := Gv.list_cons hlen
  obtain ⟨c1, cs1_, rfl, hl1_⟩ := Gv.list_cons hl0_
  obtain rfl := List.eq_nil_of_length_eq_zero hl1_
  have hxl2 : xs.length = 2 := hxl
  obtain ⟨y0, xs0_, rfl, hx0_⟩ := Gv.list_cons hxl2
  obtain ⟨y1, xs1_, rfl, hx1_⟩ := Gv.list_cons hx0_
  obtain rfl := List.eq_nil_of_length_eq_zero hx1_
  have g0 : DataW.trod enc Try.prog w base spare held m 3 [c0] = some y0 := by
    have h0 : DataW.trod enc Try.prog w base spare held m 3 (([c0, c1].drop 0).take (Try.prog.cellsOf 3)) = [y0, y1][0]? := hf 0 _ rfl
    rw [cells3] at h0
    exact h0
  have g1 : DataW.trod enc Try.prog w base spare held m 49 [c1] = some y1 := by
    have h0 : DataW.trod enc Try.prog w base spare held m 49 (([c0, c1].drop 1).take (Try.prog.cellsOf 49)) = [y0, y1][1]? := hf 1 _ rfl
    rw [cells49] at h0
    exact h0
  obtain ⟨f0, e0, _, w0⟩ := DataW.trod_int Try.underlying3 g0
  simp only [List.cons.injEq, and_true] at e0
  obtain rfl := e0
  obtain ⟨f1, e1, _, w1⟩ := DataW.trod_int Try.underlying49 g1
  simp only [List.cons.injEq, and_true] at e1
  obtain rfl := e1
  exact ⟨⟨f0, f1⟩, rfl, ⟨w0, w1⟩⟩
set_option maxRecDepth 100000 in
theorem lifted (os : Os) (started : os.Started) (H : Type) (enc : TypeId × Value → H) :
    ReturnsInHanded {} Try.checked os 8 .any (Rows.fieldBackSpec.pre6 enc Try.prog Try.f8 Rows.fieldBackRow.domain false) (Rows.fieldBackSpec.post enc Try.prog Try.f8 false true false false) := by
  refine returnsInHanded_of_change_sized (C := Try.checked) own started (by kernel_rfl) Try.func8
    (ChangeSpec.witness6 (enc := enc) (C := Try.checked) false ⟨#[], #[.slice none 0 0, .string ByteArray.empty, .string ByteArray.empty, .slice none 0 0], []⟩ 8 (by kernel_rfl) (by kernel_rfl) (by kernel_rfl) (by kernel_rfl)) ?_
  intro W base args ds gs before hval0 hW hcnd hsz0 _
  have hsz : (DataW.weightsEach Try.prog (Try.f8.params.toList ++ Rows.fieldBackSpec.plain.varTypes Try.prog) (ds ++ gs)).all (· ≤ reachBytes) = true := hsz0
  have hval : ∀ (j : Nat) t v, Try.f8.params[j]? = some t → args[j]? = some v → Value.okWide Try.prog W .any base t v := hval0
  have hW' := hW
  obtain ⟨p, q, hA0, hV, rfl, hfz, hnd⟩ := hW
  have hA : DataW.TrodAll enc Try.prog W 0 (fun _ => true) true Try.f8.params.toList args.toList ds p := hA0
  rw [Try.params8] at hA hval hsz
  obtain ⟨v0, vs0, d0, ds0, p0, q0, hargs, rfl, rfl, h0, r0⟩ := trodAll_cons hA
  obtain ⟨v1, vs1, d1, ds1, p1, q1, rfl, rfl, rfl, h1, r1⟩ := trodAll_cons r0
  obtain ⟨v2, vs2, d2, ds2, p2, q2, rfl, rfl, rfl, h2, r2⟩ := trodAll_cons r1
  obtain ⟨v3, vs3, d3, ds3, p3, q3, rfl, rfl, rfl, h3, r3⟩ := trodAll_cons r2
  obtain ⟨rfl, rfl, rfl⟩ := trodAll_nil r3
  obtain rfl : args = #[v0, v1, v2, v3] := by cases args; simp_all
  obtain ⟨rfl, rfl⟩ := trodVars_none hV
  obtain ⟨A0, len0, cap0, rfl⟩ := okWide_slice Try.underlying96 (hval 0 96 v0 rfl rfl)
  have k0 := h0
  have lt0 : ∀ x ∈ p0, x.block < W.heap.size := by obtain ⟨m, hm⟩ := k0; exact DataW.trod_lt m _ _ _ hm
  obtain ⟨l0, hl0, hlc0, hlm0, hr0, hg0, hx0⟩ : ∃ l : List (S101), l.length = len0 ∧ len0 ≤ cap0 ∧ len0 ≤ maxLen ∧ Kd.C k101 W A0 len0 l ∧ (∀ x ∈ l, (Lit.int .i64 (x).f0).wf = true ∧ (Lit.int .u64 (x).f1).wf = true) ∧ ((len0 = 0) ∨ ∃ es sp, d0 = .slice es sp ∧ len0 ≤ es.length) := by
    obtain ⟨fuel, hf⟩ := h0
    exact Gv.open_slice_kd (d := k101) (good := fun x => (Lit.int .i64 (x).f0).wf = true ∧ (Lit.int .u64 (x).f1).wf = true) Try.underlying96 (by kernel_rfl) (fun hh => by obtain ⟨s, rfl, hg⟩ := open_S101 hh; exact ⟨s, k101_mk _ s, hg⟩) hf
  have y0 : len0 * 16 ≤ 140737488351232 := Gv.sized_slice_kd hsz (j := 0) (t := 96) rfl rfl Try.underlying96 (by kernel_rfl) hx0
  subst hl0
  obtain ⟨a1, rfl, rfl, rfl, y1⟩ := open_string Try.underlying9 (hval 1 9 v1 rfl rfl) h1
  have w1 : a1.size ≤ 140737488351232 := by
    have z := sized_string hsz (j := 1) (t := 9) rfl rfl
    rw [Array.length_toList] at z
    exact z
  obtain ⟨a2, rfl, rfl, rfl, y2⟩ := open_string Try.underlying9 (hval 2 9 v2 rfl rfl) h2
  have w2 : a2.size ≤ 140737488351232 := by
    have z := sized_string hsz (j := 2) (t := 9) rfl rfl
    rw [Array.length_toList] at z
    exact z
  obtain ⟨A3, len3, cap3, rfl⟩ := okWide_slice Try.underlying97 (hval 3 97 v3 rfl rfl)
  have k3 := h3
  have lt3 : ∀ x ∈ p3, x.block < W.heap.size := by obtain ⟨m, hm⟩ := k3; exact DataW.trod_lt m _ _ _ hm
  obtain ⟨l3, hl3, hlc3, hlm3, hr3, hg3, hx3⟩ : ∃ l : List Int, l.length = len3 ∧ len3 ≤ cap3 ∧ len3 ≤ maxLen ∧ Kd.C (Kd.int .i64) W A3 len3 l ∧ (∀ x ∈ l, (Lit.int .i64 x).wf = true) ∧ ((len3 = 0) ∨ ∃ es sp, d3 = .slice es sp ∧ len3 ≤ es.length) := by
    obtain ⟨fuel, hf⟩ := h3
    exact Gv.open_slice_kd (d := (Kd.int .i64)) (good := fun x => (Lit.int .i64 x).wf = true) Try.underlying97 (by kernel_rfl) (Gv.open_el_int Try.underlying3) hf
  have y3 : len3 * 8 ≤ 140737488351232 := Gv.sized_slice_kd hsz (j := 3) (t := 97) rfl rfl Try.underlying97 (by kernel_rfl) hx3
  subst hl3
  clear hA0 hval0 hsz0 hsz
  refine (PFieldBack.carousellaw01_FieldBack.walk Pure.FieldBack A0 cap0 l0 a1 a2 A3 cap3 l3 W hr0 hlc0 hlm0 y0 hg0 w1 w2 hr3 hlc3 hlm3 y3 hg3).mono fun e W' ⟨he, bel⟩ => ?_
  subst he
  exact ⟨_, rfl, _, _, _, [], _, [], hW', trodAll_mk1 (shut_bool Try.underlying4 _), (trodAll_cons_mk (Below.trod laidOut (by kernel_rfl) (of_decide_eq_true (by kernel_rfl)) k0 bel lt0) (trodAll_cons_mk (shut_string Try.underlying9 y1) (trodAll_cons_mk (shut_string Try.underlying9 y2) (trodAll_cons_mk (Below.trod laidOut (by kernel_rfl) (of_decide_eq_true (by kernel_rfl)) k3 bel lt3) trodAll_mk0)))), rfl, bel.frame _, fun h => by cases h⟩
theorem over : Rows.fieldBackRow.holds Try.pinned (OpenSpec.ofChange Rows.fieldBackSpec) :=
  OpenClaim.holds_of_wide 8 Try.f8 rfl rfl rfl rfl rfl rfl rfl ⟨rfl, rfl, rfl, rfl, rfl⟩ rfl rfl rfl rfl rfl (by kernel_rfl) Try.func8 (by kernel_rfl)
    (of_decide_eq_true (by kernel_rfl)) (by unfold Func.isWrapper; first | (rw [if_pos (by decide +kernel)]; kernel_rfl) | (rw [if_neg (by decide +kernel)]; exact ⟨rfl, rfl⟩))
    (fun os started H enc _ => lifted os started H enc)
theorem proved : Rows.FieldBackSaid := over
#print axioms proved
end Go.Proofs.Ytmdaaphjndjakab.fieldBack
namespace Go.Proofs.Ytmdaaphjndjakab
/-- The row, under a short name, for the claim. -/
theorem fieldBack_holds : Rows.FieldBackSaid := fieldBack.proved
end Go.Proofs.Ytmdaaphjndjakab
