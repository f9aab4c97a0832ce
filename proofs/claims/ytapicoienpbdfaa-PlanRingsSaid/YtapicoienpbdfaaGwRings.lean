/- The law PlanRings, walked by hand. -/
import Derived.Test.YtapicoienpbdfaaLAllPlanRings
import Derived.WalkKit
import Derived.Deep.LoopGhost
import Derived.Deep.RegionHeld3
import Derived.Lib.Hide
import Derived.WideLaws
import Derived.Maps.Own
import Derived.Maps.OwnSet
import Derived.Maps.Views
namespace Go.Proofs.Ytapicoienpbdfaa.Ri
open Go.RowKit Go.Maps Go.Proofs.Ytapicoienpbdfaa.LPlanRings Go.Proofs.YtapicoienpbdfaaW.PrintWords Go.Proofs.YtapicoienpbdfaaW.PrintLast Go.Proofs.YtapicoienpbdfaaW.PrintMore
set_option linter.unusedVariables false
set_option linter.unusedSimpArgs false
theorem below_call {w W w1 : World} (h : Below w.heap.size w W) (hb : Below W.heap.size W w1) : Below w.heap.size w w1 := h.trans (hb.mono h.size)
theorem calls_W {P : Program} {f : FuncId} {args : Array Value} {Q : Ending → World → Prop} {W : World} (h : ∀ W', W' = W → Calls P f args W' Q) : Calls P f args W Q := h W rfl
theorem wi_W {P : Program} {C : Code} {Q : Exit → Act → World → Prop} {a : Act} {W : World} (h : ∀ W', W' = W → Code.wp P C Q a W') : Code.wp P C Q a W := h W rfl
/-- A map of the call's own: how many keys it has, and which. -/
def MS (w : World) (b : Nat) (kt : TypeId) (kk : IntKind) (cnt : Nat) (inS : Int → Prop) : Prop := ∃ D : DataW Unit, w.ownsMap Try.prog kt (plainElem Try.prog 3) b cnt D ∧ Maps.size D = cnt ∧ ∀ x, Maps.has D (.int kk x) = true ↔ inS x
theorem MS.below {w w1 : World} {b : Nat} {kt : TypeId} {kk : IntKind} {cnt : Nat} {inS : Int → Prop} (h : MS w b kt kk cnt inS) (hb : Below w.heap.size w w1) : MS w1 b kt kk cnt inS := by
  obtain ⟨D, ⟨es, clock, h0, F, hs, hD⟩, h2, h3⟩ := h
  exact ⟨D, ⟨es, clock, blk_below h0 hb, F, hs, hD⟩, h2, h3⟩
theorem MS.kept {w w1 : World} {b b2 : Nat} {kt : TypeId} {kk : IntKind} {cnt : Nat} {inS : Int → Prop} (h : MS w b kt kk cnt inS) (hg : w.grownBy w1 (some b2)) (hne : b ≠ b2) : MS w1 b kt kk cnt inS := by
  obtain ⟨D, h1, h2, h3⟩ := h
  exact ⟨D, h1.kept hg (by simpa using hne), h2, h3⟩
theorem MS.imp {w : World} {b : Nat} {kt : TypeId} {kk : IntKind} {cnt : Nat} {S T : Int → Prop} (h : MS w b kt kk cnt S) (hST : ∀ x, S x ↔ T x) : MS w b kt kk cnt T := by
  obtain ⟨D, h1, h2, h3⟩ := h
  exact ⟨D, h1, h2, fun x => (h3 x).trans (hST x)⟩
theorem MS.step {w1 : World} {b : Nat} {kt : TypeId} {kk : IntKind} {cnt : Nat} {inS : Int → Prop} {D : DataW Unit} {d : DataW Unit} {x : Int} (K : Keyed Try.prog kt) (hT : Tidy D) (h2 : Maps.size D = cnt) (h3 : ∀ x, Maps.has D (.int kk x) = true ↔ inS x) (hx : ¬ inS x) (h1 : w1.ownsMap Try.prog kt (plainElem Try.prog 3) b (cnt + 1) (D.put (.int kk x) d)) : MS w1 b kt kk (cnt + 1) (fun y => y = x ∨ inS y) := by
  have hn : Maps.has D (.int kk x) = false := by
    cases h : Maps.has D (.int kk x) with
    | false => rfl
    | true => exact absurd ((h3 x).1 h) hx
  refine ⟨_, h1, by rw [size_put hT, hn, h2]; rfl, fun y => ?_⟩
  by_cases hy : y = x
  · subst hy
    rw [has_put_same hT.isMap (by trivial)]
    simp
  · rw [has_put_other (fun e => hy (by cases e; rfl)), h3 y]
    simp [hy]
theorem law33 : Keyed Try.prog 33 := int_keyed Try.underlying33
theorem law22 : Keyed Try.prog 22 := int_keyed Try.underlying22
theorem zero3 (w : World) : (zeroValue 3).run Try.prog w = .ok (.int .i64 0) w := by kernel_rfl
theorem wf_u64 {a : Int} (h0 : 0 ≤ a) (h1 : a ≤ 18446744073709551615) : (Lit.int .u64 a).wf = true := by
  have h : IntKind.u64.min ≤ a ∧ a ≤ IntKind.u64.max := ⟨h0, h1⟩
  simpa [Lit.wf] using h
theorem wf_u16 {a : Int} (h0 : 0 ≤ a) (h1 : a ≤ 65535) : (Lit.int .u16 a).wf = true := by
  have h : IntKind.u16.min ≤ a ∧ a ≤ IntKind.u16.max := ⟨h0, h1⟩
  simpa [Lit.wf] using h
def OA (n o : Int) (k : Nat) (ows ats : Int) : Prop := ows = (if o < (k : Int) then 1 else 0) ∧ ats = (if (k : Int) = n then 0 else (k : Int))
/-- The far ends, as they are asked. -/
theorem nx_facts (n i : Int) (h3 : 3 ≤ n) (h0 : 0 ≤ i) (h1 : i < n) : 0 ≤ (if i = n - 1 then 0 else i + 1) ∧ (if i = n - 1 then 0 else i + 1) < n ∧ (if i = n - 1 then 0 else i + 1) ≠ i := by
  by_cases h : i = n - 1
  · rw [if_pos h]; omega
  · rw [if_neg h]; omega
theorem east2 (n o lv dt rg iv ho gd rs wt gp pe ag rm qu : Int) (rv : Bool) (hc : planCheck n o lv dt rg iv ho gd rs wt gp pe ag rm qu = 0) (hn3 : 3 ≤ n) (i : Int) (h0 : 0 ≤ i) (h1 : i < n) : ∃ nx : Int, 0 ≤ nx ∧ nx < n ∧ ¬ nx = i ∧ nx = (if i = n - 1 then 0 else i + 1) ∧ (∀ w : World, Calls Try.prog 10 #[.agg #[.int .i64 n, .int .i64 o, .int .u8 lv, .int .u16 dt, .int .u16 rg, .int .i64 iv, .int .i64 ho, .int .i64 gd, .int .i64 rs, .int .i64 wt, .int .i64 gp, .int .i64 pe, .int .i64 ag, .int .i64 rm, .int .i64 qu, .bool rv], .int .i64 (i), .int .i64 1] w fun y w' => y = .returned (.tuple #[.int .i64 (nx), .int .i64 0]) ∧ Below w.heap.size w w') ∧ (∀ w : World, Calls Try.prog 10 #[.agg #[.int .i64 n, .int .i64 o, .int .u8 lv, .int .u16 dt, .int .u16 rg, .int .i64 iv, .int .i64 ho, .int .i64 gd, .int .i64 rs, .int .i64 wt, .int .i64 gp, .int .i64 pe, .int .i64 ag, .int .i64 rm, .int .i64 qu, .bool rv], .int .i64 (nx), .int .i64 0] w fun y w' => y = .returned (.tuple #[.int .i64 (i), .int .i64 1]) ∧ Below w.heap.size w w') := by
  obtain ⟨a0, a1, a2⟩ := nx_facts n i hn3 h0 h1
  have e1 := fun w => east_c n o lv dt rg iv ho gd rs wt gp pe ag rm qu rv i w hc h0 h1
  have e2 := fun w => west_c n o lv dt rg iv ho gd rs wt gp pe ag rm qu rv (if i = n - 1 then 0 else i + 1) w hc a0 a1
  have e3 : (if (if i = n - 1 then 0 else i + 1) = 0 then n - 1 else (if i = n - 1 then 0 else i + 1) - 1) = i := by
    by_cases h : i = n - 1
    · rw [if_pos h, if_pos rfl]; exact h.symm
    · rw [if_neg h, if_neg (by omega)]; omega
  rw [e3] at e2
  exact ⟨_, a0, a1, a2, rfl, e1, e2⟩
theorem west2 (n o lv dt rg iv ho gd rs wt gp pe ag rm qu : Int) (rv : Bool) (hc : planCheck n o lv dt rg iv ho gd rs wt gp pe ag rm qu = 0) (hn3 : 3 ≤ n) (i : Int) (h0 : 0 ≤ i) (h1 : i < n) : ∃ px : Int, 0 ≤ px ∧ px < n ∧ ¬ px = i ∧ (∀ w : World, Calls Try.prog 10 #[.agg #[.int .i64 n, .int .i64 o, .int .u8 lv, .int .u16 dt, .int .u16 rg, .int .i64 iv, .int .i64 ho, .int .i64 gd, .int .i64 rs, .int .i64 wt, .int .i64 gp, .int .i64 pe, .int .i64 ag, .int .i64 rm, .int .i64 qu, .bool rv], .int .i64 (i), .int .i64 0] w fun y w' => y = .returned (.tuple #[.int .i64 (px), .int .i64 1]) ∧ Below w.heap.size w w') ∧ (∀ w : World, Calls Try.prog 10 #[.agg #[.int .i64 n, .int .i64 o, .int .u8 lv, .int .u16 dt, .int .u16 rg, .int .i64 iv, .int .i64 ho, .int .i64 gd, .int .i64 rs, .int .i64 wt, .int .i64 gp, .int .i64 pe, .int .i64 ag, .int .i64 rm, .int .i64 qu, .bool rv], .int .i64 (px), .int .i64 1] w fun y w' => y = .returned (.tuple #[.int .i64 (i), .int .i64 0]) ∧ Below w.heap.size w w') := by
  have a0 : 0 ≤ (if i = 0 then n - 1 else i - 1) ∧ (if i = 0 then n - 1 else i - 1) < n ∧ ¬ (if i = 0 then n - 1 else i - 1) = i := by
    by_cases h : i = 0
    · rw [if_pos h]; omega
    · rw [if_neg h]; omega
  have e1 := fun w => west_c n o lv dt rg iv ho gd rs wt gp pe ag rm qu rv i w hc h0 h1
  have e2 := fun w => east_c n o lv dt rg iv ho gd rs wt gp pe ag rm qu rv (if i = 0 then n - 1 else i - 1) w hc a0.1 a0.2.1
  have e3 : (if (if i = 0 then n - 1 else i - 1) = n - 1 then 0 else (if i = 0 then n - 1 else i - 1) + 1) = i := by
    by_cases h : i = 0
    · rw [if_pos h, if_pos rfl]; exact h.symm
    · rw [if_neg h, if_neg (by omega)]; omega
  rw [e3] at e2
  exact ⟨_, a0.1, a0.2.1, a0.2.2, e1, e2⟩
theorem role_own (n o lv dt rg iv ho_ gd rs wt gp pe ag rm qu : Int) (rv : Bool) (hc : planCheck n o lv dt rg iv ho_ gd rs wt gp pe ag rm qu = 0) (hn3 : 3 ≤ n) (i nx : Int) (h0 : 0 ≤ i) (h1 : i < n) (ho : i = o) (hx : nx = (if i = n - 1 then 0 else i + 1)) : (∀ w : World, Calls Try.prog 8 #[.agg #[.int .i64 n, .int .i64 o, .int .u8 lv, .int .u16 dt, .int .u16 rg, .int .i64 iv, .int .i64 ho_, .int .i64 gd, .int .i64 rs, .int .i64 wt, .int .i64 gp, .int .i64 pe, .int .i64 ag, .int .i64 rm, .int .i64 qu, .bool rv], .int .i64 (i)] w fun y w' => y = .returned (.tuple #[.int .i64 (1), .int .i64 (1)]) ∧ Below w.heap.size w w') ∧ (∀ w : World, Calls Try.prog 8 #[.agg #[.int .i64 n, .int .i64 o, .int .u8 lv, .int .u16 dt, .int .u16 rg, .int .i64 iv, .int .i64 ho_, .int .i64 gd, .int .i64 rs, .int .i64 wt, .int .i64 gp, .int .i64 pe, .int .i64 ag, .int .i64 rm, .int .i64 qu, .bool rv], .int .i64 (nx)] w fun y w' => y = .returned (.tuple #[.int .i64 (2), .int .i64 (0)]) ∧ Below w.heap.size w w') := by
  obtain ⟨a0, a1, a2⟩ := nx_facts n i hn3 h0 h1
  rw [← hx] at a0 a1 a2
  have e1 := fun w => role_c n o lv dt rg iv ho_ gd rs wt gp pe ag rm qu rv i w hc h0 h1
  have e2 := fun w => role_c n o lv dt rg iv ho_ gd rs wt gp pe ag rm qu rv nx w hc a0 a1
  have r1 : roleOf true n o i = (1, 1) := by unfold roleOf; rw [if_pos rfl, if_pos ho]
  have hm : nx = (o + 1) % n := by
    rw [hx, ← ho]
    by_cases h : i = n - 1
    · rw [if_pos h, show i + 1 = n from by omega, Int.emod_self]
    · rw [if_neg h, Int.emod_eq_of_lt (by omega) (by omega)]
  have r2 : roleOf true n o nx = (2, 0) := by unfold roleOf; rw [if_pos rfl, if_neg (by omega), if_pos hm]
  rw [r1] at e1
  rw [r2] at e2
  exact ⟨e1, e2⟩
theorem role_other (n o lv dt rg iv ho_ gd rs wt gp pe ag rm qu : Int) (rv : Bool) (hc : planCheck n o lv dt rg iv ho_ gd rs wt gp pe ag rm qu = 0) (hn3 : 3 ≤ n) (i : Int) (h0 : 0 ≤ i) (h1 : i < n) (ho : ¬ i = o) : ∃ ro po : Int, ¬ ro = 1 ∧ (∀ w : World, Calls Try.prog 8 #[.agg #[.int .i64 n, .int .i64 o, .int .u8 lv, .int .u16 dt, .int .u16 rg, .int .i64 iv, .int .i64 ho_, .int .i64 gd, .int .i64 rs, .int .i64 wt, .int .i64 gp, .int .i64 pe, .int .i64 ag, .int .i64 rm, .int .i64 qu, .bool rv], .int .i64 (i)] w fun y w' => y = .returned (.tuple #[.int .i64 (ro), .int .i64 (po)]) ∧ Below w.heap.size w w') := by
  have e1 := fun w => role_c n o lv dt rg iv ho_ gd rs wt gp pe ag rm qu rv i w hc h0 h1
  by_cases h : i = (o + 1) % n
  · have r1 : roleOf true n o i = (2, 0) := by unfold roleOf; rw [if_pos rfl, if_neg ho, if_pos h]
    rw [r1] at e1
    exact ⟨2, 0, by decide, e1⟩
  · have r1 : roleOf true n o i = (0, -1) := by unfold roleOf; rw [if_pos rfl, if_neg ho, if_neg h]
    rw [r1] at e1
    exact ⟨0, -1, by decide, e1⟩
set_option maxHeartbeats 16000000 in
set_option maxRecDepth 100000 in
theorem rings (n o lv dt rg iv ho gd rs wt gp pe ag rm qu : Int) (rv : Bool) (w : World) :
    Calls Try.prog 6 #[.agg #[.int .i64 n, .int .i64 o, .int .u8 lv, .int .u16 dt, .int .u16 rg, .int .i64 iv, .int .i64 ho, .int .i64 gd, .int .i64 rs, .int .i64 wt, .int .i64 gp, .int .i64 pe, .int .i64 ag, .int .i64 rm, .int .i64 qu, .bool rv]] w fun e w' => e = .returned (.bool true) ∧ Below w.heap.size w w' := by
  have hmm := @run_makeMap Try.prog
  have hB0 := Below.refl w.heap.size w
  go_enter Try.func6, Try.ntmps6
  go_wp2_with fail
  refine calls_W (fun W1 hW1 => ?_)
  have hB1 : Below w.heap.size w W1 := by rw [hW1]; first | exact hB0 | exact below_alloc (hB0) _ | exact below_alloc (below_alloc (hB0) _) _ | exact below_alloc (below_alloc (below_alloc (hB0) _) _) _
  have hp1 : W1.heap[w.heap.size]? = some (.cells #[.int .i64 n, .int .i64 o, .int .u8 lv, .int .u16 dt, .int .u16 rg, .int .i64 iv, .int .i64 ho, .int .i64 gd, .int .i64 rs, .int .i64 wt, .int .i64 gp, .int .i64 pe, .int .i64 ag, .int .i64 rm, .int .i64 qu, .bool rv] 24 (0, 0)) := by rw [hW1]; exact blk_new _ _
  clear hW1
  refine (check_c n o lv dt rg iv ho gd rs wt gp pe ag rm qu rv _).mono ?_
  rintro e' w2 ⟨rfl, hb⟩
  have hp2 := blk_below hp1 hb
  have hB2 := below_call hB1 hb
  have tp := blk_lt hp2
  have zp0 : w2.cell? ⟨w.heap.size, 0, none⟩ = some (.int .i64 n) := (blk_cell hp2 0).trans rfl
  have fp0 := blk_frozen hp2 0
  have zp1 : w2.cell? ⟨w.heap.size, 1, none⟩ = some (.int .i64 o) := (blk_cell hp2 1).trans rfl
  have fp1 := blk_frozen hp2 1
  have zp2 : w2.cell? ⟨w.heap.size, 2, none⟩ = some (.int .u8 lv) := (blk_cell hp2 2).trans rfl
  have fp2 := blk_frozen hp2 2
  have zp3 : w2.cell? ⟨w.heap.size, 3, none⟩ = some (.int .u16 dt) := (blk_cell hp2 3).trans rfl
  have fp3 := blk_frozen hp2 3
  have zp4 : w2.cell? ⟨w.heap.size, 4, none⟩ = some (.int .u16 rg) := (blk_cell hp2 4).trans rfl
  have fp4 := blk_frozen hp2 4
  have zp5 : w2.cell? ⟨w.heap.size, 5, none⟩ = some (.int .i64 iv) := (blk_cell hp2 5).trans rfl
  have fp5 := blk_frozen hp2 5
  have zp6 : w2.cell? ⟨w.heap.size, 6, none⟩ = some (.int .i64 ho) := (blk_cell hp2 6).trans rfl
  have fp6 := blk_frozen hp2 6
  have zp7 : w2.cell? ⟨w.heap.size, 7, none⟩ = some (.int .i64 gd) := (blk_cell hp2 7).trans rfl
  have fp7 := blk_frozen hp2 7
  have zp8 : w2.cell? ⟨w.heap.size, 8, none⟩ = some (.int .i64 rs) := (blk_cell hp2 8).trans rfl
  have fp8 := blk_frozen hp2 8
  have zp9 : w2.cell? ⟨w.heap.size, 9, none⟩ = some (.int .i64 wt) := (blk_cell hp2 9).trans rfl
  have fp9 := blk_frozen hp2 9
  have zp10 : w2.cell? ⟨w.heap.size, 10, none⟩ = some (.int .i64 gp) := (blk_cell hp2 10).trans rfl
  have fp10 := blk_frozen hp2 10
  have zp11 : w2.cell? ⟨w.heap.size, 11, none⟩ = some (.int .i64 pe) := (blk_cell hp2 11).trans rfl
  have fp11 := blk_frozen hp2 11
  have zp12 : w2.cell? ⟨w.heap.size, 12, none⟩ = some (.int .i64 ag) := (blk_cell hp2 12).trans rfl
  have fp12 := blk_frozen hp2 12
  have zp13 : w2.cell? ⟨w.heap.size, 13, none⟩ = some (.int .i64 rm) := (blk_cell hp2 13).trans rfl
  have fp13 := blk_frozen hp2 13
  have zp14 : w2.cell? ⟨w.heap.size, 14, none⟩ = some (.int .i64 qu) := (blk_cell hp2 14).trans rfl
  have fp14 := blk_frozen hp2 14
  have zp15 : w2.cell? ⟨w.heap.size, 15, none⟩ = some (.bool rv) := (blk_cell hp2 15).trans rfl
  have fp15 := blk_frozen hp2 15
  by_cases hc : planCheck n o lv dt rg iv ho gd rs wt gp pe ag rm qu = 0
  · skip
    have hcz := check_zero hc
    have hqz : (planCheck n o lv dt rg iv ho gd rs wt gp pe ag rm qu = 0) = True := eq_true hc
    go_wp2_with fail
    have hs2 := hB2.size
    have hlp := blk_lt hp2
    go_loopw [5, 6, 27] (fun ow at_ i wr => ∃ (k : Nat) (ows ats : Int), (k : Int) ≤ n ∧ ow = .int .i64 ows ∧ at_ = .int .i64 ats ∧ OA n o k ows ats ∧ i = .int .i64 k ∧ wr.heap[w.heap.size]? = some (.cells #[.int .i64 n, .int .i64 o, .int .u8 lv, .int .u16 dt, .int .u16 rg, .int .i64 iv, .int .i64 ho, .int .i64 gd, .int .i64 rs, .int .i64 wt, .int .i64 gp, .int .i64 pe, .int .i64 ag, .int .i64 rm, .int .i64 qu, .bool rv] 24 (0, 0)) ∧ MS wr (w2.heap.size) 33 .u64 (2 * k) (fun x => (2199023255553 ≤ x ∧ x < 2199023255553 + (k)) ∨ (6597069766657 ≤ x ∧ x < 6597069766657 + (k))) ∧ MS wr (w2.heap.size + 1) 22 .u16 (2 * k) (fun x => 1 ≤ x ∧ x ≤ (2 * (k : Int))) ∧ Below w.heap.size w wr) (fun _ _ i _ => n.toNat - (intOf i).toNat)
    case atStart =>
      refine ⟨0, 0, 0, by omega, rfl, rfl, ⟨?_, ?_⟩, rfl, blk_alloc (blk_alloc hp2 _) _, ?_, ?_, below_alloc (below_alloc hB2 _) _⟩
      · rw [if_neg (by omega)] <;> rfl
      · rw [if_neg (by omega)] <;> rfl
      · exact ⟨_, (World.ownsMap_made w2 Try.prog 33 (plainElem Try.prog 3)).alloc _, rfl, fun x => ⟨fun h => (by cases h), fun h => by omega⟩⟩
      · have h := World.ownsMap_made (H := Unit) (w2.alloc (.map #[] 0)) Try.prog 22 (plainElem Try.prog 3)
        rw [World.size_alloc] at h
        exact ⟨_, h, rfl, fun x => ⟨fun h => (by cases h), fun h => by omega⟩⟩
    case round =>
      clear tp zp0 fp0 zp1 fp1 zp2 fp2 zp3 fp3 zp4 fp4 zp5 fp5 zp6 fp6 zp7 fp7 zp8 fp8 zp9 fp9 zp10 fp10 zp11 fp11 zp12 fp12 zp13 fp13 zp14 fp14 zp15 fp15
      obtain ⟨k, ows, ats, hk, rfl, rfl, hoa, rfl, hpw, hS, hE, hB⟩ := hrel
      by_cases hlt : (k : Int) < n
      · skip
        have hp4 : wr.heap[w.heap.size]? = some (.cells #[.int .i64 n, .int .i64 o, .int .u8 lv, .int .u16 dt, .int .u16 rg, .int .i64 iv, .int .i64 ho, .int .i64 gd, .int .i64 rs, .int .i64 wt, .int .i64 gp, .int .i64 pe, .int .i64 ag, .int .i64 rm, .int .i64 qu, .bool rv] 24 (0, 0)) := hpw
        have hB4 := hB
        have hS4 := Lib.hid hS
        have hE4 := Lib.hid hE
        clear hpw hB hS hE
        have hk0 : (0 : Int) ≤ (k : Int) := by omega
        have hnn : decide ((k : Int) < n) = true := decide_eq_true hlt
        have hn16 : n ≤ 16 := hcz.2.1
        have hn3 : 3 ≤ n := hcz.1
        obtain ⟨nx, hnx0, hnx1, hnx2, hnx3, hX1, hX2⟩ := east2 n o lv dt rg iv ho gd rs wt gp pe ag rm qu rv hc hn3 k hk0 hlt
        have HN3 := Lib.hid hnx3
        clear hnx3
        obtain ⟨px, hpx0, hpx1, hpx2, hY1, hY2⟩ := west2 n o lv dt rg iv ho gd rs wt gp pe ag rm qu rv hc hn3 k hk0 hlt
        clear hmm
        as_aux_lemma =>
         have zp0 : wr.cell? ⟨w.heap.size, 0, none⟩ = some (.int .i64 n) := (blk_cell hp4 0).trans rfl
         have zp1 : wr.cell? ⟨w.heap.size, 1, none⟩ = some (.int .i64 o) := (blk_cell hp4 1).trans rfl
         have zp2 : wr.cell? ⟨w.heap.size, 2, none⟩ = some (.int .u8 lv) := (blk_cell hp4 2).trans rfl
         have zp3 : wr.cell? ⟨w.heap.size, 3, none⟩ = some (.int .u16 dt) := (blk_cell hp4 3).trans rfl
         have zp4 : wr.cell? ⟨w.heap.size, 4, none⟩ = some (.int .u16 rg) := (blk_cell hp4 4).trans rfl
         have zp5 : wr.cell? ⟨w.heap.size, 5, none⟩ = some (.int .i64 iv) := (blk_cell hp4 5).trans rfl
         have zp6 : wr.cell? ⟨w.heap.size, 6, none⟩ = some (.int .i64 ho) := (blk_cell hp4 6).trans rfl
         have zp7 : wr.cell? ⟨w.heap.size, 7, none⟩ = some (.int .i64 gd) := (blk_cell hp4 7).trans rfl
         have zp8 : wr.cell? ⟨w.heap.size, 8, none⟩ = some (.int .i64 rs) := (blk_cell hp4 8).trans rfl
         have zp9 : wr.cell? ⟨w.heap.size, 9, none⟩ = some (.int .i64 wt) := (blk_cell hp4 9).trans rfl
         have zp10 : wr.cell? ⟨w.heap.size, 10, none⟩ = some (.int .i64 gp) := (blk_cell hp4 10).trans rfl
         have zp11 : wr.cell? ⟨w.heap.size, 11, none⟩ = some (.int .i64 pe) := (blk_cell hp4 11).trans rfl
         have zp12 : wr.cell? ⟨w.heap.size, 12, none⟩ = some (.int .i64 ag) := (blk_cell hp4 12).trans rfl
         have zp13 : wr.cell? ⟨w.heap.size, 13, none⟩ = some (.int .i64 rm) := (blk_cell hp4 13).trans rfl
         have zp14 : wr.cell? ⟨w.heap.size, 14, none⟩ = some (.int .i64 qu) := (blk_cell hp4 14).trans rfl
         have zp15 : wr.cell? ⟨w.heap.size, 15, none⟩ = some (.bool rv) := (blk_cell hp4 15).trans rfl
         go_wp2_with fail
         refine (node_c n o lv dt rg iv ho gd rs wt gp pe ag rm qu rv k _ hc hk0 hlt).mono ?_
         rintro e' w5 ⟨rfl, hb⟩
         have hp5 := blk_below hp4 hb
         have hB5 := below_call hB4 hb
         generalize hpv1 : (Value.agg #[.int .i64 n, .int .i64 o, .int .u8 lv, .int .u16 dt, .int .u16 rg, .int .i64 iv, .int .i64 ho, .int .i64 gd, .int .i64 rs, .int .i64 wt, .int .i64 gp, .int .i64 pe, .int .i64 ag, .int .i64 rm, .int .i64 qu, .bool rv]) = pv1
         replace hpv1 := Lib.hid hpv1
         have hS5 := hS4.out.below hb
         have hE5 := hE4.out.below hb
         obtain ⟨D, hown, hsz, hhas⟩ := hS5
         have hT := hown.tidy law33
         have hkey : keyOf Try.prog 33 (.int .u64 (2199023255553 + (k : Int))) = some (.int .u64 (2199023255553 + (k : Int))) := keyOf_int_mk Try.underlying33 (wf_u64 (by omega) (by omega))
         clear zp0 zp1 zp2 zp3 zp4 zp5 zp6 zp7 zp8 zp9 zp10 zp11 zp12 zp13 zp14 zp15
         have zp0 : w5.cell? ⟨w.heap.size, 0, none⟩ = some (.int .i64 n) := (blk_cell hp5 0).trans rfl
         have zp1 : w5.cell? ⟨w.heap.size, 1, none⟩ = some (.int .i64 o) := (blk_cell hp5 1).trans rfl
         have zp2 : w5.cell? ⟨w.heap.size, 2, none⟩ = some (.int .u8 lv) := (blk_cell hp5 2).trans rfl
         have zp3 : w5.cell? ⟨w.heap.size, 3, none⟩ = some (.int .u16 dt) := (blk_cell hp5 3).trans rfl
         have zp4 : w5.cell? ⟨w.heap.size, 4, none⟩ = some (.int .u16 rg) := (blk_cell hp5 4).trans rfl
         have zp5 : w5.cell? ⟨w.heap.size, 5, none⟩ = some (.int .i64 iv) := (blk_cell hp5 5).trans rfl
         have zp6 : w5.cell? ⟨w.heap.size, 6, none⟩ = some (.int .i64 ho) := (blk_cell hp5 6).trans rfl
         have zp7 : w5.cell? ⟨w.heap.size, 7, none⟩ = some (.int .i64 gd) := (blk_cell hp5 7).trans rfl
         have zp8 : w5.cell? ⟨w.heap.size, 8, none⟩ = some (.int .i64 rs) := (blk_cell hp5 8).trans rfl
         have zp9 : w5.cell? ⟨w.heap.size, 9, none⟩ = some (.int .i64 wt) := (blk_cell hp5 9).trans rfl
         have zp10 : w5.cell? ⟨w.heap.size, 10, none⟩ = some (.int .i64 gp) := (blk_cell hp5 10).trans rfl
         have zp11 : w5.cell? ⟨w.heap.size, 11, none⟩ = some (.int .i64 pe) := (blk_cell hp5 11).trans rfl
         have zp12 : w5.cell? ⟨w.heap.size, 12, none⟩ = some (.int .i64 ag) := (blk_cell hp5 12).trans rfl
         have zp13 : w5.cell? ⟨w.heap.size, 13, none⟩ = some (.int .i64 rm) := (blk_cell hp5 13).trans rfl
         have zp14 : w5.cell? ⟨w.heap.size, 14, none⟩ = some (.int .i64 qu) := (blk_cell hp5 14).trans rfl
         have zp15 : w5.cell? ⟨w.heap.size, 15, none⟩ = some (.bool rv) := (blk_cell hp5 15).trans rfl
         have hO := Lib.hid hE5
         clear hE5
         have HO := Lib.hid hown
         have HS := Lib.hid hsz
         have HH := Lib.hid hhas
         have HT := Lib.hid hT
         have HK := Lib.hid hkey
         clear hown hsz hhas hT hkey
         go_wp2_with (first
           | (at_lookup; refine wpList_lookup_own_int _ rfl _ _ 67 rfl 33 3 .i64 law33 Try.underlying67 Try.underlying3 (zero3 _) (w2.heap.size) (2 * k) _ rfl HO.out _ _ rfl HK.out ?_; intro c hat hwc)
           | (at_mapUpdate; refine wpList_mapUpdate_own _ rfl _ _ _ 67 rfl 33 3 law33 Try.underlying67 _ (w2.heap.size) (2 * k) _ rfl HO.out (by unfold maxLen; omega) _ _ _ rfl rfl HK.out _ [] (plainElem_int Try.underlying3 (wrap64_wf _)) ?_; intro w6 hown1 hgrow1
              have hp6 := blk_grown hp5 hgrow1 (by simp; omega)
              have hB6 := hB5.grown hgrow1 hB5.size (fun j hj => by cases hj; omega)
              have hS6 := Lib.hid ((MS.step law33 HT.out HS.out HH.out (by intro hx; omega) hown1).imp (T := fun x => (2199023255553 ≤ x ∧ x < 2199023255553 + ((k : Int) + 1)) ∨ (6597069766657 ≤ x ∧ x < 6597069766657 + (k : Int))) (fun x => by constructor <;> intro hx <;> omega))
              have hE6 := Lib.hid (hO.out.kept hgrow1 (by omega))
              clear hown1 hgrow1 HO HS HH HT HK hO hat hwc
              clear zp0 zp1 zp2 zp3 zp4 zp5 zp6 zp7 zp8 zp9 zp10 zp11 zp12 zp13 zp14 zp15
              have zp0 : w6.cell? ⟨w.heap.size, 0, none⟩ = some (.int .i64 n) := (blk_cell hp6 0).trans rfl
              have zp1 : w6.cell? ⟨w.heap.size, 1, none⟩ = some (.int .i64 o) := (blk_cell hp6 1).trans rfl
              have zp2 : w6.cell? ⟨w.heap.size, 2, none⟩ = some (.int .u8 lv) := (blk_cell hp6 2).trans rfl
              have zp3 : w6.cell? ⟨w.heap.size, 3, none⟩ = some (.int .u16 dt) := (blk_cell hp6 3).trans rfl
              have zp4 : w6.cell? ⟨w.heap.size, 4, none⟩ = some (.int .u16 rg) := (blk_cell hp6 4).trans rfl
              have zp5 : w6.cell? ⟨w.heap.size, 5, none⟩ = some (.int .i64 iv) := (blk_cell hp6 5).trans rfl
              have zp6 : w6.cell? ⟨w.heap.size, 6, none⟩ = some (.int .i64 ho) := (blk_cell hp6 6).trans rfl
              have zp7 : w6.cell? ⟨w.heap.size, 7, none⟩ = some (.int .i64 gd) := (blk_cell hp6 7).trans rfl
              have zp8 : w6.cell? ⟨w.heap.size, 8, none⟩ = some (.int .i64 rs) := (blk_cell hp6 8).trans rfl
              have zp9 : w6.cell? ⟨w.heap.size, 9, none⟩ = some (.int .i64 wt) := (blk_cell hp6 9).trans rfl
              have zp10 : w6.cell? ⟨w.heap.size, 10, none⟩ = some (.int .i64 gp) := (blk_cell hp6 10).trans rfl
              have zp11 : w6.cell? ⟨w.heap.size, 11, none⟩ = some (.int .i64 pe) := (blk_cell hp6 11).trans rfl
              have zp12 : w6.cell? ⟨w.heap.size, 12, none⟩ = some (.int .i64 ag) := (blk_cell hp6 12).trans rfl
              have zp13 : w6.cell? ⟨w.heap.size, 13, none⟩ = some (.int .i64 rm) := (blk_cell hp6 13).trans rfl
              have zp14 : w6.cell? ⟨w.heap.size, 14, none⟩ = some (.int .i64 qu) := (blk_cell hp6 14).trans rfl
              have zp15 : w6.cell? ⟨w.heap.size, 15, none⟩ = some (.bool rv) := (blk_cell hp6 15).trans rfl))
         as_aux_lemma =>
          refine (host_c n o lv dt rg iv ho gd rs wt gp pe ag rm qu rv k _ hc hk0 hlt).mono ?_
          rintro e' w7 ⟨rfl, hb⟩
          have hp7 := blk_below hp6 hb
          have hB7 := below_call hB6 hb
          generalize hpv2 : (Value.agg #[.int .i64 n, .int .i64 o, .int .u8 lv, .int .u16 dt, .int .u16 rg, .int .i64 iv, .int .i64 ho, .int .i64 gd, .int .i64 rs, .int .i64 wt, .int .i64 gp, .int .i64 pe, .int .i64 ag, .int .i64 rm, .int .i64 qu, .bool rv]) = pv2
          replace hpv2 := Lib.hid hpv2
          have hS7 := hS6.out.below hb
          have hE7 := hE6.out.below hb
          obtain ⟨D, hown, hsz, hhas⟩ := hS7
          have hT := hown.tidy law33
          have hkey : keyOf Try.prog 33 (.int .u64 (6597069766657 + (k : Int))) = some (.int .u64 (6597069766657 + (k : Int))) := keyOf_int_mk Try.underlying33 (wf_u64 (by omega) (by omega))
          clear zp0 zp1 zp2 zp3 zp4 zp5 zp6 zp7 zp8 zp9 zp10 zp11 zp12 zp13 zp14 zp15
          have zp0 : w7.cell? ⟨w.heap.size, 0, none⟩ = some (.int .i64 n) := (blk_cell hp7 0).trans rfl
          have zp1 : w7.cell? ⟨w.heap.size, 1, none⟩ = some (.int .i64 o) := (blk_cell hp7 1).trans rfl
          have zp2 : w7.cell? ⟨w.heap.size, 2, none⟩ = some (.int .u8 lv) := (blk_cell hp7 2).trans rfl
          have zp3 : w7.cell? ⟨w.heap.size, 3, none⟩ = some (.int .u16 dt) := (blk_cell hp7 3).trans rfl
          have zp4 : w7.cell? ⟨w.heap.size, 4, none⟩ = some (.int .u16 rg) := (blk_cell hp7 4).trans rfl
          have zp5 : w7.cell? ⟨w.heap.size, 5, none⟩ = some (.int .i64 iv) := (blk_cell hp7 5).trans rfl
          have zp6 : w7.cell? ⟨w.heap.size, 6, none⟩ = some (.int .i64 ho) := (blk_cell hp7 6).trans rfl
          have zp7 : w7.cell? ⟨w.heap.size, 7, none⟩ = some (.int .i64 gd) := (blk_cell hp7 7).trans rfl
          have zp8 : w7.cell? ⟨w.heap.size, 8, none⟩ = some (.int .i64 rs) := (blk_cell hp7 8).trans rfl
          have zp9 : w7.cell? ⟨w.heap.size, 9, none⟩ = some (.int .i64 wt) := (blk_cell hp7 9).trans rfl
          have zp10 : w7.cell? ⟨w.heap.size, 10, none⟩ = some (.int .i64 gp) := (blk_cell hp7 10).trans rfl
          have zp11 : w7.cell? ⟨w.heap.size, 11, none⟩ = some (.int .i64 pe) := (blk_cell hp7 11).trans rfl
          have zp12 : w7.cell? ⟨w.heap.size, 12, none⟩ = some (.int .i64 ag) := (blk_cell hp7 12).trans rfl
          have zp13 : w7.cell? ⟨w.heap.size, 13, none⟩ = some (.int .i64 rm) := (blk_cell hp7 13).trans rfl
          have zp14 : w7.cell? ⟨w.heap.size, 14, none⟩ = some (.int .i64 qu) := (blk_cell hp7 14).trans rfl
          have zp15 : w7.cell? ⟨w.heap.size, 15, none⟩ = some (.bool rv) := (blk_cell hp7 15).trans rfl
          have hO := Lib.hid hE7
          clear hE7
          have HO := Lib.hid hown
          have HS := Lib.hid hsz
          have HH := Lib.hid hhas
          have HT := Lib.hid hT
          have HK := Lib.hid hkey
          clear hown hsz hhas hT hkey
          go_wp2_with (first
            | (at_lookup; refine wpList_lookup_own_int _ rfl _ _ 67 rfl 33 3 .i64 law33 Try.underlying67 Try.underlying3 (zero3 _) (w2.heap.size) (2 * k + 1) _ rfl HO.out _ _ rfl HK.out ?_; intro c hat hwc)
            | (at_mapUpdate; refine wpList_mapUpdate_own _ rfl _ _ _ 67 rfl 33 3 law33 Try.underlying67 _ (w2.heap.size) (2 * k + 1) _ rfl HO.out (by unfold maxLen; omega) _ _ _ rfl rfl HK.out _ [] (plainElem_int Try.underlying3 (wrap64_wf _)) ?_; intro w8 hown1 hgrow1
               have hp8 := blk_grown hp7 hgrow1 (by simp; omega)
               have hB8 := hB7.grown hgrow1 hB7.size (fun j hj => by cases hj; omega)
               have hS8 := Lib.hid ((MS.step law33 HT.out HS.out HH.out (by intro hx; omega) hown1).imp (T := fun x => (2199023255553 ≤ x ∧ x < 2199023255553 + ((k : Int) + 1)) ∨ (6597069766657 ≤ x ∧ x < 6597069766657 + ((k : Int) + 1))) (fun x => by constructor <;> intro hx <;> omega))
               have hE8 := Lib.hid (hO.out.kept hgrow1 (by omega))
               clear hown1 hgrow1 HO HS HH HT HK hO hat hwc
               clear zp0 zp1 zp2 zp3 zp4 zp5 zp6 zp7 zp8 zp9 zp10 zp11 zp12 zp13 zp14 zp15
               have zp0 : w8.cell? ⟨w.heap.size, 0, none⟩ = some (.int .i64 n) := (blk_cell hp8 0).trans rfl
               have zp1 : w8.cell? ⟨w.heap.size, 1, none⟩ = some (.int .i64 o) := (blk_cell hp8 1).trans rfl
               have zp2 : w8.cell? ⟨w.heap.size, 2, none⟩ = some (.int .u8 lv) := (blk_cell hp8 2).trans rfl
               have zp3 : w8.cell? ⟨w.heap.size, 3, none⟩ = some (.int .u16 dt) := (blk_cell hp8 3).trans rfl
               have zp4 : w8.cell? ⟨w.heap.size, 4, none⟩ = some (.int .u16 rg) := (blk_cell hp8 4).trans rfl
               have zp5 : w8.cell? ⟨w.heap.size, 5, none⟩ = some (.int .i64 iv) := (blk_cell hp8 5).trans rfl
               have zp6 : w8.cell? ⟨w.heap.size, 6, none⟩ = some (.int .i64 ho) := (blk_cell hp8 6).trans rfl
               have zp7 : w8.cell? ⟨w.heap.size, 7, none⟩ = some (.int .i64 gd) := (blk_cell hp8 7).trans rfl
               have zp8 : w8.cell? ⟨w.heap.size, 8, none⟩ = some (.int .i64 rs) := (blk_cell hp8 8).trans rfl
               have zp9 : w8.cell? ⟨w.heap.size, 9, none⟩ = some (.int .i64 wt) := (blk_cell hp8 9).trans rfl
               have zp10 : w8.cell? ⟨w.heap.size, 10, none⟩ = some (.int .i64 gp) := (blk_cell hp8 10).trans rfl
               have zp11 : w8.cell? ⟨w.heap.size, 11, none⟩ = some (.int .i64 pe) := (blk_cell hp8 11).trans rfl
               have zp12 : w8.cell? ⟨w.heap.size, 12, none⟩ = some (.int .i64 ag) := (blk_cell hp8 12).trans rfl
               have zp13 : w8.cell? ⟨w.heap.size, 13, none⟩ = some (.int .i64 rm) := (blk_cell hp8 13).trans rfl
               have zp14 : w8.cell? ⟨w.heap.size, 14, none⟩ = some (.int .i64 qu) := (blk_cell hp8 14).trans rfl
               have zp15 : w8.cell? ⟨w.heap.size, 15, none⟩ = some (.bool rv) := (blk_cell hp8 15).trans rfl))
          as_aux_lemma =>
           refine (node_c n o lv dt rg iv ho gd rs wt gp pe ag rm qu rv k _ hc hk0 hlt).mono ?_
           rintro e' w9 ⟨rfl, hb⟩
           have hp9 := blk_below hp8 hb
           have hB9 := below_call hB8 hb
           generalize hpv3 : (Value.agg #[.int .i64 n, .int .i64 o, .int .u8 lv, .int .u16 dt, .int .u16 rg, .int .i64 iv, .int .i64 ho, .int .i64 gd, .int .i64 rs, .int .i64 wt, .int .i64 gp, .int .i64 pe, .int .i64 ag, .int .i64 rm, .int .i64 qu, .bool rv]) = pv3
           replace hpv3 := Lib.hid hpv3
           have hS9 := Lib.hid (hS8.out.below hb)
           have hE9 := Lib.hid (hE8.out.below hb)
           clear zp0 zp1 zp2 zp3 zp4 zp5 zp6 zp7 zp8 zp9 zp10 zp11 zp12 zp13 zp14 zp15
           have zp0 : w9.cell? ⟨w.heap.size, 0, none⟩ = some (.int .i64 n) := (blk_cell hp9 0).trans rfl
           have zp1 : w9.cell? ⟨w.heap.size, 1, none⟩ = some (.int .i64 o) := (blk_cell hp9 1).trans rfl
           have zp2 : w9.cell? ⟨w.heap.size, 2, none⟩ = some (.int .u8 lv) := (blk_cell hp9 2).trans rfl
           have zp3 : w9.cell? ⟨w.heap.size, 3, none⟩ = some (.int .u16 dt) := (blk_cell hp9 3).trans rfl
           have zp4 : w9.cell? ⟨w.heap.size, 4, none⟩ = some (.int .u16 rg) := (blk_cell hp9 4).trans rfl
           have zp5 : w9.cell? ⟨w.heap.size, 5, none⟩ = some (.int .i64 iv) := (blk_cell hp9 5).trans rfl
           have zp6 : w9.cell? ⟨w.heap.size, 6, none⟩ = some (.int .i64 ho) := (blk_cell hp9 6).trans rfl
           have zp7 : w9.cell? ⟨w.heap.size, 7, none⟩ = some (.int .i64 gd) := (blk_cell hp9 7).trans rfl
           have zp8 : w9.cell? ⟨w.heap.size, 8, none⟩ = some (.int .i64 rs) := (blk_cell hp9 8).trans rfl
           have zp9 : w9.cell? ⟨w.heap.size, 9, none⟩ = some (.int .i64 wt) := (blk_cell hp9 9).trans rfl
           have zp10 : w9.cell? ⟨w.heap.size, 10, none⟩ = some (.int .i64 gp) := (blk_cell hp9 10).trans rfl
           have zp11 : w9.cell? ⟨w.heap.size, 11, none⟩ = some (.int .i64 pe) := (blk_cell hp9 11).trans rfl
           have zp12 : w9.cell? ⟨w.heap.size, 12, none⟩ = some (.int .i64 ag) := (blk_cell hp9 12).trans rfl
           have zp13 : w9.cell? ⟨w.heap.size, 13, none⟩ = some (.int .i64 rm) := (blk_cell hp9 13).trans rfl
           have zp14 : w9.cell? ⟨w.heap.size, 14, none⟩ = some (.int .i64 qu) := (blk_cell hp9 14).trans rfl
           have zp15 : w9.cell? ⟨w.heap.size, 15, none⟩ = some (.bool rv) := (blk_cell hp9 15).trans rfl
           as_aux_lemma =>
            go_wp2_with fail
            refine (group_c (2199023255553 + (k : Int)) _ (by omega)).mono ?_
            rintro e' w10 ⟨rfl, hb⟩
            have hp10 := blk_below hp9 hb
            have hB10 := below_call hB9 hb
            generalize hpv4 : (Value.agg #[.int .i64 n, .int .i64 o, .int .u8 lv, .int .u16 dt, .int .u16 rg, .int .i64 iv, .int .i64 ho, .int .i64 gd, .int .i64 rs, .int .i64 wt, .int .i64 gp, .int .i64 pe, .int .i64 ag, .int .i64 rm, .int .i64 qu, .bool rv]) = pv4
            replace hpv4 := Lib.hid hpv4
            have hS10 := Lib.hid (hS9.out.below hb)
            have hE10 := Lib.hid (hE9.out.below hb)
            clear zp0 zp1 zp2 zp3 zp4 zp5 zp6 zp7 zp8 zp9 zp10 zp11 zp12 zp13 zp14 zp15
            have zp0 : w10.cell? ⟨w.heap.size, 0, none⟩ = some (.int .i64 n) := (blk_cell hp10 0).trans rfl
            have zp1 : w10.cell? ⟨w.heap.size, 1, none⟩ = some (.int .i64 o) := (blk_cell hp10 1).trans rfl
            have zp2 : w10.cell? ⟨w.heap.size, 2, none⟩ = some (.int .u8 lv) := (blk_cell hp10 2).trans rfl
            have zp3 : w10.cell? ⟨w.heap.size, 3, none⟩ = some (.int .u16 dt) := (blk_cell hp10 3).trans rfl
            have zp4 : w10.cell? ⟨w.heap.size, 4, none⟩ = some (.int .u16 rg) := (blk_cell hp10 4).trans rfl
            have zp5 : w10.cell? ⟨w.heap.size, 5, none⟩ = some (.int .i64 iv) := (blk_cell hp10 5).trans rfl
            have zp6 : w10.cell? ⟨w.heap.size, 6, none⟩ = some (.int .i64 ho) := (blk_cell hp10 6).trans rfl
            have zp7 : w10.cell? ⟨w.heap.size, 7, none⟩ = some (.int .i64 gd) := (blk_cell hp10 7).trans rfl
            have zp8 : w10.cell? ⟨w.heap.size, 8, none⟩ = some (.int .i64 rs) := (blk_cell hp10 8).trans rfl
            have zp9 : w10.cell? ⟨w.heap.size, 9, none⟩ = some (.int .i64 wt) := (blk_cell hp10 9).trans rfl
            have zp10 : w10.cell? ⟨w.heap.size, 10, none⟩ = some (.int .i64 gp) := (blk_cell hp10 10).trans rfl
            have zp11 : w10.cell? ⟨w.heap.size, 11, none⟩ = some (.int .i64 pe) := (blk_cell hp10 11).trans rfl
            have zp12 : w10.cell? ⟨w.heap.size, 12, none⟩ = some (.int .i64 ag) := (blk_cell hp10 12).trans rfl
            have zp13 : w10.cell? ⟨w.heap.size, 13, none⟩ = some (.int .i64 rm) := (blk_cell hp10 13).trans rfl
            have zp14 : w10.cell? ⟨w.heap.size, 14, none⟩ = some (.int .i64 qu) := (blk_cell hp10 14).trans rfl
            have zp15 : w10.cell? ⟨w.heap.size, 15, none⟩ = some (.bool rv) := (blk_cell hp10 15).trans rfl
            as_aux_lemma =>
             go_wp2_with fail
             as_aux_lemma =>
              refine (host_c n o lv dt rg iv ho gd rs wt gp pe ag rm qu rv k _ hc hk0 hlt).mono ?_
              rintro e' w11 ⟨rfl, hb⟩
              have hp11 := blk_below hp10 hb
              have hB11 := below_call hB10 hb
              generalize hpv5 : (Value.agg #[.int .i64 n, .int .i64 o, .int .u8 lv, .int .u16 dt, .int .u16 rg, .int .i64 iv, .int .i64 ho, .int .i64 gd, .int .i64 rs, .int .i64 wt, .int .i64 gp, .int .i64 pe, .int .i64 ag, .int .i64 rm, .int .i64 qu, .bool rv]) = pv5
              replace hpv5 := Lib.hid hpv5
              have hS11 := Lib.hid (hS10.out.below hb)
              have hE11 := Lib.hid (hE10.out.below hb)
              clear zp0 zp1 zp2 zp3 zp4 zp5 zp6 zp7 zp8 zp9 zp10 zp11 zp12 zp13 zp14 zp15
              have zp0 : w11.cell? ⟨w.heap.size, 0, none⟩ = some (.int .i64 n) := (blk_cell hp11 0).trans rfl
              have zp1 : w11.cell? ⟨w.heap.size, 1, none⟩ = some (.int .i64 o) := (blk_cell hp11 1).trans rfl
              have zp2 : w11.cell? ⟨w.heap.size, 2, none⟩ = some (.int .u8 lv) := (blk_cell hp11 2).trans rfl
              have zp3 : w11.cell? ⟨w.heap.size, 3, none⟩ = some (.int .u16 dt) := (blk_cell hp11 3).trans rfl
              have zp4 : w11.cell? ⟨w.heap.size, 4, none⟩ = some (.int .u16 rg) := (blk_cell hp11 4).trans rfl
              have zp5 : w11.cell? ⟨w.heap.size, 5, none⟩ = some (.int .i64 iv) := (blk_cell hp11 5).trans rfl
              have zp6 : w11.cell? ⟨w.heap.size, 6, none⟩ = some (.int .i64 ho) := (blk_cell hp11 6).trans rfl
              have zp7 : w11.cell? ⟨w.heap.size, 7, none⟩ = some (.int .i64 gd) := (blk_cell hp11 7).trans rfl
              have zp8 : w11.cell? ⟨w.heap.size, 8, none⟩ = some (.int .i64 rs) := (blk_cell hp11 8).trans rfl
              have zp9 : w11.cell? ⟨w.heap.size, 9, none⟩ = some (.int .i64 wt) := (blk_cell hp11 9).trans rfl
              have zp10 : w11.cell? ⟨w.heap.size, 10, none⟩ = some (.int .i64 gp) := (blk_cell hp11 10).trans rfl
              have zp11 : w11.cell? ⟨w.heap.size, 11, none⟩ = some (.int .i64 pe) := (blk_cell hp11 11).trans rfl
              have zp12 : w11.cell? ⟨w.heap.size, 12, none⟩ = some (.int .i64 ag) := (blk_cell hp11 12).trans rfl
              have zp13 : w11.cell? ⟨w.heap.size, 13, none⟩ = some (.int .i64 rm) := (blk_cell hp11 13).trans rfl
              have zp14 : w11.cell? ⟨w.heap.size, 14, none⟩ = some (.int .i64 qu) := (blk_cell hp11 14).trans rfl
              have zp15 : w11.cell? ⟨w.heap.size, 15, none⟩ = some (.bool rv) := (blk_cell hp11 15).trans rfl
              as_aux_lemma =>
               go_wp2_with fail
               refine (group_c (6597069766657 + (k : Int)) _ (by omega)).mono ?_
               rintro e' w12 ⟨rfl, hb⟩
               have hp12 := blk_below hp11 hb
               have hB12 := below_call hB11 hb
               generalize hpv6 : (Value.agg #[.int .i64 n, .int .i64 o, .int .u8 lv, .int .u16 dt, .int .u16 rg, .int .i64 iv, .int .i64 ho, .int .i64 gd, .int .i64 rs, .int .i64 wt, .int .i64 gp, .int .i64 pe, .int .i64 ag, .int .i64 rm, .int .i64 qu, .bool rv]) = pv6
               replace hpv6 := Lib.hid hpv6
               have hS12 := Lib.hid (hS11.out.below hb)
               have hE12 := Lib.hid (hE11.out.below hb)
               clear zp0 zp1 zp2 zp3 zp4 zp5 zp6 zp7 zp8 zp9 zp10 zp11 zp12 zp13 zp14 zp15
               have zp0 : w12.cell? ⟨w.heap.size, 0, none⟩ = some (.int .i64 n) := (blk_cell hp12 0).trans rfl
               have zp1 : w12.cell? ⟨w.heap.size, 1, none⟩ = some (.int .i64 o) := (blk_cell hp12 1).trans rfl
               have zp2 : w12.cell? ⟨w.heap.size, 2, none⟩ = some (.int .u8 lv) := (blk_cell hp12 2).trans rfl
               have zp3 : w12.cell? ⟨w.heap.size, 3, none⟩ = some (.int .u16 dt) := (blk_cell hp12 3).trans rfl
               have zp4 : w12.cell? ⟨w.heap.size, 4, none⟩ = some (.int .u16 rg) := (blk_cell hp12 4).trans rfl
               have zp5 : w12.cell? ⟨w.heap.size, 5, none⟩ = some (.int .i64 iv) := (blk_cell hp12 5).trans rfl
               have zp6 : w12.cell? ⟨w.heap.size, 6, none⟩ = some (.int .i64 ho) := (blk_cell hp12 6).trans rfl
               have zp7 : w12.cell? ⟨w.heap.size, 7, none⟩ = some (.int .i64 gd) := (blk_cell hp12 7).trans rfl
               have zp8 : w12.cell? ⟨w.heap.size, 8, none⟩ = some (.int .i64 rs) := (blk_cell hp12 8).trans rfl
               have zp9 : w12.cell? ⟨w.heap.size, 9, none⟩ = some (.int .i64 wt) := (blk_cell hp12 9).trans rfl
               have zp10 : w12.cell? ⟨w.heap.size, 10, none⟩ = some (.int .i64 gp) := (blk_cell hp12 10).trans rfl
               have zp11 : w12.cell? ⟨w.heap.size, 11, none⟩ = some (.int .i64 pe) := (blk_cell hp12 11).trans rfl
               have zp12 : w12.cell? ⟨w.heap.size, 12, none⟩ = some (.int .i64 ag) := (blk_cell hp12 12).trans rfl
               have zp13 : w12.cell? ⟨w.heap.size, 13, none⟩ = some (.int .i64 rm) := (blk_cell hp12 13).trans rfl
               have zp14 : w12.cell? ⟨w.heap.size, 14, none⟩ = some (.int .i64 qu) := (blk_cell hp12 14).trans rfl
               have zp15 : w12.cell? ⟨w.heap.size, 15, none⟩ = some (.bool rv) := (blk_cell hp12 15).trans rfl
               as_aux_lemma =>
                go_wp2_with fail
                as_aux_lemma =>
                 refine (node_c n o lv dt rg iv ho gd rs wt gp pe ag rm qu rv k _ hc hk0 hlt).mono ?_
                 rintro e' w13 ⟨rfl, hb⟩
                 have hp13 := blk_below hp12 hb
                 have hB13 := below_call hB12 hb
                 generalize hpv7 : (Value.agg #[.int .i64 n, .int .i64 o, .int .u8 lv, .int .u16 dt, .int .u16 rg, .int .i64 iv, .int .i64 ho, .int .i64 gd, .int .i64 rs, .int .i64 wt, .int .i64 gp, .int .i64 pe, .int .i64 ag, .int .i64 rm, .int .i64 qu, .bool rv]) = pv7
                 replace hpv7 := Lib.hid hpv7
                 have hS13 := Lib.hid (hS12.out.below hb)
                 have hE13 := Lib.hid (hE12.out.below hb)
                 clear zp0 zp1 zp2 zp3 zp4 zp5 zp6 zp7 zp8 zp9 zp10 zp11 zp12 zp13 zp14 zp15
                 have zp0 : w13.cell? ⟨w.heap.size, 0, none⟩ = some (.int .i64 n) := (blk_cell hp13 0).trans rfl
                 have zp1 : w13.cell? ⟨w.heap.size, 1, none⟩ = some (.int .i64 o) := (blk_cell hp13 1).trans rfl
                 have zp2 : w13.cell? ⟨w.heap.size, 2, none⟩ = some (.int .u8 lv) := (blk_cell hp13 2).trans rfl
                 have zp3 : w13.cell? ⟨w.heap.size, 3, none⟩ = some (.int .u16 dt) := (blk_cell hp13 3).trans rfl
                 have zp4 : w13.cell? ⟨w.heap.size, 4, none⟩ = some (.int .u16 rg) := (blk_cell hp13 4).trans rfl
                 have zp5 : w13.cell? ⟨w.heap.size, 5, none⟩ = some (.int .i64 iv) := (blk_cell hp13 5).trans rfl
                 have zp6 : w13.cell? ⟨w.heap.size, 6, none⟩ = some (.int .i64 ho) := (blk_cell hp13 6).trans rfl
                 have zp7 : w13.cell? ⟨w.heap.size, 7, none⟩ = some (.int .i64 gd) := (blk_cell hp13 7).trans rfl
                 have zp8 : w13.cell? ⟨w.heap.size, 8, none⟩ = some (.int .i64 rs) := (blk_cell hp13 8).trans rfl
                 have zp9 : w13.cell? ⟨w.heap.size, 9, none⟩ = some (.int .i64 wt) := (blk_cell hp13 9).trans rfl
                 have zp10 : w13.cell? ⟨w.heap.size, 10, none⟩ = some (.int .i64 gp) := (blk_cell hp13 10).trans rfl
                 have zp11 : w13.cell? ⟨w.heap.size, 11, none⟩ = some (.int .i64 pe) := (blk_cell hp13 11).trans rfl
                 have zp12 : w13.cell? ⟨w.heap.size, 12, none⟩ = some (.int .i64 ag) := (blk_cell hp13 12).trans rfl
                 have zp13 : w13.cell? ⟨w.heap.size, 13, none⟩ = some (.int .i64 rm) := (blk_cell hp13 13).trans rfl
                 have zp14 : w13.cell? ⟨w.heap.size, 14, none⟩ = some (.int .i64 qu) := (blk_cell hp13 14).trans rfl
                 have zp15 : w13.cell? ⟨w.heap.size, 15, none⟩ = some (.bool rv) := (blk_cell hp13 15).trans rfl
                 as_aux_lemma =>
                  go_wp2_with fail
                  refine (may_c (2199023255553 + (k : Int)) _ (by omega) (by omega)).mono ?_
                  rintro e' w14 ⟨rfl, hb⟩
                  have hp14 := blk_below hp13 hb
                  have hB14 := below_call hB13 hb
                  generalize hpv8 : (Value.agg #[.int .i64 n, .int .i64 o, .int .u8 lv, .int .u16 dt, .int .u16 rg, .int .i64 iv, .int .i64 ho, .int .i64 gd, .int .i64 rs, .int .i64 wt, .int .i64 gp, .int .i64 pe, .int .i64 ag, .int .i64 rm, .int .i64 qu, .bool rv]) = pv8
                  replace hpv8 := Lib.hid hpv8
                  have hS14 := Lib.hid (hS13.out.below hb)
                  have hE14 := Lib.hid (hE13.out.below hb)
                  clear zp0 zp1 zp2 zp3 zp4 zp5 zp6 zp7 zp8 zp9 zp10 zp11 zp12 zp13 zp14 zp15
                  have zp0 : w14.cell? ⟨w.heap.size, 0, none⟩ = some (.int .i64 n) := (blk_cell hp14 0).trans rfl
                  have zp1 : w14.cell? ⟨w.heap.size, 1, none⟩ = some (.int .i64 o) := (blk_cell hp14 1).trans rfl
                  have zp2 : w14.cell? ⟨w.heap.size, 2, none⟩ = some (.int .u8 lv) := (blk_cell hp14 2).trans rfl
                  have zp3 : w14.cell? ⟨w.heap.size, 3, none⟩ = some (.int .u16 dt) := (blk_cell hp14 3).trans rfl
                  have zp4 : w14.cell? ⟨w.heap.size, 4, none⟩ = some (.int .u16 rg) := (blk_cell hp14 4).trans rfl
                  have zp5 : w14.cell? ⟨w.heap.size, 5, none⟩ = some (.int .i64 iv) := (blk_cell hp14 5).trans rfl
                  have zp6 : w14.cell? ⟨w.heap.size, 6, none⟩ = some (.int .i64 ho) := (blk_cell hp14 6).trans rfl
                  have zp7 : w14.cell? ⟨w.heap.size, 7, none⟩ = some (.int .i64 gd) := (blk_cell hp14 7).trans rfl
                  have zp8 : w14.cell? ⟨w.heap.size, 8, none⟩ = some (.int .i64 rs) := (blk_cell hp14 8).trans rfl
                  have zp9 : w14.cell? ⟨w.heap.size, 9, none⟩ = some (.int .i64 wt) := (blk_cell hp14 9).trans rfl
                  have zp10 : w14.cell? ⟨w.heap.size, 10, none⟩ = some (.int .i64 gp) := (blk_cell hp14 10).trans rfl
                  have zp11 : w14.cell? ⟨w.heap.size, 11, none⟩ = some (.int .i64 pe) := (blk_cell hp14 11).trans rfl
                  have zp12 : w14.cell? ⟨w.heap.size, 12, none⟩ = some (.int .i64 ag) := (blk_cell hp14 12).trans rfl
                  have zp13 : w14.cell? ⟨w.heap.size, 13, none⟩ = some (.int .i64 rm) := (blk_cell hp14 13).trans rfl
                  have zp14 : w14.cell? ⟨w.heap.size, 14, none⟩ = some (.int .i64 qu) := (blk_cell hp14 14).trans rfl
                  have zp15 : w14.cell? ⟨w.heap.size, 15, none⟩ = some (.bool rv) := (blk_cell hp14 15).trans rfl
                  as_aux_lemma =>
                   go_wp2_with fail
                   as_aux_lemma =>
                    refine (host_c n o lv dt rg iv ho gd rs wt gp pe ag rm qu rv k _ hc hk0 hlt).mono ?_
                    rintro e' w15 ⟨rfl, hb⟩
                    have hp15 := blk_below hp14 hb
                    have hB15 := below_call hB14 hb
                    generalize hpv9 : (Value.agg #[.int .i64 n, .int .i64 o, .int .u8 lv, .int .u16 dt, .int .u16 rg, .int .i64 iv, .int .i64 ho, .int .i64 gd, .int .i64 rs, .int .i64 wt, .int .i64 gp, .int .i64 pe, .int .i64 ag, .int .i64 rm, .int .i64 qu, .bool rv]) = pv9
                    replace hpv9 := Lib.hid hpv9
                    have hS15 := Lib.hid (hS14.out.below hb)
                    have hE15 := Lib.hid (hE14.out.below hb)
                    clear zp0 zp1 zp2 zp3 zp4 zp5 zp6 zp7 zp8 zp9 zp10 zp11 zp12 zp13 zp14 zp15
                    have zp0 : w15.cell? ⟨w.heap.size, 0, none⟩ = some (.int .i64 n) := (blk_cell hp15 0).trans rfl
                    have zp1 : w15.cell? ⟨w.heap.size, 1, none⟩ = some (.int .i64 o) := (blk_cell hp15 1).trans rfl
                    have zp2 : w15.cell? ⟨w.heap.size, 2, none⟩ = some (.int .u8 lv) := (blk_cell hp15 2).trans rfl
                    have zp3 : w15.cell? ⟨w.heap.size, 3, none⟩ = some (.int .u16 dt) := (blk_cell hp15 3).trans rfl
                    have zp4 : w15.cell? ⟨w.heap.size, 4, none⟩ = some (.int .u16 rg) := (blk_cell hp15 4).trans rfl
                    have zp5 : w15.cell? ⟨w.heap.size, 5, none⟩ = some (.int .i64 iv) := (blk_cell hp15 5).trans rfl
                    have zp6 : w15.cell? ⟨w.heap.size, 6, none⟩ = some (.int .i64 ho) := (blk_cell hp15 6).trans rfl
                    have zp7 : w15.cell? ⟨w.heap.size, 7, none⟩ = some (.int .i64 gd) := (blk_cell hp15 7).trans rfl
                    have zp8 : w15.cell? ⟨w.heap.size, 8, none⟩ = some (.int .i64 rs) := (blk_cell hp15 8).trans rfl
                    have zp9 : w15.cell? ⟨w.heap.size, 9, none⟩ = some (.int .i64 wt) := (blk_cell hp15 9).trans rfl
                    have zp10 : w15.cell? ⟨w.heap.size, 10, none⟩ = some (.int .i64 gp) := (blk_cell hp15 10).trans rfl
                    have zp11 : w15.cell? ⟨w.heap.size, 11, none⟩ = some (.int .i64 pe) := (blk_cell hp15 11).trans rfl
                    have zp12 : w15.cell? ⟨w.heap.size, 12, none⟩ = some (.int .i64 ag) := (blk_cell hp15 12).trans rfl
                    have zp13 : w15.cell? ⟨w.heap.size, 13, none⟩ = some (.int .i64 rm) := (blk_cell hp15 13).trans rfl
                    have zp14 : w15.cell? ⟨w.heap.size, 14, none⟩ = some (.int .i64 qu) := (blk_cell hp15 14).trans rfl
                    have zp15 : w15.cell? ⟨w.heap.size, 15, none⟩ = some (.bool rv) := (blk_cell hp15 15).trans rfl
                    as_aux_lemma =>
                     go_wp2_with fail
                     refine (may_c (6597069766657 + (k : Int)) _ (by omega) (by omega)).mono ?_
                     rintro e' w16 ⟨rfl, hb⟩
                     have hp16 := blk_below hp15 hb
                     have hB16 := below_call hB15 hb
                     generalize hpv10 : (Value.agg #[.int .i64 n, .int .i64 o, .int .u8 lv, .int .u16 dt, .int .u16 rg, .int .i64 iv, .int .i64 ho, .int .i64 gd, .int .i64 rs, .int .i64 wt, .int .i64 gp, .int .i64 pe, .int .i64 ag, .int .i64 rm, .int .i64 qu, .bool rv]) = pv10
                     replace hpv10 := Lib.hid hpv10
                     have hS16 := Lib.hid (hS15.out.below hb)
                     have hE16 := Lib.hid (hE15.out.below hb)
                     clear zp0 zp1 zp2 zp3 zp4 zp5 zp6 zp7 zp8 zp9 zp10 zp11 zp12 zp13 zp14 zp15
                     have zp0 : w16.cell? ⟨w.heap.size, 0, none⟩ = some (.int .i64 n) := (blk_cell hp16 0).trans rfl
                     have zp1 : w16.cell? ⟨w.heap.size, 1, none⟩ = some (.int .i64 o) := (blk_cell hp16 1).trans rfl
                     have zp2 : w16.cell? ⟨w.heap.size, 2, none⟩ = some (.int .u8 lv) := (blk_cell hp16 2).trans rfl
                     have zp3 : w16.cell? ⟨w.heap.size, 3, none⟩ = some (.int .u16 dt) := (blk_cell hp16 3).trans rfl
                     have zp4 : w16.cell? ⟨w.heap.size, 4, none⟩ = some (.int .u16 rg) := (blk_cell hp16 4).trans rfl
                     have zp5 : w16.cell? ⟨w.heap.size, 5, none⟩ = some (.int .i64 iv) := (blk_cell hp16 5).trans rfl
                     have zp6 : w16.cell? ⟨w.heap.size, 6, none⟩ = some (.int .i64 ho) := (blk_cell hp16 6).trans rfl
                     have zp7 : w16.cell? ⟨w.heap.size, 7, none⟩ = some (.int .i64 gd) := (blk_cell hp16 7).trans rfl
                     have zp8 : w16.cell? ⟨w.heap.size, 8, none⟩ = some (.int .i64 rs) := (blk_cell hp16 8).trans rfl
                     have zp9 : w16.cell? ⟨w.heap.size, 9, none⟩ = some (.int .i64 wt) := (blk_cell hp16 9).trans rfl
                     have zp10 : w16.cell? ⟨w.heap.size, 10, none⟩ = some (.int .i64 gp) := (blk_cell hp16 10).trans rfl
                     have zp11 : w16.cell? ⟨w.heap.size, 11, none⟩ = some (.int .i64 pe) := (blk_cell hp16 11).trans rfl
                     have zp12 : w16.cell? ⟨w.heap.size, 12, none⟩ = some (.int .i64 ag) := (blk_cell hp16 12).trans rfl
                     have zp13 : w16.cell? ⟨w.heap.size, 13, none⟩ = some (.int .i64 rm) := (blk_cell hp16 13).trans rfl
                     have zp14 : w16.cell? ⟨w.heap.size, 14, none⟩ = some (.int .i64 qu) := (blk_cell hp16 14).trans rfl
                     have zp15 : w16.cell? ⟨w.heap.size, 15, none⟩ = some (.bool rv) := (blk_cell hp16 15).trans rfl
                     as_aux_lemma =>
                      go_wp2_with fail
                      as_aux_lemma =>
                       skip
                       go_loopw [66] (fun pj wr => ∃ (j : Nat), j ≤ 2 ∧ pj = .int .i64 j ∧ wr.heap[w.heap.size]? = some (.cells #[.int .i64 n, .int .i64 o, .int .u8 lv, .int .u16 dt, .int .u16 rg, .int .i64 iv, .int .i64 ho, .int .i64 gd, .int .i64 rs, .int .i64 wt, .int .i64 gp, .int .i64 pe, .int .i64 ag, .int .i64 rm, .int .i64 qu, .bool rv] 24 (0, 0)) ∧ MS wr (w2.heap.size) 33 .u64 (2 * k + 1 + 1) (fun x => (2199023255553 ≤ x ∧ x < 2199023255553 + ((k : Int) + 1)) ∨ (6597069766657 ≤ x ∧ x < 6597069766657 + ((k : Int) + 1))) ∧ MS wr (w2.heap.size + 1) 22 .u16 (2 * k + j) (fun x => 1 ≤ x ∧ x ≤ (2 * (k : Int) + (j : Int))) ∧ Below w.heap.size w wr) (fun pj _ => 2 - (intOf pj).toNat)
                       case atStart => exact ⟨0, by omega, rfl, hp16, hS16.out, hE16.out.imp (fun x => by constructor <;> intro hx <;> omega), hB16⟩
                       case round =>
                         clear zp0 zp1 zp2 zp3 zp4 zp5 zp6 zp7 zp8 zp9 zp10 zp11 zp12 zp13 zp14 zp15
                         clear hp16 hS16 hE16 hB16
                         obtain ⟨j, hj, rfl, hpw, hS, hE, hB⟩ := hrel
                         by_cases hj0 : j = 0
                         · subst hj0
                           as_aux_lemma =>
                            have hp30 : wr.heap[w.heap.size]? = some (.cells #[.int .i64 n, .int .i64 o, .int .u8 lv, .int .u16 dt, .int .u16 rg, .int .i64 iv, .int .i64 ho, .int .i64 gd, .int .i64 rs, .int .i64 wt, .int .i64 gp, .int .i64 pe, .int .i64 ag, .int .i64 rm, .int .i64 qu, .bool rv] 24 (0, 0)) := hpw
                            have hB30 := hB
                            have hS30 := Lib.hid hS
                            have hE30 := Lib.hid hE
                            clear hpw hB hS hE
                            have zp0 : wr.cell? ⟨w.heap.size, 0, none⟩ = some (.int .i64 n) := (blk_cell hp30 0).trans rfl
                            have zp1 : wr.cell? ⟨w.heap.size, 1, none⟩ = some (.int .i64 o) := (blk_cell hp30 1).trans rfl
                            have zp2 : wr.cell? ⟨w.heap.size, 2, none⟩ = some (.int .u8 lv) := (blk_cell hp30 2).trans rfl
                            have zp3 : wr.cell? ⟨w.heap.size, 3, none⟩ = some (.int .u16 dt) := (blk_cell hp30 3).trans rfl
                            have zp4 : wr.cell? ⟨w.heap.size, 4, none⟩ = some (.int .u16 rg) := (blk_cell hp30 4).trans rfl
                            have zp5 : wr.cell? ⟨w.heap.size, 5, none⟩ = some (.int .i64 iv) := (blk_cell hp30 5).trans rfl
                            have zp6 : wr.cell? ⟨w.heap.size, 6, none⟩ = some (.int .i64 ho) := (blk_cell hp30 6).trans rfl
                            have zp7 : wr.cell? ⟨w.heap.size, 7, none⟩ = some (.int .i64 gd) := (blk_cell hp30 7).trans rfl
                            have zp8 : wr.cell? ⟨w.heap.size, 8, none⟩ = some (.int .i64 rs) := (blk_cell hp30 8).trans rfl
                            have zp9 : wr.cell? ⟨w.heap.size, 9, none⟩ = some (.int .i64 wt) := (blk_cell hp30 9).trans rfl
                            have zp10 : wr.cell? ⟨w.heap.size, 10, none⟩ = some (.int .i64 gp) := (blk_cell hp30 10).trans rfl
                            have zp11 : wr.cell? ⟨w.heap.size, 11, none⟩ = some (.int .i64 pe) := (blk_cell hp30 11).trans rfl
                            have zp12 : wr.cell? ⟨w.heap.size, 12, none⟩ = some (.int .i64 ag) := (blk_cell hp30 12).trans rfl
                            have zp13 : wr.cell? ⟨w.heap.size, 13, none⟩ = some (.int .i64 rm) := (blk_cell hp30 13).trans rfl
                            have zp14 : wr.cell? ⟨w.heap.size, 14, none⟩ = some (.int .i64 qu) := (blk_cell hp30 14).trans rfl
                            have zp15 : wr.cell? ⟨w.heap.size, 15, none⟩ = some (.bool rv) := (blk_cell hp30 15).trans rfl
                            go_wp2_with fail
                            refine (end_c n o lv dt rg iv ho gd rs wt gp pe ag rm qu rv k 0 _ hc hk0 hlt (by omega)).mono ?_
                            rintro e' w31 ⟨rfl, hb⟩
                            have hp31 := blk_below hp30 hb
                            have hB31 := below_call hB30 hb
                            generalize hpv11 : (Value.agg #[.int .i64 n, .int .i64 o, .int .u8 lv, .int .u16 dt, .int .u16 rg, .int .i64 iv, .int .i64 ho, .int .i64 gd, .int .i64 rs, .int .i64 wt, .int .i64 gp, .int .i64 pe, .int .i64 ag, .int .i64 rm, .int .i64 qu, .bool rv]) = pv11
                            replace hpv11 := Lib.hid hpv11
                            have hS31 := hS30.out.below hb
                            have hE31 := hE30.out.below hb
                            obtain ⟨D, hown, hsz, hhas⟩ := hE31
                            have hT := hown.tidy law22
                            have hkey : keyOf Try.prog 22 (.int .u16 (2 * (k : Int) + 0 + 1)) = some (.int .u16 (2 * (k : Int) + 0 + 1)) := keyOf_int_mk Try.underlying22 (wf_u16 (by omega) (by omega))
                            clear zp0 zp1 zp2 zp3 zp4 zp5 zp6 zp7 zp8 zp9 zp10 zp11 zp12 zp13 zp14 zp15
                            have zp0 : w31.cell? ⟨w.heap.size, 0, none⟩ = some (.int .i64 n) := (blk_cell hp31 0).trans rfl
                            have zp1 : w31.cell? ⟨w.heap.size, 1, none⟩ = some (.int .i64 o) := (blk_cell hp31 1).trans rfl
                            have zp2 : w31.cell? ⟨w.heap.size, 2, none⟩ = some (.int .u8 lv) := (blk_cell hp31 2).trans rfl
                            have zp3 : w31.cell? ⟨w.heap.size, 3, none⟩ = some (.int .u16 dt) := (blk_cell hp31 3).trans rfl
                            have zp4 : w31.cell? ⟨w.heap.size, 4, none⟩ = some (.int .u16 rg) := (blk_cell hp31 4).trans rfl
                            have zp5 : w31.cell? ⟨w.heap.size, 5, none⟩ = some (.int .i64 iv) := (blk_cell hp31 5).trans rfl
                            have zp6 : w31.cell? ⟨w.heap.size, 6, none⟩ = some (.int .i64 ho) := (blk_cell hp31 6).trans rfl
                            have zp7 : w31.cell? ⟨w.heap.size, 7, none⟩ = some (.int .i64 gd) := (blk_cell hp31 7).trans rfl
                            have zp8 : w31.cell? ⟨w.heap.size, 8, none⟩ = some (.int .i64 rs) := (blk_cell hp31 8).trans rfl
                            have zp9 : w31.cell? ⟨w.heap.size, 9, none⟩ = some (.int .i64 wt) := (blk_cell hp31 9).trans rfl
                            have zp10 : w31.cell? ⟨w.heap.size, 10, none⟩ = some (.int .i64 gp) := (blk_cell hp31 10).trans rfl
                            have zp11 : w31.cell? ⟨w.heap.size, 11, none⟩ = some (.int .i64 pe) := (blk_cell hp31 11).trans rfl
                            have zp12 : w31.cell? ⟨w.heap.size, 12, none⟩ = some (.int .i64 ag) := (blk_cell hp31 12).trans rfl
                            have zp13 : w31.cell? ⟨w.heap.size, 13, none⟩ = some (.int .i64 rm) := (blk_cell hp31 13).trans rfl
                            have zp14 : w31.cell? ⟨w.heap.size, 14, none⟩ = some (.int .i64 qu) := (blk_cell hp31 14).trans rfl
                            have zp15 : w31.cell? ⟨w.heap.size, 15, none⟩ = some (.bool rv) := (blk_cell hp31 15).trans rfl
                            have hO := Lib.hid hS31
                            clear hS31
                            have HO := Lib.hid hown
                            have HS := Lib.hid hsz
                            have HH := Lib.hid hhas
                            have HT := Lib.hid hT
                            have HK := Lib.hid hkey
                            clear hown hsz hhas hT hkey
                            go_wp2_with (first
                              | (at_lookup; refine wpList_lookup_own_int _ rfl _ _ 68 rfl 22 3 .i64 law22 Try.underlying68 Try.underlying3 (zero3 _) (w2.heap.size + 1) (2 * k + 0) _ rfl HO.out _ _ rfl HK.out ?_; intro c hat hwc)
                              | (at_mapUpdate; refine wpList_mapUpdate_own _ rfl _ _ _ 68 rfl 22 3 law22 Try.underlying68 _ (w2.heap.size + 1) (2 * k + 0) _ rfl HO.out (by unfold maxLen; omega) _ _ _ rfl rfl HK.out _ [] (plainElem_int Try.underlying3 (wrap64_wf _)) ?_; intro w32 hown1 hgrow1
                                 have hp32 := blk_grown hp31 hgrow1 (by simp; omega)
                                 have hB32 := hB31.grown hgrow1 hB31.size (fun j hj => by cases hj; omega)
                                 have hE32 := Lib.hid ((MS.step law22 HT.out HS.out HH.out (by intro hx; omega) hown1).imp (T := fun x => 1 ≤ x ∧ x ≤ (2 * (k : Int) + (1 : Int))) (fun x => by constructor <;> intro hx <;> omega))
                                 have hS32 := Lib.hid (hO.out.kept hgrow1 (by omega))
                                 clear hown1 hgrow1 HO HS HH HT HK hO hat hwc
                                 clear zp0 zp1 zp2 zp3 zp4 zp5 zp6 zp7 zp8 zp9 zp10 zp11 zp12 zp13 zp14 zp15
                                 have zp0 : w32.cell? ⟨w.heap.size, 0, none⟩ = some (.int .i64 n) := (blk_cell hp32 0).trans rfl
                                 have zp1 : w32.cell? ⟨w.heap.size, 1, none⟩ = some (.int .i64 o) := (blk_cell hp32 1).trans rfl
                                 have zp2 : w32.cell? ⟨w.heap.size, 2, none⟩ = some (.int .u8 lv) := (blk_cell hp32 2).trans rfl
                                 have zp3 : w32.cell? ⟨w.heap.size, 3, none⟩ = some (.int .u16 dt) := (blk_cell hp32 3).trans rfl
                                 have zp4 : w32.cell? ⟨w.heap.size, 4, none⟩ = some (.int .u16 rg) := (blk_cell hp32 4).trans rfl
                                 have zp5 : w32.cell? ⟨w.heap.size, 5, none⟩ = some (.int .i64 iv) := (blk_cell hp32 5).trans rfl
                                 have zp6 : w32.cell? ⟨w.heap.size, 6, none⟩ = some (.int .i64 ho) := (blk_cell hp32 6).trans rfl
                                 have zp7 : w32.cell? ⟨w.heap.size, 7, none⟩ = some (.int .i64 gd) := (blk_cell hp32 7).trans rfl
                                 have zp8 : w32.cell? ⟨w.heap.size, 8, none⟩ = some (.int .i64 rs) := (blk_cell hp32 8).trans rfl
                                 have zp9 : w32.cell? ⟨w.heap.size, 9, none⟩ = some (.int .i64 wt) := (blk_cell hp32 9).trans rfl
                                 have zp10 : w32.cell? ⟨w.heap.size, 10, none⟩ = some (.int .i64 gp) := (blk_cell hp32 10).trans rfl
                                 have zp11 : w32.cell? ⟨w.heap.size, 11, none⟩ = some (.int .i64 pe) := (blk_cell hp32 11).trans rfl
                                 have zp12 : w32.cell? ⟨w.heap.size, 12, none⟩ = some (.int .i64 ag) := (blk_cell hp32 12).trans rfl
                                 have zp13 : w32.cell? ⟨w.heap.size, 13, none⟩ = some (.int .i64 rm) := (blk_cell hp32 13).trans rfl
                                 have zp14 : w32.cell? ⟨w.heap.size, 14, none⟩ = some (.int .i64 qu) := (blk_cell hp32 14).trans rfl
                                 have zp15 : w32.cell? ⟨w.heap.size, 15, none⟩ = some (.bool rv) := (blk_cell hp32 15).trans rfl))
                            as_aux_lemma =>
                             refine (hY1 _).mono ?_
                             rintro e' w33 ⟨rfl, hb⟩
                             have hp33 := blk_below hp32 hb
                             have hB33 := below_call hB32 hb
                             generalize hpv12 : (Value.agg #[.int .i64 n, .int .i64 o, .int .u8 lv, .int .u16 dt, .int .u16 rg, .int .i64 iv, .int .i64 ho, .int .i64 gd, .int .i64 rs, .int .i64 wt, .int .i64 gp, .int .i64 pe, .int .i64 ag, .int .i64 rm, .int .i64 qu, .bool rv]) = pv12
                             replace hpv12 := Lib.hid hpv12
                             have hS33 := Lib.hid (hS32.out.below hb)
                             have hE33 := Lib.hid (hE32.out.below hb)
                             clear zp0 zp1 zp2 zp3 zp4 zp5 zp6 zp7 zp8 zp9 zp10 zp11 zp12 zp13 zp14 zp15
                             have zp0 : w33.cell? ⟨w.heap.size, 0, none⟩ = some (.int .i64 n) := (blk_cell hp33 0).trans rfl
                             have zp1 : w33.cell? ⟨w.heap.size, 1, none⟩ = some (.int .i64 o) := (blk_cell hp33 1).trans rfl
                             have zp2 : w33.cell? ⟨w.heap.size, 2, none⟩ = some (.int .u8 lv) := (blk_cell hp33 2).trans rfl
                             have zp3 : w33.cell? ⟨w.heap.size, 3, none⟩ = some (.int .u16 dt) := (blk_cell hp33 3).trans rfl
                             have zp4 : w33.cell? ⟨w.heap.size, 4, none⟩ = some (.int .u16 rg) := (blk_cell hp33 4).trans rfl
                             have zp5 : w33.cell? ⟨w.heap.size, 5, none⟩ = some (.int .i64 iv) := (blk_cell hp33 5).trans rfl
                             have zp6 : w33.cell? ⟨w.heap.size, 6, none⟩ = some (.int .i64 ho) := (blk_cell hp33 6).trans rfl
                             have zp7 : w33.cell? ⟨w.heap.size, 7, none⟩ = some (.int .i64 gd) := (blk_cell hp33 7).trans rfl
                             have zp8 : w33.cell? ⟨w.heap.size, 8, none⟩ = some (.int .i64 rs) := (blk_cell hp33 8).trans rfl
                             have zp9 : w33.cell? ⟨w.heap.size, 9, none⟩ = some (.int .i64 wt) := (blk_cell hp33 9).trans rfl
                             have zp10 : w33.cell? ⟨w.heap.size, 10, none⟩ = some (.int .i64 gp) := (blk_cell hp33 10).trans rfl
                             have zp11 : w33.cell? ⟨w.heap.size, 11, none⟩ = some (.int .i64 pe) := (blk_cell hp33 11).trans rfl
                             have zp12 : w33.cell? ⟨w.heap.size, 12, none⟩ = some (.int .i64 ag) := (blk_cell hp33 12).trans rfl
                             have zp13 : w33.cell? ⟨w.heap.size, 13, none⟩ = some (.int .i64 rm) := (blk_cell hp33 13).trans rfl
                             have zp14 : w33.cell? ⟨w.heap.size, 14, none⟩ = some (.int .i64 qu) := (blk_cell hp33 14).trans rfl
                             have zp15 : w33.cell? ⟨w.heap.size, 15, none⟩ = some (.bool rv) := (blk_cell hp33 15).trans rfl
                             as_aux_lemma =>
                              go_wp2_with fail
                              refine (hY2 _).mono ?_
                              rintro e' w34 ⟨rfl, hb⟩
                              have hp34 := blk_below hp33 hb
                              have hB34 := below_call hB33 hb
                              generalize hpv13 : (Value.agg #[.int .i64 n, .int .i64 o, .int .u8 lv, .int .u16 dt, .int .u16 rg, .int .i64 iv, .int .i64 ho, .int .i64 gd, .int .i64 rs, .int .i64 wt, .int .i64 gp, .int .i64 pe, .int .i64 ag, .int .i64 rm, .int .i64 qu, .bool rv]) = pv13
                              replace hpv13 := Lib.hid hpv13
                              have hS34 := Lib.hid (hS33.out.below hb)
                              have hE34 := Lib.hid (hE33.out.below hb)
                              clear zp0 zp1 zp2 zp3 zp4 zp5 zp6 zp7 zp8 zp9 zp10 zp11 zp12 zp13 zp14 zp15
                              have zp0 : w34.cell? ⟨w.heap.size, 0, none⟩ = some (.int .i64 n) := (blk_cell hp34 0).trans rfl
                              have zp1 : w34.cell? ⟨w.heap.size, 1, none⟩ = some (.int .i64 o) := (blk_cell hp34 1).trans rfl
                              have zp2 : w34.cell? ⟨w.heap.size, 2, none⟩ = some (.int .u8 lv) := (blk_cell hp34 2).trans rfl
                              have zp3 : w34.cell? ⟨w.heap.size, 3, none⟩ = some (.int .u16 dt) := (blk_cell hp34 3).trans rfl
                              have zp4 : w34.cell? ⟨w.heap.size, 4, none⟩ = some (.int .u16 rg) := (blk_cell hp34 4).trans rfl
                              have zp5 : w34.cell? ⟨w.heap.size, 5, none⟩ = some (.int .i64 iv) := (blk_cell hp34 5).trans rfl
                              have zp6 : w34.cell? ⟨w.heap.size, 6, none⟩ = some (.int .i64 ho) := (blk_cell hp34 6).trans rfl
                              have zp7 : w34.cell? ⟨w.heap.size, 7, none⟩ = some (.int .i64 gd) := (blk_cell hp34 7).trans rfl
                              have zp8 : w34.cell? ⟨w.heap.size, 8, none⟩ = some (.int .i64 rs) := (blk_cell hp34 8).trans rfl
                              have zp9 : w34.cell? ⟨w.heap.size, 9, none⟩ = some (.int .i64 wt) := (blk_cell hp34 9).trans rfl
                              have zp10 : w34.cell? ⟨w.heap.size, 10, none⟩ = some (.int .i64 gp) := (blk_cell hp34 10).trans rfl
                              have zp11 : w34.cell? ⟨w.heap.size, 11, none⟩ = some (.int .i64 pe) := (blk_cell hp34 11).trans rfl
                              have zp12 : w34.cell? ⟨w.heap.size, 12, none⟩ = some (.int .i64 ag) := (blk_cell hp34 12).trans rfl
                              have zp13 : w34.cell? ⟨w.heap.size, 13, none⟩ = some (.int .i64 rm) := (blk_cell hp34 13).trans rfl
                              have zp14 : w34.cell? ⟨w.heap.size, 14, none⟩ = some (.int .i64 qu) := (blk_cell hp34 14).trans rfl
                              have zp15 : w34.cell? ⟨w.heap.size, 15, none⟩ = some (.bool rv) := (blk_cell hp34 15).trans rfl
                              as_aux_lemma =>
                               go_wp2_with fail
                               go_roundw
                               case rel => exact ⟨1, by omega, by go_num, hp34, hS34.out, hE34.out, hB34⟩
                               case measure => simp [intOf]
                         by_cases hj1 : j = 1
                         · subst hj1
                           as_aux_lemma =>
                            have hp30 : wr.heap[w.heap.size]? = some (.cells #[.int .i64 n, .int .i64 o, .int .u8 lv, .int .u16 dt, .int .u16 rg, .int .i64 iv, .int .i64 ho, .int .i64 gd, .int .i64 rs, .int .i64 wt, .int .i64 gp, .int .i64 pe, .int .i64 ag, .int .i64 rm, .int .i64 qu, .bool rv] 24 (0, 0)) := hpw
                            have hB30 := hB
                            have hS30 := Lib.hid hS
                            have hE30 := Lib.hid hE
                            clear hpw hB hS hE
                            have zp0 : wr.cell? ⟨w.heap.size, 0, none⟩ = some (.int .i64 n) := (blk_cell hp30 0).trans rfl
                            have zp1 : wr.cell? ⟨w.heap.size, 1, none⟩ = some (.int .i64 o) := (blk_cell hp30 1).trans rfl
                            have zp2 : wr.cell? ⟨w.heap.size, 2, none⟩ = some (.int .u8 lv) := (blk_cell hp30 2).trans rfl
                            have zp3 : wr.cell? ⟨w.heap.size, 3, none⟩ = some (.int .u16 dt) := (blk_cell hp30 3).trans rfl
                            have zp4 : wr.cell? ⟨w.heap.size, 4, none⟩ = some (.int .u16 rg) := (blk_cell hp30 4).trans rfl
                            have zp5 : wr.cell? ⟨w.heap.size, 5, none⟩ = some (.int .i64 iv) := (blk_cell hp30 5).trans rfl
                            have zp6 : wr.cell? ⟨w.heap.size, 6, none⟩ = some (.int .i64 ho) := (blk_cell hp30 6).trans rfl
                            have zp7 : wr.cell? ⟨w.heap.size, 7, none⟩ = some (.int .i64 gd) := (blk_cell hp30 7).trans rfl
                            have zp8 : wr.cell? ⟨w.heap.size, 8, none⟩ = some (.int .i64 rs) := (blk_cell hp30 8).trans rfl
                            have zp9 : wr.cell? ⟨w.heap.size, 9, none⟩ = some (.int .i64 wt) := (blk_cell hp30 9).trans rfl
                            have zp10 : wr.cell? ⟨w.heap.size, 10, none⟩ = some (.int .i64 gp) := (blk_cell hp30 10).trans rfl
                            have zp11 : wr.cell? ⟨w.heap.size, 11, none⟩ = some (.int .i64 pe) := (blk_cell hp30 11).trans rfl
                            have zp12 : wr.cell? ⟨w.heap.size, 12, none⟩ = some (.int .i64 ag) := (blk_cell hp30 12).trans rfl
                            have zp13 : wr.cell? ⟨w.heap.size, 13, none⟩ = some (.int .i64 rm) := (blk_cell hp30 13).trans rfl
                            have zp14 : wr.cell? ⟨w.heap.size, 14, none⟩ = some (.int .i64 qu) := (blk_cell hp30 14).trans rfl
                            have zp15 : wr.cell? ⟨w.heap.size, 15, none⟩ = some (.bool rv) := (blk_cell hp30 15).trans rfl
                            go_wp2_with fail
                            refine (end_c n o lv dt rg iv ho gd rs wt gp pe ag rm qu rv k 1 _ hc hk0 hlt (by omega)).mono ?_
                            rintro e' w31 ⟨rfl, hb⟩
                            have hp31 := blk_below hp30 hb
                            have hB31 := below_call hB30 hb
                            generalize hpv11 : (Value.agg #[.int .i64 n, .int .i64 o, .int .u8 lv, .int .u16 dt, .int .u16 rg, .int .i64 iv, .int .i64 ho, .int .i64 gd, .int .i64 rs, .int .i64 wt, .int .i64 gp, .int .i64 pe, .int .i64 ag, .int .i64 rm, .int .i64 qu, .bool rv]) = pv11
                            replace hpv11 := Lib.hid hpv11
                            have hS31 := hS30.out.below hb
                            have hE31 := hE30.out.below hb
                            obtain ⟨D, hown, hsz, hhas⟩ := hE31
                            have hT := hown.tidy law22
                            have hkey : keyOf Try.prog 22 (.int .u16 (2 * (k : Int) + 1 + 1)) = some (.int .u16 (2 * (k : Int) + 1 + 1)) := keyOf_int_mk Try.underlying22 (wf_u16 (by omega) (by omega))
                            clear zp0 zp1 zp2 zp3 zp4 zp5 zp6 zp7 zp8 zp9 zp10 zp11 zp12 zp13 zp14 zp15
                            have zp0 : w31.cell? ⟨w.heap.size, 0, none⟩ = some (.int .i64 n) := (blk_cell hp31 0).trans rfl
                            have zp1 : w31.cell? ⟨w.heap.size, 1, none⟩ = some (.int .i64 o) := (blk_cell hp31 1).trans rfl
                            have zp2 : w31.cell? ⟨w.heap.size, 2, none⟩ = some (.int .u8 lv) := (blk_cell hp31 2).trans rfl
                            have zp3 : w31.cell? ⟨w.heap.size, 3, none⟩ = some (.int .u16 dt) := (blk_cell hp31 3).trans rfl
                            have zp4 : w31.cell? ⟨w.heap.size, 4, none⟩ = some (.int .u16 rg) := (blk_cell hp31 4).trans rfl
                            have zp5 : w31.cell? ⟨w.heap.size, 5, none⟩ = some (.int .i64 iv) := (blk_cell hp31 5).trans rfl
                            have zp6 : w31.cell? ⟨w.heap.size, 6, none⟩ = some (.int .i64 ho) := (blk_cell hp31 6).trans rfl
                            have zp7 : w31.cell? ⟨w.heap.size, 7, none⟩ = some (.int .i64 gd) := (blk_cell hp31 7).trans rfl
                            have zp8 : w31.cell? ⟨w.heap.size, 8, none⟩ = some (.int .i64 rs) := (blk_cell hp31 8).trans rfl
                            have zp9 : w31.cell? ⟨w.heap.size, 9, none⟩ = some (.int .i64 wt) := (blk_cell hp31 9).trans rfl
                            have zp10 : w31.cell? ⟨w.heap.size, 10, none⟩ = some (.int .i64 gp) := (blk_cell hp31 10).trans rfl
                            have zp11 : w31.cell? ⟨w.heap.size, 11, none⟩ = some (.int .i64 pe) := (blk_cell hp31 11).trans rfl
                            have zp12 : w31.cell? ⟨w.heap.size, 12, none⟩ = some (.int .i64 ag) := (blk_cell hp31 12).trans rfl
                            have zp13 : w31.cell? ⟨w.heap.size, 13, none⟩ = some (.int .i64 rm) := (blk_cell hp31 13).trans rfl
                            have zp14 : w31.cell? ⟨w.heap.size, 14, none⟩ = some (.int .i64 qu) := (blk_cell hp31 14).trans rfl
                            have zp15 : w31.cell? ⟨w.heap.size, 15, none⟩ = some (.bool rv) := (blk_cell hp31 15).trans rfl
                            have hO := Lib.hid hS31
                            clear hS31
                            have HO := Lib.hid hown
                            have HS := Lib.hid hsz
                            have HH := Lib.hid hhas
                            have HT := Lib.hid hT
                            have HK := Lib.hid hkey
                            clear hown hsz hhas hT hkey
                            go_wp2_with (first
                              | (at_lookup; refine wpList_lookup_own_int _ rfl _ _ 68 rfl 22 3 .i64 law22 Try.underlying68 Try.underlying3 (zero3 _) (w2.heap.size + 1) (2 * k + 1) _ rfl HO.out _ _ rfl HK.out ?_; intro c hat hwc)
                              | (at_mapUpdate; refine wpList_mapUpdate_own _ rfl _ _ _ 68 rfl 22 3 law22 Try.underlying68 _ (w2.heap.size + 1) (2 * k + 1) _ rfl HO.out (by unfold maxLen; omega) _ _ _ rfl rfl HK.out _ [] (plainElem_int Try.underlying3 (wrap64_wf _)) ?_; intro w32 hown1 hgrow1
                                 have hp32 := blk_grown hp31 hgrow1 (by simp; omega)
                                 have hB32 := hB31.grown hgrow1 hB31.size (fun j hj => by cases hj; omega)
                                 have hE32 := Lib.hid ((MS.step law22 HT.out HS.out HH.out (by intro hx; omega) hown1).imp (T := fun x => 1 ≤ x ∧ x ≤ (2 * (k : Int) + (2 : Int))) (fun x => by constructor <;> intro hx <;> omega))
                                 have hS32 := Lib.hid (hO.out.kept hgrow1 (by omega))
                                 clear hown1 hgrow1 HO HS HH HT HK hO hat hwc
                                 clear zp0 zp1 zp2 zp3 zp4 zp5 zp6 zp7 zp8 zp9 zp10 zp11 zp12 zp13 zp14 zp15
                                 have zp0 : w32.cell? ⟨w.heap.size, 0, none⟩ = some (.int .i64 n) := (blk_cell hp32 0).trans rfl
                                 have zp1 : w32.cell? ⟨w.heap.size, 1, none⟩ = some (.int .i64 o) := (blk_cell hp32 1).trans rfl
                                 have zp2 : w32.cell? ⟨w.heap.size, 2, none⟩ = some (.int .u8 lv) := (blk_cell hp32 2).trans rfl
                                 have zp3 : w32.cell? ⟨w.heap.size, 3, none⟩ = some (.int .u16 dt) := (blk_cell hp32 3).trans rfl
                                 have zp4 : w32.cell? ⟨w.heap.size, 4, none⟩ = some (.int .u16 rg) := (blk_cell hp32 4).trans rfl
                                 have zp5 : w32.cell? ⟨w.heap.size, 5, none⟩ = some (.int .i64 iv) := (blk_cell hp32 5).trans rfl
                                 have zp6 : w32.cell? ⟨w.heap.size, 6, none⟩ = some (.int .i64 ho) := (blk_cell hp32 6).trans rfl
                                 have zp7 : w32.cell? ⟨w.heap.size, 7, none⟩ = some (.int .i64 gd) := (blk_cell hp32 7).trans rfl
                                 have zp8 : w32.cell? ⟨w.heap.size, 8, none⟩ = some (.int .i64 rs) := (blk_cell hp32 8).trans rfl
                                 have zp9 : w32.cell? ⟨w.heap.size, 9, none⟩ = some (.int .i64 wt) := (blk_cell hp32 9).trans rfl
                                 have zp10 : w32.cell? ⟨w.heap.size, 10, none⟩ = some (.int .i64 gp) := (blk_cell hp32 10).trans rfl
                                 have zp11 : w32.cell? ⟨w.heap.size, 11, none⟩ = some (.int .i64 pe) := (blk_cell hp32 11).trans rfl
                                 have zp12 : w32.cell? ⟨w.heap.size, 12, none⟩ = some (.int .i64 ag) := (blk_cell hp32 12).trans rfl
                                 have zp13 : w32.cell? ⟨w.heap.size, 13, none⟩ = some (.int .i64 rm) := (blk_cell hp32 13).trans rfl
                                 have zp14 : w32.cell? ⟨w.heap.size, 14, none⟩ = some (.int .i64 qu) := (blk_cell hp32 14).trans rfl
                                 have zp15 : w32.cell? ⟨w.heap.size, 15, none⟩ = some (.bool rv) := (blk_cell hp32 15).trans rfl))
                            as_aux_lemma =>
                             refine (hX1 _).mono ?_
                             rintro e' w33 ⟨rfl, hb⟩
                             have hp33 := blk_below hp32 hb
                             have hB33 := below_call hB32 hb
                             generalize hpv12 : (Value.agg #[.int .i64 n, .int .i64 o, .int .u8 lv, .int .u16 dt, .int .u16 rg, .int .i64 iv, .int .i64 ho, .int .i64 gd, .int .i64 rs, .int .i64 wt, .int .i64 gp, .int .i64 pe, .int .i64 ag, .int .i64 rm, .int .i64 qu, .bool rv]) = pv12
                             replace hpv12 := Lib.hid hpv12
                             have hS33 := Lib.hid (hS32.out.below hb)
                             have hE33 := Lib.hid (hE32.out.below hb)
                             clear zp0 zp1 zp2 zp3 zp4 zp5 zp6 zp7 zp8 zp9 zp10 zp11 zp12 zp13 zp14 zp15
                             have zp0 : w33.cell? ⟨w.heap.size, 0, none⟩ = some (.int .i64 n) := (blk_cell hp33 0).trans rfl
                             have zp1 : w33.cell? ⟨w.heap.size, 1, none⟩ = some (.int .i64 o) := (blk_cell hp33 1).trans rfl
                             have zp2 : w33.cell? ⟨w.heap.size, 2, none⟩ = some (.int .u8 lv) := (blk_cell hp33 2).trans rfl
                             have zp3 : w33.cell? ⟨w.heap.size, 3, none⟩ = some (.int .u16 dt) := (blk_cell hp33 3).trans rfl
                             have zp4 : w33.cell? ⟨w.heap.size, 4, none⟩ = some (.int .u16 rg) := (blk_cell hp33 4).trans rfl
                             have zp5 : w33.cell? ⟨w.heap.size, 5, none⟩ = some (.int .i64 iv) := (blk_cell hp33 5).trans rfl
                             have zp6 : w33.cell? ⟨w.heap.size, 6, none⟩ = some (.int .i64 ho) := (blk_cell hp33 6).trans rfl
                             have zp7 : w33.cell? ⟨w.heap.size, 7, none⟩ = some (.int .i64 gd) := (blk_cell hp33 7).trans rfl
                             have zp8 : w33.cell? ⟨w.heap.size, 8, none⟩ = some (.int .i64 rs) := (blk_cell hp33 8).trans rfl
                             have zp9 : w33.cell? ⟨w.heap.size, 9, none⟩ = some (.int .i64 wt) := (blk_cell hp33 9).trans rfl
                             have zp10 : w33.cell? ⟨w.heap.size, 10, none⟩ = some (.int .i64 gp) := (blk_cell hp33 10).trans rfl
                             have zp11 : w33.cell? ⟨w.heap.size, 11, none⟩ = some (.int .i64 pe) := (blk_cell hp33 11).trans rfl
                             have zp12 : w33.cell? ⟨w.heap.size, 12, none⟩ = some (.int .i64 ag) := (blk_cell hp33 12).trans rfl
                             have zp13 : w33.cell? ⟨w.heap.size, 13, none⟩ = some (.int .i64 rm) := (blk_cell hp33 13).trans rfl
                             have zp14 : w33.cell? ⟨w.heap.size, 14, none⟩ = some (.int .i64 qu) := (blk_cell hp33 14).trans rfl
                             have zp15 : w33.cell? ⟨w.heap.size, 15, none⟩ = some (.bool rv) := (blk_cell hp33 15).trans rfl
                             as_aux_lemma =>
                              go_wp2_with fail
                              refine (hX2 _).mono ?_
                              rintro e' w34 ⟨rfl, hb⟩
                              have hp34 := blk_below hp33 hb
                              have hB34 := below_call hB33 hb
                              generalize hpv13 : (Value.agg #[.int .i64 n, .int .i64 o, .int .u8 lv, .int .u16 dt, .int .u16 rg, .int .i64 iv, .int .i64 ho, .int .i64 gd, .int .i64 rs, .int .i64 wt, .int .i64 gp, .int .i64 pe, .int .i64 ag, .int .i64 rm, .int .i64 qu, .bool rv]) = pv13
                              replace hpv13 := Lib.hid hpv13
                              have hS34 := Lib.hid (hS33.out.below hb)
                              have hE34 := Lib.hid (hE33.out.below hb)
                              clear zp0 zp1 zp2 zp3 zp4 zp5 zp6 zp7 zp8 zp9 zp10 zp11 zp12 zp13 zp14 zp15
                              have zp0 : w34.cell? ⟨w.heap.size, 0, none⟩ = some (.int .i64 n) := (blk_cell hp34 0).trans rfl
                              have zp1 : w34.cell? ⟨w.heap.size, 1, none⟩ = some (.int .i64 o) := (blk_cell hp34 1).trans rfl
                              have zp2 : w34.cell? ⟨w.heap.size, 2, none⟩ = some (.int .u8 lv) := (blk_cell hp34 2).trans rfl
                              have zp3 : w34.cell? ⟨w.heap.size, 3, none⟩ = some (.int .u16 dt) := (blk_cell hp34 3).trans rfl
                              have zp4 : w34.cell? ⟨w.heap.size, 4, none⟩ = some (.int .u16 rg) := (blk_cell hp34 4).trans rfl
                              have zp5 : w34.cell? ⟨w.heap.size, 5, none⟩ = some (.int .i64 iv) := (blk_cell hp34 5).trans rfl
                              have zp6 : w34.cell? ⟨w.heap.size, 6, none⟩ = some (.int .i64 ho) := (blk_cell hp34 6).trans rfl
                              have zp7 : w34.cell? ⟨w.heap.size, 7, none⟩ = some (.int .i64 gd) := (blk_cell hp34 7).trans rfl
                              have zp8 : w34.cell? ⟨w.heap.size, 8, none⟩ = some (.int .i64 rs) := (blk_cell hp34 8).trans rfl
                              have zp9 : w34.cell? ⟨w.heap.size, 9, none⟩ = some (.int .i64 wt) := (blk_cell hp34 9).trans rfl
                              have zp10 : w34.cell? ⟨w.heap.size, 10, none⟩ = some (.int .i64 gp) := (blk_cell hp34 10).trans rfl
                              have zp11 : w34.cell? ⟨w.heap.size, 11, none⟩ = some (.int .i64 pe) := (blk_cell hp34 11).trans rfl
                              have zp12 : w34.cell? ⟨w.heap.size, 12, none⟩ = some (.int .i64 ag) := (blk_cell hp34 12).trans rfl
                              have zp13 : w34.cell? ⟨w.heap.size, 13, none⟩ = some (.int .i64 rm) := (blk_cell hp34 13).trans rfl
                              have zp14 : w34.cell? ⟨w.heap.size, 14, none⟩ = some (.int .i64 qu) := (blk_cell hp34 14).trans rfl
                              have zp15 : w34.cell? ⟨w.heap.size, 15, none⟩ = some (.bool rv) := (blk_cell hp34 15).trans rfl
                              as_aux_lemma =>
                               go_wp2_with fail
                               go_roundw
                               case rel => exact ⟨2, by omega, by go_num, hp34, hS34.out, hE34.out, hB34⟩
                               case measure => simp [intOf]
                         have hj2 : j = 2 := by omega
                         subst hj2
                         as_aux_lemma =>
                          have hp50 : wr.heap[w.heap.size]? = some (.cells #[.int .i64 n, .int .i64 o, .int .u8 lv, .int .u16 dt, .int .u16 rg, .int .i64 iv, .int .i64 ho, .int .i64 gd, .int .i64 rs, .int .i64 wt, .int .i64 gp, .int .i64 pe, .int .i64 ag, .int .i64 rm, .int .i64 qu, .bool rv] 24 (0, 0)) := hpw
                          have hB50 := hB
                          have hS50 := Lib.hid hS
                          have hE50 := Lib.hid hE
                          clear hpw hB hS hE
                          obtain ⟨how, hat⟩ := hoa
                          have hak : ats = (k : Int) := by rw [hat, if_neg (by omega)]
                          clear hat
                          subst hak
                          by_cases hko : (k : Int) = o
                          · skip
                            have how0 : ows = 0 := by rw [how, if_neg (by omega)]
                            clear how
                            subst how0
                            obtain ⟨hR1, hR2⟩ := role_own n o lv dt rg iv ho gd rs wt gp pe ag rm qu rv hc hn3 k nx hk0 hlt hko HN3.out
                            have hko1 : (k : Int) ≤ o := by omega
                            have hko2 : o ≤ (k : Int) := by omega
                            clear hko
                            as_aux_lemma =>
                             have zp0 : wr.cell? ⟨w.heap.size, 0, none⟩ = some (.int .i64 n) := (blk_cell hp50 0).trans rfl
                             have zp1 : wr.cell? ⟨w.heap.size, 1, none⟩ = some (.int .i64 o) := (blk_cell hp50 1).trans rfl
                             have zp2 : wr.cell? ⟨w.heap.size, 2, none⟩ = some (.int .u8 lv) := (blk_cell hp50 2).trans rfl
                             have zp3 : wr.cell? ⟨w.heap.size, 3, none⟩ = some (.int .u16 dt) := (blk_cell hp50 3).trans rfl
                             have zp4 : wr.cell? ⟨w.heap.size, 4, none⟩ = some (.int .u16 rg) := (blk_cell hp50 4).trans rfl
                             have zp5 : wr.cell? ⟨w.heap.size, 5, none⟩ = some (.int .i64 iv) := (blk_cell hp50 5).trans rfl
                             have zp6 : wr.cell? ⟨w.heap.size, 6, none⟩ = some (.int .i64 ho) := (blk_cell hp50 6).trans rfl
                             have zp7 : wr.cell? ⟨w.heap.size, 7, none⟩ = some (.int .i64 gd) := (blk_cell hp50 7).trans rfl
                             have zp8 : wr.cell? ⟨w.heap.size, 8, none⟩ = some (.int .i64 rs) := (blk_cell hp50 8).trans rfl
                             have zp9 : wr.cell? ⟨w.heap.size, 9, none⟩ = some (.int .i64 wt) := (blk_cell hp50 9).trans rfl
                             have zp10 : wr.cell? ⟨w.heap.size, 10, none⟩ = some (.int .i64 gp) := (blk_cell hp50 10).trans rfl
                             have zp11 : wr.cell? ⟨w.heap.size, 11, none⟩ = some (.int .i64 pe) := (blk_cell hp50 11).trans rfl
                             have zp12 : wr.cell? ⟨w.heap.size, 12, none⟩ = some (.int .i64 ag) := (blk_cell hp50 12).trans rfl
                             have zp13 : wr.cell? ⟨w.heap.size, 13, none⟩ = some (.int .i64 rm) := (blk_cell hp50 13).trans rfl
                             have zp14 : wr.cell? ⟨w.heap.size, 14, none⟩ = some (.int .i64 qu) := (blk_cell hp50 14).trans rfl
                             have zp15 : wr.cell? ⟨w.heap.size, 15, none⟩ = some (.bool rv) := (blk_cell hp50 15).trans rfl
                             go_wp2_with fail
                             refine (hR1 _).mono ?_
                             rintro e' w51 ⟨rfl, hb⟩
                             have hp51 := blk_below hp50 hb
                             have hB51 := below_call hB50 hb
                             generalize hpv11 : (Value.agg #[.int .i64 n, .int .i64 o, .int .u8 lv, .int .u16 dt, .int .u16 rg, .int .i64 iv, .int .i64 ho, .int .i64 gd, .int .i64 rs, .int .i64 wt, .int .i64 gp, .int .i64 pe, .int .i64 ag, .int .i64 rm, .int .i64 qu, .bool rv]) = pv11
                             replace hpv11 := Lib.hid hpv11
                             have hS51 := Lib.hid (hS50.out.below hb)
                             have hE51 := Lib.hid (hE50.out.below hb)
                             clear zp0 zp1 zp2 zp3 zp4 zp5 zp6 zp7 zp8 zp9 zp10 zp11 zp12 zp13 zp14 zp15
                             have zp0 : w51.cell? ⟨w.heap.size, 0, none⟩ = some (.int .i64 n) := (blk_cell hp51 0).trans rfl
                             have zp1 : w51.cell? ⟨w.heap.size, 1, none⟩ = some (.int .i64 o) := (blk_cell hp51 1).trans rfl
                             have zp2 : w51.cell? ⟨w.heap.size, 2, none⟩ = some (.int .u8 lv) := (blk_cell hp51 2).trans rfl
                             have zp3 : w51.cell? ⟨w.heap.size, 3, none⟩ = some (.int .u16 dt) := (blk_cell hp51 3).trans rfl
                             have zp4 : w51.cell? ⟨w.heap.size, 4, none⟩ = some (.int .u16 rg) := (blk_cell hp51 4).trans rfl
                             have zp5 : w51.cell? ⟨w.heap.size, 5, none⟩ = some (.int .i64 iv) := (blk_cell hp51 5).trans rfl
                             have zp6 : w51.cell? ⟨w.heap.size, 6, none⟩ = some (.int .i64 ho) := (blk_cell hp51 6).trans rfl
                             have zp7 : w51.cell? ⟨w.heap.size, 7, none⟩ = some (.int .i64 gd) := (blk_cell hp51 7).trans rfl
                             have zp8 : w51.cell? ⟨w.heap.size, 8, none⟩ = some (.int .i64 rs) := (blk_cell hp51 8).trans rfl
                             have zp9 : w51.cell? ⟨w.heap.size, 9, none⟩ = some (.int .i64 wt) := (blk_cell hp51 9).trans rfl
                             have zp10 : w51.cell? ⟨w.heap.size, 10, none⟩ = some (.int .i64 gp) := (blk_cell hp51 10).trans rfl
                             have zp11 : w51.cell? ⟨w.heap.size, 11, none⟩ = some (.int .i64 pe) := (blk_cell hp51 11).trans rfl
                             have zp12 : w51.cell? ⟨w.heap.size, 12, none⟩ = some (.int .i64 ag) := (blk_cell hp51 12).trans rfl
                             have zp13 : w51.cell? ⟨w.heap.size, 13, none⟩ = some (.int .i64 rm) := (blk_cell hp51 13).trans rfl
                             have zp14 : w51.cell? ⟨w.heap.size, 14, none⟩ = some (.int .i64 qu) := (blk_cell hp51 14).trans rfl
                             have zp15 : w51.cell? ⟨w.heap.size, 15, none⟩ = some (.bool rv) := (blk_cell hp51 15).trans rfl
                             as_aux_lemma =>
                              go_wp2_with fail
                              refine (hX1 _).mono ?_
                              rintro e' w52 ⟨rfl, hb⟩
                              have hp52 := blk_below hp51 hb
                              have hB52 := below_call hB51 hb
                              generalize hpv12 : (Value.agg #[.int .i64 n, .int .i64 o, .int .u8 lv, .int .u16 dt, .int .u16 rg, .int .i64 iv, .int .i64 ho, .int .i64 gd, .int .i64 rs, .int .i64 wt, .int .i64 gp, .int .i64 pe, .int .i64 ag, .int .i64 rm, .int .i64 qu, .bool rv]) = pv12
                              replace hpv12 := Lib.hid hpv12
                              have hS52 := Lib.hid (hS51.out.below hb)
                              have hE52 := Lib.hid (hE51.out.below hb)
                              clear zp0 zp1 zp2 zp3 zp4 zp5 zp6 zp7 zp8 zp9 zp10 zp11 zp12 zp13 zp14 zp15
                              have zp0 : w52.cell? ⟨w.heap.size, 0, none⟩ = some (.int .i64 n) := (blk_cell hp52 0).trans rfl
                              have zp1 : w52.cell? ⟨w.heap.size, 1, none⟩ = some (.int .i64 o) := (blk_cell hp52 1).trans rfl
                              have zp2 : w52.cell? ⟨w.heap.size, 2, none⟩ = some (.int .u8 lv) := (blk_cell hp52 2).trans rfl
                              have zp3 : w52.cell? ⟨w.heap.size, 3, none⟩ = some (.int .u16 dt) := (blk_cell hp52 3).trans rfl
                              have zp4 : w52.cell? ⟨w.heap.size, 4, none⟩ = some (.int .u16 rg) := (blk_cell hp52 4).trans rfl
                              have zp5 : w52.cell? ⟨w.heap.size, 5, none⟩ = some (.int .i64 iv) := (blk_cell hp52 5).trans rfl
                              have zp6 : w52.cell? ⟨w.heap.size, 6, none⟩ = some (.int .i64 ho) := (blk_cell hp52 6).trans rfl
                              have zp7 : w52.cell? ⟨w.heap.size, 7, none⟩ = some (.int .i64 gd) := (blk_cell hp52 7).trans rfl
                              have zp8 : w52.cell? ⟨w.heap.size, 8, none⟩ = some (.int .i64 rs) := (blk_cell hp52 8).trans rfl
                              have zp9 : w52.cell? ⟨w.heap.size, 9, none⟩ = some (.int .i64 wt) := (blk_cell hp52 9).trans rfl
                              have zp10 : w52.cell? ⟨w.heap.size, 10, none⟩ = some (.int .i64 gp) := (blk_cell hp52 10).trans rfl
                              have zp11 : w52.cell? ⟨w.heap.size, 11, none⟩ = some (.int .i64 pe) := (blk_cell hp52 11).trans rfl
                              have zp12 : w52.cell? ⟨w.heap.size, 12, none⟩ = some (.int .i64 ag) := (blk_cell hp52 12).trans rfl
                              have zp13 : w52.cell? ⟨w.heap.size, 13, none⟩ = some (.int .i64 rm) := (blk_cell hp52 13).trans rfl
                              have zp14 : w52.cell? ⟨w.heap.size, 14, none⟩ = some (.int .i64 qu) := (blk_cell hp52 14).trans rfl
                              have zp15 : w52.cell? ⟨w.heap.size, 15, none⟩ = some (.bool rv) := (blk_cell hp52 15).trans rfl
                              as_aux_lemma =>
                               go_wp2_with fail
                               refine (hR2 _).mono ?_
                               rintro e' w53 ⟨rfl, hb⟩
                               have hp53 := blk_below hp52 hb
                               have hB53 := below_call hB52 hb
                               generalize hpv13 : (Value.agg #[.int .i64 n, .int .i64 o, .int .u8 lv, .int .u16 dt, .int .u16 rg, .int .i64 iv, .int .i64 ho, .int .i64 gd, .int .i64 rs, .int .i64 wt, .int .i64 gp, .int .i64 pe, .int .i64 ag, .int .i64 rm, .int .i64 qu, .bool rv]) = pv13
                               replace hpv13 := Lib.hid hpv13
                               have hS53 := Lib.hid (hS52.out.below hb)
                               have hE53 := Lib.hid (hE52.out.below hb)
                               clear zp0 zp1 zp2 zp3 zp4 zp5 zp6 zp7 zp8 zp9 zp10 zp11 zp12 zp13 zp14 zp15
                               have zp0 : w53.cell? ⟨w.heap.size, 0, none⟩ = some (.int .i64 n) := (blk_cell hp53 0).trans rfl
                               have zp1 : w53.cell? ⟨w.heap.size, 1, none⟩ = some (.int .i64 o) := (blk_cell hp53 1).trans rfl
                               have zp2 : w53.cell? ⟨w.heap.size, 2, none⟩ = some (.int .u8 lv) := (blk_cell hp53 2).trans rfl
                               have zp3 : w53.cell? ⟨w.heap.size, 3, none⟩ = some (.int .u16 dt) := (blk_cell hp53 3).trans rfl
                               have zp4 : w53.cell? ⟨w.heap.size, 4, none⟩ = some (.int .u16 rg) := (blk_cell hp53 4).trans rfl
                               have zp5 : w53.cell? ⟨w.heap.size, 5, none⟩ = some (.int .i64 iv) := (blk_cell hp53 5).trans rfl
                               have zp6 : w53.cell? ⟨w.heap.size, 6, none⟩ = some (.int .i64 ho) := (blk_cell hp53 6).trans rfl
                               have zp7 : w53.cell? ⟨w.heap.size, 7, none⟩ = some (.int .i64 gd) := (blk_cell hp53 7).trans rfl
                               have zp8 : w53.cell? ⟨w.heap.size, 8, none⟩ = some (.int .i64 rs) := (blk_cell hp53 8).trans rfl
                               have zp9 : w53.cell? ⟨w.heap.size, 9, none⟩ = some (.int .i64 wt) := (blk_cell hp53 9).trans rfl
                               have zp10 : w53.cell? ⟨w.heap.size, 10, none⟩ = some (.int .i64 gp) := (blk_cell hp53 10).trans rfl
                               have zp11 : w53.cell? ⟨w.heap.size, 11, none⟩ = some (.int .i64 pe) := (blk_cell hp53 11).trans rfl
                               have zp12 : w53.cell? ⟨w.heap.size, 12, none⟩ = some (.int .i64 ag) := (blk_cell hp53 12).trans rfl
                               have zp13 : w53.cell? ⟨w.heap.size, 13, none⟩ = some (.int .i64 rm) := (blk_cell hp53 13).trans rfl
                               have zp14 : w53.cell? ⟨w.heap.size, 14, none⟩ = some (.int .i64 qu) := (blk_cell hp53 14).trans rfl
                               have zp15 : w53.cell? ⟨w.heap.size, 15, none⟩ = some (.bool rv) := (blk_cell hp53 15).trans rfl
                               as_aux_lemma =>
                                go_wp2_with fail
                                refine (hX1 _).mono ?_
                                rintro e' w54 ⟨rfl, hb⟩
                                have hp54 := blk_below hp53 hb
                                have hB54 := below_call hB53 hb
                                generalize hpv14 : (Value.agg #[.int .i64 n, .int .i64 o, .int .u8 lv, .int .u16 dt, .int .u16 rg, .int .i64 iv, .int .i64 ho, .int .i64 gd, .int .i64 rs, .int .i64 wt, .int .i64 gp, .int .i64 pe, .int .i64 ag, .int .i64 rm, .int .i64 qu, .bool rv]) = pv14
                                replace hpv14 := Lib.hid hpv14
                                have hS54 := Lib.hid (hS53.out.below hb)
                                have hE54 := Lib.hid (hE53.out.below hb)
                                clear zp0 zp1 zp2 zp3 zp4 zp5 zp6 zp7 zp8 zp9 zp10 zp11 zp12 zp13 zp14 zp15
                                have zp0 : w54.cell? ⟨w.heap.size, 0, none⟩ = some (.int .i64 n) := (blk_cell hp54 0).trans rfl
                                have zp1 : w54.cell? ⟨w.heap.size, 1, none⟩ = some (.int .i64 o) := (blk_cell hp54 1).trans rfl
                                have zp2 : w54.cell? ⟨w.heap.size, 2, none⟩ = some (.int .u8 lv) := (blk_cell hp54 2).trans rfl
                                have zp3 : w54.cell? ⟨w.heap.size, 3, none⟩ = some (.int .u16 dt) := (blk_cell hp54 3).trans rfl
                                have zp4 : w54.cell? ⟨w.heap.size, 4, none⟩ = some (.int .u16 rg) := (blk_cell hp54 4).trans rfl
                                have zp5 : w54.cell? ⟨w.heap.size, 5, none⟩ = some (.int .i64 iv) := (blk_cell hp54 5).trans rfl
                                have zp6 : w54.cell? ⟨w.heap.size, 6, none⟩ = some (.int .i64 ho) := (blk_cell hp54 6).trans rfl
                                have zp7 : w54.cell? ⟨w.heap.size, 7, none⟩ = some (.int .i64 gd) := (blk_cell hp54 7).trans rfl
                                have zp8 : w54.cell? ⟨w.heap.size, 8, none⟩ = some (.int .i64 rs) := (blk_cell hp54 8).trans rfl
                                have zp9 : w54.cell? ⟨w.heap.size, 9, none⟩ = some (.int .i64 wt) := (blk_cell hp54 9).trans rfl
                                have zp10 : w54.cell? ⟨w.heap.size, 10, none⟩ = some (.int .i64 gp) := (blk_cell hp54 10).trans rfl
                                have zp11 : w54.cell? ⟨w.heap.size, 11, none⟩ = some (.int .i64 pe) := (blk_cell hp54 11).trans rfl
                                have zp12 : w54.cell? ⟨w.heap.size, 12, none⟩ = some (.int .i64 ag) := (blk_cell hp54 12).trans rfl
                                have zp13 : w54.cell? ⟨w.heap.size, 13, none⟩ = some (.int .i64 rm) := (blk_cell hp54 13).trans rfl
                                have zp14 : w54.cell? ⟨w.heap.size, 14, none⟩ = some (.int .i64 qu) := (blk_cell hp54 14).trans rfl
                                have zp15 : w54.cell? ⟨w.heap.size, 15, none⟩ = some (.bool rv) := (blk_cell hp54 15).trans rfl
                                as_aux_lemma =>
                                 go_wp2_with fail
                                 have hpv1 := hpv1.out
                                 subst hpv1
                                 have hpv2 := hpv2.out
                                 subst hpv2
                                 have hpv3 := hpv3.out
                                 subst hpv3
                                 have hpv4 := hpv4.out
                                 subst hpv4
                                 have hpv5 := hpv5.out
                                 subst hpv5
                                 have hpv6 := hpv6.out
                                 subst hpv6
                                 have hpv7 := hpv7.out
                                 subst hpv7
                                 have hpv8 := hpv8.out
                                 subst hpv8
                                 have hpv9 := hpv9.out
                                 subst hpv9
                                 have hpv10 := hpv10.out
                                 subst hpv10
                                 have hpv11 := hpv11.out
                                 subst hpv11
                                 have hpv12 := hpv12.out
                                 subst hpv12
                                 have hpv13 := hpv13.out
                                 subst hpv13
                                 have hpv14 := hpv14.out
                                 subst hpv14
                                 go_roundw
                                 case rel => exact ⟨k + 1, 1, nx, by omega, rfl, rfl, ⟨by rw [if_pos (by omega)], by rw [HN3.out]; by_cases h : (k : Int) = n - 1 <;> simp [h] <;> omega⟩, by go_num, hp54, hS54.out.imp (fun x => by constructor <;> intro hx <;> omega), hE54.out.imp (fun x => by constructor <;> intro hx <;> omega), hB54⟩
                                 case measure => simp [intOf]; omega
                          · skip
                            obtain ⟨ro, po, hro, hR1⟩ := role_other n o lv dt rg iv ho gd rs wt gp pe ag rm qu rv hc hn3 k hk0 hlt hko
                            have hrd : decide (ro = 1) = false := decide_eq_false hro
                            have HOW := Lib.hid how
                            clear how
                            as_aux_lemma =>
                             have zp0 : wr.cell? ⟨w.heap.size, 0, none⟩ = some (.int .i64 n) := (blk_cell hp50 0).trans rfl
                             have zp1 : wr.cell? ⟨w.heap.size, 1, none⟩ = some (.int .i64 o) := (blk_cell hp50 1).trans rfl
                             have zp2 : wr.cell? ⟨w.heap.size, 2, none⟩ = some (.int .u8 lv) := (blk_cell hp50 2).trans rfl
                             have zp3 : wr.cell? ⟨w.heap.size, 3, none⟩ = some (.int .u16 dt) := (blk_cell hp50 3).trans rfl
                             have zp4 : wr.cell? ⟨w.heap.size, 4, none⟩ = some (.int .u16 rg) := (blk_cell hp50 4).trans rfl
                             have zp5 : wr.cell? ⟨w.heap.size, 5, none⟩ = some (.int .i64 iv) := (blk_cell hp50 5).trans rfl
                             have zp6 : wr.cell? ⟨w.heap.size, 6, none⟩ = some (.int .i64 ho) := (blk_cell hp50 6).trans rfl
                             have zp7 : wr.cell? ⟨w.heap.size, 7, none⟩ = some (.int .i64 gd) := (blk_cell hp50 7).trans rfl
                             have zp8 : wr.cell? ⟨w.heap.size, 8, none⟩ = some (.int .i64 rs) := (blk_cell hp50 8).trans rfl
                             have zp9 : wr.cell? ⟨w.heap.size, 9, none⟩ = some (.int .i64 wt) := (blk_cell hp50 9).trans rfl
                             have zp10 : wr.cell? ⟨w.heap.size, 10, none⟩ = some (.int .i64 gp) := (blk_cell hp50 10).trans rfl
                             have zp11 : wr.cell? ⟨w.heap.size, 11, none⟩ = some (.int .i64 pe) := (blk_cell hp50 11).trans rfl
                             have zp12 : wr.cell? ⟨w.heap.size, 12, none⟩ = some (.int .i64 ag) := (blk_cell hp50 12).trans rfl
                             have zp13 : wr.cell? ⟨w.heap.size, 13, none⟩ = some (.int .i64 rm) := (blk_cell hp50 13).trans rfl
                             have zp14 : wr.cell? ⟨w.heap.size, 14, none⟩ = some (.int .i64 qu) := (blk_cell hp50 14).trans rfl
                             have zp15 : wr.cell? ⟨w.heap.size, 15, none⟩ = some (.bool rv) := (blk_cell hp50 15).trans rfl
                             go_wp2_with fail
                             refine (hR1 _).mono ?_
                             rintro e' w51 ⟨rfl, hb⟩
                             have hp51 := blk_below hp50 hb
                             have hB51 := below_call hB50 hb
                             generalize hpv11 : (Value.agg #[.int .i64 n, .int .i64 o, .int .u8 lv, .int .u16 dt, .int .u16 rg, .int .i64 iv, .int .i64 ho, .int .i64 gd, .int .i64 rs, .int .i64 wt, .int .i64 gp, .int .i64 pe, .int .i64 ag, .int .i64 rm, .int .i64 qu, .bool rv]) = pv11
                             replace hpv11 := Lib.hid hpv11
                             have hS51 := Lib.hid (hS50.out.below hb)
                             have hE51 := Lib.hid (hE50.out.below hb)
                             clear zp0 zp1 zp2 zp3 zp4 zp5 zp6 zp7 zp8 zp9 zp10 zp11 zp12 zp13 zp14 zp15
                             have zp0 : w51.cell? ⟨w.heap.size, 0, none⟩ = some (.int .i64 n) := (blk_cell hp51 0).trans rfl
                             have zp1 : w51.cell? ⟨w.heap.size, 1, none⟩ = some (.int .i64 o) := (blk_cell hp51 1).trans rfl
                             have zp2 : w51.cell? ⟨w.heap.size, 2, none⟩ = some (.int .u8 lv) := (blk_cell hp51 2).trans rfl
                             have zp3 : w51.cell? ⟨w.heap.size, 3, none⟩ = some (.int .u16 dt) := (blk_cell hp51 3).trans rfl
                             have zp4 : w51.cell? ⟨w.heap.size, 4, none⟩ = some (.int .u16 rg) := (blk_cell hp51 4).trans rfl
                             have zp5 : w51.cell? ⟨w.heap.size, 5, none⟩ = some (.int .i64 iv) := (blk_cell hp51 5).trans rfl
                             have zp6 : w51.cell? ⟨w.heap.size, 6, none⟩ = some (.int .i64 ho) := (blk_cell hp51 6).trans rfl
                             have zp7 : w51.cell? ⟨w.heap.size, 7, none⟩ = some (.int .i64 gd) := (blk_cell hp51 7).trans rfl
                             have zp8 : w51.cell? ⟨w.heap.size, 8, none⟩ = some (.int .i64 rs) := (blk_cell hp51 8).trans rfl
                             have zp9 : w51.cell? ⟨w.heap.size, 9, none⟩ = some (.int .i64 wt) := (blk_cell hp51 9).trans rfl
                             have zp10 : w51.cell? ⟨w.heap.size, 10, none⟩ = some (.int .i64 gp) := (blk_cell hp51 10).trans rfl
                             have zp11 : w51.cell? ⟨w.heap.size, 11, none⟩ = some (.int .i64 pe) := (blk_cell hp51 11).trans rfl
                             have zp12 : w51.cell? ⟨w.heap.size, 12, none⟩ = some (.int .i64 ag) := (blk_cell hp51 12).trans rfl
                             have zp13 : w51.cell? ⟨w.heap.size, 13, none⟩ = some (.int .i64 rm) := (blk_cell hp51 13).trans rfl
                             have zp14 : w51.cell? ⟨w.heap.size, 14, none⟩ = some (.int .i64 qu) := (blk_cell hp51 14).trans rfl
                             have zp15 : w51.cell? ⟨w.heap.size, 15, none⟩ = some (.bool rv) := (blk_cell hp51 15).trans rfl
                             as_aux_lemma =>
                              go_wp2_with fail
                              refine (hX1 _).mono ?_
                              rintro e' w54 ⟨rfl, hb⟩
                              have hp54 := blk_below hp51 hb
                              have hB54 := below_call hB51 hb
                              generalize hpv12 : (Value.agg #[.int .i64 n, .int .i64 o, .int .u8 lv, .int .u16 dt, .int .u16 rg, .int .i64 iv, .int .i64 ho, .int .i64 gd, .int .i64 rs, .int .i64 wt, .int .i64 gp, .int .i64 pe, .int .i64 ag, .int .i64 rm, .int .i64 qu, .bool rv]) = pv12
                              replace hpv12 := Lib.hid hpv12
                              have hS54 := Lib.hid (hS51.out.below hb)
                              have hE54 := Lib.hid (hE51.out.below hb)
                              clear zp0 zp1 zp2 zp3 zp4 zp5 zp6 zp7 zp8 zp9 zp10 zp11 zp12 zp13 zp14 zp15
                              have zp0 : w54.cell? ⟨w.heap.size, 0, none⟩ = some (.int .i64 n) := (blk_cell hp54 0).trans rfl
                              have zp1 : w54.cell? ⟨w.heap.size, 1, none⟩ = some (.int .i64 o) := (blk_cell hp54 1).trans rfl
                              have zp2 : w54.cell? ⟨w.heap.size, 2, none⟩ = some (.int .u8 lv) := (blk_cell hp54 2).trans rfl
                              have zp3 : w54.cell? ⟨w.heap.size, 3, none⟩ = some (.int .u16 dt) := (blk_cell hp54 3).trans rfl
                              have zp4 : w54.cell? ⟨w.heap.size, 4, none⟩ = some (.int .u16 rg) := (blk_cell hp54 4).trans rfl
                              have zp5 : w54.cell? ⟨w.heap.size, 5, none⟩ = some (.int .i64 iv) := (blk_cell hp54 5).trans rfl
                              have zp6 : w54.cell? ⟨w.heap.size, 6, none⟩ = some (.int .i64 ho) := (blk_cell hp54 6).trans rfl
                              have zp7 : w54.cell? ⟨w.heap.size, 7, none⟩ = some (.int .i64 gd) := (blk_cell hp54 7).trans rfl
                              have zp8 : w54.cell? ⟨w.heap.size, 8, none⟩ = some (.int .i64 rs) := (blk_cell hp54 8).trans rfl
                              have zp9 : w54.cell? ⟨w.heap.size, 9, none⟩ = some (.int .i64 wt) := (blk_cell hp54 9).trans rfl
                              have zp10 : w54.cell? ⟨w.heap.size, 10, none⟩ = some (.int .i64 gp) := (blk_cell hp54 10).trans rfl
                              have zp11 : w54.cell? ⟨w.heap.size, 11, none⟩ = some (.int .i64 pe) := (blk_cell hp54 11).trans rfl
                              have zp12 : w54.cell? ⟨w.heap.size, 12, none⟩ = some (.int .i64 ag) := (blk_cell hp54 12).trans rfl
                              have zp13 : w54.cell? ⟨w.heap.size, 13, none⟩ = some (.int .i64 rm) := (blk_cell hp54 13).trans rfl
                              have zp14 : w54.cell? ⟨w.heap.size, 14, none⟩ = some (.int .i64 qu) := (blk_cell hp54 14).trans rfl
                              have zp15 : w54.cell? ⟨w.heap.size, 15, none⟩ = some (.bool rv) := (blk_cell hp54 15).trans rfl
                              as_aux_lemma =>
                               go_wp2_with fail
                               have hpv1 := hpv1.out
                               subst hpv1
                               have hpv2 := hpv2.out
                               subst hpv2
                               have hpv3 := hpv3.out
                               subst hpv3
                               have hpv4 := hpv4.out
                               subst hpv4
                               have hpv5 := hpv5.out
                               subst hpv5
                               have hpv6 := hpv6.out
                               subst hpv6
                               have hpv7 := hpv7.out
                               subst hpv7
                               have hpv8 := hpv8.out
                               subst hpv8
                               have hpv9 := hpv9.out
                               subst hpv9
                               have hpv10 := hpv10.out
                               subst hpv10
                               have hpv11 := hpv11.out
                               subst hpv11
                               have hpv12 := hpv12.out
                               subst hpv12
                               go_roundw
                               case rel => exact ⟨k + 1, ows, nx, by omega, rfl, rfl, ⟨by rw [HOW.out]; by_cases h : o < (k : Int) <;> simp [h] <;> omega, by rw [HN3.out]; by_cases h : (k : Int) = n - 1 <;> simp [h] <;> omega⟩, by go_num, hp54, hS54.out.imp (fun x => by constructor <;> intro hx <;> omega), hE54.out.imp (fun x => by constructor <;> intro hx <;> omega), hB54⟩
                               case measure => simp [intOf]; omega
      · have hkn : n = (k : Int) := by omega
        as_aux_lemma =>
         subst hkn
         obtain ⟨how, hat⟩ := hoa
         rw [if_pos hcz.2.2.2] at how
         rw [if_pos rfl] at hat
         subst how
         subst hat
         go_wp2_with fail
         refine (awake_c _).mono ?_
         rintro e' w9 ⟨rfl, hb⟩
         have hp9 := blk_below hpw hb
         have hB9 := below_call hB hb
         have z9 : w9.cell? ⟨w.heap.size, 0, none⟩ = some (.int .i64 k) := (blk_cell hp9 0).trans rfl
         obtain ⟨D1, hw1, hz1, hh1⟩ := hS.below hb
         obtain ⟨D2, hw2, hz2, hh2⟩ := hE.below hb
         have hl1 := hw1.len Try.underlying67 3
         have hl2 := hw2.len Try.underlying68 3
         rw [hz1] at hl1
         rw [hz2] at hl2
         have hkey : keyOf Try.prog 22 (.int .u16 0) = some (.int .u16 0) := keyOf_int_mk Try.underlying22 (wf_u16 (by omega) (by omega))
         obtain ⟨c, hl3, hc3, _⟩ := hw2.lookup_int law22 Try.underlying68 Try.underlying3 (zero3 _) hkey
         have hno : Maps.has D2 (.int .u16 0) = false := by
           cases h : Maps.has D2 (.int .u16 0) with
           | false => rfl
           | true => exact absurd ((hh2 0).1 h) (by omega)
         rw [atKey_of_not_has hno] at hc3
         obtain rfl : c = 0 := by cases hc3; rfl
         clear hw1 hw2 hz1 hz2 hh1 hh2 hno hc3 hS hE hpw hb hB
         go_wp2_with fail
         go_ret
         exact ⟨by first | rfl | simp | (simp; omega), hB9⟩
  · have hqz : (planCheck n o lv dt rg iv ho gd rs wt gp pe ag rm qu = 0) = False := eq_false hc
    go_wp2_with fail
    refine (awake_c _).mono ?_
    rintro e' w9 ⟨rfl, hb⟩
    have hB9 := below_call hB2 hb
    go_wp2_with fail
    go_ret
    exact ⟨rfl, hB9⟩
end Go.Proofs.Ytapicoienpbdfaa.Ri
