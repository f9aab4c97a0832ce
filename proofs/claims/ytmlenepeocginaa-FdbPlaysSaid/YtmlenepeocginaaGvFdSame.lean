/- Tables of addresses: are a table's rows the document's? -/
import Derived.Test.YtmlenepeocginaaGvFdRef
namespace Go.Proofs.Ytmlenepeocginaa.Gv
open Go.RowKit Go.Maps Go.WideElems Go.Lib Go.Proofs.YtmlenepeocginaaW.PrintWords Go.Proofs.YtmlenepeocginaaW.PrintLast Go.Proofs.YtmlenepeocginaaW.PrintMore Go.Proofs.Ytmlenepeocginaa.PFdbPlays
set_option linter.unusedVariables false
set_option linter.unusedSimpArgs false
theorem eq79 (x0 x1 x2 x3 : Int) (w : World) : (Op.equalIn 10000 79 (.agg #[.int .u16 x0, .int .u64 x1, .int .i64 x2, .int .i64 x3]) (.agg #[.int .u16 x0, .int .u64 x1, .int .i64 x2, .int .i64 x3])).run Try.prog w = .ok true w := by
  have h : (Op.equalIn (9999 + 1) 79 (.agg #[.int .u16 x0, .int .u64 x1, .int .i64 x2, .int .i64 x3]) (.agg #[.int .u16 x0, .int .u64 x1, .int .i64 x2, .int .i64 x3])).run Try.prog w = .ok ((x0 == x0) && ((x1 == x1) && ((x2 == x2) && (x3 == x3)))) w := by
    refine eqA_of Try.underlying79 (by kernel_rfl) ?_
    refine eqf_cons (by rfl) (by go_simp; rfl) (by go_simp; rfl) (by go_simp) ?_
    refine eqf_cons (by rfl) (by go_simp; rfl) (by go_simp; rfl) (by go_simp) ?_
    refine eqf_cons (by rfl) (by go_simp; rfl) (by go_simp; rfl) (by go_simp) ?_
    exact eqf_last (by rfl) (by go_simp; rfl) (by go_simp; rfl) (by go_simp)
  simpa using h
theorem neq79 (x0 x1 x2 x3 : Int) (w : World) : (binOp .neq 79 (.agg #[.int .u16 x0, .int .u64 x1, .int .i64 x2, .int .i64 x3]) (.agg #[.int .u16 x0, .int .u64 x1, .int .i64 x2, .int .i64 x3])).run Try.prog w = .ok (.bool false) w := by
  rw [run_neq_struct, eq79]
  rfl
/-- Two lists of rows in order, the one the other's rearrangement: the same. -/
theorem same_rows {xs L : List Rw} {l : List S79} (h1 : xs.Perm L) (h2 : xs.Pairwise (fun a b => ltOf rcf b a = false)) (h3 : L.Perm (l.map toRw)) (h4 : l.Pairwise (fun x y => befS x y = true)) : xs = l.map toRw := by
  have hp : xs.Perm (l.map toRw) := h1.trans h3
  have h5 : (l.map toRw).Pairwise (fun a b => ltOf rcf b a = false) := by
    rw [List.pairwise_map]
    refine h4.imp ?_
    intro x y h
    rw [rcf_lt]
    unfold befS befI at h
    simp only [decide_eq_true_eq] at h
    show decide (y.f0 < x.f0 ∨ (y.f0 = x.f0 ∧ y.f1 < x.f1)) = false
    rw [decide_eq_false_iff_not]
    omega
  refine hp.eq_of_pairwise ?_ h2 h5
  intro a b ha hb hab hba
  obtain ⟨x, hx, rfl⟩ := List.mem_map.1 (hp.mem_iff.1 ha)
  obtain ⟨y, hy, rfl⟩ := List.mem_map.1 hb
  rw [rcf_lt] at hab hba
  have hab : ¬ (y.f0 < x.f0 ∨ (y.f0 = x.f0 ∧ y.f1 < x.f1)) := of_decide_eq_false hab
  have hba : ¬ (x.f0 < y.f0 ∨ (x.f0 = y.f0 ∧ x.f1 < y.f1)) := of_decide_eq_false hba
  have hk : x.f0 = y.f0 ∧ x.f1 = y.f1 := by omega
  have hpw : ∀ x ∈ l, ∀ y ∈ l, x.f0 = y.f0 ∧ x.f1 = y.f1 → x = y := by
    intro x hx y hy he
    obtain ⟨i, hi, rfl⟩ := List.getElem_of_mem hx
    obtain ⟨j, hj, rfl⟩ := List.getElem_of_mem hy
    have hg := List.pairwise_iff_getElem.1 h4
    by_cases hij : i < j
    · have := hg i j hi hj hij
      unfold befS befI at this
      simp only [decide_eq_true_eq] at this
      omega
    · by_cases hji : j < i
      · have := hg j i hj hi hji
        unfold befS befI at this
        simp only [decide_eq_true_eq] at this
        omega
      · have : i = j := by omega
        subst this
        rfl
  rw [hpw x hx y hy hk]
set_option maxHeartbeats 16000000 in
set_option maxRecDepth 100000 in
theorem same_calls (room age room2 age2 : Int) (mb : Option Nat) (L : List Rw) (hL : L.length ≤ 1000000) (A : Option Addr) (l : List S79) (c : Nat) (hc : l.length ≤ c) (w : World) (hT : Tab w mb L) (hr : Kd.C k79 w A l.length l) (hp : L.Perm (l.map toRw)) (hs : l.Pairwise (fun x y => befS x y = true)) :
    Calls Try.prog 16 #[.agg #[.int .i64 room, .int .i64 age, .map mb], .agg #[.int .i64 room2, .int .i64 age2, .slice A l.length c]] w fun e w' => e = .returned (.bool true) ∧ Below w.heap.size w w' := by
  go_enter Try.func16, Try.ntmps16
  have HH := Lib.hid (And.intro hT (And.intro hr (And.intro hp hs)))
  clear hT hr hp hs
  go_wp2_with fail
  refine fd_calls_W ?_
  intro W hW
  have B3 : W.heap[w.heap.size + 1]? = some (.cells #[.int .i64 room2, .int .i64 age2, .slice A l.length c] 34) := by rw [hW]; exact fd_blk_new2 _ _ _
  have hBW : Below w.heap.size w W := by rw [hW]; repeat (first | exact Below.refl _ _ | apply below_alloc)
  have hsW : w.heap.size + 2 ≤ W.heap.size := by rw [hW]; simp
  clear hW
  refine (rows_calls room age mb L hL W (HH.out.1.below hBW)).mono ?_
  rintro e' w1 ⟨v, xs, rfl, hp1, hs1, hr1, hb1⟩
  have hxs := same_rows hp1 hs1 HH.out.2.2.1 HH.out.2.2.2
  obtain ⟨A2, c2, rfl, hcl⟩ := rows_cells hr1
  have hxl : xs.length = l.length := by rw [hxs, List.length_map]
  have hll : l.length ≤ 1000000 := by rw [← hxl, hp1.length_eq]; exact hL
  have C3 := blk_below B3 hb1
  have hB1 : Below w.heap.size w w1 := hBW.trans (hb1.mono hBW.size)
  have hz1 := hb1.size
  have H1 := Lib.hid (And.intro hxs (And.intro hcl (And.intro C3 (And.intro hB1 (Kd.C_below HH.out.2.1 hB1)))))
  have hc3_2 : w1.cell? ⟨w.heap.size + 1, 2, none⟩ = some (.slice A l.length c) := (blk_cell C3 2).trans rfl
  rw [hxl]
  clear B3 hBW hp1 hs1 hr1 hb1 hxs hcl C3 hB1 hxl
  go_wp2_with fail
  go_loopw [18] (fun i wr => ∃ k : Nat, k ≤ l.length ∧ i = .int .i64 k ∧ Below w1.heap.size w1 wr) (fun i _ => l.length - (intOf i).toNat)
  case atStart => exact ⟨0, Nat.zero_le _, rfl, Below.refl _ _⟩
  case round =>
    obtain ⟨k, hk, rfl, hBk⟩ := hrel
    by_cases hlt : k < l.length
    · have hx : k < xs.length := by rw [H1.out.1, List.length_map]; exact hlt
      obtain ⟨gS, rfl, hgS, q0, q1, q2, q3⟩ := H1.out.2.1 k hx
      have hxk : xs[k] = toRw l[k] := by
        have h := H1.out.1
        subst h
        simp
      obtain ⟨ad, rfl, p0, p1, p2, p3⟩ := at_T79 H1.out.2.2.2.2 (k : Int) (by omega) (by omega)
      rw [rd_at l k hlt, Int.toNat_natCast] at p0 p1 p2 p3
      rw [hxk] at q0 q1 q2 q3
      simp only [toRw] at q0 q1 q2 q3
      obtain ⟨x0, hx0⟩ : ∃ x0, l[k].f0 = x0 := ⟨_, rfl⟩
      obtain ⟨x1, hx1⟩ : ∃ x1, l[k].f1 = x1 := ⟨_, rfl⟩
      obtain ⟨x2, hx2⟩ : ∃ x2, l[k].f2 = x2 := ⟨_, rfl⟩
      obtain ⟨x3, hx3⟩ : ∃ x3, l[k].f3 = x3 := ⟨_, rfl⟩
      rw [hx0] at p0 q0
      rw [hx1] at p1 q1
      rw [hx2] at p2 q2
      rw [hx3] at p3 q3
      have hadb : (ad.add (k * 4)).block < w1.heap.size := World.block_lt_of_cell? w1 _ p0
      clear hxk hx0 hx1 hx2 hx3
      have r0 := (hBk.cell (p := ⟨gS, k * 4, none⟩) hgS).trans q0
      have r1 := (hBk.cell (p := ⟨gS, k * 4 + 1, none⟩) hgS).trans q1
      have r2 := (hBk.cell (p := ⟨gS, k * 4 + 2, none⟩) hgS).trans q2
      have r3 := (hBk.cell (p := ⟨gS, k * 4 + 3, none⟩) hgS).trans q3
      have hsk := hBk.size
      have hst : ∀ w7, Below wr.heap.size wr w7 → w7.heap[wr.heap.size]? = some (.cells #[.int .u16 x0, .int .u64 x1, .int .i64 x2, .int .i64 x3] 64) → (fun w' : World => w'.cell? ⟨wr.heap.size, 0, none⟩ = some (.int .u16 x0) ∧ w'.cell? ⟨wr.heap.size, 1, none⟩ = some (.int .u64 x1) ∧ w'.cell? ⟨wr.heap.size, 2, none⟩ = some (.int .i64 x2) ∧ w'.cell? ⟨wr.heap.size, 3, none⟩ = some (.int .i64 x3) ∧ w'.cell? ⟨w.heap.size + 1, 2, none⟩ = some (.slice (some ad) l.length c) ∧ w'.cell? (ad.add (k * 4)) = some (.int .u16 x0) ∧ w'.cell? ⟨(ad.add (k * 4)).block, (ad.add (k * 4)).off + 1, none⟩ = some (.int .u64 x1) ∧ w'.cell? ⟨(ad.add (k * 4)).block, (ad.add (k * 4)).off + 2, none⟩ = some (.int .i64 x2) ∧ w'.cell? ⟨(ad.add (k * 4)).block, (ad.add (k * 4)).off + 3, none⟩ = some (.int .i64 x3)) w7 := by
        intro w7 hb7 hx7
        have hB7 : Below w1.heap.size w1 w7 := hBk.trans (hb7.mono hsk)
        have F3 := blk_below H1.out.2.2.1 hB7
        exact ⟨(blk_cell hx7 0).trans rfl, (blk_cell hx7 1).trans rfl, (blk_cell hx7 2).trans rfl, (blk_cell hx7 3).trans rfl, (blk_cell F3 2).trans rfl, (hB7.cell hadb).trans p0, (hB7.cell (p := ⟨(ad.add (k * 4)).block, (ad.add (k * 4)).off + 1, none⟩) hadb).trans p1, (hB7.cell (p := ⟨(ad.add (k * 4)).block, (ad.add (k * 4)).off + 2, none⟩) hadb).trans p2, (hB7.cell (p := ⟨(ad.add (k * 4)).block, (ad.add (k * 4)).off + 3, none⟩) hadb).trans p3⟩
      have hS0 := hst ((wr.alloc (.cells #[.int .u16 x0, .int .u64 x1, .int .i64 x2, .int .i64 x3] 64)).drew) (below_drew1 (below_alloc (Below.refl _ _) _)) (blk_drew (blk_new _ _))
      have hneq := fun w => neq79 x0 x1 x2 x3 w
      have HB := Lib.hid hBk
      clear q0 q1 q2 q3 p0 p1 p2 p3 hst hBk hc3_2
      go_wp2_with fail
      go_region_held3 (fun w' : World => w'.cell? ⟨wr.heap.size, 0, none⟩ = some (.int .u16 x0) ∧ w'.cell? ⟨wr.heap.size, 1, none⟩ = some (.int .u64 x1) ∧ w'.cell? ⟨wr.heap.size, 2, none⟩ = some (.int .i64 x2) ∧ w'.cell? ⟨wr.heap.size, 3, none⟩ = some (.int .i64 x3) ∧ w'.cell? ⟨w.heap.size + 1, 2, none⟩ = some (.slice (some ad) l.length c) ∧ w'.cell? (ad.add (k * 4)) = some (.int .u16 x0) ∧ w'.cell? ⟨(ad.add (k * 4)).block, (ad.add (k * 4)).off + 1, none⟩ = some (.int .u64 x1) ∧ w'.cell? ⟨(ad.add (k * 4)).block, (ad.add (k * 4)).off + 2, none⟩ = some (.int .i64 x2) ∧ w'.cell? ⟨(ad.add (k * 4)).block, (ad.add (k * 4)).off + 3, none⟩ = some (.int .i64 x3)) (first | (with_reducible assumption) | (with_reducible exact hS0)) (fail)
      go_wp2_with fail
      refine ⟨⟨k + 1, by omega, by simp, HB.out.trans ((below_drew1 (below_alloc (Below.refl wr.heap.size wr) _)).mono hsk)⟩, by simp [intOf]; omega⟩
    · go_wp2_with fail
      go_ret
      exact ⟨rfl, H1.out.2.2.2.1.trans (hBk.mono H1.out.2.2.2.1.size)⟩
end Go.Proofs.Ytmlenepeocginaa.Gv
