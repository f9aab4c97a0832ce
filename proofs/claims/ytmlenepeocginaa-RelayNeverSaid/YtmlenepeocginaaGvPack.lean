/- Pack, walked: the bytes of parts, or what is wrong with them, as the word 'pack' of plain lists tells it. -/
import Derived.Test.YtmlenepeocginaaGvBit
import Derived.Lib.Hide
import Derived.Deep.LoopGhost
namespace Go.Proofs.Ytmlenepeocginaa.Gv
open Go.RowKit Go.Proofs.YtmlenepeocginaaW.PrintWords
set_option linter.unusedVariables false

theorem may_calls (n : Int) (w : World) :
    Calls Try.prog 62 #[.int .i64 n] w fun e w' => e = .returned (.bool (decide (1 ≤ n) && decide (n ≤ 64))) ∧ w' = w := by
  by_cases h : 1 ≤ n
  · have hd : decide (1 ≤ n) = true := by simpa using h
    go_enter Try.func62, Try.ntmps62
    go_wp2
    go_ret
    simp [h]
  · have hd : decide (1 ≤ n) = false := by simpa using h
    go_enter Try.func62, Try.ntmps62
    go_wp2
    go_ret
    simp

theorem may_yes (n : Int) (w : World) (h1 : 1 ≤ n) (h2 : n ≤ 64) : Calls Try.prog 62 #[.int .i64 n] w fun e w' => e = .returned (.bool true) ∧ w = w' :=
  (may_calls n w).mono fun e w' ⟨he, hw⟩ => ⟨by rw [he]; simp [h1, h2], hw.symm⟩
theorem may_no (n : Int) (w : World) (h : ¬ (1 ≤ n ∧ n ≤ 64)) : Calls Try.prog 62 #[.int .i64 n] w fun e w' => e = .returned (.bool false) ∧ w = w' :=
  (may_calls n w).mono fun e w' ⟨he, hw⟩ => ⟨by rw [he]; simp; omega, hw.symm⟩
theorem all_bad {l : List (Int × Int)} {k : Nat} (h : k < l.length) (hb : okPart (l.getD k (0, 0)) = false) : l.all okPart = false := by
  rw [List.all_eq_false]
  exact ⟨l.getD k (0, 0), by rw [List.getD_eq_getElem?_getD, List.getElem?_eq_getElem h]; exact List.getElem_mem h, by rw [hb]; simp⟩
theorem all_snoc {l : List (Int × Int)} {k : Nat} (h : k < l.length) (ha : (l.take k).all okPart = true) (hb : okPart (l.getD k (0, 0)) = true) : (l.take (k + 1)).all okPart = true := by
  rw [List.take_succ_eq_append_getElem h, List.all_append, ha]
  rw [List.getD_eq_getElem?_getD, List.getElem?_eq_getElem h] at hb
  simpa using hb

theorem allBits_snoc (l : List (Int × Int)) (k : Nat) (h : k < l.length) : allBits (l.take (k + 1)) = allBits (l.take k) ++ bitsOf (l.getD k (0, 0)).1.toNat (l.getD k (0, 0)).2 := by
  rw [List.take_succ_eq_append_getElem h]
  simp only [allBits, List.flatMap_append]
  simp [List.getD_eq_getElem?_getD, h]
theorem bitsOf_snoc (w j : Nat) (v : Int) (h : j < w) : (bitsOf w v).take (j + 1) = (bitsOf w v).take j ++ [v / 2 ^ (w - 1 - j) % 2] := by
  rw [List.take_succ_eq_append_getElem (by rw [bitsOf_length]; exact h)]
  simp [bitsOf]
theorem allBits_length (l : List (Int × Int)) (h : l.all okPart = true) : (allBits l).length ≤ 64 * l.length := by
  induction l with
  | nil => simp [allBits]
  | cons p l ih =>
    simp only [List.all_cons, Bool.and_eq_true] at h
    have := ih h.2
    have hp := h.1
    simp only [okPart, Bool.and_eq_true, decide_eq_true_eq] at hp
    simp only [allBits, List.flatMap_cons, List.length_append, bitsOf_length, List.length_cons] at this ⊢
    omega
theorem wr_new (w : World) : Wr w.heap.size (w.alloc (.cells #[.slice none 0 0, .int .i64 0] 113)) [] :=
  ⟨.slice none 0 0, by simpa using heap_alloc_new w _, World.ownsRow_nil _ _ _ _, fun b hb => by simp at hb⟩
theorem Wr.cells {B : Nat} {wr : World} {bits : List Int} (h : Wr B wr bits) : ∃ A c, wr.cell? ⟨B, 0, none⟩ = some (.slice A (packB bits).length c) ∧ wr.cell? ⟨B, 1, none⟩ = some (.int .i64 bits.length) ∧ wr.ownsRow (B + 1) 5 1 (.slice A (packB bits).length c) (packB bits).length ((packB bits).map (Value.int .u8)) := by
  obtain ⟨v, hb, ho, _⟩ := h
  have ho' := ho
  obtain ⟨_, hcase⟩ := ho
  rcases hcase with ⟨rfl, h0⟩ | ⟨g, cap, _, rfl, _⟩
  · exact ⟨none, 0, by rw [h0]; exact (blk_cell hb 0).trans rfl, (blk_cell hb 1).trans rfl, by rw [h0] at ho' ⊢; exact ho'⟩
  · exact ⟨_, _, (blk_cell hb 0).trans rfl, (blk_cell hb 1).trans rfl, ho'⟩
theorem Wr.alloc {B : Nat} {wr : World} {bits : List Int} (h : Wr B wr bits) (o : Obj) : Wr B (wr.alloc o) bits := by
  obtain ⟨v, hb, ho, hi⟩ := h
  exact ⟨v, blk_alloc hb o, ho.alloc o, hi⟩

set_option maxHeartbeats 3200000 in
set_option maxRecDepth 100000 in
theorem pack_calls (A : Option Addr) (c : Nat) (l : List (Int × Int)) (w : World)
    (hp : ∀ i : Nat, i < l.length → ∃ ad, A = some ad ∧ w.cell? (ad.add (i * 2)) = some (.int .i64 (l.getD i (0, 0)).1) ∧ w.cell? ⟨(ad.add (i * 2)).block, (ad.add (i * 2)).off + 1, none⟩ = some (.int .u64 (l.getD i (0, 0)).2))
    (hc : l.length ≤ c) (r1 : ByteArray) (r2 : Int) (h : pack l = some (r1, r2)) :
    Calls Try.prog 55 #[.slice A l.length c] w fun e w' => e = .returned (.tuple #[.string r1, .int .i64 r2]) ∧ Below w.heap.size w w' := by
  unfold pack at h
  have hg : isU64 l = true ∧ l.length ≤ 1000000 := by
    by_cases hg : isU64 l = true ∧ l.length ≤ 1000000
    · exact hg
    · rw [if_neg hg] at h; cases h
  rw [if_pos hg] at h
  obtain ⟨hu, hlen⟩ := hg
  have H := Lib.hid h
  have HP := Lib.hid hp
  have HU := Lib.hid hu
  clear h hp hu
  have hw0 := wr_new w
  go_enter Try.func55, Try.ntmps55
  go_wp2_with fail
  go_loopw [12] (fun i wr => ∃ k : Nat, k ≤ l.length ∧ i = .int .i64 k ∧ Wr w.heap.size wr (allBits (l.take k)) ∧ Below w.heap.size w wr ∧ Hid ((l.take k).all okPart = true)) (fun i _ => l.length - (intOf i).toNat)
  case atStart => exact ⟨0, Nat.zero_le _, rfl, hw0, (Below.refl _ _).alloc (Nat.le_refl _) _, Lib.hid rfl⟩
  case round =>
    obtain ⟨k, hk, rfl, hwr, hbel, hok⟩ := hrel
    by_cases hlt : k < l.length
    · obtain ⟨ad, hA, hq0, hq1⟩ := HP.out k hlt
      subst hA
      obtain ⟨pw, hpw⟩ : ∃ pw, (l.getD k (0, 0)).1 = pw := ⟨_, rfl⟩
      obtain ⟨pv, hpv⟩ : ∃ pv, (l.getD k (0, 0)).2 = pv := ⟨_, rfl⟩
      have hpb : 0 ≤ pv ∧ pv ≤ 18446744073709551615 := by
        have h1 := List.all_eq_true.1 HU.out (l.getD k (0, 0)) (by rw [List.getD_eq_getElem?_getD, List.getElem?_eq_getElem hlt]; exact List.getElem_mem hlt)
        simp only [Bool.and_eq_true, decide_eq_true_eq, hpv, u64max] at h1
        exact h1
      rw [hpw] at hq0
      rw [hpv] at hq1
      have hd0 : wr.cell? (ad.add (k * 2)) = some (.int .i64 pw) := (hbel.cell (World.block_lt_of_cell? w _ hq0)).trans hq0
      have hd1 : wr.cell? ⟨(ad.add (k * 2)).block, (ad.add (k * 2)).off + 1, none⟩ = some (.int .u64 pv) := (hbel.cell (World.block_lt_of_cell? w _ hq1)).trans hq1
      have HW := Lib.hid hpw
      have HV := Lib.hid hpv
      clear hq0 hq1 hpw hpv
      obtain ⟨hv0, hv1⟩ := hpb
      by_cases hmay : 1 ≤ pw ∧ pw ≤ 64
      · obtain ⟨hm1, hm2⟩ := hmay
        obtain ⟨n, rfl⟩ := Int.eq_ofNat_of_zero_le (show 0 ≤ pw by omega)
        by_cases hgood : (n : Int) < 64 ∧ 0 < pv / 2 ^ n
        · -- a value that has more bits
          obtain ⟨hg1, hg2⟩ := hgood
          have hgb : decide (0 < pv / 2 ^ n) = true := by simpa using hg2
          go_wp2_with (go_at_call 62; refine (may_yes _ _ hm1 hm2).mono ?_; rintro e w' ⟨rfl, rfl⟩)
          go_ret2
          have hbad : l.all okPart = false := all_bad hlt (by
            simp only [okPart, HW.out, HV.out, Int.toNat_natCast]
            have h1 : ¬ (64 : Int) ≤ n := by omega
            have h2 : ¬ pv / 2 ^ n = 0 := by omega
            simp [h1, h2])
          have hR := H.out
          rw [hbad] at hR
          simp only [Bool.false_eq_true, if_false, Option.some.injEq, Prod.mk.injEq] at hR
          obtain ⟨rfl, rfl⟩ := hR
          exact ⟨rfl, hbel.alloc (by have := hbel.size; omega) _⟩
        · have hok1 : okPart (l.getD k (0, 0)) = true := by
            simp only [okPart, HW.out, HV.out, Int.toNat_natCast, Bool.and_eq_true, Bool.or_eq_true, decide_eq_true_eq]
            refine ⟨⟨hm1, hm2⟩, ?_⟩
            by_cases h64 : (64 : Int) ≤ n
            · exact .inl h64
            · have h0 : 0 ≤ pv / 2 ^ n := Int.ediv_nonneg hv0 (Int.le_of_lt (Int.pow_pos (by decide)))
              have : ¬ 0 < pv / 2 ^ n := fun h => hgood ⟨by omega, h⟩
              exact .inr (by omega)
          have hok2 := Lib.hid (all_snoc hlt hok.out hok1)
          have hal := allBits_snoc l k hlt
          rw [HW.out, HV.out, Int.toNat_natCast] at hal
          have HAL := Lib.hid hal
          have hll : (allBits (l.take k)).length ≤ 64000000 := by
            have := allBits_length (l.take k) hok.out
            have : (l.take k).length ≤ k := List.length_take_le _ _
            omega
          clear hal hok1
          have hbn : w.heap.size < wr.heap.size := by
            obtain ⟨_, hb, _⟩ := hwr
            exact blk_lt hb
          have hwr1 := hwr.alloc (.cells #[.int .i64 n, .int .u64 pv] 103)
          have hbel1 := hbel.alloc (Nat.le_of_lt hbn) (.cells #[.int .i64 n, .int .u64 pv] 103)
          have hpb1 : (wr.alloc (.cells #[.int .i64 n, .int .u64 pv] 103)).heap[wr.heap.size]? = some (.cells #[.int .i64 n, .int .u64 pv] 103 (0, 0)) := by simpa using heap_alloc_new wr _
          by_cases h64 : (n : Int) < 64
          · have hgb : decide (0 < pv / 2 ^ n) = false := by
              rw [decide_eq_false_iff_not]; exact fun h => hgood ⟨h64, h⟩
            go_wp2_with (go_at_call 62; refine (may_yes _ _ hm1 hm2).mono ?_; rintro e w' ⟨rfl, rfl⟩)
            obtain ⟨w1, hw1⟩ : ∃ w1, wr.alloc (.cells #[.int .i64 n, .int .u64 pv] 103) = w1 := ⟨_, rfl⟩
            rw [hw1] at hwr1 hbel1 hpb1 ⊢
            obtain ⟨bp, hbp⟩ : ∃ bp, wr.heap.size = bp := ⟨_, rfl⟩
            rw [hbp] at hpb1 hbn ⊢
            clear hw1 hbp
            go_loopw [35] (fun i wv => ∃ j : Nat, j ≤ n ∧ i = .int .i64 j ∧ Wr w.heap.size wv (allBits (l.take k) ++ (bitsOf n pv).take j) ∧ Below w.heap.size w wv ∧ wv.heap[bp]? = some (.cells #[.int .i64 n, .int .u64 pv] 103 (0, 0))) (fun i _ => n - (intOf i).toNat)
            case atStart => exact ⟨0, Nat.zero_le _, rfl, by simpa using hwr1, hbel1, hpb1⟩
            case round =>
              obtain ⟨j, hj, rfl, hwr2, hbel2, hpb2⟩ := hrel
              have hc0 : wr.cell? ⟨bp, 0, none⟩ = some (.int .i64 n) := (blk_cell hpb2 0).trans rfl
              have hc1 : wr.cell? ⟨bp, 1, none⟩ = some (.int .u64 pv) := (blk_cell hpb2 1).trans rfl
              by_cases hjn : j < n
              · have hbl : (allBits (l.take k) ++ (bitsOf n pv).take j).length ≤ 1000000000 := by
                  rw [List.length_append, List.length_take, bitsOf_length]; omega
                go_wp2_with (go_at_call 63; refine (bit_any w.heap.size _ _ _ hwr2 (Int.ediv_nonneg hv0 (Int.le_of_lt (Int.pow_pos (by decide)))) (Int.le_trans (Int.ediv_le_self _ hv0) hv1) hbl).mono ?_; rintro e w' ⟨rfl, hwr3, hbel3, hfr3⟩)
                go_roundw
                case rel =>
                  refine ⟨j + 1, by omega, by go_num, ?_, hbel2.trans hbel3, hfr3 bp _ hbn hpb2 (fun cs hcs => by simp at hcs)⟩
                  rw [bitsOf_snoc n j pv hjn, ← List.append_assoc]
                  exact hwr3
                case measure => simp [intOf]; omega
              · go_wp2
                go_roundw
                case rel =>
                  have ej : j = n := by omega
                  subst ej
                  rw [List.take_of_length_le (l := bitsOf j pv) (i := j) (by rw [bitsOf_length]; exact Nat.le_refl _), ← HAL.out] at hwr2
                  exact ⟨k + 1, by omega, by go_num, hwr2, hbel2, hok2⟩
                case measure => simp [intOf]; omega
          · go_wp2_with (go_at_call 62; refine (may_yes _ _ hm1 hm2).mono ?_; rintro e w' ⟨rfl, rfl⟩)
            obtain ⟨w1, hw1⟩ : ∃ w1, wr.alloc (.cells #[.int .i64 n, .int .u64 pv] 103) = w1 := ⟨_, rfl⟩
            rw [hw1] at hwr1 hbel1 hpb1 ⊢
            obtain ⟨bp, hbp⟩ : ∃ bp, wr.heap.size = bp := ⟨_, rfl⟩
            rw [hbp] at hpb1 hbn ⊢
            clear hw1 hbp
            go_loopw [35] (fun i wv => ∃ j : Nat, j ≤ n ∧ i = .int .i64 j ∧ Wr w.heap.size wv (allBits (l.take k) ++ (bitsOf n pv).take j) ∧ Below w.heap.size w wv ∧ wv.heap[bp]? = some (.cells #[.int .i64 n, .int .u64 pv] 103 (0, 0))) (fun i _ => n - (intOf i).toNat)
            case atStart => exact ⟨0, Nat.zero_le _, rfl, by simpa using hwr1, hbel1, hpb1⟩
            case round =>
              obtain ⟨j, hj, rfl, hwr2, hbel2, hpb2⟩ := hrel
              have hc0 : wr.cell? ⟨bp, 0, none⟩ = some (.int .i64 n) := (blk_cell hpb2 0).trans rfl
              have hc1 : wr.cell? ⟨bp, 1, none⟩ = some (.int .u64 pv) := (blk_cell hpb2 1).trans rfl
              by_cases hjn : j < n
              · have hbl : (allBits (l.take k) ++ (bitsOf n pv).take j).length ≤ 1000000000 := by
                  rw [List.length_append, List.length_take, bitsOf_length]; omega
                go_wp2_with (go_at_call 63; refine (bit_any w.heap.size _ _ _ hwr2 (Int.ediv_nonneg hv0 (Int.le_of_lt (Int.pow_pos (by decide)))) (Int.le_trans (Int.ediv_le_self _ hv0) hv1) hbl).mono ?_; rintro e w' ⟨rfl, hwr3, hbel3, hfr3⟩)
                go_roundw
                case rel =>
                  refine ⟨j + 1, by omega, by go_num, ?_, hbel2.trans hbel3, hfr3 bp _ hbn hpb2 (fun cs hcs => by simp at hcs)⟩
                  rw [bitsOf_snoc n j pv hjn, ← List.append_assoc]
                  exact hwr3
                case measure => simp [intOf]; omega
              · go_wp2
                go_roundw
                case rel =>
                  have ej : j = n := by omega
                  subst ej
                  rw [List.take_of_length_le (l := bitsOf j pv) (i := j) (by rw [bitsOf_length]; exact Nat.le_refl _), ← HAL.out] at hwr2
                  exact ⟨k + 1, by omega, by go_num, hwr2, hbel2, hok2⟩
                case measure => simp [intOf]; omega
      · go_wp2_with (go_at_call 62; refine (may_no _ _ hmay).mono ?_; rintro e w' ⟨rfl, rfl⟩)
        go_ret2
        have hbad : l.all okPart = false := all_bad hlt (by simp only [okPart, HW.out]; by_cases h1 : 1 ≤ pw <;> simp [h1] <;> omega)
        have hR := H.out
        rw [hbad] at hR
        simp only [Bool.false_eq_true, if_false, Option.some.injEq, Prod.mk.injEq] at hR
        obtain ⟨rfl, rfl⟩ := hR
        exact ⟨rfl, hbel.alloc (by have := hbel.size; omega) _⟩
    · have hkl : k = l.length := by omega
      subst hkl
      have hok3 := hok.out
      rw [List.take_length] at hwr hok3
      have hR := H.out
      rw [if_pos hok3] at hR
      have HR := Lib.hid hR
      obtain ⟨Aw, cw, hcell0, hcell1, hown⟩ := hwr.cells
      clear hR hok3 hok
      by_cases hm : (allBits l).length % 8 = 0
      · have hmb : (((allBits l).length : Int) % 8 != 0) = false := by rw [bne_eq_false_iff_eq]; omega
        have HM := Lib.hid hm
        clear hm
        have hconv := own_string (P := Try.prog) (src := 111) (dst := 9) (xs := packB (allBits l)) Try.underlying111 Try.underlying5 Try.underlying9 hown
        clear hown
        go_wp2
        go_ret2
        have hR := HR.out
        rw [if_pos HM.out] at hR
        simp only [Option.some.injEq, Prod.mk.injEq] at hR
        obtain ⟨rfl, rfl⟩ := hR
        exact ⟨rfl, hbel⟩
      · clear hown
        have hmb : (((allBits l).length : Int) % 8 != 0) = true := by rw [bne_iff_ne]; omega
        have HM := Lib.hid hm
        clear hm
        go_wp2
        go_ret2
        have hR := HR.out
        rw [if_neg HM.out] at hR
        simp only [Option.some.injEq, Prod.mk.injEq] at hR
        obtain ⟨rfl, rfl⟩ := hR
        exact ⟨rfl, hbel⟩

end Go.Proofs.Ytmlenepeocginaa.Gv
