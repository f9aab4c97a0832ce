/- Wires, walked by hand. -/
import Derived.Test.YtehicbehljfkhaaGwB
namespace Go.Proofs.Ytehicbehljfkhaa.Wi
set_option linter.unusedVariables false
set_option linter.unusedSimpArgs false
open Go.RowKit Go.Proofs.YtehicbehljfkhaaW.PrintWords Go.Proofs.YtehicbehljfkhaaW.PrintLast Go.Proofs.YtehicbehljfkhaaW.PrintMore
def L2 (Bx B : Nat) (a b : ByteArray) (w wr : World) (l : List ByteArray) (k : Nat) : Prop := ∃ v u, wr.heap[Bx]? = some (.cells #[.int .i64 256, .bool false, v] 24 (0, 0)) ∧ wr.heap[B]? = some (.cells #[.int .i64 256, .bool false, u] 24 (0, 0)) ∧ WireV wr v (l.drop k ++ [a]) ∧ WireV wr u (l.drop k ++ [b]) ∧ Below w.heap.size w wr
def L1 (B : Nat) (w wr : World) (l : List ByteArray) (k : Nat) : Prop := ∃ v, wr.heap[B]? = some (.cells #[.int .i64 256, .bool false, v] 24 (0, 0)) ∧ WireV wr v (l.take k) ∧ Below w.heap.size w wr
theorem L2_drew {Bx B : Nat} {a b : ByteArray} {w W : World} {l : List ByteArray} {k : Nat} (h : L2 Bx B a b w W l k) : L2 Bx B a b w W.drew l k := by
  obtain ⟨v, u, h1, h2, h3, h4, h5⟩ := h
  have hd : Below W.heap.size W W.drew := below_drew1 (Below.refl _ _)
  exact ⟨v, u, blk_drew h1, blk_drew h2, h3.below hd, h4.below hd, below_drew1 h5⟩
theorem wi_W {P : Program} {C : Code} {Q : Exit → Act → World → Prop} {a : Act} {W : World} (h : ∀ W', W' = W → Code.wp P C Q a W') : Code.wp P C Q a W := h W rfl
theorem wire_len {w : World} {v : Value} {l : List ByteArray} (h : WireV w v l) (n : Nat) (hn : l.length = n) : ∃ A c, v = .slice A n c := by subst hn; exact wire_slice h
theorem L1_W {B : Nat} {w W : World} {l : List ByteArray} {k : Nat} (h : ∀ W', W' = W → L1 B w W' l k) : L1 B w W l k := h W rfl
theorem L2_W {Bx B : Nat} {a b : ByteArray} {w W : World} {l : List ByteArray} {k : Nat} (h : ∀ W', W' = W → L2 Bx B a b w W' l k) : L2 Bx B a b w W l k := h W rfl
set_option maxHeartbeats 8000000 in
set_option maxRecDepth 100000 in
theorem twins (A0 : Option Addr) (c0 : Nat) (l : List ByteArray) (a b : ByteArray) (w : World) (hr0 : Kd.C Kd.string w A0 l.length l) (hc0 : l.length ≤ c0) :
    Calls Try.prog 3 #[.slice A0 l.length c0, .string a, .string b] w fun e w' => e = .returned (.bool true) ∧ Below w.heap.size w w' := by
  have HR := Lib.hid hr0
  clear hr0
  have hu24 := Try.underlying24
  by_cases hl : l.length > 200
  · have q1 : decide ((l.length : Int) > 200) = true := decide_eq_true (by omega)
    have q2 : decide (200 < (l.length : Int)) = true := decide_eq_true (by omega)
    have q3 : decide (200 < l.length) = true := decide_eq_true (by omega)
    go_enter Try.func3, Try.ntmps3
    go_wp2_with fail
    refine (new_ok 256 _ (by decide) (by decide)).mono ?_
    rintro e' w1 ⟨rfl, hb1⟩
    go_wp2_with fail
    refine (awake_ok _).mono ?_
    rintro e' w2 ⟨rfl, hb2⟩
    have hB2 := below_call (below_alloc hb1 _) hb2
    go_wp2_with fail
    go_ret
    exact ⟨rfl, hB2⟩
  · have q3 : decide (200 < l.length) = false := decide_eq_false (by omega)
    have hl2 : l.length ≤ 200 := by omega
    clear hl
    go_enter Try.func3, Try.ntmps3
    go_wp2_with fail
    refine (new_ok 256 _ (by decide) (by decide)).mono ?_
    rintro e' w1 ⟨rfl, hb1⟩
    have hs1 := hb1.size
    go_wp2_with fail
    go_loopw [47] (fun i wr => ∃ k : Nat, k ≤ l.length ∧ i = .int .i64 k ∧ L1 w1.heap.size w wr l k) (fun i _ => l.length - (intOf i).toNat)
    case atStart =>
      exact ⟨0, Nat.zero_le _, rfl, _, blk_new _ _, by rw [List.take_zero]; exact WireV.nil _, below_alloc hb1 _⟩
    case round =>
      obtain ⟨k, hk, rfl, v, hx, hV, hB⟩ := hrel
      by_cases hlt : k < l.length
      · have hC' := Kd.C_below HR.out hB
        obtain ⟨ad, hA, hcell⟩ := Kd.at_string hC' (k : Int) (by omega) (by omega)
        rw [Int.toNat_natCast] at hcell
        have hrd : rdOf ByteArray.empty l (k : Int) = l[k] := by simp [rdOf, List.getD_eq_getElem?_getD, hlt]
        rw [hrd] at hcell
        subst hA
        clear hC' hrd
        have hlk : (l.take k).length = k := by rw [List.length_take]; omega
        obtain ⟨A, c, rfl⟩ := wire_len hV k hlk
        have HV := Lib.hid hV
        clear hV
        have z0 : wr.cell? ⟨w1.heap.size, 0, none⟩ = some (.int .i64 256) := (blk_cell hx 0).trans rfl
        have z1 : wr.cell? ⟨w1.heap.size, 1, none⟩ = some (.bool false) := (blk_cell hx 1).trans rfl
        have z2 : wr.cell? ⟨w1.heap.size, 2, none⟩ = some (.slice A k c) := (blk_cell hx 2).trans rfl
        have f0 := blk_frozen hx 0
        have f1 := blk_frozen hx 1
        have f2 := blk_frozen hx 2
        go_wp2_with fail
        refine (push_ok 256 _ _ _ _ HV.out (by omega) (by decide)).mono ?_
        rintro e' w2 ⟨v2, rfl, hV2, hb2⟩
        have hx2 := blk_below hx hb2
        have hB2 := below_call hB hb2
        obtain ⟨A2, c2, rfl⟩ := wire_len hV2 (k + 1) (by simp; omega)
        have HV2 := Lib.hid hV2
        clear hV2 z0 z1 z2 f0 f1 f2
        have z0 : w2.cell? ⟨w1.heap.size, 0, none⟩ = some (.int .i64 256) := (blk_cell hx2 0).trans rfl
        have z1 : w2.cell? ⟨w1.heap.size, 1, none⟩ = some (.bool false) := (blk_cell hx2 1).trans rfl
        have z2 : w2.cell? ⟨w1.heap.size, 2, none⟩ = some (.slice A k c) := (blk_cell hx2 2).trans rfl
        have f0 := blk_frozen hx2 0
        have f1 := blk_frozen hx2 1
        have f2 := blk_frozen hx2 2
        by_cases hsz : l[k].size > 2000
        · have s1 : decide ((l[k].size : Int) > 2000) = true := decide_eq_true (by omega)
          have s2 : decide (2000 < l[k].size) = true := decide_eq_true (by omega)
          go_wp2_with fail
          refine calls_W (fun W3 hW3 => ?_)
          obtain ⟨_, hB3, _, _⟩ := box_store hx2 hs1 hB2 _ _ _ W3 hW3
          clear hW3
          refine (awake_ok _).mono ?_
          rintro e' w4 ⟨rfl, hb4⟩
          have hB4 := below_call hB3 hb4
          go_wp2_with fail
          go_ret
          exact ⟨rfl, hB4⟩
        · have s1 : decide ((l[k].size : Int) > 2000) = false := decide_eq_false (by omega)
          have s2 : decide (2000 < l[k].size) = false := decide_eq_false (by omega)
          clear hsz
          go_wp2_with fail
          go_roundw
          case rel =>
            refine ⟨k + 1, by omega, by go_num, ?_⟩
            refine L1_W (fun W3 hW3 => ?_)
            obtain ⟨hx3, hB3, hT3, _⟩ := box_store hx2 hs1 hB2 _ _ _ W3 hW3
            clear hW3
            refine ⟨_, hx3, ?_, hB3⟩
            rw [List.take_succ_eq_append_getElem hlt]
            exact hT3 _ _ HV2.out
          case measure => simp [intOf]; omega
      · have hkl : k = l.length := by omega
        subst hkl
        rw [List.take_length] at hV
        obtain ⟨A, c, rfl⟩ := wire_slice hV
        have HV := Lib.hid hV
        clear hV
        have z0 : wr.cell? ⟨w1.heap.size, 0, none⟩ = some (.int .i64 256) := (blk_cell hx 0).trans rfl
        have z1 : wr.cell? ⟨w1.heap.size, 1, none⟩ = some (.bool false) := (blk_cell hx 1).trans rfl
        have z2 : wr.cell? ⟨w1.heap.size, 2, none⟩ = some (.slice A l.length c) := (blk_cell hx 2).trans rfl
        go_wp2_with fail
        refine (push_ok 256 _ _ _ _ HV.out (by omega) (by decide)).mono ?_
        rintro e' w2 ⟨v2, rfl, hV2, hb2⟩
        have hx2 := blk_below hx hb2
        have hB2 := below_call hB hb2
        have HVw := Lib.hid (HV.out.below hb2)
        obtain ⟨A2, c2, rfl⟩ := wire_len hV2 (l.length + 1) (by simp)
        have HV2 := Lib.hid hV2
        clear hV2 HV z0 z1 z2
        have hlt2 := blk_lt hx2
        have z0 : w2.cell? ⟨w1.heap.size, 0, none⟩ = some (.int .i64 256) := (blk_cell hx2 0).trans rfl
        have z1 : w2.cell? ⟨w1.heap.size, 1, none⟩ = some (.bool false) := (blk_cell hx2 1).trans rfl
        have z2 : w2.cell? ⟨w1.heap.size, 2, none⟩ = some (.slice A l.length c) := (blk_cell hx2 2).trans rfl
        go_wp2_with fail
        refine calls_W (fun W3 hW3 => ?_)
        have hn3 := blk_new w2 (.cells #[.int .i64 256, .bool false, .slice A2 (l.length + 1) c2] 24)
        rw [← hW3] at hn3
        have hb3 : Below w2.heap.size w2 W3 := by rw [hW3]; exact below_alloc (Below.refl _ _) _
        clear hW3
        have hx3 := blk_below hx2 hb3
        have hB3 := below_call hB2 hb3
        have HVx3 := Lib.hid (HV2.out.below hb3)
        have HVw3 := Lib.hid (HVw.out.below hb3)
        clear HV2 HVw z0 z1 z2
        refine (push_ok 256 _ _ _ _ HVw3.out (by omega) (by decide)).mono ?_
        rintro e' w4 ⟨v4, rfl, hV4, hb4⟩
        obtain ⟨A4, c4, rfl⟩ := wire_len hV4 (l.length + 1) (by simp)
        have HV4 := Lib.hid hV4
        clear hV4
        have hx4 := blk_below hx3 hb4
        have hn4 := blk_below hn3 hb4
        have hB4 := below_call hB3 hb4
        have HVx4 := Lib.hid (HVx3.out.below hb4)
        have HVw4 := Lib.hid (HVw3.out.below hb4)
        have hn3' := hn3
        clear HVx3 HVw3 hx3 hn3
        have hlt4 := blk_lt hx4
        have z0 : w4.cell? ⟨w1.heap.size, 0, none⟩ = some (.int .i64 256) := (blk_cell hx4 0).trans rfl
        have z1 : w4.cell? ⟨w1.heap.size, 1, none⟩ = some (.bool false) := (blk_cell hx4 1).trans rfl
        have z2 : w4.cell? ⟨w1.heap.size, 2, none⟩ = some (.slice A l.length c) := (blk_cell hx4 2).trans rfl
        go_wp2_with fail
        refine calls_W (fun W5 hW5 => ?_)
        have hn5 := blk_new w4 (.cells #[.int .i64 256, .bool false, .slice A4 (l.length + 1) c4] 24)
        rw [← hW5] at hn5
        have hb5 : Below w4.heap.size w4 W5 := by rw [hW5]; exact below_alloc (Below.refl _ _) _
        clear hW5
        have hx5 := blk_below hx4 hb5
        have hy5 := blk_below hn4 hb5
        have hB5 := below_call hB4 hb5
        have HVx5 := Lib.hid (HVx4.out.below hb5)
        have HVy5 := Lib.hid (HV4.out.below hb5)
        have HVw5 := Lib.hid (HVw4.out.below hb5)
        clear HVx4 HV4 HVw4 hx4 hn4 z0 z1 z2
        refine (len_ok 256 false _ _ _ HVw5.out).mono ?_
        rintro e' w6 ⟨rfl, hb6⟩
        have hy6 := blk_below hy5 hb6
        have hn6 := blk_below hn5 hb6
        have hB6 := below_call hB5 hb6
        have HVx6 := Lib.hid (HVx5.out.below hb6)
        have HVy6 := Lib.hid (HVy5.out.below hb6)
        clear HVx5 HVy5 HVw5 hy5 hn5 hx5
        go_wp2_with fail
        have hs6 := hB6.size
        have hxlt : w.heap.size ≤ w2.heap.size := hB2.size
        have hylt : w.heap.size ≤ w4.heap.size := hB4.size
        have hxy : w2.heap.size ≠ w4.heap.size := by have := blk_lt hy6; have h1 := hb3.size; have h2 := hb4.size; have h3 := blk_lt hn3'; omega
        have HVX := Lib.hid HVx6.out
        go_loopw [89] (fun i wr => ∃ k : Nat, k ≤ l.length ∧ i = .int .i64 k ∧ L2 w2.heap.size w4.heap.size a b w wr l k) (fun i _ => l.length - (intOf i).toNat)
        case atStart =>
          exact ⟨0, Nat.zero_le _, rfl, _, _, hy6, hn6, by rw [List.drop_zero]; exact HVx6.out, by rw [List.drop_zero]; exact HVy6.out, hB6⟩
        case round =>
          clear hB6 HVx6 HVy6 hy6 hn6 HVX
          obtain ⟨k, hk, rfl, v, u, hx, hy, hV, hU, hB⟩ := hrel
          by_cases hlt : k < l.length
          · have hC' := Kd.C_below HR.out hB
            obtain ⟨ad, hA, hcell⟩ := Kd.at_string hC' (k : Int) (by omega) (by omega)
            rw [Int.toNat_natCast] at hcell
            have hrd : rdOf ByteArray.empty l (k : Int) = l[k] := by simp [rdOf, List.getD_eq_getElem?_getD, hlt]
            rw [hrd] at hcell
            subst hA
            clear hC' hrd
            rw [List.drop_eq_getElem_cons hlt, List.cons_append] at hV hU
            obtain ⟨A7, c7, rfl⟩ := wire_len hV (l.length - k + 1) (by simp; omega)
            obtain ⟨A8, c8, rfl⟩ := wire_len hU (l.length - k + 1) (by simp; omega)
            have HV := Lib.hid hV
            have HU := Lib.hid hU
            clear hV hU
            have z0 : wr.cell? ⟨w2.heap.size, 0, none⟩ = some (.int .i64 256) := (blk_cell hx 0).trans rfl
            have z1 : wr.cell? ⟨w2.heap.size, 1, none⟩ = some (.bool false) := (blk_cell hx 1).trans rfl
            have z2 : wr.cell? ⟨w2.heap.size, 2, none⟩ = some (.slice A7 (l.length - k + 1) c7) := (blk_cell hx 2).trans rfl
            go_wp2_with fail
            refine (pop_ok 256 false _ l[k] (l.drop (k + 1) ++ [a]) _ HV.out (by simp; omega)).mono ?_
            rintro e' w8 ⟨v8, rfl, hV8, hb8⟩
            obtain ⟨A9, c9, rfl⟩ := wire_len hV8 (l.length - k) (by simp; omega)
            have hx8 := blk_below hx hb8
            have hy8 := blk_below hy hb8
            have hB8 := below_call hB hb8
            have HV8 := Lib.hid hV8
            have HU8 := Lib.hid (HU.out.below hb8)
            have hlt8 := blk_lt hy8
            clear hV8 HV HU z0 z1 z2
            have z0 : w8.cell? ⟨w4.heap.size, 0, none⟩ = some (.int .i64 256) := (blk_cell hy8 0).trans rfl
            have z1 : w8.cell? ⟨w4.heap.size, 1, none⟩ = some (.bool false) := (blk_cell hy8 1).trans rfl
            have z2 : w8.cell? ⟨w4.heap.size, 2, none⟩ = some (.slice A8 (l.length - k + 1) c8) := (blk_cell hy8 2).trans rfl
            go_wp2_with fail
            refine calls_W (fun W9 hW9 => ?_)
            have hu9 := blk_new w8 (.cells #[.int .i64 256, .bool false, .slice A9 (l.length - k) c9] 24)
            rw [← hW9] at hu9
            have hb9 : Below w8.heap.size w8 W9 := by rw [hW9]; exact below_alloc (Below.refl _ _) _
            clear hW9
            have hx9 := blk_below hx8 hb9
            have hy9 := blk_below hy8 hb9
            have hB9 := below_call hB8 hb9
            have HV9 := Lib.hid (HV8.out.below hb9)
            have HU9 := Lib.hid (HU8.out.below hb9)
            clear z0 z1 z2 HV8 HU8 hx8 hy8
            refine (pop_ok 256 false _ l[k] (l.drop (k + 1) ++ [b]) _ HU9.out (by simp; omega)).mono ?_
            rintro e' w10 ⟨v10, rfl, hU10, hb10⟩
            obtain ⟨A11, c11, rfl⟩ := wire_len hU10 (l.length - k) (by simp; omega)
            have hx10 := blk_below hx9 hb10
            have hy10 := blk_below hy9 hb10
            have hu10 := blk_below hu9 hb10
            have hB10 := below_call hB9 hb10
            have HU10 := Lib.hid hU10
            have HV10 := Lib.hid (HV9.out.below hb10)
            have hlt10 := blk_lt hu10
            have hltx := blk_lt hx10
            have hlty := blk_lt hy10
            clear hU10 HV9 HU9 hx9 hy9 hu9
            have hxu : w2.heap.size ≠ w8.heap.size := by have := blk_lt (blk_below hx hb8); omega
            go_wp2_with fail
            refine wi_W (fun W12 hW12 => ?_)
            have hq12 := blk_new w10 (.cells #[.int .i64 256, .bool false, .slice A11 (l.length - k) c11] 24)
            rw [← hW12] at hq12
            have hb12 : Below w10.heap.size w10 W12 := by rw [hW12]; exact below_alloc (Below.refl _ _) _
            clear hW12
            have hx12 := blk_below hx10 hb12
            have hy12 := blk_below hy10 hb12
            have hu12 := blk_below hu10 hb12
            have hB12 := below_call hB10 hb12
            have HV12 := Lib.hid (HV10.out.below hb12)
            have HU12 := Lib.hid (HU10.out.below hb12)
            clear hx10 hy10 hu10 HV10 HU10
            have x0 : W12.cell? ⟨w2.heap.size, 0, none⟩ = some (.int .i64 256) := (blk_cell hx12 0).trans rfl
            have x1 : W12.cell? ⟨w2.heap.size, 1, none⟩ = some (.bool false) := (blk_cell hx12 1).trans rfl
            have x2 : W12.cell? ⟨w2.heap.size, 2, none⟩ = some (.slice A7 (l.length - k + 1) c7) := (blk_cell hx12 2).trans rfl
            have fx0 := blk_frozen hx12 0
            have fx1 := blk_frozen hx12 1
            have fx2 := blk_frozen hx12 2
            have y0 : W12.cell? ⟨w4.heap.size, 0, none⟩ = some (.int .i64 256) := (blk_cell hy12 0).trans rfl
            have y1 : W12.cell? ⟨w4.heap.size, 1, none⟩ = some (.bool false) := (blk_cell hy12 1).trans rfl
            have y2 : W12.cell? ⟨w4.heap.size, 2, none⟩ = some (.slice A8 (l.length - k + 1) c8) := (blk_cell hy12 2).trans rfl
            have fy0 := blk_frozen hy12 0
            have fy1 := blk_frozen hy12 1
            have fy2 := blk_frozen hy12 2
            have u0 : W12.cell? ⟨w8.heap.size, 0, none⟩ = some (.int .i64 256) := (blk_cell hu12 0).trans rfl
            have u1 : W12.cell? ⟨w8.heap.size, 1, none⟩ = some (.bool false) := (blk_cell hu12 1).trans rfl
            have u2 : W12.cell? ⟨w8.heap.size, 2, none⟩ = some (.slice A9 (l.length - k) c9) := (blk_cell hu12 2).trans rfl
            have q0 : W12.cell? ⟨w10.heap.size, 0, none⟩ = some (.int .i64 256) := (blk_cell hq12 0).trans rfl
            have q1 : W12.cell? ⟨w10.heap.size, 1, none⟩ = some (.bool false) := (blk_cell hq12 1).trans rfl
            have q2 : W12.cell? ⟨w10.heap.size, 2, none⟩ = some (.slice A11 (l.length - k) c11) := (blk_cell hq12 2).trans rfl
            have hyu : w4.heap.size ≠ w8.heap.size := by omega
            have hxq : w2.heap.size ≠ w10.heap.size := by omega
            have hyq : w4.heap.size ≠ w10.heap.size := by omega
            go_region
            all_goals go_wp2
            go_roundw
            case rel =>
              refine ⟨k + 1, by omega, by go_num, ?_⟩
              refine L2_drew (L2_W (fun W13 hW13 => ?_))
              obtain ⟨V1, hV1⟩ : ∃ V, V = ((W12.setCell ⟨w2.heap.size, 0, none⟩ (.int .i64 256)).setCell ⟨w2.heap.size, 1, none⟩ (.bool false)).setCell ⟨w2.heap.size, 2, none⟩ (.slice A9 (l.length - k) c9) := ⟨_, rfl⟩
              rw [← hV1] at hW13
              obtain ⟨hx13, hB13, hT13, hK13⟩ := box_store hx12 hxlt hB12 _ _ _ V1 hV1
              obtain ⟨hy14, hB14, hT14, hK14⟩ := box_store (hK13 _ _ _ (Ne.symm hxy) hy12) hylt hB13 _ _ _ W13 hW13
              exact ⟨_, _, hK14 _ _ _ hxy hx13, hy14, hT14 _ _ (hT13 _ _ HV12.out), hT14 _ _ (hT13 _ _ HU12.out), hB14⟩
            case measure => simp [intOf]; omega
          · have hkl : k = l.length := by omega
            subst hkl
            rw [List.drop_length, List.nil_append] at hV hU
            obtain ⟨A7, c7, rfl⟩ := wire_len hV 1 rfl
            obtain ⟨A8, c8, rfl⟩ := wire_len hU 1 rfl
            have HV := Lib.hid hV
            have HU := Lib.hid hU
            clear hV hU
            have z0 : wr.cell? ⟨w2.heap.size, 0, none⟩ = some (.int .i64 256) := (blk_cell hx 0).trans rfl
            have z1 : wr.cell? ⟨w2.heap.size, 1, none⟩ = some (.bool false) := (blk_cell hx 1).trans rfl
            have z2 : wr.cell? ⟨w2.heap.size, 2, none⟩ = some (.slice A7 1 c7) := (blk_cell hx 2).trans rfl
            go_wp2_with fail
            refine (pop_ok 256 false _ a [] _ HV.out (by decide)).mono ?_
            rintro e' w8 ⟨v8, rfl, hV8, hb8⟩
            obtain ⟨A9, c9, rfl⟩ := wire_len hV8 0 rfl
            have hy8 := blk_below hy hb8
            have hB8 := below_call hB hb8
            have HU8 := Lib.hid (HU.out.below hb8)
            have hlt8 := blk_lt hy8
            clear hV8 HV HU z0 z1 z2
            have z0 : w8.cell? ⟨w4.heap.size, 0, none⟩ = some (.int .i64 256) := (blk_cell hy8 0).trans rfl
            have z1 : w8.cell? ⟨w4.heap.size, 1, none⟩ = some (.bool false) := (blk_cell hy8 1).trans rfl
            have z2 : w8.cell? ⟨w4.heap.size, 2, none⟩ = some (.slice A8 1 c8) := (blk_cell hy8 2).trans rfl
            go_wp2_with fail
            refine calls_W (fun W9 hW9 => ?_)
            have hb9 : Below w8.heap.size w8 W9 := by rw [hW9]; exact below_alloc (Below.refl _ _) _
            clear hW9
            have hB9 := below_call hB8 hb9
            have HU9 := Lib.hid (HU8.out.below hb9)
            clear z0 z1 z2 HU8
            refine (pop_ok 256 false _ b [] _ HU9.out (by decide)).mono ?_
            rintro e' w10 ⟨v10, rfl, hU10, hb10⟩
            obtain ⟨A11, c11, rfl⟩ := wire_len hU10 0 rfl
            have hB10 := below_call hB9 hb10
            clear hU10 HU9
            go_wp2_with fail
            refine calls_W (fun W11 hW11 => ?_)
            have hb11 : Below w10.heap.size w10 W11 := by rw [hW11]; exact below_alloc (Below.refl _ _) _
            clear hW11
            have hB11 := below_call hB10 hb11
            refine (awake_ok _).mono ?_
            rintro e' w12 ⟨rfl, hb12⟩
            have hB12 := below_call hB11 hb12
            go_wp2_with fail
            go_ret
            exact ⟨rfl, hB12⟩
end Go.Proofs.Ytehicbehljfkhaa.Wi
