-- Written by a program of this work, after the translation.
import Derived.Test.YtmlenepeocginaaPRelayNeverx0
namespace Go.Proofs.Ytmlenepeocginaa.PRelayNever
open Go.RowKit Go.Proofs.YtmlenepeocginaaW.PrintWords Go.Proofs.YtmlenepeocginaaW.PrintLast Go.Proofs.YtmlenepeocginaaW.PrintMore
attribute [local go_sem] max2_int min2_int max_two min_two max_three min_three max_four min_four   -- for this text's walks alone
set_option linter.unusedVariables false
set_option linter.unusedSimpArgs false

-- NOT PRINTED: function 6 (fdb_New)

-- NOT PRINTED: function 33 (fdb_Table_old)

-- NOT PRINTED: function 10 (fdb_Table_Look)

-- NOT PRINTED: function 56 (fdb_Row_56)

-- NOT PRINTED: function 46 (fdb_Row_46)

-- NOT PRINTED: function 64 (fdb_Row_64)

-- NOT PRINTED: function 76 (fdb_Row_76)

-- NOT PRINTED: function 65 (fdb_Row_65)

/-! ### mac_Addr_May: function 27 -/
def mac_Addr_May.f (a0 : Int) : Option (Bool) := some (decide (a0 ≤ 281474976710655))
set_option maxHeartbeats 8000000 in
set_option maxRecDepth 100000 in
theorem mac_Addr_May.calls (a0 : Int) (r : Bool) (w : World) (h : mac_Addr_May.f a0 = some r) :
    Calls Try.prog 27 #[.int .u64 a0] w fun e w' => e = .returned (.bool r) ∧ Drawn0 w w' := by
  have H : (some (decide (a0 ≤ 281474976710655))) = some r := h
  clear h
  obtain rfl := Option.some.inj H
  go_enter Try.func27, Try.ntmps27
  go_wp2
  go_ret
  exact ⟨by first | rfl | (simp; done) | (simp [*]; done), by repeat (first | exact Drawn0.refl _ | apply Drawn0.step)⟩

/-! ### mac_Addr_Group: function 19 -/
def mac_Addr_Group.f (a0 : Int) : Option (Bool) := (mac_Addr_May.f a0).bind fun t103 => (if t103 = true then (some ((Go.bits .and .u64 (a0 / 1099511627776) 1) == 1)) else (some false))
set_option maxHeartbeats 8000000 in
set_option maxRecDepth 100000 in
theorem mac_Addr_Group.calls (a0 : Int) (r : Bool) (w : World) (h : mac_Addr_Group.f a0 = some r) :
    Calls Try.prog 19 #[.int .u64 a0] w fun e w' => e = .returned (.bool r) ∧ Drawn0 w w' := by
  have H : ((mac_Addr_May.f a0).bind fun t103 => (if t103 = true then (some ((Go.bits .and .u64 (a0 / 1099511627776) 1) == 1)) else (some false))) = some r := h
  clear h
  replace H := Option.bind_eq_some_iff.mp H
  obtain ⟨t103, A20, H⟩ := H
  replace H : (if t103 = true then (some ((Go.bits .and .u64 (a0 / 1099511627776) 1) == 1)) else (some false)) = some r := H
  have A2 := Aside0.mk A20
  clear A20
  by_cases c3 : t103 = true
  · subst c3
    have H1 : (some ((Go.bits .and .u64 (a0 / 1099511627776) 1) == 1)) = some r := by rw [if_pos rfl] at H; exact H
    clear H
    have H := H1
    clear H1
    obtain rfl := Option.some.inj H
    go_enter Try.func19, Try.ntmps19
    go_wp2_with (first | ((with_reducible refine gate_callee (f := 27) rfl ?_); refine goesL_ (some 4) rfl rfl Try.func27 (by kernel_rfl) rfl #[.int .u64 a0] rfl (by (try simp only [List.map_toArray, List.map_cons, List.map_nil]); first | done | rfl | (simp only [List.length_drop, List.length_take]; rfl)) ?_; (with_reducible refine (mac_Addr_May.calls a0 true _ A2.out).mono ?_); rintro e w' ⟨rfl, ⟨nd, rfl⟩⟩; refine ⟨_, rfl, ?_⟩))
    go_ret
    exact ⟨by first | rfl | (simp; done) | (simp [*]; done), by repeat (first | exact Drawn0.refl _ | apply Drawn0.step)⟩
  · replace c3 := Bool.eq_false_iff.mpr c3
    subst c3
    have H1 : (some false) = some r := by rw [if_neg (show ¬ (false = true) by decide)] at H; exact H
    clear H
    have H := H1
    clear H1
    obtain rfl := Option.some.inj H
    go_enter Try.func19, Try.ntmps19
    go_wp2_with (first | ((with_reducible refine gate_callee (f := 27) rfl ?_); refine goesL_ (some 4) rfl rfl Try.func27 (by kernel_rfl) rfl #[.int .u64 a0] rfl (by (try simp only [List.map_toArray, List.map_cons, List.map_nil]); first | done | rfl | (simp only [List.length_drop, List.length_take]; rfl)) ?_; (with_reducible refine (mac_Addr_May.calls a0 false _ A2.out).mono ?_); rintro e w' ⟨rfl, ⟨nd, rfl⟩⟩; refine ⟨_, rfl, ?_⟩))
    go_ret
    exact ⟨by first | rfl | (simp; done) | (simp [*]; done), by repeat (first | exact Drawn0.refl _ | apply Drawn0.step)⟩

-- NOT PRINTED: function 51 (maps_clone)

-- NOT PRINTED: function 28 (fdb_Row_28)

-- NOT PRINTED: function 8 (fdb_Table_Learn)

-- NOT PRINTED: function 75 (bytealg_IndexByteString)

-- NOT PRINTED: function 61 (stringslite_IndexByte)

/-! ### strings_IndexByte: function 54 (given: its walk is in another text) -/

def strings_IndexByte.f (a0 : ByteArray) (a1 : Int) : Option (Int) := some (Lib.indexByte a0.data.toList a1.toNat.toUInt8)
theorem strings_IndexByte.calls (a0 : ByteArray) (a1 : Int) (r : Int) (w : World) (h : strings_IndexByte.f a0 a1 = some r) :
    Calls Try.prog 54 #[.string a0, .int .u8 a1] w fun e w' => e = .returned (.int .i64 r) ∧ Drawn0 w w' := by
  obtain rfl := Option.some.inj h
  exact (Gv.strings_IndexByte a0 a1 w).mono fun e w' ⟨he, hw⟩ => ⟨he, by rw [hw]; exact Drawn0.refl w⟩


/-! ### mac_Parse: function 43 -/
mutual
def mac_Parse.l0 : Nat → ByteArray → Int → Int → Int → Option (Int × Int)
  | 0, _, _, _, _ => none
  | k + 1, x0, x4, x11, x12 => if x12 < x11 then (if 0 ≤ x12 then (if x12 < (x0.size : Int) then ((strings_IndexByte.f (⟨#[48, 49, 50, 51, 52, 53, 54, 55, 56, 57, 97, 98, 99, 100, 101, 102]⟩ : ByteArray) (bt x0 x12)).bind fun t104 => (if (Int.tmod x12 3) = 2 then (mac_Parse.j1 k x0 x4 x12 t104 x11 x12 ((bt x0 x12) == 58)) else (mac_Parse.j1 k x0 x4 x12 t104 x11 x12 false))) else (none)) else (none)) else (some (x4, 0))
def mac_Parse.j1 : Nat → ByteArray → Int → Int → Int → Int → Int → Bool → Option (Int × Int)
  | 0, _, _, _, _, _, _, _ => none
  | k + 1, x0, x4, x5, x6, x11, x12, x19 => if x19 = true then (mac_Parse.l0 k x0 x4 x11 (wrap64 (x12 + 1))) else (if (Int.tmod x5 3) < 2 then (if x6 ≥ 0 then (mac_Parse.l0 k x0 (Go.bits .or .u64 (IntKind.u64.wrap (x4 * 16)) (IntKind.u64.wrap (x6))) x11 (wrap64 (x12 + 1))) else (some (0, 3))) else (some (0, 3)))
end
def mac_Parse.f (k : Nat) (a0 : ByteArray) : Option (Int × Int) := if (a0.size : Int) = 17 then (mac_Parse.l0 k a0 0 (a0.size : Int) 0) else (some (0, 3))
theorem mac_Parse.mono_l : ∀ k, (∀ y0 y1 y2 y3, LeO (mac_Parse.l0 k y0 y1 y2 y3) (mac_Parse.l0 (k + 1) y0 y1 y2 y3)) ∧ (∀ y0 y1 y2 y3 y4 y5 y6, LeO (mac_Parse.j1 k y0 y1 y2 y3 y4 y5 y6) (mac_Parse.j1 (k + 1) y0 y1 y2 y3 y4 y5 y6))
  | 0 => ⟨fun _ _ _ _ r h => by simp [mac_Parse.l0] at h, fun _ _ _ _ _ _ _ r h => by simp [mac_Parse.j1] at h⟩
  | k + 1 => by
    obtain ⟨ih0, ih1⟩ := mac_Parse.mono_l k
    refine ⟨?_, ?_⟩
    · intro y0 y1 y2 y3
      unfold mac_Parse.l0
      repeat' first
      | (with_reducible exact ih0 _ _ _ _)
      | (with_reducible exact ih1 _ _ _ _ _ _ _)
      | (with_reducible exact LeO.refl _)
      | (with_reducible exact LeO.none _)
      | (with_reducible refine LeO.ite ?_ ?_)
      | (with_reducible refine LeO.bind ?_ (fun _ => ?_))
      | exact ih0 _ _ _ _
      | exact ih1 _ _ _ _ _ _ _
      | exact LeO.none _
      | refine LeO.ite ?_ ?_
      | refine LeO.bind ?_ (fun _ => ?_)
    · intro y0 y1 y2 y3 y4 y5 y6
      unfold mac_Parse.j1
      repeat' first
      | (with_reducible exact ih0 _ _ _ _)
      | (with_reducible exact ih1 _ _ _ _ _ _ _)
      | (with_reducible exact LeO.refl _)
      | (with_reducible exact LeO.none _)
      | (with_reducible refine LeO.ite ?_ ?_)
      | (with_reducible refine LeO.bind ?_ (fun _ => ?_))
      | exact ih0 _ _ _ _
      | exact ih1 _ _ _ _ _ _ _
      | exact LeO.none _
      | refine LeO.ite ?_ ?_
      | refine LeO.bind ?_ (fun _ => ?_)
theorem mac_Parse.mono : ∀ a0 k, LeO (mac_Parse.f k a0) (mac_Parse.f (k + 1) a0) := by
  intro a0 k
  obtain ⟨ih0, ih1⟩ := mac_Parse.mono_l k
  unfold mac_Parse.f
  repeat' first
      | (with_reducible exact ih0 _ _ _ _)
      | (with_reducible exact ih1 _ _ _ _ _ _ _)
      | (with_reducible exact LeO.refl _)
      | (with_reducible exact LeO.none _)
      | (with_reducible refine LeO.ite ?_ ?_)
      | (with_reducible refine LeO.bind ?_ (fun _ => ?_))
      | exact ih0 _ _ _ _
      | exact ih1 _ _ _ _ _ _ _
      | exact LeO.none _
      | refine LeO.ite ?_ ?_
      | refine LeO.bind ?_ (fun _ => ?_)
set_option maxHeartbeats 8000000 in
set_option maxRecDepth 100000 in
theorem mac_Parse.calls (k : Nat) (a0 : ByteArray) (r1 : Int) (r2 : Int) (w : World) (h : mac_Parse.f k a0 = some (r1, r2)) :
    Calls Try.prog 43 #[.string a0] w fun e w' => e = .returned (.tuple #[.int .u64 r1, .int .i64 r2]) ∧ Drawn0 w w' := by
  have H : (if (a0.size : Int) = 17 then (mac_Parse.l0 k a0 0 (a0.size : Int) 0) else (some (0, 3))) = some (r1, r2) := h
  clear h
  by_cases c2 : (a0.size : Int) = 17
  · rw [if_pos c2] at H
    have c2b0 : ((a0.size : Int) == 17) = true := beq_iff_eq.mpr c2
    have c2b1 : ((a0.size : Int) != 17) = false := bne_eq_false_iff_eq.mpr c2
    clear c2
    have H' := Aside0.mk H
    clear H
    go_enter Try.func43, Try.ntmps43
    go_wp2
    go_loopg [4, 12] k (fun kq v4 v12 w' => ∃ (x4_1 : Int) (x12_1 : Int), v4 = .int .u64 x4_1 ∧ v12 = .int .i64 x12_1 ∧ Aside0 (mac_Parse.l0 kq a0 x4_1 (a0.size : Int) x12_1 = some (r1, r2)) ∧ Aside0 (kq ≤ k) ∧ Drawn0 w w')
    case atStart => exact ⟨(0), (0), (by first | rfl | (simp; done) | (simp [*]; done)), (by first | rfl | (simp; done) | (simp [*]; done)), H', ⟨Nat.le_refl _⟩, by repeat (first | exact Drawn0.refl _ | apply Drawn0.step)⟩
    case round =>
      clear H'
      try clear c2
      try clear c2b0
      try clear c2b1
      try clear p2
      obtain ⟨x4_1, x12_1, rfl, rfl, HA, HK1, ⟨m1, rfl⟩⟩ := hrel
      cases gk with
      | zero => exact absurd HA.out (by simp [mac_Parse.l0])
      | succ k1 =>
        have H := HA.out
        clear HA
        simp only [mac_Parse.l0] at H
        by_cases c3 : x12_1 < (a0.size : Int)
        · rw [if_pos c3] at H
          have c3b0 : decide (x12_1 < (a0.size : Int)) = true := decide_eq_true c3
          clear c3
          by_cases c4 : 0 ≤ x12_1
          · rw [if_pos c4] at H
            have c4b0 : decide (0 ≤ x12_1) = true := decide_eq_true c4
            clear c4
            by_cases c5 : x12_1 < (a0.size : Int)
            · rw [if_pos c5] at H
              have c5b0 : decide (x12_1 < (a0.size : Int)) = true := decide_eq_true c5
              clear c5
              replace H := Option.bind_eq_some_iff.mp H
              obtain ⟨t104, A70, H⟩ := H
              replace H : (if (Int.tmod x12_1 3) = 2 then (mac_Parse.j1 k1 a0 x4_1 x12_1 t104 (a0.size : Int) x12_1 ((bt a0 x12_1) == 58)) else (mac_Parse.j1 k1 a0 x4_1 x12_1 t104 (a0.size : Int) x12_1 false)) = some (r1, r2) := H
              have A7 := Aside0.mk A70
              clear A70
              have HC8 := Aside0.mk H
              clear H
              have p6 : 0 ≤ (x12_1 : Int) := of_decide_eq_true (by first | (with_reducible assumption) | assumption)
              have q6 : x12_1 < (a0.size : Int) := of_decide_eq_true (by first | (with_reducible assumption) | assumption)
              have hx6 := bt_at a0 x12_1
              replace p6 := eq_true p6
              replace q6 := eq_true q6
              go_upto_region 9 with (first | ((with_reducible refine gate_callee (f := 54) rfl ?_); refine goesL_ (some 18) rfl rfl Try.func54 (by kernel_rfl) rfl #[.string (⟨#[48, 49, 50, 51, 52, 53, 54, 55, 56, 57, 97, 98, 99, 100, 101, 102]⟩ : ByteArray), .int .u8 (bt a0 x12_1)] rfl (by (try simp only [List.map_toArray, List.map_cons, List.map_nil]); first | done | rfl | (simp only [List.length_drop, List.length_take]; rfl)) ?_; (with_reducible refine (strings_IndexByte.calls (⟨#[48, 49, 50, 51, 52, 53, 54, 55, 56, 57, 97, 98, 99, 100, 101, 102]⟩ : ByteArray) (bt a0 x12_1) t104 _ A7.out).mono ?_); rintro e w' ⟨rfl, ⟨nd, rfl⟩⟩; refine ⟨_, rfl, ?_⟩))
              (try simp only [Act.put, List.setIfInBounds_toArray, List.set_cons_zero, List.set_cons_succ])
              go_cut [19] (fun v19 wc => ∃ (kq : Nat) (x19_7 : Bool), v19 = .bool x19_7 ∧ Aside0 (mac_Parse.j1 kq a0 x4_1 x12_1 t104 (a0.size : Int) x12_1 x19_7 = some (r1, r2)) ∧ Aside0 (kq ≤ k1) ∧ Drawn0 w wc)
              case first =>
                have H := HC8.out
                clear HC8
                by_cases c9 : (Int.tmod x12_1 3) = 2
                · rw [if_pos c9] at H
                  have c9b0 : ((Int.tmod x12_1 3) == 2) = true := beq_iff_eq.mpr c9
                  have c9b1 : ((Int.tmod x12_1 3) != 2) = false := bne_eq_false_iff_eq.mpr c9
                  clear c9
                  (first | rw [c9b0] | (simp only [i64_w, i32_w]; rw [c9b0]) | skip)
                  have H' := Aside0.mk H
                  clear H
                  have p10 : 0 ≤ (x12_1 : Int) := of_decide_eq_true (by first | (with_reducible assumption) | assumption)
                  have q10 : x12_1 < (a0.size : Int) := of_decide_eq_true (by first | (with_reducible assumption) | assumption)
                  have hx10 := bt_at a0 x12_1
                  replace p10 := eq_true p10
                  replace q10 := eq_true q10
                  go_wp2
                  go_meet
                  case rel => exact ⟨_, (((bt a0 x12_1) == 58)), (by first | rfl | (simp; done) | (simp [*]; done)), H', ⟨by have := HK1.out; first | omega | exact Nat.le_refl _⟩, by repeat (first | exact Drawn0.refl _ | apply Drawn0.step)⟩
                · rw [if_neg c9] at H
                  have c9b0 : ((Int.tmod x12_1 3) == 2) = false := beq_eq_false_iff_ne.mpr c9
                  have c9b1 : ((Int.tmod x12_1 3) != 2) = true := bne_iff_ne.mpr c9
                  (first | rw [c9b0] | (simp only [i64_w, i32_w]; rw [c9b0]) | skip)
                  have H' := Aside0.mk H
                  clear H
                  go_wp2
                  go_meet
                  case rel => exact ⟨_, (false), (by first | rfl | (simp; done) | (simp [*]; done)), H', ⟨by have := HK1.out; first | omega | exact Nat.le_refl _⟩, by repeat (first | exact Drawn0.refl _ | apply Drawn0.step)⟩
              case rest =>
                clear HC8
                try clear p1
                try clear q1
                try clear hx1
                try clear c2
                try clear c2b0
                try clear c2b1
                try clear p2
                try clear c3
                try clear c3b0
                try clear c4
                try clear c4b0
                try clear c5
                try clear c5b0
                try clear p6
                try clear q6
                try clear hx6
                try clear c9
                try clear c9b0
                try clear c9b1
                try clear p10
                try clear q10
                try clear hx10
                try clear p10
                try clear p2
                try clear p6
                try clear q10
                try clear q6
                obtain ⟨kq, x19_7, rfl, HA, HJ7, ⟨mc7, rfl⟩⟩ := hcut
                cases kq with
                | zero => exact absurd HA.out (by simp [mac_Parse.j1])
                | succ kj7 =>
                  have H := HA.out
                  clear HA
                  simp only [mac_Parse.j1] at H
                  by_cases c11 : x19_7 = true
                  · subst c11
                    have H1 : (mac_Parse.l0 kj7 a0 x4_1 (a0.size : Int) (wrap64 (x12_1 + 1))) = some (r1, r2) := by rw [if_pos rfl] at H; exact H
                    clear H
                    have H := H1
                    clear H1
                    have H' := Aside0.mk H
                    clear H
                    go_wp2
                    go_roundg kj7
                    case measure => have := HK1.out; have := HJ7.out; omega
                    case rel => exact ⟨(x4_1), (wrap64 (x12_1 + 1)), (by first | rfl | (simp; done) | (simp [*]; done)), (by first | rfl | (simp; done) | (simp [*]; done)), H', ⟨by have := HK1.out; have := HJ7.out; omega⟩, by repeat (first | exact Drawn0.refl _ | apply Drawn0.step)⟩
                  · replace c11 := Bool.eq_false_iff.mpr c11
                    subst c11
                    have H1 : (if (Int.tmod x12_1 3) < 2 then (if t104 ≥ 0 then (mac_Parse.l0 kj7 a0 (Go.bits .or .u64 (IntKind.u64.wrap (x4_1 * 16)) (IntKind.u64.wrap (t104))) (a0.size : Int) (wrap64 (x12_1 + 1))) else (some (0, 3))) else (some (0, 3))) = some (r1, r2) := by rw [if_neg (show ¬ (false = true) by decide)] at H; exact H
                    clear H
                    have H := H1
                    clear H1
                    by_cases c12 : (Int.tmod x12_1 3) < 2
                    · rw [if_pos c12] at H
                      have c12b0 : decide ((Int.tmod x12_1 3) < 2) = true := decide_eq_true c12
                      clear c12
                      by_cases c13 : t104 ≥ 0
                      · rw [if_pos c13] at H
                        have c13b0 : decide (0 ≤ t104) = true := decide_eq_true c13
                        clear c13
                        have H' := Aside0.mk H
                        clear H
                        go_wp2
                        go_roundg kj7
                        case measure => have := HK1.out; have := HJ7.out; omega
                        case rel => exact ⟨(Go.bits .or .u64 (IntKind.u64.wrap (x4_1 * 16)) (IntKind.u64.wrap (t104))), (wrap64 (x12_1 + 1)), (by first | rfl | (simp; done) | (simp [*]; done)), (by first | rfl | (simp; done) | (simp [*]; done)), H', ⟨by have := HK1.out; have := HJ7.out; omega⟩, by repeat (first | exact Drawn0.refl _ | apply Drawn0.step)⟩
                      · rw [if_neg c13] at H
                        have c13b0 : decide (0 ≤ t104) = false := decide_eq_false c13
                        clear c13
                        simp only [Option.some.injEq, Prod.mk.injEq] at H
                        obtain ⟨rfl, rfl⟩ := H
                        go_wp2
                        go_ret2
                        exact ⟨by first | rfl | (simp; done) | (simp [*]; done), by repeat (first | exact Drawn0.refl _ | apply Drawn0.step)⟩
                    · rw [if_neg c12] at H
                      have c12b0 : decide ((Int.tmod x12_1 3) < 2) = false := decide_eq_false c12
                      clear c12
                      simp only [Option.some.injEq, Prod.mk.injEq] at H
                      obtain ⟨rfl, rfl⟩ := H
                      go_wp2
                      go_ret2
                      exact ⟨by first | rfl | (simp; done) | (simp [*]; done), by repeat (first | exact Drawn0.refl _ | apply Drawn0.step)⟩
            · rw [if_neg c5] at H
              exact absurd H (by simp)
          · rw [if_neg c4] at H
            exact absurd H (by simp)
        · rw [if_neg c3] at H
          have c3b0 : decide (x12_1 < (a0.size : Int)) = false := decide_eq_false c3
          clear c3
          simp only [Option.some.injEq, Prod.mk.injEq] at H
          obtain ⟨rfl, rfl⟩ := H
          go_wp2
          go_ret2
          exact ⟨by first | rfl | (simp; done) | (simp [*]; done), by repeat (first | exact Drawn0.refl _ | apply Drawn0.step)⟩
  · rw [if_neg c2] at H
    have c2b0 : ((a0.size : Int) == 17) = false := beq_eq_false_iff_ne.mpr c2
    have c2b1 : ((a0.size : Int) != 17) = true := bne_iff_ne.mpr c2
    simp only [Option.some.injEq, Prod.mk.injEq] at H
    obtain ⟨rfl, rfl⟩ := H
    go_enter Try.func43, Try.ntmps43
    go_wp2
    go_ret2
    exact ⟨by first | rfl | (simp; done) | (simp [*]; done), by repeat (first | exact Drawn0.refl _ | apply Drawn0.step)⟩

/-! ### field_may: function 62 -/
def field_may.f (a0 : Int) : Option (Bool) := if a0 ≥ 1 then (some (decide (a0 ≤ 64))) else (some false)
set_option maxHeartbeats 8000000 in
set_option maxRecDepth 100000 in
theorem field_may.calls (a0 : Int) (r : Bool) (w : World) (h : field_may.f a0 = some r) :
    Calls Try.prog 62 #[.int .i64 a0] w fun e w' => e = .returned (.bool r) ∧ Drawn0 w w' := by
  have H : (if a0 ≥ 1 then (some (decide (a0 ≤ 64))) else (some false)) = some r := h
  clear h
  by_cases c2 : a0 ≥ 1
  · rw [if_pos c2] at H
    have c2b0 : decide (1 ≤ a0) = true := decide_eq_true c2
    clear c2
    obtain rfl := Option.some.inj H
    go_enter Try.func62, Try.ntmps62
    go_wp2
    go_ret
    exact ⟨by first | rfl | (simp; done) | (simp [*]; done), by repeat (first | exact Drawn0.refl _ | apply Drawn0.step)⟩
  · rw [if_neg c2] at H
    have c2b0 : decide (1 ≤ a0) = false := decide_eq_false c2
    clear c2
    obtain rfl := Option.some.inj H
    go_enter Try.func62, Try.ntmps62
    go_wp2
    go_ret
    exact ⟨by first | rfl | (simp; done) | (simp [*]; done), by repeat (first | exact Drawn0.refl _ | apply Drawn0.step)⟩

-- NOT PRINTED: function 63 (field_writer_bit)

/-! ### field_Pack: function 55 (given: its walk is in another text) -/

def field_Pack.f (l0 : List S103) : Option (ByteArray × Int) := Gv.pack (l0.map fun x => (x.f0, x.f1))
theorem field_Pack.calls (A0 : Option Addr) (c0 : Nat) (l0 : List S103) (r1 : ByteArray) (r2 : Int) (w : World) (hr0 : Kd.C k103 w A0 l0.length l0) (hc0 : l0.length ≤ c0) (h : field_Pack.f l0 = some (r1, r2)) :
    Calls Try.prog 55 #[.slice A0 l0.length c0] w fun e w' => e = .returned (.tuple #[.string r1, .int .i64 r2]) ∧ Below w.heap.size w w' := by
  have hp := Gv.pack_calls A0 c0 (l0.map fun x : S103 => (x.f0, x.f1)) w (fun i hi => by
    rw [List.length_map] at hi
    obtain ⟨ad, e, h1, h2⟩ := at_T103 hr0 (i : Int) (by omega) (by omega)
    refine ⟨ad, e, ?_, ?_⟩
    · rw [Int.toNat_natCast] at h1
      rw [h1]; simp [rd_T103, List.getD_eq_getElem?_getD, List.getElem?_eq_getElem hi]
    · rw [Int.toNat_natCast] at h2
      rw [h2]; simp [rd_T103, List.getD_eq_getElem?_getD, List.getElem?_eq_getElem hi]) (by rw [List.length_map]; exact hc0) r1 r2 h
  rw [List.length_map] at hp
  exact hp


/-! ### carousellaw01_Awake: function 44 -/
def carousellaw01_Awake.f  : Option (Bool) := (field_Pack.f (([(⟨3, 5⟩ : S103), (⟨1, 0⟩ : S103), (⟨12, 100⟩ : S103)] : List (S103)))).bind fun bt108 => (if bt108.1.toList = ([160, 100] : List UInt8) then (some (bt108.2 == 0)) else (some false))
set_option maxHeartbeats 8000000 in
set_option maxRecDepth 100000 in
theorem carousellaw01_Awake.calls  (r : Bool) (w : World) (h : carousellaw01_Awake.f  = some r) :
    Calls Try.prog 44 #[] w fun e w' => e = .returned (.bool r) ∧ Below w.heap.size w w' := by
  have hT : r = true := by
    have h1_ : carousellaw01_Awake.f = some true := by decide +kernel
    rw [h1_] at h
    exact (Option.some.inj h).symm
  have hu103 := Try.underlying103
  have HB := Aside0.mk (Below.refl w.heap.size w)
  have H : ((field_Pack.f (([(⟨3, 5⟩ : S103), (⟨1, 0⟩ : S103), (⟨12, 100⟩ : S103)] : List (S103)))).bind fun bt108 => (if bt108.1.toList = ([160, 100] : List UInt8) then (some (bt108.2 == 0)) else (some false))) = some r := h
  clear h
  obtain ⟨y105, hy105⟩ : ∃ y_ : List (S103), y_ = (([(⟨3, 5⟩ : S103), (⟨1, 0⟩ : S103), (⟨12, 100⟩ : S103)] : List (S103))) := ⟨_, rfl⟩
  replace H : ((field_Pack.f y105).bind fun bt108 => (if bt108.1.toList = ([160, 100] : List UInt8) then (some (bt108.2 == 0)) else (some false))) = some r := by first | (rw [hy105]; with_reducible exact H) | (have H2_ := (Option.bind_some _ _).symm.trans H; rw [hy105]; with_reducible exact H2_) | (have H2_ := (Option.bind_some _ _).symm.trans H; with_reducible exact H2_) | with_reducible exact H | (rw [hy105]; exact H) | exact H
  have Ny105 := Aside0.mk hy105
  clear hy105
  replace H := Option.bind_eq_some_iff.mp H
  obtain ⟨⟨t108, t109⟩, A10, H⟩ := H
  replace H : (if t108.toList = ([160, 100] : List UInt8) then (some (t109 == 0)) else (some false)) = some r := H
  have A1 := Aside0.mk A10
  clear A10
  by_cases c2 : t108.toList = ([160, 100] : List UInt8)
  · rw [if_pos c2] at H
    have c2b0 : (t108.toList == ([160, 100] : List UInt8)) = true := beq_iff_eq.mpr c2
    have c2b1 : (t108.toList != ([160, 100] : List UInt8)) = false := bne_eq_false_iff_eq.mpr c2
    clear c2
    obtain rfl := Option.some.inj H
    go_enter Try.func44, Try.ntmps44
    go_wp2_with (first | ((with_reducible refine gate_dst (N := 7) rfl ?_); refine Kd.R_lit k103 _ 103 ?hg (N := 7) ?hd (xs := ([(⟨3, 5⟩ : S103), (⟨1, 0⟩ : S103), (⟨12, 100⟩ : S103)] : List (S103))) (inner := [.int .i64 3, .int .u64 5, .int .i64 1, .int .u64 0, .int .i64 12, .int .u64 100]) (ok := fun _ => True) (okp := fun _ => True) ?hr ?hp (fun _ hk => hk) trivial (Below.refl _ _) (Nat.le_refl _) (by simp) ?_; (case hd => rfl); (case hg => rfl); (case hr => first | (go_simp; done) | (go_simp; rfl)); (case hp => exact (Reps.c2 (show Kd.M k103 _ _ _ (⟨3, 5⟩ : S103) [.int .i64 3, .int .u64 5] from (k103_mkM _ _ _ (⟨3, 5⟩ : S103) )) (Reps.c2 (show Kd.M k103 _ _ _ (⟨1, 0⟩ : S103) [.int .i64 1, .int .u64 0] from (k103_mkM _ _ _ (⟨1, 0⟩ : S103) )) (Reps.c2 (show Kd.M k103 _ _ _ (⟨12, 100⟩ : S103) [.int .i64 12, .int .u64 100] from (k103_mkM _ _ _ (⟨12, 100⟩ : S103) )) (Reps.none _ _))))); intro v106 w3 ho4 hb hg_ hnew_; clear hg_ hnew_; (first | rw [← Ny105.out] at ho4 | (simp only [Int.reduceToNat] at ho4; rw [← Ny105.out] at ho4)); have n0_ := Aside0.mk (Kd.R_lower ho4 (below_size (by repeat (first | (with_reducible first | exact HB.out | apply below_alloc | apply pw_below_drewN | apply below_drew1) | exact HB.out)))); have n1_ := Aside0.mk (below_step (by repeat (first | (with_reducible first | exact HB.out | apply below_alloc | apply pw_below_drewN | apply below_drew1) | exact HB.out)) hb); clear HB; have HO107 := n0_; have HB := n1_; clear n0_ n1_; clear hb ho4; obtain ⟨Ao5, co5, eo5⟩ := Kd.R_slice HO107.out; subst eo5) | ((with_reducible refine gate_callee (f := 55) rfl ?_); refine goesL_ (some 8) rfl rfl Try.func55 (by kernel_rfl) rfl #[.slice Ao5 y105.length co5] rfl (by (try simp only [List.map_toArray, List.map_cons, List.map_nil]); first | done | rfl | (simp only [List.length_drop, List.length_take]; rfl)) ?_; (with_reducible refine (field_Pack.calls _ _ y105 t108 t109 _ ?side1 ?side2 A1.out).mono ?_); (case side1 => repeat (first | exact (Kd.R_reads' HO107.out).2.2 | (with_reducible refine Kd.C_alloc ?_ _) | (with_reducible refine Kd.C_drewN ?_ _) | (with_reducible refine Kd.C_drew ?_))); (case side2 => exact (Kd.R_reads' HO107.out).2.1); rintro e w6 ⟨rfl, hb⟩; refine ⟨_, rfl, ?_⟩; have n0_ := Aside0.mk (Kd.R_below (by (with_reducible repeat (first | apply Kd.R_alloc | apply Kd.R_drewN | apply Kd.R_drew)); exact HO107.out) hb); have n1_ := Aside0.mk (below_step (by repeat (first | (with_reducible first | exact HB.out | apply below_alloc | apply pw_below_drewN | apply below_drew1) | exact HB.out)) hb); clear HO107; clear HB; have HO107 := n0_; have HB := n1_; clear n0_ n1_; (try clear hb); (try clear hb2); (try clear hk); (try clear hi)))
    go_ret
    exact ⟨by first | rfl | (simp [errW_none, errW_some] <;> rfl) | (simp [*, errW_none, errW_some] <;> rfl), by repeat (first | (with_reducible first | exact HB.out | apply below_alloc | apply pw_below_drewN | apply below_drew1) | exact HB.out)⟩
  · rw [if_neg c2] at H
    have c2b0 : (t108.toList == ([160, 100] : List UInt8)) = false := beq_eq_false_iff_ne.mpr c2
    have c2b1 : (t108.toList != ([160, 100] : List UInt8)) = true := bne_iff_ne.mpr c2
    cases (Option.some.inj H).trans hT

/-! ### mac_Addr_Bytes: function 45 -/
def mac_Addr_Bytes.f (a0 : Int) : Option (ByteArray) := (field_Pack.f (([(⟨48, a0⟩ : S103)] : List (S103)))).bind fun bt113 => (some bt113.1)
set_option maxHeartbeats 8000000 in
set_option maxRecDepth 100000 in
theorem mac_Addr_Bytes.calls (a0 : Int) (r : ByteArray) (w : World) (h : mac_Addr_Bytes.f a0 = some r) :
    Calls Try.prog 45 #[.int .u64 a0] w fun e w' => e = .returned (.string r) ∧ Below w.heap.size w w' := by
  have hu103 := Try.underlying103
  have HB := Aside0.mk (Below.refl w.heap.size w)
  have H : ((field_Pack.f (([(⟨48, a0⟩ : S103)] : List (S103)))).bind fun bt113 => (some bt113.1)) = some r := h
  clear h
  obtain ⟨y110, hy110⟩ : ∃ y_ : List (S103), y_ = (([(⟨48, a0⟩ : S103)] : List (S103))) := ⟨_, rfl⟩
  replace H : ((field_Pack.f y110).bind fun bt113 => (some bt113.1)) = some r := by first | (rw [hy110]; with_reducible exact H) | (have H2_ := (Option.bind_some _ _).symm.trans H; rw [hy110]; with_reducible exact H2_) | (have H2_ := (Option.bind_some _ _).symm.trans H; with_reducible exact H2_) | with_reducible exact H | (rw [hy110]; exact H) | exact H
  have Ny110 := Aside0.mk hy110
  clear hy110
  replace H := Option.bind_eq_some_iff.mp H
  obtain ⟨⟨t113, t114⟩, A20, H⟩ := H
  replace H : (some t113) = some r := H
  have A2 := Aside0.mk A20
  clear A20
  obtain rfl := Option.some.inj H
  go_enter Try.func45, Try.ntmps45
  go_wp2_with (first | ((with_reducible refine gate_dst (N := 8) rfl ?_); refine Kd.R_lit k103 _ 103 ?hg (N := 8) ?hd (xs := ([(⟨48, a0⟩ : S103)] : List (S103))) (inner := [.int .i64 48, .int .u64 a0]) (ok := fun _ => True) (okp := fun _ => True) ?hr ?hp (fun _ hk => hk) trivial (Below.refl _ _) (Nat.le_refl _) (by simp) ?_; (case hd => rfl); (case hg => rfl); (case hr => first | (go_simp; done) | (go_simp; rfl)); (case hp => exact (Reps.c2 (show Kd.M k103 _ _ _ (⟨48, a0⟩ : S103) [.int .i64 48, .int .u64 a0] from (k103_mkM _ _ _ (⟨48, a0⟩ : S103) )) (Reps.none _ _))); intro v111 w3 ho4 hb hg_ hnew_; clear hg_ hnew_; (first | rw [← Ny110.out] at ho4 | (simp only [Int.reduceToNat] at ho4; rw [← Ny110.out] at ho4)); have n0_ := Aside0.mk (Kd.R_lower ho4 (below_size (by repeat (first | (with_reducible first | exact HB.out | apply below_alloc | apply pw_below_drewN | apply below_drew1) | exact HB.out)))); have n1_ := Aside0.mk (below_step (by repeat (first | (with_reducible first | exact HB.out | apply below_alloc | apply pw_below_drewN | apply below_drew1) | exact HB.out)) hb); clear HB; have HO112 := n0_; have HB := n1_; clear n0_ n1_; clear hb ho4; obtain ⟨Ao5, co5, eo5⟩ := Kd.R_slice HO112.out; subst eo5) | ((with_reducible refine gate_callee (f := 55) rfl ?_); refine goesL_ (some 9) rfl rfl Try.func55 (by kernel_rfl) rfl #[.slice Ao5 y110.length co5] rfl (by (try simp only [List.map_toArray, List.map_cons, List.map_nil]); first | done | rfl | (simp only [List.length_drop, List.length_take]; rfl)) ?_; (with_reducible refine (field_Pack.calls _ _ y110 t113 t114 _ ?side1 ?side2 A2.out).mono ?_); (case side1 => repeat (first | exact (Kd.R_reads' HO112.out).2.2 | (with_reducible refine Kd.C_alloc ?_ _) | (with_reducible refine Kd.C_drewN ?_ _) | (with_reducible refine Kd.C_drew ?_))); (case side2 => exact (Kd.R_reads' HO112.out).2.1); rintro e w6 ⟨rfl, hb⟩; refine ⟨_, rfl, ?_⟩; have n0_ := Aside0.mk (Kd.R_below (by (with_reducible repeat (first | apply Kd.R_alloc | apply Kd.R_drewN | apply Kd.R_drew)); exact HO112.out) hb); have n1_ := Aside0.mk (below_step (by repeat (first | (with_reducible first | exact HB.out | apply below_alloc | apply pw_below_drewN | apply below_drew1) | exact HB.out)) hb); clear HO112; clear HB; have HO112 := n0_; have HB := n1_; clear n0_ n1_; (try clear hb); (try clear hb2); (try clear hk); (try clear hi)))
  go_ret
  exact ⟨by first | rfl | (simp [errW_none, errW_some] <;> rfl) | (simp [*, errW_none, errW_some] <;> rfl), by repeat (first | (with_reducible first | exact HB.out | apply below_alloc | apply pw_below_drewN | apply below_drew1) | exact HB.out)⟩

end Go.Proofs.Ytmlenepeocginaa.PRelayNever
