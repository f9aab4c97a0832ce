-- Written by a program of this work, after the translation.
import Derived.Test.YtmdaaphjndjakadPAllx0
import Derived.Test.YtmdaaphjndjakadPAllx1
import Derived.Test.YtmdaaphjndjakadPAllx2
import Derived.Test.YtmdaaphjndjakadPAllx5
import Derived.Test.YtmdaaphjndjakadPAllx6
import Derived.Test.YtmdaaphjndjakadPAllx8
namespace Go.Proofs.Ytmdaaphjndjakad.PAll
open Go.RowKit Go.Proofs.YtmdaaphjndjakadW.PrintWords Go.Proofs.YtmdaaphjndjakadW.PrintLast Go.Proofs.YtmdaaphjndjakadW.PrintMore
attribute [local go_sem] max2_int min2_int max_two min_two max_three min_three max_four min_four   -- for this text's walks alone
set_option linter.unusedVariables false
set_option linter.unusedSimpArgs false

/-! ### carouselref02_String: function 32 -/
mutual
def carouselref02_String.l0 : Nat → ByteArray → ByteArray → Int → Option (ByteArray)
  | 0, _, _, _ => none
  | k + 1, x3, x4, x5 => if x5 < (x3.size : Int) then (if x5 > 0 then (if x4.size + 1 ≤ 9223372036854775807 then (carouselref02_String.j1 k x3 (x4 ++ (⟨#[58]⟩ : ByteArray)) x5) else (none)) else (carouselref02_String.j1 k x3 x4 x5)) else (some x4)
def carouselref02_String.j1 : Nat → ByteArray → ByteArray → Int → Option (ByteArray)
  | 0, _, _, _ => none
  | k + 1, x3, x4, x5 => if 0 ≤ x5 then (if x5 < (x3.size : Int) then ((carouselref02_char.f (wrap64 (Int.tdiv (wrap64 (bt x3 x5)) 16))).bind fun t302 => ((carouselref02_char.f (Int.tmod (wrap64 (bt x3 x5)) 16)).bind fun t303 => ((some (([t302, t303] : List Int) : List Int)).bind fun y304 => (if x4.size + (strOfNums y304).size ≤ 9223372036854775807 then (carouselref02_String.l0 k x3 (x4 ++ (strOfNums y304)) (wrap64 (x5 + 1))) else (none))))) else (none)) else (none)
end
def carouselref02_String.f (k : Nat) (a0 : Int) : Option (ByteArray) := (carouselref02_Bytes.f k a0).bind fun t301 => (carouselref02_String.l0 k t301 (⟨#[]⟩ : ByteArray) 0)
theorem carouselref02_String.mono_l : ∀ k, (∀ y0 y1 y2, LeO (carouselref02_String.l0 k y0 y1 y2) (carouselref02_String.l0 (k + 1) y0 y1 y2)) ∧ (∀ y0 y1 y2, LeO (carouselref02_String.j1 k y0 y1 y2) (carouselref02_String.j1 (k + 1) y0 y1 y2))
  | 0 => ⟨fun _ _ _ r h => by simp [carouselref02_String.l0] at h, fun _ _ _ r h => by simp [carouselref02_String.j1] at h⟩
  | k + 1 => by
    obtain ⟨ih0, ih1⟩ := carouselref02_String.mono_l k
    refine ⟨?_, ?_⟩
    · intro y0 y1 y2
      unfold carouselref02_String.l0
      repeat' first
      | (with_reducible exact ih0 _ _ _)
      | (with_reducible exact ih1 _ _ _)
      | (with_reducible exact carouselref02_Bytes.mono _ _)
      | (with_reducible exact LeO.refl _)
      | (with_reducible exact LeO.none _)
      | (with_reducible refine LeO.ite ?_ ?_)
      | (with_reducible refine LeO.bind ?_ (fun _ => ?_))
      | exact ih0 _ _ _
      | exact ih1 _ _ _
      | exact carouselref02_Bytes.mono _ _
      | exact LeO.none _
      | refine LeO.ite ?_ ?_
      | refine LeO.bind ?_ (fun _ => ?_)
    · intro y0 y1 y2
      unfold carouselref02_String.j1
      repeat' first
      | (with_reducible exact ih0 _ _ _)
      | (with_reducible exact ih1 _ _ _)
      | (with_reducible exact carouselref02_Bytes.mono _ _)
      | (with_reducible exact LeO.refl _)
      | (with_reducible exact LeO.none _)
      | (with_reducible refine LeO.ite ?_ ?_)
      | (with_reducible refine LeO.bind ?_ (fun _ => ?_))
      | exact ih0 _ _ _
      | exact ih1 _ _ _
      | exact carouselref02_Bytes.mono _ _
      | exact LeO.none _
      | refine LeO.ite ?_ ?_
      | refine LeO.bind ?_ (fun _ => ?_)
theorem carouselref02_String.mono : ∀ a0 k, LeO (carouselref02_String.f k a0) (carouselref02_String.f (k + 1) a0) := by
  intro a0 k
  obtain ⟨ih0, ih1⟩ := carouselref02_String.mono_l k
  unfold carouselref02_String.f
  repeat' first
      | (with_reducible exact ih0 _ _ _)
      | (with_reducible exact ih1 _ _ _)
      | (with_reducible exact carouselref02_Bytes.mono _ _)
      | (with_reducible exact LeO.refl _)
      | (with_reducible exact LeO.none _)
      | (with_reducible refine LeO.ite ?_ ?_)
      | (with_reducible refine LeO.bind ?_ (fun _ => ?_))
      | exact ih0 _ _ _
      | exact ih1 _ _ _
      | exact carouselref02_Bytes.mono _ _
      | exact LeO.none _
      | refine LeO.ite ?_ ?_
      | refine LeO.bind ?_ (fun _ => ?_)
def carouselref02_String.T8 : Bool × List (List Nat × List Nat) := (true, [([], []), ([], []), ([], []), ([1, 2], [1, 2]), ([3], [3]), ([4], [4]), ([5], [5]), ([], []), ([], []), ([7, 8], [7, 8]), ([9], [9]), ([10], [10]), ([11, 6], [11]), ([6, 12], [6, 12]), ([13], [13]), ([0, 14], [0, 14]), ([15, 12, 0, 1, 2, 3, 4, 5, 6, 7, 8, 9, 10, 11, 12, 13, 14, 15], [0, 15])])
def carouselref02_String.B8 : List Nat := [0, 0, 0, 6, 14, 30, 62, 0, 0, 384, 896, 1920, 4094, 8190, 16382, 32767, 65535]
theorem carouselref02_String.tab8 : rtab .any (opsOf Try.f32 8) = carouselref02_String.T8 := by kernel_rfl
theorem carouselref02_String.bits8 : waitsOk carouselref02_String.T8.2 carouselref02_String.B8 = true := by kernel_rfl
set_option maxHeartbeats 8000000 in
set_option maxRecDepth 100000 in
theorem carouselref02_String.calls (k : Nat) (a0 : Int) (r : ByteArray) (w : World) (h : carouselref02_String.f k a0 = some r) :
    Calls Try.prog 32 #[.int .u64 a0] w fun e w' => e = .returned (.string r) ∧ Below w.heap.size w w' := by
  have HB := Aside0.mk (Below.refl w.heap.size w)
  have H : ((carouselref02_Bytes.f k a0).bind fun t301 => (carouselref02_String.l0 k t301 (⟨#[]⟩ : ByteArray) 0)) = some r := h
  clear h
  replace H := Option.bind_eq_some_iff.mp H
  obtain ⟨t301, A20, H⟩ := H
  replace H : (carouselref02_String.l0 k t301 (⟨#[]⟩ : ByteArray) 0) = some r := H
  have A2 := Aside0.mk A20
  clear A20
  have H' := Aside0.mk H
  clear H
  go_enter Try.func32, Try.ntmps32
  go_wp2_with (first | ((with_reducible refine gate_callee (f := 30) rfl ?_); refine goesL_ (some 7) rfl rfl Try.func30 (by kernel_rfl) rfl #[.int .u64 a0] rfl (by (try simp only [List.map_toArray, List.map_cons, List.map_nil]); first | done | rfl | (simp only [List.length_drop, List.length_take]; rfl)) ?_; (with_reducible refine (carouselref02_Bytes.calls k a0 t301 _ A2.out).mono ?_); rintro e w3 ⟨rfl, hb⟩; refine ⟨_, rfl, ?_⟩; have n0_ := Aside0.mk (below_step (by repeat (first | (with_reducible first | exact HB.out | apply below_alloc | apply pw_below_drewN | apply below_drew1) | exact HB.out)) hb); clear HB; have HB := n0_; clear n0_; (try clear hb); (try clear hb2); (try clear hk); (try clear hi)))
  go_loopg [4, 5] k (fun kq v4 v5 w' => ∃ (x4_1 : ByteArray) (x5_1 : Int), v4 = .string x4_1 ∧ v5 = .int .i64 x5_1 ∧ Aside0 (carouselref02_String.l0 kq t301 x4_1 x5_1 = some r) ∧ Aside0 (kq ≤ k) ∧ Aside0 (Below w.heap.size w w'))
  case atStart => exact ⟨((⟨#[]⟩ : ByteArray)), (0), (by first | rfl | (simp; done) | (simp [*]; done)), (by first | rfl | (simp; done) | (simp [*]; done)), H', ⟨Nat.le_refl _⟩, ⟨by repeat (first | (with_reducible first | exact HB.out | apply below_alloc | apply pw_below_drewN | apply below_drew1) | exact HB.out)⟩⟩
  case round =>
    clear H'
    try clear p2
    try clear c3
    obtain ⟨x4_1, x5_1, rfl, rfl, HA, HK1, HB⟩ := hrel
    cases gk with
    | zero => exact absurd HA.out (by simp [carouselref02_String.l0])
    | succ k1 =>
      have H := HA.out
      clear HA
      simp only [carouselref02_String.l0] at H
      by_cases c4 : x5_1 < (t301.size : Int)
      · rw [if_pos c4] at H
        have c4b0 : decide (x5_1 < (t301.size : Int)) = true := decide_eq_true c4
        clear c4
        have HC5 := Aside0.mk H
        clear H
        go_upto_if 15 with (fail)
        go_cut [4] (fun v4 wc => ∃ (kq : Nat) (x4_4 : ByteArray), v4 = .string x4_4 ∧ Aside0 (carouselref02_String.j1 kq t301 x4_4 x5_1 = some r) ∧ Aside0 (kq ≤ k1) ∧ Aside0 (Below w.heap.size w wc))
        case first =>
          have H := HC5.out
          clear HC5
          by_cases c6 : x5_1 > 0
          · rw [if_pos c6] at H
            have c6b0 : decide (0 < x5_1) = true := decide_eq_true c6
            clear c6
            (first | rw [c6b0] | (simp only [i64_w, i32_w]; rw [c6b0]) | skip)
            by_cases c7 : x4_1.size + 1 ≤ 9223372036854775807
            · rw [if_pos c7] at H
              have c7b0 := eq_true c7
              have c7b1 : decide (x4_1.size + 1 ≤ 9223372036854775807) = true := decide_eq_true c7
              try have c7b2 : (9223372036854775807 < x4_1.size + 1) = False := eq_false (Nat.not_lt.2 c7)
              have H' := Aside0.mk H
              clear H
              go_wp2
              go_meet
              case rel => exact ⟨_, (x4_1 ++ (⟨#[58]⟩ : ByteArray)), (by first | rfl | (simp; done) | (simp [*]; done)), H', ⟨by have := HK1.out; first | omega | exact Nat.le_refl _⟩, ⟨by repeat (first | (with_reducible first | exact HB.out | apply below_alloc | apply pw_below_drewN | apply below_drew1) | exact HB.out)⟩⟩
            · rw [if_neg c7] at H
              exact absurd H (by simp)
          · rw [if_neg c6] at H
            have c6b0 : decide (0 < x5_1) = false := decide_eq_false c6
            clear c6
            (first | rw [c6b0] | (simp only [i64_w, i32_w]; rw [c6b0]) | skip)
            have H' := Aside0.mk H
            clear H
            go_wp2
            go_meet
            case rel => exact ⟨_, (x4_1), (by first | rfl | (simp; done) | (simp [*]; done)), H', ⟨by have := HK1.out; first | omega | exact Nat.le_refl _⟩, ⟨by repeat (first | (with_reducible first | exact HB.out | apply below_alloc | apply pw_below_drewN | apply below_drew1) | exact HB.out)⟩⟩
        case rest =>
          clear HC5
          try clear p2
          try clear c3
          try clear c4
          try clear c4b0
          try clear c6
          try clear c6b0
          try clear c7
          try clear c7b0
          try clear c7b1
          try clear c7b2
          try clear p2
          obtain ⟨kq, x4_4, rfl, HA, HJ4, HB⟩ := hcut
          cases kq with
          | zero => exact absurd HA.out (by simp [carouselref02_String.j1])
          | succ kj4 =>
            have H := HA.out
            clear HA
            simp only [carouselref02_String.j1] at H
            by_cases c8 : 0 ≤ x5_1
            · rw [if_pos c8] at H
              have c8b0 : decide (0 ≤ x5_1) = true := decide_eq_true c8
              clear c8
              by_cases c9 : x5_1 < (t301.size : Int)
              · rw [if_pos c9] at H
                have c9b0 : decide (x5_1 < (t301.size : Int)) = true := decide_eq_true c9
                clear c9
                replace H := Option.bind_eq_some_iff.mp H
                obtain ⟨t302, A110, H⟩ := H
                replace H : ((carouselref02_char.f (Int.tmod (wrap64 (bt t301 x5_1)) 16)).bind fun t303 => ((some (([t302, t303] : List Int) : List Int)).bind fun y304 => (if x4_4.size + (strOfNums y304).size ≤ 9223372036854775807 then (carouselref02_String.l0 kj4 t301 (x4_4 ++ (strOfNums y304)) (wrap64 (x5_1 + 1))) else (none)))) = some r := H
                have A11 := Aside0.mk A110
                clear A110
                replace H := Option.bind_eq_some_iff.mp H
                obtain ⟨t303, A130, H⟩ := H
                replace H : ((some (([t302, t303] : List Int) : List Int)).bind fun y304 => (if x4_4.size + (strOfNums y304).size ≤ 9223372036854775807 then (carouselref02_String.l0 kj4 t301 (x4_4 ++ (strOfNums y304)) (wrap64 (x5_1 + 1))) else (none))) = some r := H
                have A13 := Aside0.mk A130
                clear A130
                obtain ⟨y304, hy304⟩ : ∃ y_ : List Int, y_ = (([t302, t303] : List Int)) := ⟨_, rfl⟩
                replace H : (if x4_4.size + (strOfNums y304).size ≤ 9223372036854775807 then (carouselref02_String.l0 kj4 t301 (x4_4 ++ (strOfNums y304)) (wrap64 (x5_1 + 1))) else (none)) = some r := by first | (rw [hy304]; with_reducible exact H) | (have H2_ := (Option.bind_some _ _).symm.trans H; rw [hy304]; with_reducible exact H2_) | (have H2_ := (Option.bind_some _ _).symm.trans H; with_reducible exact H2_) | with_reducible exact H | (rw [hy304]; exact H) | exact H
                have Ny304 := Aside0.mk hy304
                clear hy304
                by_cases c14 : x4_4.size + (strOfNums y304).size ≤ 9223372036854775807
                · rw [if_pos c14] at H
                  have c14b0 := eq_true c14
                  have c14b1 : decide (x4_4.size + (strOfNums y304).size ≤ 9223372036854775807) = true := decide_eq_true c14
                  try have c14b2 : (9223372036854775807 < x4_4.size + (strOfNums y304).size) = False := eq_false (Nat.not_lt.2 c14)
                  have H' := Aside0.mk H
                  clear H
                  try go_wp2
                  have n0_ := Aside0.mk (below_drew1 HB.out)
                  clear HB
                  have HB := n0_
                  clear n0_
                  have p10 : 0 ≤ (x5_1 : Int) := of_decide_eq_true (by first | (with_reducible assumption) | assumption)
                  have q10 : x5_1 < (t301.size : Int) := of_decide_eq_true (by first | (with_reducible assumption) | assumption)
                  have hx10 := bt_at t301 x5_1
                  replace p10 := eq_true p10
                  replace q10 := eq_true q10
                  have p12 : 0 ≤ (x5_1 : Int) := of_decide_eq_true (by first | (with_reducible assumption) | assumption)
                  have q12 : x5_1 < (t301.size : Int) := of_decide_eq_true (by first | (with_reducible assumption) | assumption)
                  have hx12 := bt_at t301 x5_1
                  replace p12 := eq_true p12
                  replace q12 := eq_true q12
                  refine start_ (n := 17) (S := fun w' => True) (ds := []) #[false, false, false, false, false, false, false, false, false, false, false, false, false, false, false, false, false] (by kernel_rfl) rfl rfl trivial (fun hHeld => ?_); refine with_tabW carouselref02_String.tab8 carouselref02_String.bits8 (fun HT_ HW_ => ?_)
                  generalize wc.drew = w15 at HB hHeld ⊢
                  refine pure_ (i := 0) (N := some 18) (v := ?_) (a' := ?_) #[true, false, false, false, false, false, false, false, false, false, false, false, false, false, false, false, false] rfl rfl (any_of HT_.out (by kernel_rfl)) (fun _ _ _ h => h) (Or.inl ⟨by rfl, ?_⟩) ?_ ?_
                  rotate_left
                  · intro w'
                    go_simp
                    with_reducible rfl
                  rotate_left
                  · simp only [Act.put, List.setIfInBounds_toArray, List.set_cons_zero, List.set_cons_succ, i64_w, i32_w]
                    rfl
                  refine pure_ (i := 1) (N := some 19) (v := ?_) (a' := ?_) #[true, true, false, false, false, false, false, false, false, false, false, false, false, false, false, false, false] rfl rfl (any_of HT_.out (by kernel_rfl)) (fun _ _ _ h => h) (Or.inl ⟨by rfl, ?_⟩) ?_ ?_
                  rotate_left
                  · intro w'
                    go_simp
                    with_reducible rfl
                  rotate_left
                  · simp only [Act.put, List.setIfInBounds_toArray, List.set_cons_zero, List.set_cons_succ, i64_w, i32_w]
                    rfl
                  refine pure_ (i := 2) (N := some 20) (v := ?_) (a' := ?_) #[true, true, true, false, false, false, false, false, false, false, false, false, false, false, false, false, false] rfl rfl (any_of HT_.out (by kernel_rfl)) (fun _ _ _ h => h) (Or.inl ⟨by rfl, ?_⟩) ?_ ?_
                  rotate_left
                  · intro w'
                    go_simp
                    with_reducible rfl
                  rotate_left
                  · simp only [Act.put, List.setIfInBounds_toArray, List.set_cons_zero, List.set_cons_succ, i64_w, i32_w]
                    rfl
                  refine pure_ (i := 7) (N := some 25) (v := ?_) (a' := ?_) #[true, true, true, false, false, false, false, true, false, false, false, false, false, false, false, false, false] rfl rfl (any_of HT_.out (by kernel_rfl)) (fun _ _ _ h => h) (Or.inl ⟨by rfl, ?_⟩) ?_ ?_
                  rotate_left
                  · intro w'
                    go_simp
                    with_reducible rfl
                  rotate_left
                  · simp only [Act.put, List.setIfInBounds_toArray, List.set_cons_zero, List.set_cons_succ, i64_w, i32_w]
                    rfl
                  refine pure_ (i := 8) (N := some 26) (v := ?_) (a' := ?_) #[true, true, true, false, false, false, false, true, true, false, false, false, false, false, false, false, false] rfl rfl (any_of HT_.out (by kernel_rfl)) (fun _ _ _ h => h) (Or.inl ⟨by rfl, ?_⟩) ?_ ?_
                  rotate_left
                  · intro w'
                    go_simp
                    with_reducible rfl
                  rotate_left
                  · simp only [Act.put, List.setIfInBounds_toArray, List.set_cons_zero, List.set_cons_succ, i64_w, i32_w]
                    rfl
                  refine take_ (i := 3) (N := some 21) (v := ?_) (a' := ?_) #[true, true, true, true, false, false, false, true, true, false, false, false, false, false, false, false, false] rfl rfl (take_ofW HT_.out HW_.out (by kernel_rfl)) (fun _ _ _ h => h) (Or.inl ⟨by rfl, ?_⟩) hHeld ?_ ?_
                  rotate_left
                  · intro w' _
                    go_simp
                    with_reducible rfl
                  rotate_left
                  · simp only [Act.put, List.setIfInBounds_toArray, List.set_cons_zero, List.set_cons_succ, i64_w, i32_w]
                    rfl
                  refine pure_ (i := 4) (N := some 22) (v := ?_) (a' := ?_) #[true, true, true, true, true, false, false, true, true, false, false, false, false, false, false, false, false] rfl rfl (any_of HT_.out (by kernel_rfl)) (fun _ _ _ h => h) (Or.inl ⟨by rfl, ?_⟩) ?_ ?_
                  rotate_left
                  · intro w'
                    go_simp
                    with_reducible rfl
                  rotate_left
                  · simp only [Act.put, List.setIfInBounds_toArray, List.set_cons_zero, List.set_cons_succ, i64_w, i32_w]
                    rfl
                  refine pure_ (i := 5) (N := some 23) (v := ?_) (a' := ?_) #[true, true, true, true, true, true, false, true, true, false, false, false, false, false, false, false, false] rfl rfl (any_of HT_.out (by kernel_rfl)) (fun _ _ _ h => h) (Or.inl ⟨by rfl, ?_⟩) ?_ ?_
                  rotate_left
                  · intro w'
                    go_simp
                    with_reducible rfl
                  rotate_left
                  · simp only [Act.put, List.setIfInBounds_toArray, List.set_cons_zero, List.set_cons_succ, i64_w, i32_w]
                    rfl
                  refine take_ (i := 9) (N := some 27) (v := ?_) (a' := ?_) #[true, true, true, true, true, true, false, true, true, true, false, false, false, false, false, false, false] rfl rfl (take_ofW HT_.out HW_.out (by kernel_rfl)) (fun _ _ _ h => h) (Or.inl ⟨by rfl, ?_⟩) hHeld ?_ ?_
                  rotate_left
                  · intro w' _
                    go_simp
                    with_reducible rfl
                  rotate_left
                  · simp only [Act.put, List.setIfInBounds_toArray, List.set_cons_zero, List.set_cons_succ, i64_w, i32_w]
                    rfl
                  refine pure_ (i := 10) (N := some 28) (v := ?_) (a' := ?_) #[true, true, true, true, true, true, false, true, true, true, true, false, false, false, false, false, false] rfl rfl (any_of HT_.out (by kernel_rfl)) (fun _ _ _ h => h) (Or.inl ⟨by rfl, ?_⟩) ?_ ?_
                  rotate_left
                  · intro w'
                    go_simp
                    with_reducible rfl
                  rotate_left
                  · simp only [Act.put, List.setIfInBounds_toArray, List.set_cons_zero, List.set_cons_succ, i64_w, i32_w]
                    rfl
                  refine pure_ (i := 11) (N := some 29) (v := ?_) (a' := ?_) #[true, true, true, true, true, true, false, true, true, true, true, true, false, false, false, false, false] rfl rfl (any_of HT_.out (by kernel_rfl)) (fun _ _ _ h => h) (Or.inl ⟨by rfl, ?_⟩) ?_ ?_
                  rotate_left
                  · intro w'
                    go_simp
                    with_reducible rfl
                  rotate_left
                  · simp only [Act.put, List.setIfInBounds_toArray, List.set_cons_zero, List.set_cons_succ, i64_w, i32_w]
                    rfl
                  refine one_ (i := 6) (N := some 24) #[true, true, true, true, true, true, true, true, true, true, true, true, false, false, false, false, false] rfl rfl (one_of HT_.out (by kernel_rfl)) (by decide) (fun K hK => ?_)
                  refine goes_ Try.func50 (by kernel_rfl) rfl #[.int .i64 (wrap64 (Int.tdiv (wrap64 (bt t301 x5_1)) 16))] (by rfl) rfl rfl (by (try simp only [List.map_toArray, List.map_cons, List.map_nil]); first | done | rfl | (simp only [List.length_drop, List.length_take]; rfl)) ?_
                  with_reducible refine (carouselref02_char.calls (wrap64 (Int.tdiv (wrap64 (bt t301 x5_1)) 16)) t302 _ A11.out).mono ?_
                  rintro e w' ⟨rfl, ⟨nd, rfl⟩⟩
                  refine ⟨_, rfl, ?_⟩
                  refine hK.out _ _ trivial (fun hHeld => ?_)
                  clear hK K
                  refine norm_ (a' := ?_) ?_ ?_
                  rotate_left
                  · show Act.put _ (some 24) _ = _
                    simp only [Act.put, List.setIfInBounds_toArray, List.set_cons_zero, List.set_cons_succ, i64_w, i32_w]
                    rfl
                  refine one_ (i := 12) (N := some 30) #[true, true, true, true, true, true, true, true, true, true, true, true, true, false, false, false, false] rfl rfl (one_of HT_.out (by kernel_rfl)) (by decide) (fun K hK => ?_)
                  refine goes_ Try.func50 (by kernel_rfl) rfl #[.int .i64 (Int.tmod (wrap64 (bt t301 x5_1)) 16)] (by rfl) rfl rfl (by (try simp only [List.map_toArray, List.map_cons, List.map_nil]); first | done | rfl | (simp only [List.length_drop, List.length_take]; rfl)) ?_
                  with_reducible refine (carouselref02_char.calls (Int.tmod (wrap64 (bt t301 x5_1)) 16) t303 _ A13.out).mono ?_
                  rintro e w' ⟨rfl, ⟨nd, rfl⟩⟩
                  refine ⟨_, rfl, ?_⟩
                  refine hK.out _ _ trivial (fun hHeld => ?_)
                  clear hK K
                  refine norm_ (a' := ?_) ?_ ?_
                  rotate_left
                  · show Act.put _ (some 30) _ = _
                    simp only [Act.put, List.setIfInBounds_toArray, List.set_cons_zero, List.set_cons_succ, i64_w, i32_w]
                    rfl
                  refine one_ (i := 13) (N := some 31) #[true, true, true, true, true, true, true, true, true, true, true, true, true, true, false, false, false] rfl rfl (one_of HT_.out (by kernel_rfl)) (by decide) (fun K hK => ?_)
                  refine Kd.R_lit_step (Kd.int .u8) _ 5 ?hg (N := 31) ?hd (xs := ([t302, t303] : List Int)) (inner := [.int .u8 t302, .int .u8 t303]) (ok := fun _ => True) (okp := fun _ => True) ?hr ?hp (fun _ hk => hk) trivial (Below.refl _ _) (Nat.le_refl _) (by simp) ?_; (case hd => rfl); (case hg => rfl); (case hr => first | (go_simp; done) | (go_simp; rfl)); (case hp => exact (Reps.one (show Kd.M (Kd.int .u8) _ _ _ t302 [.int .u8 t302] from rfl) (Reps.one (show Kd.M (Kd.int .u8) _ _ _ t303 [.int .u8 t303] from rfl) (Reps.none _ _))))
                  intro v305 w16 ho17 hb hg_ hnew_
                  clear hg_ hnew_
                  (first | rw [← Ny304.out] at ho17 | (simp only [Int.reduceToNat] at ho17; rw [← Ny304.out] at ho17))
                  have n0_ := Aside0.mk (Kd.R_lower ho17 (below_size (by repeat (first | (with_reducible first | exact HB.out | apply below_alloc | apply pw_below_drewN | apply below_drew1) | exact HB.out))))
                  have n1_ := Aside0.mk (below_step (by repeat (first | (with_reducible first | exact HB.out | apply below_alloc | apply pw_below_drewN | apply below_drew1) | exact HB.out)) hb)
                  clear HB
                  have HO306 := n0_
                  have HB := n1_
                  clear n0_ n1_
                  clear hb ho17
                  refine hK.out _ _ trivial (fun hHeld => ?_)
                  clear hK K
                  refine norm_ (a' := ?_) ?_ ?_
                  rotate_left
                  · show Act.put _ (some 31) _ = _
                    simp only [Act.put, List.setIfInBounds_toArray, List.set_cons_zero, List.set_cons_succ, i64_w, i32_w]
                    rfl
                  refine one_ (i := 14) (N := some 32) #[true, true, true, true, true, true, true, true, true, true, true, true, true, true, true, false, false] rfl rfl (one_of HT_.out (by kernel_rfl)) (by decide) (fun K hK => ?_)
                  have hcv18 := own_string (P := Try.prog) Try.underlying60 Try.underlying5 Try.underlying9 (Kd.own_of_R HO306.out)
                  refine value_ (w1 := ?_) (v := ?_) (by rfl) rfl ?_ ?_
                  rotate_left 2
                  · go_simp
                    constructor
                    · rfl
                    · rfl
                  clear hcv18
                  refine hK.out _ _ trivial (fun hHeld => ?_)
                  clear hK K
                  refine norm_ (a' := ?_) ?_ ?_
                  rotate_left
                  · show Act.put _ (some 32) _ = _
                    simp only [Act.put, List.setIfInBounds_toArray, List.set_cons_zero, List.set_cons_succ, i64_w, i32_w]
                    rfl
                  refine pure_ (i := 15) (N := some 33) (v := ?_) (a' := ?_) #[true, true, true, true, true, true, true, true, true, true, true, true, true, true, true, true, false] rfl rfl (any_of HT_.out (by kernel_rfl)) (fun _ _ _ h => h) (Or.inl ⟨by rfl, ?_⟩) ?_ ?_
                  rotate_left
                  · intro w'
                    go_simp
                    with_reducible rfl
                  rotate_left
                  · simp only [Act.put, List.setIfInBounds_toArray, List.set_cons_zero, List.set_cons_succ, i64_w, i32_w]
                    rfl
                  refine pure_ (i := 16) (N := some 4) (v := ?_) (a' := ?_) #[true, true, true, true, true, true, true, true, true, true, true, true, true, true, true, true, true] rfl rfl (any_of HT_.out (by kernel_rfl)) (fun _ _ _ h => h) (Or.inl ⟨by rfl, ?_⟩) ?_ ?_
                  rotate_left
                  · intro w'
                    go_simp
                    with_reducible rfl
                  rotate_left
                  · simp only [Act.put, List.setIfInBounds_toArray, List.set_cons_zero, List.set_cons_succ, i64_w, i32_w]
                    rfl
                  refine done_ (done_of HT_.out (by kernel_rfl)) ?_
                  try go_wp2
                  go_roundg kj4
                  case measure => have := HK1.out; have := HJ4.out; omega
                  case rel => exact ⟨(x4_4 ++ (strOfNums y304)), (wrap64 (x5_1 + 1)), (by first | rfl | (simp; done) | (simp [*]; done)), (by first | rfl | (simp; done) | (simp [*]; done)), H', ⟨by have := HK1.out; have := HJ4.out; omega⟩, ⟨by repeat (first | (with_reducible first | exact HB.out | apply below_alloc | apply pw_below_drewN | apply below_drew1) | exact HB.out)⟩⟩
                · rw [if_neg c14] at H
                  exact absurd H (by simp)
              · rw [if_neg c9] at H
                exact absurd H (by simp)
            · rw [if_neg c8] at H
              exact absurd H (by simp)
      · rw [if_neg c4] at H
        have c4b0 : decide (x5_1 < (t301.size : Int)) = false := decide_eq_false c4
        clear c4
        obtain rfl := Option.some.inj H
        go_wp2
        go_ret
        exact ⟨by first | rfl | (simp [errW_none, errW_some] <;> rfl) | (simp [*, errW_none, errW_some] <;> rfl), by repeat (first | (with_reducible first | exact HB.out | apply below_alloc | apply pw_below_drewN | apply below_drew1) | exact HB.out)⟩

/-! ### carousellaw02_MacTells: function 8 -/
def carousellaw02_MacTells.f (k : Nat) (a0 : Int) : Option (Bool) := (carousellaw02_Awake.f k).bind fun t307 => (if t307 = true then ((mac_Addr_May.f a0).bind fun t308 => ((carouselref02_May.f a0).bind fun t309 => (if (t308 == t309) = true then ((mac_Addr_Group.f a0).bind fun t310 => ((carouselref02_Group.f a0).bind fun t311 => (if (t310 == t311) = true then ((mac_Addr_Bytes.f a0).bind fun t312 => ((carouselref02_Bytes.f k a0).bind fun t313 => (if t312.toList = t313.toList then ((mac_Addr_String.f k a0).bind fun t314 => ((carouselref02_String.f k a0).bind fun t315 => (some (t314.toList == t315.toList)))) else (some false)))) else (some false)))) else (some false)))) else (some false))
theorem carousellaw02_MacTells.mono : ∀ a0 k, LeO (carousellaw02_MacTells.f k a0) (carousellaw02_MacTells.f (k + 1) a0) := by
  intro a0 k
  unfold carousellaw02_MacTells.f
  repeat' first
      | (with_reducible exact carousellaw02_Awake.mono _)
      | (with_reducible exact carouselref02_Bytes.mono _ _)
      | (with_reducible exact carouselref02_String.mono _ _)
      | (with_reducible exact mac_Addr_String.mono _ _)
      | (with_reducible exact LeO.refl _)
      | (with_reducible exact LeO.none _)
      | (with_reducible refine LeO.ite ?_ ?_)
      | (with_reducible refine LeO.bind ?_ (fun _ => ?_))
      | exact carousellaw02_Awake.mono _
      | exact carouselref02_Bytes.mono _ _
      | exact carouselref02_String.mono _ _
      | exact mac_Addr_String.mono _ _
      | exact LeO.none _
      | refine LeO.ite ?_ ?_
      | refine LeO.bind ?_ (fun _ => ?_)
set_option maxHeartbeats 8000000 in
set_option maxRecDepth 100000 in
theorem carousellaw02_MacTells.calls (k : Nat) (a0 : Int) (r : Bool) (w : World) (h : carousellaw02_MacTells.f k a0 = some r) (hT : r = true) :
    Calls Try.prog 8 #[.int .u64 a0] w fun e w' => e = .returned (.bool r) ∧ Below w.heap.size w w' := by
  have HB := Aside0.mk (Below.refl w.heap.size w)
  have H : ((carousellaw02_Awake.f k).bind fun t307 => (if t307 = true then ((mac_Addr_May.f a0).bind fun t308 => ((carouselref02_May.f a0).bind fun t309 => (if (t308 == t309) = true then ((mac_Addr_Group.f a0).bind fun t310 => ((carouselref02_Group.f a0).bind fun t311 => (if (t310 == t311) = true then ((mac_Addr_Bytes.f a0).bind fun t312 => ((carouselref02_Bytes.f k a0).bind fun t313 => (if t312.toList = t313.toList then ((mac_Addr_String.f k a0).bind fun t314 => ((carouselref02_String.f k a0).bind fun t315 => (some (t314.toList == t315.toList)))) else (some false)))) else (some false)))) else (some false)))) else (some false))) = some r := h
  clear h
  replace H := Option.bind_eq_some_iff.mp H
  obtain ⟨t307, A20, H⟩ := H
  replace H : (if t307 = true then ((mac_Addr_May.f a0).bind fun t308 => ((carouselref02_May.f a0).bind fun t309 => (if (t308 == t309) = true then ((mac_Addr_Group.f a0).bind fun t310 => ((carouselref02_Group.f a0).bind fun t311 => (if (t310 == t311) = true then ((mac_Addr_Bytes.f a0).bind fun t312 => ((carouselref02_Bytes.f k a0).bind fun t313 => (if t312.toList = t313.toList then ((mac_Addr_String.f k a0).bind fun t314 => ((carouselref02_String.f k a0).bind fun t315 => (some (t314.toList == t315.toList)))) else (some false)))) else (some false)))) else (some false)))) else (some false)) = some r := H
  have A2 := Aside0.mk A20
  clear A20
  by_cases c3 : t307 = true
  · subst c3
    have H1 : ((mac_Addr_May.f a0).bind fun t308 => ((carouselref02_May.f a0).bind fun t309 => (if (t308 == t309) = true then ((mac_Addr_Group.f a0).bind fun t310 => ((carouselref02_Group.f a0).bind fun t311 => (if (t310 == t311) = true then ((mac_Addr_Bytes.f a0).bind fun t312 => ((carouselref02_Bytes.f k a0).bind fun t313 => (if t312.toList = t313.toList then ((mac_Addr_String.f k a0).bind fun t314 => ((carouselref02_String.f k a0).bind fun t315 => (some (t314.toList == t315.toList)))) else (some false)))) else (some false)))) else (some false)))) = some r := by rw [if_pos rfl] at H; exact H
    clear H
    have H := H1
    clear H1
    replace H := Option.bind_eq_some_iff.mp H
    obtain ⟨t308, A40, H⟩ := H
    replace H : ((carouselref02_May.f a0).bind fun t309 => (if (t308 == t309) = true then ((mac_Addr_Group.f a0).bind fun t310 => ((carouselref02_Group.f a0).bind fun t311 => (if (t310 == t311) = true then ((mac_Addr_Bytes.f a0).bind fun t312 => ((carouselref02_Bytes.f k a0).bind fun t313 => (if t312.toList = t313.toList then ((mac_Addr_String.f k a0).bind fun t314 => ((carouselref02_String.f k a0).bind fun t315 => (some (t314.toList == t315.toList)))) else (some false)))) else (some false)))) else (some false))) = some r := H
    have A4 := Aside0.mk A40
    clear A40
    replace H := Option.bind_eq_some_iff.mp H
    obtain ⟨t309, A50, H⟩ := H
    replace H : (if (t308 == t309) = true then ((mac_Addr_Group.f a0).bind fun t310 => ((carouselref02_Group.f a0).bind fun t311 => (if (t310 == t311) = true then ((mac_Addr_Bytes.f a0).bind fun t312 => ((carouselref02_Bytes.f k a0).bind fun t313 => (if t312.toList = t313.toList then ((mac_Addr_String.f k a0).bind fun t314 => ((carouselref02_String.f k a0).bind fun t315 => (some (t314.toList == t315.toList)))) else (some false)))) else (some false)))) else (some false)) = some r := H
    have A5 := Aside0.mk A50
    clear A50
    by_cases c6 : (t308 == t309) = true
    · rw [if_pos c6] at H
      have c6b0 : (t308 == t309) = true := c6
      (try (have c6b1 : decide (t308 = t309) = true := by simpa using c6))
      (try (have c6b2 : (t308 == t309) = true := by simpa using c6))
      clear c6
      replace H := Option.bind_eq_some_iff.mp H
      obtain ⟨t310, A70, H⟩ := H
      replace H : ((carouselref02_Group.f a0).bind fun t311 => (if (t310 == t311) = true then ((mac_Addr_Bytes.f a0).bind fun t312 => ((carouselref02_Bytes.f k a0).bind fun t313 => (if t312.toList = t313.toList then ((mac_Addr_String.f k a0).bind fun t314 => ((carouselref02_String.f k a0).bind fun t315 => (some (t314.toList == t315.toList)))) else (some false)))) else (some false))) = some r := H
      have A7 := Aside0.mk A70
      clear A70
      replace H := Option.bind_eq_some_iff.mp H
      obtain ⟨t311, A80, H⟩ := H
      replace H : (if (t310 == t311) = true then ((mac_Addr_Bytes.f a0).bind fun t312 => ((carouselref02_Bytes.f k a0).bind fun t313 => (if t312.toList = t313.toList then ((mac_Addr_String.f k a0).bind fun t314 => ((carouselref02_String.f k a0).bind fun t315 => (some (t314.toList == t315.toList)))) else (some false)))) else (some false)) = some r := H
      have A8 := Aside0.mk A80
      clear A80
      by_cases c9 : (t310 == t311) = true
      · rw [if_pos c9] at H
        have c9b0 : (t310 == t311) = true := c9
        (try (have c9b1 : decide (t310 = t311) = true := by simpa using c9))
        (try (have c9b2 : (t310 == t311) = true := by simpa using c9))
        clear c9
        replace H := Option.bind_eq_some_iff.mp H
        obtain ⟨t312, A100, H⟩ := H
        replace H : ((carouselref02_Bytes.f k a0).bind fun t313 => (if t312.toList = t313.toList then ((mac_Addr_String.f k a0).bind fun t314 => ((carouselref02_String.f k a0).bind fun t315 => (some (t314.toList == t315.toList)))) else (some false))) = some r := H
        have A10 := Aside0.mk A100
        clear A100
        replace H := Option.bind_eq_some_iff.mp H
        obtain ⟨t313, A110, H⟩ := H
        replace H : (if t312.toList = t313.toList then ((mac_Addr_String.f k a0).bind fun t314 => ((carouselref02_String.f k a0).bind fun t315 => (some (t314.toList == t315.toList)))) else (some false)) = some r := H
        have A11 := Aside0.mk A110
        clear A110
        by_cases c12 : t312.toList = t313.toList
        · rw [if_pos c12] at H
          have c12b0 : (t312.toList == t313.toList) = true := beq_iff_eq.mpr c12
          have c12b1 : (t312.toList != t313.toList) = false := bne_eq_false_iff_eq.mpr c12
          clear c12
          replace H := Option.bind_eq_some_iff.mp H
          obtain ⟨t314, A130, H⟩ := H
          replace H : ((carouselref02_String.f k a0).bind fun t315 => (some (t314.toList == t315.toList))) = some r := H
          have A13 := Aside0.mk A130
          clear A130
          replace H := Option.bind_eq_some_iff.mp H
          obtain ⟨t315, A140, H⟩ := H
          replace H : (some (t314.toList == t315.toList)) = some r := H
          have A14 := Aside0.mk A140
          clear A140
          obtain rfl := Option.some.inj H
          go_enter Try.func8, Try.ntmps8
          go_wp2_with (first | ((with_reducible refine gate_callee (f := 9) rfl ?_); refine goesL_ (some 5) rfl rfl Try.func9 (by kernel_rfl) rfl #[] rfl (by (try simp only [List.map_toArray, List.map_cons, List.map_nil]); first | done | rfl | (simp only [List.length_drop, List.length_take]; rfl)) ?_; (with_reducible refine (carousellaw02_Awake.calls k  true _ A2.out).mono ?_); rintro e w15 ⟨rfl, hb⟩; refine ⟨_, rfl, ?_⟩; have n0_ := Aside0.mk (below_step (by repeat (first | (with_reducible first | exact HB.out | apply below_alloc | apply pw_below_drewN | apply below_drew1) | exact HB.out)) hb); clear HB; have HB := n0_; clear n0_; (try clear hb); (try clear hb2); (try clear hk); (try clear hi)) | (go_at_call 25; (with_reducible refine (mac_Addr_May.calls a0 t308 _ A4.out).mono ?_); rintro e w' ⟨rfl, ⟨nd, rfl⟩⟩) | (go_at_call 26; (with_reducible refine (carouselref02_May.calls a0 t309 _ A5.out).mono ?_); rintro e w' ⟨rfl, ⟨nd, rfl⟩⟩) | (go_at_call 27; (with_reducible refine (mac_Addr_Group.calls a0 t310 _ A7.out).mono ?_); rintro e w' ⟨rfl, ⟨nd, rfl⟩⟩) | (go_at_call 28; (with_reducible refine (carouselref02_Group.calls a0 t311 _ A8.out).mono ?_); rintro e w' ⟨rfl, ⟨nd, rfl⟩⟩) | (go_at_call 29; (with_reducible refine (mac_Addr_Bytes.calls a0 t312 _ A10.out).mono ?_); rintro e w16 ⟨rfl, hb⟩; have n0_ := Aside0.mk (below_step (by repeat (first | (with_reducible first | exact HB.out | apply below_alloc | apply pw_below_drewN | apply below_drew1) | exact HB.out)) hb); clear HB; have HB := n0_; clear n0_; (try clear hb); (try clear hb2); (try clear hk); (try clear hi)) | (go_at_call 30; (with_reducible refine (carouselref02_Bytes.calls k a0 t313 _ A11.out).mono ?_); rintro e w17 ⟨rfl, hb⟩; have n0_ := Aside0.mk (below_step (by repeat (first | (with_reducible first | exact HB.out | apply below_alloc | apply pw_below_drewN | apply below_drew1) | exact HB.out)) hb); clear HB; have HB := n0_; clear n0_; (try clear hb); (try clear hb2); (try clear hk); (try clear hi)) | (go_at_call 31; (with_reducible refine (mac_Addr_String.calls k a0 t314 _ A13.out).mono ?_); rintro e w18 ⟨rfl, hb⟩; have n0_ := Aside0.mk (below_step (by repeat (first | (with_reducible first | exact HB.out | apply below_alloc | apply pw_below_drewN | apply below_drew1) | exact HB.out)) hb); clear HB; have HB := n0_; clear n0_; (try clear hb); (try clear hb2); (try clear hk); (try clear hi)) | (go_at_call 32; (with_reducible refine (carouselref02_String.calls k a0 t315 _ A14.out).mono ?_); rintro e w19 ⟨rfl, hb⟩; have n0_ := Aside0.mk (below_step (by repeat (first | (with_reducible first | exact HB.out | apply below_alloc | apply pw_below_drewN | apply below_drew1) | exact HB.out)) hb); clear HB; have HB := n0_; clear n0_; (try clear hb); (try clear hb2); (try clear hk); (try clear hi)))
          go_ret
          exact ⟨by first | rfl | (simp [errW_none, errW_some] <;> rfl) | (simp [*, errW_none, errW_some] <;> rfl), by repeat (first | (with_reducible first | exact HB.out | apply below_alloc | apply pw_below_drewN | apply below_drew1) | exact HB.out)⟩
        · rw [if_neg c12] at H
          have c12b0 : (t312.toList == t313.toList) = false := beq_eq_false_iff_ne.mpr c12
          have c12b1 : (t312.toList != t313.toList) = true := bne_iff_ne.mpr c12
          cases (Option.some.inj H).trans hT
      · rw [if_neg c9] at H
        have c9b0 : (t310 == t311) = false := by simpa using c9
        (try (have c9b1 : decide (t310 = t311) = false := by simpa using c9))
        (try (have c9b2 : (t310 == t311) = false := by simpa using c9))
        (try (have c9b3 : ¬ (t310 = t311) := by simpa using c9))
        clear c9
        cases (Option.some.inj H).trans hT
    · rw [if_neg c6] at H
      have c6b0 : (t308 == t309) = false := by simpa using c6
      (try (have c6b1 : decide (t308 = t309) = false := by simpa using c6))
      (try (have c6b2 : (t308 == t309) = false := by simpa using c6))
      (try (have c6b3 : ¬ (t308 = t309) := by simpa using c6))
      clear c6
      cases (Option.some.inj H).trans hT
  · replace c3 := Bool.eq_false_iff.mpr c3
    subst c3
    have H1 : (some false) = some r := by rw [if_neg (show ¬ (false = true) by decide)] at H; exact H
    clear H
    have H := H1
    clear H1
    cases (Option.some.inj H).trans hT

/-- THE ONE PURE STATEMENT of carousellaw02_MacTells: yours. -/
def carousellaw02_MacTells.Pure : Prop := ∀ (a0 : Int), (Lit.int .u64 a0).wf = true → ∃ k, carousellaw02_MacTells.f k a0 = some true
theorem carousellaw02_MacTells.walk (P : carousellaw02_MacTells.Pure) (a0 : Int) (w : World) (w0_0 : (Lit.int .u64 a0).wf = true) :
    Calls Try.prog 8 #[.int .u64 a0] w fun e w' => e = .returned (.bool true) ∧ Below w.heap.size w w' := by
  obtain ⟨k, h⟩ := P a0 w0_0
  refine (carousellaw02_MacTells.calls k a0 true w h rfl).mono ?_
  rintro e w' ⟨rfl, hd⟩
  exact ⟨rfl, hd⟩

end Go.Proofs.Ytmdaaphjndjakad.PAll
