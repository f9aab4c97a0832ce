/- Addresses out of texts: the program's Parse and the document's come to one plain word. -/
import Derived.Test.YtmdaaphjndjakadPAllx1
import Derived.Test.YtmdaaphjndjakadPAllx6
import Derived.Test.YtmdaaphjndjakadGvBytes
namespace Go.Proofs.Ytmdaaphjndjakad.LAll
open Go.RowKit Go.Proofs.Ytmdaaphjndjakad.PAll Go.Proofs.YtmdaaphjndjakadW.PrintWords Go.Proofs.YtmdaaphjndjakadW.PrintLast Go.Proofs.YtmdaaphjndjakadW.PrintMore Go.Proofs.Ytmdaaphjndjakad
set_option linter.unusedVariables false

theorem mp_wrap {n : Int} (h0 : -9223372036854775808 ≤ n) (h1 : n ≤ 9223372036854775807) : wrap64 n = n := by unfold wrap64; omega
theorem mp_u64 {n : Int} (h0 : 0 ≤ n) (h1 : n ≤ 18446744073709551615) : IntKind.u64.wrap n = n := by simp [IntKind.wrap, IntKind.bits, IntKind.signed]; omega
theorem mp_wraps (n : Int) (h₀ : 0 ≤ n) (h₁ : n < 2 ^ 64) : IntKind.u64.wrap n = n := mp_u64 h₀ (by omega)

/-- A digit's value; -1: it is none. -/
def dig (c : Int) : Int := if 48 ≤ c ∧ c ≤ 57 then c - 48 else if 97 ≤ c ∧ c ≤ 102 then c - 87 else -1
theorem dig_range (c : Int) : -1 ≤ dig c ∧ dig c ≤ 15 := by unfold dig; split <;> (try split) <;> omega
theorem index_all : ∀ n : Nat, n < 256 → Lib.indexByte (⟨#[48, 49, 50, 51, 52, 53, 54, 55, 56, 57, 97, 98, 99, 100, 101, 102]⟩ : ByteArray).data.toList n.toUInt8 = dig (n : Int) := by decide +kernel
theorem index_dig (c : Int) (h0 : 0 ≤ c) (h1 : c ≤ 255) : strings_IndexByte.f (⟨#[48, 49, 50, 51, 52, 53, 54, 55, 56, 57, 97, 98, 99, 100, 101, 102]⟩ : ByteArray) c = some (dig c) := by
  obtain ⟨n, rfl⟩ := Int.eq_ofNat_of_zero_le h0
  unfold strings_IndexByte.f
  rw [Int.toNat_natCast, index_all n (by omega)]

/-- Is what stands at place i as it should be? -/
def okAt (s : ByteArray) (i : Nat) : Bool := if i % 3 = 2 then bt s (i : Nat) == 58 else decide (0 ≤ dig (bt s (i : Nat)))
def okTo (s : ByteArray) : Nat → Bool
  | 0 => true
  | i + 1 => okTo s i && okAt s i
def valTo (s : ByteArray) : Nat → Int
  | 0 => 0
  | i + 1 => if i % 3 = 2 then valTo s i else valTo s i * 16 + dig (bt s (i : Nat))
/-- The address of a text. -/
def macParse (s : ByteArray) : Int × Int := if s.size = 17 then (if okTo s 17 = true then (valTo s 17, 0) else (0, 3)) else (0, 3)

theorem okTo_false (s : ByteArray) (i d : Nat) (h : okTo s i = false) : okTo s (i + d) = false := by
  induction d with
  | zero => exact h
  | succ d ih => show (okTo s (i + d) && _) = false; rw [ih]; rfl
theorem valTo_range (s : ByteArray) : ∀ i : Nat, okTo s i = true → 0 ≤ valTo s i ∧ valTo s i < 16 ^ (i - i / 3) := by
  intro i
  induction i with
  | zero => intro _; simp [valTo]
  | succ i ih =>
    intro h
    simp only [okTo, Bool.and_eq_true] at h
    have h1 := ih h.1
    simp only [valTo]
    by_cases h3 : i % 3 = 2
    · rw [if_pos h3, show i + 1 - (i + 1) / 3 = i - i / 3 from by omega]; exact h1
    · have hd := h.2
      simp only [okAt, if_neg h3, decide_eq_true_eq] at hd
      have := dig_range (bt s (i : Nat))
      rw [if_neg h3, show i + 1 - (i + 1) / 3 = (i - i / 3) + 1 from by omega, Int.pow_succ]
      omega
theorem pow16 {m : Nat} (h : m ≤ 12) : (16 : Int) ^ m ≤ 16 ^ 12 := by
  have := Nat.pow_le_pow_right (show 0 < 16 by decide) h
  exact_mod_cast this
theorem valTo_small (s : ByteArray) (i : Nat) (hi : i ≤ 17) (h : okTo s i = true) : 0 ≤ valTo s i ∧ valTo s i < 281474976710656 := by
  have := valTo_range s i h
  have h2 := pow16 (m := i - i / 3) (by omega)
  have h3 : (16 : Int) ^ 12 = 281474976710656 := by decide
  omega

theorem ev_parse_loop (s : ByteArray) (hs : s.size = 17) (d : Nat) : ∀ i : Nat, 17 - i = d → i ≤ 17 → okTo s i = true → Ev (fun k => mac_Parse.l0 k s (valTo s i) 17 (i : Int)) (macParse s) := by
  unfold macParse
  rw [if_pos hs]
  induction d with
  | zero =>
    intro i hi hi2 hok
    obtain rfl : i = 17 := by omega
    rw [if_pos hok]
    refine Ev.step (f := fun _ => some (valTo s 17, 0)) (fun k => ?_) (Ev.now _)
    simp only [mac_Parse.l0]
    rw [if_neg (by omega)]
  | succ d ih =>
    intro i hi hi2 hok
    have hb := bt_range s (i : Nat)
    have hv := valTo_small s i (by omega) hok
    have hm : Int.tmod (i : Int) 3 = ((i % 3 : Nat) : Int) := by rw [Int.tmod_eq_emod_of_nonneg (by omega)]; omega
    have e1 : wrap64 ((i : Int) + 1) = ((i + 1 : Nat) : Int) := mp_wrap (by omega) (by omega)
    have hfail : okAt s i = false → okTo s 17 = false := by
      intro h
      have := okTo_false s (i + 1) (17 - (i + 1)) (by simp [okTo, h])
      rwa [show i + 1 + (17 - (i + 1)) = 17 from by omega] at this
    have start : ∀ (b : Bool) r, (if i % 3 = 2 then bt s (i : Nat) == 58 else false) = b → Ev (fun k => mac_Parse.j1 k s (valTo s i) (i : Int) (dig (bt s (i : Nat))) 17 (i : Int) b) r → Ev (fun k => mac_Parse.l0 k s (valTo s i) 17 (i : Int)) r := by
      intro b r hbb h
      refine Ev.step (fun k => ?_) h
      simp only [mac_Parse.l0]
      rw [if_pos (by omega), if_pos (by omega), if_pos (by omega), index_dig _ hb.1 hb.2, hm]
      simp only [Option.bind_some]
      by_cases h3 : i % 3 = 2
      · rw [if_pos h3] at hbb
        rw [if_pos (by omega), hbb]
      · rw [if_neg h3] at hbb
        rw [if_neg (by omega), hbb]
    by_cases h3 : i % 3 = 2
    · by_cases hc : bt s (i : Nat) = 58
      · have hokn : okTo s (i + 1) = true := by simp [okTo, hok, okAt, h3, hc]
        have h := ih (i + 1) (by omega) (by omega) hokn
        have ev : valTo s (i + 1) = valTo s i := by simp [valTo, h3]
        rw [ev] at h
        refine start true _ (by simp [h3, hc]) (Ev.step (fun k => ?_) h)
        simp only [mac_Parse.j1]
        rw [if_pos trivial, e1]
      · rw [if_neg (by rw [hfail (by simp [okAt, h3, hc])]; simp)]
        refine start false _ (by simp [h3, hc]) (Ev.step (f := fun _ => some (0, 3)) (fun k => ?_) (Ev.now _))
        simp only [mac_Parse.j1]
        rw [if_neg (by simp), hm, if_neg (by omega)]
    · by_cases hc : 0 ≤ dig (bt s (i : Nat))
      · have hokn : okTo s (i + 1) = true := by simp [okTo, hok, okAt, h3, hc]
        have h := ih (i + 1) (by omega) (by omega) hokn
        have ev : valTo s (i + 1) = valTo s i * 16 + dig (bt s (i : Nat)) := by simp [valTo, h3]
        rw [ev] at h
        have hd := dig_range (bt s (i : Nat))
        have hj : Go.bits .or .u64 (IntKind.u64.wrap (valTo s i * 16)) (IntKind.u64.wrap (dig (bt s (i : Nat)))) = valTo s i * 16 + dig (bt s (i : Nat)) := by
          rw [mp_u64 (by omega) (by omega), mp_u64 (by omega) (by omega)]
          have p4 : (2 : Int) ^ 4 = 16 := by decide
          exact bits_join .u64 64 (by decide) mp_wraps 4 _ _ (by omega) (by omega) (by omega) (by omega) (by omega) (by omega)
        refine start false _ (by simp [h3]) (Ev.step (fun k => ?_) h)
        simp only [mac_Parse.j1]
        rw [if_neg (by simp), hm, if_pos (by omega), if_pos hc, hj, e1]
      · rw [if_neg (by rw [hfail (by simp [okAt, h3]; omega)]; simp)]
        refine start false _ (by simp [h3]) (Ev.step (f := fun _ => some (0, 3)) (fun k => ?_) (Ev.now _))
        simp only [mac_Parse.j1]
        rw [if_neg (by simp), hm, if_pos (by omega), if_neg hc]

/-- The program's Parse. -/
theorem ev_parse (s : ByteArray) : Ev (fun k => mac_Parse.f k s) (macParse s) := by
  by_cases hs : s.size = 17
  · have h := ev_parse_loop s hs _ 0 rfl (by omega) rfl
    refine Ev.congr (fun k => ?_) h
    unfold mac_Parse.f
    rw [if_pos (by omega), hs]
    rfl
  · refine Ev.congr (f := fun _ => some (macParse s)) (fun k => ?_) (Ev.now _)
    unfold mac_Parse.f macParse
    rw [if_neg (by omega), if_neg hs]

/-! ### the document's -/
theorem ref_digit (k : Nat) (c : Int) (h0 : 0 ≤ c) (h1 : c ≤ 255) : carouselref02_digit.f (k + 1) c = some (dig c) := by
  unfold carouselref02_digit.f dig
  simp only [carouselref02_digit.j0]
  by_cases a : 48 ≤ c
  · by_cases b : c ≤ 57
    · have e : (c - 48) % 256 = c - 48 := by omega
      simp [a, b, e]
    · by_cases c1 : 97 ≤ c
      · by_cases c2 : c ≤ 102
        · have e : (c - 97) % 256 + 10 = c - 87 := by omega
          simp [a, b, c1, c2, e]
        · simp [a, b, c1, c2]
      · simp [a, b, c1]
  · have c1 : ¬ 97 ≤ c := by omega
    simp [a, c1]
theorem ev_digit (c : Int) (h0 : 0 ≤ c) (h1 : c ≤ 255) : Ev (fun k => carouselref02_digit.f k c) (dig c) :=
  ⟨1, fun k hk => by obtain ⟨m, rfl⟩ : ∃ m, k = m + 1 := ⟨k - 1, by omega⟩; exact ref_digit m c h0 h1⟩

theorem ev_rparse_loop (s : ByteArray) (hs : s.size = 17) (d : Nat) : ∀ i : Nat, 6 - i = d → i ≤ 6 → okTo s (min (3 * i) 17) = true → Ev (fun k => carouselref02_Parse.l0 k s (valTo s (min (3 * i) 17)) (i : Int)) (macParse s) := by
  unfold macParse
  rw [if_pos hs]
  induction d with
  | zero =>
    intro i hi hi2 hok
    obtain rfl : i = 6 := by omega
    have hok' : okTo s 17 = true := hok
    rw [if_pos hok']
    refine Ev.step (f := fun _ => some (valTo s 17, 0)) (fun k => ?_) (Ev.now _)
    simp only [carouselref02_Parse.l0]
    rw [if_neg (by omega)]
    rfl
  | succ d ih =>
    intro i hi hi2 hok
    rw [Nat.min_eq_left (by omega)] at hok ⊢
    have hb0 := bt_range s (3 * i : Nat)
    have hb1 := bt_range s (3 * i + 1 : Nat)
    have hv := valTo_small s (3 * i) (by omega) hok
    have e0 : wrap64 (3 * (i : Int)) = ((3 * i : Nat) : Int) := by rw [mp_wrap (by omega) (by omega)]; omega
    have e1 : wrap64 (((3 * i : Nat) : Int) + 1) = ((3 * i + 1 : Nat) : Int) := mp_wrap (by omega) (by omega)
    have e2 : wrap64 (((3 * i : Nat) : Int) + 2) = ((3 * i + 2 : Nat) : Int) := mp_wrap (by omega) (by omega)
    have hfail : ∀ j : Nat, j < 17 → okAt s j = false → ¬ okTo s 17 = true := by
      intro j hj h
      have := okTo_false s (j + 1) (17 - (j + 1)) (by simp [okTo, h])
      rw [show j + 1 + (17 - (j + 1)) = 17 from by omega] at this
      rw [this]; simp
    have hm0 : ¬ (3 * i) % 3 = 2 := by omega
    have hm1 : ¬ (3 * i + 1) % 3 = 2 := by omega
    have hm2 : (3 * i + 2) % 3 = 2 := by omega
    -- is there a fault among these three?
    let bad : Bool := decide (dig (bt s (3 * i : Nat)) < 0) || decide (dig (bt s (3 * i + 1 : Nat)) < 0) || (decide (i < 5) && (bt s (3 * i + 2 : Nat) != 58))
    have start : ∀ (b : Bool) r, bad = b → Ev (fun k => carouselref02_Parse.j1 k s (valTo s (3 * i)) (i : Int) (dig (bt s (3 * i : Nat))) (dig (bt s (3 * i + 1 : Nat))) b) r → Ev (fun k => carouselref02_Parse.l0 k s (valTo s (3 * i)) (i : Int)) r := by
      intro b r hbb h
      refine Ev.step (f := fun k => (carouselref02_digit.f k (bt s (3 * i : Nat))).bind fun x => (carouselref02_digit.f k (bt s (3 * i + 1 : Nat))).bind fun y => (if x < 0 then (carouselref02_Parse.j1 k s (valTo s (3 * i)) (i : Int) x y true) else (if y < 0 then (carouselref02_Parse.j1 k s (valTo s (3 * i)) (i : Int) x y true) else (if (i : Int) < 5 then (carouselref02_Parse.j1 k s (valTo s (3 * i)) (i : Int) x y (bt s (3 * i + 2 : Nat) != 58)) else (carouselref02_Parse.j1 k s (valTo s (3 * i)) (i : Int) x y false))))) (fun k => ?_) ?_
      · simp only [carouselref02_Parse.l0]
        have q1 : (0 ≤ ((3 * i + 1 : Nat) : Int)) = True := eq_true (by omega)
        have q2 : (((3 * i + 1 : Nat) : Int) < (s.size : Int)) = True := eq_true (by omega)
        have q3 : (0 ≤ ((3 * i + 2 : Nat) : Int)) = True := eq_true (by omega)
        rw [if_pos (by omega), e0, if_pos (by omega), if_pos (by omega)]
        simp only [e1, e2, q1, q2, q3, if_true]
        by_cases h5 : (i : Int) < 5
        · have q4 : (((3 * i + 2 : Nat) : Int) < (s.size : Int)) = True := eq_true (by omega)
          simp only [q4, h5, if_true]
        · simp only [h5, if_false]
      · refine Ev.bind (ev_digit _ hb0.1 hb0.2) (Ev.bind (ev_digit _ hb1.1 hb1.2) (Ev.congr (fun k => ?_) h))
        by_cases c0 : dig (bt s (3 * i : Nat)) < 0
        · have hb' : bad = true := by simp only [bad, c0, decide_true, Bool.true_or]
          rw [if_pos c0, ← hbb, hb']
        · rw [if_neg c0]
          by_cases c1 : dig (bt s (3 * i + 1 : Nat)) < 0
          · have hb' : bad = true := by simp only [bad, c1, decide_true, Bool.true_or, Bool.or_true]
            rw [if_pos c1, ← hbb, hb']
          · rw [if_neg c1]
            by_cases h5 : (i : Int) < 5
            · have h5' : i < 5 := by omega
              have hb' : bad = (bt s (3 * i + 2 : Nat) != 58) := by simp only [bad, c0, c1, h5', decide_true, decide_false, Bool.false_or, Bool.true_and]
              rw [if_pos h5, ← hbb, hb']
            · have h5' : ¬ i < 5 := by omega
              have hb' : bad = false := by simp only [bad, c0, c1, h5', decide_false, Bool.false_or, Bool.false_and]
              rw [if_neg h5, ← hbb, hb']
    cases hbad : bad with
    | true =>
      have hno : ¬ okTo s 17 = true := by
        simp only [bad, Bool.or_eq_true, decide_eq_true_eq, Bool.and_eq_true, bne_iff_ne] at hbad
        rcases hbad with (h | h) | ⟨h5, h⟩
        · exact hfail (3 * i) (by omega) (by simp only [okAt, if_neg hm0, decide_eq_false_iff_not]; omega)
        · exact hfail (3 * i + 1) (by omega) (by simp only [okAt, if_neg hm1, decide_eq_false_iff_not]; omega)
        · exact hfail (3 * i + 2) (by omega) (by simp only [okAt, if_pos hm2]; simpa using h)
      rw [if_neg hno]
      refine start true _ hbad (Ev.step (f := fun _ => some (0, 3)) (fun k => ?_) (Ev.now _))
      simp only [carouselref02_Parse.j1]
      rw [if_pos trivial]
    | false =>
      have hgood : 0 ≤ dig (bt s (3 * i : Nat)) ∧ 0 ≤ dig (bt s (3 * i + 1 : Nat)) ∧ (i < 5 → bt s (3 * i + 2 : Nat) = 58) := by
        simp only [bad, Bool.or_eq_false_iff, decide_eq_false_iff_not, Bool.and_eq_false_iff, bne_eq_false_iff_eq] at hbad
        refine ⟨by omega, by omega, fun h => ?_⟩
        rcases hbad.2 with h2 | h2
        · exact absurd h h2
        · exact h2
      have o1 : okTo s (3 * i + 1) = true := by simp only [okTo, hok, okAt, if_neg hm0, Bool.true_and, decide_eq_true_eq]; exact hgood.1
      have o2 : okTo s (3 * i + 2) = true := by simp only [okTo, okAt, if_neg hm1, Bool.and_eq_true, decide_eq_true_eq]; exact ⟨by have := o1; simp only [okTo, Bool.and_eq_true] at this; simpa [okAt] using this, hgood.2.1⟩
      have v1 : valTo s (3 * i + 1) = valTo s (3 * i) * 16 + dig (bt s (3 * i : Nat)) := by simp only [valTo, if_neg hm0]
      have v2 : valTo s (3 * i + 2) = (valTo s (3 * i) * 16 + dig (bt s (3 * i : Nat))) * 16 + dig (bt s (3 * i + 1 : Nat)) := by
        show (if (3 * i + 1) % 3 = 2 then _ else valTo s (3 * i + 1) * 16 + dig (bt s ((3 * i + 1 : Nat) : Nat))) = _
        rw [if_neg hm1, v1]
      have hnext : okTo s (min (3 * (i + 1)) 17) = true ∧ valTo s (min (3 * (i + 1)) 17) = valTo s (3 * i + 2) := by
        by_cases h5 : i < 5
        · rw [Nat.min_eq_left (by omega)]
          have o3 : okTo s (3 * i + 3) = true := by
            show (okTo s (3 * i + 2) && okAt s (3 * i + 2)) = true
            rw [o2]; simp only [okAt, if_pos hm2, Bool.true_and, beq_iff_eq]; exact hgood.2.2 h5
          refine ⟨o3, ?_⟩
          show (if (3 * i + 2) % 3 = 2 then valTo s (3 * i + 2) else _) = _
          rw [if_pos hm2]
        · rw [Nat.min_eq_right (by omega), show 17 = 3 * i + 2 from by omega]
          exact ⟨o2, rfl⟩
      have h := ih (i + 1) (by omega) (by omega) hnext.1
      rw [hnext.2, v2] at h
      have d0 := dig_range (bt s (3 * i : Nat))
      have d1 := dig_range (bt s (3 * i + 1 : Nat))
      refine start false _ hbad (Ev.step (fun k => ?_) h)
      simp only [carouselref02_Parse.j1]
      generalize dig (bt s (3 * i : Nat)) = x at *
      generalize dig (bt s (3 * i + 1 : Nat)) = y at *
      generalize valTo s (3 * i) = v at *
      rw [if_neg (by simp), mp_wrap (n := x * 16) (by omega) (by omega), mp_wrap (n := x * 16 + y) (by omega) (by omega), mp_u64 (n := v * 256) (by omega) (by omega), mp_u64 (n := x * 16 + y) (by omega) (by omega), mp_u64 (by omega) (by omega), mp_wrap (by omega) (by omega)]
      rw [show v * 256 + (x * 16 + y) = (v * 16 + x) * 16 + y from by omega]
      rfl

/-- The document's Parse. -/
theorem ev_refparse (s : ByteArray) : Ev (fun k => carouselref02_Parse.f k s) (macParse s) := by
  by_cases hs : s.size = 17
  · have h := ev_rparse_loop s hs _ 0 rfl (by omega) rfl
    refine Ev.congr (fun k => ?_) h
    unfold carouselref02_Parse.f
    rw [if_pos (by omega)]
    rfl
  · refine Ev.congr (f := fun _ => some (macParse s)) (fun k => ?_) (Ev.now _)
    unfold carouselref02_Parse.f macParse
    rw [if_neg (by omega), if_neg hs]

end Go.Proofs.Ytmdaaphjndjakad.LAll
