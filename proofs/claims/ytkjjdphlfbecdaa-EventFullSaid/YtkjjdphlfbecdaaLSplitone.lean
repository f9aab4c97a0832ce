/- Split, the program's, as printed: it comes to the plain word split. -/
import Derived.Test.YtkjjdphlfbecdaaPonex1
import Derived.Test.YtkjjdphlfbecdaaGvSplit
namespace Go.Proofs.Ytkjjdphlfbecdaa.Lone
open Go.RowKit Go.Proofs.Ytkjjdphlfbecdaa.Pone Go.Proofs.YtkjjdphlfbecdaaW.PrintWords Go.Proofs.YtkjjdphlfbecdaaW.PrintLast Go.Proofs.YtkjjdphlfbecdaaW.PrintMore Go.Proofs.Ytkjjdphlfbecdaa
set_option linter.unusedVariables false
set_option linter.unusedSimpArgs false

theorem sw_wrap {n : Int} (h0 : -9223372036854775808 ≤ n) (h1 : n ≤ 9223372036854775807) : wrap64 n = n := by unfold wrap64; omega
theorem sw_u64 {n : Int} (h0 : 0 ≤ n) (h1 : n ≤ 18446744073709551615) : IntKind.u64.wrap n = n := by simp [IntKind.wrap, IntKind.bits, IntKind.signed]; omega
theorem sw_rd {l : List Int} {i : Nat} (h : i < l.length) : rd l (i : Int) = l[i] := by unfold rd; simp [List.getD_eq_getElem?_getD, h]
theorem sw_take {l : List Int} {i : Nat} (h : i < l.length) : l.take (i + 1) = l.take i ++ [l[i]] := List.take_succ_eq_append_getElem h

theorem sum_snoc (l : List Int) (b : Int) : Gv.sumW (l ++ [b]) = Gv.sumW l + b := by unfold Gv.sumW; rw [List.foldl_append]; rfl
theorem sum_bound (l : List Int) (h : Gv.okW l = true) : 0 ≤ Gv.sumW l ∧ Gv.sumW l ≤ 64 * l.length ∧ (l.length : Int) ≤ Gv.sumW l := by
  have key : ∀ l : List Int, Gv.okW l = true → 0 ≤ Gv.sumW l ∧ Gv.sumW l ≤ 64 * l.length ∧ (l.length : Int) ≤ Gv.sumW l := by
    refine fun l => Gv.rev_ind (P := fun l => Gv.okW l = true → 0 ≤ Gv.sumW l ∧ Gv.sumW l ≤ 64 * l.length ∧ (l.length : Int) ≤ Gv.sumW l) (fun _ => by simp [Gv.sumW]) (fun l b ih h => ?_) l
    simp only [Gv.okW, List.all_append, Bool.and_eq_true, List.all_cons, List.all_nil, decide_eq_true_eq] at h
    have := ih (by simp only [Gv.okW]; exact h.1)
    rw [sum_snoc, List.length_append, List.length_singleton]
    omega
  exact key l h
theorem okW_take {l : List Int} (h : Gv.okW l = true) (i : Nat) : Gv.okW (l.take i) = true := by
  simp only [Gv.okW, List.all_eq_true] at *
  exact fun x hx => h x (List.mem_of_mem_take hx)
theorem okW_get {l : List Int} (h : Gv.okW l = true) {i : Nat} (hi : i < l.length) : 1 ≤ l[i] ∧ l[i] ≤ 64 := by
  simp only [Gv.okW, List.all_eq_true] at h
  have := h l[i] (List.getElem_mem hi)
  simpa using this

/-! ### the program's sum of widths -/
theorem may_f (x : Int) : field_may.f x = some (decide (1 ≤ x) && decide (x ≤ 64)) := by
  unfold field_may.f
  by_cases h : x ≥ 1
  · rw [if_pos h]; simp [h]
  · rw [if_neg h]; simp [h]

theorem ev_sum_loop (l : List Int) (hl : l.length ≤ 1000) (d : Nat) : ∀ i : Nat, l.length - i = d → i ≤ l.length → Gv.okW (l.take i) = true →
    Ev (fun k => field_sum.l0 k (Gv.sumW (l.take i)) l (l.length : Int) (i : Int)) (if Gv.okW l = true then Gv.sumW l else -1) := by
  induction d with
  | zero =>
    intro i hi hi2 hok
    rw [List.take_of_length_le (by omega)] at hok ⊢
    rw [if_pos hok]
    refine Ev.step (f := fun _ => some (Gv.sumW l)) (fun k => ?_) (Ev.now _)
    simp only [field_sum.l0]
    rw [if_neg (by omega)]
  | succ d ih =>
    intro i hi hi2 hok
    have hil : i < l.length := by omega
    have hb := sum_bound _ hok
    have hlt : ((l.take i).length : Int) ≤ i := by have := List.length_take_le i l; omega
    by_cases hm : 1 ≤ l[i] ∧ l[i] ≤ 64
    · have hokn : Gv.okW (l.take (i + 1)) = true := by
        rw [sw_take hil]; simp only [Gv.okW, List.all_append, Bool.and_eq_true]
        exact ⟨hok, by simp [hm.1, hm.2]⟩
      have h := ih (i + 1) (by omega) (by omega) hokn
      rw [sw_take hil, sum_snoc] at h
      refine Ev.step (fun k => ?_) h
      simp only [field_sum.l0]
      rw [if_pos (by omega), if_pos (by omega), if_pos (by omega), sw_rd hil, may_f]
      simp only [hm.1, hm.2, decide_true, Bool.and_self, Option.bind_some, if_true]
      rw [sw_wrap (by omega) (by omega), sw_wrap (by omega) (by omega)]
      rfl
    · have hbad : ¬ Gv.okW l = true := fun h => hm (okW_get h hil)
      rw [if_neg hbad]
      refine Ev.step (f := fun _ => some (-1)) (fun k => ?_) (Ev.now _)
      simp only [field_sum.l0]
      rw [if_pos (by omega), if_pos (by omega), if_pos (by omega), sw_rd hil, may_f]
      have : (decide (1 ≤ l[i]) && decide (l[i] ≤ 64)) = false := by
        rw [Bool.and_eq_false_iff]; simp only [decide_eq_false_iff_not]; omega
      rw [this]; simp

theorem ev_sum (l : List Int) (hl : l.length ≤ 1000) : Ev (fun k => field_sum.f k l) (if Gv.okW l = true then Gv.sumW l else -1) := by
  have h := ev_sum_loop l hl _ 0 rfl (by omega) (by simp [Gv.okW])
  exact h

/-! ### bits of a string -/
theorem sBits_get (s : ByteArray) (p : Nat) (h : p < 8 * s.size) : (Gv.sBits s)[p]'(by rw [Gv.sBits_length]; exact h) = bt s (p / 8 : Nat) / 2 ^ (7 - p % 8) % 2 := by
  have key : ∀ (l : List Int) (p : Nat) (h : p < 8 * l.length), (l.flatMap fun b => Gv.bitsOf 8 b)[p]? = some (l.getD (p / 8) 0 / 2 ^ (7 - p % 8) % 2) := by
    intro l
    induction l with
    | nil => intro p h; simp at h
    | cons b l ih =>
      intro p h
      rw [List.flatMap_cons]
      by_cases hp : p < 8
      · rw [List.getElem?_append_left (by rw [Gv.bitsOf_length]; exact hp), show p / 8 = 0 from by omega, show p % 8 = p from by omega]
        rw [List.getElem?_eq_getElem (by rw [Gv.bitsOf_length]; exact hp)]
        simp [Gv.bitsOf]
      · rw [List.getElem?_append_right (by rw [Gv.bitsOf_length]; omega), Gv.bitsOf_length, ih (p - 8) (by simp at h; omega), show (p - 8) / 8 = p / 8 - 1 from by omega, show (p - 8) % 8 = p % 8 from by omega]
        obtain ⟨q, hq⟩ : ∃ q, p / 8 = q + 1 := ⟨p / 8 - 1, by omega⟩
        rw [hq]; simp
  have h2 := key (bytesOf s) p (by rw [bytesOf_length]; exact h)
  have h3 : (bytesOf s).getD (p / 8) 0 = bt s (p / 8 : Nat) := by
    rw [← rd_bytesOf]; rfl
  rw [h3] at h2
  exact (List.getElem?_eq_some_iff.1 h2).2

theorem wraps_u8' (n : Int) (h₀ : 0 ≤ n) (h₁ : n < 2 ^ 8) : IntKind.u8.wrap n = n := wraps_u8 n h₀ h₁
theorem wraps_u64' (n : Int) (h₀ : 0 ≤ n) (h₁ : n < 2 ^ 64) : IntKind.u64.wrap n = n := sw_u64 h₀ (by omega)
theorem div2_range (v : Int) (m : Nat) (h0 : 0 ≤ v) (h1 : v ≤ 255) : 0 ≤ v / 2 ^ m ∧ v / 2 ^ m ≤ 255 :=
  ⟨Int.ediv_nonneg h0 (Int.le_of_lt (Int.pow_pos (by decide))), Int.le_trans (Int.ediv_le_self _ h0) h1⟩
theorem pow_le_63 {m : Nat} (h : m ≤ 63) : (2 : Int) ^ m ≤ 9223372036854775808 := by
  have h1 : (2 : Int) ^ m ≤ 2 ^ 63 := by
    have := Nat.pow_le_pow_right (show 0 < 2 by decide) h
    exact_mod_cast this
  exact Int.le_trans h1 (by decide)
theorem pow_le_64 {m : Nat} (h : m ≤ 64) : (2 : Int) ^ m ≤ 18446744073709551616 := by
  have h1 : (2 : Int) ^ m ≤ 2 ^ 64 := by
    have := Nat.pow_le_pow_right (show 0 < 2 by decide) h
    exact_mod_cast this
  exact Int.le_trans h1 (by decide)
/-- One bit of the program's Split. -/
theorem split_bit (x : Int) (b : Int) (m : Nat) (hm : m ≤ 7) (hx0 : 0 ≤ x) (hx1 : x < 9223372036854775808) (hb0 : 0 ≤ b) (hb1 : b ≤ 255) :
    Go.bits .or .u64 (IntKind.u64.wrap (x * 2)) (IntKind.u64.wrap (Go.bits .and .u8 (shr .u8 b (m : Int)) 1)) = x * 2 + b / 2 ^ m % 2 := by
  have e1 : shr .u8 b (m : Int) = b / 2 ^ m := by
    unfold shr
    rw [Int.toNat_natCast, Nat.min_eq_left (by simp [IntKind.bits]; omega)]
  have hr := div2_range b m hb0 hb1
  have e2 : Go.bits .and .u8 (b / 2 ^ m) 1 = b / 2 ^ m % 2 := bits_mask .u8 8 (by decide) wraps_u8 1 (by decide) _ hr.1 (by omega)
  rw [e1, e2, sw_u64 (by omega) (by omega), sw_u64 (by omega) (by omega)]
  exact bits_join .u64 64 (by decide) wraps_u64' 1 _ _ (by omega) (by omega) (by omega) (by omega) (by omega) (by omega)

theorem valOf_take_succ {l : List Int} {p : Nat} (h : p < l.length) : Gv.valOf (l.take (p + 1)) = Gv.valOf (l.take p) * 2 + l[p] := by rw [sw_take h, Gv.valOf_snoc]

/-- The inner loop: one part. -/
theorem ev_part (s : ByteArray) (hs : s.size ≤ 100000) (n : Int) (out ws : List Int) (i : Int) (at_ w : Nat) (hw : w ≤ 64) (ha : at_ + w ≤ 8 * s.size) (hout : out.length ≤ 1000) (r : List Int × ByteArray × Int)
    (hk : Ev (fun k => field_Split.l0 k s n (out ++ [Gv.valOf (((Gv.sBits s).drop at_).take w)]) ((at_ + w : Nat) : Int) ws (ws.length : Int) (wrap64 (i + 1))) r) (d : Nat) :
    ∀ j : Nat, w - j = d → j ≤ w → Ev (fun k => field_Split.l1 k s n out ((at_ + j : Nat) : Int) (Gv.valOf (((Gv.sBits s).drop at_).take j)) ws (ws.length : Int) i (w : Int) (j : Int)) r := by
  have hlen := Gv.sBits_length s
  induction d with
  | zero =>
    intro j hj hj2
    obtain rfl : j = w := by omega
    refine Ev.step (fun k => ?_) hk
    simp only [field_Split.l1]
    rw [if_neg (by omega), if_pos (by omega)]
  | succ d ih =>
    intro j hj hj2
    have h := ih (j + 1) (by omega) (by omega)
    have hjl : j < ((Gv.sBits s).drop at_).length := by rw [List.length_drop, hlen]; omega
    rw [valOf_take_succ hjl, List.getElem_drop, sBits_get s (at_ + j) (by omega)] at h
    have hbits : Gv.IsBits (((Gv.sBits s).drop at_).take j) := fun b hb => Gv.sBits_bits s b (List.mem_of_mem_drop (List.mem_of_mem_take hb))
    have hv := Gv.valOf_range hbits
    have hlj : (((Gv.sBits s).drop at_).take j).length = j := by rw [List.length_take]; omega
    rw [hlj] at hv
    have hp := pow_le_63 (show j ≤ 63 by omega)
    have hbt := bt_range s ((at_ + j) / 8 : Nat)
    refine Ev.step (fun k => ?_) h
    simp only [field_Split.l1]
    have t1 : wrap64 (Int.tdiv ((at_ + j : Nat) : Int) 8) = (((at_ + j) / 8 : Nat) : Int) := by
      rw [Int.tdiv_eq_ediv_of_nonneg (by omega), sw_wrap (by omega) (by omega)]; omega
    have t2 : wrap64 (7 - Int.tmod ((at_ + j : Nat) : Int) 8) = ((7 - (at_ + j) % 8 : Nat) : Int) := by
      rw [Int.tmod_eq_emod_of_nonneg (by omega), sw_wrap (by omega) (by omega)]; omega
    rw [if_pos (by omega), t1, if_pos (by omega), if_pos (by omega), t2, if_pos (by omega)]
    rw [split_bit _ _ (7 - (at_ + j) % 8) (by omega) hv.1 (by omega) hbt.1 hbt.2, sw_wrap (by omega) (by omega), sw_wrap (by omega) (by omega)]
    rfl

theorem vals_snoc (bits : List Int) (ws : List Int) (hok : Gv.okW ws = true) (w : Int) : Gv.vals bits (ws ++ [w]) = Gv.vals bits ws ++ [Gv.valOf ((bits.drop (Gv.sumW ws).toNat).take w.toNat)] := by
  have key : ∀ (ws bits : List Int) (a : Int), Gv.okW ws = true → Gv.vals bits (ws ++ [w]) = Gv.vals bits ws ++ [Gv.valOf ((bits.drop (Gv.sumW ws).toNat).take w.toNat)] := by
    intro ws
    induction ws with
    | nil => intro bits a _; simp [Gv.vals, Gv.sumW]
    | cons x ws ih =>
      intro bits a h
      simp only [Gv.okW, List.all_cons, Bool.and_eq_true, decide_eq_true_eq] at h
      have h2 := ih (bits.drop x.toNat) a (by simp only [Gv.okW]; exact h.2)
      have hb := sum_bound ws (by simp only [Gv.okW]; exact h.2)
      have hs : Gv.sumW (x :: ws) = x + Gv.sumW ws := by
        have : ∀ (l : List Int) (c : Int), l.foldl (· + ·) c = c + l.foldl (· + ·) 0 := by
          intro l
          induction l with
          | nil => intro c; simp
          | cons y l ih2 => intro c; rw [List.foldl_cons, ih2, List.foldl_cons, ih2 (0 + y)]; omega
        unfold Gv.sumW
        rw [List.foldl_cons, this]; omega
      simp only [List.cons_append, Gv.vals, h2]
      rw [List.drop_drop, hs, show (x + Gv.sumW ws).toNat = x.toNat + (Gv.sumW ws).toNat from by omega]
  exact key ws bits 0 hok

theorem vals_length (ws : List Int) (bits : List Int) : (Gv.vals bits ws).length = ws.length := by
  induction ws generalizing bits with
  | nil => rfl
  | cons x ws ih => simp [Gv.vals, ih]

theorem sum_take_le (l : List Int) (h : Gv.okW l = true) (i : Nat) (hi : i < l.length) : Gv.sumW (l.take i) + l[i] ≤ Gv.sumW l := by
  have key : ∀ d : Nat, ∀ j : Nat, l.length - j = d → j ≤ l.length → Gv.sumW (l.take j) ≤ Gv.sumW l := by
    intro d
    induction d with
    | zero => intro j hj hj2; rw [List.take_of_length_le (by omega)]; omega
    | succ d ih =>
      intro j hj hj2
      have h1 := ih (j + 1) (by omega) (by omega)
      have hj3 : j < l.length := by omega
      rw [sw_take hj3, sum_snoc] at h1
      have := okW_get h hj3
      omega
  have := key _ (i + 1) rfl (by omega)
  rwa [sw_take hi, sum_snoc] at this

theorem ev_split_loop (s : ByteArray) (hs : s.size ≤ 100000) (ws : List Int) (hl : ws.length ≤ 1000) (hok : Gv.okW ws = true) (h8 : Gv.sumW ws % 8 = 0) (hsz : Gv.sumW ws / 8 ≤ (s.size : Int)) (d : Nat) :
    ∀ i : Nat, ws.length - i = d → i ≤ ws.length →
    Ev (fun k => field_Split.l0 k s (Gv.sumW ws) (Gv.vals (Gv.sBits s) (ws.take i)) (Gv.sumW (ws.take i)) ws (ws.length : Int) (i : Int)) (Gv.vals (Gv.sBits s) ws, s.extract (Gv.sumW ws / 8).toNat s.size, 0) := by
  have hb := sum_bound ws hok
  have e1 : wrap64 (Int.tdiv (Gv.sumW ws) 8) = Gv.sumW ws / 8 := by rw [Int.tdiv_eq_ediv_of_nonneg hb.1, sw_wrap (by omega) (by omega)]
  induction d with
  | zero =>
    intro i hi hi2
    rw [List.take_of_length_le (by omega)]
    refine Ev.step (f := fun _ => some (Gv.vals (Gv.sBits s) ws, s.extract (Gv.sumW ws / 8).toNat s.size, 0)) (fun k => ?_) (Ev.now _)
    simp only [field_Split.l0]
    rw [if_neg (by omega), e1, if_pos (by omega), if_pos (by omega)]
  | succ d ih =>
    intro i hi hi2
    have hil : i < ws.length := by omega
    have h := ih (i + 1) (by omega) (by omega)
    have hwi := okW_get hok hil
    have hok2 := okW_take hok i
    have hb2 := sum_bound _ hok2
    have hle := sum_take_le ws hok i hil
    rw [sw_take hil, vals_snoc _ _ hok2, sum_snoc] at h
    obtain ⟨a, ha⟩ := Int.eq_ofNat_of_zero_le hb2.1
    obtain ⟨w, hw⟩ := Int.eq_ofNat_of_zero_le (show 0 ≤ ws[i] by omega)
    rw [hw, ha, Int.toNat_natCast, Int.toNat_natCast] at h
    have hp := ev_part s hs (Gv.sumW ws) (Gv.vals (Gv.sBits s) (ws.take i)) ws (i : Int) a w (by omega) (by omega) (by rw [vals_length, List.length_take]; omega) _ (by
      rw [sw_wrap (by omega) (by omega)]
      exact h) w 0 rfl (by omega)
    refine Ev.step (fun k => ?_) hp
    simp only [field_Split.l0]
    rw [if_pos (by omega), if_pos (by omega), if_pos (by omega), sw_rd hil, hw, ha]
    rfl

/-- The program's Split. -/
theorem ev_split (s : ByteArray) (hs : s.size ≤ 100000) (ws : List Int) (hl : ws.length ≤ 1000) : Ev (fun k => field_Split.f k s ws) (Gv.split s ws) := by
  have hsum := ev_sum ws hl
  simp only [field_Split.f]
  refine Ev.bind hsum ?_
  unfold Gv.split
  by_cases hok : Gv.okW ws = true
  · rw [if_pos hok, if_pos hok]
    have hb := sum_bound ws hok
    have e1 : wrap64 (Int.tdiv (Gv.sumW ws) 8) = Gv.sumW ws / 8 := by rw [Int.tdiv_eq_ediv_of_nonneg hb.1, sw_wrap (by omega) (by omega)]
    have e2 : Int.tmod (Gv.sumW ws) 8 = Gv.sumW ws % 8 := Int.tmod_eq_emod_of_nonneg hb.1
    by_cases h8 : Gv.sumW ws % 8 = 0
    · rw [if_pos h8]
      by_cases hz : Gv.sumW ws / 8 > (s.size : Int)
      · rw [if_pos hz]
        refine Ev.congr (fun k => ?_) (Ev.now _)
        rw [if_neg (by omega), e2, if_pos h8, e1, if_pos hz]
      · rw [if_neg hz]
        have h := ev_split_loop s hs ws hl hok h8 (by omega) _ 0 rfl (by omega)
        refine Ev.congr (fun k => ?_) h
        rw [if_neg (by omega), e2, if_pos h8, e1, if_neg hz]
        rfl
    · rw [if_neg h8]
      refine Ev.congr (fun k => ?_) (Ev.now _)
      rw [if_neg (by omega), e2, if_neg h8]
  · rw [if_neg hok, if_neg hok]
    refine Ev.congr (fun k => ?_) (Ev.now _)
    rw [if_pos (by decide)]

end Go.Proofs.Ytkjjdphlfbecdaa.Lone
