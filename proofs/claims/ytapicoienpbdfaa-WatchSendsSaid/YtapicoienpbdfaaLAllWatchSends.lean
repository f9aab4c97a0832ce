/- The plain lemmas that this claim's law stands on, in one text. -/
import Derived.Test.YtapicoienpbdfaaPWatchSendsx3
import Derived.Test.YtapicoienpbdfaaGvSplit
import Derived.Test.YtapicoienpbdfaaGvBytes
import Derived.Test.YtapicoienpbdfaaGvBit
import Derived.Test.YtapicoienpbdfaaPWatchSendsx4
import Derived.Test.YtapicoienpbdfaaPWatchSendsx1
import Derived.Test.YtapicoienpbdfaaGvNum
import Derived.Test.YtapicoienpbdfaaPWatchSendsx2
import Derived.Test.YtapicoienpbdfaaGvRapsRead
import Derived.Test.YtapicoienpbdfaaGvCcm
import Derived.Test.YtapicoienpbdfaaPWatchSendsx5
import Derived.Test.YtapicoienpbdfaaPWatchSendsx6
/- Split, the program's, as printed: it comes to the plain word split. -/
namespace Go.Proofs.Ytapicoienpbdfaa.LWatchSends
open Go.RowKit Go.Proofs.Ytapicoienpbdfaa.PWatchSends Go.Proofs.YtapicoienpbdfaaW.PrintWords Go.Proofs.YtapicoienpbdfaaW.PrintLast Go.Proofs.YtapicoienpbdfaaW.PrintMore Go.Proofs.Ytapicoienpbdfaa
set_option linter.unusedVariables false
set_option linter.unusedSimpArgs false

theorem sw_wrap {n : Int} (h0 : -9223372036854775808 ≤ n) (h1 : n ≤ 9223372036854775807) : wrap64 n = n := by unfold wrap64; omega
theorem sw_u64 {n : Int} (h0 : 0 ≤ n) (h1 : n ≤ 18446744073709551615) : IntKind.u64.wrap n = n := by simp [IntKind.wrap, IntKind.bits, IntKind.signed]; omega
theorem sw_rd {l : List Int} {i : Nat} (h : i < l.length) : rd l (i : Int) = l[i] := by unfold rd; simp [List.getD_eq_getElem?_getD, h]
theorem sw_take {l : List Int} {i : Nat} (h : i < l.length) : l.take (i + 1) = l.take i ++ [l[i]] := List.take_succ_eq_append_getElem h

theorem sum_snoc (l : List Int) (b : Int) : Gv.sumW (l ++ [b]) = Gv.sumW l + b := by unfold Gv.sumW; rw [List.foldl_append]; rfl
theorem sum_bound (l : List Int) (h : Gv.okW l = true) : 0 ≤ Gv.sumW l ∧ Gv.sumW l ≤ 64 * l.length ∧ (l.length : Int) ≤ Gv.sumW l := by
  have key : ∀ l : List Int, Gv.okW l = true → 0 ≤ Gv.sumW l ∧ Gv.sumW l ≤ 64 * l.length ∧ (l.length : Int) ≤ Gv.sumW l := by
    refine fun l => Gv.rev_ind (P := fun l => Gv.okW l = true → 0 ≤ Gv.sumW l ∧ Gv.sumW l ≤ 64 * l.length ∧ (l.length : Int) ≤ Gv.sumW l) (fun _ => by simp [Gv.sumW]) (fun l b ih h => ?_) l
    simp only [Gv.okW, List.all_append, Bool.and_eq_true, List.all_cons, List.all_nil, decide_eq_true_eq] at h
    have := ih (by simp only [Gv.okW]; exact h.1)
    rw [sum_snoc, List.length_append, List.length_singleton]
    omega
  exact key l h
theorem okW_take {l : List Int} (h : Gv.okW l = true) (i : Nat) : Gv.okW (l.take i) = true := by
  simp only [Gv.okW, List.all_eq_true] at *
  exact fun x hx => h x (List.mem_of_mem_take hx)
theorem okW_get {l : List Int} (h : Gv.okW l = true) {i : Nat} (hi : i < l.length) : 1 ≤ l[i] ∧ l[i] ≤ 64 := by
  simp only [Gv.okW, List.all_eq_true] at h
  have := h l[i] (List.getElem_mem hi)
  simpa using this

/-! ### the program's sum of widths -/
theorem may_f (x : Int) : field_may.f x = some (decide (1 ≤ x) && decide (x ≤ 64)) := by
  unfold field_may.f
  by_cases h : x ≥ 1
  · rw [if_pos h]; simp [h]
  · rw [if_neg h]; simp [h]

theorem ev_sum_loop (l : List Int) (hl : l.length ≤ 1000) (d : Nat) : ∀ i : Nat, l.length - i = d → i ≤ l.length → Gv.okW (l.take i) = true →
    Ev (fun k => field_sum.l0 k (Gv.sumW (l.take i)) l (l.length : Int) (i : Int)) (if Gv.okW l = true then Gv.sumW l else -1) := by
  induction d with
  | zero =>
    intro i hi hi2 hok
    rw [List.take_of_length_le (by omega)] at hok ⊢
    rw [if_pos hok]
    refine Ev.step (f := fun _ => some (Gv.sumW l)) (fun k => ?_) (Ev.now _)
    simp only [field_sum.l0]
    rw [if_neg (by omega)]
  | succ d ih =>
    intro i hi hi2 hok
    have hil : i < l.length := by omega
    have hb := sum_bound _ hok
    have hlt : ((l.take i).length : Int) ≤ i := by have := List.length_take_le i l; omega
    by_cases hm : 1 ≤ l[i] ∧ l[i] ≤ 64
    · have hokn : Gv.okW (l.take (i + 1)) = true := by
        rw [sw_take hil]; simp only [Gv.okW, List.all_append, Bool.and_eq_true]
        exact ⟨hok, by simp [hm.1, hm.2]⟩
      have h := ih (i + 1) (by omega) (by omega) hokn
      rw [sw_take hil, sum_snoc] at h
      refine Ev.step (fun k => ?_) h
      simp only [field_sum.l0]
      rw [if_pos (by omega), if_pos (by omega), if_pos (by omega), sw_rd hil, may_f]
      simp only [hm.1, hm.2, decide_true, Bool.and_self, Option.bind_some, if_true]
      rw [sw_wrap (by omega) (by omega), sw_wrap (by omega) (by omega)]
      rfl
    · have hbad : ¬ Gv.okW l = true := fun h => hm (okW_get h hil)
      rw [if_neg hbad]
      refine Ev.step (f := fun _ => some (-1)) (fun k => ?_) (Ev.now _)
      simp only [field_sum.l0]
      rw [if_pos (by omega), if_pos (by omega), if_pos (by omega), sw_rd hil, may_f]
      have : (decide (1 ≤ l[i]) && decide (l[i] ≤ 64)) = false := by
        rw [Bool.and_eq_false_iff]; simp only [decide_eq_false_iff_not]; omega
      rw [this]; simp

theorem ev_sum (l : List Int) (hl : l.length ≤ 1000) : Ev (fun k => field_sum.f k l) (if Gv.okW l = true then Gv.sumW l else -1) := by
  have h := ev_sum_loop l hl _ 0 rfl (by omega) (by simp [Gv.okW])
  exact h

/-! ### bits of a string -/
theorem sBits_get (s : ByteArray) (p : Nat) (h : p < 8 * s.size) : (Gv.sBits s)[p]'(by rw [Gv.sBits_length]; exact h) = bt s (p / 8 : Nat) / 2 ^ (7 - p % 8) % 2 := by
  have key : ∀ (l : List Int) (p : Nat) (h : p < 8 * l.length), (l.flatMap fun b => Gv.bitsOf 8 b)[p]? = some (l.getD (p / 8) 0 / 2 ^ (7 - p % 8) % 2) := by
    intro l
    induction l with
    | nil => intro p h; simp at h
    | cons b l ih =>
      intro p h
      rw [List.flatMap_cons]
      by_cases hp : p < 8
      · rw [List.getElem?_append_left (by rw [Gv.bitsOf_length]; exact hp), show p / 8 = 0 from by omega, show p % 8 = p from by omega]
        rw [List.getElem?_eq_getElem (by rw [Gv.bitsOf_length]; exact hp)]
        simp [Gv.bitsOf]
      · rw [List.getElem?_append_right (by rw [Gv.bitsOf_length]; omega), Gv.bitsOf_length, ih (p - 8) (by simp at h; omega), show (p - 8) / 8 = p / 8 - 1 from by omega, show (p - 8) % 8 = p % 8 from by omega]
        obtain ⟨q, hq⟩ : ∃ q, p / 8 = q + 1 := ⟨p / 8 - 1, by omega⟩
        rw [hq]; simp
  have h2 := key (bytesOf s) p (by rw [bytesOf_length]; exact h)
  have h3 : (bytesOf s).getD (p / 8) 0 = bt s (p / 8 : Nat) := by
    rw [← rd_bytesOf]; rfl
  rw [h3] at h2
  exact (List.getElem?_eq_some_iff.1 h2).2

theorem wraps_u8' (n : Int) (h₀ : 0 ≤ n) (h₁ : n < 2 ^ 8) : IntKind.u8.wrap n = n := wraps_u8 n h₀ h₁
theorem wraps_u64' (n : Int) (h₀ : 0 ≤ n) (h₁ : n < 2 ^ 64) : IntKind.u64.wrap n = n := sw_u64 h₀ (by omega)
theorem div2_range (v : Int) (m : Nat) (h0 : 0 ≤ v) (h1 : v ≤ 255) : 0 ≤ v / 2 ^ m ∧ v / 2 ^ m ≤ 255 :=
  ⟨Int.ediv_nonneg h0 (Int.le_of_lt (Int.pow_pos (by decide))), Int.le_trans (Int.ediv_le_self _ h0) h1⟩
theorem pow_le_63 {m : Nat} (h : m ≤ 63) : (2 : Int) ^ m ≤ 9223372036854775808 := by
  have h1 : (2 : Int) ^ m ≤ 2 ^ 63 := by
    have := Nat.pow_le_pow_right (show 0 < 2 by decide) h
    exact_mod_cast this
  exact Int.le_trans h1 (by decide)
theorem pow_le_64 {m : Nat} (h : m ≤ 64) : (2 : Int) ^ m ≤ 18446744073709551616 := by
  have h1 : (2 : Int) ^ m ≤ 2 ^ 64 := by
    have := Nat.pow_le_pow_right (show 0 < 2 by decide) h
    exact_mod_cast this
  exact Int.le_trans h1 (by decide)
/-- One bit of the program's Split. -/
theorem split_bit (x : Int) (b : Int) (m : Nat) (hm : m ≤ 7) (hx0 : 0 ≤ x) (hx1 : x < 9223372036854775808) (hb0 : 0 ≤ b) (hb1 : b ≤ 255) :
    Go.bits .or .u64 (IntKind.u64.wrap (x * 2)) (IntKind.u64.wrap (Go.bits .and .u8 (shr .u8 b (m : Int)) 1)) = x * 2 + b / 2 ^ m % 2 := by
  have e1 : shr .u8 b (m : Int) = b / 2 ^ m := by
    unfold shr
    rw [Int.toNat_natCast, Nat.min_eq_left (by simp [IntKind.bits]; omega)]
  have hr := div2_range b m hb0 hb1
  have e2 : Go.bits .and .u8 (b / 2 ^ m) 1 = b / 2 ^ m % 2 := bits_mask .u8 8 (by decide) wraps_u8 1 (by decide) _ hr.1 (by omega)
  rw [e1, e2, sw_u64 (by omega) (by omega), sw_u64 (by omega) (by omega)]
  exact bits_join .u64 64 (by decide) wraps_u64' 1 _ _ (by omega) (by omega) (by omega) (by omega) (by omega) (by omega)

theorem valOf_take_succ {l : List Int} {p : Nat} (h : p < l.length) : Gv.valOf (l.take (p + 1)) = Gv.valOf (l.take p) * 2 + l[p] := by rw [sw_take h, Gv.valOf_snoc]

/-- The inner loop: one part. -/
theorem ev_part (s : ByteArray) (hs : s.size ≤ 100000) (n : Int) (out ws : List Int) (i : Int) (at_ w : Nat) (hw : w ≤ 64) (ha : at_ + w ≤ 8 * s.size) (hout : out.length ≤ 1000) (r : List Int × ByteArray × Int)
    (hk : Ev (fun k => field_Split.l0 k s n (out ++ [Gv.valOf (((Gv.sBits s).drop at_).take w)]) ((at_ + w : Nat) : Int) ws (ws.length : Int) (wrap64 (i + 1))) r) (d : Nat) :
    ∀ j : Nat, w - j = d → j ≤ w → Ev (fun k => field_Split.l1 k s n out ((at_ + j : Nat) : Int) (Gv.valOf (((Gv.sBits s).drop at_).take j)) ws (ws.length : Int) i (w : Int) (j : Int)) r := by
  have hlen := Gv.sBits_length s
  induction d with
  | zero =>
    intro j hj hj2
    obtain rfl : j = w := by omega
    refine Ev.step (fun k => ?_) hk
    simp only [field_Split.l1]
    rw [if_neg (by omega), if_pos (by omega)]
  | succ d ih =>
    intro j hj hj2
    have h := ih (j + 1) (by omega) (by omega)
    have hjl : j < ((Gv.sBits s).drop at_).length := by rw [List.length_drop, hlen]; omega
    rw [valOf_take_succ hjl, List.getElem_drop, sBits_get s (at_ + j) (by omega)] at h
    have hbits : Gv.IsBits (((Gv.sBits s).drop at_).take j) := fun b hb => Gv.sBits_bits s b (List.mem_of_mem_drop (List.mem_of_mem_take hb))
    have hv := Gv.valOf_range hbits
    have hlj : (((Gv.sBits s).drop at_).take j).length = j := by rw [List.length_take]; omega
    rw [hlj] at hv
    have hp := pow_le_63 (show j ≤ 63 by omega)
    have hbt := bt_range s ((at_ + j) / 8 : Nat)
    refine Ev.step (fun k => ?_) h
    simp only [field_Split.l1]
    have t1 : wrap64 (Int.tdiv ((at_ + j : Nat) : Int) 8) = (((at_ + j) / 8 : Nat) : Int) := by
      rw [Int.tdiv_eq_ediv_of_nonneg (by omega), sw_wrap (by omega) (by omega)]; omega
    have t2 : wrap64 (7 - Int.tmod ((at_ + j : Nat) : Int) 8) = ((7 - (at_ + j) % 8 : Nat) : Int) := by
      rw [Int.tmod_eq_emod_of_nonneg (by omega), sw_wrap (by omega) (by omega)]; omega
    rw [if_pos (by omega), t1, if_pos (by omega), if_pos (by omega), t2, if_pos (by omega)]
    rw [split_bit _ _ (7 - (at_ + j) % 8) (by omega) hv.1 (by omega) hbt.1 hbt.2, sw_wrap (by omega) (by omega), sw_wrap (by omega) (by omega)]
    rfl

theorem vals_snoc (bits : List Int) (ws : List Int) (hok : Gv.okW ws = true) (w : Int) : Gv.vals bits (ws ++ [w]) = Gv.vals bits ws ++ [Gv.valOf ((bits.drop (Gv.sumW ws).toNat).take w.toNat)] := by
  have key : ∀ (ws bits : List Int) (a : Int), Gv.okW ws = true → Gv.vals bits (ws ++ [w]) = Gv.vals bits ws ++ [Gv.valOf ((bits.drop (Gv.sumW ws).toNat).take w.toNat)] := by
    intro ws
    induction ws with
    | nil => intro bits a _; simp [Gv.vals, Gv.sumW]
    | cons x ws ih =>
      intro bits a h
      simp only [Gv.okW, List.all_cons, Bool.and_eq_true, decide_eq_true_eq] at h
      have h2 := ih (bits.drop x.toNat) a (by simp only [Gv.okW]; exact h.2)
      have hb := sum_bound ws (by simp only [Gv.okW]; exact h.2)
      have hs : Gv.sumW (x :: ws) = x + Gv.sumW ws := by
        have : ∀ (l : List Int) (c : Int), l.foldl (· + ·) c = c + l.foldl (· + ·) 0 := by
          intro l
          induction l with
          | nil => intro c; simp
          | cons y l ih2 => intro c; rw [List.foldl_cons, ih2, List.foldl_cons, ih2 (0 + y)]; omega
        unfold Gv.sumW
        rw [List.foldl_cons, this]; omega
      simp only [List.cons_append, Gv.vals, h2]
      rw [List.drop_drop, hs, show (x + Gv.sumW ws).toNat = x.toNat + (Gv.sumW ws).toNat from by omega]
  exact key ws bits 0 hok

theorem vals_length (ws : List Int) (bits : List Int) : (Gv.vals bits ws).length = ws.length := by
  induction ws generalizing bits with
  | nil => rfl
  | cons x ws ih => simp [Gv.vals, ih]

theorem sum_take_le (l : List Int) (h : Gv.okW l = true) (i : Nat) (hi : i < l.length) : Gv.sumW (l.take i) + l[i] ≤ Gv.sumW l := by
  have key : ∀ d : Nat, ∀ j : Nat, l.length - j = d → j ≤ l.length → Gv.sumW (l.take j) ≤ Gv.sumW l := by
    intro d
    induction d with
    | zero => intro j hj hj2; rw [List.take_of_length_le (by omega)]; omega
    | succ d ih =>
      intro j hj hj2
      have h1 := ih (j + 1) (by omega) (by omega)
      have hj3 : j < l.length := by omega
      rw [sw_take hj3, sum_snoc] at h1
      have := okW_get h hj3
      omega
  have := key _ (i + 1) rfl (by omega)
  rwa [sw_take hi, sum_snoc] at this

theorem ev_split_loop (s : ByteArray) (hs : s.size ≤ 100000) (ws : List Int) (hl : ws.length ≤ 1000) (hok : Gv.okW ws = true) (h8 : Gv.sumW ws % 8 = 0) (hsz : Gv.sumW ws / 8 ≤ (s.size : Int)) (d : Nat) :
    ∀ i : Nat, ws.length - i = d → i ≤ ws.length →
    Ev (fun k => field_Split.l0 k s (Gv.sumW ws) (Gv.vals (Gv.sBits s) (ws.take i)) (Gv.sumW (ws.take i)) ws (ws.length : Int) (i : Int)) (Gv.vals (Gv.sBits s) ws, s.extract (Gv.sumW ws / 8).toNat s.size, 0) := by
  have hb := sum_bound ws hok
  have e1 : wrap64 (Int.tdiv (Gv.sumW ws) 8) = Gv.sumW ws / 8 := by rw [Int.tdiv_eq_ediv_of_nonneg hb.1, sw_wrap (by omega) (by omega)]
  induction d with
  | zero =>
    intro i hi hi2
    rw [List.take_of_length_le (by omega)]
    refine Ev.step (f := fun _ => some (Gv.vals (Gv.sBits s) ws, s.extract (Gv.sumW ws / 8).toNat s.size, 0)) (fun k => ?_) (Ev.now _)
    simp only [field_Split.l0]
    rw [if_neg (by omega), e1, if_pos (by omega), if_pos (by omega)]
  | succ d ih =>
    intro i hi hi2
    have hil : i < ws.length := by omega
    have h := ih (i + 1) (by omega) (by omega)
    have hwi := okW_get hok hil
    have hok2 := okW_take hok i
    have hb2 := sum_bound _ hok2
    have hle := sum_take_le ws hok i hil
    rw [sw_take hil, vals_snoc _ _ hok2, sum_snoc] at h
    obtain ⟨a, ha⟩ := Int.eq_ofNat_of_zero_le hb2.1
    obtain ⟨w, hw⟩ := Int.eq_ofNat_of_zero_le (show 0 ≤ ws[i] by omega)
    rw [hw, ha, Int.toNat_natCast, Int.toNat_natCast] at h
    have hp := ev_part s hs (Gv.sumW ws) (Gv.vals (Gv.sBits s) (ws.take i)) ws (i : Int) a w (by omega) (by omega) (by rw [vals_length, List.length_take]; omega) _ (by
      rw [sw_wrap (by omega) (by omega)]
      exact h) w 0 rfl (by omega)
    refine Ev.step (fun k => ?_) hp
    simp only [field_Split.l0]
    rw [if_pos (by omega), if_pos (by omega), if_pos (by omega), sw_rd hil, hw, ha]
    rfl

/-- The program's Split. -/
theorem ev_split (s : ByteArray) (hs : s.size ≤ 100000) (ws : List Int) (hl : ws.length ≤ 1000) : Ev (fun k => field_Split.f k s ws) (Gv.split s ws) := by
  have hsum := ev_sum ws hl
  simp only [field_Split.f]
  refine Ev.bind hsum ?_
  unfold Gv.split
  by_cases hok : Gv.okW ws = true
  · rw [if_pos hok, if_pos hok]
    have hb := sum_bound ws hok
    have e1 : wrap64 (Int.tdiv (Gv.sumW ws) 8) = Gv.sumW ws / 8 := by rw [Int.tdiv_eq_ediv_of_nonneg hb.1, sw_wrap (by omega) (by omega)]
    have e2 : Int.tmod (Gv.sumW ws) 8 = Gv.sumW ws % 8 := Int.tmod_eq_emod_of_nonneg hb.1
    by_cases h8 : Gv.sumW ws % 8 = 0
    · rw [if_pos h8]
      by_cases hz : Gv.sumW ws / 8 > (s.size : Int)
      · rw [if_pos hz]
        refine Ev.congr (fun k => ?_) (Ev.now _)
        rw [if_neg (by omega), e2, if_pos h8, e1, if_pos hz]
      · rw [if_neg hz]
        have h := ev_split_loop s hs ws hl hok h8 (by omega) _ 0 rfl (by omega)
        refine Ev.congr (fun k => ?_) h
        rw [if_neg (by omega), e2, if_pos h8, e1, if_neg hz]
        rfl
    · rw [if_neg h8]
      refine Ev.congr (fun k => ?_) (Ev.now _)
      rw [if_neg (by omega), e2, if_neg h8]
  · rw [if_neg hok, if_neg hok]
    refine Ev.congr (fun k => ?_) (Ev.now _)
    rw [if_pos (by decide)]

end Go.Proofs.Ytapicoienpbdfaa.LWatchSends

/- Open of layer 4, the program's: it comes to a plain word. -/
namespace Go.Proofs.Ytapicoienpbdfaa.LWatchSends
open Go.RowKit Go.Proofs.Ytapicoienpbdfaa.PWatchSends Go.Proofs.YtapicoienpbdfaaW.PrintWords Go.Proofs.YtapicoienpbdfaaW.PrintLast Go.Proofs.YtapicoienpbdfaaW.PrintMore Go.Proofs.Ytapicoienpbdfaa
set_option linter.unusedVariables false
set_option linter.unusedSimpArgs false

/-- The head and the content of bytes, or what is wrong. -/
def oamOpen (s : ByteArray) : Int × Int × Int × Int × Int × ByteArray × Int :=
  if s.size < 4 then (0, 0, 0, 0, 0, ⟨#[]⟩, 1)
  else if (s.size : Int) < 5 + bt s 3 then (0, 0, 0, 0, 0, ⟨#[]⟩, 1)
  else if bt s (4 + bt s 3) = 0 then (bt s 0 / 32, bt s 0 % 32, bt s 1, bt s 2, bt s 3, s.extract 4 (4 + bt s 3).toNat, 0)
  else (0, 0, 0, 0, 0, ⟨#[]⟩, 3)

theorem split_oam (s : ByteArray) (h : 4 ≤ s.size) : Gv.split s [3, 5, 8, 8, 8] = ([bt s 0 / 32, bt s 0 % 32, bt s 1, bt s 2, bt s 3], s.extract 4 s.size, 0) := by
  have e1 : Gv.okW [3, 5, 8, 8, 8] = true := by decide
  have e2 : Gv.sumW [3, 5, 8, 8, 8] = 32 := by decide
  unfold Gv.split
  rw [if_pos e1, e2, if_pos (by decide), if_neg (by omega)]
  have hh := Gv.bytesOf_head s 4 h
  simp only [List.range, List.range.loop, List.map, List.cons_append, List.nil_append] at hh
  have h0 := bt_range s 0; have h1 := bt_range s 1; have h2 := bt_range s 2; have h3 := bt_range s 3
  have e3 : Gv.sBits s = Gv.bitsOf 3 (bt s 0 / 32) ++ (Gv.bitsOf 5 (bt s 0) ++ (Gv.bitsOf 8 (bt s 1) ++ (Gv.bitsOf 8 (bt s 2) ++ (Gv.bitsOf 8 (bt s 3) ++ ((bytesOf s).drop 4).flatMap fun b => Gv.bitsOf 8 b)))) := by
    rw [Gv.sBits_cons hh, Gv.flat_cons, Gv.flat_cons, Gv.flat_cons, Gv.flat_cons, ← List.append_assoc (Gv.bitsOf 3 _)]
    congr 1
    exact Gv.bitsOf_add 3 5 (bt s 0)
  have e4 : Gv.vals (Gv.sBits s) [3, 5, 8, 8, 8] = [bt s 0 / 32, bt s 0 % 32, bt s 1, bt s 2, bt s 3] := by
    rw [e3, show ([3, 5, 8, 8, 8] : List Int) = ((3 : Nat) : Int) :: ((5 : Nat) : Int) :: ((8 : Nat) : Int) :: ((8 : Nat) : Int) :: ((8 : Nat) : Int) :: [] from rfl]
    rw [Gv.vals_cons, Gv.vals_cons, Gv.vals_cons, Gv.vals_cons, Gv.vals_cons, Gv.vals_none]
    have p3 : (2 : Int) ^ 3 = 8 := by decide
    have p5 : (2 : Int) ^ 5 = 32 := by decide
    have p8 : (2 : Int) ^ 8 = 256 := by decide
    rw [p3, p5, p8, Int.emod_eq_of_lt (a := bt s 0 / 32) (by omega) (by omega), Int.emod_eq_of_lt h1.1 (by omega), Int.emod_eq_of_lt h2.1 (by omega), Int.emod_eq_of_lt h3.1 (by omega)]
  rw [e4]
  rfl
theorem split_oam_short (s : ByteArray) (h : s.size < 4) : Gv.split s [3, 5, 8, 8, 8] = ([], ⟨#[]⟩, 1) := by
  have e1 : Gv.okW [3, 5, 8, 8, 8] = true := by decide
  have e2 : Gv.sumW [3, 5, 8, 8, 8] = 32 := by decide
  unfold Gv.split
  rw [if_pos e1, e2, if_pos (by decide), if_pos (by omega)]

theorem bt_ext (s : ByteArray) (n : Int) (h0 : 0 ≤ n) (h4 : 4 ≤ s.size) : bt (s.extract 4 s.size) n = bt s (4 + n) := by
  rw [Gv.bt_get, Gv.bt_get, Gv.bytesOf_extract]
  rw [List.take_of_length_le (by rw [bytesOf_length]; exact Nat.le_refl _)]
  simp only [List.getD_eq_getElem?_getD, List.getElem?_drop]
  rw [show (4 + n).toNat = 4 + n.toNat from by omega]
theorem size_ext (s : ByteArray) (a b : Nat) (h : b ≤ s.size) : (s.extract a b).size = b - a := by
  rw [Gv.size_bytesOf, Gv.bytesOf_extract, List.length_drop, List.length_take, bytesOf_length]; omega
theorem ext_ext (s : ByteArray) (n : Nat) : (s.extract 4 s.size).extract 0 n = s.extract 4 (4 + n) := by
  apply Gv.bytesOf_inj
  rw [Gv.bytesOf_extract, Gv.bytesOf_extract, Gv.bytesOf_extract, List.take_of_length_le (l := bytesOf s) (i := s.size) (by rw [bytesOf_length]; exact Nat.le_refl _), List.drop_zero, List.drop_take, show 4 + n - 4 = n from by omega]

/-- The program's Open. -/
theorem ev_oam_open (s : ByteArray) (hs : s.size ≤ 100000) : Ev (fun k => oam_Open.f k s) (oamOpen s) := by
  have hsp := ev_split s hs [3, 5, 8, 8, 8] (by simp)
  simp only [oam_Open.f]
  refine Ev.bind hsp (Ev.congr (fun k => ?_) (Ev.now _))
  unfold oamOpen
  by_cases h4 : s.size < 4
  · rw [split_oam_short s h4, if_pos h4]
    simp
  · rw [split_oam s (by omega), if_neg h4]
    have h3 := bt_range s 3
    have h0 := bt_range s 0
    have h1 := bt_range s 1
    have h2 := bt_range s 2
    have r0 : rd [bt s 0 / 32, bt s 0 % 32, bt s 1, bt s 2, bt s 3] 0 = bt s 0 / 32 := rfl
    have r1 : rd [bt s 0 / 32, bt s 0 % 32, bt s 1, bt s 2, bt s 3] 1 = bt s 0 % 32 := rfl
    have r2 : rd [bt s 0 / 32, bt s 0 % 32, bt s 1, bt s 2, bt s 3] 2 = bt s 1 := rfl
    have r3 : rd [bt s 0 / 32, bt s 0 % 32, bt s 1, bt s 2, bt s 3] 3 = bt s 2 := rfl
    have r4 : rd [bt s 0 / 32, bt s 0 % 32, bt s 1, bt s 2, bt s 3] 4 = bt s 3 := rfl
    have m0 : bt s 0 / 32 % 256 = bt s 0 / 32 := by omega
    have m1 : bt s 0 % 32 % 256 = bt s 0 % 32 := by omega
    have m2 : bt s 1 % 256 = bt s 1 := by omega
    have m3 : bt s 2 % 256 = bt s 2 := by omega
    have m4 : bt s 3 % 256 = bt s 3 := by omega
    simp only [r0, r1, r2, r3, r4, m0, m1, m2, m3, m4, List.length_cons, List.length_nil]
    rw [if_pos trivial, if_pos (by decide), size_ext s 4 s.size (Nat.le_refl _)]
    by_cases h5 : (s.size : Int) < 5 + bt s 3
    · rw [if_pos (by omega), if_pos h5]
    · rw [if_neg (by omega), if_neg h5, bt_ext s _ h3.1 (by omega), ext_ext s]
      by_cases hz : bt s (4 + bt s 3) = 0
      · rw [if_pos hz, if_pos hz, show 4 + (bt s 3).toNat = (4 + bt s 3).toNat from by omega]
      · rw [if_neg hz, if_neg hz]

end Go.Proofs.Ytapicoienpbdfaa.LWatchSends

/- Is of layer 4: the program's comes to a plain word. -/
namespace Go.Proofs.Ytapicoienpbdfaa.LWatchSends
open Go.RowKit Go.Proofs.Ytapicoienpbdfaa.PWatchSends Go.Proofs.YtapicoienpbdfaaW.PrintWords Go.Proofs.YtapicoienpbdfaaW.PrintLast Go.Proofs.YtapicoienpbdfaaW.PrintMore Go.Proofs.Ytapicoienpbdfaa
set_option linter.unusedVariables false
set_option linter.unusedSimpArgs false

/-- Is a head as it should be, or what isn't. -/
def oamIs (a b c e l v o f : Int) : Int := if a = l then (if b = v then (if c = o then (if e = f then 0 else 3) else 8) else 3) else 7
theorem is_own (k : Nat) (a b c d e l v o f : Int) : oam_Head_Is.f (k + 1) a b c d e l v o f = some (oamIs a b c e l v o f) := by
  unfold oam_Head_Is.f oamIs
  by_cases h1 : a = l
  · rw [if_pos h1, if_pos h1]
    by_cases h2 : b = v
    · by_cases h3 : c = o
      · by_cases h4 : e = f
        · simp [oam_Head_Is.j0, h2, h3, h4]
        · simp [oam_Head_Is.j0, h2, h3, h4]
      · simp [oam_Head_Is.j0, h2, h3]
    · by_cases h3 : c = o
      · simp [oam_Head_Is.j0, h2, h3]
      · simp [oam_Head_Is.j0, h2, h3]
  · rw [if_neg h1, if_neg h1]
theorem ev_is (a b c d e l v o f : Int) : Ev (fun k => oam_Head_Is.f k a b c d e l v o f) (oamIs a b c e l v o f) := by
  refine Ev.step (f := fun k => oam_Head_Is.f (k + 1) a b c d e l v o f) (fun k => rfl) ?_
  refine Ev.congr (fun k => ?_) (Ev.now _)
  rw [is_own]

end Go.Proofs.Ytapicoienpbdfaa.LWatchSends

/- Layer 4: what an opened message is. -/
namespace Go.Proofs.Ytapicoienpbdfaa.LWatchSends
open Go.RowKit Go.Proofs.Ytapicoienpbdfaa.PWatchSends Go.Proofs.YtapicoienpbdfaaW.PrintWords Go.Proofs.YtapicoienpbdfaaW.PrintLast Go.Proofs.YtapicoienpbdfaaW.PrintMore Go.Proofs.Ytapicoienpbdfaa
set_option linter.unusedVariables false
set_option linter.unusedSimpArgs false

theorem oam_facts (s : ByteArray) (h : (oamOpen s).2.2.2.2.2.2 = 0) : ((oamOpen s).2.2.2.2.2.1.size : Int) = (oamOpen s).2.2.2.2.1 ∧ 0 ≤ (oamOpen s).2.2.2.1 ∧ (oamOpen s).2.2.2.1 ≤ 255 := by
  unfold oamOpen at *
  have h3 := bt_range s 3
  have h2 := bt_range s 2
  by_cases c1 : s.size < 4
  · rw [if_pos c1] at h; simp at h
  · rw [if_neg c1] at h ⊢
    by_cases c2 : (s.size : Int) < 5 + bt s 3
    · rw [if_pos c2] at h; simp at h
    · rw [if_neg c2] at h ⊢
      by_cases c3 : bt s (4 + bt s 3) = 0
      · rw [if_pos c3]
        refine ⟨?_, h2⟩
        show ((s.extract 4 (4 + bt s 3).toNat).size : Int) = bt s 3
        rw [size_ext s _ _ (by omega)]; omega
      · rw [if_neg c3] at h; simp at h
theorem is_facts {a b c e l v o f : Int} (h : oamIs a b c e l v o f = 0) : a = l ∧ b = v ∧ c = o ∧ e = f := by
  unfold oamIs at h
  by_cases h1 : a = l
  · rw [if_pos h1] at h
    by_cases h2 : b = v
    · rw [if_pos h2] at h
      by_cases h3 : c = o
      · rw [if_pos h3] at h
        by_cases h4 : e = f
        · exact ⟨h1, h2, h3, h4⟩
        · rw [if_neg h4] at h; omega
      · rw [if_neg h3] at h; omega
    · rw [if_neg h2] at h; omega
  · rw [if_neg h1] at h; omega


end Go.Proofs.Ytapicoienpbdfaa.LWatchSends

/- Close of layer 4, the program's: it comes to a plain word. -/
namespace Go.Proofs.Ytapicoienpbdfaa.LWatchSends
open Go.RowKit Go.Proofs.Ytapicoienpbdfaa.PWatchSends Go.Proofs.YtapicoienpbdfaaW.PrintWords Go.Proofs.YtapicoienpbdfaaW.PrintLast Go.Proofs.YtapicoienpbdfaaW.PrintMore Go.Proofs.Ytapicoienpbdfaa
set_option linter.unusedVariables false
set_option linter.unusedSimpArgs false

/-- A message's bytes, or what is wrong. -/
def oamClose (l v c f o : Int) (s : ByteArray) : ByteArray × Int :=
  if l ≤ 7 ∧ v ≤ 31 then (if (s.size : Int) = o then ((strOfNums [l * 32 + v, c, f, o] ++ s) ++ ⟨#[0]⟩, 0) else (⟨#[]⟩, 3)) else (⟨#[]⟩, 4)
def isU8 (n : Int) : Prop := 0 ≤ n ∧ n ≤ 255

theorem oc_u64 {n : Int} (h : isU8 n) : IntKind.u64.wrap n = n := by have := h.1; have := h.2; simp [IntKind.wrap, IntKind.bits, IntKind.signed]; omega
theorem oc_wrap {n : Int} (h : isU8 n) : wrap64 n = n := by have := h.1; have := h.2; unfold wrap64; omega

theorem pack_oam (l v c f o : Int) (hl : isU8 l) (hv : isU8 v) (hc : isU8 c) (hf : isU8 f) (ho : isU8 o) :
    Gv.pack [(3, l), (5, v), (8, c), (8, f), (8, o)] = some (if l ≤ 7 ∧ v ≤ 31 then (strOfNums [l * 32 + v, c, f, o], 0) else (ByteArray.empty, 4)) := by
  have p3 : (2 : Int) ^ (3 : Int).toNat = 8 := by decide
  have p5 : (2 : Int) ^ (5 : Int).toNat = 32 := by decide
  have p8 : (2 : Int) ^ (8 : Int).toNat = 256 := by decide
  unfold isU8 at *
  have hu : Gv.isU64 [(3, l), (5, v), (8, c), (8, f), (8, o)] = true := by
    simp only [Gv.isU64, List.all_cons, List.all_nil, Bool.and_true, Bool.and_eq_true, decide_eq_true_eq]; unfold Gv.u64max; omega
  unfold Gv.pack
  rw [if_pos ⟨hu, by simp⟩]
  by_cases h : l ≤ 7 ∧ v ≤ 31
  · have hok : [((3 : Int), l), (5, v), (8, c), (8, f), (8, o)].all Gv.okPart = true := by
      simp only [List.all_cons, List.all_nil, Gv.okPart, p3, p5, p8, Bool.and_true, Bool.and_eq_true, Bool.or_eq_true, decide_eq_true_eq]; omega
    have e : Gv.allBits [(3, l), (5, v), (8, c), (8, f), (8, o)] = Gv.bitsOf 8 (l * 32 + v) ++ (Gv.bitsOf 8 c ++ (Gv.bitsOf 8 f ++ Gv.bitsOf 8 o)) := by
      have h32 : (2 : Int) ^ 5 = 32 := by decide
      have := Gv.bitsOf_join 3 5 l v hv.1 (by rw [h32]; omega)
      have e32 : (2 : Int) ^ 5 = 32 := by decide
      rw [e32] at this
      simp only [Gv.allBits, List.flatMap_cons, List.flatMap_nil, List.append_nil]
      show Gv.bitsOf 3 l ++ (Gv.bitsOf 5 v ++ _) = _
      rw [← List.append_assoc, this]
      rfl
    have elen : (Gv.bitsOf 8 (l * 32 + v) ++ (Gv.bitsOf 8 c ++ (Gv.bitsOf 8 f ++ Gv.bitsOf 8 o))).length % 8 = 0 := by
      simp only [List.length_append, Gv.bitsOf_length]
    rw [if_pos hok, e, if_pos elen, if_pos h, Gv.packB_byte, Gv.packB_byte, Gv.packB_byte, Gv.packB_last]
    rw [Int.emod_eq_of_lt (a := l * 32 + v) (by omega) (by omega), Int.emod_eq_of_lt hc.1 (by omega), Int.emod_eq_of_lt hf.1 (by omega), Int.emod_eq_of_lt ho.1 (by omega)]
    rfl
  · have hok : ¬ [((3 : Int), l), (5, v), (8, c), (8, f), (8, o)].all Gv.okPart = true := by
      simp only [List.all_cons, List.all_nil, Gv.okPart, p3, p5, p8, Bool.and_true, Bool.and_eq_true, Bool.or_eq_true, decide_eq_true_eq]; omega
    rw [if_neg hok, if_neg h]

/-- The program's Close. -/
theorem oam_close (l v c f o : Int) (s : ByteArray) (hs : s.size ≤ 100000) (hl : isU8 l) (hv : isU8 v) (hc : isU8 c) (hf : isU8 f) (ho : isU8 o) : oam_Close.f l v c f o s = some (oamClose l v c f o s) := by
  unfold oam_Close.f field_Pack.f oamClose
  rw [oc_u64 hl, oc_u64 hv, oc_u64 hc, oc_u64 hf, oc_u64 ho]
  simp only [List.map_cons, List.map_nil]
  rw [pack_oam l v c f o hl hv hc hf ho, oc_wrap ho]
  have hz : (strOfNums [l * 32 + v, c, f, o]).size = 4 := by rw [strOfNums_size]; rfl
  by_cases h : l ≤ 7 ∧ v ≤ 31
  · rw [if_pos h, if_pos h]
    simp only [Option.bind_some]
    rw [if_pos trivial, hz]
    by_cases h2 : (s.size : Int) = o
    · rw [if_pos h2, if_pos h2, if_pos (by omega), if_pos (by omega)]
    · rw [if_neg h2, if_neg h2]
  · rw [if_neg h, if_neg h]
    simp only [Option.bind_some]
    rw [if_neg (by decide)]

end Go.Proofs.Ytapicoienpbdfaa.LWatchSends

/- Layer 4: what was closed is opened as it was; what was opened is closed as it was. -/
namespace Go.Proofs.Ytapicoienpbdfaa.LWatchSends
open Go.RowKit Go.Proofs.Ytapicoienpbdfaa.PWatchSends Go.Proofs.YtapicoienpbdfaaW.PrintWords Go.Proofs.YtapicoienpbdfaaW.PrintLast Go.Proofs.YtapicoienpbdfaaW.PrintMore Go.Proofs.Ytapicoienpbdfaa
set_option linter.unusedVariables false
set_option linter.unusedSimpArgs false

/-- What was closed is opened as it was. -/
theorem oam_back (l v c f o : Int) (s b : ByteArray) (hl : isU8 l) (hv : isU8 v) (hc : isU8 c) (hf : isU8 f) (ho : isU8 o) (h1 : l ≤ 7) (h2 : v ≤ 31) (h3 : (s.size : Int) = o) :
    oamOpen (((strOfNums [l * 32 + v, c, f, o] ++ s) ++ ⟨#[0]⟩) ++ b) = (l, v, c, f, o, s, 0) := by
  unfold isU8 at *
  have hb : bytesOf (((strOfNums [l * 32 + v, c, f, o] ++ s) ++ ⟨#[0]⟩) ++ b) = (l * 32 + v) :: c :: f :: o :: (bytesOf s ++ ([0] ++ bytesOf b)) := by
    rw [Gv.bytesOf_append, Gv.bytesOf_append, Gv.bytesOf_append, Gv.bytesOf_str _ (by intro x hx; simp at hx; omega)]
    simp [show bytesOf (⟨#[0]⟩ : ByteArray) = [0] from rfl]
  have hsz : (((strOfNums [l * 32 + v, c, f, o] ++ s) ++ ⟨#[0]⟩) ++ b).size = s.size + b.size + 5 := by
    rw [Gv.size_bytesOf, hb]; simp [bytesOf_length]; omega
  generalize ((strOfNums [l * 32 + v, c, f, o] ++ s) ++ ⟨#[0]⟩) ++ b = t at hb hsz
  have g0 : bt t 0 = l * 32 + v := by rw [Gv.bt_get, hb]; rfl
  have g1 : bt t 1 = c := by rw [Gv.bt_get, hb]; rfl
  have g2 : bt t 2 = f := by rw [Gv.bt_get, hb]; rfl
  have g3 : bt t 3 = o := by rw [Gv.bt_get, hb]; rfl
  have g4 : bt t (4 + o) = 0 := by
    rw [Gv.bt_get, hb, show (4 + o).toNat = s.size + 4 from by omega]
    simp only [List.getD_cons_succ]
    rw [List.getD_eq_getElem?_getD, List.getElem?_append_right (by rw [bytesOf_length]; exact Nat.le_refl _), bytesOf_length, Nat.sub_self]
    rfl
  have g5 : t.extract 4 (4 + o).toNat = s := by
    apply Gv.bytesOf_inj
    rw [Gv.bytesOf_extract, hb, show (4 + o).toNat = s.size + 4 from by omega]
    simp only [List.take_succ_cons, List.drop_succ_cons, List.drop_zero]
    rw [List.take_append_of_le_length (by rw [bytesOf_length]; exact Nat.le_refl _), List.take_of_length_le (by rw [bytesOf_length]; exact Nat.le_refl _)]
  unfold oamOpen
  rw [if_neg (by omega), g3, if_neg (by omega), g4, if_pos rfl, g0, g1, g2, g5, show (l * 32 + v) / 32 = l from by omega, show (l * 32 + v) % 32 = v from by omega]

theorem oam_back' (l v c f o : Int) (s : ByteArray) (hl : isU8 l) (hv : isU8 v) (hc : isU8 c) (hf : isU8 f) (ho : isU8 o) (h1 : l ≤ 7) (h2 : v ≤ 31) (h3 : (s.size : Int) = o) :
    oamOpen ((strOfNums [l * 32 + v, c, f, o] ++ s) ++ ⟨#[0]⟩) = (l, v, c, f, o, s, 0) := by
  have := oam_back l v c f o s ⟨#[]⟩ hl hv hc hf ho h1 h2 h3
  have e : ((strOfNums [l * 32 + v, c, f, o] ++ s) ++ (⟨#[0]⟩ : ByteArray)) ++ (⟨#[]⟩ : ByteArray) = (strOfNums [l * 32 + v, c, f, o] ++ s) ++ ⟨#[0]⟩ := by
    apply Gv.bytesOf_inj
    rw [Gv.bytesOf_append _ (⟨#[]⟩ : ByteArray), Gv.bytesOf_empty, List.append_nil]
  rwa [e] at this
theorem oam_good (s : ByteArray) (h : (oamOpen s).2.2.2.2.2.2 = 0) : 4 ≤ s.size ∧ 5 + bt s 3 ≤ (s.size : Int) ∧ bt s (4 + bt s 3) = 0 ∧
    oamOpen s = (bt s 0 / 32, bt s 0 % 32, bt s 1, bt s 2, bt s 3, s.extract 4 (4 + bt s 3).toNat, 0) := by
  unfold oamOpen at *
  by_cases c1 : s.size < 4
  · rw [if_pos c1] at h; simp at h
  · rw [if_neg c1] at h ⊢
    by_cases c2 : (s.size : Int) < 5 + bt s 3
    · rw [if_pos c2] at h; simp at h
    · rw [if_neg c2] at h ⊢
      by_cases c3 : bt s (4 + bt s 3) = 0
      · rw [if_pos c3]
        exact ⟨by omega, by omega, c3, rfl⟩
      · rw [if_neg c3] at h; simp at h
theorem oam_forth (s : ByteArray) (h4 : 4 ≤ s.size) (hz : (s.size : Int) = 5 + bt s 3) (h0 : bt s (4 + bt s 3) = 0) :
    (strOfNums [bt s 0 / 32 * 32 + bt s 0 % 32, bt s 1, bt s 2, bt s 3] ++ s.extract 4 (4 + bt s 3).toNat) ++ (⟨#[0]⟩ : ByteArray) = s := by
  have r0 := bt_range s 0; have r1 := bt_range s 1; have r2 := bt_range s 2; have r3 := bt_range s 3
  have e1 : strOfNums [bt s 0 / 32 * 32 + bt s 0 % 32, bt s 1, bt s 2, bt s 3] = s.extract 0 4 := by
    rw [show bt s 0 / 32 * 32 + bt s 0 % 32 = bt s 0 from by omega]
    apply Gv.bytesOf_inj
    rw [Gv.bytesOf_str _ (by intro x hx; simp at hx; omega), Gv.bytesOf_extract, List.drop_zero]
    have hh := Gv.bytesOf_head s 4 (by omega)
    rw [hh, List.take_left' (by simp)]
    rfl
  rw [e1]
  obtain ⟨n, hn⟩ := Int.eq_ofNat_of_zero_le r3.1
  rw [hn] at hz h0 ⊢
  have e2 : (⟨#[0]⟩ : ByteArray) = s.extract (4 + n) s.size := by
    apply Gv.bytesOf_inj
    rw [show bytesOf (⟨#[0]⟩ : ByteArray) = [0] from rfl, Gv.bytesOf_extract, List.take_of_length_le (by rw [bytesOf_length]; exact Nat.le_refl _)]
    have hl : 4 + n < (bytesOf s).length := by rw [bytesOf_length]; omega
    rw [List.drop_eq_getElem_cons hl, List.drop_of_length_le (by rw [bytesOf_length]; omega)]
    rw [Gv.bt_get, show (4 + (n : Int)).toNat = 4 + n from by omega, List.getD_eq_getElem?_getD, List.getElem?_eq_getElem hl] at h0
    rw [show (bytesOf s)[4 + n] = 0 from h0]
  rw [e2, show (4 + (n : Int)).toNat = 4 + n from by omega, Gv.ext_join s 0 4 (4 + n) (by omega) (by omega) (by omega), Gv.ext_join s 0 (4 + n) s.size (by omega) (by omega) (by omega), Gv.ext_whole]

end Go.Proofs.Ytapicoienpbdfaa.LWatchSends

/- Name of layer 6, the program's: it comes to a plain word. -/
namespace Go.Proofs.Ytapicoienpbdfaa.LWatchSends
open Go.RowKit Go.Proofs.Ytapicoienpbdfaa.PWatchSends Go.Proofs.YtapicoienpbdfaaW.PrintWords Go.Proofs.YtapicoienpbdfaaW.PrintLast Go.Proofs.YtapicoienpbdfaaW.PrintMore Go.Proofs.Ytapicoienpbdfaa
set_option linter.unusedVariables false
set_option linter.unusedSimpArgs false

theorem cc_wrap {n : Int} (h0 : -9223372036854775808 ≤ n) (h1 : n ≤ 9223372036854775807) : wrap64 n = n := by unfold wrap64; omega
theorem rep_list (n : Nat) : Lib.repeatL [(0 : UInt8)] n = List.replicate n 0 := by
  induction n with
  | zero => rfl
  | succ n ih =>
    simp only [Lib.repeatL, List.replicate_succ, List.flatten_cons] at *
    rw [ih]; rfl
theorem rep_zero (n : Int) (h0 : 0 ≤ n) (h1 : n ≤ 100000) : strings_Repeat.f (⟨#[0]⟩ : ByteArray) n = some (strOfNums (List.replicate n.toNat 0)) := by
  unfold strings_Repeat.f
  rw [if_pos ⟨h0, h1, by decide⟩, show (⟨#[0]⟩ : ByteArray).data.toList = [0] from rfl, rep_list]
  unfold strOfNums
  simp
/-- A text of 48 bytes. -/
def nameOf (s : ByteArray) : ByteArray := if s.size > 48 then s.extract 0 48 else s ++ strOfNums (List.replicate (48 - s.size) 0)
theorem name_own (s : ByteArray) : ccm_Name.f s = some (nameOf s) := by
  unfold ccm_Name.f nameOf
  by_cases h : s.size > 48
  · rw [if_pos (by omega), if_pos (by decide), if_pos (by omega), if_pos h]
  · rw [if_neg (by omega), if_neg h, cc_wrap (by omega) (by omega), rep_zero _ (by omega) (by omega), Option.bind_some, strOfNums_size, List.length_replicate, if_pos (by omega), show (48 - (s.size : Int)).toNat = 48 - s.size from by omega]
theorem name_bytes (s : ByteArray) : bytesOf (nameOf s) = (bytesOf s).take 48 ++ List.replicate (48 - s.size) 0 := by
  have hl : (bytesOf s).length = s.size := bytesOf_length s
  unfold nameOf
  by_cases h : s.size > 48
  · rw [if_pos h, Gv.bytesOf_extract, List.drop_zero, show 48 - s.size = 0 from by omega]; simp
  · rw [if_neg h, Gv.bytesOf_append, List.take_of_length_le (by omega), Gv.bytesOf_str _ (by intro x hx; have := (List.mem_replicate.1 hx).2; omega)]

end Go.Proofs.Ytapicoienpbdfaa.LWatchSends

/- Noughts of layer 1: are all bytes 0? -/
namespace Go.Proofs.Ytapicoienpbdfaa.LWatchSends
open Go.RowKit Go.Proofs.Ytapicoienpbdfaa.PWatchSends Go.Proofs.YtapicoienpbdfaaW.PrintWords Go.Proofs.YtapicoienpbdfaaW.PrintLast Go.Proofs.YtapicoienpbdfaaW.PrintMore Go.Proofs.Ytapicoienpbdfaa
set_option linter.unusedVariables false
set_option linter.unusedSimpArgs false

theorem ev_nought_loop (s : ByteArray) (hs : s.size ≤ 100000) (d : Nat) : ∀ i : Nat, s.size - i = d → i ≤ s.size → Gv.allz s i = true →
    Ev (fun k => field_Noughts.l0 k s (s.size : Int) (i : Int)) (Gv.allz s s.size) := by
  induction d with
  | zero =>
    intro i hi hi2 hz
    obtain rfl : i = s.size := by omega
    rw [hz]
    refine Ev.step (f := fun _ => some true) (fun k => ?_) (Ev.now _)
    simp only [field_Noughts.l0]
    rw [if_neg (by omega)]
  | succ d ih =>
    intro i hi hi2 hz
    by_cases hb : bt s (i : Int) = 0
    · have h := ih (i + 1) (by omega) (by omega) (by simp [Gv.allz, hz, hb])
      refine Ev.step (fun k => ?_) h
      simp only [field_Noughts.l0]
      rw [if_pos (by omega), if_pos (by omega), if_pos (by omega), if_pos hb, sw_wrap (by omega) (by omega)]
      rfl
    · have hf : Gv.allz s s.size = false := by
        have := Gv.allz_false s (i + 1) (by simp [Gv.allz, hb]) (s.size - (i + 1))
        rwa [show i + 1 + (s.size - (i + 1)) = s.size from by omega] at this
      rw [hf]
      refine Ev.step (f := fun _ => some false) (fun k => ?_) (Ev.now _)
      simp only [field_Noughts.l0]
      rw [if_pos (by omega), if_pos (by omega), if_pos (by omega), if_neg hb]
theorem ev_noughts (s : ByteArray) (hs : s.size ≤ 100000) : Ev (fun k => field_Noughts.f k s) (decide (s = strOfNums (List.replicate s.size 0))) := by
  have h := ev_nought_loop s hs _ 0 rfl (by omega) rfl
  have e : Gv.allz s s.size = decide (s = strOfNums (List.replicate s.size 0)) := by
    have := Gv.allz_str s
    by_cases hz : s = strOfNums (List.replicate s.size 0)
    · rw [decide_eq_true hz]; exact this.2 hz
    · rw [decide_eq_false hz]
      cases hq : Gv.allz s s.size with
      | false => rfl
      | true => exact absurd (this.1 hq) hz
  rw [e] at h
  exact h

end Go.Proofs.Ytapicoienpbdfaa.LWatchSends

/- Layer 6, the program's Close and Name: they come to plain words. -/
namespace Go.Proofs.Ytapicoienpbdfaa.LWatchSends
open Go.RowKit Go.Proofs.Ytapicoienpbdfaa.PWatchSends Go.Proofs.YtapicoienpbdfaaW.PrintWords Go.Proofs.YtapicoienpbdfaaW.PrintLast Go.Proofs.YtapicoienpbdfaaW.PrintMore Go.Proofs.Ytapicoienpbdfaa
set_option linter.unusedVariables false
set_option linter.unusedSimpArgs false

theorem cc_u64 {n : Int} (h0 : 0 ≤ n) (h1 : n ≤ 18446744073709551615) : IntKind.u64.wrap n = n := by simp [IntKind.wrap, IntKind.bits, IntKind.signed]; omega
/-- A message's bytes, or what is wrong. -/
def ccmClose (l : Bool) (p c e : Int) (g : ByteArray) (lv : Int) : ByteArray × Int :=
  if lv > 7 then (⟨#[]⟩, 4) else if Gv.ccmWrong p e g.size = 0 then oamClose lv 0 1 (p + Gv.bi l * 128) 70 (Gv.ccmBody c e g) else (⟨#[]⟩, Gv.ccmWrong p e g.size)
theorem ccm_zero {p e : Int} {n : Nat} (h : Gv.ccmWrong p e n = 0) : (1 ≤ p ∧ p ≤ 7 ∧ 1 ≤ e ∧ e ≤ 8191) ∧ n = 48 := by
  unfold Gv.ccmWrong at h
  by_cases h1 : 1 ≤ p ∧ p ≤ 7 ∧ 1 ≤ e ∧ e ≤ 8191
  · rw [if_pos h1] at h
    by_cases h2 : n = 48
    · exact ⟨h1, h2⟩
    · rw [if_neg h2] at h; omega
  · rw [if_neg h1] at h; omega
theorem cw_j0 (x l : Bool) (p c e : Int) (g : ByteArray) : Ev (fun k => ccm_Msg_wrong.j0 k x l p c e g) (if x = true then 4 else if g.size = 48 then 0 else 3) := by
  refine Ev.step (f := fun k => ccm_Msg_wrong.j0 (k + 1) x l p c e g) (fun k => rfl) ?_
  simp only [ccm_Msg_wrong.j0]
  cases x with
  | true => simp only [if_true]; exact Ev.now _
  | false =>
    simp only [Bool.false_eq_true, if_false]
    by_cases h : g.size = 48
    · simp only [if_pos h, if_pos (show (g.size : Int) = 48 from by omega)]; exact Ev.now _
    · simp only [if_neg h, if_neg (show ¬ (g.size : Int) = 48 from by omega)]; exact Ev.now _
theorem ev_cwrong (l : Bool) (p c e : Int) (g : ByteArray) : Ev (fun k => ccm_Msg_wrong.f k l p c e g) (Gv.ccmWrong p e g.size) := by
  simp only [ccm_Msg_wrong.f]
  unfold Gv.ccmWrong
  by_cases h1 : p < 1
  · simp only [if_pos h1]
    rw [if_neg (by omega)]
    exact Ev.now _
  · simp only [if_neg h1]
    by_cases h2 : p > 7
    · simp only [if_pos h2]
      rw [if_neg (by omega), decide_eq_true h2]
      exact cw_j0 true l p c e g
    · simp only [if_neg h2]
      by_cases h3 : e < 1
      · simp only [if_pos h3]
        rw [if_neg (by omega), decide_eq_true h3]
        exact cw_j0 true l p c e g
      · simp only [if_neg h3]
        by_cases h4 : e > 8191
        · rw [if_neg (by omega), decide_eq_true h4]
          exact cw_j0 true l p c e g
        · rw [if_pos (by omega), decide_eq_false h4]
          have h := cw_j0 false l p c e g
          rw [if_neg (by simp)] at h
          exact h
theorem or_128 (p : Int) (h0 : 0 ≤ p) (h1 : p ≤ 7) : Go.bits .or .u8 p 128 = p + 128 := by
  have : p = 0 ∨ p = 1 ∨ p = 2 ∨ p = 3 ∨ p = 4 ∨ p = 5 ∨ p = 6 ∨ p = 7 := by omega
  rcases this with h | h | h | h | h | h | h | h <;> subst h <;> decide +kernel
theorem cc_j0 (lv : Int) (x f : Int) (l : Bool) (p c e : Int) (g : ByteArray) (hlv : isU8 lv) (hf : isU8 f) (hg : g.size = 48) :
    Ev (fun k => ccm_Close.j0 k lv (strOfNums (Gv.packB (Gv.bitsOf 32 c) ++ Gv.packB (Gv.bitsOf 16 e))) f l p c e g) (oamClose lv 0 1 f 70 (Gv.ccmBody c e g)) := by
  have hcl := oam_close lv 0 1 f 70 (Gv.ccmBody c e g) (by rw [Gv.ccmBody_size]; omega) hlv (by unfold isU8; omega) (by unfold isU8; omega) hf (by unfold isU8; omega)
  refine Ev.step (f := fun k => ccm_Close.j0 (k + 1) lv (strOfNums (Gv.packB (Gv.bitsOf 32 c) ++ Gv.packB (Gv.bitsOf 16 e))) f l p c e g) (fun k => rfl) ?_
  refine Ev.congr (fun k => ?_) (Ev.now _)
  simp only [ccm_Close.j0]
  rw [Gv.ccmHead_size, if_pos (by omega), rep_zero 16 (by decide) (by decide), Option.bind_some, show ((16 : Int)).toNat = 16 from rfl, strOfNums_size, List.length_replicate, if_pos (by omega)]
  unfold Gv.ccmBody at hcl
  rw [hcl]
  rfl
theorem ev_cclose (l : Bool) (p c e : Int) (g : ByteArray) (lv : Int) (hp : isU8 p) (hc0 : 0 ≤ c) (hc1 : c ≤ 4294967295) (he0 : 0 ≤ e) (he1 : e ≤ 65535) (hlv : isU8 lv) : Ev (fun k => ccm_Close.f k l p c e g lv) (ccmClose l p c e g lv) := by
  simp only [ccm_Close.f]
  unfold ccmClose
  by_cases h1 : lv > 7
  · simp only [if_pos h1]; exact Ev.now _
  · simp only [if_neg h1]
    refine Ev.bind (ev_cwrong l p c e g) ?_
    by_cases h : Gv.ccmWrong p e g.size = 0
    · have hz := ccm_zero h
      simp only [if_pos h]
      rw [cc_u64 (n := c) (by omega) (by omega), cc_u64 (n := e) (by omega) (by omega)]
      have hpk : field_Pack.f (([(⟨32, c⟩ : S100), (⟨16, e⟩ : S100)] : List S100)) = some (strOfNums (Gv.packB (Gv.bitsOf 32 c) ++ Gv.packB (Gv.bitsOf 16 e)), 0) := Gv.pack_ccm c e hc0 hc1 he0 he1
      rw [hpk]
      simp only [Option.bind_some, if_true]
      have hb := Gv.bi_range l
      cases l with
      | true =>
        simp only [if_true]
        rw [or_128 p hp.1 hz.1.2.1]
        have hj := cc_j0 lv 0 (p + 128) true p c e g hlv (by unfold isU8; omega) hz.2
        exact hj
      | false =>
        simp only [Bool.false_eq_true, if_false]
        have hj := cc_j0 lv 0 p false p c e g hlv hp hz.2
        rw [show p + Gv.bi false * 128 = p from by show p + 0 * 128 = p; omega]
        exact hj
    · simp only [if_neg h]
      exact Ev.now _
end Go.Proofs.Ytapicoienpbdfaa.LWatchSends

/- Layer 6, the program's Open: it comes to a plain word. -/
namespace Go.Proofs.Ytapicoienpbdfaa.LWatchSends
open Go.RowKit Go.Proofs.Ytapicoienpbdfaa.PWatchSends Go.Proofs.YtapicoienpbdfaaW.PrintWords Go.Proofs.YtapicoienpbdfaaW.PrintLast Go.Proofs.YtapicoienpbdfaaW.PrintMore Go.Proofs.Ytapicoienpbdfaa
set_option linter.unusedVariables false
set_option linter.unusedSimpArgs false

/-- A head and a content, read. -/
def ccmOf (h : Int × Int × Int × Int × Int × ByteArray × Int) (lv : Int) : Bool × Int × Int × Int × ByteArray × Int :=
  if h.2.2.2.2.2.2 = 0 then (if oamIs h.1 h.2.1 h.2.2.1 h.2.2.2.2.1 lv 0 1 70 = 0 then Gv.ccmRead h.2.2.2.1 h.2.2.2.2.2.1 else Gv.ccmNone (oamIs h.1 h.2.1 h.2.2.1 h.2.2.2.2.1 lv 0 1 70)) else Gv.ccmNone h.2.2.2.2.2.2
def ccmOpen (s : ByteArray) (lv : Int) : Bool × Int × Int × Int × ByteArray × Int := ccmOf (oamOpen s) lv
theorem flags_all : ∀ n : Nat, n < 256 → (decide (Go.bits .and .u8 (n : Int) 120 = 0) = decide ((n : Int) / 8 % 16 = 0)) ∧ ((Go.bits .and .u8 (n : Int) 128 != 0) = ((n : Int) / 128 == 1)) ∧ Go.bits .and .u8 (n : Int) 7 = (n : Int) % 8 := by decide +kernel
theorem flags (f : Int) (h0 : 0 ≤ f) (h1 : f ≤ 255) : (Go.bits .and .u8 f 120 = 0 ↔ f / 8 % 16 = 0) ∧ ((Go.bits .and .u8 f 128 != 0) = (f / 128 == 1)) ∧ Go.bits .and .u8 f 7 = f % 8 := by
  obtain ⟨n, rfl⟩ := Int.eq_ofNat_of_zero_le h0
  have := flags_all n (by omega)
  exact ⟨decide_eq_decide.1 this.1, this.2⟩
theorem co_u16 {n : Int} (h0 : 0 ≤ n) (h1 : n ≤ 65535) : IntKind.u16.wrap n = n := by simp [IntKind.wrap, IntKind.bits, IntKind.signed]; omega
theorem ext_in (s : ByteArray) (a b c : Nat) (h : a + c ≤ s.size) : (s.extract a s.size).extract b c = s.extract (a + b) (a + c) := by
  apply Gv.bytesOf_inj
  have hl : (bytesOf s).length = s.size := bytesOf_length s
  rw [Gv.bytesOf_extract, Gv.bytesOf_extract, Gv.bytesOf_extract, List.take_of_length_le (l := bytesOf s) (i := s.size) (by omega), List.take_drop, List.drop_drop]
theorem co_j1 (c : ByteArray) (hc : c.size = 70) (N : Int) (hN : N = Gv.numOf c 4 2) (x : Bool) (hlt : x = false → N < 8192) (l v cc f o : Int) (hf : 0 ≤ f ∧ f ≤ 255) :
    Ev (fun k => ccm_Open.j1 k [Gv.numOf c 0 4, N / 8192, N % 8192] (c.extract 6 c.size) x l v cc f o) (if x = true then Gv.ccmNone 3 else if f % 8 ≠ 0 ∧ N ≠ 0 then (f / 128 == 1, f % 8, Gv.numOf c 0 4, N, c.extract 6 54, 0) else Gv.ccmNone 4) := by
  have q0 := Gv.numOf_range c 0 4 (by omega)
  have q1 := Gv.numOf_range c 4 2 (by omega)
  rw [show (2 : Int) ^ (8 * 4) = 4294967296 from by decide] at q0
  rw [show (2 : Int) ^ (8 * 2) = 65536 from by decide, ← hN] at q1
  have hfl := flags f hf.1 hf.2
  have hz : (c.extract 6 c.size).size = 64 := by rw [size_ext c _ _ (Nat.le_refl _)]; omega
  have e48 : (c.extract 6 c.size).extract 0 48 = c.extract 6 54 := ext_in c 6 0 48 (by omega)
  have z48 : (c.extract 6 54).size = 48 := by rw [size_ext c _ _ (by omega)]
  refine Ev.step (f := fun k => ccm_Open.j1 (k + 1) [Gv.numOf c 0 4, N / 8192, N % 8192] (c.extract 6 c.size) x l v cc f o) (fun k => rfl) ?_
  simp only [ccm_Open.j1]
  cases x with
  | true => simp only [if_true]; exact Ev.now _
  | false =>
    have hlt := hlt rfl
    obtain ⟨y, hy, hy3, r0, r2⟩ : ∃ y : List Int, [Gv.numOf c 0 4, N / 8192, N % 8192] = y ∧ (y.length : Int) = 3 ∧ rd y 0 = Gv.numOf c 0 4 ∧ rd y 2 = N % 8192 := ⟨_, rfl, rfl, rfl, rfl⟩
    rw [hy]
    simp only [Bool.false_eq_true, if_false, hy3, r0, r2, Int.reduceLT, if_true, if_pos (show (0 : Int) ≤ 48 from by decide), if_pos (show (48 : Int) ≤ ((c.extract 6 c.size).size : Int) from by omega), e48, hfl.2.1, hfl.2.2, show Gv.numOf c 0 4 % 4294967296 = Gv.numOf c 0 4 from by omega, show N % 8192 = N from by omega, co_u16 (n := N) (by omega) (by omega)]
    have hw := ev_cwrong (f / 128 == 1) (f % 8) (Gv.numOf c 0 4) N (c.extract 6 54)
    rw [z48] at hw
    refine Ev.bind hw ?_
    unfold Gv.ccmWrong
    by_cases h : f % 8 ≠ 0 ∧ N ≠ 0
    · rw [if_pos h, if_pos (show 1 ≤ f % 8 ∧ f % 8 ≤ 7 ∧ 1 ≤ N ∧ N ≤ 8191 from by omega)]
      exact Ev.now _
    · rw [if_neg h, if_neg (show ¬ (1 ≤ f % 8 ∧ f % 8 ≤ 7 ∧ 1 ≤ N ∧ N ≤ 8191) from by omega)]
      exact Ev.now _
theorem co_bad (c : ByteArray) (e l v o f g : Int) (he : e ≠ 0) : Ev (fun k => ccm_Open.j0 k c e l v o f g) (Gv.ccmNone e) := by
  refine Ev.step (f := fun k => ccm_Open.j0 (k + 1) c e l v o f g) (fun k => rfl) ?_
  simp only [ccm_Open.j0, if_neg he]
  exact Ev.now _
theorem co_go (c : ByteArray) (hc : c.size = 70) (l v o f g : Int) (hf : 0 ≤ f ∧ f ≤ 255) : Ev (fun k => ccm_Open.j0 k c 0 l v o f g) (Gv.ccmRead f c) := by
  have hsp := ev_split c (by omega) [32, 3, 13] (by simp)
  rw [Gv.split_ccm c (by omega)] at hsp
  have q1 := Gv.numOf_range c 4 2 (by omega)
  rw [show (2 : Int) ^ (8 * 2) = 65536 from by decide] at q1
  have hz : (c.extract 6 c.size).size = 64 := by rw [size_ext c _ _ (Nat.le_refl _)]; omega
  have e16 : (c.extract 6 c.size).extract 48 (c.extract 6 c.size).size = c.extract 54 c.size := by
    rw [hz, ext_in c 6 48 64 (by omega), hc]
  have hz16 : (c.extract 54 c.size).size = 16 := by rw [size_ext c _ _ (Nat.le_refl _)]; omega
  have hn := ev_noughts (c.extract 54 c.size) (by omega)
  rw [hz16] at hn
  have hfl := flags f hf.1 hf.2
  have ht := co_j1 c hc (Gv.numOf c 4 2) rfl true (by simp) l v o f g hf
  rw [if_pos rfl] at ht
  refine Ev.step (f := fun k => ccm_Open.j0 (k + 1) c 0 l v o f g) (fun k => rfl) ?_
  simp only [ccm_Open.j0, if_true]
  refine Ev.bind hsp ?_
  have r1 : rd [Gv.numOf c 0 4, Gv.numOf c 4 2 / 8192, Gv.numOf c 4 2 % 8192] 1 = Gv.numOf c 4 2 / 8192 := rfl
  have l3 : (([Gv.numOf c 0 4, Gv.numOf c 4 2 / 8192, Gv.numOf c 4 2 % 8192] : List Int).length : Int) = 3 := rfl
  simp only [if_true, r1, l3, Int.reduceLT, e16, if_pos (show (48 : Int) ≤ ((c.extract 6 c.size).size : Int) from by omega)]
  unfold Gv.ccmRead
  by_cases h1 : Gv.numOf c 4 2 < 8192
  · simp only [if_pos (show Gv.numOf c 4 2 / 8192 = 0 from by omega)]
    by_cases h2 : f / 8 % 16 = 0
    · simp only [if_pos (hfl.1.2 h2)]
      refine Ev.bind hn ?_
      by_cases h3 : c.extract 54 c.size = strOfNums (List.replicate 16 0)
      · rw [if_pos ⟨h1, h2, h3⟩, decide_eq_true h3]
        have hj := co_j1 c hc (Gv.numOf c 4 2) rfl false (fun _ => h1) l v o f g hf
        rw [if_neg (by simp)] at hj
        exact hj
      · rw [if_neg (fun h => h3 h.2.2), decide_eq_false h3]
        exact ht
    · simp only [if_neg (fun h => h2 (hfl.1.1 h))]
      rw [if_neg (fun h => h2 h.2.1)]
      exact ht
  · simp only [if_neg (show ¬ Gv.numOf c 4 2 / 8192 = 0 from by omega)]
    rw [if_neg (fun h => h1 h.1)]
    exact ht
theorem ev_copen (s : ByteArray) (hs : s.size ≤ 100000) (lv : Int) : Ev (fun k => ccm_Open.f k s lv) (ccmOpen s lv) := by
  have ho := ev_oam_open s hs
  have hf := oam_facts s
  unfold ccmOpen
  generalize oamOpen s = h at *
  obtain ⟨l, v, c, f, o, b, e⟩ := h
  unfold ccmOf
  simp only [ccm_Open.f]
  refine Ev.bind ho ?_
  by_cases he : e = 0
  · have hf := hf he
    simp only [if_pos he]
    refine Ev.bind (ev_is l v c f o lv 0 1 70) ?_
    by_cases hi : oamIs l v c o lv 0 1 70 = 0
    · have hi2 := is_facts hi
      simp only [if_pos hi, hi]
      exact co_go b (by have := hf.1; simp only at this; omega) l v c f o hf.2
    · simp only [if_neg hi]
      exact co_bad b _ l v c f o hi
  · simp only [if_neg he]
    exact co_bad b _ l v c f o he

end Go.Proofs.Ytapicoienpbdfaa.LWatchSends

/- Layer 6: what was closed is opened as it was; what was opened is closed as it was. -/
namespace Go.Proofs.Ytapicoienpbdfaa.LWatchSends
open Go.RowKit Go.Proofs.Ytapicoienpbdfaa.PWatchSends Go.Proofs.YtapicoienpbdfaaW.PrintWords Go.Proofs.YtapicoienpbdfaaW.PrintLast Go.Proofs.YtapicoienpbdfaaW.PrintMore Go.Proofs.Ytapicoienpbdfaa
set_option linter.unusedVariables false
set_option linter.unusedSimpArgs false

/-- A closed message's bytes. -/
def ccmBytes (l : Bool) (p c e : Int) (g : ByteArray) (lv : Int) : ByteArray := (strOfNums [lv * 32 + 0, 1, p + Gv.bi l * 128, 70] ++ Gv.ccmBody c e g) ++ ⟨#[0]⟩
theorem cclose_cases (l : Bool) (p c e : Int) (g : ByteArray) (lv : Int) :
    (lv ≤ 7 ∧ Gv.ccmWrong p e g.size = 0 ∧ ccmClose l p c e g lv = (ccmBytes l p c e g lv, 0)) ∨ (ccmClose l p c e g lv).2 ≠ 0 := by
  unfold ccmClose
  by_cases h1 : lv > 7
  · rw [if_pos h1]; exact .inr (by decide)
  · rw [if_neg h1]
    by_cases h2 : Gv.ccmWrong p e g.size = 0
    · rw [if_pos h2]
      refine .inl ⟨by omega, h2, ?_⟩
      have hz := ccm_zero h2
      unfold oamClose ccmBytes
      rw [if_pos ⟨by omega, by decide⟩, if_pos (by rw [Gv.ccmBody_size, hz.2]; rfl)]
    · rw [if_neg h2]; exact .inr h2
theorem ccmBytes_size (l : Bool) (p c e : Int) (g : ByteArray) (lv : Int) (h : g.size = 48) : (ccmBytes l p c e g lv).size = 75 := by
  unfold ccmBytes
  rw [ByteArray.size_append, ByteArray.size_append, strOfNums_size, Gv.ccmBody_size, h]
  rfl
theorem copen_closed (l : Bool) (p c e : Int) (g : ByteArray) (lv other : Int) (hp : isU8 p) (hc0 : 0 ≤ c) (hc1 : c ≤ 4294967295) (hlv : isU8 lv) (h1 : lv ≤ 7) (h2 : Gv.ccmWrong p e g.size = 0) :
    ccmOpen (ccmBytes l p c e g lv) other = if lv = other then (l, p, c, e, g, 0) else Gv.ccmNone 7 := by
  have hz := ccm_zero h2
  have hb := Gv.bi_range l
  unfold ccmOpen ccmBytes
  rw [oam_back' lv 0 1 (p + Gv.bi l * 128) 70 _ hlv (by unfold isU8; omega) (by unfold isU8; omega) (by unfold isU8; omega) (by unfold isU8; omega) h1 (by decide) (by rw [Gv.ccmBody_size, hz.2]; rfl)]
  unfold ccmOf oamIs
  by_cases h : lv = other
  · simp only [if_pos h, if_true]
    exact Gv.ccm_there l p c e g hc0 hc1 h2
  · simp only [if_neg h, if_true]
    rfl
/-- What an opened message is. -/
theorem copen_cases (s : ByteArray) (lv : Int) (hlv : isU8 lv) :
    (∃ l p c e g, ccmOpen s lv = (l, p, c, e, g, 0) ∧ isU8 p ∧ (0 ≤ c ∧ c ≤ 4294967295) ∧ (0 ≤ e ∧ e ≤ 65535) ∧ g.size = 48 ∧ (s.size = 75 → ccmClose l p c e g lv = (s, 0))) ∨ ∃ x : Int, x ≠ 0 ∧ ccmOpen s lv = Gv.ccmNone x := by
  unfold ccmOpen
  by_cases h : (oamOpen s).2.2.2.2.2.2 = 0
  · have hg := oam_good s h
    rw [hg.2.2.2]
    unfold ccmOf
    simp only [if_true]
    by_cases hi : oamIs (bt s 0 / 32) (bt s 0 % 32) (bt s 1) (bt s 3) lv 0 1 70 = 0
    · rw [if_pos hi]
      have hi2 := is_facts hi
      have r0 := bt_range s 0
      have r2 := bt_range s 2
      generalize hc : s.extract 4 (4 + bt s 3).toNat = c
      have hcz : c.size = 70 := by rw [← hc, size_ext s _ _ (by omega)]; omega
      have q0 := Gv.numOf_range c 0 4 (by omega)
      have q1 := Gv.numOf_range c 4 2 (by omega)
      rw [show (2 : Int) ^ (8 * 4) = 4294967296 from by decide] at q0
      rw [show (2 : Int) ^ (8 * 2) = 65536 from by decide] at q1
      have z48 : (c.extract 6 54).size = 48 := by rw [size_ext c _ _ (by omega)]
      unfold Gv.ccmRead
      by_cases h1 : Gv.numOf c 4 2 < 8192 ∧ bt s 2 / 8 % 16 = 0 ∧ c.extract 54 c.size = strOfNums (List.replicate 16 0)
      · rw [if_pos h1]
        by_cases h2 : bt s 2 % 8 ≠ 0 ∧ Gv.numOf c 4 2 ≠ 0
        · rw [if_pos h2]
          refine .inl ⟨_, _, _, _, _, rfl, ⟨by omega, by omega⟩, by omega, by omega, z48, fun hz => ?_⟩
          have hw : Gv.ccmWrong (bt s 2 % 8) (Gv.numOf c 4 2) (c.extract 6 54).size = 0 := by
            unfold Gv.ccmWrong
            rw [if_pos (by omega), if_pos z48]
          have hbi : Gv.bi (bt s 2 / 128 == 1) = bt s 2 / 128 := by
            have := Gv.bi_of (bt s 2 / 128)
            rwa [Int.emod_eq_of_lt (a := bt s 2 / 128) (by omega) (by omega)] at this
          unfold ccmClose
          rw [if_neg (by omega), if_pos hw, Gv.ccm_back c hcz h1.2.2, hbi, show bt s 2 % 8 + bt s 2 / 128 * 128 = bt s 2 from by omega]
          unfold oamClose
          rw [if_pos ⟨by omega, by decide⟩, if_pos (by rw [hcz]; rfl)]
          have hf := oam_forth s hg.1 (by omega) hg.2.2.1
          rw [hc, hi2.1, hi2.2.1, hi2.2.2.1, hi2.2.2.2] at hf
          rw [hf]
        · rw [if_neg h2]; exact .inr ⟨4, by decide, rfl⟩
      · rw [if_neg h1]; exact .inr ⟨3, by decide, rfl⟩
    · rw [if_neg hi]; exact .inr ⟨_, hi, rfl⟩
  · unfold ccmOf
    rw [if_neg h]
    exact .inr ⟨_, h, rfl⟩

end Go.Proofs.Ytapicoienpbdfaa.LWatchSends

/- WatchSends, walked by hand: what its calls yield. -/
namespace Go.Proofs.Ytapicoienpbdfaa.Se
open Go.RowKit Go.Proofs.Ytapicoienpbdfaa.PWatchSends Go.Proofs.YtapicoienpbdfaaW.PrintWords Go.Proofs.YtapicoienpbdfaaW.PrintLast Go.Proofs.YtapicoienpbdfaaW.PrintMore Go.Proofs.Ytapicoienpbdfaa Go.Proofs.Ytapicoienpbdfaa.LWatchSends
set_option linter.unusedVariables false
set_option linter.unusedSimpArgs false

theorem wl_awake : Ev (fun k => carousellaw09_Awake.f k) true :=
  Ev.of carousellaw09_Awake.mono (k := 60) (by decide +kernel)
theorem wl_wrap {n : Int} (h0 : -9223372036854775808 ≤ n) (h1 : n ≤ 9223372036854775807) : wrap64 n = n := by unfold wrap64; omega
theorem ws_u64 {n : Int} (h0 : 0 ≤ n) (h1 : n ≤ 18446744073709551615) : IntKind.u64.wrap n = n := by
  have e : IntKind.u64.wrap n = n % 18446744073709551616 := rfl
  rw [e]; omega
def grp : ByteArray := nameOf (⟨#[120]⟩ : ByteArray)
theorem grp_size : grp.size = 48 := by decide +kernel
theorem cclose_ok (l : Bool) (p c e : Int) (g : ByteArray) (lv : Int) (h1 : lv ≤ 7) (h2 : Gv.ccmWrong p e g.size = 0) : ccmClose l p c e g lv = (ccmBytes l p c e g lv, 0) := by
  have hz := ccm_zero h2
  unfold ccmClose
  rw [if_neg (by omega), if_pos h2]
  unfold oamClose ccmBytes
  rw [if_pos ⟨by omega, by decide⟩, if_pos (by rw [Gv.ccmBody_size, hz.2]; rfl)]
theorem wrong_ok (e : Int) (h : e = 1 ∨ e = 2) : Gv.ccmWrong 4 e grp.size = 0 := by
  unfold Gv.ccmWrong
  rw [if_pos (by omega), if_pos grp_size]
theorem u8_4 : isU8 4 := by unfold isU8; omega
theorem u8_3 : isU8 3 := by unfold isU8; omega
theorem ev_new (e n : Int) (he : e = 1 ∨ e = 2) (hn : 1 ≤ n ∧ n ≤ 50) : Ev (fun k => watch_New.f k 3 e 4 grp n 10) (3, e, 4, grp, n, 10, 10, 0, false, false, 0) := by
  have hc := ev_cclose false 4 0 e grp 3 u8_4 (by decide) (by decide) (by omega) (by omega) u8_3
  rw [cclose_ok false 4 0 e grp 3 (by decide) (wrong_ok e he)] at hc
  simp only [watch_New.f, watch_Watch_message.f, Option.bind_some]
  rw [show (0 : Int) % 4294967296 = 0 from by decide]
  refine Ev.bind hc ?_
  simp only [if_true, if_neg (show ¬ n < 1 from by omega), if_neg (show ¬ n > 1048576 from by omega), if_neg (show ¬ (10 : Int) < 0 from by decide)]
  rw [decide_eq_false (show ¬ (10 : Int) > 1099511627776 from by decide)]
  refine Ev.step (f := fun k => watch_New.j0 (k + 1) false 3 e 4 grp n 10 10 0 false false) (fun k => rfl) ?_
  simp only [watch_New.j0, Bool.false_eq_true, if_false]
  exact Ev.now _
theorem tick_j0 (now : Int) (out : ByteArray) (n x s : Int) (l f : Bool) (hn : 1 ≤ n ∧ n ≤ 50) (h1 : 10 ≤ now) (h2 : now ≤ 1000000) :
    Ev (fun k => watch_Watch_Tick.j0 k now out 3 1 4 grp n 10 x s l f) (3, 1, 4, grp, n, 10, x, s, (if 2 * (now - 10) > 7 * n then true else l), f, out) := by
  refine Ev.step (f := fun k => watch_Watch_Tick.j0 (k + 1) now out 3 1 4 grp n 10 x s l f) (fun k => rfl) ?_
  simp only [watch_Watch_Tick.j0, wl_wrap (n := now - 10) (by omega) (by omega), wl_wrap (n := 2 * (now - 10)) (by omega) (by omega), wl_wrap (n := 7 * n) (by omega) (by omega)]
  by_cases hc : 2 * (now - 10) > 7 * n
  · simp only [if_pos hc]; exact Ev.now _
  · simp only [if_neg hc]; exact Ev.now _
/-- What is sent. -/
def said (l : Bool) (s : Int) : ByteArray := ccmBytes l 4 s 1 grp 3
theorem said_size (l : Bool) (s : Int) : (said l s).size = 75 := ccmBytes_size l 4 s 1 grp 3 grp_size
theorem tick_sends (now n x s : Int) (l f : Bool) (hn : 1 ≤ n ∧ n ≤ 50) (h1 : 10 ≤ now) (h2 : now ≤ 1000000) (hs : 0 ≤ s ∧ s ≤ 1000000) (hx : now ≥ x) :
    Ev (fun k => watch_Watch_Tick.f k 3 1 4 grp n 10 x s l f now) (3, 1, 4, grp, n, 10, now + n, s + 1, (if 2 * (now - 10) > 7 * n then true else l), f, said l s) := by
  have hc := ev_cclose l 4 s 1 grp 3 u8_4 (by omega) (by omega) (by omega) (by omega) u8_3
  rw [cclose_ok l 4 s 1 grp 3 (by decide) (wrong_ok 1 (.inl rfl))] at hc
  simp only [watch_Watch_Tick.f, watch_Watch_message.f, Option.bind_some, if_pos hx]
  rw [Int.emod_eq_of_lt hs.1 (show s < 4294967296 from by omega), ws_u64 (n := s + 1) (by omega) (by omega), wl_wrap (n := now + n) (by omega) (by omega)]
  exact Ev.bind hc (tick_j0 now (said l s) n (now + n) (s + 1) l f hn h1 h2)
theorem tick_not (now n x s : Int) (l f : Bool) (hn : 1 ≤ n ∧ n ≤ 50) (h1 : 10 ≤ now) (h2 : now ≤ 1000000) (hx : ¬ now ≥ x) :
    Ev (fun k => watch_Watch_Tick.f k 3 1 4 grp n 10 x s l f now) (3, 1, 4, grp, n, 10, x, s, (if 2 * (now - 10) > 7 * n then true else l), f, ⟨#[]⟩) := by
  simp only [watch_Watch_Tick.f, watch_Watch_message.f, Option.bind_some, if_neg hx]
  exact tick_j0 now _ n x s l f hn h1 h2
theorem said_open (l : Bool) (s : Int) (hs : 0 ≤ s ∧ s ≤ 1000000) : Ev (fun k => ccm_Open.f k (said l s) 3) (l, 4, s, 1, grp, 0) := by
  have ho := ev_copen (said l s) (by rw [said_size]; decide) 3
  have hc : ccmOpen (said l s) 3 = (l, 4, s, 1, grp, 0) := by
    have := copen_closed l 4 s 1 grp 3 3 u8_4 hs.1 (by omega) u8_3 (by decide) (wrong_ok 1 (.inl rfl))
    rw [if_pos rfl] at this
    exact this
  rw [hc] at ho
  exact ho
theorem peer_hears (l : Bool) (s now n h x t : Int) (l2 f : Bool) (hs : 0 ≤ s ∧ s ≤ 1000000) :
    Ev (fun k => watch_Watch_Hear.f k 3 2 4 grp n h x t l2 f now (said l s)) (3, 2, 4, grp, n, now, x, t, false, (if l = true then true else false), 0) := by
  simp only [watch_Watch_Hear.f]
  refine Ev.bind (said_open l s hs) ?_
  refine Ev.congr (fun k => ?_) (Ev.now _)
  simp only []
  rw [if_pos trivial, if_pos trivial, if_neg (show ¬ (1 : Int) = 2 from by decide), if_pos trivial]
  cases l <;> rfl
theorem self_not (l : Bool) (s now n h x t : Int) (l2 f : Bool) (hs : 0 ≤ s ∧ s ≤ 1000000) :
    Ev (fun k => watch_Watch_Hear.f k 3 1 4 grp n h x t l2 f now (said l s)) (3, 1, 4, grp, n, h, x, t, l2, f, 10) := by
  simp only [watch_Watch_Hear.f]
  refine Ev.bind (said_open l s hs) ?_
  refine Ev.congr (fun k => ?_) (Ev.now _)
  simp only []
  rw [if_pos trivial, if_pos trivial, if_pos trivial]
theorem said_list (l : Bool) (s : Int) : ((said l s).toList = ([] : List UInt8)) = False := by
  refine eq_false fun h => ?_
  have hz := said_size l s
  rw [Go.ByteArray.toList_eq] at h
  have : (said l s).data.toList.length = 0 := by rw [h]; rfl
  have h2 : (said l s).data.toList.length = (said l s).size := rfl
  omega
theorem said_bne (l : Bool) (s : Int) : ((said l s).toList != ([] : List UInt8)) = true := by
  rw [bne_iff_ne]
  exact fun h => (said_list l s).mp h
theorem none_list : ((⟨#[]⟩ : ByteArray).toList != ([] : List UInt8)) = false := by decide +kernel
theorem none_list' : ((⟨#[]⟩ : ByteArray).toList = ([] : List UInt8)) = True := by
  refine eq_true ?_
  rw [Go.ByteArray.toList_eq]

theorem awake_c (w : World) : Calls Try.prog 21 #[] w fun x w' => x = .returned (.bool true) ∧ Below w.heap.size w w' := by
  obtain ⟨k, hk⟩ := wl_awake
  exact carousellaw09_Awake.calls k true w (hk k (Nat.le_refl _))
theorem name_c (w : World) : Calls Try.prog 28 #[.string (⟨#[120]⟩ : ByteArray)] w fun x w' => x = .returned (.string grp) ∧ Below w.heap.size w w' :=
  ccm_Name.calls _ grp w (name_own _)
theorem new_c (e n : Int) (he : e = 1 ∨ e = 2) (hn : 1 ≤ n ∧ n ≤ 50) (w : World) : Calls Try.prog 22 #[.int .u8 3, .int .u16 e, .int .u8 4, .string grp, .int .i64 n, .int .i64 10] w fun x w' => x = .returned (.tuple #[.agg #[.int .u8 3, .int .u16 e, .int .u8 4, .string grp, .int .i64 n, .int .i64 10, .int .i64 10, .int .u64 0, .bool false, .bool false], .int .i64 0]) ∧ Below w.heap.size w w' := by
  obtain ⟨k, hk⟩ := ev_new e n he hn
  exact watch_New.calls k 3 e 4 grp n 10 _ _ _ _ _ _ _ _ _ _ _ w (hk k (Nat.le_refl _))
theorem tick_c (now n x s : Int) (l f : Bool) (hn : 1 ≤ n ∧ n ≤ 50) (h1 : 10 ≤ now) (h2 : now ≤ 1000000) (hs : 0 ≤ s ∧ s ≤ 1000000) (hx : now ≥ x) (w : World) : Calls Try.prog 26 #[.agg #[.int .u8 3, .int .u16 1, .int .u8 4, .string grp, .int .i64 n, .int .i64 10, .int .i64 x, .int .u64 s, .bool l, .bool f], .int .i64 now] w fun y w' => y = .returned (.tuple #[.agg #[.int .u8 3, .int .u16 1, .int .u8 4, .string grp, .int .i64 n, .int .i64 10, .int .i64 (now + n), .int .u64 (s + 1), .bool (if 2 * (now - 10) > 7 * n then true else l), .bool f], .string (said l s)]) ∧ Below w.heap.size w w' := by
  obtain ⟨k, hk⟩ := tick_sends now n x s l f hn h1 h2 hs hx
  exact watch_Watch_Tick.calls k _ _ _ _ _ _ _ _ _ _ _ _ _ _ _ _ _ _ _ _ _ _ w (hk k (Nat.le_refl _))
theorem tick_n (now n x s : Int) (l f : Bool) (hn : 1 ≤ n ∧ n ≤ 50) (h1 : 10 ≤ now) (h2 : now ≤ 1000000) (hx : ¬ now ≥ x) (w : World) : Calls Try.prog 26 #[.agg #[.int .u8 3, .int .u16 1, .int .u8 4, .string grp, .int .i64 n, .int .i64 10, .int .i64 x, .int .u64 s, .bool l, .bool f], .int .i64 now] w fun y w' => y = .returned (.tuple #[.agg #[.int .u8 3, .int .u16 1, .int .u8 4, .string grp, .int .i64 n, .int .i64 10, .int .i64 x, .int .u64 s, .bool (if 2 * (now - 10) > 7 * n then true else l), .bool f], .string (⟨#[]⟩ : ByteArray)]) ∧ Below w.heap.size w w' := by
  obtain ⟨k, hk⟩ := tick_not now n x s l f hn h1 h2 hx
  exact watch_Watch_Tick.calls k _ _ _ _ _ _ _ _ _ _ _ _ _ _ _ _ _ _ _ _ _ _ w (hk k (Nat.le_refl _))
theorem open_c (l : Bool) (s : Int) (hs : 0 ≤ s ∧ s ≤ 1000000) (w : World) : Calls Try.prog 29 #[.string (said l s), .int .u8 3] w fun y w' => y = .returned (.tuple #[.agg #[.bool l, .int .u8 4, .int .u32 s, .int .u16 1, .string grp], .int .i64 0]) ∧ Below w.heap.size w w' := by
  obtain ⟨k, hk⟩ := said_open l s hs
  exact ccm_Open.calls k _ _ _ _ _ _ _ _ w (hk k (Nat.le_refl _))
theorem hear_b (l : Bool) (s now n h x t : Int) (l2 f : Bool) (hs : 0 ≤ s ∧ s ≤ 1000000) (w : World) : Calls Try.prog 24 #[.agg #[.int .u8 3, .int .u16 2, .int .u8 4, .string grp, .int .i64 n, .int .i64 h, .int .i64 x, .int .u64 t, .bool l2, .bool f], .int .i64 now, .string (said l s)] w fun y w' => (∃ v : Nat, y = .returned (.tuple #[.agg #[.int .u8 3, .int .u16 2, .int .u8 4, .string grp, .int .i64 n, .int .i64 now, .int .i64 x, .int .u64 t, .bool false, .bool (if l = true then true else false)], .int .i64 0])) ∧ Below w.heap.size w w' := by
  obtain ⟨k, hk⟩ := peer_hears l s now n h x t l2 f hs
  exact (watch_Watch_Hear.calls k _ _ _ _ _ _ _ _ _ _ _ _ _ _ _ _ _ _ _ _ _ _ _ w (hk k (Nat.le_refl _))).mono fun e w' h => ⟨⟨0, h.1⟩, h.2⟩
theorem hear_a (l : Bool) (s now n h x t : Int) (l2 f : Bool) (hs : 0 ≤ s ∧ s ≤ 1000000) (w : World) : Calls Try.prog 24 #[.agg #[.int .u8 3, .int .u16 1, .int .u8 4, .string grp, .int .i64 n, .int .i64 h, .int .i64 x, .int .u64 t, .bool l2, .bool f], .int .i64 now, .string (said l s)] w fun y w' => y = .returned (.tuple #[.agg #[.int .u8 3, .int .u16 1, .int .u8 4, .string grp, .int .i64 n, .int .i64 h, .int .i64 x, .int .u64 t, .bool l2, .bool f], .int .i64 10]) ∧ Below w.heap.size w w' := by
  obtain ⟨k, hk⟩ := self_not l s now n h x t l2 f hs
  exact watch_Watch_Hear.calls k _ _ _ _ _ _ _ _ _ _ _ _ _ _ _ _ _ _ _ _ _ _ _ w (hk k (Nat.le_refl _))
end Go.Proofs.Ytapicoienpbdfaa.Se
