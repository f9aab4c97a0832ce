/- The plain lemmas that this claim's law stands on, in one text. -/
import Derived.Test.YtapicoienpbdfaaPWatchPlaysx7
import Derived.Test.YtapicoienpbdfaaVWatchPlaysb
import Derived.Test.YtapicoienpbdfaaPWatchPlaysx8
import Derived.Test.YtapicoienpbdfaaPWatchPlaysx2
import Derived.Test.YtapicoienpbdfaaPWatchPlaysx3
import Derived.Test.YtapicoienpbdfaaPWatchPlaysx9
import Derived.Test.YtapicoienpbdfaaPWatchPlaysx5
import Derived.Test.YtapicoienpbdfaaPWatchPlaysx4
import Derived.Test.YtapicoienpbdfaaPWatchPlaysx6
import Derived.Test.YtapicoienpbdfaaPWatchPlaysx11
import Derived.Test.YtapicoienpbdfaaPWatchPlaysx10
import Derived.Test.YtapicoienpbdfaaPWatchPlaysx12
import Derived.Test.YtapicoienpbdfaaPWatchPlaysx13
/- Split, the program's, as printed: it comes to the plain word split. -/
namespace Go.Proofs.Ytapicoienpbdfaa.LWatchPlays
open Go.RowKit Go.Proofs.Ytapicoienpbdfaa.PWatchPlays Go.Proofs.YtapicoienpbdfaaW.PrintWords Go.Proofs.YtapicoienpbdfaaW.PrintLast Go.Proofs.YtapicoienpbdfaaW.PrintMore Go.Proofs.Ytapicoienpbdfaa
set_option linter.unusedVariables false
set_option linter.unusedSimpArgs false

theorem sw_wrap {n : Int} (h0 : -9223372036854775808 ≤ n) (h1 : n ≤ 9223372036854775807) : wrap64 n = n := by unfold wrap64; omega
theorem sw_u64 {n : Int} (h0 : 0 ≤ n) (h1 : n ≤ 18446744073709551615) : IntKind.u64.wrap n = n := by simp [IntKind.wrap, IntKind.bits, IntKind.signed]; omega
theorem sw_rd {l : List Int} {i : Nat} (h : i < l.length) : rd l (i : Int) = l[i] := by unfold rd; simp [List.getD_eq_getElem?_getD, h]
theorem sw_take {l : List Int} {i : Nat} (h : i < l.length) : l.take (i + 1) = l.take i ++ [l[i]] := List.take_succ_eq_append_getElem h

theorem sum_snoc (l : List Int) (b : Int) : Gv.sumW (l ++ [b]) = Gv.sumW l + b := by unfold Gv.sumW; rw [List.foldl_append]; rfl
theorem sum_bound (l : List Int) (h : Gv.okW l = true) : 0 ≤ Gv.sumW l ∧ Gv.sumW l ≤ 64 * l.length ∧ (l.length : Int) ≤ Gv.sumW l := by
  have key : ∀ l : List Int, Gv.okW l = true → 0 ≤ Gv.sumW l ∧ Gv.sumW l ≤ 64 * l.length ∧ (l.length : Int) ≤ Gv.sumW l := by
    refine fun l => Gv.rev_ind (P := fun l => Gv.okW l = true → 0 ≤ Gv.sumW l ∧ Gv.sumW l ≤ 64 * l.length ∧ (l.length : Int) ≤ Gv.sumW l) (fun _ => by simp [Gv.sumW]) (fun l b ih h => ?_) l
    simp only [Gv.okW, List.all_append, Bool.and_eq_true, List.all_cons, List.all_nil, decide_eq_true_eq] at h
    have := ih (by simp only [Gv.okW]; exact h.1)
    rw [sum_snoc, List.length_append, List.length_singleton]
    omega
  exact key l h
theorem okW_take {l : List Int} (h : Gv.okW l = true) (i : Nat) : Gv.okW (l.take i) = true := by
  simp only [Gv.okW, List.all_eq_true] at *
  exact fun x hx => h x (List.mem_of_mem_take hx)
theorem okW_get {l : List Int} (h : Gv.okW l = true) {i : Nat} (hi : i < l.length) : 1 ≤ l[i] ∧ l[i] ≤ 64 := by
  simp only [Gv.okW, List.all_eq_true] at h
  have := h l[i] (List.getElem_mem hi)
  simpa using this

/-! ### the program's sum of widths -/
theorem may_f (x : Int) : field_may.f x = some (decide (1 ≤ x) && decide (x ≤ 64)) := by
  unfold field_may.f
  by_cases h : x ≥ 1
  · rw [if_pos h]; simp [h]
  · rw [if_neg h]; simp [h]

theorem ev_sum_loop (l : List Int) (hl : l.length ≤ 1000) (d : Nat) : ∀ i : Nat, l.length - i = d → i ≤ l.length → Gv.okW (l.take i) = true →
    Ev (fun k => field_sum.l0 k (Gv.sumW (l.take i)) l (l.length : Int) (i : Int)) (if Gv.okW l = true then Gv.sumW l else -1) := by
  induction d with
  | zero =>
    intro i hi hi2 hok
    rw [List.take_of_length_le (by omega)] at hok ⊢
    rw [if_pos hok]
    refine Ev.step (f := fun _ => some (Gv.sumW l)) (fun k => ?_) (Ev.now _)
    simp only [field_sum.l0]
    rw [if_neg (by omega)]
  | succ d ih =>
    intro i hi hi2 hok
    have hil : i < l.length := by omega
    have hb := sum_bound _ hok
    have hlt : ((l.take i).length : Int) ≤ i := by have := List.length_take_le i l; omega
    by_cases hm : 1 ≤ l[i] ∧ l[i] ≤ 64
    · have hokn : Gv.okW (l.take (i + 1)) = true := by
        rw [sw_take hil]; simp only [Gv.okW, List.all_append, Bool.and_eq_true]
        exact ⟨hok, by simp [hm.1, hm.2]⟩
      have h := ih (i + 1) (by omega) (by omega) hokn
      rw [sw_take hil, sum_snoc] at h
      refine Ev.step (fun k => ?_) h
      simp only [field_sum.l0]
      rw [if_pos (by omega), if_pos (by omega), if_pos (by omega), sw_rd hil, may_f]
      simp only [hm.1, hm.2, decide_true, Bool.and_self, Option.bind_some, if_true]
      rw [sw_wrap (by omega) (by omega), sw_wrap (by omega) (by omega)]
      rfl
    · have hbad : ¬ Gv.okW l = true := fun h => hm (okW_get h hil)
      rw [if_neg hbad]
      refine Ev.step (f := fun _ => some (-1)) (fun k => ?_) (Ev.now _)
      simp only [field_sum.l0]
      rw [if_pos (by omega), if_pos (by omega), if_pos (by omega), sw_rd hil, may_f]
      have : (decide (1 ≤ l[i]) && decide (l[i] ≤ 64)) = false := by
        rw [Bool.and_eq_false_iff]; simp only [decide_eq_false_iff_not]; omega
      rw [this]; simp

theorem ev_sum (l : List Int) (hl : l.length ≤ 1000) : Ev (fun k => field_sum.f k l) (if Gv.okW l = true then Gv.sumW l else -1) := by
  have h := ev_sum_loop l hl _ 0 rfl (by omega) (by simp [Gv.okW])
  exact h

/-! ### bits of a string -/
theorem sBits_get (s : ByteArray) (p : Nat) (h : p < 8 * s.size) : (Gv.sBits s)[p]'(by rw [Gv.sBits_length]; exact h) = bt s (p / 8 : Nat) / 2 ^ (7 - p % 8) % 2 := by
  have key : ∀ (l : List Int) (p : Nat) (h : p < 8 * l.length), (l.flatMap fun b => Gv.bitsOf 8 b)[p]? = some (l.getD (p / 8) 0 / 2 ^ (7 - p % 8) % 2) := by
    intro l
    induction l with
    | nil => intro p h; simp at h
    | cons b l ih =>
      intro p h
      rw [List.flatMap_cons]
      by_cases hp : p < 8
      · rw [List.getElem?_append_left (by rw [Gv.bitsOf_length]; exact hp), show p / 8 = 0 from by omega, show p % 8 = p from by omega]
        rw [List.getElem?_eq_getElem (by rw [Gv.bitsOf_length]; exact hp)]
        simp [Gv.bitsOf]
      · rw [List.getElem?_append_right (by rw [Gv.bitsOf_length]; omega), Gv.bitsOf_length, ih (p - 8) (by simp at h; omega), show (p - 8) / 8 = p / 8 - 1 from by omega, show (p - 8) % 8 = p % 8 from by omega]
        obtain ⟨q, hq⟩ : ∃ q, p / 8 = q + 1 := ⟨p / 8 - 1, by omega⟩
        rw [hq]; simp
  have h2 := key (bytesOf s) p (by rw [bytesOf_length]; exact h)
  have h3 : (bytesOf s).getD (p / 8) 0 = bt s (p / 8 : Nat) := by
    rw [← rd_bytesOf]; rfl
  rw [h3] at h2
  exact (List.getElem?_eq_some_iff.1 h2).2

theorem wraps_u8' (n : Int) (h₀ : 0 ≤ n) (h₁ : n < 2 ^ 8) : IntKind.u8.wrap n = n := wraps_u8 n h₀ h₁
theorem wraps_u64' (n : Int) (h₀ : 0 ≤ n) (h₁ : n < 2 ^ 64) : IntKind.u64.wrap n = n := sw_u64 h₀ (by omega)
theorem div2_range (v : Int) (m : Nat) (h0 : 0 ≤ v) (h1 : v ≤ 255) : 0 ≤ v / 2 ^ m ∧ v / 2 ^ m ≤ 255 :=
  ⟨Int.ediv_nonneg h0 (Int.le_of_lt (Int.pow_pos (by decide))), Int.le_trans (Int.ediv_le_self _ h0) h1⟩
theorem pow_le_63 {m : Nat} (h : m ≤ 63) : (2 : Int) ^ m ≤ 9223372036854775808 := by
  have h1 : (2 : Int) ^ m ≤ 2 ^ 63 := by
    have := Nat.pow_le_pow_right (show 0 < 2 by decide) h
    exact_mod_cast this
  exact Int.le_trans h1 (by decide)
theorem pow_le_64 {m : Nat} (h : m ≤ 64) : (2 : Int) ^ m ≤ 18446744073709551616 := by
  have h1 : (2 : Int) ^ m ≤ 2 ^ 64 := by
    have := Nat.pow_le_pow_right (show 0 < 2 by decide) h
    exact_mod_cast this
  exact Int.le_trans h1 (by decide)
/-- One bit of the program's Split. -/
theorem split_bit (x : Int) (b : Int) (m : Nat) (hm : m ≤ 7) (hx0 : 0 ≤ x) (hx1 : x < 9223372036854775808) (hb0 : 0 ≤ b) (hb1 : b ≤ 255) :
    Go.bits .or .u64 (IntKind.u64.wrap (x * 2)) (IntKind.u64.wrap (Go.bits .and .u8 (shr .u8 b (m : Int)) 1)) = x * 2 + b / 2 ^ m % 2 := by
  have e1 : shr .u8 b (m : Int) = b / 2 ^ m := by
    unfold shr
    rw [Int.toNat_natCast, Nat.min_eq_left (by simp [IntKind.bits]; omega)]
  have hr := div2_range b m hb0 hb1
  have e2 : Go.bits .and .u8 (b / 2 ^ m) 1 = b / 2 ^ m % 2 := bits_mask .u8 8 (by decide) wraps_u8 1 (by decide) _ hr.1 (by omega)
  rw [e1, e2, sw_u64 (by omega) (by omega), sw_u64 (by omega) (by omega)]
  exact bits_join .u64 64 (by decide) wraps_u64' 1 _ _ (by omega) (by omega) (by omega) (by omega) (by omega) (by omega)

theorem valOf_take_succ {l : List Int} {p : Nat} (h : p < l.length) : Gv.valOf (l.take (p + 1)) = Gv.valOf (l.take p) * 2 + l[p] := by rw [sw_take h, Gv.valOf_snoc]

/-- The inner loop: one part. -/
theorem ev_part (s : ByteArray) (hs : s.size ≤ 100000) (n : Int) (out ws : List Int) (i : Int) (at_ w : Nat) (hw : w ≤ 64) (ha : at_ + w ≤ 8 * s.size) (hout : out.length ≤ 1000) (r : List Int × ByteArray × Int)
    (hk : Ev (fun k => field_Split.l0 k s n (out ++ [Gv.valOf (((Gv.sBits s).drop at_).take w)]) ((at_ + w : Nat) : Int) ws (ws.length : Int) (wrap64 (i + 1))) r) (d : Nat) :
    ∀ j : Nat, w - j = d → j ≤ w → Ev (fun k => field_Split.l1 k s n out ((at_ + j : Nat) : Int) (Gv.valOf (((Gv.sBits s).drop at_).take j)) ws (ws.length : Int) i (w : Int) (j : Int)) r := by
  have hlen := Gv.sBits_length s
  induction d with
  | zero =>
    intro j hj hj2
    obtain rfl : j = w := by omega
    refine Ev.step (fun k => ?_) hk
    simp only [field_Split.l1]
    rw [if_neg (by omega), if_pos (by omega)]
  | succ d ih =>
    intro j hj hj2
    have h := ih (j + 1) (by omega) (by omega)
    have hjl : j < ((Gv.sBits s).drop at_).length := by rw [List.length_drop, hlen]; omega
    rw [valOf_take_succ hjl, List.getElem_drop, sBits_get s (at_ + j) (by omega)] at h
    have hbits : Gv.IsBits (((Gv.sBits s).drop at_).take j) := fun b hb => Gv.sBits_bits s b (List.mem_of_mem_drop (List.mem_of_mem_take hb))
    have hv := Gv.valOf_range hbits
    have hlj : (((Gv.sBits s).drop at_).take j).length = j := by rw [List.length_take]; omega
    rw [hlj] at hv
    have hp := pow_le_63 (show j ≤ 63 by omega)
    have hbt := bt_range s ((at_ + j) / 8 : Nat)
    refine Ev.step (fun k => ?_) h
    simp only [field_Split.l1]
    have t1 : wrap64 (Int.tdiv ((at_ + j : Nat) : Int) 8) = (((at_ + j) / 8 : Nat) : Int) := by
      rw [Int.tdiv_eq_ediv_of_nonneg (by omega), sw_wrap (by omega) (by omega)]; omega
    have t2 : wrap64 (7 - Int.tmod ((at_ + j : Nat) : Int) 8) = ((7 - (at_ + j) % 8 : Nat) : Int) := by
      rw [Int.tmod_eq_emod_of_nonneg (by omega), sw_wrap (by omega) (by omega)]; omega
    rw [if_pos (by omega), t1, if_pos (by omega), if_pos (by omega), t2, if_pos (by omega)]
    rw [split_bit _ _ (7 - (at_ + j) % 8) (by omega) hv.1 (by omega) hbt.1 hbt.2, sw_wrap (by omega) (by omega), sw_wrap (by omega) (by omega)]
    rfl

theorem vals_snoc (bits : List Int) (ws : List Int) (hok : Gv.okW ws = true) (w : Int) : Gv.vals bits (ws ++ [w]) = Gv.vals bits ws ++ [Gv.valOf ((bits.drop (Gv.sumW ws).toNat).take w.toNat)] := by
  have key : ∀ (ws bits : List Int) (a : Int), Gv.okW ws = true → Gv.vals bits (ws ++ [w]) = Gv.vals bits ws ++ [Gv.valOf ((bits.drop (Gv.sumW ws).toNat).take w.toNat)] := by
    intro ws
    induction ws with
    | nil => intro bits a _; simp [Gv.vals, Gv.sumW]
    | cons x ws ih =>
      intro bits a h
      simp only [Gv.okW, List.all_cons, Bool.and_eq_true, decide_eq_true_eq] at h
      have h2 := ih (bits.drop x.toNat) a (by simp only [Gv.okW]; exact h.2)
      have hb := sum_bound ws (by simp only [Gv.okW]; exact h.2)
      have hs : Gv.sumW (x :: ws) = x + Gv.sumW ws := by
        have : ∀ (l : List Int) (c : Int), l.foldl (· + ·) c = c + l.foldl (· + ·) 0 := by
          intro l
          induction l with
          | nil => intro c; simp
          | cons y l ih2 => intro c; rw [List.foldl_cons, ih2, List.foldl_cons, ih2 (0 + y)]; omega
        unfold Gv.sumW
        rw [List.foldl_cons, this]; omega
      simp only [List.cons_append, Gv.vals, h2]
      rw [List.drop_drop, hs, show (x + Gv.sumW ws).toNat = x.toNat + (Gv.sumW ws).toNat from by omega]
  exact key ws bits 0 hok

theorem vals_length (ws : List Int) (bits : List Int) : (Gv.vals bits ws).length = ws.length := by
  induction ws generalizing bits with
  | nil => rfl
  | cons x ws ih => simp [Gv.vals, ih]

theorem sum_take_le (l : List Int) (h : Gv.okW l = true) (i : Nat) (hi : i < l.length) : Gv.sumW (l.take i) + l[i] ≤ Gv.sumW l := by
  have key : ∀ d : Nat, ∀ j : Nat, l.length - j = d → j ≤ l.length → Gv.sumW (l.take j) ≤ Gv.sumW l := by
    intro d
    induction d with
    | zero => intro j hj hj2; rw [List.take_of_length_le (by omega)]; omega
    | succ d ih =>
      intro j hj hj2
      have h1 := ih (j + 1) (by omega) (by omega)
      have hj3 : j < l.length := by omega
      rw [sw_take hj3, sum_snoc] at h1
      have := okW_get h hj3
      omega
  have := key _ (i + 1) rfl (by omega)
  rwa [sw_take hi, sum_snoc] at this

theorem ev_split_loop (s : ByteArray) (hs : s.size ≤ 100000) (ws : List Int) (hl : ws.length ≤ 1000) (hok : Gv.okW ws = true) (h8 : Gv.sumW ws % 8 = 0) (hsz : Gv.sumW ws / 8 ≤ (s.size : Int)) (d : Nat) :
    ∀ i : Nat, ws.length - i = d → i ≤ ws.length →
    Ev (fun k => field_Split.l0 k s (Gv.sumW ws) (Gv.vals (Gv.sBits s) (ws.take i)) (Gv.sumW (ws.take i)) ws (ws.length : Int) (i : Int)) (Gv.vals (Gv.sBits s) ws, s.extract (Gv.sumW ws / 8).toNat s.size, 0) := by
  have hb := sum_bound ws hok
  have e1 : wrap64 (Int.tdiv (Gv.sumW ws) 8) = Gv.sumW ws / 8 := by rw [Int.tdiv_eq_ediv_of_nonneg hb.1, sw_wrap (by omega) (by omega)]
  induction d with
  | zero =>
    intro i hi hi2
    rw [List.take_of_length_le (by omega)]
    refine Ev.step (f := fun _ => some (Gv.vals (Gv.sBits s) ws, s.extract (Gv.sumW ws / 8).toNat s.size, 0)) (fun k => ?_) (Ev.now _)
    simp only [field_Split.l0]
    rw [if_neg (by omega), e1, if_pos (by omega), if_pos (by omega)]
  | succ d ih =>
    intro i hi hi2
    have hil : i < ws.length := by omega
    have h := ih (i + 1) (by omega) (by omega)
    have hwi := okW_get hok hil
    have hok2 := okW_take hok i
    have hb2 := sum_bound _ hok2
    have hle := sum_take_le ws hok i hil
    rw [sw_take hil, vals_snoc _ _ hok2, sum_snoc] at h
    obtain ⟨a, ha⟩ := Int.eq_ofNat_of_zero_le hb2.1
    obtain ⟨w, hw⟩ := Int.eq_ofNat_of_zero_le (show 0 ≤ ws[i] by omega)
    rw [hw, ha, Int.toNat_natCast, Int.toNat_natCast] at h
    have hp := ev_part s hs (Gv.sumW ws) (Gv.vals (Gv.sBits s) (ws.take i)) ws (i : Int) a w (by omega) (by omega) (by rw [vals_length, List.length_take]; omega) _ (by
      rw [sw_wrap (by omega) (by omega)]
      exact h) w 0 rfl (by omega)
    refine Ev.step (fun k => ?_) hp
    simp only [field_Split.l0]
    rw [if_pos (by omega), if_pos (by omega), if_pos (by omega), sw_rd hil, hw, ha]
    rfl

/-- The program's Split. -/
theorem ev_split (s : ByteArray) (hs : s.size ≤ 100000) (ws : List Int) (hl : ws.length ≤ 1000) : Ev (fun k => field_Split.f k s ws) (Gv.split s ws) := by
  have hsum := ev_sum ws hl
  simp only [field_Split.f]
  refine Ev.bind hsum ?_
  unfold Gv.split
  by_cases hok : Gv.okW ws = true
  · rw [if_pos hok, if_pos hok]
    have hb := sum_bound ws hok
    have e1 : wrap64 (Int.tdiv (Gv.sumW ws) 8) = Gv.sumW ws / 8 := by rw [Int.tdiv_eq_ediv_of_nonneg hb.1, sw_wrap (by omega) (by omega)]
    have e2 : Int.tmod (Gv.sumW ws) 8 = Gv.sumW ws % 8 := Int.tmod_eq_emod_of_nonneg hb.1
    by_cases h8 : Gv.sumW ws % 8 = 0
    · rw [if_pos h8]
      by_cases hz : Gv.sumW ws / 8 > (s.size : Int)
      · rw [if_pos hz]
        refine Ev.congr (fun k => ?_) (Ev.now _)
        rw [if_neg (by omega), e2, if_pos h8, e1, if_pos hz]
      · rw [if_neg hz]
        have h := ev_split_loop s hs ws hl hok h8 (by omega) _ 0 rfl (by omega)
        refine Ev.congr (fun k => ?_) h
        rw [if_neg (by omega), e2, if_pos h8, e1, if_neg hz]
        rfl
    · rw [if_neg h8]
      refine Ev.congr (fun k => ?_) (Ev.now _)
      rw [if_neg (by omega), e2, if_neg h8]
  · rw [if_neg hok, if_neg hok]
    refine Ev.congr (fun k => ?_) (Ev.now _)
    rw [if_pos (by decide)]

end Go.Proofs.Ytapicoienpbdfaa.LWatchPlays

/- Open of layer 4, the program's: it comes to a plain word. -/
namespace Go.Proofs.Ytapicoienpbdfaa.LWatchPlays
open Go.RowKit Go.Proofs.Ytapicoienpbdfaa.PWatchPlays Go.Proofs.YtapicoienpbdfaaW.PrintWords Go.Proofs.YtapicoienpbdfaaW.PrintLast Go.Proofs.YtapicoienpbdfaaW.PrintMore Go.Proofs.Ytapicoienpbdfaa
set_option linter.unusedVariables false
set_option linter.unusedSimpArgs false

/-- The head and the content of bytes, or what is wrong. -/
def oamOpen (s : ByteArray) : Int × Int × Int × Int × Int × ByteArray × Int :=
  if s.size < 4 then (0, 0, 0, 0, 0, ⟨#[]⟩, 1)
  else if (s.size : Int) < 5 + bt s 3 then (0, 0, 0, 0, 0, ⟨#[]⟩, 1)
  else if bt s (4 + bt s 3) = 0 then (bt s 0 / 32, bt s 0 % 32, bt s 1, bt s 2, bt s 3, s.extract 4 (4 + bt s 3).toNat, 0)
  else (0, 0, 0, 0, 0, ⟨#[]⟩, 3)

theorem split_oam (s : ByteArray) (h : 4 ≤ s.size) : Gv.split s [3, 5, 8, 8, 8] = ([bt s 0 / 32, bt s 0 % 32, bt s 1, bt s 2, bt s 3], s.extract 4 s.size, 0) := by
  have e1 : Gv.okW [3, 5, 8, 8, 8] = true := by decide
  have e2 : Gv.sumW [3, 5, 8, 8, 8] = 32 := by decide
  unfold Gv.split
  rw [if_pos e1, e2, if_pos (by decide), if_neg (by omega)]
  have hh := Gv.bytesOf_head s 4 h
  simp only [List.range, List.range.loop, List.map, List.cons_append, List.nil_append] at hh
  have h0 := bt_range s 0; have h1 := bt_range s 1; have h2 := bt_range s 2; have h3 := bt_range s 3
  have e3 : Gv.sBits s = Gv.bitsOf 3 (bt s 0 / 32) ++ (Gv.bitsOf 5 (bt s 0) ++ (Gv.bitsOf 8 (bt s 1) ++ (Gv.bitsOf 8 (bt s 2) ++ (Gv.bitsOf 8 (bt s 3) ++ ((bytesOf s).drop 4).flatMap fun b => Gv.bitsOf 8 b)))) := by
    rw [Gv.sBits_cons hh, Gv.flat_cons, Gv.flat_cons, Gv.flat_cons, Gv.flat_cons, ← List.append_assoc (Gv.bitsOf 3 _)]
    congr 1
    exact Gv.bitsOf_add 3 5 (bt s 0)
  have e4 : Gv.vals (Gv.sBits s) [3, 5, 8, 8, 8] = [bt s 0 / 32, bt s 0 % 32, bt s 1, bt s 2, bt s 3] := by
    rw [e3, show ([3, 5, 8, 8, 8] : List Int) = ((3 : Nat) : Int) :: ((5 : Nat) : Int) :: ((8 : Nat) : Int) :: ((8 : Nat) : Int) :: ((8 : Nat) : Int) :: [] from rfl]
    rw [Gv.vals_cons, Gv.vals_cons, Gv.vals_cons, Gv.vals_cons, Gv.vals_cons, Gv.vals_none]
    have p3 : (2 : Int) ^ 3 = 8 := by decide
    have p5 : (2 : Int) ^ 5 = 32 := by decide
    have p8 : (2 : Int) ^ 8 = 256 := by decide
    rw [p3, p5, p8, Int.emod_eq_of_lt (a := bt s 0 / 32) (by omega) (by omega), Int.emod_eq_of_lt h1.1 (by omega), Int.emod_eq_of_lt h2.1 (by omega), Int.emod_eq_of_lt h3.1 (by omega)]
  rw [e4]
  rfl
theorem split_oam_short (s : ByteArray) (h : s.size < 4) : Gv.split s [3, 5, 8, 8, 8] = ([], ⟨#[]⟩, 1) := by
  have e1 : Gv.okW [3, 5, 8, 8, 8] = true := by decide
  have e2 : Gv.sumW [3, 5, 8, 8, 8] = 32 := by decide
  unfold Gv.split
  rw [if_pos e1, e2, if_pos (by decide), if_pos (by omega)]

theorem bt_ext (s : ByteArray) (n : Int) (h0 : 0 ≤ n) (h4 : 4 ≤ s.size) : bt (s.extract 4 s.size) n = bt s (4 + n) := by
  rw [Gv.bt_get, Gv.bt_get, Gv.bytesOf_extract]
  rw [List.take_of_length_le (by rw [bytesOf_length]; exact Nat.le_refl _)]
  simp only [List.getD_eq_getElem?_getD, List.getElem?_drop]
  rw [show (4 + n).toNat = 4 + n.toNat from by omega]
theorem size_ext (s : ByteArray) (a b : Nat) (h : b ≤ s.size) : (s.extract a b).size = b - a := by
  rw [Gv.size_bytesOf, Gv.bytesOf_extract, List.length_drop, List.length_take, bytesOf_length]; omega
theorem ext_ext (s : ByteArray) (n : Nat) : (s.extract 4 s.size).extract 0 n = s.extract 4 (4 + n) := by
  apply Gv.bytesOf_inj
  rw [Gv.bytesOf_extract, Gv.bytesOf_extract, Gv.bytesOf_extract, List.take_of_length_le (l := bytesOf s) (i := s.size) (by rw [bytesOf_length]; exact Nat.le_refl _), List.drop_zero, List.drop_take, show 4 + n - 4 = n from by omega]

/-- The program's Open. -/
theorem ev_oam_open (s : ByteArray) (hs : s.size ≤ 100000) : Ev (fun k => oam_Open.f k s) (oamOpen s) := by
  have hsp := ev_split s hs [3, 5, 8, 8, 8] (by simp)
  simp only [oam_Open.f]
  refine Ev.bind hsp (Ev.congr (fun k => ?_) (Ev.now _))
  unfold oamOpen
  by_cases h4 : s.size < 4
  · rw [split_oam_short s h4, if_pos h4]
    simp
  · rw [split_oam s (by omega), if_neg h4]
    have h3 := bt_range s 3
    have h0 := bt_range s 0
    have h1 := bt_range s 1
    have h2 := bt_range s 2
    have r0 : rd [bt s 0 / 32, bt s 0 % 32, bt s 1, bt s 2, bt s 3] 0 = bt s 0 / 32 := rfl
    have r1 : rd [bt s 0 / 32, bt s 0 % 32, bt s 1, bt s 2, bt s 3] 1 = bt s 0 % 32 := rfl
    have r2 : rd [bt s 0 / 32, bt s 0 % 32, bt s 1, bt s 2, bt s 3] 2 = bt s 1 := rfl
    have r3 : rd [bt s 0 / 32, bt s 0 % 32, bt s 1, bt s 2, bt s 3] 3 = bt s 2 := rfl
    have r4 : rd [bt s 0 / 32, bt s 0 % 32, bt s 1, bt s 2, bt s 3] 4 = bt s 3 := rfl
    have m0 : bt s 0 / 32 % 256 = bt s 0 / 32 := by omega
    have m1 : bt s 0 % 32 % 256 = bt s 0 % 32 := by omega
    have m2 : bt s 1 % 256 = bt s 1 := by omega
    have m3 : bt s 2 % 256 = bt s 2 := by omega
    have m4 : bt s 3 % 256 = bt s 3 := by omega
    simp only [r0, r1, r2, r3, r4, m0, m1, m2, m3, m4, List.length_cons, List.length_nil]
    rw [if_pos trivial, if_pos (by decide), size_ext s 4 s.size (Nat.le_refl _)]
    by_cases h5 : (s.size : Int) < 5 + bt s 3
    · rw [if_pos (by omega), if_pos h5]
    · rw [if_neg (by omega), if_neg h5, bt_ext s _ h3.1 (by omega), ext_ext s]
      by_cases hz : bt s (4 + bt s 3) = 0
      · rw [if_pos hz, if_pos hz, show 4 + (bt s 3).toNat = (4 + bt s 3).toNat from by omega]
      · rw [if_neg hz, if_neg hz]

end Go.Proofs.Ytapicoienpbdfaa.LWatchPlays

/- Is of layer 4: the program's comes to a plain word. -/
namespace Go.Proofs.Ytapicoienpbdfaa.LWatchPlays
open Go.RowKit Go.Proofs.Ytapicoienpbdfaa.PWatchPlays Go.Proofs.YtapicoienpbdfaaW.PrintWords Go.Proofs.YtapicoienpbdfaaW.PrintLast Go.Proofs.YtapicoienpbdfaaW.PrintMore Go.Proofs.Ytapicoienpbdfaa
set_option linter.unusedVariables false
set_option linter.unusedSimpArgs false

/-- Is a head as it should be, or what isn't. -/
def oamIs (a b c e l v o f : Int) : Int := if a = l then (if b = v then (if c = o then (if e = f then 0 else 3) else 8) else 3) else 7
theorem is_own (k : Nat) (a b c d e l v o f : Int) : oam_Head_Is.f (k + 1) a b c d e l v o f = some (oamIs a b c e l v o f) := by
  unfold oam_Head_Is.f oamIs
  by_cases h1 : a = l
  · rw [if_pos h1, if_pos h1]
    by_cases h2 : b = v
    · by_cases h3 : c = o
      · by_cases h4 : e = f
        · simp [oam_Head_Is.j0, h2, h3, h4]
        · simp [oam_Head_Is.j0, h2, h3, h4]
      · simp [oam_Head_Is.j0, h2, h3]
    · by_cases h3 : c = o
      · simp [oam_Head_Is.j0, h2, h3]
      · simp [oam_Head_Is.j0, h2, h3]
  · rw [if_neg h1, if_neg h1]
theorem ev_is (a b c d e l v o f : Int) : Ev (fun k => oam_Head_Is.f k a b c d e l v o f) (oamIs a b c e l v o f) := by
  refine Ev.step (f := fun k => oam_Head_Is.f (k + 1) a b c d e l v o f) (fun k => rfl) ?_
  refine Ev.congr (fun k => ?_) (Ev.now _)
  rw [is_own]

end Go.Proofs.Ytapicoienpbdfaa.LWatchPlays

/- Layer 4: what an opened message is. -/
namespace Go.Proofs.Ytapicoienpbdfaa.LWatchPlays
open Go.RowKit Go.Proofs.Ytapicoienpbdfaa.PWatchPlays Go.Proofs.YtapicoienpbdfaaW.PrintWords Go.Proofs.YtapicoienpbdfaaW.PrintLast Go.Proofs.YtapicoienpbdfaaW.PrintMore Go.Proofs.Ytapicoienpbdfaa
set_option linter.unusedVariables false
set_option linter.unusedSimpArgs false

theorem oam_facts (s : ByteArray) (h : (oamOpen s).2.2.2.2.2.2 = 0) : ((oamOpen s).2.2.2.2.2.1.size : Int) = (oamOpen s).2.2.2.2.1 ∧ 0 ≤ (oamOpen s).2.2.2.1 ∧ (oamOpen s).2.2.2.1 ≤ 255 := by
  unfold oamOpen at *
  have h3 := bt_range s 3
  have h2 := bt_range s 2
  by_cases c1 : s.size < 4
  · rw [if_pos c1] at h; simp at h
  · rw [if_neg c1] at h ⊢
    by_cases c2 : (s.size : Int) < 5 + bt s 3
    · rw [if_pos c2] at h; simp at h
    · rw [if_neg c2] at h ⊢
      by_cases c3 : bt s (4 + bt s 3) = 0
      · rw [if_pos c3]
        refine ⟨?_, h2⟩
        show ((s.extract 4 (4 + bt s 3).toNat).size : Int) = bt s 3
        rw [size_ext s _ _ (by omega)]; omega
      · rw [if_neg c3] at h; simp at h
theorem is_facts {a b c e l v o f : Int} (h : oamIs a b c e l v o f = 0) : a = l ∧ b = v ∧ c = o ∧ e = f := by
  unfold oamIs at h
  by_cases h1 : a = l
  · rw [if_pos h1] at h
    by_cases h2 : b = v
    · rw [if_pos h2] at h
      by_cases h3 : c = o
      · rw [if_pos h3] at h
        by_cases h4 : e = f
        · exact ⟨h1, h2, h3, h4⟩
        · rw [if_neg h4] at h; omega
      · rw [if_neg h3] at h; omega
    · rw [if_neg h2] at h; omega
  · rw [if_neg h1] at h; omega


end Go.Proofs.Ytapicoienpbdfaa.LWatchPlays

/- Close of layer 4, the program's: it comes to a plain word. -/
namespace Go.Proofs.Ytapicoienpbdfaa.LWatchPlays
open Go.RowKit Go.Proofs.Ytapicoienpbdfaa.PWatchPlays Go.Proofs.YtapicoienpbdfaaW.PrintWords Go.Proofs.YtapicoienpbdfaaW.PrintLast Go.Proofs.YtapicoienpbdfaaW.PrintMore Go.Proofs.Ytapicoienpbdfaa
set_option linter.unusedVariables false
set_option linter.unusedSimpArgs false

/-- A message's bytes, or what is wrong. -/
def oamClose (l v c f o : Int) (s : ByteArray) : ByteArray × Int :=
  if l ≤ 7 ∧ v ≤ 31 then (if (s.size : Int) = o then ((strOfNums [l * 32 + v, c, f, o] ++ s) ++ ⟨#[0]⟩, 0) else (⟨#[]⟩, 3)) else (⟨#[]⟩, 4)
def isU8 (n : Int) : Prop := 0 ≤ n ∧ n ≤ 255

theorem oc_u64 {n : Int} (h : isU8 n) : IntKind.u64.wrap n = n := by have := h.1; have := h.2; simp [IntKind.wrap, IntKind.bits, IntKind.signed]; omega
theorem oc_wrap {n : Int} (h : isU8 n) : wrap64 n = n := by have := h.1; have := h.2; unfold wrap64; omega

theorem pack_oam (l v c f o : Int) (hl : isU8 l) (hv : isU8 v) (hc : isU8 c) (hf : isU8 f) (ho : isU8 o) :
    Gv.pack [(3, l), (5, v), (8, c), (8, f), (8, o)] = some (if l ≤ 7 ∧ v ≤ 31 then (strOfNums [l * 32 + v, c, f, o], 0) else (ByteArray.empty, 4)) := by
  have p3 : (2 : Int) ^ (3 : Int).toNat = 8 := by decide
  have p5 : (2 : Int) ^ (5 : Int).toNat = 32 := by decide
  have p8 : (2 : Int) ^ (8 : Int).toNat = 256 := by decide
  unfold isU8 at *
  have hu : Gv.isU64 [(3, l), (5, v), (8, c), (8, f), (8, o)] = true := by
    simp only [Gv.isU64, List.all_cons, List.all_nil, Bool.and_true, Bool.and_eq_true, decide_eq_true_eq]; unfold Gv.u64max; omega
  unfold Gv.pack
  rw [if_pos ⟨hu, by simp⟩]
  by_cases h : l ≤ 7 ∧ v ≤ 31
  · have hok : [((3 : Int), l), (5, v), (8, c), (8, f), (8, o)].all Gv.okPart = true := by
      simp only [List.all_cons, List.all_nil, Gv.okPart, p3, p5, p8, Bool.and_true, Bool.and_eq_true, Bool.or_eq_true, decide_eq_true_eq]; omega
    have e : Gv.allBits [(3, l), (5, v), (8, c), (8, f), (8, o)] = Gv.bitsOf 8 (l * 32 + v) ++ (Gv.bitsOf 8 c ++ (Gv.bitsOf 8 f ++ Gv.bitsOf 8 o)) := by
      have h32 : (2 : Int) ^ 5 = 32 := by decide
      have := Gv.bitsOf_join 3 5 l v hv.1 (by rw [h32]; omega)
      have e32 : (2 : Int) ^ 5 = 32 := by decide
      rw [e32] at this
      simp only [Gv.allBits, List.flatMap_cons, List.flatMap_nil, List.append_nil]
      show Gv.bitsOf 3 l ++ (Gv.bitsOf 5 v ++ _) = _
      rw [← List.append_assoc, this]
      rfl
    have elen : (Gv.bitsOf 8 (l * 32 + v) ++ (Gv.bitsOf 8 c ++ (Gv.bitsOf 8 f ++ Gv.bitsOf 8 o))).length % 8 = 0 := by
      simp only [List.length_append, Gv.bitsOf_length]
    rw [if_pos hok, e, if_pos elen, if_pos h, Gv.packB_byte, Gv.packB_byte, Gv.packB_byte, Gv.packB_last]
    rw [Int.emod_eq_of_lt (a := l * 32 + v) (by omega) (by omega), Int.emod_eq_of_lt hc.1 (by omega), Int.emod_eq_of_lt hf.1 (by omega), Int.emod_eq_of_lt ho.1 (by omega)]
    rfl
  · have hok : ¬ [((3 : Int), l), (5, v), (8, c), (8, f), (8, o)].all Gv.okPart = true := by
      simp only [List.all_cons, List.all_nil, Gv.okPart, p3, p5, p8, Bool.and_true, Bool.and_eq_true, Bool.or_eq_true, decide_eq_true_eq]; omega
    rw [if_neg hok, if_neg h]

/-- The program's Close. -/
theorem oam_close (l v c f o : Int) (s : ByteArray) (hs : s.size ≤ 100000) (hl : isU8 l) (hv : isU8 v) (hc : isU8 c) (hf : isU8 f) (ho : isU8 o) : oam_Close.f l v c f o s = some (oamClose l v c f o s) := by
  unfold oam_Close.f field_Pack.f oamClose
  rw [oc_u64 hl, oc_u64 hv, oc_u64 hc, oc_u64 hf, oc_u64 ho]
  simp only [List.map_cons, List.map_nil]
  rw [pack_oam l v c f o hl hv hc hf ho, oc_wrap ho]
  have hz : (strOfNums [l * 32 + v, c, f, o]).size = 4 := by rw [strOfNums_size]; rfl
  by_cases h : l ≤ 7 ∧ v ≤ 31
  · rw [if_pos h, if_pos h]
    simp only [Option.bind_some]
    rw [if_pos trivial, hz]
    by_cases h2 : (s.size : Int) = o
    · rw [if_pos h2, if_pos h2, if_pos (by omega), if_pos (by omega)]
    · rw [if_neg h2, if_neg h2]
  · rw [if_neg h, if_neg h]
    simp only [Option.bind_some]
    rw [if_neg (by decide)]

end Go.Proofs.Ytapicoienpbdfaa.LWatchPlays

/- Name of layer 6, the program's: it comes to a plain word. -/
namespace Go.Proofs.Ytapicoienpbdfaa.LWatchPlays
open Go.RowKit Go.Proofs.Ytapicoienpbdfaa.PWatchPlays Go.Proofs.YtapicoienpbdfaaW.PrintWords Go.Proofs.YtapicoienpbdfaaW.PrintLast Go.Proofs.YtapicoienpbdfaaW.PrintMore Go.Proofs.Ytapicoienpbdfaa
set_option linter.unusedVariables false
set_option linter.unusedSimpArgs false

theorem cc_wrap {n : Int} (h0 : -9223372036854775808 ≤ n) (h1 : n ≤ 9223372036854775807) : wrap64 n = n := by unfold wrap64; omega
theorem rep_list (n : Nat) : Lib.repeatL [(0 : UInt8)] n = List.replicate n 0 := by
  induction n with
  | zero => rfl
  | succ n ih =>
    simp only [Lib.repeatL, List.replicate_succ, List.flatten_cons] at *
    rw [ih]; rfl
theorem rep_zero (n : Int) (h0 : 0 ≤ n) (h1 : n ≤ 100000) : strings_Repeat.f (⟨#[0]⟩ : ByteArray) n = some (strOfNums (List.replicate n.toNat 0)) := by
  unfold strings_Repeat.f
  rw [if_pos ⟨h0, h1, by decide⟩, show (⟨#[0]⟩ : ByteArray).data.toList = [0] from rfl, rep_list]
  unfold strOfNums
  simp
/-- A text of 48 bytes. -/
def nameOf (s : ByteArray) : ByteArray := if s.size > 48 then s.extract 0 48 else s ++ strOfNums (List.replicate (48 - s.size) 0)
theorem name_own (s : ByteArray) : ccm_Name.f s = some (nameOf s) := by
  unfold ccm_Name.f nameOf
  by_cases h : s.size > 48
  · rw [if_pos (by omega), if_pos (by decide), if_pos (by omega), if_pos h]
  · rw [if_neg (by omega), if_neg h, cc_wrap (by omega) (by omega), rep_zero _ (by omega) (by omega), Option.bind_some, strOfNums_size, List.length_replicate, if_pos (by omega), show (48 - (s.size : Int)).toNat = 48 - s.size from by omega]
theorem name_bytes (s : ByteArray) : bytesOf (nameOf s) = (bytesOf s).take 48 ++ List.replicate (48 - s.size) 0 := by
  have hl : (bytesOf s).length = s.size := bytesOf_length s
  unfold nameOf
  by_cases h : s.size > 48
  · rw [if_pos h, Gv.bytesOf_extract, List.drop_zero, show 48 - s.size = 0 from by omega]; simp
  · rw [if_neg h, Gv.bytesOf_append, List.take_of_length_le (by omega), Gv.bytesOf_str _ (by intro x hx; have := (List.mem_replicate.1 hx).2; omega)]

end Go.Proofs.Ytapicoienpbdfaa.LWatchPlays

/- Noughts of layer 1: are all bytes 0? -/
namespace Go.Proofs.Ytapicoienpbdfaa.LWatchPlays
open Go.RowKit Go.Proofs.Ytapicoienpbdfaa.PWatchPlays Go.Proofs.YtapicoienpbdfaaW.PrintWords Go.Proofs.YtapicoienpbdfaaW.PrintLast Go.Proofs.YtapicoienpbdfaaW.PrintMore Go.Proofs.Ytapicoienpbdfaa
set_option linter.unusedVariables false
set_option linter.unusedSimpArgs false

theorem ev_nought_loop (s : ByteArray) (hs : s.size ≤ 100000) (d : Nat) : ∀ i : Nat, s.size - i = d → i ≤ s.size → Gv.allz s i = true →
    Ev (fun k => field_Noughts.l0 k s (s.size : Int) (i : Int)) (Gv.allz s s.size) := by
  induction d with
  | zero =>
    intro i hi hi2 hz
    obtain rfl : i = s.size := by omega
    rw [hz]
    refine Ev.step (f := fun _ => some true) (fun k => ?_) (Ev.now _)
    simp only [field_Noughts.l0]
    rw [if_neg (by omega)]
  | succ d ih =>
    intro i hi hi2 hz
    by_cases hb : bt s (i : Int) = 0
    · have h := ih (i + 1) (by omega) (by omega) (by simp [Gv.allz, hz, hb])
      refine Ev.step (fun k => ?_) h
      simp only [field_Noughts.l0]
      rw [if_pos (by omega), if_pos (by omega), if_pos (by omega), if_pos hb, sw_wrap (by omega) (by omega)]
      rfl
    · have hf : Gv.allz s s.size = false := by
        have := Gv.allz_false s (i + 1) (by simp [Gv.allz, hb]) (s.size - (i + 1))
        rwa [show i + 1 + (s.size - (i + 1)) = s.size from by omega] at this
      rw [hf]
      refine Ev.step (f := fun _ => some false) (fun k => ?_) (Ev.now _)
      simp only [field_Noughts.l0]
      rw [if_pos (by omega), if_pos (by omega), if_pos (by omega), if_neg hb]
theorem ev_noughts (s : ByteArray) (hs : s.size ≤ 100000) : Ev (fun k => field_Noughts.f k s) (decide (s = strOfNums (List.replicate s.size 0))) := by
  have h := ev_nought_loop s hs _ 0 rfl (by omega) rfl
  have e : Gv.allz s s.size = decide (s = strOfNums (List.replicate s.size 0)) := by
    have := Gv.allz_str s
    by_cases hz : s = strOfNums (List.replicate s.size 0)
    · rw [decide_eq_true hz]; exact this.2 hz
    · rw [decide_eq_false hz]
      cases hq : Gv.allz s s.size with
      | false => rfl
      | true => exact absurd (this.1 hq) hz
  rw [e] at h
  exact h

end Go.Proofs.Ytapicoienpbdfaa.LWatchPlays

/- Layer 6, the program's Close and Name: they come to plain words. -/
namespace Go.Proofs.Ytapicoienpbdfaa.LWatchPlays
open Go.RowKit Go.Proofs.Ytapicoienpbdfaa.PWatchPlays Go.Proofs.YtapicoienpbdfaaW.PrintWords Go.Proofs.YtapicoienpbdfaaW.PrintLast Go.Proofs.YtapicoienpbdfaaW.PrintMore Go.Proofs.Ytapicoienpbdfaa
set_option linter.unusedVariables false
set_option linter.unusedSimpArgs false

theorem cc_u64 {n : Int} (h0 : 0 ≤ n) (h1 : n ≤ 18446744073709551615) : IntKind.u64.wrap n = n := by simp [IntKind.wrap, IntKind.bits, IntKind.signed]; omega
/-- A message's bytes, or what is wrong. -/
def ccmClose (l : Bool) (p c e : Int) (g : ByteArray) (lv : Int) : ByteArray × Int :=
  if lv > 7 then (⟨#[]⟩, 4) else if Gv.ccmWrong p e g.size = 0 then oamClose lv 0 1 (p + Gv.bi l * 128) 70 (Gv.ccmBody c e g) else (⟨#[]⟩, Gv.ccmWrong p e g.size)
theorem ccm_zero {p e : Int} {n : Nat} (h : Gv.ccmWrong p e n = 0) : (1 ≤ p ∧ p ≤ 7 ∧ 1 ≤ e ∧ e ≤ 8191) ∧ n = 48 := by
  unfold Gv.ccmWrong at h
  by_cases h1 : 1 ≤ p ∧ p ≤ 7 ∧ 1 ≤ e ∧ e ≤ 8191
  · rw [if_pos h1] at h
    by_cases h2 : n = 48
    · exact ⟨h1, h2⟩
    · rw [if_neg h2] at h; omega
  · rw [if_neg h1] at h; omega
theorem cw_j0 (x l : Bool) (p c e : Int) (g : ByteArray) : Ev (fun k => ccm_Msg_wrong.j0 k x l p c e g) (if x = true then 4 else if g.size = 48 then 0 else 3) := by
  refine Ev.step (f := fun k => ccm_Msg_wrong.j0 (k + 1) x l p c e g) (fun k => rfl) ?_
  simp only [ccm_Msg_wrong.j0]
  cases x with
  | true => simp only [if_true]; exact Ev.now _
  | false =>
    simp only [Bool.false_eq_true, if_false]
    by_cases h : g.size = 48
    · simp only [if_pos h, if_pos (show (g.size : Int) = 48 from by omega)]; exact Ev.now _
    · simp only [if_neg h, if_neg (show ¬ (g.size : Int) = 48 from by omega)]; exact Ev.now _
theorem ev_cwrong (l : Bool) (p c e : Int) (g : ByteArray) : Ev (fun k => ccm_Msg_wrong.f k l p c e g) (Gv.ccmWrong p e g.size) := by
  simp only [ccm_Msg_wrong.f]
  unfold Gv.ccmWrong
  by_cases h1 : p < 1
  · simp only [if_pos h1]
    rw [if_neg (by omega)]
    exact Ev.now _
  · simp only [if_neg h1]
    by_cases h2 : p > 7
    · simp only [if_pos h2]
      rw [if_neg (by omega), decide_eq_true h2]
      exact cw_j0 true l p c e g
    · simp only [if_neg h2]
      by_cases h3 : e < 1
      · simp only [if_pos h3]
        rw [if_neg (by omega), decide_eq_true h3]
        exact cw_j0 true l p c e g
      · simp only [if_neg h3]
        by_cases h4 : e > 8191
        · rw [if_neg (by omega), decide_eq_true h4]
          exact cw_j0 true l p c e g
        · rw [if_pos (by omega), decide_eq_false h4]
          have h := cw_j0 false l p c e g
          rw [if_neg (by simp)] at h
          exact h
theorem or_128 (p : Int) (h0 : 0 ≤ p) (h1 : p ≤ 7) : Go.bits .or .u8 p 128 = p + 128 := by
  have : p = 0 ∨ p = 1 ∨ p = 2 ∨ p = 3 ∨ p = 4 ∨ p = 5 ∨ p = 6 ∨ p = 7 := by omega
  rcases this with h | h | h | h | h | h | h | h <;> subst h <;> decide +kernel
theorem cc_j0 (lv : Int) (x f : Int) (l : Bool) (p c e : Int) (g : ByteArray) (hlv : isU8 lv) (hf : isU8 f) (hg : g.size = 48) :
    Ev (fun k => ccm_Close.j0 k lv (strOfNums (Gv.packB (Gv.bitsOf 32 c) ++ Gv.packB (Gv.bitsOf 16 e))) f l p c e g) (oamClose lv 0 1 f 70 (Gv.ccmBody c e g)) := by
  have hcl := oam_close lv 0 1 f 70 (Gv.ccmBody c e g) (by rw [Gv.ccmBody_size]; omega) hlv (by unfold isU8; omega) (by unfold isU8; omega) hf (by unfold isU8; omega)
  refine Ev.step (f := fun k => ccm_Close.j0 (k + 1) lv (strOfNums (Gv.packB (Gv.bitsOf 32 c) ++ Gv.packB (Gv.bitsOf 16 e))) f l p c e g) (fun k => rfl) ?_
  refine Ev.congr (fun k => ?_) (Ev.now _)
  simp only [ccm_Close.j0]
  rw [Gv.ccmHead_size, if_pos (by omega), rep_zero 16 (by decide) (by decide), Option.bind_some, show ((16 : Int)).toNat = 16 from rfl, strOfNums_size, List.length_replicate, if_pos (by omega)]
  unfold Gv.ccmBody at hcl
  rw [hcl]
  rfl
theorem ev_cclose (l : Bool) (p c e : Int) (g : ByteArray) (lv : Int) (hp : isU8 p) (hc0 : 0 ≤ c) (hc1 : c ≤ 4294967295) (he0 : 0 ≤ e) (he1 : e ≤ 65535) (hlv : isU8 lv) : Ev (fun k => ccm_Close.f k l p c e g lv) (ccmClose l p c e g lv) := by
  simp only [ccm_Close.f]
  unfold ccmClose
  by_cases h1 : lv > 7
  · simp only [if_pos h1]; exact Ev.now _
  · simp only [if_neg h1]
    refine Ev.bind (ev_cwrong l p c e g) ?_
    by_cases h : Gv.ccmWrong p e g.size = 0
    · have hz := ccm_zero h
      simp only [if_pos h]
      rw [cc_u64 (n := c) (by omega) (by omega), cc_u64 (n := e) (by omega) (by omega)]
      have hpk : field_Pack.f (([(⟨32, c⟩ : S100), (⟨16, e⟩ : S100)] : List S100)) = some (strOfNums (Gv.packB (Gv.bitsOf 32 c) ++ Gv.packB (Gv.bitsOf 16 e)), 0) := Gv.pack_ccm c e hc0 hc1 he0 he1
      rw [hpk]
      simp only [Option.bind_some, if_true]
      have hb := Gv.bi_range l
      cases l with
      | true =>
        simp only [if_true]
        rw [or_128 p hp.1 hz.1.2.1]
        have hj := cc_j0 lv 0 (p + 128) true p c e g hlv (by unfold isU8; omega) hz.2
        exact hj
      | false =>
        simp only [Bool.false_eq_true, if_false]
        have hj := cc_j0 lv 0 p false p c e g hlv hp hz.2
        rw [show p + Gv.bi false * 128 = p from by show p + 0 * 128 = p; omega]
        exact hj
    · simp only [if_neg h]
      exact Ev.now _
end Go.Proofs.Ytapicoienpbdfaa.LWatchPlays

/- Layer 6, the program's Open: it comes to a plain word. -/
namespace Go.Proofs.Ytapicoienpbdfaa.LWatchPlays
open Go.RowKit Go.Proofs.Ytapicoienpbdfaa.PWatchPlays Go.Proofs.YtapicoienpbdfaaW.PrintWords Go.Proofs.YtapicoienpbdfaaW.PrintLast Go.Proofs.YtapicoienpbdfaaW.PrintMore Go.Proofs.Ytapicoienpbdfaa
set_option linter.unusedVariables false
set_option linter.unusedSimpArgs false

/-- A head and a content, read. -/
def ccmOf (h : Int × Int × Int × Int × Int × ByteArray × Int) (lv : Int) : Bool × Int × Int × Int × ByteArray × Int :=
  if h.2.2.2.2.2.2 = 0 then (if oamIs h.1 h.2.1 h.2.2.1 h.2.2.2.2.1 lv 0 1 70 = 0 then Gv.ccmRead h.2.2.2.1 h.2.2.2.2.2.1 else Gv.ccmNone (oamIs h.1 h.2.1 h.2.2.1 h.2.2.2.2.1 lv 0 1 70)) else Gv.ccmNone h.2.2.2.2.2.2
def ccmOpen (s : ByteArray) (lv : Int) : Bool × Int × Int × Int × ByteArray × Int := ccmOf (oamOpen s) lv
theorem flags_all : ∀ n : Nat, n < 256 → (decide (Go.bits .and .u8 (n : Int) 120 = 0) = decide ((n : Int) / 8 % 16 = 0)) ∧ ((Go.bits .and .u8 (n : Int) 128 != 0) = ((n : Int) / 128 == 1)) ∧ Go.bits .and .u8 (n : Int) 7 = (n : Int) % 8 := by decide +kernel
theorem flags (f : Int) (h0 : 0 ≤ f) (h1 : f ≤ 255) : (Go.bits .and .u8 f 120 = 0 ↔ f / 8 % 16 = 0) ∧ ((Go.bits .and .u8 f 128 != 0) = (f / 128 == 1)) ∧ Go.bits .and .u8 f 7 = f % 8 := by
  obtain ⟨n, rfl⟩ := Int.eq_ofNat_of_zero_le h0
  have := flags_all n (by omega)
  exact ⟨decide_eq_decide.1 this.1, this.2⟩
theorem co_u16 {n : Int} (h0 : 0 ≤ n) (h1 : n ≤ 65535) : IntKind.u16.wrap n = n := by simp [IntKind.wrap, IntKind.bits, IntKind.signed]; omega
theorem ext_in (s : ByteArray) (a b c : Nat) (h : a + c ≤ s.size) : (s.extract a s.size).extract b c = s.extract (a + b) (a + c) := by
  apply Gv.bytesOf_inj
  have hl : (bytesOf s).length = s.size := bytesOf_length s
  rw [Gv.bytesOf_extract, Gv.bytesOf_extract, Gv.bytesOf_extract, List.take_of_length_le (l := bytesOf s) (i := s.size) (by omega), List.take_drop, List.drop_drop]
theorem co_j1 (c : ByteArray) (hc : c.size = 70) (N : Int) (hN : N = Gv.numOf c 4 2) (x : Bool) (hlt : x = false → N < 8192) (l v cc f o : Int) (hf : 0 ≤ f ∧ f ≤ 255) :
    Ev (fun k => ccm_Open.j1 k [Gv.numOf c 0 4, N / 8192, N % 8192] (c.extract 6 c.size) x l v cc f o) (if x = true then Gv.ccmNone 3 else if f % 8 ≠ 0 ∧ N ≠ 0 then (f / 128 == 1, f % 8, Gv.numOf c 0 4, N, c.extract 6 54, 0) else Gv.ccmNone 4) := by
  have q0 := Gv.numOf_range c 0 4 (by omega)
  have q1 := Gv.numOf_range c 4 2 (by omega)
  rw [show (2 : Int) ^ (8 * 4) = 4294967296 from by decide] at q0
  rw [show (2 : Int) ^ (8 * 2) = 65536 from by decide, ← hN] at q1
  have hfl := flags f hf.1 hf.2
  have hz : (c.extract 6 c.size).size = 64 := by rw [size_ext c _ _ (Nat.le_refl _)]; omega
  have e48 : (c.extract 6 c.size).extract 0 48 = c.extract 6 54 := ext_in c 6 0 48 (by omega)
  have z48 : (c.extract 6 54).size = 48 := by rw [size_ext c _ _ (by omega)]
  refine Ev.step (f := fun k => ccm_Open.j1 (k + 1) [Gv.numOf c 0 4, N / 8192, N % 8192] (c.extract 6 c.size) x l v cc f o) (fun k => rfl) ?_
  simp only [ccm_Open.j1]
  cases x with
  | true => simp only [if_true]; exact Ev.now _
  | false =>
    have hlt := hlt rfl
    obtain ⟨y, hy, hy3, r0, r2⟩ : ∃ y : List Int, [Gv.numOf c 0 4, N / 8192, N % 8192] = y ∧ (y.length : Int) = 3 ∧ rd y 0 = Gv.numOf c 0 4 ∧ rd y 2 = N % 8192 := ⟨_, rfl, rfl, rfl, rfl⟩
    rw [hy]
    simp only [Bool.false_eq_true, if_false, hy3, r0, r2, Int.reduceLT, if_true, if_pos (show (0 : Int) ≤ 48 from by decide), if_pos (show (48 : Int) ≤ ((c.extract 6 c.size).size : Int) from by omega), e48, hfl.2.1, hfl.2.2, show Gv.numOf c 0 4 % 4294967296 = Gv.numOf c 0 4 from by omega, show N % 8192 = N from by omega, co_u16 (n := N) (by omega) (by omega)]
    have hw := ev_cwrong (f / 128 == 1) (f % 8) (Gv.numOf c 0 4) N (c.extract 6 54)
    rw [z48] at hw
    refine Ev.bind hw ?_
    unfold Gv.ccmWrong
    by_cases h : f % 8 ≠ 0 ∧ N ≠ 0
    · rw [if_pos h, if_pos (show 1 ≤ f % 8 ∧ f % 8 ≤ 7 ∧ 1 ≤ N ∧ N ≤ 8191 from by omega)]
      exact Ev.now _
    · rw [if_neg h, if_neg (show ¬ (1 ≤ f % 8 ∧ f % 8 ≤ 7 ∧ 1 ≤ N ∧ N ≤ 8191) from by omega)]
      exact Ev.now _
theorem co_bad (c : ByteArray) (e l v o f g : Int) (he : e ≠ 0) : Ev (fun k => ccm_Open.j0 k c e l v o f g) (Gv.ccmNone e) := by
  refine Ev.step (f := fun k => ccm_Open.j0 (k + 1) c e l v o f g) (fun k => rfl) ?_
  simp only [ccm_Open.j0, if_neg he]
  exact Ev.now _
theorem co_go (c : ByteArray) (hc : c.size = 70) (l v o f g : Int) (hf : 0 ≤ f ∧ f ≤ 255) : Ev (fun k => ccm_Open.j0 k c 0 l v o f g) (Gv.ccmRead f c) := by
  have hsp := ev_split c (by omega) [32, 3, 13] (by simp)
  rw [Gv.split_ccm c (by omega)] at hsp
  have q1 := Gv.numOf_range c 4 2 (by omega)
  rw [show (2 : Int) ^ (8 * 2) = 65536 from by decide] at q1
  have hz : (c.extract 6 c.size).size = 64 := by rw [size_ext c _ _ (Nat.le_refl _)]; omega
  have e16 : (c.extract 6 c.size).extract 48 (c.extract 6 c.size).size = c.extract 54 c.size := by
    rw [hz, ext_in c 6 48 64 (by omega), hc]
  have hz16 : (c.extract 54 c.size).size = 16 := by rw [size_ext c _ _ (Nat.le_refl _)]; omega
  have hn := ev_noughts (c.extract 54 c.size) (by omega)
  rw [hz16] at hn
  have hfl := flags f hf.1 hf.2
  have ht := co_j1 c hc (Gv.numOf c 4 2) rfl true (by simp) l v o f g hf
  rw [if_pos rfl] at ht
  refine Ev.step (f := fun k => ccm_Open.j0 (k + 1) c 0 l v o f g) (fun k => rfl) ?_
  simp only [ccm_Open.j0, if_true]
  refine Ev.bind hsp ?_
  have r1 : rd [Gv.numOf c 0 4, Gv.numOf c 4 2 / 8192, Gv.numOf c 4 2 % 8192] 1 = Gv.numOf c 4 2 / 8192 := rfl
  have l3 : (([Gv.numOf c 0 4, Gv.numOf c 4 2 / 8192, Gv.numOf c 4 2 % 8192] : List Int).length : Int) = 3 := rfl
  simp only [if_true, r1, l3, Int.reduceLT, e16, if_pos (show (48 : Int) ≤ ((c.extract 6 c.size).size : Int) from by omega)]
  unfold Gv.ccmRead
  by_cases h1 : Gv.numOf c 4 2 < 8192
  · simp only [if_pos (show Gv.numOf c 4 2 / 8192 = 0 from by omega)]
    by_cases h2 : f / 8 % 16 = 0
    · simp only [if_pos (hfl.1.2 h2)]
      refine Ev.bind hn ?_
      by_cases h3 : c.extract 54 c.size = strOfNums (List.replicate 16 0)
      · rw [if_pos ⟨h1, h2, h3⟩, decide_eq_true h3]
        have hj := co_j1 c hc (Gv.numOf c 4 2) rfl false (fun _ => h1) l v o f g hf
        rw [if_neg (by simp)] at hj
        exact hj
      · rw [if_neg (fun h => h3 h.2.2), decide_eq_false h3]
        exact ht
    · simp only [if_neg (fun h => h2 (hfl.1.1 h))]
      rw [if_neg (fun h => h2 h.2.1)]
      exact ht
  · simp only [if_neg (show ¬ Gv.numOf c 4 2 / 8192 = 0 from by omega)]
    rw [if_neg (fun h => h1 h.1)]
    exact ht
theorem ev_copen (s : ByteArray) (hs : s.size ≤ 100000) (lv : Int) : Ev (fun k => ccm_Open.f k s lv) (ccmOpen s lv) := by
  have ho := ev_oam_open s hs
  have hf := oam_facts s
  unfold ccmOpen
  generalize oamOpen s = h at *
  obtain ⟨l, v, c, f, o, b, e⟩ := h
  unfold ccmOf
  simp only [ccm_Open.f]
  refine Ev.bind ho ?_
  by_cases he : e = 0
  · have hf := hf he
    simp only [if_pos he]
    refine Ev.bind (ev_is l v c f o lv 0 1 70) ?_
    by_cases hi : oamIs l v c o lv 0 1 70 = 0
    · have hi2 := is_facts hi
      simp only [if_pos hi, hi]
      exact co_go b (by have := hf.1; simp only at this; omega) l v c f o hf.2
    · simp only [if_neg hi]
      exact co_bad b _ l v c f o hi
  · simp only [if_neg he]
    exact co_bad b _ l v c f o he

end Go.Proofs.Ytapicoienpbdfaa.LWatchPlays

/- The document's Pack, as printed: it comes to the plain word pack. -/
namespace Go.Proofs.Ytapicoienpbdfaa.LWatchPlays
open Go.RowKit Go.Proofs.Ytapicoienpbdfaa.PWatchPlays Go.Proofs.YtapicoienpbdfaaW.PrintWords Go.Proofs.YtapicoienpbdfaaW.PrintLast Go.Proofs.YtapicoienpbdfaaW.PrintMore Go.Proofs.Ytapicoienpbdfaa
set_option linter.unusedVariables false
set_option linter.unusedSimpArgs false

theorem wrap_id {n : Int} (h0 : -9223372036854775808 ≤ n) (h1 : n ≤ 9223372036854775807) : wrap64 n = n := by unfold wrap64; omega
theorem u64wrap_id {n : Int} (h0 : 0 ≤ n) (h1 : n ≤ 18446744073709551615) : IntKind.u64.wrap n = n := by simp [IntKind.wrap, IntKind.bits, IntKind.signed]; omega
theorem div_pow_range (v : Int) (m : Nat) (h0 : 0 ≤ v) (h1 : v ≤ 18446744073709551615) : 0 ≤ v / 2 ^ m ∧ v / 2 ^ m ≤ 18446744073709551615 :=
  ⟨Int.ediv_nonneg h0 (Int.le_of_lt (Int.pow_pos (by decide))), Int.le_trans (Int.ediv_le_self _ h0) h1⟩
theorem div_pow_succ (v : Int) (m : Nat) : v / 2 ^ m / 2 = v / 2 ^ (m + 1) := by
  rw [Int.ediv_ediv_of_nonneg (Int.le_of_lt (Int.pow_pos (by decide))), Int.pow_succ]

theorem set_mid (d : Nat) (x y : Int) (l : List Int) : (List.replicate (d + 1) x ++ l).set d y = List.replicate d x ++ y :: l := by
  rw [List.replicate_succ', List.append_assoc, List.set_append_right _ _ (by simp)]
  simp

theorem ev_bits_loop (n : Nat) (v : Int) (hn : n ≤ 64) (h0 : 0 ≤ v) (h1 : v ≤ 18446744073709551615) (d : Nat) (hd : d ≤ n) :
    Ev (fun k => carouselref01_bits.l0 k (v / 2 ^ (n - d)) (List.replicate d 0 ++ (Gv.bitsOf n v).drop d) ((d : Int) - 1)) (Gv.bitsOf n v, (v / 2 ^ n == 0)) := by
  induction d with
  | zero =>
    refine Ev.step (f := fun _ => some (Gv.bitsOf n v, (v / 2 ^ n == 0))) (fun k => ?_) (Ev.now _)
    simp [carouselref01_bits.l0]
  | succ d ih =>
    have hlen : (Gv.bitsOf n v).length = n := Gv.bitsOf_length n v
    refine Ev.step (fun k => ?_) (ih (by omega))
    simp only [carouselref01_bits.l0]
    have hx := div_pow_range v (n - (d + 1)) h0 h1
    rw [if_pos (by omega), if_pos (by omega), if_pos (by simp [hlen]; omega)]
    have e1 : IntKind.u64.wrap (Int.tdiv (v / 2 ^ (n - (d + 1))) 2) = v / 2 ^ (n - d) := by
      rw [Int.tdiv_eq_ediv_of_nonneg hx.1, div_pow_succ, show n - (d + 1) + 1 = n - d from by omega]
      have := div_pow_range v (n - d) h0 h1
      exact u64wrap_id this.1 this.2
    have e2 : wrap64 (((d + 1 : Nat) : Int) - 1 - 1) = (d : Int) - 1 := by rw [wrap_id (by omega) (by omega)]; omega
    have e3 : (((d + 1 : Nat) : Int) - 1).toNat = d := by omega
    have e4 : wrap64 (Int.tmod (v / 2 ^ (n - (d + 1))) 2) = (v / 2 ^ (n - 1 - d)) % 2 := by
      rw [Int.tmod_eq_emod_of_nonneg hx.1, wrap_id (by omega) (by omega), show n - (d + 1) = n - 1 - d from by omega]
    have e5 : (Gv.bitsOf n v).drop d = (v / 2 ^ (n - 1 - d)) % 2 :: (Gv.bitsOf n v).drop (d + 1) := by
      rw [List.drop_eq_getElem_cons (by rw [hlen]; omega)]
      simp [Gv.bitsOf]
    rw [e1, e2, e3, e4, set_mid, e5]

theorem ev_bits (n : Nat) (v : Int) (hn : n ≤ 64) (hn1 : 1 ≤ n) (h0 : 0 ≤ v) (h1 : v ≤ 18446744073709551615) : Ev (fun k => carouselref01_bits.f k v n) (Gv.bitsOf n v, (v / 2 ^ n == 0)) := by
  have h := ev_bits_loop n v hn h0 h1 n (Nat.le_refl _)
  refine Ev.congr (fun k => ?_) h
  unfold carouselref01_bits.f
  rw [if_pos (by omega), if_pos (by simp; omega), wrap_id (by omega) (by omega)]
  simp [List.drop_of_length_le (Nat.le_of_eq (Gv.bitsOf_length n v))]

/-- The number of the first j bits. -/
def firstBits (m : List Int) : Nat → Int
  | 0 => 0
  | j + 1 => firstBits m j * 2 + m.getD j 0
theorem firstBits_range {m : List Int} (hb : Gv.IsBits m) (j : Nat) : 0 ≤ firstBits m j ∧ firstBits m j < 2 ^ j := by
  induction j with
  | zero => simp [firstBits]
  | succ j ih =>
    have := Gv.getD_bit hb j
    simp only [firstBits, Int.pow_succ]
    omega
theorem firstBits_byte {m : List Int} (hb : Gv.IsBits m) : firstBits m 8 % 256 = Gv.byteVal m := by
  have h0 := Gv.getD_bit hb 0; have h1 := Gv.getD_bit hb 1; have h2 := Gv.getD_bit hb 2; have h3 := Gv.getD_bit hb 3; have h4 := Gv.getD_bit hb 4; have h5 := Gv.getD_bit hb 5; have h6 := Gv.getD_bit hb 6; have h7 := Gv.getD_bit hb 7
  simp only [firstBits]
  unfold Gv.byteVal
  omega
/-- One byte. -/
theorem ev_byte (all : List Int) (hb : Gv.IsBits all) (hal : all.length ≤ 1000000) (out : List Int) (i : Nat) (hi : i + 8 ≤ all.length) (r : ByteArray × Int) (ho : out.length < 1000000)
    (hk : Ev (fun k => carouselref01_Pack.l1 k all (out ++ [Gv.byteVal (all.drop i)]) ((i : Int) + 8)) r) (d : Nat) : ∀ j : Nat, 8 - j = d → j ≤ 8 →
    Ev (fun k => carouselref01_Pack.l2 k all out i (firstBits (all.drop i) j) (j : Int)) r := by
  induction d with
  | zero =>
    intro j hj hj2
    obtain rfl : j = 8 := by omega
    refine Ev.step (fun k => ?_) hk
    simp only [carouselref01_Pack.l2]
    rw [if_neg (by omega), if_pos (by omega), wrap_id (by omega) (by omega), firstBits_byte (hb.drop i)]
  | succ d ih =>
    intro j hj hj2
    have h := ih (j + 1) (by omega) (by omega)
    have hr := firstBits_range (hb.drop i) j
    have hbit := Gv.getD_bit (hb.drop i) j
    have hp : (2 : Int) ^ j ≤ 2 ^ 7 := by
      have := Nat.pow_le_pow_right (show 0 < 2 by decide) (show j ≤ 7 by omega)
      exact_mod_cast this
    refine Ev.step (fun k => ?_) h
    simp only [carouselref01_Pack.l2]
    have hget : rd all (wrap64 ((i : Int) + j)) = (all.drop i).getD j 0 := by
      rw [wrap_id (by omega) (by omega)]
      unfold rd
      rw [show ((i : Int) + j).toNat = i + j from by omega]
      simp [List.getD_eq_getElem?_getD, List.getElem?_drop]
    rw [if_pos (by omega), if_pos (by rw [wrap_id (by omega) (by omega)]; omega), if_pos (by rw [wrap_id (by omega) (by omega)]; omega), hget]
    rw [wrap_id (n := firstBits (all.drop i) j * 2) (by omega) (by omega), wrap_id (n := firstBits (all.drop i) j * 2 + _) (by omega) (by omega), wrap_id (n := (j : Int) + 1) (by omega) (by omega)]
    rfl

theorem ev_bytes (all : List Int) (hb : Gv.IsBits all) (hal : all.length ≤ 1000000) (h8 : all.length % 8 = 0) (d : Nat) : ∀ j : Nat, all.length / 8 - j = d → j ≤ all.length / 8 →
    Ev (fun k => carouselref01_Pack.l1 k all ((Gv.packB all).take j) ((8 * j : Nat) : Int)) (strOfNums (Gv.packB all), 0) := by
  have hpl : (Gv.packB all).length = all.length / 8 := by rw [Gv.packB_length]; omega
  induction d with
  | zero =>
    intro j hj hj2
    refine Ev.step (f := fun _ => some (strOfNums (Gv.packB all), 0)) (fun k => ?_) (Ev.now _)
    simp only [carouselref01_Pack.l1]
    rw [if_neg (by omega), List.take_of_length_le (by omega)]
  | succ d ih =>
    intro j hj hj2
    have h := ih (j + 1) (by omega) (by omega)
    have htake : (Gv.packB all).take (j + 1) = (Gv.packB all).take j ++ [Gv.byteVal (all.drop (8 * j))] := by
      rw [List.take_succ_eq_append_getElem (by omega)]
      congr 1
      simp [Gv.packB]
    rw [htake, show ((8 * (j + 1) : Nat) : Int) = ((8 * j : Nat) : Int) + 8 from by omega] at h
    have h2 := ev_byte all hb hal ((Gv.packB all).take j) (8 * j) (by omega) _ (by rw [List.length_take]; omega) h 8 0 rfl (by omega)
    refine Ev.step (fun k => ?_) h2
    simp only [carouselref01_Pack.l1]
    rw [if_pos (by omega)]
    rfl

theorem rd_eq {l : List S139} {i : Nat} (h : i < l.length) : rd_T139 l (i : Int) = l[i] := by
  unfold rd_T139
  simp [List.getD_eq_getElem?_getD, h]

def pairs (l : List S139) : List (Int × Int) := l.map fun x => (x.f0, x.f1)
def Wf (l : List S139) : Prop := ∀ x ∈ l, -9223372036854775808 ≤ x.f0 ∧ x.f0 ≤ 9223372036854775807 ∧ 0 ≤ x.f1 ∧ x.f1 ≤ 18446744073709551615

theorem allBits_snoc (l : List (Int × Int)) (k : Nat) (h : k < l.length) : Gv.allBits (l.take (k + 1)) = Gv.allBits (l.take k) ++ Gv.bitsOf (l[k]).1.toNat (l[k]).2 := by
  rw [List.take_succ_eq_append_getElem h]
  simp only [Gv.allBits, List.flatMap_append]
  simp
theorem allBits_len (l : List (Int × Int)) (h : l.all Gv.okPart = true) : (Gv.allBits l).length ≤ 64 * l.length := by
  induction l with
  | nil => simp [Gv.allBits]
  | cons p l ih =>
    simp only [List.all_cons, Bool.and_eq_true] at h
    have := ih h.2
    have hp := h.1
    simp only [Gv.okPart, Bool.and_eq_true, decide_eq_true_eq] at hp
    simp only [Gv.allBits, List.flatMap_cons, List.length_append, Gv.bitsOf_length, List.length_cons] at this ⊢
    omega
theorem allBits_bits (l : List (Int × Int)) : Gv.IsBits (Gv.allBits l) := by
  intro b hb
  simp only [Gv.allBits, List.mem_flatMap] at hb
  obtain ⟨p, _, hb⟩ := hb
  exact Gv.bitsOf_bits _ _ b hb

/-- What the plain word says of parts that are in range. -/
def packR (l : List (Int × Int)) : ByteArray × Int := if l.all Gv.okPart = true then (if (Gv.allBits l).length % 8 = 0 then (strOfNums (Gv.packB (Gv.allBits l)), 0) else (⟨#[]⟩, 3)) else (⟨#[]⟩, 4)

theorem ev_packloop (l : List S139) (hw : Wf l) (hl : l.length ≤ 1000) (d : Nat) : ∀ i : Nat, l.length - i = d → i ≤ l.length → ((pairs l).take i).all Gv.okPart = true →
    Ev (fun k => carouselref01_Pack.l0 k l (Gv.allBits ((pairs l).take i)) (i : Int)) (packR (pairs l)) := by
  have hpl : (pairs l).length = l.length := by simp [pairs]
  induction d with
  | zero =>
    intro i hi hi2 hok
    have hil : i = l.length := by omega
    rw [List.take_of_length_le (by omega)] at hok ⊢
    have hlen := allBits_len _ hok
    by_cases h8 : (Gv.allBits (pairs l)).length % 8 = 0
    · have h := ev_bytes (Gv.allBits (pairs l)) (allBits_bits _) (by omega) h8 _ 0 rfl (by omega)
      have hr : packR (pairs l) = (strOfNums (Gv.packB (Gv.allBits (pairs l))), 0) := by unfold packR; rw [if_pos hok, if_pos h8]
      rw [hr]
      refine Ev.step (fun k => ?_) h
      simp only [carouselref01_Pack.l0]
      rw [if_neg (by omega), if_pos (by omega)]
      simp
    · have hr : packR (pairs l) = (⟨#[]⟩, 3) := by unfold packR; rw [if_pos hok, if_neg h8]
      rw [hr]
      refine Ev.step (f := fun _ => some (⟨#[]⟩, 3)) (fun k => ?_) (Ev.now _)
      simp only [carouselref01_Pack.l0]
      rw [if_neg (by omega), if_neg (by omega)]
  | succ d ih =>
    intro i hi hi2 hok
    have hil : i < l.length := by omega
    have hrd := rd_eq hil
    have hwi := hw l[i] (List.getElem_mem hil)
    have hpi : (pairs l)[i]'(by omega) = (l[i].f0, l[i].f1) := by simp [pairs]
    have hbad : ∀ (hb : Gv.okPart (l[i].f0, l[i].f1) = false), packR (pairs l) = (⟨#[]⟩, 4) := by
      intro hb
      unfold packR
      rw [if_neg]
      intro hall
      have := List.all_eq_true.1 hall (l[i].f0, l[i].f1) (by rw [← hpi]; exact List.getElem_mem _)
      rw [hb] at this
      exact absurd this (by simp)
    generalize hx : l[i].f0 = x at *
    generalize hv : l[i].f1 = v at *
    by_cases hr : 1 ≤ x ∧ x ≤ 64
    · obtain ⟨n, rfl⟩ := Int.eq_ofNat_of_zero_le (show 0 ≤ x by omega)
      have hbits := ev_bits n v (by omega) (by omega) hwi.2.2.1 hwi.2.2.2
      have hstep : ∀ r, Ev (fun k => (carouselref01_bits.f k v n).bind fun bt => (if bt.2 = true then (if (Gv.allBits ((pairs l).take i)).length + bt.1.length < 17592186044416 then (carouselref01_Pack.l0 k l (Gv.allBits ((pairs l).take i) ++ bt.1) (wrap64 ((i : Int) + 1))) else (none)) else (some ((⟨#[]⟩ : ByteArray), 4)))) r →
          Ev (fun k => carouselref01_Pack.l0 k l (Gv.allBits ((pairs l).take i)) (i : Int)) r := by
        intro r h
        refine Ev.step (f := fun k => carouselref01_Pack.j1 k l (Gv.allBits ((pairs l).take i)) (i : Int) false) (fun k => ?_) (Ev.step (fun k => ?_) h)
        · simp only [carouselref01_Pack.l0]
          rw [if_pos (by omega), if_pos (by omega), hrd, hx, if_neg (by omega), show decide ((n : Int) > 64) = false from by simp; omega]
        · simp only [carouselref01_Pack.j1]
          rw [if_neg (by simp), if_pos (by omega), if_pos (by omega), hrd, hx, hv]
      apply hstep
      have hlen := allBits_len _ hok
      by_cases h0 : v / 2 ^ n = 0
      · have hok1 : Gv.okPart ((n : Int), v) = true := by simp [Gv.okPart, h0]; omega
        have hokn : ((pairs l).take (i + 1)).all Gv.okPart = true := by
          rw [List.take_succ_eq_append_getElem (by omega), List.all_append, hok, hpi]
          simp [hok1]
        have h := ih (i + 1) (by omega) (by omega) hokn
        have hsn := allBits_snoc (pairs l) i (by omega)
        rw [hpi, Int.toNat_natCast] at hsn
        simp only at hsn
        rw [hsn] at h
        refine Ev.bind hbits (Ev.congr (fun k => ?_) h)
        simp only [h0, beq_self_eq_true, if_true]
        rw [if_pos (by rw [Gv.bitsOf_length]; have : ((pairs l).take i).length ≤ i := List.length_take_le _ _; omega), wrap_id (by omega) (by omega)]
        rfl
      · have hb : Gv.okPart ((n : Int), v) = false := by
          have h64 : n ≠ 64 := by
            intro e
            subst e
            have := hwi.2.2.2
            have := hwi.2.2.1
            omega
          simp [Gv.okPart, h0]; omega
        rw [hbad hb]
        refine Ev.bind hbits (Ev.congr (fun k => ?_) (Ev.now _))
        have : (v / 2 ^ n == 0) = false := by simpa using h0
        simp only [this]
        rw [if_neg (by simp)]
    · have hb : Gv.okPart (x, v) = false := by
        by_cases h1 : 1 ≤ x
        · have : ¬ x ≤ 64 := fun h => hr ⟨h1, h⟩
          simp [Gv.okPart, this]
        · simp [Gv.okPart, h1]
      rw [hbad hb]
      refine Ev.step (f := fun k => carouselref01_Pack.j1 k l (Gv.allBits ((pairs l).take i)) (i : Int) true) (fun k => ?_) (Ev.step (f := fun _ => some (⟨#[]⟩, 4)) (fun k => ?_) (Ev.now _))
      · simp only [carouselref01_Pack.l0]
        rw [if_pos (by omega), if_pos (by omega), hrd, hx]
        by_cases h1 : x < 1
        · rw [if_pos h1]
        · rw [if_neg h1, show decide (x > 64) = true from by simp; omega]
      · simp only [carouselref01_Pack.j1]
        rw [if_pos trivial]

/-- The document's Pack. -/
theorem ev_refpack (l : List S139) (hw : Wf l) (hl : l.length ≤ 1000) : Ev (fun k => carouselref01_Pack.f k l) (packR (pairs l)) := by
  have h := ev_packloop l hw hl _ 0 rfl (by omega) (by simp)
  simp only [List.take_zero] at h
  exact h

theorem pack_eq (l : List (Int × Int)) (hu : Gv.isU64 l = true) (hl : l.length ≤ 1000000) : Gv.pack l = some (packR l) := by
  unfold Gv.pack packR
  rw [if_pos ⟨hu, hl⟩]
  by_cases h1 : l.all Gv.okPart = true
  · rw [if_pos h1, if_pos h1]
    by_cases h2 : (Gv.allBits l).length % 8 = 0
    · rw [if_pos h2, if_pos h2]; rfl
    · rw [if_neg h2, if_neg h2]; rfl
  · rw [if_neg h1, if_neg h1]; rfl

end Go.Proofs.Ytapicoienpbdfaa.LWatchPlays

/- Put of layer 1, the document's: a number as so many bytes. -/
namespace Go.Proofs.Ytapicoienpbdfaa.LWatchPlays
open Go.RowKit Go.Proofs.Ytapicoienpbdfaa.PWatchPlays Go.Proofs.YtapicoienpbdfaaW.PrintWords Go.Proofs.YtapicoienpbdfaaW.PrintLast Go.Proofs.YtapicoienpbdfaaW.PrintMore Go.Proofs.Ytapicoienpbdfaa
set_option linter.unusedVariables false
set_option linter.unusedSimpArgs false

theorem pu_wrap {n : Int} (h0 : -9223372036854775808 ≤ n) (h1 : n ≤ 9223372036854775807) : wrap64 n = n := by unfold wrap64; omega
theorem pu_u64 {n : Int} (h0 : 0 ≤ n) (h1 : n ≤ 18446744073709551615) : IntKind.u64.wrap n = n := by simp [IntKind.wrap, IntKind.bits, IntKind.signed]; omega
theorem rm_put (n m : Int) (w : Int) (hw : wrap64 (8 * m) = w) (hw0 : 0 ≤ w) (hw1 : w ≤ 64) (h0 : 0 ≤ n) (h1 : n ≤ 18446744073709551615) (s : ByteArray) (hp : Gv.pack [(w, n)] = some (s, 0)) : Ev (fun k => carouselref01_Put.f k n m) s := by
  have h := ev_refpack [(⟨w, n⟩ : S139)] (by intro x hx; simp at hx; subst hx; exact ⟨by show (-9223372036854775808 : Int) ≤ w; omega, by show w ≤ 9223372036854775807; omega, h0, h1⟩) (by simp)
  have he := pack_eq [(w, n)] (by simp only [Gv.isU64, List.all_cons, List.all_nil, Bool.and_true, Bool.and_eq_true, decide_eq_true_eq]; unfold Gv.u64max; omega) (by simp)
  rw [hp] at he
  have e : packR (pairs [(⟨w, n⟩ : S139)]) = (s, 0) := (Option.some.inj he).symm
  rw [e] at h
  simp only [carouselref01_Put.f, hw]
  exact Ev.bind h (f := fun k b => some b.1) (Ev.now _)
theorem rm_put6 (n : Int) (h0 : 0 ≤ n) (h1 : n < 281474976710656) : Ev (fun k => carouselref01_Put.f k n 6) (strOfNums (Gv.packB (Gv.bitsOf 48 n))) :=
  rm_put n 6 48 ((pu_wrap (n := 8 * 6) (by decide) (by decide)).trans (by decide)) (by decide) (by decide) h0 (by omega) _ (Gv.pack_six n h0 h1)
theorem rm_put2 (n : Int) (h0 : 0 ≤ n) (h1 : n ≤ 65535) : Ev (fun k => carouselref01_Put.f k n 2) (strOfNums (Gv.packB (Gv.bitsOf 16 n))) :=
  rm_put n 2 16 ((pu_wrap (n := 8 * 2) (by decide) (by decide)).trans (by decide)) (by decide) (by decide) h0 (by omega) _ (Gv.pack_two n h0 h1)

end Go.Proofs.Ytapicoienpbdfaa.LWatchPlays

/- Close of layer 4, the document's: it comes to the same plain word. -/
namespace Go.Proofs.Ytapicoienpbdfaa.LWatchPlays
open Go.RowKit Go.Proofs.Ytapicoienpbdfaa.PWatchPlays Go.Proofs.YtapicoienpbdfaaW.PrintWords Go.Proofs.YtapicoienpbdfaaW.PrintLast Go.Proofs.YtapicoienpbdfaaW.PrintMore Go.Proofs.Ytapicoienpbdfaa
set_option linter.unusedVariables false
set_option linter.unusedSimpArgs false

theorem ev_ref_close (l v c f o : Int) (s : ByteArray) (hs : s.size ≤ 100000) (hl : isU8 l) (hv : isU8 v) (hc : isU8 c) (hf : isU8 f) (ho : isU8 o) : Ev (fun k => carouselref04_Close.f k l v c f o s) (oamClose l v c f o s) := by
  have hz : ∀ a b c d : Int, (strOfNums [a, b, c, d]).size = 4 := fun a b c d => by rw [strOfNums_size]; rfl
  unfold oamClose
  by_cases h : l ≤ 7 ∧ v ≤ 31
  · rw [if_pos h]
    refine Ev.congr (f := fun k => carouselref04_Close.j0 k s false l v c f o) (fun k => ?_) (Ev.step (f := fun _ => some (if (s.size : Int) = o then ((strOfNums [l * 32 + v, c, f, o] ++ s) ++ ⟨#[0]⟩, 0) else ((⟨#[]⟩ : ByteArray), 3))) (fun k => ?_) (Ev.now _))
    · unfold carouselref04_Close.f
      rw [if_neg (by omega), show decide (v > 31) = false from by simp; omega]
    · simp only [carouselref04_Close.j0]
      rw [if_neg (by simp), oc_wrap ho]
      by_cases h2 : (s.size : Int) = o
      · unfold isU8 at *
        have e : ((l * 32 % 256 + v) % 256) = l * 32 + v := by omega
        rw [if_pos h2, if_pos h2, e]
        simp only [Option.bind_some, hz]
        rw [if_pos (by omega), if_pos (by omega)]
      · rw [if_neg h2, if_neg h2]
  · rw [if_neg h]
    refine Ev.congr (f := fun k => carouselref04_Close.j0 k s true l v c f o) (fun k => ?_) (Ev.step (f := fun _ => some ((⟨#[]⟩ : ByteArray), 4)) (fun k => ?_) (Ev.now _))
    · unfold carouselref04_Close.f
      by_cases h1 : l > 7
      · rw [if_pos h1]
      · rw [if_neg h1, show decide (v > 31) = true from by simp; omega]
    · simp only [carouselref04_Close.j0]
      rw [if_pos trivial]

end Go.Proofs.Ytapicoienpbdfaa.LWatchPlays

/- Layer 6, the document's Close: it comes to the same plain word. -/
namespace Go.Proofs.Ytapicoienpbdfaa.LWatchPlays
open Go.RowKit Go.Proofs.Ytapicoienpbdfaa.PWatchPlays Go.Proofs.YtapicoienpbdfaaW.PrintWords Go.Proofs.YtapicoienpbdfaaW.PrintLast Go.Proofs.YtapicoienpbdfaaW.PrintMore Go.Proofs.Ytapicoienpbdfaa
set_option linter.unusedVariables false
set_option linter.unusedSimpArgs false

theorem rm_put4 (n : Int) (h0 : 0 ≤ n) (h1 : n ≤ 4294967295) : Ev (fun k => carouselref01_Put.f k n 4) (strOfNums (Gv.packB (Gv.bitsOf 32 n))) :=
  rm_put n 4 32 ((pu_wrap (n := 8 * 4) (by decide) (by decide)).trans (by decide)) (by decide) (by decide) h0 (by omega) _ (Gv.pack_four n h0 h1)
theorem rc_j1 (lv f : Int) (l : Bool) (p c e : Int) (g : ByteArray) (hlv : isU8 lv) (hf : isU8 f) (hg : g.size = 48) (hc0 : 0 ≤ c) (hc1 : c ≤ 4294967295) (he0 : 0 ≤ e) (he1 : e ≤ 65535) :
    Ev (fun k => carouselref06_Close.j1 k lv f l p c e g) (oamClose lv 0 1 f 70 (Gv.ccmBody c e g)) := by
  have hcl := ev_ref_close lv 0 1 f 70 (Gv.ccmBody c e g) (by rw [Gv.ccmBody_size]; omega) hlv (by unfold isU8; omega) (by unfold isU8; omega) hf (by unfold isU8; omega)
  have z4 : (strOfNums (Gv.packB (Gv.bitsOf 32 c))).size = 4 := by rw [strOfNums_size, Gv.packB_length, Gv.bitsOf_length]
  have z2 : (strOfNums (Gv.packB (Gv.bitsOf 16 e))).size = 2 := by rw [strOfNums_size, Gv.packB_length, Gv.bitsOf_length]
  have z16 : (strOfNums (List.replicate 16 (0 : Int))).size = 16 := by rw [strOfNums_size, List.length_replicate]
  refine Ev.step (f := fun k => carouselref06_Close.j1 (k + 1) lv f l p c e g) (fun k => rfl) ?_
  simp only [carouselref06_Close.j1]
  rw [pu_u64 (n := c) (by omega) (by omega), pu_u64 (n := e) (by omega) (by omega)]
  refine Ev.bind (rm_put4 c hc0 hc1) ?_
  refine Ev.bind (rm_put2 e he0 he1) ?_
  simp only [z4, z2, z16, hg, Option.bind_some, Nat.reduceAdd, Nat.reduceLeDiff, if_true]
  have eb : ((strOfNums (Gv.packB (Gv.bitsOf 32 c)) ++ strOfNums (Gv.packB (Gv.bitsOf 16 e))) ++ g) ++ strOfNums (List.replicate 16 0) = Gv.ccmBody c e g := by
    unfold Gv.ccmBody; rw [Gv.strOfNums_append]
  rw [eb]
  exact Ev.bind hcl (f := fun k b => some (b.1, b.2)) (Ev.now _)
theorem rc_j0 (lv : Int) (x l : Bool) (p c e : Int) (g : ByteArray) (hlv : isU8 lv) (hx : x = false → 0 ≤ p ∧ p ≤ 7) (hc0 : 0 ≤ c) (hc1 : c ≤ 4294967295) (he0 : 0 ≤ e) (he1 : e ≤ 65535) :
    Ev (fun k => carouselref06_Close.j0 k lv x l p c e g) (if x = true then (⟨#[]⟩, 4) else if g.size = 48 then oamClose lv 0 1 (p + Gv.bi l * 128) 70 (Gv.ccmBody c e g) else (⟨#[]⟩, 3)) := by
  refine Ev.step (f := fun k => carouselref06_Close.j0 (k + 1) lv x l p c e g) (fun k => rfl) ?_
  simp only [carouselref06_Close.j0]
  cases x with
  | true => simp only [if_true]; exact Ev.now _
  | false =>
    have hp := hx rfl
    simp only [Bool.false_eq_true, if_false]
    by_cases h : g.size = 48
    · simp only [if_pos h, if_pos (show (g.size : Int) = 48 from by omega)]
      cases l with
      | true =>
        simp only [if_true]
        have hj := rc_j1 lv (p + 128) true p c e g hlv (by unfold isU8; omega) h hc0 hc1 he0 he1
        rw [show (p + 128) % 256 = p + 128 from by omega]
        exact hj
      | false =>
        simp only [Bool.false_eq_true, if_false]
        have hj := rc_j1 lv p false p c e g hlv (by unfold isU8; omega) h hc0 hc1 he0 he1
        rw [show p + Gv.bi false * 128 = p from by show p + 0 * 128 = p; omega]
        exact hj
    · simp only [if_neg h, if_neg (show ¬ (g.size : Int) = 48 from by omega)]; exact Ev.now _
theorem ev_rcclose (l : Bool) (p c e : Int) (g : ByteArray) (lv : Int) (hp : isU8 p) (hc0 : 0 ≤ c) (hc1 : c ≤ 4294967295) (he0 : 0 ≤ e) (he1 : e ≤ 65535) (hlv : isU8 lv) : Ev (fun k => carouselref06_Close.f k l p c e g lv) (ccmClose l p c e g lv) := by
  have ht := rc_j0 lv true l p c e g hlv (by simp) hc0 hc1 he0 he1
  rw [if_pos rfl] at ht
  have hp0 := hp.1
  simp only [carouselref06_Close.f]
  unfold ccmClose Gv.ccmWrong
  by_cases h1 : lv > 7
  · simp only [if_pos h1]; exact ht
  · simp only [if_neg h1]
    by_cases h2 : p = 0
    · simp only [if_pos h2]
      rw [if_neg (c := 1 ≤ p ∧ p ≤ 7 ∧ 1 ≤ e ∧ e ≤ 8191) (by omega), if_neg (by decide)]
      exact ht
    · simp only [if_neg h2]
      by_cases h3 : p > 7
      · simp only [if_pos h3]
        rw [if_neg (c := 1 ≤ p ∧ p ≤ 7 ∧ 1 ≤ e ∧ e ≤ 8191) (by omega), if_neg (by decide)]
        exact ht
      · simp only [if_neg h3]
        by_cases h4 : e = 0
        · simp only [if_pos h4]
          rw [if_neg (c := 1 ≤ p ∧ p ≤ 7 ∧ 1 ≤ e ∧ e ≤ 8191) (by omega), if_neg (by decide)]
          exact ht
        · simp only [if_neg h4]
          by_cases h5 : e > 8191
          · rw [if_neg (c := 1 ≤ p ∧ p ≤ 7 ∧ 1 ≤ e ∧ e ≤ 8191) (by omega), if_neg (by decide), decide_eq_true h5]
            exact ht
          · rw [if_pos (c := 1 ≤ p ∧ p ≤ 7 ∧ 1 ≤ e ∧ e ≤ 8191) (by omega), decide_eq_false h5]
            have hj := rc_j0 lv false l p c e g hlv (fun _ => by omega) hc0 hc1 he0 he1
            rw [if_neg (by simp)] at hj
            by_cases h6 : g.size = 48
            · rw [if_pos h6] at hj
              rw [if_pos h6, if_pos rfl]
              exact hj
            · rw [if_neg h6] at hj
              rw [if_neg h6, if_neg (by decide)]
              exact hj

end Go.Proofs.Ytapicoienpbdfaa.LWatchPlays

/- Split, the document's, as printed: it comes to the plain word split. -/
namespace Go.Proofs.Ytapicoienpbdfaa.LWatchPlays
open Go.RowKit Go.Proofs.Ytapicoienpbdfaa.PWatchPlays Go.Proofs.YtapicoienpbdfaaW.PrintWords Go.Proofs.YtapicoienpbdfaaW.PrintLast Go.Proofs.YtapicoienpbdfaaW.PrintMore Go.Proofs.Ytapicoienpbdfaa
set_option linter.unusedVariables false
set_option linter.unusedSimpArgs false

/-! ### the document's Split -/
theorem set_mid' (d : Nat) (x y : Int) (l : List Int) : (List.replicate (d + 1) x ++ l).set d y = List.replicate d x ++ y :: l := by
  rw [List.replicate_succ', List.append_assoc, List.set_append_right _ _ (by simp)]
  simp
theorem div_succ' (v : Int) (m : Nat) : v / 2 ^ m / 2 = v / 2 ^ (m + 1) := by
  rw [Int.ediv_ediv_of_nonneg (Int.le_of_lt (Int.pow_pos (by decide))), Int.pow_succ]

theorem ev_bits8_loop (v : Int) (h0 : 0 ≤ v) (h1 : v ≤ 255) (d : Nat) (hd : d ≤ 8) :
    Ev (fun k => carouselref01_bits.l0 k (v / 2 ^ (8 - d)) (List.replicate d 0 ++ (Gv.bitsOf 8 v).drop d) ((d : Int) - 1)) (Gv.bitsOf 8 v, (v / 2 ^ 8 == 0)) := by
  induction d with
  | zero =>
    refine Ev.step (f := fun _ => some (Gv.bitsOf 8 v, (v / 2 ^ 8 == 0))) (fun k => ?_) (Ev.now _)
    simp [carouselref01_bits.l0]
  | succ d ih =>
    have hlen : (Gv.bitsOf 8 v).length = 8 := Gv.bitsOf_length 8 v
    refine Ev.step (fun k => ?_) (ih (by omega))
    simp only [carouselref01_bits.l0]
    have hx := div2_range v (8 - (d + 1)) h0 h1
    rw [if_pos (by omega), if_pos (by omega), if_pos (by simp [hlen]; omega)]
    have e1 : IntKind.u64.wrap (Int.tdiv (v / 2 ^ (8 - (d + 1))) 2) = v / 2 ^ (8 - d) := by
      rw [Int.tdiv_eq_ediv_of_nonneg hx.1, div_succ', show 8 - (d + 1) + 1 = 8 - d from by omega]
      have := div2_range v (8 - d) h0 h1
      exact sw_u64 this.1 (by omega)
    have e2 : wrap64 (((d + 1 : Nat) : Int) - 1 - 1) = (d : Int) - 1 := by rw [sw_wrap (by omega) (by omega)]; omega
    have e3 : (((d + 1 : Nat) : Int) - 1).toNat = d := by omega
    have e4 : wrap64 (Int.tmod (v / 2 ^ (8 - (d + 1))) 2) = (v / 2 ^ (8 - 1 - d)) % 2 := by
      rw [Int.tmod_eq_emod_of_nonneg hx.1, sw_wrap (by omega) (by omega), show 8 - (d + 1) = 8 - 1 - d from by omega]
    have e5 : (Gv.bitsOf 8 v).drop d = (v / 2 ^ (8 - 1 - d)) % 2 :: (Gv.bitsOf 8 v).drop (d + 1) := by
      rw [List.drop_eq_getElem_cons (by rw [hlen]; omega)]
      simp [Gv.bitsOf]
    rw [e1, e2, e3, e4, set_mid', e5]
theorem ev_bits8 (v : Int) (h0 : 0 ≤ v) (h1 : v ≤ 255) : Ev (fun k => carouselref01_bits.f k v 8) (Gv.bitsOf 8 v, (v / 2 ^ 8 == 0)) := by
  have h := ev_bits8_loop v h0 h1 8 (Nat.le_refl _)
  refine Ev.congr (fun k => ?_) h
  unfold carouselref01_bits.f
  rw [if_pos (by omega), if_pos (by decide), sw_wrap (by omega) (by omega)]
  rw [List.drop_of_length_le (Nat.le_of_eq (Gv.bitsOf_length 8 v)), List.append_nil]
  simp only [Nat.sub_self, Int.pow_zero, Int.ediv_one]
  rfl

/-- One part. -/
theorem ev_rpart (s : ByteArray) (hs : s.size ≤ 100000) (n : Int) (all out ws : List Int) (hall : Gv.IsBits all) (hal : all.length ≤ 800000) (i : Nat) (hi : i < ws.length) (hil : ws.length ≤ 1000) (at_ w : Nat) (hw : w ≤ 64) (hwi : ws[i] = (w : Int)) (ha : at_ + w ≤ all.length) (hout : out.length ≤ 1000) (r : List Int × ByteArray × Int)
    (hk : Ev (fun k => carouselref01_Split.l2 k s ws n all (out ++ [Gv.valOf ((all.drop at_).take w)]) ((at_ + w : Nat) : Int) ((i + 1 : Nat) : Int)) r) (d : Nat) :
    ∀ j : Nat, w - j = d → j ≤ w → Ev (fun k => carouselref01_Split.l3 k s ws n all out (at_ : Int) (i : Int) (Gv.valOf ((all.drop at_).take j)) (j : Int)) r := by
  induction d with
  | zero =>
    intro j hj hj2
    obtain rfl : j = w := by omega
    refine Ev.step (fun k => ?_) hk
    simp only [carouselref01_Split.l3]
    rw [if_pos (by omega), if_pos (by omega), sw_rd hi, hwi, if_neg (by omega), if_pos (by omega), sw_wrap (by omega) (by omega), sw_wrap (by omega) (by omega)]
    rfl
  | succ d ih =>
    intro j hj hj2
    have h := ih (j + 1) (by omega) (by omega)
    have hjl : j < (all.drop at_).length := by rw [List.length_drop]; omega
    rw [valOf_take_succ hjl, List.getElem_drop] at h
    have hbits : Gv.IsBits ((all.drop at_).take j) := fun b hb => hall b (List.mem_of_mem_drop (List.mem_of_mem_take hb))
    have hv := Gv.valOf_range hbits
    have hlj : ((all.drop at_).take j).length = j := by rw [List.length_take]; omega
    rw [hlj] at hv
    have hp := pow_le_63 (show j ≤ 63 by omega)
    have hbt := hall (all[at_ + j]'(by omega)) (List.getElem_mem _)
    have hrd : rd all (wrap64 ((at_ : Int) + j)) = all[at_ + j]'(by omega) := by
      rw [sw_wrap (by omega) (by omega), show (at_ : Int) + j = ((at_ + j : Nat) : Int) from by omega]; exact sw_rd _
    refine Ev.step (fun k => ?_) h
    simp only [carouselref01_Split.l3]
    rw [if_pos (by omega), if_pos (by omega), sw_rd hi, hwi, if_pos (by omega), if_pos (by rw [sw_wrap (by omega) (by omega)]; omega), if_pos (by rw [sw_wrap (by omega) (by omega)]; omega), hrd]
    clear hrd
    obtain ⟨b, hb⟩ : ∃ b, all[at_ + j]'(by omega) = b := ⟨_, rfl⟩
    rw [hb] at hbt ⊢
    clear hb
    generalize Gv.valOf ((all.drop at_).take j) = x at hv ⊢
    rw [sw_u64 (n := b) (by omega) (by omega), sw_u64 (n := x * 2) (by omega) (by omega), sw_u64 (by omega) (by omega), sw_wrap (by omega) (by omega)]
    rfl

theorem ev_rparts (s : ByteArray) (hs : s.size ≤ 100000) (ws all : List Int) (hall : Gv.IsBits all) (hl : ws.length ≤ 1000) (hok : Gv.okW ws = true) (h8 : Gv.sumW ws % 8 = 0) (hsz : Gv.sumW ws / 8 ≤ (s.size : Int)) (hal : (all.length : Int) = Gv.sumW ws) (d : Nat) :
    ∀ i : Nat, ws.length - i = d → i ≤ ws.length →
    Ev (fun k => carouselref01_Split.l2 k s ws (Gv.sumW ws) all (Gv.vals all (ws.take i)) (Gv.sumW (ws.take i)) (i : Int)) (Gv.vals all ws, s.extract (Gv.sumW ws / 8).toNat s.size, 0) := by
  have hb := sum_bound ws hok
  have e1 : wrap64 (Int.tdiv (Gv.sumW ws) 8) = Gv.sumW ws / 8 := by rw [Int.tdiv_eq_ediv_of_nonneg hb.1, sw_wrap (by omega) (by omega)]
  induction d with
  | zero =>
    intro i hi hi2
    rw [List.take_of_length_le (by omega)]
    refine Ev.step (f := fun _ => some (Gv.vals all ws, s.extract (Gv.sumW ws / 8).toNat s.size, 0)) (fun k => ?_) (Ev.now _)
    simp only [carouselref01_Split.l2]
    rw [if_neg (by omega), e1, if_pos (by omega), if_pos (by omega)]
  | succ d ih =>
    intro i hi hi2
    have hil : i < ws.length := by omega
    have h := ih (i + 1) (by omega) (by omega)
    have hwi := okW_get hok hil
    have hok2 := okW_take hok i
    have hb2 := sum_bound _ hok2
    have hle := sum_take_le ws hok i hil
    rw [sw_take hil, vals_snoc _ _ hok2, sum_snoc] at h
    obtain ⟨a, ha⟩ := Int.eq_ofNat_of_zero_le hb2.1
    obtain ⟨w, hw⟩ := Int.eq_ofNat_of_zero_le (show 0 ≤ ws[i] by omega)
    rw [hw, ha, Int.toNat_natCast, Int.toNat_natCast] at h
    have hp := ev_rpart s hs (Gv.sumW ws) all (Gv.vals all (ws.take i)) ws hall (by omega) i hil hl a w (by omega) hw (by omega) (by rw [vals_length, List.length_take]; omega) _ h w 0 rfl (by omega)
    refine Ev.step (fun k => ?_) hp
    simp only [carouselref01_Split.l2]
    rw [if_pos (by omega), ha]
    rfl

/-- The bits of the first bytes. -/
def firstB (s : ByteArray) (m : Nat) : List Int := ((bytesOf s).take m).flatMap fun b => Gv.bitsOf 8 b
theorem firstB_snoc (s : ByteArray) (m : Nat) (h : m < s.size) : firstB s (m + 1) = firstB s m ++ Gv.bitsOf 8 (bt s (m : Int)) := by
  unfold firstB
  have hl : m < (bytesOf s).length := by rw [bytesOf_length]; exact h
  rw [List.take_succ_eq_append_getElem hl, List.flatMap_append]
  congr 1
  have : (bytesOf s)[m] = bt s (m : Int) := by rw [← rd_bytesOf]; unfold rd; simp [List.getD_eq_getElem?_getD, hl]
  simp [this]
theorem firstB_bits (s : ByteArray) (m : Nat) : Gv.IsBits (firstB s m) := by
  intro b hb
  simp only [firstB, List.mem_flatMap] at hb
  obtain ⟨p, _, hb⟩ := hb
  exact Gv.bitsOf_bits _ _ b hb
theorem firstB_take (s : ByteArray) (m : Nat) : firstB s m = (Gv.sBits s).take (8 * m) := by
  have key : ∀ (l : List Int) (m : Nat), ((l.take m).flatMap fun b => Gv.bitsOf 8 b) = (l.flatMap fun b => Gv.bitsOf 8 b).take (8 * m) := by
    intro l
    induction l with
    | nil => intro m; simp
    | cons b l ih =>
      intro m
      cases m with
      | zero => simp
      | succ m =>
        rw [List.take_succ_cons, List.flatMap_cons, List.flatMap_cons, ih, List.take_append, Gv.bitsOf_length, List.take_of_length_le (l := Gv.bitsOf 8 b) (by rw [Gv.bitsOf_length]; omega), show 8 * (m + 1) - 8 = 8 * m from by omega]
  exact key _ m
theorem firstB_length (s : ByteArray) (m : Nat) (h : m ≤ s.size) : (firstB s m).length = 8 * m := by
  rw [firstB_take, List.length_take, Gv.sBits_length]; omega

theorem ev_rbytes (s : ByteArray) (hs : s.size ≤ 100000) (ws : List Int) (n : Int) (m : Nat) (hn : wrap64 (Int.tdiv n 8) = (m : Int)) (hm : m ≤ s.size) (r : List Int × ByteArray × Int)
    (hk : Ev (fun k => carouselref01_Split.l2 k s ws n (firstB s m) ([] : List Int) 0 0) r) (d : Nat) :
    ∀ i : Nat, m - i = d → i ≤ m → Ev (fun k => carouselref01_Split.l1 k s ws n (firstB s i) (i : Int)) r := by
  induction d with
  | zero =>
    intro i hi hi2
    obtain rfl : i = m := by omega
    refine Ev.step (fun k => ?_) hk
    simp only [carouselref01_Split.l1]
    rw [hn, if_neg (by omega)]
  | succ d ih =>
    intro i hi hi2
    have h := ih (i + 1) (by omega) (by omega)
    have hbt := bt_range s (i : Int)
    have hb8 := ev_bits8 (bt s (i : Int)) hbt.1 hbt.2
    have hfl := firstB_length s i (by omega)
    rw [firstB_snoc s i (by omega)] at h
    refine Ev.step (fun k => ?_) (Ev.bind hb8 (f := fun k bt => (if (firstB s i).length + bt.1.length < 17592186044416 then (carouselref01_Split.l1 k s ws n (firstB s i ++ bt.1) (wrap64 ((i : Int) + 1))) else (none))) (Ev.congr (fun k => ?_) h))
    · simp only [carouselref01_Split.l1]
      rw [hn, if_pos (by omega), if_pos (by omega), if_pos (by omega), sw_u64 hbt.1 (by omega)]
    · simp only
      rw [if_pos (by rw [Gv.bitsOf_length]; omega), sw_wrap (by omega) (by omega)]
      rfl

theorem vals_take (ws : List Int) (hok : Gv.okW ws = true) : ∀ (bits : List Int) (m : Nat), Gv.sumW ws ≤ (m : Int) → Gv.vals (bits.take m) ws = Gv.vals bits ws := by
  induction ws with
  | nil => intro bits m _; rfl
  | cons x ws ih =>
    intro bits m hm
    simp only [Gv.okW, List.all_cons, Bool.and_eq_true, decide_eq_true_eq] at hok
    have hb := sum_bound ws (by simp only [Gv.okW]; exact hok.2)
    have hs : Gv.sumW (x :: ws) = x + Gv.sumW ws := by
      have : ∀ (l : List Int) (c : Int), l.foldl (· + ·) c = c + l.foldl (· + ·) 0 := by
        intro l
        induction l with
        | nil => intro c; simp
        | cons y l ih2 => intro c; rw [List.foldl_cons, ih2, List.foldl_cons, ih2 (0 + y)]; omega
      unfold Gv.sumW
      rw [List.foldl_cons, this]; omega
    simp only [Gv.vals]
    rw [List.take_take, Nat.min_eq_left (by omega), List.drop_take, ih (by simp only [Gv.okW]; exact hok.2) _ _ (by omega)]

theorem ev_rsplit_loop (s : ByteArray) (hs : s.size ≤ 100000) (ws : List Int) (hl : ws.length ≤ 1000) (d : Nat) : ∀ i : Nat, ws.length - i = d → i ≤ ws.length → Gv.okW (ws.take i) = true →
    Ev (fun k => carouselref01_Split.l0 k s ws (Gv.sumW (ws.take i)) (i : Int)) (Gv.split s ws) := by
  induction d with
  | zero =>
    intro i hi hi2 hok
    rw [List.take_of_length_le (by omega)] at hok ⊢
    have hb := sum_bound ws hok
    have e1 : wrap64 (Int.tdiv (Gv.sumW ws) 8) = Gv.sumW ws / 8 := by rw [Int.tdiv_eq_ediv_of_nonneg hb.1, sw_wrap (by omega) (by omega)]
    have e2 : Int.tmod (Gv.sumW ws) 8 = Gv.sumW ws % 8 := Int.tmod_eq_emod_of_nonneg hb.1
    unfold Gv.split
    rw [if_pos hok]
    by_cases h8 : Gv.sumW ws % 8 = 0
    · rw [if_pos h8]
      by_cases hz : Gv.sumW ws / 8 > (s.size : Int)
      · rw [if_pos hz]
        refine Ev.step (f := fun _ => some (([] : List Int), (⟨#[]⟩ : ByteArray), 1)) (fun k => ?_) (Ev.now _)
        simp only [carouselref01_Split.l0]
        rw [if_neg (by omega), e2, if_pos h8, e1, if_pos hz]
      · rw [if_neg hz]
        obtain ⟨m, hm⟩ := Int.eq_ofNat_of_zero_le (show 0 ≤ Gv.sumW ws / 8 by omega)
        have hfl := firstB_length s m (by omega)
        have h2 := ev_rparts s hs ws (firstB s m) (firstB_bits s m) hl hok h8 (by omega) (by rw [hfl]; omega) _ 0 rfl (by omega)
        have hv : Gv.vals (firstB s m) ws = Gv.vals (Gv.sBits s) ws := by rw [firstB_take]; exact vals_take ws hok _ _ (by omega)
        rw [hv] at h2
        have h := ev_rbytes s hs ws (Gv.sumW ws) m (by rw [e1, hm]) (by omega) _ h2 _ 0 rfl (by omega)
        refine Ev.step (fun k => ?_) h
        simp only [carouselref01_Split.l0]
        rw [if_neg (by omega), e2, if_pos h8, e1, if_neg hz]
        rfl
    · rw [if_neg h8]
      refine Ev.step (f := fun _ => some (([] : List Int), (⟨#[]⟩ : ByteArray), 3)) (fun k => ?_) (Ev.now _)
      simp only [carouselref01_Split.l0]
      rw [if_neg (by omega), e2, if_neg h8]
  | succ d ih =>
    intro i hi hi2 hok
    have hil : i < ws.length := by omega
    have hb := sum_bound _ hok
    have hlt : ((ws.take i).length : Int) ≤ i := by have := List.length_take_le i ws; omega
    by_cases hm : 1 ≤ ws[i] ∧ ws[i] ≤ 64
    · have hokn : Gv.okW (ws.take (i + 1)) = true := by
        rw [sw_take hil]; simp only [Gv.okW, List.all_append, Bool.and_eq_true]
        exact ⟨hok, by simp [hm.1, hm.2]⟩
      have h := ih (i + 1) (by omega) (by omega) hokn
      rw [sw_take hil, sum_snoc] at h
      refine Ev.step (fun k => ?_) h
      simp only [carouselref01_Split.l0]
      rw [if_pos (by omega), if_pos (by omega), sw_rd hil, if_neg (by omega), if_neg (by omega), sw_wrap (by omega) (by omega), sw_wrap (by omega) (by omega)]
      rfl
    · have hbad : ¬ Gv.okW ws = true := fun h => hm (okW_get h hil)
      unfold Gv.split
      rw [if_neg hbad]
      refine Ev.step (f := fun _ => some (([] : List Int), (⟨#[]⟩ : ByteArray), 4)) (fun k => ?_) (Ev.now _)
      simp only [carouselref01_Split.l0]
      rw [if_pos (by omega), if_pos (by omega), sw_rd hil]
      by_cases h1 : ws[i] < 1
      · rw [if_pos h1]
      · rw [if_neg h1, if_pos (by omega)]

/-- The document's Split. -/
theorem ev_refsplit (s : ByteArray) (hs : s.size ≤ 100000) (ws : List Int) (hl : ws.length ≤ 1000) : Ev (fun k => carouselref01_Split.f k s ws) (Gv.split s ws) :=
  ev_rsplit_loop s hs ws hl _ 0 rfl (by omega) (by simp [Gv.okW])

end Go.Proofs.Ytapicoienpbdfaa.LWatchPlays

/- Get of layer 1, the document's: a number of so many bytes, from a place on. -/
namespace Go.Proofs.Ytapicoienpbdfaa.LWatchPlays
open Go.RowKit Go.Proofs.Ytapicoienpbdfaa.PWatchPlays Go.Proofs.YtapicoienpbdfaaW.PrintWords Go.Proofs.YtapicoienpbdfaaW.PrintLast Go.Proofs.YtapicoienpbdfaaW.PrintMore Go.Proofs.Ytapicoienpbdfaa
set_option linter.unusedVariables false
set_option linter.unusedSimpArgs false

theorem ev_getn (s : ByteArray) (hs : s.size ≤ 100000) (a n : Nat) (h1 : 1 ≤ n) (h8 : n ≤ 8) (h : a + n ≤ s.size) : Ev (fun k => carouselref01_Get.f k s (a : Int) (n : Int)) (Gv.numOf s a n) := by
  have hz : (s.extract a s.size).size = s.size - a := by
    rw [Gv.size_bytesOf, Gv.bytesOf_extract, List.length_drop, List.length_take, bytesOf_length]; omega
  have h2 := ev_refsplit (s.extract a s.size) (by omega) [((8 * n : Nat) : Int)] (by simp)
  rw [Gv.split_one _ n h1 h8 (by omega), Gv.sBits_extract] at h2
  refine Ev.congr (fun k => ?_) (Ev.bind h2 (f := fun k b => if 0 < (b.1.length : Int) then (some (rd b.1 0)) else (none)) (Ev.congr (fun k => ?_) (Ev.now _)))
  · unfold carouselref01_Get.f
    rw [if_pos (by omega), if_pos (by omega), Int.toNat_natCast, show wrap64 (8 * (n : Int)) = ((8 * n : Nat) : Int) from by unfold wrap64; omega]
  · simp only []
    rw [if_pos (by simp)]; rfl

end Go.Proofs.Ytapicoienpbdfaa.LWatchPlays

/- Open of layer 4, the document's: it comes to the same plain word. -/
namespace Go.Proofs.Ytapicoienpbdfaa.LWatchPlays
open Go.RowKit Go.Proofs.Ytapicoienpbdfaa.PWatchPlays Go.Proofs.YtapicoienpbdfaaW.PrintWords Go.Proofs.YtapicoienpbdfaaW.PrintLast Go.Proofs.YtapicoienpbdfaaW.PrintMore Go.Proofs.Ytapicoienpbdfaa
set_option linter.unusedVariables false
set_option linter.unusedSimpArgs false

theorem ev_ref_open (s : ByteArray) (hs : s.size ≤ 100000) : Ev (fun k => carouselref04_Open.f k s) (oamOpen s) := by
  have h3 := bt_range s 3
  have h0 := bt_range s 0
  have e3 : wrap64 (bt s 3) = bt s 3 := sw_wrap (by omega) (by omega)
  have e5 : wrap64 (5 + bt s 3) = 5 + bt s 3 := sw_wrap (by omega) (by omega)
  have e4 : wrap64 (4 + bt s 3) = 4 + bt s 3 := sw_wrap (by omega) (by omega)
  unfold oamOpen
  by_cases h4 : s.size < 4
  · rw [if_pos h4]
    refine Ev.congr (f := fun k => carouselref04_Open.j0 k s true) (fun k => ?_) (Ev.step (f := fun _ => some (0, 0, 0, 0, 0, (⟨#[]⟩ : ByteArray), 1)) (fun k => ?_) (Ev.now _))
    · unfold carouselref04_Open.f; rw [if_pos (by omega)]
    · simp only [carouselref04_Open.j0]; rw [if_pos trivial]
  · rw [if_neg h4]
    by_cases h5 : (s.size : Int) < 5 + bt s 3
    · rw [if_pos h5]
      refine Ev.congr (f := fun k => carouselref04_Open.j0 k s true) (fun k => ?_) (Ev.step (f := fun _ => some (0, 0, 0, 0, 0, (⟨#[]⟩ : ByteArray), 1)) (fun k => ?_) (Ev.now _))
      · unfold carouselref04_Open.f; rw [if_neg (by omega), if_pos (by omega), e3, e5, show decide ((s.size : Int) < 5 + bt s 3) = true from by simpa using h5]
      · simp only [carouselref04_Open.j0]; rw [if_pos trivial]
    · rw [if_neg h5]
      refine Ev.congr (f := fun k => carouselref04_Open.j0 k s false) (fun k => ?_) (Ev.step (f := fun _ => some (if bt s (4 + bt s 3) = 0 then (bt s 0 / 32, bt s 0 % 32, bt s 1, bt s 2, bt s 3, s.extract 4 (4 + bt s 3).toNat, 0) else (0, 0, 0, 0, 0, (⟨#[]⟩ : ByteArray), 3))) (fun k => ?_) (Ev.now _))
      · unfold carouselref04_Open.f; rw [if_neg (by omega), if_pos (by omega), e3, e5, show decide ((s.size : Int) < 5 + bt s 3) = false from by simpa using h5]
      · simp only [carouselref04_Open.j0]
        rw [if_neg (by simp), if_pos (by omega), e3, e4, if_pos (by omega), if_pos (by omega)]
        have d1 : Int.tdiv (bt s 0) 32 % 256 = bt s 0 / 32 := by rw [Int.tdiv_eq_ediv_of_nonneg h0.1]; omega
        have d2 : Int.tmod (bt s 0) 32 = bt s 0 % 32 := Int.tmod_eq_emod_of_nonneg h0.1
        by_cases hz : bt s (4 + bt s 3) = 0
        · rw [if_pos hz, if_pos hz, if_pos (by omega), if_pos (by omega), if_pos (by omega), if_pos (by omega), if_pos (by omega), d1, d2]
        · rw [if_neg hz, if_neg hz]

end Go.Proofs.Ytapicoienpbdfaa.LWatchPlays

/- Is of layer 4, the document's: it comes to the same plain word. -/
namespace Go.Proofs.Ytapicoienpbdfaa.LWatchPlays
open Go.RowKit Go.Proofs.Ytapicoienpbdfaa.PWatchPlays Go.Proofs.YtapicoienpbdfaaW.PrintWords Go.Proofs.YtapicoienpbdfaaW.PrintLast Go.Proofs.YtapicoienpbdfaaW.PrintMore Go.Proofs.Ytapicoienpbdfaa
set_option linter.unusedVariables false
set_option linter.unusedSimpArgs false

theorem is_ref (a b c d e l v o f : Int) : carouselref04_Is.f a b c d e l v o f = some (oamIs a b c e l v o f) := by
  unfold carouselref04_Is.f oamIs
  repeat' split
  all_goals first | rfl | (exfalso; omega)

end Go.Proofs.Ytapicoienpbdfaa.LWatchPlays

/- Layer 6, the document's Open: it comes to the same plain word. -/
namespace Go.Proofs.Ytapicoienpbdfaa.LWatchPlays
open Go.RowKit Go.Proofs.Ytapicoienpbdfaa.PWatchPlays Go.Proofs.YtapicoienpbdfaaW.PrintWords Go.Proofs.YtapicoienpbdfaaW.PrintLast Go.Proofs.YtapicoienpbdfaaW.PrintMore Go.Proofs.Ytapicoienpbdfaa
set_option linter.unusedVariables false
set_option linter.unusedSimpArgs false

theorem rco_j0 (c : ByteArray) (hc : c.size = 70) (x : Bool) (l v cc f o : Int) (hf : 0 ≤ f ∧ f ≤ 255) :
    Ev (fun k => carouselref06_Open.j0 k c (Gv.numOf c 4 2) x l v cc f o) (if x = true then Gv.ccmNone 3 else if f % 8 ≠ 0 ∧ Gv.numOf c 4 2 ≠ 0 then (f / 128 == 1, f % 8, Gv.numOf c 0 4, Gv.numOf c 4 2, c.extract 6 54, 0) else Gv.ccmNone 4) := by
  have q0 := Gv.numOf_range c 0 4 (by omega)
  have q1 := Gv.numOf_range c 4 2 (by omega)
  rw [show (2 : Int) ^ (8 * 4) = 4294967296 from by decide] at q0
  rw [show (2 : Int) ^ (8 * 2) = 65536 from by decide] at q1
  have g := ev_getn c (by omega) 0 4 (by decide) (by decide) (by omega)
  refine Ev.step (f := fun k => carouselref06_Open.j0 (k + 1) c (Gv.numOf c 4 2) x l v cc f o) (fun k => rfl) ?_
  simp only [carouselref06_Open.j0, Int.tmod_eq_emod_of_nonneg hf.1]
  cases x with
  | true => simp only [if_true]; exact Ev.now _
  | false =>
    simp only [Bool.false_eq_true, if_false]
    by_cases h1 : f % 8 = 0
    · simp only [if_pos h1]
      rw [if_neg (fun h => h.1 h1)]
      exact Ev.now _
    · simp only [if_neg h1]
      by_cases h2 : Gv.numOf c 4 2 = 0
      · simp only [if_pos h2]
        rw [if_neg (fun h => h.2 h2)]
        exact Ev.now _
      · simp only [if_neg h2]
        rw [if_pos ⟨h1, h2⟩]
        refine Ev.bind g ?_
        have d1 : decide (f ≥ 128) = (f / 128 == 1) := by
          by_cases h : f ≥ 128
          · rw [decide_eq_true h]; symm; rw [beq_iff_eq]; omega
          · rw [decide_eq_false h]; symm; rw [beq_eq_false_iff_ne]; omega
        refine Ev.congr (fun k => ?_) (Ev.now _)
        rw [if_pos (by decide), if_pos (by omega), d1, show Gv.numOf c 0 4 % 4294967296 = Gv.numOf c 0 4 from by omega, co_u16 (n := Gv.numOf c 4 2) (by omega) (by omega)]
theorem ev_rcopen (s : ByteArray) (hs : s.size ≤ 100000) (lv : Int) : Ev (fun k => carouselref06_Open.f k s lv) (ccmOpen s lv) := by
  have ho := ev_ref_open s hs
  have hf := oam_facts s
  unfold ccmOpen
  generalize oamOpen s = h at *
  obtain ⟨l, v, c, f, o, b, e⟩ := h
  unfold ccmOf
  simp only [carouselref06_Open.f]
  refine Ev.bind ho ?_
  by_cases he : e = 0
  · have hf := hf he
    simp only [if_pos he, is_ref, Option.bind_some]
    by_cases hi : oamIs l v c o lv 0 1 70 = 0
    · have hi2 := is_facts hi
      have hb : b.size = 70 := by have := hf.1; simp only at this; omega
      have hfl : 0 ≤ f ∧ f ≤ 255 := hf.2
      have g := ev_getn b (by omega) 4 2 (by decide) (by decide) (by omega)
      simp only [if_pos hi]
      refine Ev.bind g ?_
      have ht := rco_j0 b hb true l v c f o hfl
      rw [if_pos rfl] at ht
      unfold Gv.ccmRead
      by_cases h1 : Gv.numOf b 4 2 < 8192
      · simp only [if_neg (show ¬ Gv.numOf b 4 2 ≥ 8192 from by omega)]
        have d : Int.tmod (IntKind.u8.wrap (Int.tdiv f 8)) 16 = f / 8 % 16 := by
          show Int.tmod (Int.tdiv f 8 % 256) 16 = _
          rw [Int.tdiv_eq_ediv_of_nonneg hfl.1, Int.tmod_eq_emod_of_nonneg (by omega)]; omega
        rw [d]
        by_cases h2 : f / 8 % 16 = 0
        · simp only [if_pos h2, if_pos (show (54 : Int) ≤ (b.size : Int) from by omega), if_pos (show (16 : Nat) ≤ 281474976710656 from by decide)]
          by_cases h3 : b.extract 54 b.size = strOfNums (List.replicate 16 0)
          · rw [if_pos ⟨h1, h2, h3⟩, show ((b.extract 54 b.size).toList != (strOfNums (List.replicate 16 0)).toList) = false from by rw [h3]; simp]
            have hj := rco_j0 b hb false l v c f o hfl
            rw [if_neg (by simp)] at hj
            exact hj
          · rw [if_neg (fun h => h3 h.2.2), show ((b.extract 54 b.size).toList != (strOfNums (List.replicate 16 0)).toList) = true from by rw [bne_iff_ne]; exact fun h => h3 (Gv.str_list.1 h)]
            exact ht
        · simp only [if_neg h2]
          rw [if_neg (fun h => h2 h.2.1)]
          exact ht
      · simp only [if_pos (show Gv.numOf b 4 2 ≥ 8192 from by omega)]
        rw [if_neg (fun h => h1 h.1)]
        exact ht
    · simp only [if_neg hi]
      exact Ev.now _
  · simp only [if_neg he]
    exact Ev.now _

end Go.Proofs.Ytapicoienpbdfaa.LWatchPlays

/- WatchPlays, walked by hand: what its calls yield. -/
namespace Go.Proofs.Ytapicoienpbdfaa.Wx
open Go.RowKit Go.Proofs.Ytapicoienpbdfaa.PWatchPlays Go.Proofs.YtapicoienpbdfaaW.PrintWords Go.Proofs.YtapicoienpbdfaaW.PrintLast Go.Proofs.YtapicoienpbdfaaW.PrintMore Go.Proofs.Ytapicoienpbdfaa Go.Proofs.Ytapicoienpbdfaa.LWatchPlays
set_option linter.unusedVariables false
set_option linter.unusedSimpArgs false

theorem wp_awake : Ev (fun k => carousellaw09_Awake.f k) true :=
  Ev.of carousellaw09_Awake.mono (k := 60) (by decide +kernel)
abbrev Wt := Int × Int × Int × ByteArray × Int × Int × Int × Int × Bool × Bool × Int
def wNone (c : Int) : Wt := (0, 0, 0, (⟨#[]⟩ : ByteArray), 0, 0, 0, 0, false, false, c)
def wNew (lv e p : Int) (g : ByteArray) (iv st : Int) : Wt :=
  if (ccmClose false p 0 e g lv).2 = 0 then (if iv < 1 ∨ iv > 1048576 ∨ st < 0 ∨ st > 1099511627776 then wNone 4 else (lv, e, p, g, iv, st, st, 0, false, false, 0)) else wNone (ccmClose false p 0 e g lv).2
theorem ev_new (lv e p : Int) (g : ByteArray) (iv st : Int) (hlv : isU8 lv) (he : 0 ≤ e ∧ e ≤ 65535) (hp : isU8 p) : Ev (fun k => watch_New.f k lv e p g iv st) (wNew lv e p g iv st) := by
  have hc := ev_cclose false p 0 e g lv hp (by decide) (by decide) he.1 he.2 hlv
  simp only [watch_New.f, watch_Watch_message.f, Option.bind_some]
  rw [show (0 : Int) % 4294967296 = 0 from by decide]
  refine Ev.bind hc ?_
  unfold wNew
  generalize ccmClose false p 0 e g lv = r
  have bad : Ev (fun k => watch_New.j0 k true lv e p g iv st st 0 false false) (wNone 4) := by
    refine Ev.step (f := fun k => watch_New.j0 (k + 1) true lv e p g iv st st 0 false false) (fun k => rfl) ?_
    simp only [watch_New.j0, if_true]
    exact Ev.now _
  by_cases h0 : r.2 = 0
  · simp only [if_pos h0]
    by_cases h1 : iv < 1
    · simp only [if_pos h1, h1, true_or, if_true]; exact bad
    by_cases h2 : iv > 1048576
    · simp only [if_neg h1, if_pos h2, h2, true_or, or_true, if_true]; exact bad
    by_cases h3 : st < 0
    · simp only [if_neg h1, if_neg h2, if_pos h3, h3, true_or, or_true, if_true]; exact bad
    simp only [if_neg h1, if_neg h2, if_neg h3]
    by_cases h4 : st > 1099511627776
    · rw [decide_eq_true h4, if_pos (.inr (.inr (.inr h4)))]; exact bad
    · rw [decide_eq_false h4, if_neg (by omega)]
      refine Ev.step (f := fun k => watch_New.j0 (k + 1) false lv e p g iv st st 0 false false) (fun k => rfl) ?_
      simp only [watch_New.j0, Bool.false_eq_true, if_false]
      exact Ev.now _
  · simp only [if_neg h0]; exact Ev.now _
theorem ev_says (lv e p : Int) (g : ByteArray) (iv h x s : Int) (lost far : Bool) (hlv : isU8 lv) (he : 0 ≤ e ∧ e ≤ 65535) (hp : isU8 p) (hs : 0 ≤ s) :
    Ev (fun k => carouselref09_says.f k lv e p g iv h x s lost far) (ccmClose lost p (s % 4294967296) e g lv) := by
  have hc := ev_rcclose lost p (s % 4294967296) e g lv hp (by omega) (by omega) he.1 he.2 hlv
  simp only [carouselref09_says.f]
  rw [Int.tmod_eq_emod_of_nonneg hs, Int.emod_emod_of_dvd s (Int.dvd_refl _)]
  exact Ev.bind hc (Ev.now _)
theorem ev_rnew (lv e p : Int) (g : ByteArray) (iv st : Int) (hlv : isU8 lv) (he : 0 ≤ e ∧ e ≤ 65535) (hp : isU8 p) : Ev (fun k => carouselref09_New.f k lv e p g iv 0 0 0 false false st) (wNew lv e p g iv st) := by
  have hc := ev_says lv e p g iv 0 0 0 false false hlv he hp (by decide)
  rw [show (0 : Int) % 4294967296 = 0 from by decide] at hc
  simp only [carouselref09_New.f]
  refine Ev.bind hc ?_
  unfold wNew
  generalize ccmClose false p 0 e g lv = r
  have bad : Ev (fun k => carouselref09_New.j0 k st true lv e p g iv 0 0 0 false false) (wNone 4) := by
    refine Ev.step (f := fun k => carouselref09_New.j0 (k + 1) st true lv e p g iv 0 0 0 false false) (fun k => rfl) ?_
    simp only [carouselref09_New.j0, if_true]
    exact Ev.now _
  by_cases h0 : r.2 = 0
  · simp only [if_pos h0]
    by_cases h1 : iv < 1
    · simp only [if_pos h1, h1, true_or, if_true]; exact bad
    by_cases h2 : iv > 1048576
    · simp only [if_neg h1, if_pos h2, h2, true_or, or_true, if_true]; exact bad
    by_cases h3 : st < 0
    · simp only [if_neg h1, if_neg h2, if_pos h3, h3, true_or, or_true, if_true]; exact bad
    simp only [if_neg h1, if_neg h2, if_neg h3]
    by_cases h4 : st > 1099511627776
    · rw [decide_eq_true h4, if_pos (.inr (.inr (.inr h4)))]; exact bad
    · rw [decide_eq_false h4, if_neg (by omega)]
      refine Ev.step (f := fun k => carouselref09_New.j0 (k + 1) st false lv e p g iv 0 0 0 false false) (fun k => rfl) ?_
      simp only [carouselref09_New.j0, Bool.false_eq_true, if_false]
      exact Ev.now _
  · simp only [if_neg h0]; exact Ev.now _
/-- What hearing comes to. -/
def wHear (lv e p : Int) (g : ByteArray) (iv h x s : Int) (lost far : Bool) (now : Int) (r : Bool × Int × Int × Int × ByteArray × Int) : Wt :=
  if r.2.2.2.2.2 = 0 then (if r.2.2.2.2.1.toList = g.toList then (if r.2.2.2.1 = e then (lv, e, p, g, iv, h, x, s, lost, far, 10) else (if r.2.1 = p then (lv, e, p, g, iv, now, x, s, false, r.1, 0) else (lv, e, p, g, iv, h, x, s, lost, far, 4))) else (lv, e, p, g, iv, h, x, s, lost, far, 3)) else (lv, e, p, g, iv, h, x, s, lost, far, r.2.2.2.2.2)
theorem wHear_shape (lv e p : Int) (g : ByteArray) (iv h x s : Int) (lost far : Bool) (now : Int) (r : Bool × Int × Int × Int × ByteArray × Int) :
    ∃ h' lost' far' c, wHear lv e p g iv h x s lost far now r = (lv, e, p, g, iv, h', x, s, lost', far', c) := by
  unfold wHear
  by_cases h0 : r.2.2.2.2.2 = 0
  · rw [if_pos h0]
    by_cases h1 : r.2.2.2.2.1.toList = g.toList
    · rw [if_pos h1]
      by_cases h2 : r.2.2.2.1 = e
      · rw [if_pos h2]; exact ⟨_, _, _, _, rfl⟩
      · rw [if_neg h2]
        by_cases h3 : r.2.1 = p
        · rw [if_pos h3]; exact ⟨_, _, _, _, rfl⟩
        · rw [if_neg h3]; exact ⟨_, _, _, _, rfl⟩
    · rw [if_neg h1]; exact ⟨_, _, _, _, rfl⟩
  · rw [if_neg h0]; exact ⟨_, _, _, _, rfl⟩
theorem ev_hear (lv e p : Int) (g : ByteArray) (iv h x s : Int) (lost far : Bool) (now : Int) (b : ByteArray) (hb : b.size ≤ 100000) :
    Ev (fun k => watch_Watch_Hear.f k lv e p g iv h x s lost far now b) (wHear lv e p g iv h x s lost far now (ccmOpen b lv)) := by
  simp only [watch_Watch_Hear.f]
  refine Ev.bind (ev_copen b hb lv) ?_
  unfold wHear
  generalize ccmOpen b lv = r
  by_cases h0 : r.2.2.2.2.2 = 0
  · simp only [if_pos h0]
    by_cases h1 : r.2.2.2.2.1.toList = g.toList
    · simp only [if_pos h1]
      by_cases h2 : r.2.2.2.1 = e
      · simp only [if_pos h2]; exact Ev.now _
      · simp only [if_neg h2]
        by_cases h3 : r.2.1 = p
        · simp only [if_pos h3]
          by_cases h4 : r.1 = true
          · simp only [h4, if_true]; exact Ev.now _
          · have h5 : r.1 = false := by simpa using h4
            simp only [h5, Bool.false_eq_true, if_false]; exact Ev.now _
        · simp only [if_neg h3]; exact Ev.now _
    · simp only [if_neg h1]; exact Ev.now _
  · simp only [if_neg h0]; exact Ev.now _
theorem ev_rhear (lv e p : Int) (g : ByteArray) (iv h x s : Int) (lost far : Bool) (now : Int) (b : ByteArray) (hb : b.size ≤ 100000) :
    Ev (fun k => carouselref09_Hear.f k lv e p g iv h x s lost far now b) (wHear lv e p g iv h x s lost far now (ccmOpen b lv)) := by
  simp only [carouselref09_Hear.f]
  refine Ev.bind (ev_rcopen b hb lv) ?_
  unfold wHear
  generalize ccmOpen b lv = r
  by_cases h0 : r.2.2.2.2.2 = 0
  · simp only [if_pos h0]
    by_cases h1 : r.2.2.2.2.1.toList = g.toList
    · simp only [if_pos h1]
      by_cases h2 : r.2.2.2.1 = e
      · simp only [if_pos h2]; exact Ev.now _
      · simp only [if_neg h2]
        by_cases h3 : r.2.1 = p
        · simp only [if_pos h3]; exact Ev.now _
        · simp only [if_neg h3]; exact Ev.now _
    · simp only [if_neg h1]; exact Ev.now _
  · simp only [if_neg h0]; exact Ev.now _
/-- What a tick comes to. -/
def wTick (lv e p : Int) (g : ByteArray) (iv h x s : Int) (lost far : Bool) (now : Int) : Int × Int × Int × ByteArray × Int × Int × Int × Int × Bool × Bool × ByteArray :=
  if now ≥ x then (lv, e, p, g, iv, h, wrap64 (now + iv), IntKind.u64.wrap (s + 1), (if wrap64 (2 * wrap64 (now - h)) > wrap64 (7 * iv) then true else lost), far, (ccmClose lost p (s % 4294967296) e g lv).1)
  else (lv, e, p, g, iv, h, x, s, (if wrap64 (2 * wrap64 (now - h)) > wrap64 (7 * iv) then true else lost), far, ⟨#[]⟩)
theorem wp_u64 (n : Int) : 0 ≤ IntKind.u64.wrap n := by
  have e : IntKind.u64.wrap n = n % 18446744073709551616 := rfl
  rw [e]; omega
theorem wTick_shape (lv e p : Int) (g : ByteArray) (iv h x s : Int) (lost far : Bool) (now : Int) (hs : 0 ≤ s) :
    ∃ x' s' lost' out, 0 ≤ s' ∧ wTick lv e p g iv h x s lost far now = (lv, e, p, g, iv, h, x', s', lost', far, out) := by
  unfold wTick
  by_cases hx : now ≥ x
  · rw [if_pos hx]; exact ⟨_, _, _, _, wp_u64 _, rfl⟩
  · rw [if_neg hx]; exact ⟨_, _, _, _, hs, rfl⟩
theorem tick_j0 (lv e p : Int) (g : ByteArray) (iv h x s : Int) (lost far : Bool) (now : Int) (out : ByteArray) :
    Ev (fun k => watch_Watch_Tick.j0 k now out lv e p g iv h x s lost far) (lv, e, p, g, iv, h, x, s, (if wrap64 (2 * wrap64 (now - h)) > wrap64 (7 * iv) then true else lost), far, out) := by
  refine Ev.step (f := fun k => watch_Watch_Tick.j0 (k + 1) now out lv e p g iv h x s lost far) (fun k => rfl) ?_
  simp only [watch_Watch_Tick.j0]
  by_cases hc : wrap64 (2 * wrap64 (now - h)) > wrap64 (7 * iv)
  · simp only [if_pos hc]; exact Ev.now _
  · simp only [if_neg hc]; exact Ev.now _
theorem rtick_j0 (lv e p : Int) (g : ByteArray) (iv h x s : Int) (lost far : Bool) (now : Int) (out : ByteArray) :
    Ev (fun k => carouselref09_Tick.j0 k now out lv e p g iv h x s lost far) (lv, e, p, g, iv, h, x, s, (if wrap64 (2 * wrap64 (now - h)) > wrap64 (7 * iv) then true else lost), far, out) := by
  refine Ev.step (f := fun k => carouselref09_Tick.j0 (k + 1) now out lv e p g iv h x s lost far) (fun k => rfl) ?_
  simp only [carouselref09_Tick.j0]
  rw [Int.mul_comm (wrap64 (now - h)) 2, Int.mul_comm iv 7]
  by_cases hc : wrap64 (2 * wrap64 (now - h)) > wrap64 (7 * iv)
  · simp only [if_pos hc]; exact Ev.now _
  · simp only [if_neg hc]; exact Ev.now _
theorem ev_tick (lv e p : Int) (g : ByteArray) (iv h x s : Int) (lost far : Bool) (now : Int) (hlv : isU8 lv) (he : 0 ≤ e ∧ e ≤ 65535) (hp : isU8 p) (hs : 0 ≤ s) :
    Ev (fun k => watch_Watch_Tick.f k lv e p g iv h x s lost far now) (wTick lv e p g iv h x s lost far now) := by
  simp only [watch_Watch_Tick.f, watch_Watch_message.f, Option.bind_some]
  unfold wTick
  by_cases hx : now ≥ x
  · simp only [if_pos hx]
    exact Ev.bind (ev_cclose lost p (s % 4294967296) e g lv hp (by omega) (by omega) he.1 he.2 hlv) (tick_j0 lv e p g iv h _ _ lost far now _)
  · simp only [if_neg hx]
    exact tick_j0 lv e p g iv h x s lost far now _
theorem ev_rtick (lv e p : Int) (g : ByteArray) (iv h x s : Int) (lost far : Bool) (now : Int) (hlv : isU8 lv) (he : 0 ≤ e ∧ e ≤ 65535) (hp : isU8 p) (hs : 0 ≤ s) :
    Ev (fun k => carouselref09_Tick.f k lv e p g iv h x s lost far now) (wTick lv e p g iv h x s lost far now) := by
  simp only [carouselref09_Tick.f]
  unfold wTick
  by_cases hx : x ≤ now
  · simp only [if_pos hx, if_pos (show now ≥ x from hx)]
    exact Ev.bind (ev_says lv e p g iv h x s lost far hlv he hp hs) (rtick_j0 lv e p g iv h _ _ lost far now _)
  · simp only [if_neg hx, if_neg (show ¬ now ≥ x from hx)]
    exact rtick_j0 lv e p g iv h x s lost far now _

theorem awake_c (w : World) : Calls Try.prog 21 #[] w fun x w' => x = .returned (.bool true) ∧ Below w.heap.size w w' := by
  obtain ⟨k, hk⟩ := wp_awake
  exact carousellaw09_Awake.calls k true w (hk k (Nat.le_refl _))
/-- A watch and a code, as values. -/
def wVal (r : Wt) : Value := .tuple #[.agg #[.int .u8 r.1, .int .u16 r.2.1, .int .u8 r.2.2.1, .string r.2.2.2.1, .int .i64 r.2.2.2.2.1, .int .i64 r.2.2.2.2.2.1, .int .i64 r.2.2.2.2.2.2.1, .int .u64 r.2.2.2.2.2.2.2.1, .bool r.2.2.2.2.2.2.2.2.1, .bool r.2.2.2.2.2.2.2.2.2.1], .int .i64 r.2.2.2.2.2.2.2.2.2.2]
theorem new_c (lv e p : Int) (g : ByteArray) (iv st : Int) (hlv : isU8 lv) (he : 0 ≤ e ∧ e ≤ 65535) (hp : isU8 p) (w : World) : Calls Try.prog 22 #[.int .u8 lv, .int .u16 e, .int .u8 p, .string g, .int .i64 iv, .int .i64 st] w fun y w' => y = .returned (wVal (wNew lv e p g iv st)) ∧ Below w.heap.size w w' := by
  obtain ⟨k, hk⟩ := ev_new lv e p g iv st hlv he hp
  exact watch_New.calls k lv e p g iv st _ _ _ _ _ _ _ _ _ _ _ w (hk k (Nat.le_refl _))
theorem rnew_c (lv e p : Int) (g : ByteArray) (iv st : Int) (hlv : isU8 lv) (he : 0 ≤ e ∧ e ≤ 65535) (hp : isU8 p) (w : World) : Calls Try.prog 23 #[.agg #[.int .u8 lv, .int .u16 e, .int .u8 p, .string g, .int .i64 iv, .int .i64 0, .int .i64 0, .int .u64 0, .bool false, .bool false], .int .i64 st] w fun y w' => y = .returned (wVal (wNew lv e p g iv st)) ∧ Below w.heap.size w w' := by
  obtain ⟨k, hk⟩ := ev_rnew lv e p g iv st hlv he hp
  exact carouselref09_New.calls k _ _ _ _ _ _ _ _ _ _ _ _ _ _ _ _ _ _ _ _ _ _ w (hk k (Nat.le_refl _))
theorem hear_c (lv e p : Int) (g : ByteArray) (iv h x s : Int) (lost far : Bool) (now : Int) (b : ByteArray) (hb : b.size ≤ 100000) (w : World) : Calls Try.prog 24 #[.agg #[.int .u8 lv, .int .u16 e, .int .u8 p, .string g, .int .i64 iv, .int .i64 h, .int .i64 x, .int .u64 s, .bool lost, .bool far], .int .i64 now, .string b] w fun y w' => y = .returned (wVal (wHear lv e p g iv h x s lost far now (ccmOpen b lv))) ∧ Below w.heap.size w w' := by
  obtain ⟨k, hk⟩ := ev_hear lv e p g iv h x s lost far now b hb
  exact watch_Watch_Hear.calls k _ _ _ _ _ _ _ _ _ _ _ _ _ _ _ _ _ _ _ _ _ _ _ w (hk k (Nat.le_refl _))
theorem rhear_c (lv e p : Int) (g : ByteArray) (iv h x s : Int) (lost far : Bool) (now : Int) (b : ByteArray) (hb : b.size ≤ 100000) (w : World) : Calls Try.prog 25 #[.agg #[.int .u8 lv, .int .u16 e, .int .u8 p, .string g, .int .i64 iv, .int .i64 h, .int .i64 x, .int .u64 s, .bool lost, .bool far], .int .i64 now, .string b] w fun y w' => y = .returned (wVal (wHear lv e p g iv h x s lost far now (ccmOpen b lv))) ∧ Below w.heap.size w w' := by
  obtain ⟨k, hk⟩ := ev_rhear lv e p g iv h x s lost far now b hb
  exact carouselref09_Hear.calls k _ _ _ _ _ _ _ _ _ _ _ _ _ _ _ _ _ _ _ _ _ _ _ w (hk k (Nat.le_refl _))
def tVal (r : Int × Int × Int × ByteArray × Int × Int × Int × Int × Bool × Bool × ByteArray) : Value := .tuple #[.agg #[.int .u8 r.1, .int .u16 r.2.1, .int .u8 r.2.2.1, .string r.2.2.2.1, .int .i64 r.2.2.2.2.1, .int .i64 r.2.2.2.2.2.1, .int .i64 r.2.2.2.2.2.2.1, .int .u64 r.2.2.2.2.2.2.2.1, .bool r.2.2.2.2.2.2.2.2.1, .bool r.2.2.2.2.2.2.2.2.2.1], .string r.2.2.2.2.2.2.2.2.2.2]
theorem tick_c (lv e p : Int) (g : ByteArray) (iv h x s : Int) (lost far : Bool) (now : Int) (hlv : isU8 lv) (he : 0 ≤ e ∧ e ≤ 65535) (hp : isU8 p) (hs : 0 ≤ s) (w : World) : Calls Try.prog 26 #[.agg #[.int .u8 lv, .int .u16 e, .int .u8 p, .string g, .int .i64 iv, .int .i64 h, .int .i64 x, .int .u64 s, .bool lost, .bool far], .int .i64 now] w fun y w' => y = .returned (tVal (wTick lv e p g iv h x s lost far now)) ∧ Below w.heap.size w w' := by
  obtain ⟨k, hk⟩ := ev_tick lv e p g iv h x s lost far now hlv he hp hs
  exact watch_Watch_Tick.calls k _ _ _ _ _ _ _ _ _ _ _ _ _ _ _ _ _ _ _ _ _ _ w (hk k (Nat.le_refl _))
theorem rtick_c (lv e p : Int) (g : ByteArray) (iv h x s : Int) (lost far : Bool) (now : Int) (hlv : isU8 lv) (he : 0 ≤ e ∧ e ≤ 65535) (hp : isU8 p) (hs : 0 ≤ s) (w : World) : Calls Try.prog 27 #[.agg #[.int .u8 lv, .int .u16 e, .int .u8 p, .string g, .int .i64 iv, .int .i64 h, .int .i64 x, .int .u64 s, .bool lost, .bool far], .int .i64 now] w fun y w' => y = .returned (tVal (wTick lv e p g iv h x s lost far now)) ∧ Below w.heap.size w w' := by
  obtain ⟨k, hk⟩ := ev_rtick lv e p g iv h x s lost far now hlv he hp hs
  exact carouselref09_Tick.calls k _ _ _ _ _ _ _ _ _ _ _ _ _ _ _ _ _ _ _ _ _ _ w (hk k (Nat.le_refl _))
theorem two_new (lv e p : Int) (g : ByteArray) (iv st : Int) (hlv : 0 ≤ lv ∧ lv ≤ 255) (he : 0 ≤ e ∧ e ≤ 65535) (hp : 0 ≤ p ∧ p ≤ 255) :
    ∃ (r0 r1 r2 : Int) (r3 : ByteArray) (r4 r5 r6 r7 : Int) (r8 r9 : Bool) (c : Int), (∀ w : World, Calls Try.prog 22 #[.int .u8 lv, .int .u16 e, .int .u8 p, .string g, .int .i64 iv, .int .i64 st] w fun y w' => y = .returned (.tuple #[.agg #[.int .u8 r0, .int .u16 r1, .int .u8 r2, .string r3, .int .i64 r4, .int .i64 r5, .int .i64 r6, .int .u64 r7, .bool r8, .bool r9], .int .i64 c]) ∧ Below w.heap.size w w') ∧ (∀ w : World, Calls Try.prog 23 #[.agg #[.int .u8 lv, .int .u16 e, .int .u8 p, .string g, .int .i64 iv, .int .i64 0, .int .i64 0, .int .u64 0, .bool false, .bool false], .int .i64 st] w fun y w' => y = .returned (.tuple #[.agg #[.int .u8 r0, .int .u16 r1, .int .u8 r2, .string r3, .int .i64 r4, .int .i64 r5, .int .i64 r6, .int .u64 r7, .bool r8, .bool r9], .int .i64 c]) ∧ Below w.heap.size w w') ∧ (c = 0 → lv = r0 ∧ e = r1 ∧ p = r2 ∧ g = r3 ∧ iv = r4 ∧ st = r5 ∧ st = r6 ∧ 0 = r7 ∧ false = r8 ∧ false = r9) := by
  have a1 := fun w => new_c lv e p g iv st (by unfold isU8; omega) he (by unfold isU8; omega) w
  have a2 := fun w => rnew_c lv e p g iv st (by unfold isU8; omega) he (by unfold isU8; omega) w
  have a3 : (wNew lv e p g iv st).2.2.2.2.2.2.2.2.2.2 = 0 → wNew lv e p g iv st = (lv, e, p, g, iv, st, st, 0, false, false, 0) := by
    unfold wNew wNone
    intro hc
    by_cases h0 : (ccmClose false p 0 e g lv).2 = 0
    · rw [if_pos h0] at hc ⊢
      by_cases hb : iv < 1 ∨ iv > 1048576 ∨ st < 0 ∨ st > 1099511627776
      · rw [if_pos hb] at hc; exact absurd hc (by decide)
      · rw [if_neg hb]
    · rw [if_neg h0] at hc; exact absurd hc h0
  generalize wNew lv e p g iv st = r at a1 a2 a3
  obtain ⟨r0, r1, r2, r3, r4, r5, r6, r7, r8, r9, c⟩ := r
  refine ⟨r0, r1, r2, r3, r4, r5, r6, r7, r8, r9, c, a1, a2, fun hc => ?_⟩
  have h := (a3 hc).symm
  simp only [Prod.mk.injEq] at h
  obtain ⟨e0, e1, e2, e3, e4, e5, e6, e7, e8, e9, _⟩ := h
  exact ⟨e0, e1, e2, e3, e4, e5, e6, e7, e8, e9⟩
theorem two_hear (lv e p : Int) (g : ByteArray) (iv h x s : Int) (lost far : Bool) (now : Int) (b : ByteArray) (hb : b.size ≤ 100000) :
    ∃ (h' : Int) (lost' far' : Bool) (c : Int), (∀ w : World, Calls Try.prog 24 #[.agg #[.int .u8 lv, .int .u16 e, .int .u8 p, .string g, .int .i64 iv, .int .i64 h, .int .i64 x, .int .u64 s, .bool lost, .bool far], .int .i64 now, .string b] w fun y w' => y = .returned (.tuple #[.agg #[.int .u8 lv, .int .u16 e, .int .u8 p, .string g, .int .i64 iv, .int .i64 h', .int .i64 x, .int .u64 s, .bool lost', .bool far'], .int .i64 c]) ∧ Below w.heap.size w w') ∧ (∀ w : World, Calls Try.prog 25 #[.agg #[.int .u8 lv, .int .u16 e, .int .u8 p, .string g, .int .i64 iv, .int .i64 h, .int .i64 x, .int .u64 s, .bool lost, .bool far], .int .i64 now, .string b] w fun y w' => y = .returned (.tuple #[.agg #[.int .u8 lv, .int .u16 e, .int .u8 p, .string g, .int .i64 iv, .int .i64 h', .int .i64 x, .int .u64 s, .bool lost', .bool far'], .int .i64 c]) ∧ Below w.heap.size w w') := by
  have a1 := fun w => hear_c lv e p g iv h x s lost far now b hb w
  have a2 := fun w => rhear_c lv e p g iv h x s lost far now b hb w
  obtain ⟨h', lost', far', c, hw⟩ := wHear_shape lv e p g iv h x s lost far now (ccmOpen b lv)
  rw [hw] at a1 a2
  exact ⟨h', lost', far', c, a1, a2⟩
theorem two_tick (lv e p : Int) (g : ByteArray) (iv h x s : Int) (lost far : Bool) (now : Int) (hlv : 0 ≤ lv ∧ lv ≤ 255) (he : 0 ≤ e ∧ e ≤ 65535) (hp : 0 ≤ p ∧ p ≤ 255) (hs : 0 ≤ s) :
    ∃ (x' s' : Int) (lost' : Bool) (out : ByteArray), 0 ≤ s' ∧ (∀ w : World, Calls Try.prog 26 #[.agg #[.int .u8 lv, .int .u16 e, .int .u8 p, .string g, .int .i64 iv, .int .i64 h, .int .i64 x, .int .u64 s, .bool lost, .bool far], .int .i64 now] w fun y w' => y = .returned (.tuple #[.agg #[.int .u8 lv, .int .u16 e, .int .u8 p, .string g, .int .i64 iv, .int .i64 h, .int .i64 x', .int .u64 s', .bool lost', .bool far], .string out]) ∧ Below w.heap.size w w') ∧ (∀ w : World, Calls Try.prog 27 #[.agg #[.int .u8 lv, .int .u16 e, .int .u8 p, .string g, .int .i64 iv, .int .i64 h, .int .i64 x, .int .u64 s, .bool lost, .bool far], .int .i64 now] w fun y w' => y = .returned (.tuple #[.agg #[.int .u8 lv, .int .u16 e, .int .u8 p, .string g, .int .i64 iv, .int .i64 h, .int .i64 x', .int .u64 s', .bool lost', .bool far], .string out]) ∧ Below w.heap.size w w') := by
  have a1 := fun w => tick_c lv e p g iv h x s lost far now (by unfold isU8; omega) he (by unfold isU8; omega) hs w
  have a2 := fun w => rtick_c lv e p g iv h x s lost far now (by unfold isU8; omega) he (by unfold isU8; omega) hs w
  obtain ⟨x', s', lost', out, hs', hw⟩ := wTick_shape lv e p g iv h x s lost far now hs
  rw [hw] at a1 a2
  exact ⟨x', s', lost', out, hs', a1, a2⟩
end Go.Proofs.Ytapicoienpbdfaa.Wx
