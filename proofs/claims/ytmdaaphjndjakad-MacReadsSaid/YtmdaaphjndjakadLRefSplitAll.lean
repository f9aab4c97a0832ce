/- Split, the document's, as printed: it comes to the plain word split. -/
import Derived.Test.YtmdaaphjndjakadLSplitAll
import Derived.Test.YtmdaaphjndjakadPAllx8
namespace Go.Proofs.Ytmdaaphjndjakad.LAll
open Go.RowKit Go.Proofs.Ytmdaaphjndjakad.PAll Go.Proofs.YtmdaaphjndjakadW.PrintWords Go.Proofs.YtmdaaphjndjakadW.PrintLast Go.Proofs.YtmdaaphjndjakadW.PrintMore Go.Proofs.Ytmdaaphjndjakad
set_option linter.unusedVariables false

/-! ### the document's Split -/
theorem set_mid' (d : Nat) (x y : Int) (l : List Int) : (List.replicate (d + 1) x ++ l).set d y = List.replicate d x ++ y :: l := by
  rw [List.replicate_succ', List.append_assoc, List.set_append_right _ _ (by simp)]
  simp
theorem div_succ' (v : Int) (m : Nat) : v / 2 ^ m / 2 = v / 2 ^ (m + 1) := by
  rw [Int.ediv_ediv_of_nonneg (Int.le_of_lt (Int.pow_pos (by decide))), Int.pow_succ]

theorem ev_bits8_loop (v : Int) (h0 : 0 ≤ v) (h1 : v ≤ 255) (d : Nat) (hd : d ≤ 8) :
    Ev (fun k => carouselref01_bits.l0 k (v / 2 ^ (8 - d)) (List.replicate d 0 ++ (Gv.bitsOf 8 v).drop d) ((d : Int) - 1)) (Gv.bitsOf 8 v, (v / 2 ^ 8 == 0)) := by
  induction d with
  | zero =>
    refine Ev.step (f := fun _ => some (Gv.bitsOf 8 v, (v / 2 ^ 8 == 0))) (fun k => ?_) (Ev.now _)
    simp [carouselref01_bits.l0]
  | succ d ih =>
    have hlen : (Gv.bitsOf 8 v).length = 8 := Gv.bitsOf_length 8 v
    refine Ev.step (fun k => ?_) (ih (by omega))
    simp only [carouselref01_bits.l0]
    have hx := div2_range v (8 - (d + 1)) h0 h1
    rw [if_pos (by omega), if_pos (by omega), if_pos (by simp [hlen]; omega)]
    have e1 : IntKind.u64.wrap (Int.tdiv (v / 2 ^ (8 - (d + 1))) 2) = v / 2 ^ (8 - d) := by
      rw [Int.tdiv_eq_ediv_of_nonneg hx.1, div_succ', show 8 - (d + 1) + 1 = 8 - d from by omega]
      have := div2_range v (8 - d) h0 h1
      exact sw_u64 this.1 (by omega)
    have e2 : wrap64 (((d + 1 : Nat) : Int) - 1 - 1) = (d : Int) - 1 := by rw [sw_wrap (by omega) (by omega)]; omega
    have e3 : (((d + 1 : Nat) : Int) - 1).toNat = d := by omega
    have e4 : wrap64 (Int.tmod (v / 2 ^ (8 - (d + 1))) 2) = (v / 2 ^ (8 - 1 - d)) % 2 := by
      rw [Int.tmod_eq_emod_of_nonneg hx.1, sw_wrap (by omega) (by omega), show 8 - (d + 1) = 8 - 1 - d from by omega]
    have e5 : (Gv.bitsOf 8 v).drop d = (v / 2 ^ (8 - 1 - d)) % 2 :: (Gv.bitsOf 8 v).drop (d + 1) := by
      rw [List.drop_eq_getElem_cons (by rw [hlen]; omega)]
      simp [Gv.bitsOf]
    rw [e1, e2, e3, e4, set_mid', e5]
theorem ev_bits8 (v : Int) (h0 : 0 ≤ v) (h1 : v ≤ 255) : Ev (fun k => carouselref01_bits.f k v 8) (Gv.bitsOf 8 v, (v / 2 ^ 8 == 0)) := by
  have h := ev_bits8_loop v h0 h1 8 (Nat.le_refl _)
  refine Ev.congr (fun k => ?_) h
  unfold carouselref01_bits.f
  rw [if_pos (by omega), if_pos (by decide), sw_wrap (by omega) (by omega)]
  rw [List.drop_of_length_le (Nat.le_of_eq (Gv.bitsOf_length 8 v)), List.append_nil]
  simp only [Nat.sub_self, Int.pow_zero, Int.ediv_one]
  rfl

/-- One part. -/
theorem ev_rpart (s : ByteArray) (hs : s.size ≤ 100000) (n : Int) (all out ws : List Int) (hall : Gv.IsBits all) (hal : all.length ≤ 800000) (i : Nat) (hi : i < ws.length) (hil : ws.length ≤ 1000) (at_ w : Nat) (hw : w ≤ 64) (hwi : ws[i] = (w : Int)) (ha : at_ + w ≤ all.length) (hout : out.length ≤ 1000) (r : List Int × ByteArray × Int)
    (hk : Ev (fun k => carouselref01_Split.l2 k s ws n all (out ++ [Gv.valOf ((all.drop at_).take w)]) ((at_ + w : Nat) : Int) ((i + 1 : Nat) : Int)) r) (d : Nat) :
    ∀ j : Nat, w - j = d → j ≤ w → Ev (fun k => carouselref01_Split.l3 k s ws n all out (at_ : Int) (i : Int) (Gv.valOf ((all.drop at_).take j)) (j : Int)) r := by
  induction d with
  | zero =>
    intro j hj hj2
    obtain rfl : j = w := by omega
    refine Ev.step (fun k => ?_) hk
    simp only [carouselref01_Split.l3]
    rw [if_pos (by omega), if_pos (by omega), sw_rd hi, hwi, if_neg (by omega), if_pos (by omega), sw_wrap (by omega) (by omega), sw_wrap (by omega) (by omega)]
    rfl
  | succ d ih =>
    intro j hj hj2
    have h := ih (j + 1) (by omega) (by omega)
    have hjl : j < (all.drop at_).length := by rw [List.length_drop]; omega
    rw [valOf_take_succ hjl, List.getElem_drop] at h
    have hbits : Gv.IsBits ((all.drop at_).take j) := fun b hb => hall b (List.mem_of_mem_drop (List.mem_of_mem_take hb))
    have hv := Gv.valOf_range hbits
    have hlj : ((all.drop at_).take j).length = j := by rw [List.length_take]; omega
    rw [hlj] at hv
    have hp := pow_le_63 (show j ≤ 63 by omega)
    have hbt := hall (all[at_ + j]'(by omega)) (List.getElem_mem _)
    have hrd : rd all (wrap64 ((at_ : Int) + j)) = all[at_ + j]'(by omega) := by
      rw [sw_wrap (by omega) (by omega), show (at_ : Int) + j = ((at_ + j : Nat) : Int) from by omega]; exact sw_rd _
    refine Ev.step (fun k => ?_) h
    simp only [carouselref01_Split.l3]
    rw [if_pos (by omega), if_pos (by omega), sw_rd hi, hwi, if_pos (by omega), if_pos (by rw [sw_wrap (by omega) (by omega)]; omega), if_pos (by rw [sw_wrap (by omega) (by omega)]; omega), hrd]
    clear hrd
    obtain ⟨b, hb⟩ : ∃ b, all[at_ + j]'(by omega) = b := ⟨_, rfl⟩
    rw [hb] at hbt ⊢
    clear hb
    generalize Gv.valOf ((all.drop at_).take j) = x at hv ⊢
    rw [sw_u64 (n := b) (by omega) (by omega), sw_u64 (n := x * 2) (by omega) (by omega), sw_u64 (by omega) (by omega), sw_wrap (by omega) (by omega)]
    rfl

theorem ev_rparts (s : ByteArray) (hs : s.size ≤ 100000) (ws all : List Int) (hall : Gv.IsBits all) (hl : ws.length ≤ 1000) (hok : Gv.okW ws = true) (h8 : Gv.sumW ws % 8 = 0) (hsz : Gv.sumW ws / 8 ≤ (s.size : Int)) (hal : (all.length : Int) = Gv.sumW ws) (d : Nat) :
    ∀ i : Nat, ws.length - i = d → i ≤ ws.length →
    Ev (fun k => carouselref01_Split.l2 k s ws (Gv.sumW ws) all (Gv.vals all (ws.take i)) (Gv.sumW (ws.take i)) (i : Int)) (Gv.vals all ws, s.extract (Gv.sumW ws / 8).toNat s.size, 0) := by
  have hb := sum_bound ws hok
  have e1 : wrap64 (Int.tdiv (Gv.sumW ws) 8) = Gv.sumW ws / 8 := by rw [Int.tdiv_eq_ediv_of_nonneg hb.1, sw_wrap (by omega) (by omega)]
  induction d with
  | zero =>
    intro i hi hi2
    rw [List.take_of_length_le (by omega)]
    refine Ev.step (f := fun _ => some (Gv.vals all ws, s.extract (Gv.sumW ws / 8).toNat s.size, 0)) (fun k => ?_) (Ev.now _)
    simp only [carouselref01_Split.l2]
    rw [if_neg (by omega), e1, if_pos (by omega), if_pos (by omega)]
  | succ d ih =>
    intro i hi hi2
    have hil : i < ws.length := by omega
    have h := ih (i + 1) (by omega) (by omega)
    have hwi := okW_get hok hil
    have hok2 := okW_take hok i
    have hb2 := sum_bound _ hok2
    have hle := sum_take_le ws hok i hil
    rw [sw_take hil, vals_snoc _ _ hok2, sum_snoc] at h
    obtain ⟨a, ha⟩ := Int.eq_ofNat_of_zero_le hb2.1
    obtain ⟨w, hw⟩ := Int.eq_ofNat_of_zero_le (show 0 ≤ ws[i] by omega)
    rw [hw, ha, Int.toNat_natCast, Int.toNat_natCast] at h
    have hp := ev_rpart s hs (Gv.sumW ws) all (Gv.vals all (ws.take i)) ws hall (by omega) i hil hl a w (by omega) hw (by omega) (by rw [vals_length, List.length_take]; omega) _ h w 0 rfl (by omega)
    refine Ev.step (fun k => ?_) hp
    simp only [carouselref01_Split.l2]
    rw [if_pos (by omega), ha]
    rfl

/-- The bits of the first bytes. -/
def firstB (s : ByteArray) (m : Nat) : List Int := ((bytesOf s).take m).flatMap fun b => Gv.bitsOf 8 b
theorem firstB_snoc (s : ByteArray) (m : Nat) (h : m < s.size) : firstB s (m + 1) = firstB s m ++ Gv.bitsOf 8 (bt s (m : Int)) := by
  unfold firstB
  have hl : m < (bytesOf s).length := by rw [bytesOf_length]; exact h
  rw [List.take_succ_eq_append_getElem hl, List.flatMap_append]
  congr 1
  have : (bytesOf s)[m] = bt s (m : Int) := by rw [← rd_bytesOf]; unfold rd; simp [List.getD_eq_getElem?_getD, hl]
  simp [this]
theorem firstB_bits (s : ByteArray) (m : Nat) : Gv.IsBits (firstB s m) := by
  intro b hb
  simp only [firstB, List.mem_flatMap] at hb
  obtain ⟨p, _, hb⟩ := hb
  exact Gv.bitsOf_bits _ _ b hb
theorem firstB_take (s : ByteArray) (m : Nat) : firstB s m = (Gv.sBits s).take (8 * m) := by
  have key : ∀ (l : List Int) (m : Nat), ((l.take m).flatMap fun b => Gv.bitsOf 8 b) = (l.flatMap fun b => Gv.bitsOf 8 b).take (8 * m) := by
    intro l
    induction l with
    | nil => intro m; simp
    | cons b l ih =>
      intro m
      cases m with
      | zero => simp
      | succ m =>
        rw [List.take_succ_cons, List.flatMap_cons, List.flatMap_cons, ih, List.take_append, Gv.bitsOf_length, List.take_of_length_le (l := Gv.bitsOf 8 b) (by rw [Gv.bitsOf_length]; omega), show 8 * (m + 1) - 8 = 8 * m from by omega]
  exact key _ m
theorem firstB_length (s : ByteArray) (m : Nat) (h : m ≤ s.size) : (firstB s m).length = 8 * m := by
  rw [firstB_take, List.length_take, Gv.sBits_length]; omega

theorem ev_rbytes (s : ByteArray) (hs : s.size ≤ 100000) (ws : List Int) (n : Int) (m : Nat) (hn : wrap64 (Int.tdiv n 8) = (m : Int)) (hm : m ≤ s.size) (r : List Int × ByteArray × Int)
    (hk : Ev (fun k => carouselref01_Split.l2 k s ws n (firstB s m) ([] : List Int) 0 0) r) (d : Nat) :
    ∀ i : Nat, m - i = d → i ≤ m → Ev (fun k => carouselref01_Split.l1 k s ws n (firstB s i) (i : Int)) r := by
  induction d with
  | zero =>
    intro i hi hi2
    obtain rfl : i = m := by omega
    refine Ev.step (fun k => ?_) hk
    simp only [carouselref01_Split.l1]
    rw [hn, if_neg (by omega)]
  | succ d ih =>
    intro i hi hi2
    have h := ih (i + 1) (by omega) (by omega)
    have hbt := bt_range s (i : Int)
    have hb8 := ev_bits8 (bt s (i : Int)) hbt.1 hbt.2
    have hfl := firstB_length s i (by omega)
    rw [firstB_snoc s i (by omega)] at h
    refine Ev.step (fun k => ?_) (Ev.bind hb8 (f := fun k bt => (if (firstB s i).length + bt.1.length < 17592186044416 then (carouselref01_Split.l1 k s ws n (firstB s i ++ bt.1) (wrap64 ((i : Int) + 1))) else (none))) (Ev.congr (fun k => ?_) h))
    · simp only [carouselref01_Split.l1]
      rw [hn, if_pos (by omega), if_pos (by omega), if_pos (by omega), sw_u64 hbt.1 (by omega)]
    · simp only
      rw [if_pos (by rw [Gv.bitsOf_length]; omega), sw_wrap (by omega) (by omega)]
      rfl

theorem vals_take (ws : List Int) (hok : Gv.okW ws = true) : ∀ (bits : List Int) (m : Nat), Gv.sumW ws ≤ (m : Int) → Gv.vals (bits.take m) ws = Gv.vals bits ws := by
  induction ws with
  | nil => intro bits m _; rfl
  | cons x ws ih =>
    intro bits m hm
    simp only [Gv.okW, List.all_cons, Bool.and_eq_true, decide_eq_true_eq] at hok
    have hb := sum_bound ws (by simp only [Gv.okW]; exact hok.2)
    have hs : Gv.sumW (x :: ws) = x + Gv.sumW ws := by
      have : ∀ (l : List Int) (c : Int), l.foldl (· + ·) c = c + l.foldl (· + ·) 0 := by
        intro l
        induction l with
        | nil => intro c; simp
        | cons y l ih2 => intro c; rw [List.foldl_cons, ih2, List.foldl_cons, ih2 (0 + y)]; omega
      unfold Gv.sumW
      rw [List.foldl_cons, this]; omega
    simp only [Gv.vals]
    rw [List.take_take, Nat.min_eq_left (by omega), List.drop_take, ih (by simp only [Gv.okW]; exact hok.2) _ _ (by omega)]

theorem ev_rsplit_loop (s : ByteArray) (hs : s.size ≤ 100000) (ws : List Int) (hl : ws.length ≤ 1000) (d : Nat) : ∀ i : Nat, ws.length - i = d → i ≤ ws.length → Gv.okW (ws.take i) = true →
    Ev (fun k => carouselref01_Split.l0 k s ws (Gv.sumW (ws.take i)) (i : Int)) (Gv.split s ws) := by
  induction d with
  | zero =>
    intro i hi hi2 hok
    rw [List.take_of_length_le (by omega)] at hok ⊢
    have hb := sum_bound ws hok
    have e1 : wrap64 (Int.tdiv (Gv.sumW ws) 8) = Gv.sumW ws / 8 := by rw [Int.tdiv_eq_ediv_of_nonneg hb.1, sw_wrap (by omega) (by omega)]
    have e2 : Int.tmod (Gv.sumW ws) 8 = Gv.sumW ws % 8 := Int.tmod_eq_emod_of_nonneg hb.1
    unfold Gv.split
    rw [if_pos hok]
    by_cases h8 : Gv.sumW ws % 8 = 0
    · rw [if_pos h8]
      by_cases hz : Gv.sumW ws / 8 > (s.size : Int)
      · rw [if_pos hz]
        refine Ev.step (f := fun _ => some (([] : List Int), (⟨#[]⟩ : ByteArray), 1)) (fun k => ?_) (Ev.now _)
        simp only [carouselref01_Split.l0]
        rw [if_neg (by omega), e2, if_pos h8, e1, if_pos hz]
      · rw [if_neg hz]
        obtain ⟨m, hm⟩ := Int.eq_ofNat_of_zero_le (show 0 ≤ Gv.sumW ws / 8 by omega)
        have hfl := firstB_length s m (by omega)
        have h2 := ev_rparts s hs ws (firstB s m) (firstB_bits s m) hl hok h8 (by omega) (by rw [hfl]; omega) _ 0 rfl (by omega)
        have hv : Gv.vals (firstB s m) ws = Gv.vals (Gv.sBits s) ws := by rw [firstB_take]; exact vals_take ws hok _ _ (by omega)
        rw [hv] at h2
        have h := ev_rbytes s hs ws (Gv.sumW ws) m (by rw [e1, hm]) (by omega) _ h2 _ 0 rfl (by omega)
        refine Ev.step (fun k => ?_) h
        simp only [carouselref01_Split.l0]
        rw [if_neg (by omega), e2, if_pos h8, e1, if_neg hz]
        rfl
    · rw [if_neg h8]
      refine Ev.step (f := fun _ => some (([] : List Int), (⟨#[]⟩ : ByteArray), 3)) (fun k => ?_) (Ev.now _)
      simp only [carouselref01_Split.l0]
      rw [if_neg (by omega), e2, if_neg h8]
  | succ d ih =>
    intro i hi hi2 hok
    have hil : i < ws.length := by omega
    have hb := sum_bound _ hok
    have hlt : ((ws.take i).length : Int) ≤ i := by have := List.length_take_le i ws; omega
    by_cases hm : 1 ≤ ws[i] ∧ ws[i] ≤ 64
    · have hokn : Gv.okW (ws.take (i + 1)) = true := by
        rw [sw_take hil]; simp only [Gv.okW, List.all_append, Bool.and_eq_true]
        exact ⟨hok, by simp [hm.1, hm.2]⟩
      have h := ih (i + 1) (by omega) (by omega) hokn
      rw [sw_take hil, sum_snoc] at h
      refine Ev.step (fun k => ?_) h
      simp only [carouselref01_Split.l0]
      rw [if_pos (by omega), if_pos (by omega), sw_rd hil, if_neg (by omega), if_neg (by omega), sw_wrap (by omega) (by omega), sw_wrap (by omega) (by omega)]
      rfl
    · have hbad : ¬ Gv.okW ws = true := fun h => hm (okW_get h hil)
      unfold Gv.split
      rw [if_neg hbad]
      refine Ev.step (f := fun _ => some (([] : List Int), (⟨#[]⟩ : ByteArray), 4)) (fun k => ?_) (Ev.now _)
      simp only [carouselref01_Split.l0]
      rw [if_pos (by omega), if_pos (by omega), sw_rd hil]
      by_cases h1 : ws[i] < 1
      · rw [if_pos h1]
      · rw [if_neg h1, if_pos (by omega)]

/-- The document's Split. -/
theorem ev_refsplit (s : ByteArray) (hs : s.size ≤ 100000) (ws : List Int) (hl : ws.length ≤ 1000) : Ev (fun k => carouselref01_Split.f k s ws) (Gv.split s ws) :=
  ev_rsplit_loop s hs ws hl _ 0 rfl (by omega) (by simp [Gv.okW])

end Go.Proofs.Ytmdaaphjndjakad.LAll
