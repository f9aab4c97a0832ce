/- The document's Pack, as printed: it comes to the plain word pack. -/
import Derived.Test.YtmdaaphjndjakacPAllx18
import Derived.Test.YtmdaaphjndjakacGvField
namespace Go.Proofs.Ytmdaaphjndjakac.LAll
open Go.RowKit Go.Proofs.Ytmdaaphjndjakac.PAll Go.Proofs.YtmdaaphjndjakacW.PrintWords Go.Proofs.YtmdaaphjndjakacW.PrintLast Go.Proofs.YtmdaaphjndjakacW.PrintMore Go.Proofs.Ytmdaaphjndjakac
set_option linter.unusedVariables false

theorem wrap_id {n : Int} (h0 : -9223372036854775808 ≤ n) (h1 : n ≤ 9223372036854775807) : wrap64 n = n := by unfold wrap64; omega
theorem u64wrap_id {n : Int} (h0 : 0 ≤ n) (h1 : n ≤ 18446744073709551615) : IntKind.u64.wrap n = n := by simp [IntKind.wrap, IntKind.bits, IntKind.signed]; omega
theorem div_pow_range (v : Int) (m : Nat) (h0 : 0 ≤ v) (h1 : v ≤ 18446744073709551615) : 0 ≤ v / 2 ^ m ∧ v / 2 ^ m ≤ 18446744073709551615 :=
  ⟨Int.ediv_nonneg h0 (Int.le_of_lt (Int.pow_pos (by decide))), Int.le_trans (Int.ediv_le_self _ h0) h1⟩
theorem div_pow_succ (v : Int) (m : Nat) : v / 2 ^ m / 2 = v / 2 ^ (m + 1) := by
  rw [Int.ediv_ediv_of_nonneg (Int.le_of_lt (Int.pow_pos (by decide))), Int.pow_succ]

theorem set_mid (d : Nat) (x y : Int) (l : List Int) : (List.replicate (d + 1) x ++ l).set d y = List.replicate d x ++ y :: l := by
  rw [List.replicate_succ', List.append_assoc, List.set_append_right _ _ (by simp)]
  simp

theorem ev_bits_loop (n : Nat) (v : Int) (hn : n ≤ 64) (h0 : 0 ≤ v) (h1 : v ≤ 18446744073709551615) (d : Nat) (hd : d ≤ n) :
    Ev (fun k => carouselref01_bits.l0 k (v / 2 ^ (n - d)) (List.replicate d 0 ++ (Gv.bitsOf n v).drop d) ((d : Int) - 1)) (Gv.bitsOf n v, (v / 2 ^ n == 0)) := by
  induction d with
  | zero =>
    refine Ev.step (f := fun _ => some (Gv.bitsOf n v, (v / 2 ^ n == 0))) (fun k => ?_) (Ev.now _)
    simp [carouselref01_bits.l0]
  | succ d ih =>
    have hlen : (Gv.bitsOf n v).length = n := Gv.bitsOf_length n v
    refine Ev.step (fun k => ?_) (ih (by omega))
    simp only [carouselref01_bits.l0]
    have hx := div_pow_range v (n - (d + 1)) h0 h1
    rw [if_pos (by omega), if_pos (by omega), if_pos (by simp [hlen]; omega)]
    have e1 : IntKind.u64.wrap (Int.tdiv (v / 2 ^ (n - (d + 1))) 2) = v / 2 ^ (n - d) := by
      rw [Int.tdiv_eq_ediv_of_nonneg hx.1, div_pow_succ, show n - (d + 1) + 1 = n - d from by omega]
      have := div_pow_range v (n - d) h0 h1
      exact u64wrap_id this.1 this.2
    have e2 : wrap64 (((d + 1 : Nat) : Int) - 1 - 1) = (d : Int) - 1 := by rw [wrap_id (by omega) (by omega)]; omega
    have e3 : (((d + 1 : Nat) : Int) - 1).toNat = d := by omega
    have e4 : wrap64 (Int.tmod (v / 2 ^ (n - (d + 1))) 2) = (v / 2 ^ (n - 1 - d)) % 2 := by
      rw [Int.tmod_eq_emod_of_nonneg hx.1, wrap_id (by omega) (by omega), show n - (d + 1) = n - 1 - d from by omega]
    have e5 : (Gv.bitsOf n v).drop d = (v / 2 ^ (n - 1 - d)) % 2 :: (Gv.bitsOf n v).drop (d + 1) := by
      rw [List.drop_eq_getElem_cons (by rw [hlen]; omega)]
      simp [Gv.bitsOf]
    rw [e1, e2, e3, e4, set_mid, e5]

theorem ev_bits (n : Nat) (v : Int) (hn : n ≤ 64) (hn1 : 1 ≤ n) (h0 : 0 ≤ v) (h1 : v ≤ 18446744073709551615) : Ev (fun k => carouselref01_bits.f k v n) (Gv.bitsOf n v, (v / 2 ^ n == 0)) := by
  have h := ev_bits_loop n v hn h0 h1 n (Nat.le_refl _)
  refine Ev.congr (fun k => ?_) h
  unfold carouselref01_bits.f
  rw [if_pos (by omega), if_pos (by simp; omega), wrap_id (by omega) (by omega)]
  simp [List.drop_of_length_le (Nat.le_of_eq (Gv.bitsOf_length n v))]

/-- The number of the first j bits. -/
def firstBits (m : List Int) : Nat → Int
  | 0 => 0
  | j + 1 => firstBits m j * 2 + m.getD j 0
theorem firstBits_range {m : List Int} (hb : Gv.IsBits m) (j : Nat) : 0 ≤ firstBits m j ∧ firstBits m j < 2 ^ j := by
  induction j with
  | zero => simp [firstBits]
  | succ j ih =>
    have := Gv.getD_bit hb j
    simp only [firstBits, Int.pow_succ]
    omega
theorem firstBits_byte {m : List Int} (hb : Gv.IsBits m) : firstBits m 8 % 256 = Gv.byteVal m := by
  have h0 := Gv.getD_bit hb 0; have h1 := Gv.getD_bit hb 1; have h2 := Gv.getD_bit hb 2; have h3 := Gv.getD_bit hb 3; have h4 := Gv.getD_bit hb 4; have h5 := Gv.getD_bit hb 5; have h6 := Gv.getD_bit hb 6; have h7 := Gv.getD_bit hb 7
  simp only [firstBits]
  unfold Gv.byteVal
  omega
/-- One byte. -/
theorem ev_byte (all : List Int) (hb : Gv.IsBits all) (hal : all.length ≤ 1000000) (out : List Int) (i : Nat) (hi : i + 8 ≤ all.length) (r : ByteArray × Int) (ho : out.length < 1000000)
    (hk : Ev (fun k => carouselref01_Pack.l1 k all (out ++ [Gv.byteVal (all.drop i)]) ((i : Int) + 8)) r) (d : Nat) : ∀ j : Nat, 8 - j = d → j ≤ 8 →
    Ev (fun k => carouselref01_Pack.l2 k all out i (firstBits (all.drop i) j) (j : Int)) r := by
  induction d with
  | zero =>
    intro j hj hj2
    obtain rfl : j = 8 := by omega
    refine Ev.step (fun k => ?_) hk
    simp only [carouselref01_Pack.l2]
    rw [if_neg (by omega), if_pos (by omega), wrap_id (by omega) (by omega), firstBits_byte (hb.drop i)]
  | succ d ih =>
    intro j hj hj2
    have h := ih (j + 1) (by omega) (by omega)
    have hr := firstBits_range (hb.drop i) j
    have hbit := Gv.getD_bit (hb.drop i) j
    have hp : (2 : Int) ^ j ≤ 2 ^ 7 := by
      have := Nat.pow_le_pow_right (show 0 < 2 by decide) (show j ≤ 7 by omega)
      exact_mod_cast this
    refine Ev.step (fun k => ?_) h
    simp only [carouselref01_Pack.l2]
    have hget : rd all (wrap64 ((i : Int) + j)) = (all.drop i).getD j 0 := by
      rw [wrap_id (by omega) (by omega)]
      unfold rd
      rw [show ((i : Int) + j).toNat = i + j from by omega]
      simp [List.getD_eq_getElem?_getD, List.getElem?_drop]
    rw [if_pos (by omega), if_pos (by rw [wrap_id (by omega) (by omega)]; omega), if_pos (by rw [wrap_id (by omega) (by omega)]; omega), hget]
    rw [wrap_id (n := firstBits (all.drop i) j * 2) (by omega) (by omega), wrap_id (n := firstBits (all.drop i) j * 2 + _) (by omega) (by omega), wrap_id (n := (j : Int) + 1) (by omega) (by omega)]
    rfl

theorem ev_bytes (all : List Int) (hb : Gv.IsBits all) (hal : all.length ≤ 1000000) (h8 : all.length % 8 = 0) (d : Nat) : ∀ j : Nat, all.length / 8 - j = d → j ≤ all.length / 8 →
    Ev (fun k => carouselref01_Pack.l1 k all ((Gv.packB all).take j) ((8 * j : Nat) : Int)) (strOfNums (Gv.packB all), 0) := by
  have hpl : (Gv.packB all).length = all.length / 8 := by rw [Gv.packB_length]; omega
  induction d with
  | zero =>
    intro j hj hj2
    refine Ev.step (f := fun _ => some (strOfNums (Gv.packB all), 0)) (fun k => ?_) (Ev.now _)
    simp only [carouselref01_Pack.l1]
    rw [if_neg (by omega), List.take_of_length_le (by omega)]
  | succ d ih =>
    intro j hj hj2
    have h := ih (j + 1) (by omega) (by omega)
    have htake : (Gv.packB all).take (j + 1) = (Gv.packB all).take j ++ [Gv.byteVal (all.drop (8 * j))] := by
      rw [List.take_succ_eq_append_getElem (by omega)]
      congr 1
      simp [Gv.packB]
    rw [htake, show ((8 * (j + 1) : Nat) : Int) = ((8 * j : Nat) : Int) + 8 from by omega] at h
    have h2 := ev_byte all hb hal ((Gv.packB all).take j) (8 * j) (by omega) _ (by rw [List.length_take]; omega) h 8 0 rfl (by omega)
    refine Ev.step (fun k => ?_) h2
    simp only [carouselref01_Pack.l1]
    rw [if_pos (by omega)]
    rfl

theorem rd_eq {l : List S131} {i : Nat} (h : i < l.length) : rd_T131 l (i : Int) = l[i] := by
  unfold rd_T131
  simp [List.getD_eq_getElem?_getD, h]

def pairs (l : List S131) : List (Int × Int) := l.map fun x => (x.f0, x.f1)
def Wf (l : List S131) : Prop := ∀ x ∈ l, -9223372036854775808 ≤ x.f0 ∧ x.f0 ≤ 9223372036854775807 ∧ 0 ≤ x.f1 ∧ x.f1 ≤ 18446744073709551615

theorem allBits_snoc (l : List (Int × Int)) (k : Nat) (h : k < l.length) : Gv.allBits (l.take (k + 1)) = Gv.allBits (l.take k) ++ Gv.bitsOf (l[k]).1.toNat (l[k]).2 := by
  rw [List.take_succ_eq_append_getElem h]
  simp only [Gv.allBits, List.flatMap_append]
  simp
theorem allBits_len (l : List (Int × Int)) (h : l.all Gv.okPart = true) : (Gv.allBits l).length ≤ 64 * l.length := by
  induction l with
  | nil => simp [Gv.allBits]
  | cons p l ih =>
    simp only [List.all_cons, Bool.and_eq_true] at h
    have := ih h.2
    have hp := h.1
    simp only [Gv.okPart, Bool.and_eq_true, decide_eq_true_eq] at hp
    simp only [Gv.allBits, List.flatMap_cons, List.length_append, Gv.bitsOf_length, List.length_cons] at this ⊢
    omega
theorem allBits_bits (l : List (Int × Int)) : Gv.IsBits (Gv.allBits l) := by
  intro b hb
  simp only [Gv.allBits, List.mem_flatMap] at hb
  obtain ⟨p, _, hb⟩ := hb
  exact Gv.bitsOf_bits _ _ b hb

/-- What the plain word says of parts that are in range. -/
def packR (l : List (Int × Int)) : ByteArray × Int := if l.all Gv.okPart = true then (if (Gv.allBits l).length % 8 = 0 then (strOfNums (Gv.packB (Gv.allBits l)), 0) else (⟨#[]⟩, 3)) else (⟨#[]⟩, 4)

theorem ev_packloop (l : List S131) (hw : Wf l) (hl : l.length ≤ 1000) (d : Nat) : ∀ i : Nat, l.length - i = d → i ≤ l.length → ((pairs l).take i).all Gv.okPart = true →
    Ev (fun k => carouselref01_Pack.l0 k l (Gv.allBits ((pairs l).take i)) (i : Int)) (packR (pairs l)) := by
  have hpl : (pairs l).length = l.length := by simp [pairs]
  induction d with
  | zero =>
    intro i hi hi2 hok
    have hil : i = l.length := by omega
    rw [List.take_of_length_le (by omega)] at hok ⊢
    have hlen := allBits_len _ hok
    by_cases h8 : (Gv.allBits (pairs l)).length % 8 = 0
    · have h := ev_bytes (Gv.allBits (pairs l)) (allBits_bits _) (by omega) h8 _ 0 rfl (by omega)
      have hr : packR (pairs l) = (strOfNums (Gv.packB (Gv.allBits (pairs l))), 0) := by unfold packR; rw [if_pos hok, if_pos h8]
      rw [hr]
      refine Ev.step (fun k => ?_) h
      simp only [carouselref01_Pack.l0]
      rw [if_neg (by omega), if_pos (by omega)]
      simp
    · have hr : packR (pairs l) = (⟨#[]⟩, 3) := by unfold packR; rw [if_pos hok, if_neg h8]
      rw [hr]
      refine Ev.step (f := fun _ => some (⟨#[]⟩, 3)) (fun k => ?_) (Ev.now _)
      simp only [carouselref01_Pack.l0]
      rw [if_neg (by omega), if_neg (by omega)]
  | succ d ih =>
    intro i hi hi2 hok
    have hil : i < l.length := by omega
    have hrd := rd_eq hil
    have hwi := hw l[i] (List.getElem_mem hil)
    have hpi : (pairs l)[i]'(by omega) = (l[i].f0, l[i].f1) := by simp [pairs]
    have hbad : ∀ (hb : Gv.okPart (l[i].f0, l[i].f1) = false), packR (pairs l) = (⟨#[]⟩, 4) := by
      intro hb
      unfold packR
      rw [if_neg]
      intro hall
      have := List.all_eq_true.1 hall (l[i].f0, l[i].f1) (by rw [← hpi]; exact List.getElem_mem _)
      rw [hb] at this
      exact absurd this (by simp)
    generalize hx : l[i].f0 = x at *
    generalize hv : l[i].f1 = v at *
    by_cases hr : 1 ≤ x ∧ x ≤ 64
    · obtain ⟨n, rfl⟩ := Int.eq_ofNat_of_zero_le (show 0 ≤ x by omega)
      have hbits := ev_bits n v (by omega) (by omega) hwi.2.2.1 hwi.2.2.2
      have hstep : ∀ r, Ev (fun k => (carouselref01_bits.f k v n).bind fun bt => (if bt.2 = true then (if (Gv.allBits ((pairs l).take i)).length + bt.1.length < 17592186044416 then (carouselref01_Pack.l0 k l (Gv.allBits ((pairs l).take i) ++ bt.1) (wrap64 ((i : Int) + 1))) else (none)) else (some ((⟨#[]⟩ : ByteArray), 4)))) r →
          Ev (fun k => carouselref01_Pack.l0 k l (Gv.allBits ((pairs l).take i)) (i : Int)) r := by
        intro r h
        refine Ev.step (f := fun k => carouselref01_Pack.j1 k l (Gv.allBits ((pairs l).take i)) (i : Int) false) (fun k => ?_) (Ev.step (fun k => ?_) h)
        · simp only [carouselref01_Pack.l0]
          rw [if_pos (by omega), if_pos (by omega), hrd, hx, if_neg (by omega), show decide ((n : Int) > 64) = false from by simp; omega]
        · simp only [carouselref01_Pack.j1]
          rw [if_neg (by simp), if_pos (by omega), if_pos (by omega), hrd, hx, hv]
      apply hstep
      have hlen := allBits_len _ hok
      by_cases h0 : v / 2 ^ n = 0
      · have hok1 : Gv.okPart ((n : Int), v) = true := by simp [Gv.okPart, h0]; omega
        have hokn : ((pairs l).take (i + 1)).all Gv.okPart = true := by
          rw [List.take_succ_eq_append_getElem (by omega), List.all_append, hok, hpi]
          simp [hok1]
        have h := ih (i + 1) (by omega) (by omega) hokn
        have hsn := allBits_snoc (pairs l) i (by omega)
        rw [hpi, Int.toNat_natCast] at hsn
        simp only at hsn
        rw [hsn] at h
        refine Ev.bind hbits (Ev.congr (fun k => ?_) h)
        simp only [h0, beq_self_eq_true, if_true]
        rw [if_pos (by rw [Gv.bitsOf_length]; have : ((pairs l).take i).length ≤ i := List.length_take_le _ _; omega), wrap_id (by omega) (by omega)]
        rfl
      · have hb : Gv.okPart ((n : Int), v) = false := by
          have h64 : n ≠ 64 := by
            intro e
            subst e
            have := hwi.2.2.2
            have := hwi.2.2.1
            omega
          simp [Gv.okPart, h0]; omega
        rw [hbad hb]
        refine Ev.bind hbits (Ev.congr (fun k => ?_) (Ev.now _))
        have : (v / 2 ^ n == 0) = false := by simpa using h0
        simp only [this]
        rw [if_neg (by simp)]
    · have hb : Gv.okPart (x, v) = false := by
        by_cases h1 : 1 ≤ x
        · have : ¬ x ≤ 64 := fun h => hr ⟨h1, h⟩
          simp [Gv.okPart, this]
        · simp [Gv.okPart, h1]
      rw [hbad hb]
      refine Ev.step (f := fun k => carouselref01_Pack.j1 k l (Gv.allBits ((pairs l).take i)) (i : Int) true) (fun k => ?_) (Ev.step (f := fun _ => some (⟨#[]⟩, 4)) (fun k => ?_) (Ev.now _))
      · simp only [carouselref01_Pack.l0]
        rw [if_pos (by omega), if_pos (by omega), hrd, hx]
        by_cases h1 : x < 1
        · rw [if_pos h1]
        · rw [if_neg h1, show decide (x > 64) = true from by simp; omega]
      · simp only [carouselref01_Pack.j1]
        rw [if_pos trivial]

/-- The document's Pack. -/
theorem ev_refpack (l : List S131) (hw : Wf l) (hl : l.length ≤ 1000) : Ev (fun k => carouselref01_Pack.f k l) (packR (pairs l)) := by
  have h := ev_packloop l hw hl _ 0 rfl (by omega) (by simp)
  simp only [List.take_zero] at h
  exact h

theorem pack_eq (l : List (Int × Int)) (hu : Gv.isU64 l = true) (hl : l.length ≤ 1000000) : Gv.pack l = some (packR l) := by
  unfold Gv.pack packR
  rw [if_pos ⟨hu, hl⟩]
  by_cases h1 : l.all Gv.okPart = true
  · rw [if_pos h1, if_pos h1]
    by_cases h2 : (Gv.allBits l).length % 8 = 0
    · rw [if_pos h2, if_pos h2]; rfl
    · rw [if_neg h2, if_neg h2]; rfl
  · rw [if_neg h1, if_neg h1]; rfl

end Go.Proofs.Ytmdaaphjndjakac.LAll
