/- Layer 5, the program's: what is wrong with a message, and its bytes, come to plain words. -/
import Derived.Test.YtmdaaphjndjakadLOamCloseAll
import Derived.Test.YtmdaaphjndjakadGvRaps
import Derived.Test.YtmdaaphjndjakadGvBit
import Derived.Test.YtmdaaphjndjakadPAllx13
namespace Go.Proofs.Ytmdaaphjndjakad.LAll
open Go.RowKit Go.Proofs.Ytmdaaphjndjakad.PAll Go.Proofs.YtmdaaphjndjakadW.PrintWords Go.Proofs.YtmdaaphjndjakadW.PrintLast Go.Proofs.YtmdaaphjndjakadW.PrintMore Go.Proofs.Ytmdaaphjndjakad
set_option linter.unusedVariables false

theorem rp_wrap {n : Int} (h0 : -9223372036854775808 ≤ n) (h1 : n ≤ 9223372036854775807) : wrap64 n = n := by unfold wrap64; omega
def bitParts (l : List Bool) : List S81 := l.map fun b => (⟨1, Gv.bi b⟩ : S81)
theorem rb_loop (l : List Bool) (hl : l.length ≤ 1000) (d : Nat) : ∀ i : Nat, l.length - i = d → i ≤ l.length →
    Ev (fun k => raps_bits.l0 k (bitParts (l.take i)) l (l.length : Int) (i : Int)) (bitParts l) := by
  induction d with
  | zero =>
    intro i hi hi2
    rw [List.take_of_length_le (by omega)]
    refine Ev.step (f := fun _ => some (bitParts l)) (fun k => ?_) (Ev.now _)
    simp only [raps_bits.l0]
    rw [if_neg (by omega)]
  | succ d ih =>
    intro i hi hi2
    have hi3 : i < l.length := by omega
    have h := ih (i + 1) (by omega) (by omega)
    rw [List.take_succ_eq_append_getElem hi3] at h
    refine Ev.step (fun k => ?_) h
    simp only [raps_bits.l0]
    have hrd : rdOf false l (i : Int) = l[i] := by unfold rdOf; simp [List.getD_eq_getElem?_getD, hi3]
    have hlen : (bitParts (l.take i)).length < 8796093022208 := by unfold bitParts; rw [List.length_map, List.length_take]; omega
    rw [if_pos (by omega), if_pos (by omega), if_pos (by omega), hrd, if_pos hlen, if_pos hlen, rp_wrap (by omega) (by omega)]
    unfold bitParts
    rw [List.map_append, List.map_cons, List.map_nil]
    cases l[i] <;> rfl
theorem ev_rbits (l : List Bool) (hl : l.length ≤ 1000) : Ev (fun k => raps_bits.f k l) (bitParts l) := rb_loop l hl _ 0 rfl (by omega)

theorem oc_u64' {n : Int} (h0 : 0 ≤ n) (h1 : n ≤ 18446744073709551615) : IntKind.u64.wrap n = n := by simp [IntKind.wrap, IntKind.bits, IntKind.signed]; omega
theorem may_mac (n : Int) : mac_Addr_May.f n = some (decide (n < 281474976710656)) := by
  unfold mac_Addr_May.f
  have : (n ≤ 281474976710655) = (n < 281474976710656) := by apply propext; omega
  simp [this]
theorem group_mac (n : Int) (h0 : 0 ≤ n) (h1 : n < 281474976710656) : mac_Addr_Group.f n = some (n / 1099511627776 % 2 == 1) := by
  unfold mac_Addr_Group.f
  rw [may_mac, Option.bind_some, if_pos (by simpa using h1), Gv.and_one _ (by omega) (by omega)]

def rangeWrong (n : Int) : Int := if n < 281474976710656 ∧ n / 1099511627776 % 2 = 0 then 0 else 4
theorem ev_rw2 (r : Int) (b k1 e : Bool) (n : Int) (h0 : 0 ≤ n) : Ev (fun k => raps_Msg_wrong.j2 k r b k1 e n) (rangeWrong n) := by
  refine Ev.step (f := fun _ => some (rangeWrong n)) (fun k => ?_) (Ev.now _)
  simp only [raps_Msg_wrong.j2]
  unfold rangeWrong
  rw [may_mac, Option.bind_some]
  by_cases h : n < 281474976710656
  · rw [if_pos (by simpa using h), group_mac n h0 h, Option.bind_some]
    by_cases h2 : n / 1099511627776 % 2 = 0
    · rw [if_neg (by simp [h2]), if_pos ⟨h, h2⟩]
    · rw [if_pos (by simp; omega), if_neg (by omega)]
  · rw [if_neg (by simpa using h), if_neg (by omega)]
theorem ev_rw1 (r : Int) (b k1 e : Bool) (n : Int) (h0 : 0 ≤ n) : Ev (fun k => raps_Msg_wrong.j1 k r b k1 e n) (if b = true then 3 else rangeWrong n) := by
  have h := ev_rw2 r b k1 e n h0
  by_cases hb : b = true
  · rw [if_pos hb]
    refine Ev.step (f := fun _ => some 3) (fun k => ?_) (Ev.now _)
    simp only [raps_Msg_wrong.j1]
    rw [if_pos hb]
  · rw [if_neg hb]
    refine Ev.step (fun k => ?_) h
    simp only [raps_Msg_wrong.j1]
    rw [if_neg hb]
theorem ev_rwrong (r : Int) (b k1 e : Bool) (n : Int) (h0 : 0 ≤ n) : Ev (fun k => raps_Msg_wrong.f k r b k1 e n) (Gv.rapsWrong r b n) := by
  have h1 := ev_rw1 r b k1 e n h0
  have h2 := ev_rw2 r b k1 e n h0
  by_cases c7 : r = 7
  · have e7 : Gv.rapsWrong r b n = if b = true then 3 else rangeWrong n := by
      unfold Gv.rapsWrong rangeWrong; rw [if_pos (by omega)]
      by_cases hb : b = true
      · rw [if_pos ⟨hb, by omega⟩, if_pos hb]
      · rw [if_neg (fun h => hb h.1), if_neg hb]
    rw [e7]
    refine Ev.congr (fun k => ?_) h1
    unfold raps_Msg_wrong.f; rw [if_pos c7]
  by_cases c11 : r = 11
  · have e7 : Gv.rapsWrong r b n = if b = true then 3 else rangeWrong n := by
      unfold Gv.rapsWrong rangeWrong; rw [if_pos (by omega)]
      by_cases hb : b = true
      · rw [if_pos ⟨hb, by omega⟩, if_pos hb]
      · rw [if_neg (fun h => hb h.1), if_neg hb]
    rw [e7]
    refine Ev.congr (f := fun k => raps_Msg_wrong.j0 k r true r b k1 e n) (fun k => ?_) (Ev.step (fun k => ?_) h1)
    · unfold raps_Msg_wrong.f; rw [if_neg c7, if_pos c11, show (r == 11) = true from by simpa using c11]
    · simp only [raps_Msg_wrong.j0]; rw [if_pos trivial]
  by_cases c13 : r = 13
  · have e7 : Gv.rapsWrong r b n = if b = true then 3 else rangeWrong n := by
      unfold Gv.rapsWrong rangeWrong; rw [if_pos (by omega)]
      by_cases hb : b = true
      · rw [if_pos ⟨hb, by omega⟩, if_pos hb]
      · rw [if_neg (fun h => hb h.1), if_neg hb]
    rw [e7]
    refine Ev.congr (f := fun k => raps_Msg_wrong.j0 k r true r b k1 e n) (fun k => ?_) (Ev.step (fun k => ?_) h1)
    · unfold raps_Msg_wrong.f; rw [if_neg c7, if_neg c11, show (r == 13) = true from by simpa using c13]
    · simp only [raps_Msg_wrong.j0]; rw [if_pos trivial]
  have ef : ∀ k, raps_Msg_wrong.f k r b k1 e n = raps_Msg_wrong.j0 k r false r b k1 e n := by
    intro k
    unfold raps_Msg_wrong.f; rw [if_neg c7, if_neg c11, show (r == 13) = false from by simpa using c13]
  by_cases c0 : r = 0
  · have e7 : Gv.rapsWrong r b n = rangeWrong n := by
      unfold Gv.rapsWrong rangeWrong; rw [if_pos (by omega), if_neg (fun h => h.2 c0)]
    rw [e7]
    refine Ev.congr ef (Ev.step (fun k => ?_) h2)
    simp only [raps_Msg_wrong.j0]; rw [if_neg (by simp), if_pos c0]
  · have e7 : Gv.rapsWrong r b n = 8 := by
      unfold Gv.rapsWrong; rw [if_neg (by omega)]
    rw [e7]
    refine Ev.congr ef (Ev.step (f := fun _ => some 8) (fun k => ?_) (Ev.now _))
    simp only [raps_Msg_wrong.j0]; rw [if_neg (by simp), if_neg c0]

/-- A message's bytes, or what is wrong. -/
def rapsClose (r : Int) (b k e : Bool) (n lv : Int) : ByteArray × Int :=
  if lv > 7 then (⟨#[]⟩, 4) else if Gv.rapsWrong r b n = 0 then oamClose lv 1 40 0 32 (Gv.rapsBody r b k e n) else (⟨#[]⟩, Gv.rapsWrong r b n)
theorem wrong_zero {r : Int} {b : Bool} {n : Int} (h : Gv.rapsWrong r b n = 0) : (r = 0 ∨ r = 7 ∨ r = 11 ∨ r = 13) ∧ n < 281474976710656 := by
  unfold Gv.rapsWrong at h
  by_cases h1 : r = 0 ∨ r = 7 ∨ r = 11 ∨ r = 13
  · rw [if_pos h1] at h
    refine ⟨h1, ?_⟩
    by_cases h2 : b = true ∧ r ≠ 0
    · rw [if_pos h2] at h; omega
    · rw [if_neg h2] at h
      by_cases h3 : n < 281474976710656 ∧ n / 1099511627776 % 2 = 0
      · exact h3.1
      · rw [if_neg h3] at h; omega
  · rw [if_neg h1] at h; omega
theorem ev_raps_close (r : Int) (b kp e : Bool) (n lv : Int) (hr : isU8 r) (h0 : 0 ≤ n) (hlv : isU8 lv) : Ev (fun k => raps_Close.f k r b kp e n lv) (rapsClose r b kp e n lv) := by
  unfold rapsClose
  by_cases hl : lv > 7
  · rw [if_pos hl]
    refine Ev.congr (f := fun _ => some ((⟨#[]⟩ : ByteArray), 4)) (fun k => ?_) (Ev.now _)
    unfold raps_Close.f; rw [if_pos hl]
  · rw [if_neg hl]
    have hw := ev_rwrong r b kp e n h0
    have hb := ev_rbits [b, kp, e] (by simp)
    by_cases h : Gv.rapsWrong r b n = 0
    · rw [if_pos h]
      rw [h] at hw
      have hz := wrong_zero h
      have hbody := Gv.pack_raps r b kp e n hr.1 (by omega) h0 hz.2
      have hpk : field_Pack.f ((([(⟨4, IntKind.u64.wrap r⟩ : S81), (⟨4, 0⟩ : S81)] : List S81) ++ bitParts [b, kp, e]) ++ ([(⟨5, 0⟩ : S81), (⟨48, n⟩ : S81), (⟨64, 0⟩ : S81), (⟨64, 0⟩ : S81), (⟨64, 0⟩ : S81)] : List S81)) = some (Gv.rapsBody r b kp e n, 0) := by
        rw [oc_u64 hr]
        exact hbody
      have hoc := oam_close lv 1 40 0 32 (Gv.rapsBody r b kp e n) (by rw [Gv.rapsBody_size]; omega) hlv (by unfold isU8; omega) (by unfold isU8; omega) (by unfold isU8; omega) (by unfold isU8; omega)
      simp only [raps_Close.f, if_neg hl]
      refine Ev.bind hw ?_
      simp only [if_true, Option.bind_some]
      refine Ev.bind hb ?_
      refine Ev.congr (fun k => ?_) (Ev.now _)
      have hbl : (bitParts [b, kp, e]).length = 3 := rfl
      rw [if_pos (by rw [hbl]; simp), if_pos (by rw [List.length_append, hbl]; simp), hpk]
      simp only [Option.bind_some]
      rw [if_pos trivial, hoc]
      rfl
    · rw [if_neg h]
      simp only [raps_Close.f, if_neg hl]
      refine Ev.bind hw ?_
      simp only [if_neg h]
      exact Ev.now _

end Go.Proofs.Ytmdaaphjndjakad.LAll
