/- Layer 5, the document's: it comes to the same plain words. -/
import Derived.Test.YtmdaaphjndjakadLRapsAll
import Derived.Test.YtmdaaphjndjakadLOamRefCloseAll
import Derived.Test.YtmdaaphjndjakadLFieldAll
import Derived.Test.YtmdaaphjndjakadPAllx19
namespace Go.Proofs.Ytmdaaphjndjakad.LAll
open Go.RowKit Go.Proofs.Ytmdaaphjndjakad.PAll Go.Proofs.YtmdaaphjndjakadW.PrintWords Go.Proofs.YtmdaaphjndjakadW.PrintLast Go.Proofs.YtmdaaphjndjakadW.PrintMore Go.Proofs.Ytmdaaphjndjakad
set_option linter.unusedVariables false

theorem may_ref (n : Int) : carouselref02_May.f n = some (decide (n < 281474976710656)) := rfl
theorem group_ref (n : Int) (h0 : 0 ≤ n) (h1 : n < 281474976710656) : carouselref02_Group.f n = some (n / 1099511627776 % 2 == 1) := by
  unfold carouselref02_Group.f
  rw [may_ref, Option.bind_some, if_pos (by simpa using h1), Int.tdiv_eq_ediv_of_nonneg h0, oc_u64' (by omega) (by omega), Int.tmod_eq_emod_of_nonneg (by omega)]
theorem ev_refbytes (n : Int) (h0 : 0 ≤ n) (h1 : n < 281474976710656) : Ev (fun k => carouselref02_Bytes.f k n) (strOfNums (Gv.packB (Gv.bitsOf 48 n))) := by
  have hp := ev_refpack [(⟨48, n⟩ : S106)] (by intro x hx; simp at hx; subst hx; exact ⟨by show (-9223372036854775808 : Int) ≤ 48; decide, by show (48 : Int) ≤ 9223372036854775807; decide, h0, by show n ≤ _; omega⟩) (by simp)
  have he := pack_eq [(48, n)] (by simp only [Gv.isU64, List.all_cons, List.all_nil, Bool.and_true, Bool.and_eq_true, decide_eq_true_eq]; unfold Gv.u64max; omega) (by simp)
  rw [Gv.pack_addr n h0 h1] at he
  have e : packR (pairs [(⟨48, n⟩ : S106)]) = (strOfNums (Gv.packB (Gv.bitsOf 48 n)), 0) := (Option.some.inj he).symm
  rw [e] at hp
  simp only [carouselref02_Bytes.f, may_ref, Option.bind_some, decide_eq_true h1, if_true, carouselref01_Put.f]
  have ew : wrap64 (8 * 6) = 48 := (rp_wrap (n := 8 * 6) (by decide) (by decide)).trans (by decide)
  rw [ew]
  exact Ev.bind (Ev.bind hp (f := fun k b => some b.1) (Ev.now _)) (f := fun k t => some t) (Ev.now _)

theorem ev_rf1 (c : Bool) (r : Int) (b k1 e : Bool) (n : Int) (h0 : 0 ≤ n) : Ev (fun k => carouselref05_wrong.j1 k c r b k1 e n) (if c = true then 3 else rangeWrong n) := by
  by_cases hb : c = true
  · rw [if_pos hb]
    refine Ev.step (f := fun _ => some 3) (fun k => ?_) (Ev.now _)
    simp only [carouselref05_wrong.j1]
    rw [if_pos hb]
  · rw [if_neg hb]
    refine Ev.step (f := fun _ => some (rangeWrong n)) (fun k => ?_) (Ev.now _)
    simp only [carouselref05_wrong.j1]
    unfold rangeWrong
    rw [if_neg hb, may_ref, Option.bind_some]
    by_cases h : n < 281474976710656
    · rw [if_pos (by simpa using h), group_ref n h0 h, Option.bind_some]
      by_cases h2 : n / 1099511627776 % 2 = 0
      · rw [if_neg (by simp [h2]), if_pos ⟨h, h2⟩]
      · rw [if_pos (by simp; omega), if_neg (by omega)]
    · rw [if_neg (by simpa using h), if_neg (by omega)]
theorem ev_rf0 (c : Bool) (r : Int) (b k1 e : Bool) (n : Int) (h0 : 0 ≤ n) (hc : c = false ↔ (r = 0 ∨ r = 7 ∨ r = 11 ∨ r = 13)) : Ev (fun k => carouselref05_wrong.j0 k c r b k1 e n) (Gv.rapsWrong r b n) := by
  cases c with
  | true =>
    have hn : ¬ (r = 0 ∨ r = 7 ∨ r = 11 ∨ r = 13) := fun h => by have := hc.2 h; cases this
    unfold Gv.rapsWrong
    rw [if_neg hn]
    refine Ev.step (f := fun _ => some 8) (fun k => ?_) (Ev.now _)
    simp only [carouselref05_wrong.j0]
    rw [if_pos trivial]
  | false =>
    have hp := hc.1 rfl
    unfold Gv.rapsWrong
    rw [if_pos hp]
    by_cases hb : b = true
    · have h := ev_rf1 (r != 0) r b k1 e n h0
      have e1 : (if b = true ∧ r ≠ 0 then 3 else if n < 281474976710656 ∧ n / 1099511627776 % 2 = 0 then 0 else 4 : Int) = if (r != 0) = true then 3 else rangeWrong n := by
        unfold rangeWrong
        by_cases h2 : r = 0
        · simp [h2]
        · simp [hb, h2]
      rw [e1]
      refine Ev.step (fun k => ?_) h
      simp only [carouselref05_wrong.j0]
      rw [if_neg (by simp), if_pos hb]
    · have h := ev_rf1 false r b k1 e n h0
      rw [if_neg (by simp)] at h
      rw [if_neg (fun h => hb h.1)]
      refine Ev.step (fun k => ?_) h
      simp only [carouselref05_wrong.j0]
      rw [if_neg (by simp), if_neg hb]
theorem ev_rfwrong (r : Int) (b k1 e : Bool) (n : Int) (h0 : 0 ≤ n) : Ev (fun k => carouselref05_wrong.f k r b k1 e n) (Gv.rapsWrong r b n) := by
  by_cases c0 : r = 0
  · refine Ev.congr (fun k => ?_) (ev_rf0 false r b k1 e n h0 (by simp [c0]))
    unfold carouselref05_wrong.f; rw [if_pos c0]
  by_cases c7 : r = 7
  · refine Ev.congr (fun k => ?_) (ev_rf0 false r b k1 e n h0 (by simp [c7]))
    unfold carouselref05_wrong.f; rw [if_neg c0, if_pos c7]
  by_cases c11 : r = 11
  · refine Ev.congr (fun k => ?_) (ev_rf0 false r b k1 e n h0 (by simp [c11]))
    unfold carouselref05_wrong.f; rw [if_neg c0, if_neg c7, if_pos c11]
  · refine Ev.congr (fun k => ?_) (ev_rf0 (r != 13) r b k1 e n h0 (by simp [c0, c7, c11]))
    unfold carouselref05_wrong.f; rw [if_neg c0, if_neg c7, if_neg c11]

theorem ev_rfc2 (lv x r : Int) (b kp e : Bool) (n : Int) (hr0 : 0 ≤ r) (hr1 : r ≤ 15) (h0 : 0 ≤ n) (h1 : n < 281474976710656) (hlv : isU8 lv) (hx : x = Gv.bi b * 128 + Gv.bi kp * 64 + Gv.bi e * 32) :
    Ev (fun k => carouselref05_Close.j2 k lv x r b kp e n) (oamClose lv 1 40 0 32 (Gv.rapsBody r b kp e n)) := by
  have hb := ev_refbytes n h0 h1
  have hcl := ev_ref_close lv 1 40 0 32 (Gv.rapsBody r b kp e n) (by rw [Gv.rapsBody_size]; omega) hlv (by unfold isU8; omega) (by unfold isU8; omega) (by unfold isU8; omega) (by unfold isU8; omega)
  have hrb := Gv.bi_range b
  have hrk := Gv.bi_range kp
  have hre := Gv.bi_range e
  have ey : ([(r * 16) % 256, x % 256] : List Int) = [r * 16, Gv.bi b * 128 + Gv.bi kp * 64 + Gv.bi e * 32] := by
    rw [hx, Int.emod_eq_of_lt (a := r * 16) (by omega) (by omega), Int.emod_eq_of_lt (a := Gv.bi b * 128 + Gv.bi kp * 64 + Gv.bi e * 32) (by omega) (by omega)]
  have hs1 : (strOfNums [r * 16, Gv.bi b * 128 + Gv.bi kp * 64 + Gv.bi e * 32]).size = 2 := by rw [strOfNums_size]; rfl
  have hs2 : (strOfNums (Gv.packB (Gv.bitsOf 48 n))).size = 6 := by rw [strOfNums_size, Gv.packB_length, Gv.bitsOf_length]
  have hs3 : (strOfNums (List.replicate 24 0)).size = 24 := by rw [strOfNums_size]; rfl
  refine Ev.step (f := fun k => (carouselref02_Bytes.f k n).bind fun t253 => (if (strOfNums [r * 16, Gv.bi b * 128 + Gv.bi kp * 64 + Gv.bi e * 32]).size + t253.size ≤ 9223372036854775807 then (if 24 ≤ 281474976710656 then (if (strOfNums [r * 16, Gv.bi b * 128 + Gv.bi kp * 64 + Gv.bi e * 32]).size + t253.size + (strOfNums (List.replicate 24 0)).size ≤ 9223372036854775807 then ((carouselref04_Close.f k lv 1 40 0 32 (((strOfNums [r * 16, Gv.bi b * 128 + Gv.bi kp * 64 + Gv.bi e * 32]) ++ t253) ++ (strOfNums (List.replicate 24 0)))).bind fun bt257 => (some (bt257.1, bt257.2))) else (none)) else (none)) else (none))) (fun k => ?_) (Ev.bind hb ?_)
  · simp only [carouselref05_Close.j2, Option.bind_some]
    rw [ey]
  · rw [hs1, hs2, hs3]
    simp only [Nat.reduceAdd, Nat.reduceLeDiff, if_true]
    exact Ev.bind hcl (f := fun k b => some (b.1, b.2)) (Ev.now _)
theorem ev_rfc1 (lv x r : Int) (b kp e : Bool) (n : Int) (hr0 : 0 ≤ r) (hr1 : r ≤ 15) (h0 : 0 ≤ n) (h1 : n < 281474976710656) (hlv : isU8 lv) (hx : x = Gv.bi b * 128 + Gv.bi kp * 64) :
    Ev (fun k => carouselref05_Close.j1 k lv x r b kp e n) (oamClose lv 1 40 0 32 (Gv.rapsBody r b kp e n)) := by
  have hrb := Gv.bi_range b
  have hrk := Gv.bi_range kp
  by_cases he : e = true
  · have h := ev_rfc2 lv (wrap64 (x + 32)) r b kp e n hr0 hr1 h0 h1 hlv (by rw [rp_wrap (by omega) (by omega), hx, he]; rfl)
    refine Ev.step (fun k => ?_) h
    simp only [carouselref05_Close.j1]
    rw [if_pos he]
  · have hf : e = false := by simpa using he
    have h := ev_rfc2 lv x r b kp e n hr0 hr1 h0 h1 hlv (by rw [hx, hf]; show _ = _ + 0 * 32; omega)
    refine Ev.step (fun k => ?_) h
    simp only [carouselref05_Close.j1]
    rw [if_neg he]
theorem ev_rfc0 (lv x r : Int) (b kp e : Bool) (n : Int) (hr0 : 0 ≤ r) (hr1 : r ≤ 15) (h0 : 0 ≤ n) (h1 : n < 281474976710656) (hlv : isU8 lv) (hx : x = Gv.bi b * 128) :
    Ev (fun k => carouselref05_Close.j0 k lv x r b kp e n) (oamClose lv 1 40 0 32 (Gv.rapsBody r b kp e n)) := by
  have hrb := Gv.bi_range b
  by_cases he : kp = true
  · have h := ev_rfc1 lv (wrap64 (x + 64)) r b kp e n hr0 hr1 h0 h1 hlv (by rw [rp_wrap (by omega) (by omega), hx, he]; rfl)
    refine Ev.step (fun k => ?_) h
    simp only [carouselref05_Close.j0]
    rw [if_pos he]
  · have hf : kp = false := by simpa using he
    have h := ev_rfc1 lv x r b kp e n hr0 hr1 h0 h1 hlv (by rw [hx, hf]; show _ = _ + 0 * 64; omega)
    refine Ev.step (fun k => ?_) h
    simp only [carouselref05_Close.j0]
    rw [if_neg he]
theorem ev_rf_close (r : Int) (b kp e : Bool) (n lv : Int) (hr : isU8 r) (h0 : 0 ≤ n) (hlv : isU8 lv) : Ev (fun k => carouselref05_Close.f k r b kp e n lv) (rapsClose r b kp e n lv) := by
  unfold rapsClose
  by_cases hl : lv > 7
  · rw [if_pos hl]
    refine Ev.congr (f := fun _ => some ((⟨#[]⟩ : ByteArray), 4)) (fun k => ?_) (Ev.now _)
    unfold carouselref05_Close.f; rw [if_pos hl]
  · rw [if_neg hl]
    have hw := ev_rfwrong r b kp e n h0
    by_cases h : Gv.rapsWrong r b n = 0
    · rw [if_pos h]
      rw [h] at hw
      have hz := wrong_zero h
      simp only [carouselref05_Close.f, if_neg hl]
      refine Ev.bind hw ?_
      simp only [if_true]
      by_cases hb : b = true
      · simp only [hb, if_true]
        have := ev_rfc0 lv (0 + 128) r b kp e n hr.1 (by omega) h0 hz.2 hlv (by rw [hb]; rfl)
        rw [hb] at this
        exact this
      · have hf : b = false := by simpa using hb
        have := ev_rfc0 lv 0 r b kp e n hr.1 (by omega) h0 hz.2 hlv (by rw [hf]; rfl)
        simp only [if_neg hb]
        exact this
    · rw [if_neg h]
      simp only [carouselref05_Close.f, if_neg hl]
      refine Ev.bind hw ?_
      simp only [if_neg h]
      exact Ev.now _

end Go.Proofs.Ytmdaaphjndjakad.LAll
