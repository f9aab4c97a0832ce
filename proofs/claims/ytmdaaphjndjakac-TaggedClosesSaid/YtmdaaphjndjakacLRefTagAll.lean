/- Layer 3, the document's Close: it comes to the same plain word. -/
import Derived.Test.YtmdaaphjndjakacLRefMacAll
import Derived.Test.YtmdaaphjndjakacLTagAll
import Derived.Test.YtmdaaphjndjakacPAllx20
namespace Go.Proofs.Ytmdaaphjndjakac.LAll
open Go.RowKit Go.Proofs.Ytmdaaphjndjakac.PAll Go.Proofs.YtmdaaphjndjakacW.PrintWords Go.Proofs.YtmdaaphjndjakacW.PrintLast Go.Proofs.YtmdaaphjndjakacW.PrintMore Go.Proofs.Ytmdaaphjndjakac
set_option linter.unusedVariables false
set_option linter.unusedSimpArgs false

theorem rt_mark : (⟨#[129, 0]⟩ : ByteArray).size = 2 := rfl
theorem ev_rt2 (n d s p : Int) (b : Bool) (v t : Int) (body : ByteArray) (hd0 : 0 ≤ d) (hd1 : d < 281474976710656) (hs0 : 0 ≤ s) (hs1 : s < 281474976710656) (hn0 : 0 ≤ n) (hn1 : n ≤ 65535) (ht0 : 0 ≤ t) (ht1 : t ≤ 65535) (hb : body.size ≤ 1582) :
    Ev (fun k => carouselref03_Close.j2 k n d s p b v t body) (((((strOfNums (Gv.packB (Gv.bitsOf 48 d)) ++ strOfNums (Gv.packB (Gv.bitsOf 48 s))) ++ (⟨#[129, 0]⟩ : ByteArray)) ++ strOfNums (Gv.packB (Gv.bitsOf 16 n))) ++ strOfNums (Gv.packB (Gv.bitsOf 16 t))) ++ body, 0) := by
  have h1 := rm_bytes d hd0 hd1
  have h2 := rm_bytes s hs0 hs1
  have h3 := rm_put2 n hn0 hn1
  have h4 := rm_put2 t ht0 ht1
  refine Ev.step (f := fun k => carouselref03_Close.j2 (k + 1) n d s p b v t body) (fun k => rfl) ?_
  simp only [carouselref03_Close.j2]
  refine Ev.bind h1 ?_
  refine Ev.bind h2 ?_
  simp only [ByteArray.size_append, (Gv.tag_sizes _).1, (Gv.tag_sizes _).2, rt_mark, Nat.reduceAdd, Nat.reduceLeDiff, if_true]
  refine Ev.bind h3 ?_
  simp only [ByteArray.size_append, (Gv.tag_sizes _).1, (Gv.tag_sizes _).2, rt_mark, Nat.reduceAdd, Nat.reduceLeDiff, if_true]
  rw [mg_u64 (n := t) (by omega) (by omega)]
  refine Ev.bind h4 ?_
  simp only [ByteArray.size_append, (Gv.tag_sizes _).1, (Gv.tag_sizes _).2, rt_mark, Nat.reduceAdd, Nat.reduceLeDiff, if_true]
  refine Ev.congr (fun k => ?_) (Ev.now _)
  rw [if_pos (by omega)]
theorem ev_rt1 (c : Bool) (d s p : Int) (b : Bool) (v t : Int) (body : ByteArray) (hd0 : 0 ≤ d) (hd1 : d < 281474976710656) (hs0 : 0 ≤ s) (hs1 : s < 281474976710656) (hp0 : 0 ≤ p) (hv0 : 0 ≤ v) (hpv : c = false → p ≤ 7 ∧ v ≤ 4094) (ht0 : 0 ≤ t) (ht1 : t ≤ 65535) (hb : body.size ≤ 2000) :
    Ev (fun k => carouselref03_Close.j1 k c d s p b v t body) (if c = true then (⟨#[]⟩, 4) else if t < 1536 then (⟨#[]⟩, 6) else if body.size > 1582 then (⟨#[]⟩, 2) else (Gv.tagHead d s p b v t ++ body, 0)) := by
  refine Ev.step (f := fun k => carouselref03_Close.j1 (k + 1) c d s p b v t body) (fun k => rfl) ?_
  simp only [carouselref03_Close.j1]
  cases c with
  | true => simp only [if_true]; exact Ev.now _
  | false =>
    have hpv := hpv rfl
    simp only [Bool.false_eq_true, if_false]
    by_cases h1 : t < 1536
    · simp only [if_pos h1]; exact Ev.now _
    · simp only [if_neg h1]
      rw [mg_wrap (n := 18 + (body.size : Int)) (by omega) (by omega)]
      by_cases h2 : body.size > 1582
      · rw [if_pos h2]
        refine Ev.congr (fun k => ?_) (Ev.now _)
        rw [if_pos (by omega)]
      · rw [if_neg h2]
        have e3 : ¬ (18 + (body.size : Int) > 1600) := by omega
        simp only [if_neg e3]
        have eu : IntKind.u64.wrap (IntKind.u64.wrap (IntKind.u64.wrap p * 8192) + IntKind.u64.wrap v) = p * 8192 + v := by
          rw [mg_u64 (n := p) (by omega) (by omega), mg_u64 (n := p * 8192) (by omega) (by omega), mg_u64 (n := v) (by omega) (by omega), mg_u64 (by omega) (by omega)]
        rw [eu]
        cases b with
        | true =>
          simp only [if_true]
          have h := ev_rt2 (p * 8192 + v + 4096) d s p true v t body hd0 hd1 hs0 hs1 (by omega) (by omega) ht0 ht1 (by omega)
          rw [mg_u64 (n := p * 8192 + v + 4096) (by omega) (by omega)]
          have e : Gv.tagHead d s p true v t = (((strOfNums (Gv.packB (Gv.bitsOf 48 d)) ++ strOfNums (Gv.packB (Gv.bitsOf 48 s))) ++ (⟨#[129, 0]⟩ : ByteArray)) ++ strOfNums (Gv.packB (Gv.bitsOf 16 (p * 8192 + v + 4096)))) ++ strOfNums (Gv.packB (Gv.bitsOf 16 t)) := by
            unfold Gv.tagHead; rw [show p * 8192 + v + Gv.bt1 true * 4096 = p * 8192 + v + 4096 from rfl]
          rw [e]
          exact h
        | false =>
          simp only [Bool.false_eq_true, if_false]
          have h := ev_rt2 (p * 8192 + v) d s p false v t body hd0 hd1 hs0 hs1 (by omega) (by omega) ht0 ht1 (by omega)
          have e : Gv.tagHead d s p false v t = (((strOfNums (Gv.packB (Gv.bitsOf 48 d)) ++ strOfNums (Gv.packB (Gv.bitsOf 48 s))) ++ (⟨#[129, 0]⟩ : ByteArray)) ++ strOfNums (Gv.packB (Gv.bitsOf 16 (p * 8192 + v)))) ++ strOfNums (Gv.packB (Gv.bitsOf 16 t)) := by
            unfold Gv.tagHead; rw [show p * 8192 + v + Gv.bt1 false * 4096 = p * 8192 + v from by show p * 8192 + v + 0 * 4096 = _; omega]
          rw [e]
          exact h
theorem close_bad {d s p : Int} {b : Bool} {v t : Int} {body : ByteArray} (h : ¬ (d < 281474976710656 ∧ s < 281474976710656 ∧ s / 1099511627776 % 2 = 0)) : tagClose d s p b v t body = (⟨#[]⟩, 3) := by
  unfold tagClose Gv.tagWrong
  rw [if_neg h, if_neg (by decide)]
theorem close_good {d s p : Int} {b : Bool} {v t : Int} {body : ByteArray} (h : d < 281474976710656 ∧ s < 281474976710656 ∧ s / 1099511627776 % 2 = 0) :
    tagClose d s p b v t body = if p ≤ 7 ∧ 1 ≤ v ∧ v ≤ 4094 then (if t < 1536 then (⟨#[]⟩, 6) else if body.size > 1582 then (⟨#[]⟩, 2) else (Gv.tagHead d s p b v t ++ body, 0)) else (⟨#[]⟩, 4) := by
  unfold tagClose Gv.tagWrong
  rw [if_pos h]
  by_cases h2 : p ≤ 7 ∧ 1 ≤ v ∧ v ≤ 4094
  · rw [if_pos h2, if_pos h2]
    by_cases h3 : t < 1536
    · rw [if_pos h3, if_pos h3, if_neg (by decide)]
    · rw [if_neg h3, if_neg h3]
      by_cases h4 : body.size > 1582
      · rw [if_pos h4, if_pos h4, if_neg (by decide)]
      · rw [if_neg h4, if_neg h4, if_pos rfl]
  · rw [if_neg h2, if_neg h2, if_neg (by decide)]
theorem ev_rt0t (d s p : Int) (b : Bool) (v t : Int) (body : ByteArray) : Ev (fun k => carouselref03_Close.j0 k true d s p b v t body) (⟨#[]⟩, 3) := by
  refine Ev.step (f := fun k => carouselref03_Close.j0 (k + 1) true d s p b v t body) (fun k => rfl) ?_
  simp only [carouselref03_Close.j0, if_true]
  exact Ev.now _
theorem ev_rt0 (d s p : Int) (b : Bool) (v t : Int) (body : ByteArray) (hd0 : 0 ≤ d) (hs0 : 0 ≤ s) (hg : d < 281474976710656 ∧ s < 281474976710656 ∧ s / 1099511627776 % 2 = 0) (hp0 : 0 ≤ p) (hv0 : 0 ≤ v) (ht0 : 0 ≤ t) (ht1 : t ≤ 65535) (hb : body.size ≤ 2000) :
    Ev (fun k => carouselref03_Close.j0 k false d s p b v t body) (tagClose d s p b v t body) := by
  rw [close_good hg]
  refine Ev.step (f := fun k => carouselref03_Close.j0 (k + 1) false d s p b v t body) (fun k => rfl) ?_
  simp only [carouselref03_Close.j0, Bool.false_eq_true, if_false]
  by_cases h1 : p > 7
  · simp only [if_pos h1]
    rw [if_neg (by omega)]
    exact ev_rt1 true d s p b v t body hd0 hg.1 hs0 hg.2.1 hp0 hv0 (by simp) ht0 ht1 hb
  · simp only [if_neg h1]
    by_cases h2 : v = 0
    · simp only [if_pos h2]
      rw [if_neg (by omega)]
      exact ev_rt1 true d s p b v t body hd0 hg.1 hs0 hg.2.1 hp0 hv0 (by simp) ht0 ht1 hb
    · simp only [if_neg h2]
      have h := ev_rt1 (decide (v > 4094)) d s p b v t body hd0 hg.1 hs0 hg.2.1 hp0 hv0 (fun h => ⟨by omega, by have := of_decide_eq_false h; omega⟩) ht0 ht1 hb
      by_cases h3 : v > 4094
      · rw [if_pos (by simpa using h3)] at h
        rw [if_neg (by omega)]
        exact h
      · rw [if_neg (by simpa using h3)] at h
        rw [if_pos ⟨by omega, by omega, by omega⟩]
        exact h
theorem ev_rtclose (d s p : Int) (b : Bool) (v t : Int) (body : ByteArray) (hd : 0 ≤ d) (hs : 0 ≤ s) (hp0 : 0 ≤ p) (hv0 : 0 ≤ v) (ht0 : 0 ≤ t) (ht1 : t ≤ 65535) (hb : body.size ≤ 2000) : Ev (fun k => carouselref03_Close.f k d s p b v t body) (tagClose d s p b v t body) := by
  simp only [carouselref03_Close.f, rm_may, Option.bind_some]
  by_cases h1 : d < 281474976710656
  · simp only [decide_eq_true h1, if_true]
    by_cases h2 : s < 281474976710656
    · simp only [decide_eq_true h2, if_true, rm_group s hs h2, Option.bind_some]
      by_cases h3 : s / 1099511627776 % 2 = 0
      · rw [show (s / 1099511627776 % 2 == 1) = false from by simp [h3]]
        exact ev_rt0 d s p b v t body hd hs ⟨h1, h2, h3⟩ hp0 hv0 ht0 ht1 hb
      · rw [show (s / 1099511627776 % 2 == 1) = true from by simp; omega, close_bad (fun h => h3 h.2.2)]
        exact ev_rt0t d s p b v t body
    · simp only [decide_eq_false h2, Bool.false_eq_true, if_false]
      rw [close_bad (fun h => h2 h.2.1)]
      exact ev_rt0t d s p b v t body
  · simp only [decide_eq_false h1, Bool.false_eq_true, if_false]
    rw [close_bad (fun h => h1 h.1)]
    exact ev_rt0t d s p b v t body

end Go.Proofs.Ytmdaaphjndjakac.LAll
