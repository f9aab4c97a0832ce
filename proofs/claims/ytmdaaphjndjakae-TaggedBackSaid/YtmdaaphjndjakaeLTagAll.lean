/- Layer 3, the program's Close: it comes to a plain word. -/
import Derived.Test.YtmdaaphjndjakaeLMacAll
import Derived.Test.YtmdaaphjndjakaeGvTag
import Derived.Test.YtmdaaphjndjakaePAllx6
namespace Go.Proofs.Ytmdaaphjndjakae.LAll
open Go.RowKit Go.Proofs.Ytmdaaphjndjakae.PAll Go.Proofs.YtmdaaphjndjakaeW.PrintWords Go.Proofs.YtmdaaphjndjakaeW.PrintLast Go.Proofs.YtmdaaphjndjakaeW.PrintMore Go.Proofs.Ytmdaaphjndjakae
set_option linter.unusedVariables false
set_option linter.unusedSimpArgs false

theorem tg_vlan (n : Int) : tagged_vlan.f n = some (decide (1 ≤ n ∧ n ≤ 4094)) := by
  unfold tagged_vlan.f
  by_cases h : n ≥ 1
  · rw [if_pos h]
    have : (1 ≤ n ∧ n ≤ 4094) = (n ≤ 4094) := by apply propext; omega
    simp [this]
  · rw [if_neg h, decide_eq_false (by omega)]
theorem tg_one (b : Bool) : tagged_one.f b = some (Gv.bt1 b) := by cases b <;> rfl

theorem ev_tw1 (c : Bool) (d s p : Int) (b : Bool) (v t : Int) (body : ByteArray) : Ev (fun k => tagged_Frame_wrong.j1 k c d s p b v t body) (if c = true then 4 else if t < 1536 then 6 else if body.size > 1582 then 2 else 0) := by
  refine Ev.step (f := fun _ => some (if c = true then 4 else if t < 1536 then 6 else if body.size > 1582 then 2 else 0)) (fun k => ?_) (Ev.now _)
  simp only [tagged_Frame_wrong.j1]
  cases c with
  | true => rw [if_pos rfl, if_pos rfl]
  | false =>
    simp only [Bool.false_eq_true, if_false]
    by_cases h1 : t < 1536
    · rw [if_pos h1, if_pos h1]
    · rw [if_neg h1, if_neg h1]
      by_cases h2 : body.size > 1582
      · rw [if_pos (by omega), if_pos h2]
      · rw [if_neg (by omega), if_neg h2]
theorem ev_tw0 (c : Bool) (d s p : Int) (b : Bool) (v t : Int) (body : ByteArray) : Ev (fun k => tagged_Frame_wrong.j0 k c d s p b v t body) (if c = true then 3 else if p ≤ 7 ∧ 1 ≤ v ∧ v ≤ 4094 then (if t < 1536 then 6 else if body.size > 1582 then 2 else 0) else 4) := by
  cases c with
  | true =>
    rw [if_pos rfl]
    refine Ev.step (f := fun _ => some 3) (fun k => ?_) (Ev.now _)
    simp only [tagged_Frame_wrong.j0]
    rw [if_pos trivial]
  | false =>
    rw [if_neg (by simp)]
    by_cases hp : p > 7
    · have h := ev_tw1 true d s p b v t body
      rw [if_pos rfl] at h
      rw [if_neg (by omega)]
      refine Ev.step (fun k => ?_) h
      simp only [tagged_Frame_wrong.j0]
      rw [if_neg (by simp), if_pos hp, decide_eq_true hp]
    · have h := ev_tw1 (!(decide (1 ≤ v ∧ v ≤ 4094))) d s p b v t body
      have e : (if (!(decide (1 ≤ v ∧ v ≤ 4094))) = true then 4 else if t < 1536 then 6 else if body.size > 1582 then 2 else 0 : Int) = (if p ≤ 7 ∧ 1 ≤ v ∧ v ≤ 4094 then (if t < 1536 then 6 else if body.size > 1582 then 2 else 0) else 4) := by
        by_cases hv : 1 ≤ v ∧ v ≤ 4094
        · rw [decide_eq_true hv]
          simp only [Bool.not_true, Bool.false_eq_true, if_false]
          rw [if_pos (c := p ≤ 7 ∧ 1 ≤ v ∧ v ≤ 4094) ⟨by omega, hv⟩]
        · rw [decide_eq_false hv]
          simp only [Bool.not_false, if_true]
          rw [if_neg (c := p ≤ 7 ∧ 1 ≤ v ∧ v ≤ 4094) (fun h => hv h.2)]
      rw [e] at h
      refine Ev.step (fun k => ?_) h
      simp only [tagged_Frame_wrong.j0]
      rw [if_neg (by simp), if_neg hp, tg_vlan]
      rfl
theorem ev_twrong (d s p : Int) (b : Bool) (v t : Int) (body : ByteArray) (hd : 0 ≤ d) (hs : 0 ≤ s) : Ev (fun k => tagged_Frame_wrong.f k d s p b v t body) (Gv.tagWrong d s p v t body.size) := by
  simp only [tagged_Frame_wrong.f, mg_may, Option.bind_some]
  unfold Gv.tagWrong
  by_cases h1 : d < 281474976710656
  · rw [decide_eq_true h1]
    simp only [if_true]
    by_cases h2 : s < 281474976710656
    · rw [decide_eq_true h2]
      simp only [if_true, mg_group s hs h2, Option.bind_some]
      have h := ev_tw0 (s / 1099511627776 % 2 == 1) d s p b v t body
      by_cases h3 : s / 1099511627776 % 2 = 0
      · rw [if_neg (by simp [h3])] at h
        rw [if_pos ⟨h1, h2, h3⟩]
        exact h
      · rw [if_pos (by simp; omega)] at h
        rw [if_neg (fun h4 => h3 h4.2.2)]
        exact h
    · rw [decide_eq_false h2]
      have h := ev_tw0 true d s p b v t body
      rw [if_pos rfl] at h
      rw [if_neg (fun h4 => h2 h4.2.1)]
      exact h
  · rw [decide_eq_false h1, if_neg (fun h4 => h1 h4.1)]
    exact Ev.now _

/-- A frame's bytes, or what is wrong. -/
def tagClose (d s p : Int) (b : Bool) (v t : Int) (body : ByteArray) : ByteArray × Int :=
  if Gv.tagWrong d s p v t body.size = 0 then (Gv.tagHead d s p b v t ++ body, 0) else (⟨#[]⟩, Gv.tagWrong d s p v t body.size)
theorem tag_zero {d s p v t : Int} {n : Nat} (h : Gv.tagWrong d s p v t n = 0) : (d < 281474976710656 ∧ s < 281474976710656 ∧ s / 1099511627776 % 2 = 0) ∧ (p ≤ 7 ∧ 1 ≤ v ∧ v ≤ 4094) ∧ ¬ t < 1536 ∧ ¬ n > 1582 := by
  unfold Gv.tagWrong at h
  by_cases h1 : d < 281474976710656 ∧ s < 281474976710656 ∧ s / 1099511627776 % 2 = 0
  · rw [if_pos h1] at h
    by_cases h2 : p ≤ 7 ∧ 1 ≤ v ∧ v ≤ 4094
    · rw [if_pos h2] at h
      by_cases h3 : t < 1536
      · rw [if_pos h3] at h; omega
      · rw [if_neg h3] at h
        by_cases h4 : n > 1582
        · rw [if_pos h4] at h; omega
        · exact ⟨h1, h2, h3, h4⟩
    · rw [if_neg h2] at h; omega
  · rw [if_neg h1] at h; omega
theorem ev_tclose (d s p : Int) (b : Bool) (v t : Int) (body : ByteArray) (hd : 0 ≤ d) (hs : 0 ≤ s) (hp0 : 0 ≤ p) (hv0 : 0 ≤ v) (ht0 : 0 ≤ t) (ht1 : t ≤ 65535) : Ev (fun k => tagged_Close.f k d s p b v t body) (tagClose d s p b v t body) := by
  have hw := ev_twrong d s p b v t body hd hs
  unfold tagClose
  simp only [tagged_Close.f]
  by_cases h : Gv.tagWrong d s p v t body.size = 0
  · rw [if_pos h]
    rw [h] at hw
    have hz := tag_zero h
    have hpk := Gv.pack_tag d s p b v t hd hz.1.1 hs hz.1.2.1 hp0 hz.2.1.1 hv0 (by omega) ht0 ht1
    have hpf : field_Pack.f (([(⟨48, d⟩ : S71), (⟨48, s⟩ : S71), (⟨16, 33024⟩ : S71), (⟨3, IntKind.u64.wrap p⟩ : S71), (⟨1, Gv.bt1 b⟩ : S71), (⟨12, IntKind.u64.wrap v⟩ : S71), (⟨16, IntKind.u64.wrap t⟩ : S71)] : List S71)) = some (Gv.tagHead d s p b v t, 0) := by
      rw [mg_u64 (n := p) (by omega) (by omega), mg_u64 (n := v) (by omega) (by omega), mg_u64 (n := t) (by omega) (by omega)]
      exact hpk
    refine Ev.bind hw ?_
    simp only [if_true, tg_one, Option.bind_some, hpf]
    refine Ev.congr (fun k => ?_) (Ev.now _)
    rw [if_pos (by rw [Gv.tagHead_size]; omega)]
  · rw [if_neg h]
    refine Ev.bind hw ?_
    simp only [if_neg h]
    exact Ev.now _

end Go.Proofs.Ytmdaaphjndjakae.LAll
