/- The law TaggedBack holds: what is closed is opened as it was; what is opened is closed as it was: for every input. -/
import Derived.Test.YtmdaaphjndjakaeLTagOpenAll
import Derived.Test.YtmdaaphjndjakaePAllx18
namespace Go.Proofs.Ytmdaaphjndjakae.Pure
open Go.RowKit Go.Proofs.Ytmdaaphjndjakae.PAll Go.Proofs.YtmdaaphjndjakaeW.PrintWords Go.Proofs.YtmdaaphjndjakaeW.PrintLast Go.Proofs.YtmdaaphjndjakaeW.PrintMore Go.Proofs.Ytmdaaphjndjakae Go.Proofs.Ytmdaaphjndjakae.LAll
set_option linter.unusedVariables false
set_option linter.unusedSimpArgs false

theorem tb_awake : Ev (fun k => carousellaw03_Awake.f k) true :=
  Ev.of carousellaw03_Awake.mono (k := 60) (by decide +kernel)
theorem tb_u8 {a : Int} (h : (Lit.int .u8 a).wf = true) : 0 ≤ a ∧ a ≤ 255 := by
  have h' : IntKind.u8.min ≤ a ∧ a ≤ IntKind.u8.max := by simpa [Lit.wf] using h
  exact h'
theorem tb_u16 {a : Int} (h : (Lit.int .u16 a).wf = true) : 0 ≤ a ∧ a ≤ 65535 := by
  have h' : IntKind.u16.min ≤ a ∧ a ≤ IntKind.u16.max := by simpa [Lit.wf] using h
  exact h'
theorem tb_u64 {a : Int} (h : (Lit.int .u64 a).wf = true) : 0 ≤ a ∧ a ≤ 18446744073709551615 := by
  have h' : IntKind.u64.min ≤ a ∧ a ≤ IntKind.u64.max := by simpa [Lit.wf] using h
  exact h'

theorem open_cases (s : ByteArray) :
    (18 ≤ s.size ∧ s.size ≤ 1600 ∧ Gv.numOf s 12 2 = 33024 ∧ Gv.tagWrong (Gv.numOf s 0 6) (Gv.numOf s 6 6) (Gv.numOf s 14 2 / 8192) (Gv.numOf s 14 2 % 4096) (Gv.numOf s 16 2) (s.size - 18) = 0 ∧
      Gv.tagOpen s = (Gv.numOf s 0 6, Gv.numOf s 6 6, Gv.numOf s 14 2 / 8192, Gv.numOf s 14 2 / 4096 % 2 == 1, Gv.numOf s 14 2 % 4096, Gv.numOf s 16 2, s.extract 18 s.size, 0)) ∨
    ∃ e : Int, e ≠ 0 ∧ Gv.tagOpen s = Gv.tagNone e := by
  unfold Gv.tagOpen
  by_cases h1 : s.size > 1600
  · rw [if_pos h1]; exact .inr ⟨2, by decide, rfl⟩
  · rw [if_neg h1]
    by_cases h2 : s.size < 18
    · rw [if_pos h2]; exact .inr ⟨1, by decide, rfl⟩
    · rw [if_neg h2]
      by_cases h3 : Gv.numOf s 12 2 = 33024
      · rw [if_pos h3]
        by_cases h4 : Gv.tagWrong (Gv.numOf s 0 6) (Gv.numOf s 6 6) (Gv.numOf s 14 2 / 8192) (Gv.numOf s 14 2 % 4096) (Gv.numOf s 16 2) (s.size - 18) = 0
        · rw [if_pos h4]; exact .inl ⟨by omega, by omega, h3, h4, rfl⟩
        · rw [if_neg h4]; exact .inr ⟨_, h4, rfl⟩
      · rw [if_neg h3]; exact .inr ⟨5, by decide, rfl⟩

theorem tb_j1 (s : ByteArray) (hs : s.size ≤ 2000) : Ev (fun k => carousellaw03_TaggedBack.j1 k s) true := by
  have ho := ev_topen s (by omega)
  refine Ev.step (f := fun k => carousellaw03_TaggedBack.j1 (k + 1) s) (fun k => rfl) ?_
  simp only [carousellaw03_TaggedBack.j1]
  rcases open_cases s with ⟨h1, h2, h3, h4, h5⟩ | ⟨e, he, h5⟩
  · have hb := Gv.tag_back s h1 h3
    have q0 := Gv.numOf_range s 0 6 (by omega); have q1 := Gv.numOf_range s 6 6 (by omega); have q3 := Gv.numOf_range s 14 2 (by omega); have q4 := Gv.numOf_range s 16 2 (by omega)
    rw [show (2 : Int) ^ (8 * 2) = 65536 from by decide] at q3 q4
    have hz : (s.extract 18 s.size).size = s.size - 18 := by
      rw [Gv.size_bytesOf, Gv.bytesOf_extract, List.length_drop, List.length_take, bytesOf_length]; omega
    rw [h5] at ho
    have hc := ev_tclose (Gv.numOf s 0 6) (Gv.numOf s 6 6) (Gv.numOf s 14 2 / 8192) (Gv.numOf s 14 2 / 4096 % 2 == 1) (Gv.numOf s 14 2 % 4096) (Gv.numOf s 16 2) (s.extract 18 s.size) q0.1 q1.1 (by omega) (by omega) q4.1 (by omega)
    unfold tagClose at hc
    rw [hz, if_pos h4, hb] at hc
    refine Ev.bind ho ?_
    simp only [if_true]
    refine Ev.bind hc ?_
    refine Ev.bind tb_awake ?_
    refine Ev.congr (fun k => ?_) (Ev.now true)
    simp
  · rw [h5] at ho
    unfold Gv.tagNone at ho
    refine Ev.bind ho ?_
    simp only [if_neg he]
    refine Ev.bind tb_awake ?_
    refine Ev.congr (fun k => ?_) (Ev.now true)
    have e0 : (⟨#[]⟩ : ByteArray).toList = [] := by rw [ByteArray.toList_eq]
    simp [e0]
theorem tb_j0t (s : ByteArray) (d c p : Int) (b : Bool) (v t : Int) (body : ByteArray) : Ev (fun k => carousellaw03_TaggedBack.j0 k s true d c p b v t body) true := by
  refine Ev.step (f := fun k => carousellaw03_TaggedBack.j0 (k + 1) s true d c p b v t body) (fun k => rfl) ?_
  simp only [carousellaw03_TaggedBack.j0, if_true]
  exact Ev.bind tb_awake (f := fun _ x => some x) (Ev.now _)
theorem tb_j0 (s : ByteArray) (d c p : Int) (b : Bool) (v t : Int) (body : ByteArray) (hs : s.size ≤ 2000) (hb : body.size ≤ 2000) (hd : 0 ≤ d) (hc : 0 ≤ c) (hp : 0 ≤ p) (hv : 0 ≤ v) (ht0 : 0 ≤ t) (ht1 : t ≤ 65535) : Ev (fun k => carousellaw03_TaggedBack.j0 k s false d c p b v t body) true := by
  have hcl := ev_tclose d c p b v t body hd hc hp hv ht0 ht1
  have hj := tb_j1 s hs
  refine Ev.step (f := fun k => carousellaw03_TaggedBack.j0 (k + 1) s false d c p b v t body) (fun k => rfl) ?_
  simp only [carousellaw03_TaggedBack.j0, Bool.false_eq_true, if_false]
  refine Ev.bind hcl ?_
  unfold tagClose
  by_cases h : Gv.tagWrong d c p v t body.size = 0
  · rw [if_pos h]
    have ho := ev_topen (Gv.tagHead d c p b v t ++ body) (by rw [ByteArray.size_append, Gv.tagHead_size]; omega)
    rw [Gv.tag_there d c p b v t body hd hc hp hv ht0 ht1 h] at ho
    simp only [if_true]
    refine Ev.bind ho ?_
    refine Ev.congr (fun k => ?_) hj
    simp
  · rw [if_neg h]
    simp only [if_neg h]
    exact hj

theorem TaggedBack : carousellaw03_TaggedBack.Pure := by
  intro d c p b v t body s w0 w1 w2 w3 w4 _ _
  have hd := tb_u64 w0; have hc := tb_u64 w1; have hp := tb_u8 w2; have hv := tb_u16 w3; have ht := tb_u16 w4
  have hgo : Ev (fun k => carousellaw03_TaggedBack.f k d c p b v t body s) true := by
    simp only [carousellaw03_TaggedBack.f]
    by_cases h1 : (body.size : Int) > 2000
    · simp only [if_pos h1]
      exact tb_j0t s d c p b v t body
    · simp only [if_neg h1]
      by_cases h2 : (s.size : Int) > 2000
      · rw [decide_eq_true h2]
        exact tb_j0t s d c p b v t body
      · rw [decide_eq_false h2]
        exact tb_j0 s d c p b v t body (by omega) (by omega) hd.1 hc.1 hp.1 hv.1 ht.1 ht.2
  exact hgo.rounds

end Go.Proofs.Ytmdaaphjndjakae.Pure
