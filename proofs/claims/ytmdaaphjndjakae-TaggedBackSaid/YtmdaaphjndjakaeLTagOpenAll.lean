/- Layer 3, the program's Open: it comes to a plain word. -/
import Derived.Test.YtmdaaphjndjakaeLTagAll
import Derived.Test.YtmdaaphjndjakaeLSplitAll
import Derived.Test.YtmdaaphjndjakaeGvNum
import Derived.Test.YtmdaaphjndjakaePAllx11
namespace Go.Proofs.Ytmdaaphjndjakae.LAll
open Go.RowKit Go.Proofs.Ytmdaaphjndjakae.PAll Go.Proofs.YtmdaaphjndjakaeW.PrintWords Go.Proofs.YtmdaaphjndjakaeW.PrintLast Go.Proofs.YtmdaaphjndjakaeW.PrintMore Go.Proofs.Ytmdaaphjndjakae
set_option linter.unusedVariables false
set_option linter.unusedSimpArgs false

theorem to_u16 {n : Int} (h0 : 0 ≤ n) (h1 : n ≤ 65535) : IntKind.u16.wrap n = n := by simp [IntKind.wrap, IntKind.bits, IntKind.signed]; omega
theorem ev_topen (s : ByteArray) (hs : s.size ≤ 100000) : Ev (fun k => tagged_Open.f k s) (Gv.tagOpen s) := by
  simp only [tagged_Open.f]
  unfold Gv.tagOpen
  by_cases h1 : s.size > 1600
  · simp only [if_pos (show (s.size : Int) > 1600 from by omega), if_pos h1]; exact Ev.now _
  · simp only [if_neg (show ¬ (s.size : Int) > 1600 from by omega), if_neg h1]
    have hsp := ev_split s hs [48, 48, 16, 3, 1, 12, 16] (by simp)
    refine Ev.bind hsp ?_
    by_cases h2 : s.size < 18
    · rw [show Gv.split s [48, 48, 16, 3, 1, 12, 16] = ([], ⟨#[]⟩, 1) from Gv.split_tag_short s h2, if_pos h2]
      refine Ev.congr (fun k => ?_) (Ev.now _)
      simp only []
      rw [if_neg (by decide)]; rfl
    · rw [show Gv.split s [48, 48, 16, 3, 1, 12, 16] = _ from Gv.split_tag s (by omega), if_neg h2]
      have q0 := Gv.numOf_range s 0 6 (by omega); have q1 := Gv.numOf_range s 6 6 (by omega); have q3 := Gv.numOf_range s 14 2 (by omega); have q4 := Gv.numOf_range s 16 2 (by omega)
      rw [show (2 : Int) ^ (8 * 6) = 281474976710656 from by decide] at q0 q1
      rw [show (2 : Int) ^ (8 * 2) = 65536 from by decide] at q3 q4
      have hz : (s.extract 18 s.size).size = s.size - 18 := by
        rw [Gv.size_bytesOf, Gv.bytesOf_extract, List.length_drop, List.length_take, bytesOf_length]; omega
      generalize Gv.numOf s 0 6 = d at *
      generalize Gv.numOf s 6 6 = c at *
      generalize Gv.numOf s 12 2 = m at *
      generalize Gv.numOf s 14 2 = n at *
      generalize Gv.numOf s 16 2 = t at *
      obtain ⟨l, hl, hl7, r0, r1, r2, r3, r4, r5, r6⟩ : ∃ l : List Int, [d, c, m, n / 8192, n / 4096 % 2, n % 4096, t] = l ∧ (l.length : Int) = 7 ∧ rd l 0 = d ∧ rd l 1 = c ∧ rd l 2 = m ∧ rd l 3 = n / 8192 ∧ rd l 4 = n / 4096 % 2 ∧ rd l 5 = n % 4096 ∧ rd l 6 = t := ⟨_, rfl, rfl, rfl, rfl, rfl, rfl, rfl, rfl, rfl⟩
      rw [hl]
      have hw := ev_twrong d c (n / 8192) (n / 4096 % 2 == 1) (n % 4096) t (s.extract 18 s.size) q0.1 q1.1
      rw [hz] at hw
      simp only [hl7, r0, r1, r2, r3, r4, r5, r6, Int.reduceLT, if_true, show n / 8192 % 256 = n / 8192 from by omega, to_u16 (n := n % 4096) (by omega) (by omega), to_u16 (n := t) (by omega) (by omega)]
      by_cases hm : m = 33024
      · simp only [if_pos hm]
        refine Ev.bind hw ?_
        by_cases hq : Gv.tagWrong d c (n / 8192) (n % 4096) t (s.size - 18) = 0
        · simp only [if_pos hq]; exact Ev.now _
        · simp only [if_neg hq]; exact Ev.now _
      · simp only [if_neg hm]; exact Ev.now _

end Go.Proofs.Ytmdaaphjndjakae.LAll
