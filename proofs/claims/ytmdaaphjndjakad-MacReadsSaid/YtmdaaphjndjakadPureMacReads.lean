/- The law MacReads holds: the address of any bytes and of any text, or what is wrong, is the document's: for every input. -/
import Derived.Test.YtmdaaphjndjakadLMacParseAll
import Derived.Test.YtmdaaphjndjakadLRefSplitAll
import Derived.Test.YtmdaaphjndjakadPAllx10
namespace Go.Proofs.Ytmdaaphjndjakad.Pure
open Go.RowKit Go.Proofs.Ytmdaaphjndjakad.PAll Go.Proofs.YtmdaaphjndjakadW.PrintWords Go.Proofs.YtmdaaphjndjakadW.PrintLast Go.Proofs.YtmdaaphjndjakadW.PrintMore Go.Proofs.Ytmdaaphjndjakad Go.Proofs.Ytmdaaphjndjakad.LAll
set_option linter.unusedVariables false

theorem mr_awake : Ev (fun k => carousellaw02_Awake.f k) true :=
  Ev.of carousellaw02_Awake.mono (k := 60) (by decide +kernel)

theorem split48 (s : ByteArray) : Gv.split s [48] = if s.size < 6 then ([], ⟨#[]⟩, 1) else ([Gv.valOf ((Gv.sBits s).take 48)], s.extract 6 s.size, 0) := by
  have e1 : Gv.okW [48] = true := by decide
  have e2 : Gv.sumW [48] = 48 := by decide
  unfold Gv.split
  rw [if_pos e1, e2, if_pos (by decide)]
  by_cases h : s.size < 6
  · rw [if_pos h, if_pos (by omega)]
  · rw [if_neg h, if_neg (by omega)]
    rfl
theorem ext_all (s : ByteArray) : s.extract 0 s.size = s := by
  apply Gv.bytesOf_inj
  rw [Gv.bytesOf_extract, List.take_of_length_le (by rw [bytesOf_length]; exact Nat.le_refl _), List.drop_zero]
theorem ext_toList (s : ByteArray) (h : 6 ≤ s.size) : (s.extract 6 s.size).toList = [] ↔ s.size = 6 := by
  have hz : (s.extract 6 s.size).size = s.size - 6 := by
    rw [Gv.size_bytesOf, Gv.bytesOf_extract, List.length_drop, List.length_take, bytesOf_length]; omega
  have hl : (s.extract 6 s.size).toList.length = s.size - 6 := by
    rw [← hz, ByteArray.toList_eq, Array.length_toList]
    rfl
  constructor
  · intro e
    rw [e] at hl
    simp at hl; omega
  · intro e
    exact List.eq_nil_of_length_eq_zero (by omega)

/-- What Of comes to. -/
def macOf (s : ByteArray) : Int × Int := if s.size < 6 then (0, 1) else if s.size = 6 then (Gv.valOf ((Gv.sBits s).take 48), 0) else (0, 2)
theorem ev_of (s : ByteArray) (hs : s.size ≤ 100000) : Ev (fun k => mac_Of.f k s) (macOf s) := by
  have h := ev_split s hs [48] (by simp)
  simp only [mac_Of.f]
  refine Ev.bind h (Ev.congr (fun k => ?_) (Ev.now _))
  rw [split48]
  unfold macOf
  by_cases h6 : s.size < 6
  · rw [if_pos h6, if_pos h6]; rfl
  · rw [if_neg h6, if_neg h6]
    simp only []
    rw [if_pos trivial]
    by_cases h7 : s.size = 6
    · rw [if_pos ((ext_toList s (by omega)).2 h7), if_pos h7, if_pos (by simp)]; rfl
    · rw [if_neg (fun e => h7 ((ext_toList s (by omega)).1 e)), if_neg h7]
theorem ev_get (s : ByteArray) (hs : s.size = 6) : Ev (fun k => carouselref01_Get.f k s 0 6) (Gv.valOf ((Gv.sBits s).take 48)) := by
  have h := ev_refsplit s (by omega) [48] (by simp)
  rw [split48, if_neg (by omega)] at h
  refine Ev.congr (fun k => ?_) (Ev.bind h (f := fun k b => if 0 < (b.1.length : Int) then (some (rd b.1 0)) else (none)) (Ev.congr (fun k => ?_) (Ev.now _)))
  · unfold carouselref01_Get.f
    rw [if_pos (by decide), if_pos (by omega), show ((0 : Int)).toNat = 0 from rfl, ext_all, show wrap64 (8 * 6) = 48 from by decide +kernel]
  · simp only []
    rw [if_pos (by simp)]; rfl

theorem MacReads : carousellaw02_MacReads.Pure := by
  intro b s _ _
  have haw := mr_awake
  have hbig : Ev (fun k => carousellaw02_MacReads.j0 k b s true) true := by
    refine Ev.step (f := fun k => (carousellaw02_Awake.f k).bind fun t => some t) (fun k => ?_) (Ev.bind haw (Ev.now _))
    simp only [carousellaw02_MacReads.j0]
    rw [if_pos trivial]
  have hgo : Ev (fun k => carousellaw02_MacReads.f k b s) true := by
    by_cases h1 : (b.size : Int) > 100
    · refine Ev.congr (fun k => ?_) hbig
      unfold carousellaw02_MacReads.f; rw [if_pos h1]
    · by_cases h2 : (s.size : Int) > 200
      · refine Ev.congr (fun k => ?_) hbig
        unfold carousellaw02_MacReads.f; rw [if_neg h1, show decide ((s.size : Int) > 200) = true from by simpa using h2]
      · have hof := ev_of b (by omega)
        have hp := ev_parse s
        have hr := ev_refparse s
        have hj1 : Ev (fun k => carousellaw02_MacReads.j1 k b (macOf b).1 (macOf b).2 false) true := by
          unfold macOf
          by_cases h6 : b.size < 6
          · rw [if_pos h6]
            refine Ev.step (f := fun k => (carousellaw02_Awake.f k).bind fun t => if t = true then some true else some false) (fun k => ?_) (Ev.bind haw (Ev.congr (fun k => if_pos rfl) (Ev.now _)))
            simp only [carousellaw02_MacReads.j1]
            rw [if_neg (by simp), if_pos (by omega)]
            rfl
          · rw [if_neg h6]
            by_cases h7 : b.size = 6
            · rw [if_pos h7]
              refine Ev.step (fun k => ?_) (Ev.bind haw (f := fun k t => if t = true then ((carouselref01_Get.f k b 0 6).bind fun t176 => (some (Gv.valOf ((Gv.sBits b).take 48) == t176))) else some false) (Ev.congr (fun k => if_pos rfl) (Ev.bind (ev_get b h7) (Ev.congr (fun k => ?_) (Ev.now true)))))
              · simp only [carousellaw02_MacReads.j1]
                rw [if_neg (by simp), if_neg (by omega), if_neg (by omega)]
                rfl
              · simp
            · rw [if_neg h7]
              refine Ev.step (f := fun k => (carousellaw02_Awake.f k).bind fun t => if t = true then some true else some false) (fun k => ?_) (Ev.bind haw (Ev.congr (fun k => if_pos rfl) (Ev.now _)))
              simp only [carousellaw02_MacReads.j1]
              rw [if_neg (by simp), if_neg (by omega), if_pos (by omega)]
              rfl
        refine Ev.congr (f := fun k => carousellaw02_MacReads.j0 k b s false) (fun k => ?_) (Ev.step (fun k => ?_) (Ev.bind hof (f := fun k a => (mac_Parse.f k s).bind fun c => (carouselref02_Parse.f k s).bind fun e => if c.1 = e.1 then (carousellaw02_MacReads.j1 k b a.1 a.2 (c.2 != e.2)) else (carousellaw02_MacReads.j1 k b a.1 a.2 true)) (Ev.bind hp (Ev.bind hr (Ev.congr (fun k => ?_) hj1)))))
        · unfold carousellaw02_MacReads.f; rw [if_neg h1, show decide ((s.size : Int) > 200) = false from by simpa using h2]
        · simp only [carousellaw02_MacReads.j0]
          rw [if_neg (by simp)]
        · simp
  exact hgo.rounds

end Go.Proofs.Ytmdaaphjndjakad.Pure
