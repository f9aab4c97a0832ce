/- Open of layer 4, the document's: it comes to the same plain word. -/
import Derived.Test.YtmdaaphjndjakacLOamAll
import Derived.Test.YtmdaaphjndjakacPAllx7
namespace Go.Proofs.Ytmdaaphjndjakac.LAll
open Go.RowKit Go.Proofs.Ytmdaaphjndjakac.PAll Go.Proofs.YtmdaaphjndjakacW.PrintWords Go.Proofs.YtmdaaphjndjakacW.PrintLast Go.Proofs.YtmdaaphjndjakacW.PrintMore Go.Proofs.Ytmdaaphjndjakac
set_option linter.unusedVariables false

theorem ev_ref_open (s : ByteArray) (hs : s.size ≤ 100000) : Ev (fun k => carouselref04_Open.f k s) (oamOpen s) := by
  have h3 := bt_range s 3
  have h0 := bt_range s 0
  have e3 : wrap64 (bt s 3) = bt s 3 := sw_wrap (by omega) (by omega)
  have e5 : wrap64 (5 + bt s 3) = 5 + bt s 3 := sw_wrap (by omega) (by omega)
  have e4 : wrap64 (4 + bt s 3) = 4 + bt s 3 := sw_wrap (by omega) (by omega)
  unfold oamOpen
  by_cases h4 : s.size < 4
  · rw [if_pos h4]
    refine Ev.congr (f := fun k => carouselref04_Open.j0 k s true) (fun k => ?_) (Ev.step (f := fun _ => some (0, 0, 0, 0, 0, (⟨#[]⟩ : ByteArray), 1)) (fun k => ?_) (Ev.now _))
    · unfold carouselref04_Open.f; rw [if_pos (by omega)]
    · simp only [carouselref04_Open.j0]; rw [if_pos trivial]
  · rw [if_neg h4]
    by_cases h5 : (s.size : Int) < 5 + bt s 3
    · rw [if_pos h5]
      refine Ev.congr (f := fun k => carouselref04_Open.j0 k s true) (fun k => ?_) (Ev.step (f := fun _ => some (0, 0, 0, 0, 0, (⟨#[]⟩ : ByteArray), 1)) (fun k => ?_) (Ev.now _))
      · unfold carouselref04_Open.f; rw [if_neg (by omega), if_pos (by omega), e3, e5, show decide ((s.size : Int) < 5 + bt s 3) = true from by simpa using h5]
      · simp only [carouselref04_Open.j0]; rw [if_pos trivial]
    · rw [if_neg h5]
      refine Ev.congr (f := fun k => carouselref04_Open.j0 k s false) (fun k => ?_) (Ev.step (f := fun _ => some (if bt s (4 + bt s 3) = 0 then (bt s 0 / 32, bt s 0 % 32, bt s 1, bt s 2, bt s 3, s.extract 4 (4 + bt s 3).toNat, 0) else (0, 0, 0, 0, 0, (⟨#[]⟩ : ByteArray), 3))) (fun k => ?_) (Ev.now _))
      · unfold carouselref04_Open.f; rw [if_neg (by omega), if_pos (by omega), e3, e5, show decide ((s.size : Int) < 5 + bt s 3) = false from by simpa using h5]
      · simp only [carouselref04_Open.j0]
        rw [if_neg (by simp), if_pos (by omega), e3, e4, if_pos (by omega), if_pos (by omega)]
        have d1 : Int.tdiv (bt s 0) 32 % 256 = bt s 0 / 32 := by rw [Int.tdiv_eq_ediv_of_nonneg h0.1]; omega
        have d2 : Int.tmod (bt s 0) 32 = bt s 0 % 32 := Int.tmod_eq_emod_of_nonneg h0.1
        by_cases hz : bt s (4 + bt s 3) = 0
        · rw [if_pos hz, if_pos hz, if_pos (by omega), if_pos (by omega), if_pos (by omega), if_pos (by omega), if_pos (by omega), d1, d2]
        · rw [if_neg hz, if_neg hz]

end Go.Proofs.Ytmdaaphjndjakac.LAll
