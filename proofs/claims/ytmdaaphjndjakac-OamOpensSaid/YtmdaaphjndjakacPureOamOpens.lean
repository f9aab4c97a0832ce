/- The law OamOpens holds: the head and the content of any bytes, or what is wrong with them, are the document's: for every input. -/
import Derived.Test.YtmdaaphjndjakacLOamRefOpenAll
import Derived.Test.YtmdaaphjndjakacPAllx8
namespace Go.Proofs.Ytmdaaphjndjakac.Pure
open Go.RowKit Go.Proofs.Ytmdaaphjndjakac.PAll Go.Proofs.YtmdaaphjndjakacW.PrintWords Go.Proofs.YtmdaaphjndjakacW.PrintLast Go.Proofs.YtmdaaphjndjakacW.PrintMore Go.Proofs.Ytmdaaphjndjakac Go.Proofs.Ytmdaaphjndjakac.LAll
set_option linter.unusedVariables false

theorem oo_awake : carousellaw04_Awake.f = some true := by decide +kernel

theorem OamOpens : carousellaw04_OamOpens.Pure := by
  intro s _
  have hgo : Ev (fun k => carousellaw04_OamOpens.f k s) true := by
    by_cases hs : (s.size : Int) > 600
    · refine Ev.congr (f := fun _ => some true) (fun k => ?_) (Ev.now _)
      unfold carousellaw04_OamOpens.f
      rw [if_pos hs, oo_awake]; rfl
    · have h1 := ev_oam_open s (by omega)
      have h2 := ev_ref_open s (by omega)
      refine Ev.congr (fun k => ?_) (Ev.bind h1 (f := fun k a => (carouselref04_Open.f k s).bind fun b => if (a.1 == b.1 && (a.2.1 == b.2.1 && (a.2.2.1 == b.2.2.1 && (a.2.2.2.1 == b.2.2.2.1 && (a.2.2.2.2.1 == b.2.2.2.2.1))))) = true then (if a.2.2.2.2.2.1.toList = b.2.2.2.2.2.1.toList then (some (a.2.2.2.2.2.2 == b.2.2.2.2.2.2)) else (some false)) else (some false)) (Ev.bind h2 (Ev.congr (fun k => ?_) (Ev.now true))))
      · unfold carousellaw04_OamOpens.f
        rw [if_neg hs, oo_awake]
        simp only [Option.bind_some, if_true]
      · simp
  exact hgo.rounds

end Go.Proofs.Ytmdaaphjndjakac.Pure
