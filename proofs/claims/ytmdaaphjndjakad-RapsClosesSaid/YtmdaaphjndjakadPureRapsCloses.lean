/- The law RapsCloses holds: the bytes of any message, at any level, or what is wrong with it, are the document's: for every input. -/
import Derived.Test.YtmdaaphjndjakadLRefRapsAll
import Derived.Test.YtmdaaphjndjakadPAllx20
namespace Go.Proofs.Ytmdaaphjndjakad.Pure
open Go.RowKit Go.Proofs.Ytmdaaphjndjakad.PAll Go.Proofs.YtmdaaphjndjakadW.PrintWords Go.Proofs.YtmdaaphjndjakadW.PrintLast Go.Proofs.YtmdaaphjndjakadW.PrintMore Go.Proofs.Ytmdaaphjndjakad Go.Proofs.Ytmdaaphjndjakad.LAll
set_option linter.unusedVariables false

theorem rc_awake : Ev (fun k => carousellaw05_Awake.f k) true :=
  Ev.of carousellaw05_Awake.mono (k := 60) (by decide +kernel)
theorem rc_u8 {a : Int} (h : (Lit.int .u8 a).wf = true) : isU8 a := by
  have h' : IntKind.u8.min ≤ a ∧ a ≤ IntKind.u8.max := by simpa [Lit.wf] using h
  exact h'
theorem rc_u64 {a : Int} (h : (Lit.int .u64 a).wf = true) : 0 ≤ a ∧ a ≤ 18446744073709551615 := by
  have h' : IntKind.u64.min ≤ a ∧ a ≤ IntKind.u64.max := by simpa [Lit.wf] using h
  exact h'

theorem RapsCloses : carousellaw05_RapsCloses.Pure := by
  intro r b kp e n lv w0 w1 w2
  have hr := rc_u8 w0
  have hn := rc_u64 w1
  have hlv := rc_u8 w2
  have h1 := ev_raps_close r b kp e n lv hr hn.1 hlv
  have h2 := ev_rf_close r b kp e n lv hr hn.1 hlv
  have hgo : Ev (fun k => carousellaw05_RapsCloses.f k r b kp e n lv) true := by
    simp only [carousellaw05_RapsCloses.f, carousellaw05_Of.f, Option.bind_some]
    refine Ev.bind h1 ?_
    refine Ev.bind h2 ?_
    refine Ev.bind rc_awake ?_
    refine Ev.congr (fun k => ?_) (Ev.now true)
    simp
  exact hgo.rounds

end Go.Proofs.Ytmdaaphjndjakad.Pure
