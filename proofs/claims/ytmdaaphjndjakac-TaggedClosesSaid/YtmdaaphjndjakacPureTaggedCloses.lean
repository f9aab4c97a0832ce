/- The law TaggedCloses holds: the bytes of any frame, or what is wrong with it, are the document's: for every input. -/
import Derived.Test.YtmdaaphjndjakacLRefTagAll
import Derived.Test.YtmdaaphjndjakacPAllx21
namespace Go.Proofs.Ytmdaaphjndjakac.Pure
open Go.RowKit Go.Proofs.Ytmdaaphjndjakac.PAll Go.Proofs.YtmdaaphjndjakacW.PrintWords Go.Proofs.YtmdaaphjndjakacW.PrintLast Go.Proofs.YtmdaaphjndjakacW.PrintMore Go.Proofs.Ytmdaaphjndjakac Go.Proofs.Ytmdaaphjndjakac.LAll
set_option linter.unusedVariables false
set_option linter.unusedSimpArgs false

theorem tc_awake : Ev (fun k => carousellaw03_Awake.f k) true :=
  Ev.of carousellaw03_Awake.mono (k := 60) (by decide +kernel)
theorem tc_u8 {a : Int} (h : (Lit.int .u8 a).wf = true) : 0 ≤ a ∧ a ≤ 255 := by
  have h' : IntKind.u8.min ≤ a ∧ a ≤ IntKind.u8.max := by simpa [Lit.wf] using h
  exact h'
theorem tc_u16 {a : Int} (h : (Lit.int .u16 a).wf = true) : 0 ≤ a ∧ a ≤ 65535 := by
  have h' : IntKind.u16.min ≤ a ∧ a ≤ IntKind.u16.max := by simpa [Lit.wf] using h
  exact h'
theorem tc_u64 {a : Int} (h : (Lit.int .u64 a).wf = true) : 0 ≤ a ∧ a ≤ 18446744073709551615 := by
  have h' : IntKind.u64.min ≤ a ∧ a ≤ IntKind.u64.max := by simpa [Lit.wf] using h
  exact h'

theorem TaggedCloses : carousellaw03_TaggedCloses.Pure := by
  intro d s p b v t body w0 w1 w2 w3 w4 _
  have hd := tc_u64 w0; have hs := tc_u64 w1; have hp := tc_u8 w2; have hv := tc_u16 w3; have ht := tc_u16 w4
  have hgo : Ev (fun k => carousellaw03_TaggedCloses.f k d s p b v t body) true := by
    simp only [carousellaw03_TaggedCloses.f]
    by_cases hz : (body.size : Int) > 2000
    · simp only [if_pos hz]
      exact Ev.bind tc_awake (f := fun _ x => some x) (Ev.now _)
    · simp only [if_neg hz]
      have h1 := ev_tclose d s p b v t body hd.1 hs.1 hp.1 hv.1 ht.1 ht.2
      have h2 := ev_rtclose d s p b v t body hd.1 hs.1 hp.1 hv.1 ht.1 ht.2 (by omega)
      refine Ev.bind h1 ?_
      simp only [carousellaw03_Of.f, Option.bind_some]
      refine Ev.bind h2 ?_
      refine Ev.bind tc_awake ?_
      refine Ev.congr (fun k => ?_) (Ev.now true)
      simp
  exact hgo.rounds

end Go.Proofs.Ytmdaaphjndjakac.Pure
