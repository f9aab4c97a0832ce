-- Written by a program of this work, after the translation.
import Derived.Test.YtapicoienpbdfaaPWatchSendsx6
import Derived.Test.YtapicoienpbdfaaGwSends
namespace Go.Proofs.Ytapicoienpbdfaa.PWatchSends
open Go.RowKit Go.Proofs.YtapicoienpbdfaaW.PrintWords Go.Proofs.YtapicoienpbdfaaW.PrintLast Go.Proofs.YtapicoienpbdfaaW.PrintMore
set_option linter.unusedVariables false
set_option linter.unusedSimpArgs false

/-! ### carousellaw09_WatchSends: function 5 (given: its walk is in another text) -/

def carousellaw09_WatchSends.Pure : Prop := True
theorem carousellaw09_WatchSends.walk (P : carousellaw09_WatchSends.Pure) (a0 a1 : Int) (w : World) (w0_0 : (Lit.int .u8 a0).wf = true) (w1_0 : (Lit.int .u16 a1).wf = true) :
    Calls Try.prog 5 #[.int .u8 a0, .int .u16 a1] w fun e w' => e = .returned (.bool true) ∧ Below w.heap.size w w' := by
  have h0 : IntKind.u8.min ≤ a0 ∧ a0 ≤ IntKind.u8.max := by simpa [Lit.wf] using w0_0
  have h1 : IntKind.u16.min ≤ a1 ∧ a1 ≤ IntKind.u16.max := by simpa [Lit.wf] using w1_0
  exact Go.Proofs.Ytapicoienpbdfaa.Se.sends a0 a1 w h0 h1


end Go.Proofs.Ytapicoienpbdfaa.PWatchSends
