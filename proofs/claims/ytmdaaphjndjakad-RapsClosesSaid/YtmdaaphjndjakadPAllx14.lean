-- Written by a program of this work, after the translation.
import Derived.Test.YtmdaaphjndjakadPAllx0
namespace Go.Proofs.Ytmdaaphjndjakad.PAll
open Go.RowKit Go.Proofs.YtmdaaphjndjakadW.PrintWords Go.Proofs.YtmdaaphjndjakadW.PrintLast Go.Proofs.YtmdaaphjndjakadW.PrintMore
attribute [local go_sem] max2_int min2_int max_two min_two max_three min_three max_four min_four   -- for this text's walks alone
set_option linter.unusedVariables false
set_option linter.unusedSimpArgs false

/-! ### carouselref02_May: function 26 -/
def carouselref02_May.f (a0 : Int) : Option (Bool) := some (decide (a0 < 281474976710656))
set_option maxHeartbeats 8000000 in
set_option maxRecDepth 100000 in
theorem carouselref02_May.calls (a0 : Int) (r : Bool) (w : World) (h : carouselref02_May.f a0 = some r) :
    Calls Try.prog 26 #[.int .u64 a0] w fun e w' => e = .returned (.bool r) ∧ Drawn0 w w' := by
  have H : (some (decide (a0 < 281474976710656))) = some r := h
  clear h
  obtain rfl := Option.some.inj H
  go_enter Try.func26, Try.ntmps26
  go_wp2
  go_ret
  exact ⟨by first | rfl | (simp; done) | (simp [*]; done), by repeat (first | exact Drawn0.refl _ | apply Drawn0.step)⟩

end Go.Proofs.Ytmdaaphjndjakad.PAll
