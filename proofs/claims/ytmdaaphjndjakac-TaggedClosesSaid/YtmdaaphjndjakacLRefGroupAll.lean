/- An address: whether it is one, a group's: the document's. -/
import Derived.Test.YtmdaaphjndjakacLMacAll
import Derived.Test.YtmdaaphjndjakacPAllx16
namespace Go.Proofs.Ytmdaaphjndjakac.LAll
open Go.RowKit Go.Proofs.Ytmdaaphjndjakac.PAll Go.Proofs.YtmdaaphjndjakacW.PrintWords Go.Proofs.YtmdaaphjndjakacW.PrintLast Go.Proofs.YtmdaaphjndjakacW.PrintMore Go.Proofs.Ytmdaaphjndjakac
set_option linter.unusedVariables false

theorem rm_may (n : Int) : carouselref02_May.f n = some (decide (n < 281474976710656)) := rfl
theorem rm_group (n : Int) (h0 : 0 ≤ n) (h1 : n < 281474976710656) : carouselref02_Group.f n = some (n / 1099511627776 % 2 == 1) := by
  unfold carouselref02_Group.f
  rw [rm_may, Option.bind_some, if_pos (by simpa using h1), Int.tdiv_eq_ediv_of_nonneg h0, mg_u64 (by omega) (by omega), Int.tmod_eq_emod_of_nonneg (by omega)]

end Go.Proofs.Ytmdaaphjndjakac.LAll
