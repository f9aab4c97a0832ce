/- An address: whether it is one, and a group's: the program's. -/
import Derived.Test.YtmdaaphjndjakaeGvBit
import Derived.Test.YtmdaaphjndjakaePAllx3
namespace Go.Proofs.Ytmdaaphjndjakae.LAll
open Go.RowKit Go.Proofs.Ytmdaaphjndjakae.PAll Go.Proofs.YtmdaaphjndjakaeW.PrintWords Go.Proofs.YtmdaaphjndjakaeW.PrintLast Go.Proofs.YtmdaaphjndjakaeW.PrintMore Go.Proofs.Ytmdaaphjndjakae
set_option linter.unusedVariables false
set_option linter.unusedSimpArgs false

theorem mg_wrap {n : Int} (h0 : -9223372036854775808 ≤ n) (h1 : n ≤ 9223372036854775807) : wrap64 n = n := by unfold wrap64; omega
theorem mg_u64 {n : Int} (h0 : 0 ≤ n) (h1 : n ≤ 18446744073709551615) : IntKind.u64.wrap n = n := by simp [IntKind.wrap, IntKind.bits, IntKind.signed]; omega
theorem mg_may (n : Int) : mac_Addr_May.f n = some (decide (n < 281474976710656)) := by
  unfold mac_Addr_May.f
  have : (n ≤ 281474976710655) = (n < 281474976710656) := by apply propext; omega
  simp [this]
theorem mg_group (n : Int) (h0 : 0 ≤ n) (h1 : n < 281474976710656) : mac_Addr_Group.f n = some (n / 1099511627776 % 2 == 1) := by
  unfold mac_Addr_Group.f
  rw [mg_may, Option.bind_some, if_pos (by simpa using h1), Gv.and_one _ (by omega) (by omega)]

end Go.Proofs.Ytmdaaphjndjakae.LAll
