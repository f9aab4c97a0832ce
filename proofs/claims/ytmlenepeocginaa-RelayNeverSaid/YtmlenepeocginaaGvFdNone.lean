/- Tables of addresses: the sort of no row. -/
import Derived.Test.YtmlenepeocginaaGvFdSort
import Derived.Shelf.SlSortCmp.NoneTotal
namespace Go.Proofs.Ytmlenepeocginaa.Gv
open Go.Shelf Go.RowKit
theorem sort_none_calls (p : Option Addr) (cap : Nat) (fv : Value) (w : World) : Calls Try.prog 47 #[.slice p 0 cap, fv] w fun e w' => e = .returned (.tuple #[]) ∧ w' = w :=
  AnyF.slices_SortFunc_none Try.sort47 p cap fv w
end Go.Proofs.Ytmlenepeocginaa.Gv
