/- SlLaysW.n5 laid at this seat. -/
import Derived.Test.YtmlenepeocginaaProg
import Derived.Shelf.SlLaysW
namespace Go.Proofs.Ytmlenepeocginaa
open Go.Shelf Go.Proofs

def Try.clone28_ren : Go.Shelf.Ren := ⟨fun | 5 => 28 | 7 => 51 | n => n, fun | 23 => 24 | 25 => 69 | 3 => 64 | 4 => 4 | 20 => 20 | n => n, fun | n => n⟩
theorem Try.clone28 : Go.Proofs.SlLaysW.n5 Try.prog Try.clone28_ren := {
  mixed := by kernel_rfl,
  f5 := ⟨"maps.Clone[map[carousel/fdb.key]carousel/fdb.Row,carousel/fdb.key,carousel/fdb.Row]", by decide, Try.func28.trans (congrArg some (by kernel_rfl))⟩,
  f7 := Try.func51.trans (congrArg some (by kernel_rfl)),
  t4 := Try.underlying4,
  a4 := Try.isAgg4,
  z4 := Try.sizeOf4,
  v4 := Try.zeroValue4,
  t20 := Try.underlying20,
  a20 := Try.isAgg20,
  z20 := Try.sizeOf20,
  v20 := Try.zeroValue20,
  t23 := Try.underlying24,
  a23 := Try.isAgg24,
  z23 := Try.sizeOf24,
  v23 := Try.zeroValue24 }

end Go.Proofs.Ytmlenepeocginaa
