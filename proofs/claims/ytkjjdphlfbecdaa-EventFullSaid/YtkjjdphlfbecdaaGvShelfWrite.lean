/- (*strings.Builder).WriteString at this seat: the shelf's contract, laid. -/
import Derived.Test.YtkjjdphlfbecdaaProg
import Derived.Shelf.Strings.BuilderK
namespace Go.Proofs.Ytkjjdphlfbecdaa
open Go.Shelf Go.Proofs Go.RowKit

def Try.lays166_ren : Go.Shelf.Ren := ⟨fun | 166 => 19 | 240 => 24 | 276 => 27 | n => n, fun | 70 => 48 | 9 => 9 | 3 => 3 | 75 => 57 | 0 => 0 | 72 => 50 | 37 => 46 | 4 => 4 | 164 => 75 | 80 => 37 | 5 => 5 | n => n, fun | n => n⟩
theorem Try.lays166 : Go.Proofs.Lays.n166 Try.prog Try.lays166_ren := {
  mixed := by kernel_rfl,
  f166 := Try.func19.trans (congrArg some (by kernel_rfl)),
  f240 := Try.func24.trans (congrArg some (by kernel_rfl)),
  f276 := Try.func27.trans (congrArg some (by kernel_rfl)),
  t0 := Try.underlying0,
  a0 := Try.isAgg0,
  z0 := Try.sizeOf0,
  v0 := Try.zeroValue0,
  t3 := Try.underlying3,
  a3 := Try.isAgg3,
  z3 := Try.sizeOf3,
  v3 := Try.zeroValue3,
  t4 := Try.underlying4,
  a4 := Try.isAgg4,
  z4 := Try.sizeOf4,
  v4 := Try.zeroValue4,
  t9 := Try.underlying9,
  a9 := Try.isAgg9,
  z9 := Try.sizeOf9,
  v9 := Try.zeroValue9,
  t20 := Try.underlying20,
  a20 := Try.isAgg20,
  z20 := Try.sizeOf20,
  v20 := Try.zeroValue20,
  t37 := Try.underlying46,
  a37 := Try.isAgg46,
  z37 := Try.sizeOf46,
  v37 := Try.zeroValue46,
  t70 := Try.underlying48,
  a70 := Try.isAgg48,
  z70 := Try.sizeOf48,
  v70 := Try.zeroValue48,
  t72 := Try.underlying50,
  a72 := Try.isAgg50,
  z72 := Try.sizeOf50,
  v72 := Try.zeroValue50,
  t75 := Try.underlying57,
  a75 := Try.isAgg57,
  z75 := Try.sizeOf57,
  v75 := Try.zeroValue57,
  t164 := Try.underlying75,
  a164 := Try.isAgg75,
  z164 := Try.sizeOf75,
  v164 := Try.zeroValue75 }

theorem Try.extra166 : Builder.Extra Try.prog Try.lays166_ren := {
  sizeBuilder := by kernel_rfl,
  liesBuilder := by kernel_rfl,
  t5 := Try.underlying5,
  a5 := Try.isAgg5,
  z5 := Try.sizeOf5,
  v5 := Try.zeroValue5,
  infoByte := by kernel_rfl,
  cellsByte := by kernel_rfl,
  sizeByte := by kernel_rfl,
  neB5 := by decide }

namespace Gv
theorem bld_Write (B b : Nat) (bs : List Value) (s : ByteArray) (w : World) (h : Lib.IsBuilderF 50 5 B b bs w) (hlen : bs.length + s.size ≤ 140737488355328) (hBw : B ≤ w.heap.size) :
    Calls Try.prog 19 #[.pointer (some ⟨b, 0, none⟩), .string s] w fun e w' => e = .returned (.tuple #[.int .i64 s.size, .nilIface]) ∧ (Lib.BuilderAtF 50 5 B b (.pointer (some ⟨b, 0, none⟩)) (bs ++ Lib.strCells s) w' ∧ Below B w w' ∧ Lib.OthersKept 5 (some b) w w') :=
  Any.Builder_WriteString_k Try.lays166 Try.extra166 B b bs s w h hlen hBw

end Gv
end Go.Proofs.Ytkjjdphlfbecdaa
