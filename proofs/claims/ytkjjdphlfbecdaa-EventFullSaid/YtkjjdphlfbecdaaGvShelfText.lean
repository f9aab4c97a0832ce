/- (*strings.Builder).String at this seat: the shelf's contract, laid. -/
import Derived.Test.YtkjjdphlfbecdaaProg
import Derived.Shelf.Strings.BuilderK
namespace Go.Proofs.Ytkjjdphlfbecdaa
open Go.Shelf Go.Proofs Go.RowKit

def Try.lays169_ren : Go.Shelf.Ren := ⟨fun | 169 => 20 | n => n, fun | 70 => 48 | 9 => 9 | 0 => 0 | 72 => 50 | 37 => 46 | 127 => 71 | 3 => 3 | 5 => 5 | n => n, fun | n => n⟩
theorem Try.lays169 : Go.Proofs.Lays.n169 Try.prog Try.lays169_ren := {
  mixed := by kernel_rfl,
  f169 := Try.func20.trans (congrArg some (by kernel_rfl)),
  t0 := Try.underlying0,
  a0 := Try.isAgg0,
  z0 := Try.sizeOf0,
  v0 := Try.zeroValue0,
  t3 := Try.underlying3,
  a3 := Try.isAgg3,
  z3 := Try.sizeOf3,
  v3 := Try.zeroValue3,
  t9 := Try.underlying9,
  a9 := Try.isAgg9,
  z9 := Try.sizeOf9,
  v9 := Try.zeroValue9,
  t37 := Try.underlying46,
  a37 := Try.isAgg46,
  z37 := Try.sizeOf46,
  v37 := Try.zeroValue46,
  t70 := Try.underlying48,
  a70 := Try.isAgg48,
  z70 := Try.sizeOf48,
  v70 := Try.zeroValue48,
  t72 := Try.underlying50,
  a72 := Try.isAgg50,
  z72 := Try.sizeOf50,
  v72 := Try.zeroValue50,
  t127 := Try.underlying71,
  a127 := Try.isAgg71,
  z127 := Try.sizeOf71,
  v127 := Try.zeroValue71 }

theorem Try.extra169 : Builder.Extra Try.prog Try.lays169_ren := {
  sizeBuilder := by kernel_rfl,
  liesBuilder := by kernel_rfl,
  t5 := Try.underlying5,
  a5 := Try.isAgg5,
  z5 := Try.sizeOf5,
  v5 := Try.zeroValue5,
  infoByte := by kernel_rfl,
  cellsByte := by kernel_rfl,
  sizeByte := by kernel_rfl,
  neB5 := by decide }

namespace Gv
theorem bld_Text (B b : Nat) (l : List UInt8) (w : World) (h : Lib.IsBuilderF 50 5 B b (Lib.byteCells l) w) (hBw : B ≤ w.heap.size) :
    Calls Try.prog 20 #[.pointer (some ⟨b, 0, none⟩)] w fun e w' => e = .returned (.string ⟨l.toArray⟩) ∧ (Lib.IsBuilderF 50 5 B b (Lib.byteCells l) w' ∧ Below B w w' ∧ Lib.OthersKept 5 (some b) w w') :=
  Any.Builder_String_any_k Try.lays169 Try.extra169 B b l w h hBw

end Gv
end Go.Proofs.Ytkjjdphlfbecdaa
