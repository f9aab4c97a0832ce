/- strings.Join at this seat: the shelf's contract, laid. -/
import Derived.Test.YtmdaaphjndjakadProg
import Derived.Shelf.Strings.OnBuilder
namespace Go.Proofs.Ytmdaaphjndjakad
open Go.Shelf Go.Proofs Go.RowKit

def Try.lays156_ren : Go.Shelf.Ren := ⟨fun | 156 => 49 | 165 => 57 | 166 => 58 | 169 => 59 | 240 => 61 | 241 => 62 | 276 => 63 | 277 => 64 | n => n, fun | 31 => 92 | 9 => 9 | 3 => 3 | 4 => 4 | 0 => 0 | 20 => 20 | 72 => 110 | 76 => 114 | 70 => 108 | 37 => 60 | 75 => 113 | 127 => 116 | 164 => 117 | 5 => 5 | 80 => 67 | n => n, fun | n => n⟩
theorem Try.lays156 : Go.Proofs.Lays.n156 Try.prog Try.lays156_ren := {
  mixed := by kernel_rfl,
  f156 := Try.func49.trans (congrArg some (by kernel_rfl)),
  f165 := Try.func57.trans (congrArg some (by kernel_rfl)),
  f166 := Try.func58.trans (congrArg some (by kernel_rfl)),
  f169 := Try.func59.trans (congrArg some (by kernel_rfl)),
  f240 := Try.func61.trans (congrArg some (by kernel_rfl)),
  f241 := Try.func62.trans (congrArg some (by kernel_rfl)),
  f276 := Try.func63.trans (congrArg some (by kernel_rfl)),
  f277 := Try.func64.trans (congrArg some (by kernel_rfl)),
  t0 := Try.underlying0,
  a0 := Try.isAgg0,
  z0 := Try.sizeOf0,
  v0 := Try.zeroValue0,
  t3 := Try.underlying3,
  a3 := Try.isAgg3,
  z3 := Try.sizeOf3,
  v3 := Try.zeroValue3,
  t4 := Try.underlying4,
  a4 := Try.isAgg4,
  z4 := Try.sizeOf4,
  v4 := Try.zeroValue4,
  t9 := Try.underlying9,
  a9 := Try.isAgg9,
  z9 := Try.sizeOf9,
  v9 := Try.zeroValue9,
  t20 := Try.underlying20,
  a20 := Try.isAgg20,
  z20 := Try.sizeOf20,
  v20 := Try.zeroValue20,
  t31 := Try.underlying92,
  a31 := Try.isAgg92,
  z31 := Try.sizeOf92,
  v31 := Try.zeroValue92,
  t37 := Try.underlying60,
  a37 := Try.isAgg60,
  z37 := Try.sizeOf60,
  v37 := Try.zeroValue60,
  t70 := Try.underlying108,
  a70 := Try.isAgg108,
  z70 := Try.sizeOf108,
  v70 := Try.zeroValue108,
  t72 := Try.underlying110,
  a72 := Try.isAgg110,
  z72 := Try.sizeOf110,
  v72 := Try.zeroValue110,
  t75 := Try.underlying113,
  a75 := Try.isAgg113,
  z75 := Try.sizeOf113,
  v75 := Try.zeroValue113,
  t76 := Try.underlying114,
  a76 := Try.isAgg114,
  z76 := Try.sizeOf114,
  v76 := Try.zeroValue114,
  t127 := Try.underlying116,
  a127 := Try.isAgg116,
  z127 := Try.sizeOf116,
  v127 := Try.zeroValue116,
  t164 := Try.underlying117,
  a164 := Try.isAgg117,
  z164 := Try.sizeOf117,
  v164 := Try.zeroValue117 }

theorem Try.extra156 : Builder.Extra Try.prog Try.lays156_ren := {
  sizeBuilder := by kernel_rfl,
  liesBuilder := by kernel_rfl,
  t5 := Try.underlying5,
  a5 := Try.isAgg5,
  z5 := Try.sizeOf5,
  v5 := Try.zeroValue5,
  infoByte := by kernel_rfl,
  cellsByte := by kernel_rfl,
  sizeByte := by kernel_rfl,
  neB5 := by decide }

namespace Gv
theorem strings_Join (bk o c : Nat) (xs : List ByteArray) (sep : ByteArray) (w : World) (hcells : ∀ (j : Nat) x, xs[j]? = some x → w.cell? ⟨bk, o + j, none⟩ = some (.string x)) (hbk : bk < w.heap.size) (hN : xs.length ≤ 140737488355328) (hcap : xs.length ≤ c) (hlen : (Lib.join (xs.map (·.data.toList)) sep.data.toList).length ≤ 140737488355328) :
    Calls Try.prog 49 #[.slice (some ⟨bk, o, none⟩) xs.length c, .string sep] w fun e w' => e = .returned (.string ⟨(Lib.join (xs.map (·.data.toList)) sep.data.toList).toArray⟩) ∧ Below w.heap.size w w' :=
  Any.strings_Join Try.lays156 Try.extra156 bk o c xs sep w hcells hbk hN hcap hlen
theorem strings_Join_none (a : Option Addr) (c : Nat) (sep : ByteArray) (w : World) :
    Calls Try.prog 49 #[.slice a 0 c, .string sep] w fun e w' => e = .returned (.string ⟨#[]⟩) ∧ w' = w :=
  Any.strings_Join_none Try.lays156 Try.extra156 a c sep w

end Gv
end Go.Proofs.Ytmdaaphjndjakad
