/- strings.Join at this seat: the shelf's contract, laid. -/
import Derived.Test.YtmdaaphjndjakafProg
import Derived.Shelf.Strings.OnBuilder
namespace Go.Proofs.Ytmdaaphjndjakaf
open Go.Shelf Go.Proofs Go.RowKit

def Try.lays156_ren : Go.Shelf.Ren := ⟨fun | 156 => 41 | 165 => 66 | 166 => 67 | 169 => 68 | 240 => 78 | 241 => 79 | 276 => 84 | 277 => 85 | n => n, fun | 31 => 78 | 9 => 9 | 3 => 3 | 4 => 4 | 0 => 0 | 20 => 20 | 72 => 112 | 76 => 116 | 70 => 110 | 37 => 79 | 75 => 115 | 127 => 129 | 164 => 136 | 5 => 5 | 80 => 42 | n => n, fun | n => n⟩
theorem Try.lays156 : Go.Proofs.Lays.n156 Try.prog Try.lays156_ren := {
  mixed := by kernel_rfl,
  f156 := Try.func41.trans (congrArg some (by kernel_rfl)),
  f165 := Try.func66.trans (congrArg some (by kernel_rfl)),
  f166 := Try.func67.trans (congrArg some (by kernel_rfl)),
  f169 := Try.func68.trans (congrArg some (by kernel_rfl)),
  f240 := Try.func78.trans (congrArg some (by kernel_rfl)),
  f241 := Try.func79.trans (congrArg some (by kernel_rfl)),
  f276 := Try.func84.trans (congrArg some (by kernel_rfl)),
  f277 := Try.func85.trans (congrArg some (by kernel_rfl)),
  t0 := Try.underlying0,
  a0 := Try.isAgg0,
  z0 := Try.sizeOf0,
  v0 := Try.zeroValue0,
  t3 := Try.underlying3,
  a3 := Try.isAgg3,
  z3 := Try.sizeOf3,
  v3 := Try.zeroValue3,
  t4 := Try.underlying4,
  a4 := Try.isAgg4,
  z4 := Try.sizeOf4,
  v4 := Try.zeroValue4,
  t9 := Try.underlying9,
  a9 := Try.isAgg9,
  z9 := Try.sizeOf9,
  v9 := Try.zeroValue9,
  t20 := Try.underlying20,
  a20 := Try.isAgg20,
  z20 := Try.sizeOf20,
  v20 := Try.zeroValue20,
  t31 := Try.underlying78,
  a31 := Try.isAgg78,
  z31 := Try.sizeOf78,
  v31 := Try.zeroValue78,
  t37 := Try.underlying79,
  a37 := Try.isAgg79,
  z37 := Try.sizeOf79,
  v37 := Try.zeroValue79,
  t70 := Try.underlying110,
  a70 := Try.isAgg110,
  z70 := Try.sizeOf110,
  v70 := Try.zeroValue110,
  t72 := Try.underlying112,
  a72 := Try.isAgg112,
  z72 := Try.sizeOf112,
  v72 := Try.zeroValue112,
  t75 := Try.underlying115,
  a75 := Try.isAgg115,
  z75 := Try.sizeOf115,
  v75 := Try.zeroValue115,
  t76 := Try.underlying116,
  a76 := Try.isAgg116,
  z76 := Try.sizeOf116,
  v76 := Try.zeroValue116,
  t127 := Try.underlying129,
  a127 := Try.isAgg129,
  z127 := Try.sizeOf129,
  v127 := Try.zeroValue129,
  t164 := Try.underlying136,
  a164 := Try.isAgg136,
  z164 := Try.sizeOf136,
  v164 := Try.zeroValue136 }

theorem Try.extra156 : Builder.Extra Try.prog Try.lays156_ren := {
  sizeBuilder := by kernel_rfl,
  liesBuilder := by kernel_rfl,
  t5 := Try.underlying5,
  a5 := Try.isAgg5,
  z5 := Try.sizeOf5,
  v5 := Try.zeroValue5,
  infoByte := by kernel_rfl,
  cellsByte := by kernel_rfl,
  sizeByte := by kernel_rfl,
  neB5 := by decide }

namespace Gv
theorem strings_Join (bk o c : Nat) (xs : List ByteArray) (sep : ByteArray) (w : World) (hcells : ∀ (j : Nat) x, xs[j]? = some x → w.cell? ⟨bk, o + j, none⟩ = some (.string x)) (hbk : bk < w.heap.size) (hN : xs.length ≤ 140737488355328) (hcap : xs.length ≤ c) (hlen : (Lib.join (xs.map (·.data.toList)) sep.data.toList).length ≤ 140737488355328) :
    Calls Try.prog 41 #[.slice (some ⟨bk, o, none⟩) xs.length c, .string sep] w fun e w' => e = .returned (.string ⟨(Lib.join (xs.map (·.data.toList)) sep.data.toList).toArray⟩) ∧ Below w.heap.size w w' :=
  Any.strings_Join Try.lays156 Try.extra156 bk o c xs sep w hcells hbk hN hcap hlen
theorem strings_Join_none (a : Option Addr) (c : Nat) (sep : ByteArray) (w : World) :
    Calls Try.prog 41 #[.slice a 0 c, .string sep] w fun e w' => e = .returned (.string ⟨#[]⟩) ∧ w' = w :=
  Any.strings_Join_none Try.lays156 Try.extra156 a c sep w

end Gv
end Go.Proofs.Ytmdaaphjndjakaf
