-- Written by a program of this work, after the translation.
import Derived.Test.YtmdaaphjndjakafProg
import Derived.Below
import Derived.Deep.Draws
import Derived.Deep.AppendLies
import Derived.Maps.AppendAt
import Derived.OwnWalk
import Derived.Laws.BytesArg
import Derived.Laws.MakeOwn
import Derived.Laws.OwnMore
import Derived.Deep.OwnRows
import Derived.Tactics
import Derived.Lib.ConvBytes
import Derived.Laws.Slices
import Derived.WalkKit
import Derived.KernelRfl
import Derived.RowKit3
import Derived.Deep.LoopGhost
import Derived.Deep.QuietTactic
import Derived.BigQuiet
import Derived.WideLaws
import Derived.Deep.DeepCutAuto
import Derived.Deep.CutBlock
import Derived.Deep.RegionHeld3
import Derived.Laws.Rows
import Derived.Lib.AppendStr
import Derived.ArgAppend
import Derived.Laws.IdiomCopy
import Derived.OrdersHeld
import Derived.Laws.BitsLemmas
import Derived.RowKit
import Derived.Test.YtmdaaphjndjakafWWords
import Derived.Test.YtmdaaphjndjakafWLast
import Derived.Test.YtmdaaphjndjakafWTab
import Derived.Test.YtmdaaphjndjakafWFour
import Derived.Test.YtmdaaphjndjakafWQPut
import Derived.Test.YtmdaaphjndjakafWApart
import Derived.Test.YtmdaaphjndjakafWArr
import Derived.Test.YtmdaaphjndjakafWZeros
import Derived.Test.YtmdaaphjndjakafWFoot
import Derived.Test.YtmdaaphjndjakafWKept
import Derived.Test.YtmdaaphjndjakafWShare
import Derived.Test.YtmdaaphjndjakafWN
import Derived.Test.YtmdaaphjndjakafWFootNe
import Derived.Test.YtmdaaphjndjakafWAt
import Derived.Test.YtmdaaphjndjakafWEqStruct
import Derived.Test.YtmdaaphjndjakafWRepsOne
import Derived.Test.YtmdaaphjndjakafWInv
import Derived.Test.YtmdaaphjndjakafWInvWords
import Derived.Test.YtmdaaphjndjakafWGuard
import Derived.Test.YtmdaaphjndjakafWNEv
import Derived.Test.YtmdaaphjndjakafWMore
import Derived.Test.YtmdaaphjndjakafGvIndex
import Derived.Test.YtmdaaphjndjakafGvPack
import Derived.Test.YtmdaaphjndjakafGvShelfRepeat
namespace Go.Proofs.Ytmdaaphjndjakaf.PPlanChecks
open Go.RowKit Go.Proofs.YtmdaaphjndjakafW.PrintWords Go.Proofs.YtmdaaphjndjakafW.PrintLast Go.Proofs.YtmdaaphjndjakafW.PrintMore
attribute [local go_sem] max2_int min2_int max_two min_two max_three min_three max_four min_four   -- for this text's walks alone
set_option linter.unusedVariables false
set_option linter.unusedSimpArgs false



def errW : Option Int → Value
  | none => .nilIface
  | some c => .iface 0 (.int .i64 c)
theorem errW_none : errW none = .nilIface := rfl
theorem errW_some (c : Int) : errW (some c) = .iface 0 (.int .i64 c) := rfl

theorem info2 : (Try.prog.info? 2).map (fun i => (i.zero, i.size, i.bytes)) = some (some (.int .i64 0), 1, 8) := by kernel_rfl
theorem info75 : (Try.prog.info? 75).map (fun i => (i.zero, i.size, i.bytes)) = some (some (.agg #[(.int .i64 0), (.int .u64 0)]), 2, 16) := by kernel_rfl
-- the values' own types
/-! #### struct type 75 -/
structure S75 where
  f0 : Int
  f1 : Int
def z75 : S75 := ⟨(0 : Int), (0 : Int)⟩
def k75 : Kd S75 := Kd.iso (Kd.pair (Kd.int .i64) (Kd.int .u64)) (fun x : S75 => (x.f0, x.f1))
theorem k75_open {w : World} {x : S75} {cs : List Value} (h : k75.K w x cs) : cs = [.int .i64 x.f0, .int .u64 x.f1] := by
  obtain ⟨_, _, rfl, rfl, rfl⟩ := h
  exact rfl
theorem k75_openM {w : World} {base : Nat} {ok : Nat → Prop} {x : S75} {cs : List Value} (h : k75.M w base ok x cs) : cs = [.int .i64 x.f0, .int .u64 x.f1] := by
  obtain ⟨_, _, rfl, rfl, rfl⟩ := h
  exact rfl
theorem k75_mk (w : World) (x : S75)  : k75.K w x [.int .i64 x.f0, .int .u64 x.f1] := ⟨[.int .i64 x.f0], [.int .u64 x.f1], rfl, rfl, rfl⟩
theorem k75_mkM (w : World) (base : Nat) (ok : Nat → Prop) (x : S75)  : k75.M w base ok x [.int .i64 x.f0, .int .u64 x.f1] := ⟨[.int .i64 x.f0], [.int .u64 x.f1], rfl, rfl, rfl⟩
def rd_T75 (xs : List S75) (i : Int) : S75 := xs.getD i.toNat z75
theorem at_T75 {w : World} {A : Option Addr} {n : Nat} {xs : List S75} (h : Kd.C k75 w A n xs) (i : Int) (h0 : 0 ≤ i) (h1 : i < n) : ∃ ad , A = some ad ∧ w.cell? (ad.add (i.toNat * 2)) = some (.int .i64 (rd_T75 xs i).f0) ∧ w.cell? ⟨(ad.add (i.toNat * 2)).block, (ad.add (i.toNat * 2)).off + 1, none⟩ = some (.int .u64 (rd_T75 xs i).f1) := by
  obtain ⟨ad, c, e, _, hK, hc0⟩ := Kd.C_get h z75 i h0 h1
  have hc : ∀ j u, c[j]? = some u → w.cell? (ad.add (i.toNat * 2 + j)) = some u := hc0
  obtain rfl := k75_open hK
  exact ⟨ad, e, hc 0 _ rfl, by rw [← add_field _ _ 1 (by omega)]; exact hc 1 _ rfl⟩

def rd_L3 (xs : List (List S75)) (i : Int) : (List S75) := xs.getD i.toNat ([] : List S75)
theorem at_L3 {w : World} {A : Option Addr} {n : Nat} {xs : List (List S75)} (h : Kd.C (Kd.slice 75 k75) w A n xs) (i : Int) (h0 : 0 ≤ i) (h1 : i < n) : ∃ ad A0 c0, A = some ad ∧ w.cell? (ad.add i.toNat) = some (.slice A0 (rd_L3 xs i).length c0) ∧ (rd_L3 xs i).length ≤ c0 ∧ k75.C w A0 (rd_L3 xs i).length (rd_L3 xs i) := by
  obtain ⟨ad, c, e, _, hK, hc0⟩ := Kd.C_get h ([] : List S75) i h0 h1
  have hc : ∀ j u, c[j]? = some u → w.cell? (ad.add (i.toNat * 1 + j)) = some u := hc0
  obtain ⟨A0, c0, rfl, l0, g0⟩ := hK
  exact ⟨ad, A0, c0, e, by have hq := hc 0 _ rfl; rwa [Nat.mul_one, Nat.add_zero] at hq, l0, g0⟩

/-! #### struct type 63 -/
structure S63 where
  f0 : Int
  f1 : Int
  f2 : Int
  f3 : Int
  f4 : Int
  f5 : Int
  f6 : Int
  f7 : Int
  f8 : Int
  f9 : Int
  f10 : Int
  f11 : Int
  f12 : Int
  f13 : Int
  f14 : Int
  f15 : Bool
def z63 : S63 := ⟨(0 : Int), (0 : Int), (0 : Int), (0 : Int), (0 : Int), (0 : Int), (0 : Int), (0 : Int), (0 : Int), (0 : Int), (0 : Int), (0 : Int), (0 : Int), (0 : Int), (0 : Int), false⟩
def k63 : Kd S63 := Kd.iso (Kd.pair (Kd.int .i64) (Kd.pair (Kd.int .i64) (Kd.pair (Kd.int .u8) (Kd.pair (Kd.int .u16) (Kd.pair (Kd.int .u16) (Kd.pair (Kd.int .i64) (Kd.pair (Kd.int .i64) (Kd.pair (Kd.int .i64) (Kd.pair (Kd.int .i64) (Kd.pair (Kd.int .i64) (Kd.pair (Kd.int .i64) (Kd.pair (Kd.int .i64) (Kd.pair (Kd.int .i64) (Kd.pair (Kd.int .i64) (Kd.pair (Kd.int .i64) Kd.bool))))))))))))))) (fun x : S63 => (x.f0, x.f1, x.f2, x.f3, x.f4, x.f5, x.f6, x.f7, x.f8, x.f9, x.f10, x.f11, x.f12, x.f13, x.f14, x.f15))
theorem k63_open {w : World} {x : S63} {cs : List Value} (h : k63.K w x cs) : cs = [.int .i64 x.f0, .int .i64 x.f1, .int .u8 x.f2, .int .u16 x.f3, .int .u16 x.f4, .int .i64 x.f5, .int .i64 x.f6, .int .i64 x.f7, .int .i64 x.f8, .int .i64 x.f9, .int .i64 x.f10, .int .i64 x.f11, .int .i64 x.f12, .int .i64 x.f13, .int .i64 x.f14, .bool x.f15] := by
  obtain ⟨_, _, rfl, rfl, ⟨_, _, rfl, rfl, ⟨_, _, rfl, rfl, ⟨_, _, rfl, rfl, ⟨_, _, rfl, rfl, ⟨_, _, rfl, rfl, ⟨_, _, rfl, rfl, ⟨_, _, rfl, rfl, ⟨_, _, rfl, rfl, ⟨_, _, rfl, rfl, ⟨_, _, rfl, rfl, ⟨_, _, rfl, rfl, ⟨_, _, rfl, rfl, ⟨_, _, rfl, rfl, ⟨_, _, rfl, rfl, rfl⟩⟩⟩⟩⟩⟩⟩⟩⟩⟩⟩⟩⟩⟩⟩ := h
  exact rfl
theorem k63_openM {w : World} {base : Nat} {ok : Nat → Prop} {x : S63} {cs : List Value} (h : k63.M w base ok x cs) : cs = [.int .i64 x.f0, .int .i64 x.f1, .int .u8 x.f2, .int .u16 x.f3, .int .u16 x.f4, .int .i64 x.f5, .int .i64 x.f6, .int .i64 x.f7, .int .i64 x.f8, .int .i64 x.f9, .int .i64 x.f10, .int .i64 x.f11, .int .i64 x.f12, .int .i64 x.f13, .int .i64 x.f14, .bool x.f15] := by
  obtain ⟨_, _, rfl, rfl, ⟨_, _, rfl, rfl, ⟨_, _, rfl, rfl, ⟨_, _, rfl, rfl, ⟨_, _, rfl, rfl, ⟨_, _, rfl, rfl, ⟨_, _, rfl, rfl, ⟨_, _, rfl, rfl, ⟨_, _, rfl, rfl, ⟨_, _, rfl, rfl, ⟨_, _, rfl, rfl, ⟨_, _, rfl, rfl, ⟨_, _, rfl, rfl, ⟨_, _, rfl, rfl, ⟨_, _, rfl, rfl, rfl⟩⟩⟩⟩⟩⟩⟩⟩⟩⟩⟩⟩⟩⟩⟩ := h
  exact rfl
theorem k63_mk (w : World) (x : S63)  : k63.K w x [.int .i64 x.f0, .int .i64 x.f1, .int .u8 x.f2, .int .u16 x.f3, .int .u16 x.f4, .int .i64 x.f5, .int .i64 x.f6, .int .i64 x.f7, .int .i64 x.f8, .int .i64 x.f9, .int .i64 x.f10, .int .i64 x.f11, .int .i64 x.f12, .int .i64 x.f13, .int .i64 x.f14, .bool x.f15] := ⟨[.int .i64 x.f0], [.int .i64 x.f1, .int .u8 x.f2, .int .u16 x.f3, .int .u16 x.f4, .int .i64 x.f5, .int .i64 x.f6, .int .i64 x.f7, .int .i64 x.f8, .int .i64 x.f9, .int .i64 x.f10, .int .i64 x.f11, .int .i64 x.f12, .int .i64 x.f13, .int .i64 x.f14, .bool x.f15], rfl, rfl, ⟨[.int .i64 x.f1], [.int .u8 x.f2, .int .u16 x.f3, .int .u16 x.f4, .int .i64 x.f5, .int .i64 x.f6, .int .i64 x.f7, .int .i64 x.f8, .int .i64 x.f9, .int .i64 x.f10, .int .i64 x.f11, .int .i64 x.f12, .int .i64 x.f13, .int .i64 x.f14, .bool x.f15], rfl, rfl, ⟨[.int .u8 x.f2], [.int .u16 x.f3, .int .u16 x.f4, .int .i64 x.f5, .int .i64 x.f6, .int .i64 x.f7, .int .i64 x.f8, .int .i64 x.f9, .int .i64 x.f10, .int .i64 x.f11, .int .i64 x.f12, .int .i64 x.f13, .int .i64 x.f14, .bool x.f15], rfl, rfl, ⟨[.int .u16 x.f3], [.int .u16 x.f4, .int .i64 x.f5, .int .i64 x.f6, .int .i64 x.f7, .int .i64 x.f8, .int .i64 x.f9, .int .i64 x.f10, .int .i64 x.f11, .int .i64 x.f12, .int .i64 x.f13, .int .i64 x.f14, .bool x.f15], rfl, rfl, ⟨[.int .u16 x.f4], [.int .i64 x.f5, .int .i64 x.f6, .int .i64 x.f7, .int .i64 x.f8, .int .i64 x.f9, .int .i64 x.f10, .int .i64 x.f11, .int .i64 x.f12, .int .i64 x.f13, .int .i64 x.f14, .bool x.f15], rfl, rfl, ⟨[.int .i64 x.f5], [.int .i64 x.f6, .int .i64 x.f7, .int .i64 x.f8, .int .i64 x.f9, .int .i64 x.f10, .int .i64 x.f11, .int .i64 x.f12, .int .i64 x.f13, .int .i64 x.f14, .bool x.f15], rfl, rfl, ⟨[.int .i64 x.f6], [.int .i64 x.f7, .int .i64 x.f8, .int .i64 x.f9, .int .i64 x.f10, .int .i64 x.f11, .int .i64 x.f12, .int .i64 x.f13, .int .i64 x.f14, .bool x.f15], rfl, rfl, ⟨[.int .i64 x.f7], [.int .i64 x.f8, .int .i64 x.f9, .int .i64 x.f10, .int .i64 x.f11, .int .i64 x.f12, .int .i64 x.f13, .int .i64 x.f14, .bool x.f15], rfl, rfl, ⟨[.int .i64 x.f8], [.int .i64 x.f9, .int .i64 x.f10, .int .i64 x.f11, .int .i64 x.f12, .int .i64 x.f13, .int .i64 x.f14, .bool x.f15], rfl, rfl, ⟨[.int .i64 x.f9], [.int .i64 x.f10, .int .i64 x.f11, .int .i64 x.f12, .int .i64 x.f13, .int .i64 x.f14, .bool x.f15], rfl, rfl, ⟨[.int .i64 x.f10], [.int .i64 x.f11, .int .i64 x.f12, .int .i64 x.f13, .int .i64 x.f14, .bool x.f15], rfl, rfl, ⟨[.int .i64 x.f11], [.int .i64 x.f12, .int .i64 x.f13, .int .i64 x.f14, .bool x.f15], rfl, rfl, ⟨[.int .i64 x.f12], [.int .i64 x.f13, .int .i64 x.f14, .bool x.f15], rfl, rfl, ⟨[.int .i64 x.f13], [.int .i64 x.f14, .bool x.f15], rfl, rfl, ⟨[.int .i64 x.f14], [.bool x.f15], rfl, rfl, rfl⟩⟩⟩⟩⟩⟩⟩⟩⟩⟩⟩⟩⟩⟩⟩
theorem k63_mkM (w : World) (base : Nat) (ok : Nat → Prop) (x : S63)  : k63.M w base ok x [.int .i64 x.f0, .int .i64 x.f1, .int .u8 x.f2, .int .u16 x.f3, .int .u16 x.f4, .int .i64 x.f5, .int .i64 x.f6, .int .i64 x.f7, .int .i64 x.f8, .int .i64 x.f9, .int .i64 x.f10, .int .i64 x.f11, .int .i64 x.f12, .int .i64 x.f13, .int .i64 x.f14, .bool x.f15] := ⟨[.int .i64 x.f0], [.int .i64 x.f1, .int .u8 x.f2, .int .u16 x.f3, .int .u16 x.f4, .int .i64 x.f5, .int .i64 x.f6, .int .i64 x.f7, .int .i64 x.f8, .int .i64 x.f9, .int .i64 x.f10, .int .i64 x.f11, .int .i64 x.f12, .int .i64 x.f13, .int .i64 x.f14, .bool x.f15], rfl, rfl, ⟨[.int .i64 x.f1], [.int .u8 x.f2, .int .u16 x.f3, .int .u16 x.f4, .int .i64 x.f5, .int .i64 x.f6, .int .i64 x.f7, .int .i64 x.f8, .int .i64 x.f9, .int .i64 x.f10, .int .i64 x.f11, .int .i64 x.f12, .int .i64 x.f13, .int .i64 x.f14, .bool x.f15], rfl, rfl, ⟨[.int .u8 x.f2], [.int .u16 x.f3, .int .u16 x.f4, .int .i64 x.f5, .int .i64 x.f6, .int .i64 x.f7, .int .i64 x.f8, .int .i64 x.f9, .int .i64 x.f10, .int .i64 x.f11, .int .i64 x.f12, .int .i64 x.f13, .int .i64 x.f14, .bool x.f15], rfl, rfl, ⟨[.int .u16 x.f3], [.int .u16 x.f4, .int .i64 x.f5, .int .i64 x.f6, .int .i64 x.f7, .int .i64 x.f8, .int .i64 x.f9, .int .i64 x.f10, .int .i64 x.f11, .int .i64 x.f12, .int .i64 x.f13, .int .i64 x.f14, .bool x.f15], rfl, rfl, ⟨[.int .u16 x.f4], [.int .i64 x.f5, .int .i64 x.f6, .int .i64 x.f7, .int .i64 x.f8, .int .i64 x.f9, .int .i64 x.f10, .int .i64 x.f11, .int .i64 x.f12, .int .i64 x.f13, .int .i64 x.f14, .bool x.f15], rfl, rfl, ⟨[.int .i64 x.f5], [.int .i64 x.f6, .int .i64 x.f7, .int .i64 x.f8, .int .i64 x.f9, .int .i64 x.f10, .int .i64 x.f11, .int .i64 x.f12, .int .i64 x.f13, .int .i64 x.f14, .bool x.f15], rfl, rfl, ⟨[.int .i64 x.f6], [.int .i64 x.f7, .int .i64 x.f8, .int .i64 x.f9, .int .i64 x.f10, .int .i64 x.f11, .int .i64 x.f12, .int .i64 x.f13, .int .i64 x.f14, .bool x.f15], rfl, rfl, ⟨[.int .i64 x.f7], [.int .i64 x.f8, .int .i64 x.f9, .int .i64 x.f10, .int .i64 x.f11, .int .i64 x.f12, .int .i64 x.f13, .int .i64 x.f14, .bool x.f15], rfl, rfl, ⟨[.int .i64 x.f8], [.int .i64 x.f9, .int .i64 x.f10, .int .i64 x.f11, .int .i64 x.f12, .int .i64 x.f13, .int .i64 x.f14, .bool x.f15], rfl, rfl, ⟨[.int .i64 x.f9], [.int .i64 x.f10, .int .i64 x.f11, .int .i64 x.f12, .int .i64 x.f13, .int .i64 x.f14, .bool x.f15], rfl, rfl, ⟨[.int .i64 x.f10], [.int .i64 x.f11, .int .i64 x.f12, .int .i64 x.f13, .int .i64 x.f14, .bool x.f15], rfl, rfl, ⟨[.int .i64 x.f11], [.int .i64 x.f12, .int .i64 x.f13, .int .i64 x.f14, .bool x.f15], rfl, rfl, ⟨[.int .i64 x.f12], [.int .i64 x.f13, .int .i64 x.f14, .bool x.f15], rfl, rfl, ⟨[.int .i64 x.f13], [.int .i64 x.f14, .bool x.f15], rfl, rfl, ⟨[.int .i64 x.f14], [.bool x.f15], rfl, rfl, rfl⟩⟩⟩⟩⟩⟩⟩⟩⟩⟩⟩⟩⟩⟩⟩
def rd_T63 (xs : List S63) (i : Int) : S63 := xs.getD i.toNat z63
theorem at_T63 {w : World} {A : Option Addr} {n : Nat} {xs : List S63} (h : Kd.C k63 w A n xs) (i : Int) (h0 : 0 ≤ i) (h1 : i < n) : ∃ ad , A = some ad ∧ w.cell? (ad.add (i.toNat * 16)) = some (.int .i64 (rd_T63 xs i).f0) ∧ w.cell? ⟨(ad.add (i.toNat * 16)).block, (ad.add (i.toNat * 16)).off + 1, none⟩ = some (.int .i64 (rd_T63 xs i).f1) ∧ w.cell? ⟨(ad.add (i.toNat * 16)).block, (ad.add (i.toNat * 16)).off + 2, none⟩ = some (.int .u8 (rd_T63 xs i).f2) ∧ w.cell? ⟨(ad.add (i.toNat * 16)).block, (ad.add (i.toNat * 16)).off + 3, none⟩ = some (.int .u16 (rd_T63 xs i).f3) ∧ w.cell? ⟨(ad.add (i.toNat * 16)).block, (ad.add (i.toNat * 16)).off + 4, none⟩ = some (.int .u16 (rd_T63 xs i).f4) ∧ w.cell? ⟨(ad.add (i.toNat * 16)).block, (ad.add (i.toNat * 16)).off + 5, none⟩ = some (.int .i64 (rd_T63 xs i).f5) ∧ w.cell? ⟨(ad.add (i.toNat * 16)).block, (ad.add (i.toNat * 16)).off + 6, none⟩ = some (.int .i64 (rd_T63 xs i).f6) ∧ w.cell? ⟨(ad.add (i.toNat * 16)).block, (ad.add (i.toNat * 16)).off + 7, none⟩ = some (.int .i64 (rd_T63 xs i).f7) ∧ w.cell? ⟨(ad.add (i.toNat * 16)).block, (ad.add (i.toNat * 16)).off + 8, none⟩ = some (.int .i64 (rd_T63 xs i).f8) ∧ w.cell? ⟨(ad.add (i.toNat * 16)).block, (ad.add (i.toNat * 16)).off + 9, none⟩ = some (.int .i64 (rd_T63 xs i).f9) ∧ w.cell? ⟨(ad.add (i.toNat * 16)).block, (ad.add (i.toNat * 16)).off + 10, none⟩ = some (.int .i64 (rd_T63 xs i).f10) ∧ w.cell? ⟨(ad.add (i.toNat * 16)).block, (ad.add (i.toNat * 16)).off + 11, none⟩ = some (.int .i64 (rd_T63 xs i).f11) ∧ w.cell? ⟨(ad.add (i.toNat * 16)).block, (ad.add (i.toNat * 16)).off + 12, none⟩ = some (.int .i64 (rd_T63 xs i).f12) ∧ w.cell? ⟨(ad.add (i.toNat * 16)).block, (ad.add (i.toNat * 16)).off + 13, none⟩ = some (.int .i64 (rd_T63 xs i).f13) ∧ w.cell? ⟨(ad.add (i.toNat * 16)).block, (ad.add (i.toNat * 16)).off + 14, none⟩ = some (.int .i64 (rd_T63 xs i).f14) ∧ w.cell? ⟨(ad.add (i.toNat * 16)).block, (ad.add (i.toNat * 16)).off + 15, none⟩ = some (.bool (rd_T63 xs i).f15) := by
  obtain ⟨ad, c, e, _, hK, hc0⟩ := Kd.C_get h z63 i h0 h1
  have hc : ∀ j u, c[j]? = some u → w.cell? (ad.add (i.toNat * 16 + j)) = some u := hc0
  obtain rfl := k63_open hK
  exact ⟨ad, e, hc 0 _ rfl, by rw [← add_field _ _ 1 (by omega)]; exact hc 1 _ rfl, by rw [← add_field _ _ 2 (by omega)]; exact hc 2 _ rfl, by rw [← add_field _ _ 3 (by omega)]; exact hc 3 _ rfl, by rw [← add_field _ _ 4 (by omega)]; exact hc 4 _ rfl, by rw [← add_field _ _ 5 (by omega)]; exact hc 5 _ rfl, by rw [← add_field _ _ 6 (by omega)]; exact hc 6 _ rfl, by rw [← add_field _ _ 7 (by omega)]; exact hc 7 _ rfl, by rw [← add_field _ _ 8 (by omega)]; exact hc 8 _ rfl, by rw [← add_field _ _ 9 (by omega)]; exact hc 9 _ rfl, by rw [← add_field _ _ 10 (by omega)]; exact hc 10 _ rfl, by rw [← add_field _ _ 11 (by omega)]; exact hc 11 _ rfl, by rw [← add_field _ _ 12 (by omega)]; exact hc 12 _ rfl, by rw [← add_field _ _ 13 (by omega)]; exact hc 13 _ rfl, by rw [← add_field _ _ 14 (by omega)]; exact hc 14 _ rfl, by rw [← add_field _ _ 15 (by omega)]; exact hc 15 _ rfl⟩

end Go.Proofs.Ytmdaaphjndjakaf.PPlanChecks
