-- Written by a program of this work, after the translation.
import Derived.Test.YtmlenepeocginaaPRelayNeverx3
import Derived.Test.YtmlenepeocginaaGvReNever
namespace Go.Proofs.Ytmlenepeocginaa.PRelayNever
open Go.RowKit Go.Proofs.YtmlenepeocginaaW.PrintWords Go.Proofs.YtmlenepeocginaaW.PrintLast Go.Proofs.YtmlenepeocginaaW.PrintMore
set_option linter.unusedVariables false
set_option linter.unusedSimpArgs false

/-! #### struct type 54 -/
structure S54 where
  f0 : Int
  f1 : Int
  f2 : Int
  f3 : Bool
  f4 : Int
  f5 : Int
  f6 : ByteArray
def z54 : S54 := ⟨(0 : Int), (0 : Int), (0 : Int), false, (0 : Int), (0 : Int), (⟨#[]⟩ : ByteArray)⟩
def k54 : Kd S54 := Kd.iso (Kd.pair (Kd.int .u64) (Kd.pair (Kd.int .u64) (Kd.pair (Kd.int .u8) (Kd.pair Kd.bool (Kd.pair (Kd.int .u16) (Kd.pair (Kd.int .u16) Kd.string)))))) (fun x : S54 => (x.f0, x.f1, x.f2, x.f3, x.f4, x.f5, x.f6))
theorem k54_open {w : World} {x : S54} {cs : List Value} (h : k54.K w x cs) : cs = [.int .u64 x.f0, .int .u64 x.f1, .int .u8 x.f2, .bool x.f3, .int .u16 x.f4, .int .u16 x.f5, .string x.f6] := by
  obtain ⟨_, _, rfl, rfl, ⟨_, _, rfl, rfl, ⟨_, _, rfl, rfl, ⟨_, _, rfl, rfl, ⟨_, _, rfl, rfl, ⟨_, _, rfl, rfl, rfl⟩⟩⟩⟩⟩⟩ := h
  exact rfl
theorem k54_openM {w : World} {base : Nat} {ok : Nat → Prop} {x : S54} {cs : List Value} (h : k54.M w base ok x cs) : cs = [.int .u64 x.f0, .int .u64 x.f1, .int .u8 x.f2, .bool x.f3, .int .u16 x.f4, .int .u16 x.f5, .string x.f6] := by
  obtain ⟨_, _, rfl, rfl, ⟨_, _, rfl, rfl, ⟨_, _, rfl, rfl, ⟨_, _, rfl, rfl, ⟨_, _, rfl, rfl, ⟨_, _, rfl, rfl, rfl⟩⟩⟩⟩⟩⟩ := h
  exact rfl
theorem k54_mk (w : World) (x : S54)  : k54.K w x [.int .u64 x.f0, .int .u64 x.f1, .int .u8 x.f2, .bool x.f3, .int .u16 x.f4, .int .u16 x.f5, .string x.f6] := ⟨[.int .u64 x.f0], [.int .u64 x.f1, .int .u8 x.f2, .bool x.f3, .int .u16 x.f4, .int .u16 x.f5, .string x.f6], rfl, rfl, ⟨[.int .u64 x.f1], [.int .u8 x.f2, .bool x.f3, .int .u16 x.f4, .int .u16 x.f5, .string x.f6], rfl, rfl, ⟨[.int .u8 x.f2], [.bool x.f3, .int .u16 x.f4, .int .u16 x.f5, .string x.f6], rfl, rfl, ⟨[.bool x.f3], [.int .u16 x.f4, .int .u16 x.f5, .string x.f6], rfl, rfl, ⟨[.int .u16 x.f4], [.int .u16 x.f5, .string x.f6], rfl, rfl, ⟨[.int .u16 x.f5], [.string x.f6], rfl, rfl, rfl⟩⟩⟩⟩⟩⟩
theorem k54_mkM (w : World) (base : Nat) (ok : Nat → Prop) (x : S54)  : k54.M w base ok x [.int .u64 x.f0, .int .u64 x.f1, .int .u8 x.f2, .bool x.f3, .int .u16 x.f4, .int .u16 x.f5, .string x.f6] := ⟨[.int .u64 x.f0], [.int .u64 x.f1, .int .u8 x.f2, .bool x.f3, .int .u16 x.f4, .int .u16 x.f5, .string x.f6], rfl, rfl, ⟨[.int .u64 x.f1], [.int .u8 x.f2, .bool x.f3, .int .u16 x.f4, .int .u16 x.f5, .string x.f6], rfl, rfl, ⟨[.int .u8 x.f2], [.bool x.f3, .int .u16 x.f4, .int .u16 x.f5, .string x.f6], rfl, rfl, ⟨[.bool x.f3], [.int .u16 x.f4, .int .u16 x.f5, .string x.f6], rfl, rfl, ⟨[.int .u16 x.f4], [.int .u16 x.f5, .string x.f6], rfl, rfl, ⟨[.int .u16 x.f5], [.string x.f6], rfl, rfl, rfl⟩⟩⟩⟩⟩⟩
def rd_T54 (xs : List S54) (i : Int) : S54 := xs.getD i.toNat z54
theorem at_T54 {w : World} {A : Option Addr} {n : Nat} {xs : List S54} (h : Kd.C k54 w A n xs) (i : Int) (h0 : 0 ≤ i) (h1 : i < n) : ∃ ad , A = some ad ∧ w.cell? (ad.add (i.toNat * 7)) = some (.int .u64 (rd_T54 xs i).f0) ∧ w.cell? ⟨(ad.add (i.toNat * 7)).block, (ad.add (i.toNat * 7)).off + 1, none⟩ = some (.int .u64 (rd_T54 xs i).f1) ∧ w.cell? ⟨(ad.add (i.toNat * 7)).block, (ad.add (i.toNat * 7)).off + 2, none⟩ = some (.int .u8 (rd_T54 xs i).f2) ∧ w.cell? ⟨(ad.add (i.toNat * 7)).block, (ad.add (i.toNat * 7)).off + 3, none⟩ = some (.bool (rd_T54 xs i).f3) ∧ w.cell? ⟨(ad.add (i.toNat * 7)).block, (ad.add (i.toNat * 7)).off + 4, none⟩ = some (.int .u16 (rd_T54 xs i).f4) ∧ w.cell? ⟨(ad.add (i.toNat * 7)).block, (ad.add (i.toNat * 7)).off + 5, none⟩ = some (.int .u16 (rd_T54 xs i).f5) ∧ w.cell? ⟨(ad.add (i.toNat * 7)).block, (ad.add (i.toNat * 7)).off + 6, none⟩ = some (.string (rd_T54 xs i).f6) := by
  obtain ⟨ad, c, e, _, hK, hc0⟩ := Kd.C_get h z54 i h0 h1
  have hc : ∀ j u, c[j]? = some u → w.cell? (ad.add (i.toNat * 7 + j)) = some u := hc0
  obtain rfl := k54_open hK
  exact ⟨ad, e, hc 0 _ rfl, by rw [← add_field _ _ 1 (by omega)]; exact hc 1 _ rfl, by rw [← add_field _ _ 2 (by omega)]; exact hc 2 _ rfl, by rw [← add_field _ _ 3 (by omega)]; exact hc 3 _ rfl, by rw [← add_field _ _ 4 (by omega)]; exact hc 4 _ rfl, by rw [← add_field _ _ 5 (by omega)]; exact hc 5 _ rfl, by rw [← add_field _ _ 6 (by omega)]; exact hc 6 _ rfl⟩

/-! #### struct type 56 -/
structure S56 where
  f0 : Int
  f1 : Int
  f2 : Bool
  f3 : Bool
  f4 : S54
  f5 : Bool
def z56 : S56 := ⟨(0 : Int), (0 : Int), false, false, z54, false⟩
def k56 : Kd S56 := Kd.iso (Kd.pair (Kd.int .u16) (Kd.pair (Kd.int .i64) (Kd.pair Kd.bool (Kd.pair Kd.bool (Kd.pair k54 Kd.bool))))) (fun x : S56 => (x.f0, x.f1, x.f2, x.f3, x.f4, x.f5))
theorem k56_open {w : World} {x : S56} {cs : List Value} (h : k56.K w x cs) : cs = [.int .u16 x.f0, .int .i64 x.f1, .bool x.f2, .bool x.f3, .int .u64 x.f4.f0, .int .u64 x.f4.f1, .int .u8 x.f4.f2, .bool x.f4.f3, .int .u16 x.f4.f4, .int .u16 x.f4.f5, .string x.f4.f6, .bool x.f5] := by
  obtain ⟨_, _, rfl, rfl, ⟨_, _, rfl, rfl, ⟨_, _, rfl, rfl, ⟨_, _, rfl, rfl, ⟨_, _, rfl, s4, rfl⟩⟩⟩⟩⟩ := h
  obtain rfl := k54_open s4
  exact rfl
theorem k56_openM {w : World} {base : Nat} {ok : Nat → Prop} {x : S56} {cs : List Value} (h : k56.M w base ok x cs) : cs = [.int .u16 x.f0, .int .i64 x.f1, .bool x.f2, .bool x.f3, .int .u64 x.f4.f0, .int .u64 x.f4.f1, .int .u8 x.f4.f2, .bool x.f4.f3, .int .u16 x.f4.f4, .int .u16 x.f4.f5, .string x.f4.f6, .bool x.f5] := by
  obtain ⟨_, _, rfl, rfl, ⟨_, _, rfl, rfl, ⟨_, _, rfl, rfl, ⟨_, _, rfl, rfl, ⟨_, _, rfl, s4, rfl⟩⟩⟩⟩⟩ := h
  obtain rfl := k54_openM s4
  exact rfl
theorem k56_mk (w : World) (x : S56)  : k56.K w x [.int .u16 x.f0, .int .i64 x.f1, .bool x.f2, .bool x.f3, .int .u64 x.f4.f0, .int .u64 x.f4.f1, .int .u8 x.f4.f2, .bool x.f4.f3, .int .u16 x.f4.f4, .int .u16 x.f4.f5, .string x.f4.f6, .bool x.f5] := ⟨[.int .u16 x.f0], [.int .i64 x.f1, .bool x.f2, .bool x.f3, .int .u64 x.f4.f0, .int .u64 x.f4.f1, .int .u8 x.f4.f2, .bool x.f4.f3, .int .u16 x.f4.f4, .int .u16 x.f4.f5, .string x.f4.f6, .bool x.f5], rfl, rfl, ⟨[.int .i64 x.f1], [.bool x.f2, .bool x.f3, .int .u64 x.f4.f0, .int .u64 x.f4.f1, .int .u8 x.f4.f2, .bool x.f4.f3, .int .u16 x.f4.f4, .int .u16 x.f4.f5, .string x.f4.f6, .bool x.f5], rfl, rfl, ⟨[.bool x.f2], [.bool x.f3, .int .u64 x.f4.f0, .int .u64 x.f4.f1, .int .u8 x.f4.f2, .bool x.f4.f3, .int .u16 x.f4.f4, .int .u16 x.f4.f5, .string x.f4.f6, .bool x.f5], rfl, rfl, ⟨[.bool x.f3], [.int .u64 x.f4.f0, .int .u64 x.f4.f1, .int .u8 x.f4.f2, .bool x.f4.f3, .int .u16 x.f4.f4, .int .u16 x.f4.f5, .string x.f4.f6, .bool x.f5], rfl, rfl, ⟨[.int .u64 x.f4.f0, .int .u64 x.f4.f1, .int .u8 x.f4.f2, .bool x.f4.f3, .int .u16 x.f4.f4, .int .u16 x.f4.f5, .string x.f4.f6], [.bool x.f5], rfl, (k54_mk w x.f4 ), rfl⟩⟩⟩⟩⟩
theorem k56_mkM (w : World) (base : Nat) (ok : Nat → Prop) (x : S56)  : k56.M w base ok x [.int .u16 x.f0, .int .i64 x.f1, .bool x.f2, .bool x.f3, .int .u64 x.f4.f0, .int .u64 x.f4.f1, .int .u8 x.f4.f2, .bool x.f4.f3, .int .u16 x.f4.f4, .int .u16 x.f4.f5, .string x.f4.f6, .bool x.f5] := ⟨[.int .u16 x.f0], [.int .i64 x.f1, .bool x.f2, .bool x.f3, .int .u64 x.f4.f0, .int .u64 x.f4.f1, .int .u8 x.f4.f2, .bool x.f4.f3, .int .u16 x.f4.f4, .int .u16 x.f4.f5, .string x.f4.f6, .bool x.f5], rfl, rfl, ⟨[.int .i64 x.f1], [.bool x.f2, .bool x.f3, .int .u64 x.f4.f0, .int .u64 x.f4.f1, .int .u8 x.f4.f2, .bool x.f4.f3, .int .u16 x.f4.f4, .int .u16 x.f4.f5, .string x.f4.f6, .bool x.f5], rfl, rfl, ⟨[.bool x.f2], [.bool x.f3, .int .u64 x.f4.f0, .int .u64 x.f4.f1, .int .u8 x.f4.f2, .bool x.f4.f3, .int .u16 x.f4.f4, .int .u16 x.f4.f5, .string x.f4.f6, .bool x.f5], rfl, rfl, ⟨[.bool x.f3], [.int .u64 x.f4.f0, .int .u64 x.f4.f1, .int .u8 x.f4.f2, .bool x.f4.f3, .int .u16 x.f4.f4, .int .u16 x.f4.f5, .string x.f4.f6, .bool x.f5], rfl, rfl, ⟨[.int .u64 x.f4.f0, .int .u64 x.f4.f1, .int .u8 x.f4.f2, .bool x.f4.f3, .int .u16 x.f4.f4, .int .u16 x.f4.f5, .string x.f4.f6], [.bool x.f5], rfl, (k54_mkM w base ok x.f4 ), rfl⟩⟩⟩⟩⟩
def rd_T56 (xs : List S56) (i : Int) : S56 := xs.getD i.toNat z56
theorem at_T56 {w : World} {A : Option Addr} {n : Nat} {xs : List S56} (h : Kd.C k56 w A n xs) (i : Int) (h0 : 0 ≤ i) (h1 : i < n) : ∃ ad , A = some ad ∧ w.cell? (ad.add (i.toNat * 12)) = some (.int .u16 (rd_T56 xs i).f0) ∧ w.cell? ⟨(ad.add (i.toNat * 12)).block, (ad.add (i.toNat * 12)).off + 1, none⟩ = some (.int .i64 (rd_T56 xs i).f1) ∧ w.cell? ⟨(ad.add (i.toNat * 12)).block, (ad.add (i.toNat * 12)).off + 2, none⟩ = some (.bool (rd_T56 xs i).f2) ∧ w.cell? ⟨(ad.add (i.toNat * 12)).block, (ad.add (i.toNat * 12)).off + 3, none⟩ = some (.bool (rd_T56 xs i).f3) ∧ w.cell? ⟨(ad.add (i.toNat * 12)).block, (ad.add (i.toNat * 12)).off + 4, none⟩ = some (.int .u64 (rd_T56 xs i).f4.f0) ∧ w.cell? ⟨(ad.add (i.toNat * 12)).block, (ad.add (i.toNat * 12)).off + 5, none⟩ = some (.int .u64 (rd_T56 xs i).f4.f1) ∧ w.cell? ⟨(ad.add (i.toNat * 12)).block, (ad.add (i.toNat * 12)).off + 6, none⟩ = some (.int .u8 (rd_T56 xs i).f4.f2) ∧ w.cell? ⟨(ad.add (i.toNat * 12)).block, (ad.add (i.toNat * 12)).off + 7, none⟩ = some (.bool (rd_T56 xs i).f4.f3) ∧ w.cell? ⟨(ad.add (i.toNat * 12)).block, (ad.add (i.toNat * 12)).off + 8, none⟩ = some (.int .u16 (rd_T56 xs i).f4.f4) ∧ w.cell? ⟨(ad.add (i.toNat * 12)).block, (ad.add (i.toNat * 12)).off + 9, none⟩ = some (.int .u16 (rd_T56 xs i).f4.f5) ∧ w.cell? ⟨(ad.add (i.toNat * 12)).block, (ad.add (i.toNat * 12)).off + 10, none⟩ = some (.string (rd_T56 xs i).f4.f6) ∧ w.cell? ⟨(ad.add (i.toNat * 12)).block, (ad.add (i.toNat * 12)).off + 11, none⟩ = some (.bool (rd_T56 xs i).f5) := by
  obtain ⟨ad, c, e, _, hK, hc0⟩ := Kd.C_get h z56 i h0 h1
  have hc : ∀ j u, c[j]? = some u → w.cell? (ad.add (i.toNat * 12 + j)) = some u := hc0
  obtain rfl := k56_open hK
  exact ⟨ad, e, hc 0 _ rfl, by rw [← add_field _ _ 1 (by omega)]; exact hc 1 _ rfl, by rw [← add_field _ _ 2 (by omega)]; exact hc 2 _ rfl, by rw [← add_field _ _ 3 (by omega)]; exact hc 3 _ rfl, by rw [← add_field _ _ 4 (by omega)]; exact hc 4 _ rfl, by rw [← add_field _ _ 5 (by omega)]; exact hc 5 _ rfl, by rw [← add_field _ _ 6 (by omega)]; exact hc 6 _ rfl, by rw [← add_field _ _ 7 (by omega)]; exact hc 7 _ rfl, by rw [← add_field _ _ 8 (by omega)]; exact hc 8 _ rfl, by rw [← add_field _ _ 9 (by omega)]; exact hc 9 _ rfl, by rw [← add_field _ _ 10 (by omega)]; exact hc 10 _ rfl, by rw [← add_field _ _ 11 (by omega)]; exact hc 11 _ rfl⟩

def rd_L11 (xs : List (List S56)) (i : Int) : (List S56) := xs.getD i.toNat ([] : List S56)
theorem at_L11 {w : World} {A : Option Addr} {n : Nat} {xs : List (List S56)} (h : Kd.C (Kd.slice 56 k56) w A n xs) (i : Int) (h0 : 0 ≤ i) (h1 : i < n) : ∃ ad A0 c0, A = some ad ∧ w.cell? (ad.add i.toNat) = some (.slice A0 (rd_L11 xs i).length c0) ∧ (rd_L11 xs i).length ≤ c0 ∧ k56.C w A0 (rd_L11 xs i).length (rd_L11 xs i) := by
  obtain ⟨ad, c, e, _, hK, hc0⟩ := Kd.C_get h ([] : List S56) i h0 h1
  have hc : ∀ j u, c[j]? = some u → w.cell? (ad.add (i.toNat * 1 + j)) = some u := hc0
  obtain ⟨A0, c0, rfl, l0, g0⟩ := hK
  exact ⟨ad, A0, c0, e, by have hq := hc 0 _ rfl; rwa [Nat.mul_one, Nat.add_zero] at hq, l0, g0⟩


/-! ### carousellaw19_RelayNever: function 4 (given: its walk is in another text) -/

def carousellaw19_RelayNever.Pure : Prop := True
def carousellaw19_RelayNever.tup (x : S56) : Gv.Cm := ⟨x.f0, x.f1, x.f2, x.f3, x.f4.f0, x.f4.f1, x.f4.f2, x.f4.f3, x.f4.f4, x.f4.f5, x.f4.f6, x.f5⟩
theorem carousellaw19_RelayNever.comes {w : World} {A0 : Option Addr} {l0 : List (S56)} (hr0 : Kd.C k56 w A0 l0.length l0) : Gv.CmAt w A0 (l0.map carousellaw19_RelayNever.tup) := by
  intro k hk
  rw [List.length_map] at hk
  obtain ⟨ad, rfl, z0, _⟩ := at_T56 hr0 0 (by decide) (by omega)
  have hp : ad.spot = none := by
    obtain ⟨b, o, p⟩ := ad
    cases p with
    | none => rfl
    | some q =>
      have hs : (Addr.add ⟨b, o, some q⟩ ((0 : Int).toNat * 12)).spot.isSome = true := by simp [Addr.add]
      unfold World.cell? at z0
      simp only [hs, if_true] at z0
      split at z0 <;> cases z0
  obtain ⟨ad', e, h0, h1, h2, h3, h4, h5, h6, h7, h8, h9, h10, h11⟩ := at_T56 hr0 (k : Int) (by omega) (by omega)
  obtain rfl := Option.some.inj e
  have hlt := World.block_lt_of_cell? w _ h0
  have hrd : rd_T56 l0 (k : Int) = l0[k] := by simp [rd_T56, List.getD_eq_getElem?_getD, List.getElem?_eq_getElem hk]
  rw [Int.toNat_natCast, hrd] at h0 h1 h2 h3 h4 h5 h6 h7 h8 h9 h10 h11
  rw [Int.toNat_natCast] at hlt
  obtain ⟨b, o, p⟩ := ad
  obtain rfl : p = none := hp
  have ha : Addr.add ⟨b, o, none⟩ (k * 12) = ⟨b, o + k * 12, none⟩ := by unfold Addr.add; split <;> simp_all
  rw [ha] at h0 h1 h2 h3 h4 h5 h6 h7 h8 h9 h10 h11 hlt
  refine ⟨b, o, rfl, hlt, fun j v hj => ?_⟩
  rw [List.getElem_map] at hj
  have hj2 : j < 12 := by
    have := (Array.getElem?_eq_some_iff.1 hj).1
    simpa [Gv.Cm.cells] using this
  have : j = 0 ∨ j = 1 ∨ j = 2 ∨ j = 3 ∨ j = 4 ∨ j = 5 ∨ j = 6 ∨ j = 7 ∨ j = 8 ∨ j = 9 ∨ j = 10 ∨ j = 11 := by omega
  rcases this with rfl | rfl | rfl | rfl | rfl | rfl | rfl | rfl | rfl | rfl | rfl | rfl <;> (obtain rfl := Option.some.inj hj; assumption)
theorem carousellaw19_RelayNever.walk (P : carousellaw19_RelayNever.Pure) (A0 : Option Addr) (c0 : Nat) (l0 : List (S56)) (a1_0 : Int) (a1_1 : Int) (a1_2 : Bool) (a1_3 : Bool) (a1_4 : Int) (a1_5 : Int) (a1_6 : Int) (a1_7 : Bool) (a1_8 : Int) (a1_9 : Int) (a1_10 : ByteArray) (a1_11 : Bool) (w : World) (hr0 : Kd.C k56 w A0 l0.length l0) (hc0 : l0.length ≤ c0) (w0_0 : l0.length ≤ maxLen) (w0_1 : l0.length * 72 ≤ 140737488351232) (w0_2 : ∀ x ∈ l0, (Lit.int .u16 (x).f0).wf = true ∧ (Lit.int .i64 (x).f1).wf = true ∧ (Lit.int .u64 (x).f4.f0).wf = true ∧ (Lit.int .u64 (x).f4.f1).wf = true ∧ (Lit.int .u8 (x).f4.f2).wf = true ∧ (Lit.int .u16 (x).f4.f4).wf = true ∧ (Lit.int .u16 (x).f4.f5).wf = true ∧ (x).f4.f6.size ≤ 9223372036854775807) (w1_0 : (Lit.int .u16 a1_0).wf = true) (w1_1 : (Lit.int .i64 a1_1).wf = true) (w1_4 : (Lit.int .u64 a1_4).wf = true) (w1_5 : (Lit.int .u64 a1_5).wf = true) (w1_6 : (Lit.int .u8 a1_6).wf = true) (w1_8 : (Lit.int .u16 a1_8).wf = true) (w1_9 : (Lit.int .u16 a1_9).wf = true) (w1_10 : a1_10.size ≤ 9223372036854775807) :
    Calls Try.prog 4 #[.slice A0 l0.length c0, .agg #[.int .u16 a1_0, .int .i64 a1_1, .bool a1_2, .bool a1_3, .int .u64 a1_4, .int .u64 a1_5, .int .u8 a1_6, .bool a1_7, .int .u16 a1_8, .int .u16 a1_9, .string a1_10, .bool a1_11]] w fun e w' => e = .returned (.bool true) ∧ Below w.heap.size w w' := by
  have h := Gv.never A0 c0 (l0.map carousellaw19_RelayNever.tup) ⟨a1_0, a1_1, a1_2, a1_3, a1_4, a1_5, a1_6, a1_7, a1_8, a1_9, a1_10, a1_11⟩ w (by rw [List.length_map]; exact hc0) (carousellaw19_RelayNever.comes hr0) (fun y hy => by
    obtain ⟨x, hx, rfl⟩ := List.mem_map.1 hy
    have hw := w0_2 x hx
    exact ⟨hw.2.2.1, hw.2.2.2.1, hw.2.2.2.2.2.1⟩) ⟨w1_4, w1_5, w1_8⟩
  rw [List.length_map] at h
  exact h


end Go.Proofs.Ytmlenepeocginaa.PRelayNever
