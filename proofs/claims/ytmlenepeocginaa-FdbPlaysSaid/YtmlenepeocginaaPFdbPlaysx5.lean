-- Written by a program of this work, after the translation.
import Derived.Test.YtmlenepeocginaaPFdbPlaysx4
import Derived.Test.YtmlenepeocginaaGvFdPlays
namespace Go.Proofs.Ytmlenepeocginaa.PFdbPlays
open Go.RowKit Go.Proofs.YtmlenepeocginaaW.PrintWords Go.Proofs.YtmlenepeocginaaW.PrintLast Go.Proofs.YtmlenepeocginaaW.PrintMore
set_option linter.unusedVariables false
set_option linter.unusedSimpArgs false

/-! #### struct type 38 -/
structure S38 where
  f0 : Int
  f1 : Int
  f2 : Int
  f3 : Int
  f4 : Int
def z38 : S38 := ⟨(0 : Int), (0 : Int), (0 : Int), (0 : Int), (0 : Int)⟩
def k38 : Kd S38 := Kd.iso (Kd.pair (Kd.int .u8) (Kd.pair (Kd.int .u16) (Kd.pair (Kd.int .u16) (Kd.pair (Kd.int .u64) (Kd.int .i64))))) (fun x : S38 => (x.f0, x.f1, x.f2, x.f3, x.f4))
theorem k38_open {w : World} {x : S38} {cs : List Value} (h : k38.K w x cs) : cs = [.int .u8 x.f0, .int .u16 x.f1, .int .u16 x.f2, .int .u64 x.f3, .int .i64 x.f4] := by
  obtain ⟨_, _, rfl, rfl, ⟨_, _, rfl, rfl, ⟨_, _, rfl, rfl, ⟨_, _, rfl, rfl, rfl⟩⟩⟩⟩ := h
  exact rfl
theorem k38_openM {w : World} {base : Nat} {ok : Nat → Prop} {x : S38} {cs : List Value} (h : k38.M w base ok x cs) : cs = [.int .u8 x.f0, .int .u16 x.f1, .int .u16 x.f2, .int .u64 x.f3, .int .i64 x.f4] := by
  obtain ⟨_, _, rfl, rfl, ⟨_, _, rfl, rfl, ⟨_, _, rfl, rfl, ⟨_, _, rfl, rfl, rfl⟩⟩⟩⟩ := h
  exact rfl
theorem k38_mk (w : World) (x : S38)  : k38.K w x [.int .u8 x.f0, .int .u16 x.f1, .int .u16 x.f2, .int .u64 x.f3, .int .i64 x.f4] := ⟨[.int .u8 x.f0], [.int .u16 x.f1, .int .u16 x.f2, .int .u64 x.f3, .int .i64 x.f4], rfl, rfl, ⟨[.int .u16 x.f1], [.int .u16 x.f2, .int .u64 x.f3, .int .i64 x.f4], rfl, rfl, ⟨[.int .u16 x.f2], [.int .u64 x.f3, .int .i64 x.f4], rfl, rfl, ⟨[.int .u64 x.f3], [.int .i64 x.f4], rfl, rfl, rfl⟩⟩⟩⟩
theorem k38_mkM (w : World) (base : Nat) (ok : Nat → Prop) (x : S38)  : k38.M w base ok x [.int .u8 x.f0, .int .u16 x.f1, .int .u16 x.f2, .int .u64 x.f3, .int .i64 x.f4] := ⟨[.int .u8 x.f0], [.int .u16 x.f1, .int .u16 x.f2, .int .u64 x.f3, .int .i64 x.f4], rfl, rfl, ⟨[.int .u16 x.f1], [.int .u16 x.f2, .int .u64 x.f3, .int .i64 x.f4], rfl, rfl, ⟨[.int .u16 x.f2], [.int .u64 x.f3, .int .i64 x.f4], rfl, rfl, ⟨[.int .u64 x.f3], [.int .i64 x.f4], rfl, rfl, rfl⟩⟩⟩⟩
def rd_T38 (xs : List S38) (i : Int) : S38 := xs.getD i.toNat z38
theorem at_T38 {w : World} {A : Option Addr} {n : Nat} {xs : List S38} (h : Kd.C k38 w A n xs) (i : Int) (h0 : 0 ≤ i) (h1 : i < n) : ∃ ad , A = some ad ∧ w.cell? (ad.add (i.toNat * 5)) = some (.int .u8 (rd_T38 xs i).f0) ∧ w.cell? ⟨(ad.add (i.toNat * 5)).block, (ad.add (i.toNat * 5)).off + 1, none⟩ = some (.int .u16 (rd_T38 xs i).f1) ∧ w.cell? ⟨(ad.add (i.toNat * 5)).block, (ad.add (i.toNat * 5)).off + 2, none⟩ = some (.int .u16 (rd_T38 xs i).f2) ∧ w.cell? ⟨(ad.add (i.toNat * 5)).block, (ad.add (i.toNat * 5)).off + 3, none⟩ = some (.int .u64 (rd_T38 xs i).f3) ∧ w.cell? ⟨(ad.add (i.toNat * 5)).block, (ad.add (i.toNat * 5)).off + 4, none⟩ = some (.int .i64 (rd_T38 xs i).f4) := by
  obtain ⟨ad, c, e, _, hK, hc0⟩ := Kd.C_get h z38 i h0 h1
  have hc : ∀ j u, c[j]? = some u → w.cell? (ad.add (i.toNat * 5 + j)) = some u := hc0
  obtain rfl := k38_open hK
  exact ⟨ad, e, hc 0 _ rfl, by rw [← add_field _ _ 1 (by omega)]; exact hc 1 _ rfl, by rw [← add_field _ _ 2 (by omega)]; exact hc 2 _ rfl, by rw [← add_field _ _ 3 (by omega)]; exact hc 3 _ rfl, by rw [← add_field _ _ 4 (by omega)]; exact hc 4 _ rfl⟩

def rd_L9 (xs : List (List S38)) (i : Int) : (List S38) := xs.getD i.toNat ([] : List S38)
theorem at_L9 {w : World} {A : Option Addr} {n : Nat} {xs : List (List S38)} (h : Kd.C (Kd.slice 38 k38) w A n xs) (i : Int) (h0 : 0 ≤ i) (h1 : i < n) : ∃ ad A0 c0, A = some ad ∧ w.cell? (ad.add i.toNat) = some (.slice A0 (rd_L9 xs i).length c0) ∧ (rd_L9 xs i).length ≤ c0 ∧ k38.C w A0 (rd_L9 xs i).length (rd_L9 xs i) := by
  obtain ⟨ad, c, e, _, hK, hc0⟩ := Kd.C_get h ([] : List S38) i h0 h1
  have hc : ∀ j u, c[j]? = some u → w.cell? (ad.add (i.toNat * 1 + j)) = some u := hc0
  obtain ⟨A0, c0, rfl, l0, g0⟩ := hK
  exact ⟨ad, A0, c0, e, by have hq := hc 0 _ rfl; rwa [Nat.mul_one, Nat.add_zero] at hq, l0, g0⟩


/-! ### carousellaw11_FdbPlays: function 3 (given: its walk is in another text) -/

def carousellaw11_FdbPlays.Pure : Prop := True
theorem carousellaw11_FdbPlays.acts {w : World} {A0 : Option Addr} {l0 : List (S38)} (hr0 : Kd.C k38 w A0 l0.length l0) : Gv.FActs w A0 (l0.map fun x => (x.f0, x.f1, x.f2, x.f3, x.f4)) := by
  intro k hk
  rw [List.length_map] at hk
  obtain ⟨ad, rfl, z0, _⟩ := at_T38 hr0 0 (by decide) (by omega)
  have hp : ad.spot = none := by
    obtain ⟨b, o, p⟩ := ad
    cases p with
    | none => rfl
    | some q =>
      have hs : (Addr.add ⟨b, o, some q⟩ ((0 : Int).toNat * 5)).spot.isSome = true := by simp [Addr.add]
      unfold World.cell? at z0
      simp only [hs, if_true] at z0
      split at z0 <;> cases z0
  obtain ⟨ad', e, h0, h1, h2, h3, h4⟩ := at_T38 hr0 (k : Int) (by omega) (by omega)
  obtain rfl := Option.some.inj e
  have hlt := World.block_lt_of_cell? w _ h0
  have hrd : rd_T38 l0 (k : Int) = l0[k] := by simp [rd_T38, List.getD_eq_getElem?_getD, List.getElem?_eq_getElem hk]
  rw [Int.toNat_natCast, hrd] at h0 h1 h2 h3 h4
  rw [Int.toNat_natCast] at hlt
  obtain ⟨b, o, p⟩ := ad
  obtain rfl : p = none := hp
  have ha : Addr.add ⟨b, o, none⟩ (k * 5) = ⟨b, o + k * 5, none⟩ := by unfold Addr.add; split <;> simp_all
  rw [ha] at h0 h1 h2 h3 h4 hlt
  refine ⟨b, o, rfl, hlt, ?_, ?_, ?_, ?_, ?_⟩
  · rw [h0]; simp
  · rw [h1]; simp
  · rw [h2]; simp
  · rw [h3]; simp
  · rw [h4]; simp
theorem carousellaw11_FdbPlays.walk (P : carousellaw11_FdbPlays.Pure) (a0 : Int) (a1 : Int) (A2 : Option Addr) (c2 : Nat) (l2 : List (S38)) (w : World) (w0_0 : (Lit.int .i64 a0).wf = true) (w1_0 : (Lit.int .i64 a1).wf = true) (hr2 : Kd.C k38 w A2 l2.length l2) (hc2 : l2.length ≤ c2) (w2_0 : l2.length ≤ maxLen) (w2_1 : l2.length * 24 ≤ 140737488351232) (w2_2 : (∀ x ∈ l2, (Lit.int .u8 (x).f0).wf = true ∧ (Lit.int .u16 (x).f1).wf = true ∧ (Lit.int .u16 (x).f2).wf = true ∧ (Lit.int .u64 (x).f3).wf = true ∧ (Lit.int .i64 (x).f4).wf = true)) :
    Calls Try.prog 3 #[.int .i64 a0, .int .i64 a1, .slice A2 l2.length c2] w fun e w' => e = .returned (.bool true) ∧ Below w.heap.size w w' := by
  have h := Gv.plays (fun w => carousellaw02_Awake.calls 60 true w (by decide +kernel)) a0 a1 A2 c2 (l2.map fun x => (x.f0, x.f1, x.f2, x.f3, x.f4)) w (by rw [List.length_map]; exact hc2) (carousellaw11_FdbPlays.acts hr2) (fun y hy => by
    obtain ⟨x, hx, rfl⟩ := List.mem_map.1 hy
    have hw := w2_2 x hx
    exact ⟨hw.2.2.1, hw.2.2.2.1⟩)
  rw [List.length_map] at h
  exact h


end Go.Proofs.Ytmlenepeocginaa.PFdbPlays
