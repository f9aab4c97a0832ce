-- Written by a program of this work, after the translation.
import Derived.Test.YtehicbehljfkhaaPTallyPlaysx0
namespace Go.Proofs.Ytehicbehljfkhaa.PTallyPlays
open Go.RowKit Go.Proofs.YtehicbehljfkhaaW.PrintWords Go.Proofs.YtehicbehljfkhaaW.PrintLast Go.Proofs.YtehicbehljfkhaaW.PrintMore
attribute [local go_sem] max2_int min2_int max_two min_two max_three min_three max_four min_four   -- for this text's walks alone
set_option linter.unusedVariables false
set_option linter.unusedSimpArgs false

-- NOT PRINTED: function 17 (tally_New)

/-! ### tally_has: function 26 -/
def tally_has.f (a0 : Int) : Option (Bool) := if a0 ≥ 0 then (some (decide (a0 < 16))) else (some false)
set_option maxHeartbeats 8000000 in
set_option maxRecDepth 100000 in
theorem tally_has.calls (a0 : Int) (r : Bool) (w : World) (h : tally_has.f a0 = some r) :
    Calls Try.prog 26 #[.int .i64 a0] w fun e w' => e = .returned (.bool r) ∧ Drawn0 w w' := by
  have H : (if a0 ≥ 0 then (some (decide (a0 < 16))) else (some false)) = some r := h
  clear h
  by_cases c2 : a0 ≥ 0
  · rw [if_pos c2] at H
    have c2b0 : decide (0 ≤ a0) = true := decide_eq_true c2
    clear c2
    obtain rfl := Option.some.inj H
    go_enter Try.func26, Try.ntmps26
    go_wp2
    go_ret
    exact ⟨by first | rfl | (simp; done) | (simp [*]; done), by repeat (first | exact Drawn0.refl _ | apply Drawn0.step)⟩
  · rw [if_neg c2] at H
    have c2b0 : decide (0 ≤ a0) = false := decide_eq_false c2
    clear c2
    obtain rfl := Option.some.inj H
    go_enter Try.func26, Try.ntmps26
    go_wp2
    go_ret
    exact ⟨by first | rfl | (simp; done) | (simp [*]; done), by repeat (first | exact Drawn0.refl _ | apply Drawn0.step)⟩

-- NOT PRINTED: function 30 (atomic_LoadUint64)

-- NOT PRINTED: function 27 (atomic_Uint64_Load)

-- NOT PRINTED: function 31 (atomic_CompareAndSwapUint64)

-- NOT PRINTED: function 28 (atomic_Uint64_CompareAndSwap)

-- NOT PRINTED: function 19 (tally_Tally_Add)

-- NOT PRINTED: function 20 (tally_Tally_All)

-- NOT PRINTED: function 24 (tally_Tally_Get)

-- NOT PRINTED: function 18 (carousellaw07_Awake)

-- NOT PRINTED: function 21 (carousellaw07_same)

-- NOT PRINTED: function 32 (atomic_SwapUint64)

-- NOT PRINTED: function 29 (atomic_Uint64_Swap)

-- NOT PRINTED: function 22 (tally_Tally_Reset)

-- NOT PRINTED: function 23 (carouselref07_Add)

-- NOT PRINTED: function 25 (carouselref07_Get)

/-! ### carousellaw07_TallyPlays: function 6 (given: its walk is in another text) -/

def carousellaw07_TallyPlays.Pure : Prop := True
theorem carousellaw07_TallyPlays.acts {w : World} {A0 : Option Addr} {l0 : List (S52)} (hr0 : Kd.C k52 w A0 l0.length l0) : Go.Proofs.Ytehicbehljfkhaa.Ta.Acts w A0 (l0.map fun x => (x.f0, x.f1, x.f2)) := by
  intro k hk
  rw [List.length_map] at hk
  obtain ⟨ad, rfl, z0, _⟩ := at_T52 hr0 0 (by decide) (by omega)
  have hp : ad.spot = none := by
    obtain ⟨b, o, p⟩ := ad
    cases p with
    | none => rfl
    | some q =>
      have hs : (Addr.add ⟨b, o, some q⟩ ((0 : Int).toNat * 3)).spot.isSome = true := by simp [Addr.add]
      unfold World.cell? at z0
      simp only [hs, if_true] at z0
      split at z0 <;> cases z0
  obtain ⟨ad', e, h0, h1, h2⟩ := at_T52 hr0 (k : Int) (by omega) (by omega)
  obtain rfl := Option.some.inj e
  have hlt := World.block_lt_of_cell? w _ h0
  have hrd : rd_T52 l0 (k : Int) = l0[k] := by simp [rd_T52, List.getD_eq_getElem?_getD, List.getElem?_eq_getElem hk]
  rw [Int.toNat_natCast, hrd] at h0 h1 h2
  rw [Int.toNat_natCast] at hlt
  obtain ⟨b, o, p⟩ := ad
  obtain rfl : p = none := hp
  have ha : Addr.add ⟨b, o, none⟩ (k * 3) = ⟨b, o + k * 3, none⟩ := by unfold Addr.add; split <;> simp_all
  rw [ha] at h0 h1 h2 hlt
  refine ⟨b, o, rfl, hlt, ?_, ?_, ?_⟩
  · rw [h0]; simp
  · rw [h1]; simp
  · rw [h2]; simp
theorem carousellaw07_TallyPlays.walk (P : carousellaw07_TallyPlays.Pure) (A0 : Option Addr) (c0 : Nat) (l0 : List (S52)) (w : World) (hr0 : Kd.C k52 w A0 l0.length l0) (hc0 : l0.length ≤ c0) (w0_0 : l0.length ≤ maxLen) (w0_1 : l0.length * 24 ≤ 140737488351232) (w0_2 : ∀ x ∈ l0, (Lit.int .i64 (x).f0).wf = true ∧ (Lit.int .u64 (x).f1).wf = true) :
    Calls Try.prog 6 #[.slice A0 l0.length c0] w fun e w' => e = .returned (.bool true) ∧ Below w.heap.size w w' := by
  have h := Go.Proofs.Ytehicbehljfkhaa.Ta.plays A0 c0 (l0.map fun x => (x.f0, x.f1, x.f2)) w (carousellaw07_TallyPlays.acts hr0) (by rw [List.length_map]; exact hc0) (fun a ha => by
    obtain ⟨x, hx, rfl⟩ := List.mem_map.1 ha
    have h' : IntKind.u64.min ≤ x.f1 ∧ x.f1 ≤ IntKind.u64.max := by simpa [Lit.wf] using (w0_2 x hx).2
    exact h')
  rw [List.length_map] at h
  exact h


end Go.Proofs.Ytehicbehljfkhaa.PTallyPlays
