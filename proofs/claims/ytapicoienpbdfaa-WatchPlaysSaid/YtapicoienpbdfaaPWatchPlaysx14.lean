-- Written by a program of this work, after the translation.
import Derived.Test.YtapicoienpbdfaaPWatchPlaysx13
import Derived.Test.YtapicoienpbdfaaGwWatchPlays
namespace Go.Proofs.Ytapicoienpbdfaa.PWatchPlays
open Go.RowKit Go.Proofs.YtapicoienpbdfaaW.PrintWords Go.Proofs.YtapicoienpbdfaaW.PrintLast Go.Proofs.YtapicoienpbdfaaW.PrintMore
set_option linter.unusedVariables false
set_option linter.unusedSimpArgs false

/-! ### carousellaw09_WatchPlays: function 4 (given: its walk is in another text) -/

def carousellaw09_WatchPlays.Pure : Prop := True
theorem carousellaw09_WatchPlays.acts {w : World} {A0 : Option Addr} {l0 : List (S51)} (hr0 : Kd.C k51 w A0 l0.length l0) : Go.Proofs.Ytapicoienpbdfaa.Wx.WActs w A0 (l0.map fun x => (x.f0, x.f1, x.f2)) := by
 intro k hk;rw [List.length_map] at hk;obtain ⟨ad,rfl,z0,_⟩:=at_T51 hr0 0 (by decide) (by omega)
 have hp : ad.spot = none:=by
  obtain ⟨b,o,p⟩:=ad;cases p with
 | none => rfl
 | some q =>
   have hs : (Addr.add ⟨b,o,some q⟩ ((0 : Int).toNat * 3)).spot.isSome = true:=by simp [Addr.add]
   unfold World.cell? at z0;simp only [hs,if_true] at z0;split at z0 <;> cases z0
 obtain ⟨ad',e,h0,h1,h2⟩:=at_T51 hr0 (k : Int) (by omega) (by omega);obtain rfl:=Option.some.inj e;have hlt:=World.block_lt_of_cell? w _ h0;have hrd : rd_T51 l0 (k : Int) = l0[k]:=by simp [rd_T51,List.getD_eq_getElem?_getD,List.getElem?_eq_getElem hk]
 rw [Int.toNat_natCast,hrd] at h0 h1 h2;rw [Int.toNat_natCast] at hlt;obtain ⟨b,o,p⟩:=ad;obtain rfl : p = none:=hp;have ha : Addr.add ⟨b,o,none⟩ (k * 3) = ⟨b,o + k * 3,none⟩:=by unfold Addr.add;split <;> simp_all
 rw [ha] at h0 h1 h2 hlt;refine ⟨b,o,rfl,hlt,?_,?_,?_⟩
 ·
  rw [h0];simp
 ·
  rw [h1];simp
 rw [h2];simp
theorem carousellaw09_WatchPlays.walk (P : carousellaw09_WatchPlays.Pure) (a0_0 : Int) (a0_1 : Int) (a0_2 : Int) (a0_3 : ByteArray) (a0_4 : Int) (a0_5 : Int) (a0_6 : Int) (a0_7 : Int) (a0_8 : Bool) (a0_9 : Bool) (a1 : Int) (A2 : Option Addr) (c2 : Nat) (l2 : List (S51)) (w : World) (w0_0 : (Lit.int .u8 a0_0).wf = true) (w0_1 : (Lit.int .u16 a0_1).wf = true) (w0_2 : (Lit.int .u8 a0_2).wf = true) (w0_3 : a0_3.size ≤ 9223372036854775807) (w0_4 : (Lit.int .i64 a0_4).wf = true) (w0_5 : (Lit.int .i64 a0_5).wf = true) (w0_6 : (Lit.int .i64 a0_6).wf = true) (w0_7 : (Lit.int .u64 a0_7).wf = true) (w1_0 : (Lit.int .i64 a1).wf = true) (hr2 : Kd.C k51 w A2 l2.length l2) (hc2 : l2.length ≤ c2) (w2_0 : l2.length ≤ maxLen) (w2_1 : l2.length * 24 ≤ 140737488351232) (w2_2 : (∀ x ∈ l2, (Lit.int .u16 (x).f0).wf = true ∧ (x).f2.size ≤ 9223372036854775807)) :
  Calls Try.prog 4 #[.agg #[.int .u8 a0_0, .int .u16 a0_1, .int .u8 a0_2, .string a0_3, .int .i64 a0_4, .int .i64 a0_5, .int .i64 a0_6, .int .u64 a0_7, .bool a0_8, .bool a0_9], .int .i64 a1, .slice A2 l2.length c2] w fun e w' => e = .returned (.bool true) ∧ Below w.heap.size w w' := by
 have h0 : IntKind.u8.min ≤ a0_0 ∧ a0_0 ≤ IntKind.u8.max:=by simpa [Lit.wf] using w0_0
 have h1 : IntKind.u16.min ≤ a0_1 ∧ a0_1 ≤ IntKind.u16.max:=by simpa [Lit.wf] using w0_1
 have h2 : IntKind.u8.min ≤ a0_2 ∧ a0_2 ≤ IntKind.u8.max:=by simpa [Lit.wf] using w0_2
 have h:=Go.Proofs.Ytapicoienpbdfaa.Wx.plays a0_0 a0_1 a0_2 a0_3 a0_4 a0_5 a0_6 a0_7 a0_8 a0_9 a1 A2 c2 (l2.map fun x => (x.f0,x.f1,x.f2)) w (carousellaw09_WatchPlays.acts hr2) (by rw [List.length_map];exact hc2) h0 h1 h2;rw [List.length_map] at h;exact h


end Go.Proofs.Ytapicoienpbdfaa.PWatchPlays
