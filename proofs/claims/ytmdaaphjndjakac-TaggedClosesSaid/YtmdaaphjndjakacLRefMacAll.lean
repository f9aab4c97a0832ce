/- An address: whether it is one, a group's, its bytes; numbers of two bytes: the document's. -/
import Derived.Test.YtmdaaphjndjakacLRefGroupAll
import Derived.Test.YtmdaaphjndjakacLFieldAll
import Derived.Test.YtmdaaphjndjakacGvTag
import Derived.Test.YtmdaaphjndjakacPAllx19
import Derived.Test.YtmdaaphjndjakacPAllx19
namespace Go.Proofs.Ytmdaaphjndjakac.LAll
open Go.RowKit Go.Proofs.Ytmdaaphjndjakac.PAll Go.Proofs.YtmdaaphjndjakacW.PrintWords Go.Proofs.YtmdaaphjndjakacW.PrintLast Go.Proofs.YtmdaaphjndjakacW.PrintMore Go.Proofs.Ytmdaaphjndjakac
set_option linter.unusedVariables false

theorem rm_put (n m : Int) (w : Int) (hw : wrap64 (8 * m) = w) (hw0 : 0 ≤ w) (hw1 : w ≤ 64) (h0 : 0 ≤ n) (h1 : n ≤ 18446744073709551615) (s : ByteArray) (hp : Gv.pack [(w, n)] = some (s, 0)) : Ev (fun k => carouselref01_Put.f k n m) s := by
  have h := ev_refpack [(⟨w, n⟩ : S131)] (by intro x hx; simp at hx; subst hx; exact ⟨by show (-9223372036854775808 : Int) ≤ w; omega, by show w ≤ 9223372036854775807; omega, h0, h1⟩) (by simp)
  have he := pack_eq [(w, n)] (by simp only [Gv.isU64, List.all_cons, List.all_nil, Bool.and_true, Bool.and_eq_true, decide_eq_true_eq]; unfold Gv.u64max; omega) (by simp)
  rw [hp] at he
  have e : packR (pairs [(⟨w, n⟩ : S131)]) = (s, 0) := (Option.some.inj he).symm
  rw [e] at h
  simp only [carouselref01_Put.f, hw]
  exact Ev.bind h (f := fun k b => some b.1) (Ev.now _)
theorem rm_put6 (n : Int) (h0 : 0 ≤ n) (h1 : n < 281474976710656) : Ev (fun k => carouselref01_Put.f k n 6) (strOfNums (Gv.packB (Gv.bitsOf 48 n))) :=
  rm_put n 6 48 ((mg_wrap (n := 8 * 6) (by decide) (by decide)).trans (by decide)) (by decide) (by decide) h0 (by omega) _ (Gv.pack_six n h0 h1)
theorem rm_put2 (n : Int) (h0 : 0 ≤ n) (h1 : n ≤ 65535) : Ev (fun k => carouselref01_Put.f k n 2) (strOfNums (Gv.packB (Gv.bitsOf 16 n))) :=
  rm_put n 2 16 ((mg_wrap (n := 8 * 2) (by decide) (by decide)).trans (by decide)) (by decide) (by decide) h0 (by omega) _ (Gv.pack_two n h0 h1)
theorem rm_bytes (n : Int) (h0 : 0 ≤ n) (h1 : n < 281474976710656) : Ev (fun k => carouselref02_Bytes.f k n) (strOfNums (Gv.packB (Gv.bitsOf 48 n))) := by
  simp only [carouselref02_Bytes.f, rm_may, Option.bind_some, decide_eq_true h1, if_true]
  exact Ev.bind (rm_put6 n h0 h1) (f := fun k t => some t) (Ev.now _)

end Go.Proofs.Ytmdaaphjndjakac.LAll
