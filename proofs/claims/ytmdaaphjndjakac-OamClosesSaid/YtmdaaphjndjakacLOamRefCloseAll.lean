/- Close of layer 4, the document's: it comes to the same plain word. -/
import Derived.Test.YtmdaaphjndjakacLOamCloseAll
import Derived.Test.YtmdaaphjndjakacPAllx9
namespace Go.Proofs.Ytmdaaphjndjakac.LAll
open Go.RowKit Go.Proofs.Ytmdaaphjndjakac.PAll Go.Proofs.YtmdaaphjndjakacW.PrintWords Go.Proofs.YtmdaaphjndjakacW.PrintLast Go.Proofs.YtmdaaphjndjakacW.PrintMore Go.Proofs.Ytmdaaphjndjakac
set_option linter.unusedVariables false

theorem ev_ref_close (l v c f o : Int) (s : ByteArray) (hs : s.size ≤ 100000) (hl : isU8 l) (hv : isU8 v) (hc : isU8 c) (hf : isU8 f) (ho : isU8 o) : Ev (fun k => carouselref04_Close.f k l v c f o s) (oamClose l v c f o s) := by
  have hz : ∀ a b c d : Int, (strOfNums [a, b, c, d]).size = 4 := fun a b c d => by rw [strOfNums_size]; rfl
  unfold oamClose
  by_cases h : l ≤ 7 ∧ v ≤ 31
  · rw [if_pos h]
    refine Ev.congr (f := fun k => carouselref04_Close.j0 k s false l v c f o) (fun k => ?_) (Ev.step (f := fun _ => some (if (s.size : Int) = o then ((strOfNums [l * 32 + v, c, f, o] ++ s) ++ ⟨#[0]⟩, 0) else ((⟨#[]⟩ : ByteArray), 3))) (fun k => ?_) (Ev.now _))
    · unfold carouselref04_Close.f
      rw [if_neg (by omega), show decide (v > 31) = false from by simp; omega]
    · simp only [carouselref04_Close.j0]
      rw [if_neg (by simp), oc_wrap ho]
      by_cases h2 : (s.size : Int) = o
      · unfold isU8 at *
        have e : ((l * 32 % 256 + v) % 256) = l * 32 + v := by omega
        rw [if_pos h2, if_pos h2, e]
        simp only [Option.bind_some, hz]
        rw [if_pos (by omega), if_pos (by omega)]
      · rw [if_neg h2, if_neg h2]
  · rw [if_neg h]
    refine Ev.congr (f := fun k => carouselref04_Close.j0 k s true l v c f o) (fun k => ?_) (Ev.step (f := fun _ => some ((⟨#[]⟩ : ByteArray), 4)) (fun k => ?_) (Ev.now _))
    · unfold carouselref04_Close.f
      by_cases h1 : l > 7
      · rw [if_pos h1]
      · rw [if_neg h1, show decide (v > 31) = true from by simp; omega]
    · simp only [carouselref04_Close.j0]
      rw [if_pos trivial]

end Go.Proofs.Ytmdaaphjndjakac.LAll
