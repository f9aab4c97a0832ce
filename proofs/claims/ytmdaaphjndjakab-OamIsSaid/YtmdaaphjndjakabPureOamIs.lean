/- The law OamIs holds: whether any head is as it should be, or what isn't, is the document's answer: for every input. -/
import Derived.Test.YtmdaaphjndjakabPOamIsx2
import Derived.Test.YtmdaaphjndjakabPOamIsx1
namespace Go.Proofs.Ytmdaaphjndjakab.Pure
open Go.RowKit Go.Proofs.Ytmdaaphjndjakab.POamIs Go.Proofs.YtmdaaphjndjakabW.PrintWords Go.Proofs.YtmdaaphjndjakabW.PrintLast Go.Proofs.YtmdaaphjndjakabW.PrintMore Go.Proofs.Ytmdaaphjndjakab
set_option linter.unusedVariables false

theorem oi_awake : carousellaw04_Awake.f = some true := by decide +kernel

theorem oi_is (k : Nat) (a b c d e l v o f : Int) : oam_Head_Is.f (k + 1) a b c d e l v o f = carouselref04_Is.f a b c d e l v o f := by
  unfold oam_Head_Is.f carouselref04_Is.f
  by_cases h1 : a = l
  · rw [if_pos h1, if_pos h1]
    by_cases h2 : b = v
    · by_cases h3 : c = o
      · by_cases h4 : e = f
        · simp [oam_Head_Is.j0, h2, h3, h4]
        · simp [oam_Head_Is.j0, h2, h3, h4]
      · simp [oam_Head_Is.j0, h2, h3]
    · by_cases h3 : c = o
      · simp [oam_Head_Is.j0, h2, h3]
      · simp [oam_Head_Is.j0, h2, h3]
  · rw [if_neg h1, if_neg h1]

theorem oi_some (a b c d e l v o f : Int) : ∃ r, carouselref04_Is.f a b c d e l v o f = some r := by
  unfold carouselref04_Is.f
  repeat' split
  all_goals exact ⟨_, rfl⟩

theorem OamIs : carousellaw04_OamIs.Pure := by
  intro a b c d e l v o f _ _ _ _ _ _ _ _ _
  refine ⟨1, ?_⟩
  unfold carousellaw04_OamIs.f
  rw [oi_awake]
  simp only [Option.bind_some, if_true]
  obtain ⟨r, hr⟩ := oi_some a b c d e l v o f
  rw [oi_is 0, oi_is 0, hr]
  have h2 : carouselref04_Is.f a b c d e a b c e = some 0 := by unfold carouselref04_Is.f; simp
  rw [h2]
  simp

end Go.Proofs.Ytmdaaphjndjakab.Pure
