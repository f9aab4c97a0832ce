-- Written by a program of this work, after the translation.
import Derived.Test.YtmdaaphjndjakagPWatchLosesx0
import Derived.Test.YtmdaaphjndjakagPWatchLosesx1
import Derived.Test.YtmdaaphjndjakagPWatchLosesx2
import Derived.Test.YtmdaaphjndjakagPWatchLosesx3
import Derived.Test.YtmdaaphjndjakagPWatchLosesx6
namespace Go.Proofs.Ytmdaaphjndjakag.PWatchLoses
open Go.RowKit Go.Proofs.YtmdaaphjndjakagW.PrintWords Go.Proofs.YtmdaaphjndjakagW.PrintLast Go.Proofs.YtmdaaphjndjakagW.PrintMore
attribute [local go_sem] max2_int min2_int max_two min_two max_three min_three max_four min_four   -- for this text's walks alone
set_option linter.unusedVariables false
set_option linter.unusedSimpArgs false

/-! ### carousellaw09_WatchLoses: function 8 -/
mutual
def carousellaw09_WatchLoses.j0 : Nat → List Int → Int → Int → Int → Bool → Int → Int → Int → ByteArray → Int → Int → Int → Int → Bool → Bool → Int → Int → Int → ByteArray → Int → Int → Int → Int → Bool → Bool → Option (Bool)
  | 0, _, _, _, _, _, _, _, _, _, _, _, _, _, _, _, _, _, _, _, _, _, _, _, _, _ => none
  | k + 1, x1, x5, x7, x9, x44, x246000, x246001, x246002, x246003, x246004, x246005, x246006, x246007, x246008, x246009, x259000, x259001, x259002, x259003, x259004, x259005, x259006, x259007, x259008, x259009 => if x44 = true then (if x7 = 0 then (if x9 = 0 then ((carousellaw09_Awake.f k).bind fun t259 => (some t259)) else (some false)) else (some false)) else ((watch_Watch_Tick.f k x259000 x259001 x259002 x259003 x259004 x259005 x259006 x259007 x259008 x259009 0).bind fun bt260 => (carousellaw09_WatchLoses.l0 k x5 bt260.2.2.2.2.2.2.2.2.2.2 0 x1 (x1.length : Int) 0 x246000 x246001 x246002 x246003 x246004 x246005 x246006 x246007 x246008 x246009))
def carousellaw09_WatchLoses.l0 : Nat → Int → ByteArray → Int → List Int → Int → Int → Int → Int → Int → ByteArray → Int → Int → Int → Int → Bool → Bool → Option (Bool)
  | 0, _, _, _, _, _, _, _, _, _, _, _, _, _, _, _, _ => none
  | k + 1, x5, x11, x12, x59, x60, x61, x246000, x246001, x246002, x246003, x246004, x246005, x246006, x246007, x246008, x246009 => if x61 < x60 then (if 0 ≤ x61 then (if x61 < (x59.length : Int) then (carousellaw09_WatchLoses.l1 k x5 x11 x12 x59 x60 x61 (wrap64 (Int.tmod (rd x59 x61) 300)) 0 x246000 x246001 x246002 x246003 x246004 x246005 x246006 x246007 x246008 x246009) else (none)) else (none)) else ((carousellaw09_Awake.f k).bind fun t272 => (some t272))
def carousellaw09_WatchLoses.l1 : Nat → Int → ByteArray → Int → List Int → Int → Int → Int → Int → Int → Int → Int → ByteArray → Int → Int → Int → Int → Bool → Bool → Option (Bool)
  | 0, _, _, _, _, _, _, _, _, _, _, _, _, _, _, _, _, _, _ => none
  | k + 1, x5, x11, x12, x59, x60, x61, x68, x69, x246000, x246001, x246002, x246003, x246004, x246005, x246006, x246007, x246008, x246009 => if x69 < x68 then ((watch_Watch_Tick.f k x246000 x246001 x246002 x246003 x246004 x246005 x246006 x246007 x246008 x246009 (wrap64 (x12 + 1))).bind fun bt274 => (if (bt274.2.2.2.2.2.2.2.2.1 != (decide ((wrap64 (2 * (wrap64 ((wrap64 (x12 + 1)) - bt274.2.2.2.2.2.1)))) > (wrap64 (7 * x5))))) = true then (some false) else (carousellaw09_WatchLoses.l1 k x5 x11 (wrap64 (x12 + 1)) x59 x60 x61 x68 (wrap64 (x69 + 1)) bt274.1 bt274.2.1 bt274.2.2.1 bt274.2.2.2.1 bt274.2.2.2.2.1 bt274.2.2.2.2.2.1 bt274.2.2.2.2.2.2.1 bt274.2.2.2.2.2.2.2.1 bt274.2.2.2.2.2.2.2.2.1 bt274.2.2.2.2.2.2.2.2.2.1))) else ((watch_Watch_Hear.f k x246000 x246001 x246002 x246003 x246004 x246005 x246006 x246007 x246008 x246009 x12 x11).bind fun bt286 => (if bt286.2.2.2.2.2.2.2.2.2.2 = 0 then (if bt286.2.2.2.2.2.2.2.2.1 = true then (carousellaw09_WatchLoses.j3 k x5 x11 x12 x59 x60 x61 true bt286.1 bt286.2.1 bt286.2.2.1 bt286.2.2.2.1 bt286.2.2.2.2.1 bt286.2.2.2.2.2.1 bt286.2.2.2.2.2.2.1 bt286.2.2.2.2.2.2.2.1 bt286.2.2.2.2.2.2.2.2.1 bt286.2.2.2.2.2.2.2.2.2.1) else (carousellaw09_WatchLoses.j3 k x5 x11 x12 x59 x60 x61 (bt286.2.2.2.2.2.1 != x12) bt286.1 bt286.2.1 bt286.2.2.1 bt286.2.2.2.1 bt286.2.2.2.2.1 bt286.2.2.2.2.2.1 bt286.2.2.2.2.2.2.1 bt286.2.2.2.2.2.2.2.1 bt286.2.2.2.2.2.2.2.2.1 bt286.2.2.2.2.2.2.2.2.2.1)) else (carousellaw09_WatchLoses.j3 k x5 x11 x12 x59 x60 x61 true bt286.1 bt286.2.1 bt286.2.2.1 bt286.2.2.2.1 bt286.2.2.2.2.1 bt286.2.2.2.2.2.1 bt286.2.2.2.2.2.2.1 bt286.2.2.2.2.2.2.2.1 bt286.2.2.2.2.2.2.2.2.1 bt286.2.2.2.2.2.2.2.2.2.1)))
def carousellaw09_WatchLoses.j3 : Nat → Int → ByteArray → Int → List Int → Int → Int → Bool → Int → Int → Int → ByteArray → Int → Int → Int → Int → Bool → Bool → Option (Bool)
  | 0, _, _, _, _, _, _, _, _, _, _, _, _, _, _, _, _, _ => none
  | k + 1, x5, x11, x12, x59, x60, x61, x110, x246000, x246001, x246002, x246003, x246004, x246005, x246006, x246007, x246008, x246009 => if x110 = true then (some false) else (carousellaw09_WatchLoses.l0 k x5 x11 x12 x59 x60 (wrap64 (x61 + 1)) x246000 x246001 x246002 x246003 x246004 x246005 x246006 x246007 x246008 x246009)
end
def carousellaw09_WatchLoses.f (k : Nat) (a0 : Int) (l1 : List Int) : Option (Bool) := (ccm_Name.f (⟨#[120]⟩ : ByteArray)).bind fun t233 => ((watch_New.f k 0 1 4 t233 (wrap64 ((wrap64 (Int.tmod a0 50)) + 1)) 0).bind fun bt234 => ((ccm_Name.f (⟨#[120]⟩ : ByteArray)).bind fun t246 => ((watch_New.f k 0 2 4 t246 (wrap64 ((wrap64 (Int.tmod a0 50)) + 1)) 0).bind fun bt247 => (if bt234.2.2.2.2.2.2.2.2.2.2 = 0 then (if bt247.2.2.2.2.2.2.2.2.2.2 = 0 then (carousellaw09_WatchLoses.j0 k l1 (wrap64 ((wrap64 (Int.tmod a0 50)) + 1)) bt234.2.2.2.2.2.2.2.2.2.2 bt247.2.2.2.2.2.2.2.2.2.2 (decide ((l1.length : Int) > 60)) bt234.1 bt234.2.1 bt234.2.2.1 bt234.2.2.2.1 bt234.2.2.2.2.1 bt234.2.2.2.2.2.1 bt234.2.2.2.2.2.2.1 bt234.2.2.2.2.2.2.2.1 bt234.2.2.2.2.2.2.2.2.1 bt234.2.2.2.2.2.2.2.2.2.1 bt247.1 bt247.2.1 bt247.2.2.1 bt247.2.2.2.1 bt247.2.2.2.2.1 bt247.2.2.2.2.2.1 bt247.2.2.2.2.2.2.1 bt247.2.2.2.2.2.2.2.1 bt247.2.2.2.2.2.2.2.2.1 bt247.2.2.2.2.2.2.2.2.2.1) else (carousellaw09_WatchLoses.j0 k l1 (wrap64 ((wrap64 (Int.tmod a0 50)) + 1)) bt234.2.2.2.2.2.2.2.2.2.2 bt247.2.2.2.2.2.2.2.2.2.2 true bt234.1 bt234.2.1 bt234.2.2.1 bt234.2.2.2.1 bt234.2.2.2.2.1 bt234.2.2.2.2.2.1 bt234.2.2.2.2.2.2.1 bt234.2.2.2.2.2.2.2.1 bt234.2.2.2.2.2.2.2.2.1 bt234.2.2.2.2.2.2.2.2.2.1 bt247.1 bt247.2.1 bt247.2.2.1 bt247.2.2.2.1 bt247.2.2.2.2.1 bt247.2.2.2.2.2.1 bt247.2.2.2.2.2.2.1 bt247.2.2.2.2.2.2.2.1 bt247.2.2.2.2.2.2.2.2.1 bt247.2.2.2.2.2.2.2.2.2.1)) else (carousellaw09_WatchLoses.j0 k l1 (wrap64 ((wrap64 (Int.tmod a0 50)) + 1)) bt234.2.2.2.2.2.2.2.2.2.2 bt247.2.2.2.2.2.2.2.2.2.2 true bt234.1 bt234.2.1 bt234.2.2.1 bt234.2.2.2.1 bt234.2.2.2.2.1 bt234.2.2.2.2.2.1 bt234.2.2.2.2.2.2.1 bt234.2.2.2.2.2.2.2.1 bt234.2.2.2.2.2.2.2.2.1 bt234.2.2.2.2.2.2.2.2.2.1 bt247.1 bt247.2.1 bt247.2.2.1 bt247.2.2.2.1 bt247.2.2.2.2.1 bt247.2.2.2.2.2.1 bt247.2.2.2.2.2.2.1 bt247.2.2.2.2.2.2.2.1 bt247.2.2.2.2.2.2.2.2.1 bt247.2.2.2.2.2.2.2.2.2.1)))))
theorem carousellaw09_WatchLoses.mono_l : ∀ k, (∀ y0 y1 y2 y3 y4 y5 y6 y7 y8 y9 y10 y11 y12 y13 y14 y15 y16 y17 y18 y19 y20 y21 y22 y23 y24, LeO (carousellaw09_WatchLoses.j0 k y0 y1 y2 y3 y4 y5 y6 y7 y8 y9 y10 y11 y12 y13 y14 y15 y16 y17 y18 y19 y20 y21 y22 y23 y24) (carousellaw09_WatchLoses.j0 (k + 1) y0 y1 y2 y3 y4 y5 y6 y7 y8 y9 y10 y11 y12 y13 y14 y15 y16 y17 y18 y19 y20 y21 y22 y23 y24)) ∧ (∀ y0 y1 y2 y3 y4 y5 y6 y7 y8 y9 y10 y11 y12 y13 y14 y15, LeO (carousellaw09_WatchLoses.l0 k y0 y1 y2 y3 y4 y5 y6 y7 y8 y9 y10 y11 y12 y13 y14 y15) (carousellaw09_WatchLoses.l0 (k + 1) y0 y1 y2 y3 y4 y5 y6 y7 y8 y9 y10 y11 y12 y13 y14 y15)) ∧ (∀ y0 y1 y2 y3 y4 y5 y6 y7 y8 y9 y10 y11 y12 y13 y14 y15 y16 y17, LeO (carousellaw09_WatchLoses.l1 k y0 y1 y2 y3 y4 y5 y6 y7 y8 y9 y10 y11 y12 y13 y14 y15 y16 y17) (carousellaw09_WatchLoses.l1 (k + 1) y0 y1 y2 y3 y4 y5 y6 y7 y8 y9 y10 y11 y12 y13 y14 y15 y16 y17)) ∧ (∀ y0 y1 y2 y3 y4 y5 y6 y7 y8 y9 y10 y11 y12 y13 y14 y15 y16, LeO (carousellaw09_WatchLoses.j3 k y0 y1 y2 y3 y4 y5 y6 y7 y8 y9 y10 y11 y12 y13 y14 y15 y16) (carousellaw09_WatchLoses.j3 (k + 1) y0 y1 y2 y3 y4 y5 y6 y7 y8 y9 y10 y11 y12 y13 y14 y15 y16))
 | 0 => ⟨fun _ _ _ _ _ _ _ _ _ _ _ _ _ _ _ _ _ _ _ _ _ _ _ _ _ r h => by simp [carousellaw09_WatchLoses.j0] at h, fun _ _ _ _ _ _ _ _ _ _ _ _ _ _ _ _ r h => by simp [carousellaw09_WatchLoses.l0] at h, fun _ _ _ _ _ _ _ _ _ _ _ _ _ _ _ _ _ _ r h => by simp [carousellaw09_WatchLoses.l1] at h, fun _ _ _ _ _ _ _ _ _ _ _ _ _ _ _ _ _ r h => by simp [carousellaw09_WatchLoses.j3] at h⟩
 | k + 1 => by
  obtain ⟨ih0, ih1, ih2, ih3⟩ := carousellaw09_WatchLoses.mono_l k
  refine ⟨?_, ?_, ?_, ?_⟩
  ·
   intro y0 y1 y2 y3 y4 y5 y6 y7 y8 y9 y10 y11 y12 y13 y14 y15 y16 y17 y18 y19 y20 y21 y22 y23 y24
   unfold carousellaw09_WatchLoses.j0
   repeat' first
   | (with_reducible exact ih0 _ _ _ _ _ _ _ _ _ _ _ _ _ _ _ _ _ _ _ _ _ _ _ _ _)
   | (with_reducible exact ih1 _ _ _ _ _ _ _ _ _ _ _ _ _ _ _ _)
   | (with_reducible exact ih2 _ _ _ _ _ _ _ _ _ _ _ _ _ _ _ _ _ _)
   | (with_reducible exact ih3 _ _ _ _ _ _ _ _ _ _ _ _ _ _ _ _ _)
   | (with_reducible exact carousellaw09_Awake.mono _)
   | (with_reducible exact watch_New.mono _ _ _ _ _ _ _)
   | (with_reducible exact watch_Watch_Hear.mono _ _ _ _ _ _ _ _ _ _ _ _ _)
   | (with_reducible exact watch_Watch_Tick.mono _ _ _ _ _ _ _ _ _ _ _ _)
   | (with_reducible exact LeO.refl _)
   | (with_reducible exact LeO.none _)
   | (with_reducible refine LeO.ite ?_ ?_)
   | (with_reducible refine LeO.bind ?_ (fun _ => ?_))
   | exact ih0 _ _ _ _ _ _ _ _ _ _ _ _ _ _ _ _ _ _ _ _ _ _ _ _ _
   | exact ih1 _ _ _ _ _ _ _ _ _ _ _ _ _ _ _ _
   | exact ih2 _ _ _ _ _ _ _ _ _ _ _ _ _ _ _ _ _ _
   | exact ih3 _ _ _ _ _ _ _ _ _ _ _ _ _ _ _ _ _
   | exact carousellaw09_Awake.mono _
   | exact watch_New.mono _ _ _ _ _ _ _
   | exact watch_Watch_Hear.mono _ _ _ _ _ _ _ _ _ _ _ _ _
   | exact watch_Watch_Tick.mono _ _ _ _ _ _ _ _ _ _ _ _
   | exact LeO.none _
   | refine LeO.ite ?_ ?_
   | refine LeO.bind ?_ (fun _ => ?_)
  ·
   intro y0 y1 y2 y3 y4 y5 y6 y7 y8 y9 y10 y11 y12 y13 y14 y15
   unfold carousellaw09_WatchLoses.l0
   repeat' first
   | (with_reducible exact ih0 _ _ _ _ _ _ _ _ _ _ _ _ _ _ _ _ _ _ _ _ _ _ _ _ _)
   | (with_reducible exact ih1 _ _ _ _ _ _ _ _ _ _ _ _ _ _ _ _)
   | (with_reducible exact ih2 _ _ _ _ _ _ _ _ _ _ _ _ _ _ _ _ _ _)
   | (with_reducible exact ih3 _ _ _ _ _ _ _ _ _ _ _ _ _ _ _ _ _)
   | (with_reducible exact carousellaw09_Awake.mono _)
   | (with_reducible exact watch_New.mono _ _ _ _ _ _ _)
   | (with_reducible exact watch_Watch_Hear.mono _ _ _ _ _ _ _ _ _ _ _ _ _)
   | (with_reducible exact watch_Watch_Tick.mono _ _ _ _ _ _ _ _ _ _ _ _)
   | (with_reducible exact LeO.refl _)
   | (with_reducible exact LeO.none _)
   | (with_reducible refine LeO.ite ?_ ?_)
   | (with_reducible refine LeO.bind ?_ (fun _ => ?_))
   | exact ih0 _ _ _ _ _ _ _ _ _ _ _ _ _ _ _ _ _ _ _ _ _ _ _ _ _
   | exact ih1 _ _ _ _ _ _ _ _ _ _ _ _ _ _ _ _
   | exact ih2 _ _ _ _ _ _ _ _ _ _ _ _ _ _ _ _ _ _
   | exact ih3 _ _ _ _ _ _ _ _ _ _ _ _ _ _ _ _ _
   | exact carousellaw09_Awake.mono _
   | exact watch_New.mono _ _ _ _ _ _ _
   | exact watch_Watch_Hear.mono _ _ _ _ _ _ _ _ _ _ _ _ _
   | exact watch_Watch_Tick.mono _ _ _ _ _ _ _ _ _ _ _ _
   | exact LeO.none _
   | refine LeO.ite ?_ ?_
   | refine LeO.bind ?_ (fun _ => ?_)
  ·
   intro y0 y1 y2 y3 y4 y5 y6 y7 y8 y9 y10 y11 y12 y13 y14 y15 y16 y17
   unfold carousellaw09_WatchLoses.l1
   repeat' first
   | (with_reducible exact ih0 _ _ _ _ _ _ _ _ _ _ _ _ _ _ _ _ _ _ _ _ _ _ _ _ _)
   | (with_reducible exact ih1 _ _ _ _ _ _ _ _ _ _ _ _ _ _ _ _)
   | (with_reducible exact ih2 _ _ _ _ _ _ _ _ _ _ _ _ _ _ _ _ _ _)
   | (with_reducible exact ih3 _ _ _ _ _ _ _ _ _ _ _ _ _ _ _ _ _)
   | (with_reducible exact carousellaw09_Awake.mono _)
   | (with_reducible exact watch_New.mono _ _ _ _ _ _ _)
   | (with_reducible exact watch_Watch_Hear.mono _ _ _ _ _ _ _ _ _ _ _ _ _)
   | (with_reducible exact watch_Watch_Tick.mono _ _ _ _ _ _ _ _ _ _ _ _)
   | (with_reducible exact LeO.refl _)
   | (with_reducible exact LeO.none _)
   | (with_reducible refine LeO.ite ?_ ?_)
   | (with_reducible refine LeO.bind ?_ (fun _ => ?_))
   | exact ih0 _ _ _ _ _ _ _ _ _ _ _ _ _ _ _ _ _ _ _ _ _ _ _ _ _
   | exact ih1 _ _ _ _ _ _ _ _ _ _ _ _ _ _ _ _
   | exact ih2 _ _ _ _ _ _ _ _ _ _ _ _ _ _ _ _ _ _
   | exact ih3 _ _ _ _ _ _ _ _ _ _ _ _ _ _ _ _ _
   | exact carousellaw09_Awake.mono _
   | exact watch_New.mono _ _ _ _ _ _ _
   | exact watch_Watch_Hear.mono _ _ _ _ _ _ _ _ _ _ _ _ _
   | exact watch_Watch_Tick.mono _ _ _ _ _ _ _ _ _ _ _ _
   | exact LeO.none _
   | refine LeO.ite ?_ ?_
   | refine LeO.bind ?_ (fun _ => ?_)
  ·
   intro y0 y1 y2 y3 y4 y5 y6 y7 y8 y9 y10 y11 y12 y13 y14 y15 y16
   unfold carousellaw09_WatchLoses.j3
   repeat' first
   | (with_reducible exact ih0 _ _ _ _ _ _ _ _ _ _ _ _ _ _ _ _ _ _ _ _ _ _ _ _ _)
   | (with_reducible exact ih1 _ _ _ _ _ _ _ _ _ _ _ _ _ _ _ _)
   | (with_reducible exact ih2 _ _ _ _ _ _ _ _ _ _ _ _ _ _ _ _ _ _)
   | (with_reducible exact ih3 _ _ _ _ _ _ _ _ _ _ _ _ _ _ _ _ _)
   | (with_reducible exact carousellaw09_Awake.mono _)
   | (with_reducible exact watch_New.mono _ _ _ _ _ _ _)
   | (with_reducible exact watch_Watch_Hear.mono _ _ _ _ _ _ _ _ _ _ _ _ _)
   | (with_reducible exact watch_Watch_Tick.mono _ _ _ _ _ _ _ _ _ _ _ _)
   | (with_reducible exact LeO.refl _)
   | (with_reducible exact LeO.none _)
   | (with_reducible refine LeO.ite ?_ ?_)
   | (with_reducible refine LeO.bind ?_ (fun _ => ?_))
   | exact ih0 _ _ _ _ _ _ _ _ _ _ _ _ _ _ _ _ _ _ _ _ _ _ _ _ _
   | exact ih1 _ _ _ _ _ _ _ _ _ _ _ _ _ _ _ _
   | exact ih2 _ _ _ _ _ _ _ _ _ _ _ _ _ _ _ _ _ _
   | exact ih3 _ _ _ _ _ _ _ _ _ _ _ _ _ _ _ _ _
   | exact carousellaw09_Awake.mono _
   | exact watch_New.mono _ _ _ _ _ _ _
   | exact watch_Watch_Hear.mono _ _ _ _ _ _ _ _ _ _ _ _ _
   | exact watch_Watch_Tick.mono _ _ _ _ _ _ _ _ _ _ _ _
   | exact LeO.none _
   | refine LeO.ite ?_ ?_
   | refine LeO.bind ?_ (fun _ => ?_)
theorem carousellaw09_WatchLoses.mono : ∀ a0 a1 k, LeO (carousellaw09_WatchLoses.f k a0 a1) (carousellaw09_WatchLoses.f (k + 1) a0 a1) := by
 intro a0 a1 k
 obtain ⟨ih0, ih1, ih2, ih3⟩ := carousellaw09_WatchLoses.mono_l k
 unfold carousellaw09_WatchLoses.f
 repeat' first
   | (with_reducible exact ih0 _ _ _ _ _ _ _ _ _ _ _ _ _ _ _ _ _ _ _ _ _ _ _ _ _)
   | (with_reducible exact ih1 _ _ _ _ _ _ _ _ _ _ _ _ _ _ _ _)
   | (with_reducible exact ih2 _ _ _ _ _ _ _ _ _ _ _ _ _ _ _ _ _ _)
   | (with_reducible exact ih3 _ _ _ _ _ _ _ _ _ _ _ _ _ _ _ _ _)
   | (with_reducible exact carousellaw09_Awake.mono _)
   | (with_reducible exact watch_New.mono _ _ _ _ _ _ _)
   | (with_reducible exact watch_Watch_Hear.mono _ _ _ _ _ _ _ _ _ _ _ _ _)
   | (with_reducible exact watch_Watch_Tick.mono _ _ _ _ _ _ _ _ _ _ _ _)
   | (with_reducible exact LeO.refl _)
   | (with_reducible exact LeO.none _)
   | (with_reducible refine LeO.ite ?_ ?_)
   | (with_reducible refine LeO.bind ?_ (fun _ => ?_))
   | exact ih0 _ _ _ _ _ _ _ _ _ _ _ _ _ _ _ _ _ _ _ _ _ _ _ _ _
   | exact ih1 _ _ _ _ _ _ _ _ _ _ _ _ _ _ _ _
   | exact ih2 _ _ _ _ _ _ _ _ _ _ _ _ _ _ _ _ _ _
   | exact ih3 _ _ _ _ _ _ _ _ _ _ _ _ _ _ _ _ _
   | exact carousellaw09_Awake.mono _
   | exact watch_New.mono _ _ _ _ _ _ _
   | exact watch_Watch_Hear.mono _ _ _ _ _ _ _ _ _ _ _ _ _
   | exact watch_Watch_Tick.mono _ _ _ _ _ _ _ _ _ _ _ _
   | exact LeO.none _
   | refine LeO.ite ?_ ?_
   | refine LeO.bind ?_ (fun _ => ?_)
set_option maxHeartbeats 8000000 in
set_option maxRecDepth 100000 in
theorem carousellaw09_WatchLoses.calls (k : Nat) (a0 : Int) (A1 : Option Addr) (c1 : Nat) (l1 : List Int) (r : Bool) (w : World) (hr1 : Kd.C (Kd.int .u16) w A1 l1.length l1) (hc1 : l1.length ≤ c1) (h : carousellaw09_WatchLoses.f k a0 l1 = some r) (hT : r = true) :
  Calls Try.prog 8 #[.int .u8 a0, .slice A1 l1.length c1] w fun e w' => e = .returned (.bool r) ∧ Below w.heap.size w w' := by
 have hu59 := Try.underlying59
 have HR1 := Aside0.mk hr1
 have HC1 := Aside0.mk hc1
 clear hr1 hc1
 have HB := Aside0.mk (Below.refl w.heap.size w)
 have H : ((ccm_Name.f (⟨#[120]⟩ : ByteArray)).bind fun t233 => ((watch_New.f k 0 1 4 t233 (wrap64 ((wrap64 (Int.tmod a0 50)) + 1)) 0).bind fun bt234 => ((ccm_Name.f (⟨#[120]⟩ : ByteArray)).bind fun t246 => ((watch_New.f k 0 2 4 t246 (wrap64 ((wrap64 (Int.tmod a0 50)) + 1)) 0).bind fun bt247 => (if bt234.2.2.2.2.2.2.2.2.2.2 = 0 then (if bt247.2.2.2.2.2.2.2.2.2.2 = 0 then (carousellaw09_WatchLoses.j0 k l1 (wrap64 ((wrap64 (Int.tmod a0 50)) + 1)) bt234.2.2.2.2.2.2.2.2.2.2 bt247.2.2.2.2.2.2.2.2.2.2 (decide ((l1.length : Int) > 60)) bt234.1 bt234.2.1 bt234.2.2.1 bt234.2.2.2.1 bt234.2.2.2.2.1 bt234.2.2.2.2.2.1 bt234.2.2.2.2.2.2.1 bt234.2.2.2.2.2.2.2.1 bt234.2.2.2.2.2.2.2.2.1 bt234.2.2.2.2.2.2.2.2.2.1 bt247.1 bt247.2.1 bt247.2.2.1 bt247.2.2.2.1 bt247.2.2.2.2.1 bt247.2.2.2.2.2.1 bt247.2.2.2.2.2.2.1 bt247.2.2.2.2.2.2.2.1 bt247.2.2.2.2.2.2.2.2.1 bt247.2.2.2.2.2.2.2.2.2.1) else (carousellaw09_WatchLoses.j0 k l1 (wrap64 ((wrap64 (Int.tmod a0 50)) + 1)) bt234.2.2.2.2.2.2.2.2.2.2 bt247.2.2.2.2.2.2.2.2.2.2 true bt234.1 bt234.2.1 bt234.2.2.1 bt234.2.2.2.1 bt234.2.2.2.2.1 bt234.2.2.2.2.2.1 bt234.2.2.2.2.2.2.1 bt234.2.2.2.2.2.2.2.1 bt234.2.2.2.2.2.2.2.2.1 bt234.2.2.2.2.2.2.2.2.2.1 bt247.1 bt247.2.1 bt247.2.2.1 bt247.2.2.2.1 bt247.2.2.2.2.1 bt247.2.2.2.2.2.1 bt247.2.2.2.2.2.2.1 bt247.2.2.2.2.2.2.2.1 bt247.2.2.2.2.2.2.2.2.1 bt247.2.2.2.2.2.2.2.2.2.1)) else (carousellaw09_WatchLoses.j0 k l1 (wrap64 ((wrap64 (Int.tmod a0 50)) + 1)) bt234.2.2.2.2.2.2.2.2.2.2 bt247.2.2.2.2.2.2.2.2.2.2 true bt234.1 bt234.2.1 bt234.2.2.1 bt234.2.2.2.1 bt234.2.2.2.2.1 bt234.2.2.2.2.2.1 bt234.2.2.2.2.2.2.1 bt234.2.2.2.2.2.2.2.1 bt234.2.2.2.2.2.2.2.2.1 bt234.2.2.2.2.2.2.2.2.2.1 bt247.1 bt247.2.1 bt247.2.2.1 bt247.2.2.2.1 bt247.2.2.2.2.1 bt247.2.2.2.2.2.1 bt247.2.2.2.2.2.2.1 bt247.2.2.2.2.2.2.2.1 bt247.2.2.2.2.2.2.2.2.1 bt247.2.2.2.2.2.2.2.2.2.1)))))) = some r := h
 clear h
 replace H := Option.bind_eq_some_iff.mp H
 obtain ⟨t233, A30, H⟩ := H
 try dsimp only at H
 have A3 := Aside0.mk A30
 clear A30
 replace H := Option.bind_eq_some_iff.mp H
 obtain ⟨⟨t234, t235, t236, t237, t238, t239, t240, t241, t242, t243, t244⟩, A40, H⟩ := H
 try dsimp only at H
 have A4 := Aside0.mk A40
 clear A40
 replace H := Option.bind_eq_some_iff.mp H
 obtain ⟨t246, A50, H⟩ := H
 try dsimp only at H
 have A5 := Aside0.mk A50
 clear A50
 replace H := Option.bind_eq_some_iff.mp H
 obtain ⟨⟨t247, t248, t249, t250, t251, t252, t253, t254, t255, t256, t257⟩, A60, H⟩ := H
 try dsimp only at H
 have A6 := Aside0.mk A60
 clear A60
 have HC7 := Aside0.mk H
 clear H
 go_enter Try.func8, Try.ntmps8
 go_upto_region 4 with (first | ((with_reducible refine gate_callee (f := 37) rfl ?_); refine goesL_ (some 23) rfl rfl Try.func37 (by kernel_rfl) rfl #[.string (⟨#[120]⟩ : ByteArray)] rfl (by (try simp only [List.map_toArray, List.map_cons, List.map_nil]); first | done | rfl | (simp only [List.length_drop, List.length_take]; rfl)) ?_; (with_reducible refine (ccm_Name.calls (⟨#[120]⟩ : ByteArray) t233 _ A3.out).mono ?_); rintro e w8 ⟨rfl, hb⟩; refine ⟨_, rfl, ?_⟩; have n0_ := Aside0.mk (below_step (by repeat (first | (with_reducible first | exact HB.out | apply below_alloc | apply pw_below_drewN | apply below_drew1) | exact HB.out)) hb); clear HB; have HB := n0_; clear n0_; (try clear hb); (try clear hb2); (try clear hk); (try clear hi)) | ((with_reducible refine gate_callee (f := 31) rfl ?_); refine goesL_ (some 25) rfl rfl Try.func31 (by kernel_rfl) rfl #[.int .u8 0, .int .u16 1, .int .u8 4, .string t233, .int .i64 (wrap64 ((wrap64 (Int.tmod a0 50)) + 1)), .int .i64 0] rfl (by (try simp only [List.map_toArray, List.map_cons, List.map_nil]); first | done | rfl | (simp only [List.length_drop, List.length_take]; rfl)) ?_; (with_reducible refine (watch_New.calls k 0 1 4 t233 (wrap64 ((wrap64 (Int.tmod a0 50)) + 1)) 0 t234 t235 t236 t237 t238 t239 t240 t241 t242 t243 t244 _ A4.out).mono ?_); rintro e w9 ⟨rfl, hb⟩; refine ⟨_, rfl, ?_⟩; have n0_ := Aside0.mk (below_step (by repeat (first | (with_reducible first | exact HB.out | apply below_alloc | apply pw_below_drewN | apply below_drew1) | exact HB.out)) hb); clear HB; have HB := n0_; clear n0_; (try clear hb); (try clear hb2); (try clear hk); (try clear hi)) | ((with_reducible refine gate_dst (N := 6) rfl ?_); (try (refine gate_guard (by rfl) ?_; dsimp only)); refine box_event ?hg (N := 6) ?hd (cs := #[.int .u8 0, .int .u16 0, .int .u8 0, .string (⟨#[]⟩ : ByteArray), .int .i64 0, .int .i64 0, .int .i64 0, .int .u64 0, .bool false, .bool false]) (t := 59) ?hr ?_; (case hd => rfl); (case hg => rfl); (case hr => first | (go_simp; done) | (go_simp; rfl)); intro gb245 hg w10 hbox hb; have n0_ := Aside0.mk (below_step (by repeat (first | (with_reducible first | exact HB.out | apply below_alloc | apply pw_below_drewN | apply below_drew1) | exact HB.out)) hb); have n1_ := Aside0.mk (hbox); have n2_ := Aside0.mk ((by rw [hg]; exact (below_size (by repeat (first | (with_reducible first | exact HB.out | apply below_alloc | apply pw_below_drewN | apply below_drew1) | exact HB.out))) : w.heap.size ≤ gb245)); have n3_ := Aside0.mk ((by rw [hg]; exact (below_size (by repeat (first | (with_reducible first | exact HB.out | apply below_alloc | apply pw_below_drewN | apply below_drew1) | exact HB.out))) : w.heap.size ≤ gb245)); clear HB; have HB := n0_; have BK245 := n1_; have GW245 := n2_; have GE245 := n3_; clear n0_ n1_ n2_ n3_; clear hb hbox hg; have hcz11_0 : w10.cell? ⟨gb245, 0, none⟩ = some (.int .u8 0) := (blk_cell BK245.out 0).trans rfl; have hcz11_1 : w10.cell? ⟨gb245, 1, none⟩ = some (.int .u16 0) := (blk_cell BK245.out 1).trans rfl; have hcz11_2 : w10.cell? ⟨gb245, 2, none⟩ = some (.int .u8 0) := (blk_cell BK245.out 2).trans rfl; have hcz11_3 : w10.cell? ⟨gb245, 3, none⟩ = some (.string (⟨#[]⟩ : ByteArray)) := (blk_cell BK245.out 3).trans rfl; have hcz11_4 : w10.cell? ⟨gb245, 4, none⟩ = some (.int .i64 0) := (blk_cell BK245.out 4).trans rfl; have hcz11_5 : w10.cell? ⟨gb245, 5, none⟩ = some (.int .i64 0) := (blk_cell BK245.out 5).trans rfl; have hcz11_6 : w10.cell? ⟨gb245, 6, none⟩ = some (.int .i64 0) := (blk_cell BK245.out 6).trans rfl; have hcz11_7 : w10.cell? ⟨gb245, 7, none⟩ = some (.int .u64 0) := (blk_cell BK245.out 7).trans rfl; have hcz11_8 : w10.cell? ⟨gb245, 8, none⟩ = some (.bool false) := (blk_cell BK245.out 8).trans rfl; have hcz11_9 : w10.cell? ⟨gb245, 9, none⟩ = some (.bool false) := (blk_cell BK245.out 9).trans rfl; have hfz11_0 := blk_frozen BK245.out 0; have hfz11_1 := blk_frozen BK245.out 1; have hfz11_2 := blk_frozen BK245.out 2; have hfz11_3 := blk_frozen BK245.out 3; have hfz11_4 := blk_frozen BK245.out 4; have hfz11_5 := blk_frozen BK245.out 5; have hfz11_6 := blk_frozen BK245.out 6; have hfz11_7 := blk_frozen BK245.out 7; have hfz11_8 := blk_frozen BK245.out 8; have hfz11_9 := blk_frozen BK245.out 9) | ((with_reducible refine gate_callee (f := 37) rfl ?_); refine goesL_ (some 29) rfl rfl Try.func37 (by kernel_rfl) rfl #[.string (⟨#[120]⟩ : ByteArray)] rfl (by (try simp only [List.map_toArray, List.map_cons, List.map_nil]); first | done | rfl | (simp only [List.length_drop, List.length_take]; rfl)) ?_; (with_reducible refine (ccm_Name.calls (⟨#[120]⟩ : ByteArray) t246 _ A5.out).mono ?_); rintro e w12 ⟨rfl, hb⟩; refine ⟨_, rfl, ?_⟩; have n0_ := Aside0.mk (blk_below (g := gb245) (o := .cells #[.int .u8 t234, .int .u16 t235, .int .u8 t236, .string t237, .int .i64 t238, .int .i64 t239, .int .i64 t240, .int .u64 t241, .bool t242, .bool t243] 59 (0, 0)) (by (with_reducible repeat (first | refine blk_drewN ?_ _ | refine blk_drew ?_ | refine blk_alloc ?_ _)); refine blk_put (cs := #[.int .u8 t234, .int .u16 t235, .int .u8 t236, .string t237, .int .i64 t238, .int .i64 t239, .int .i64 t240, .int .u64 t241, .bool t242, .bool false]) ?_ 9 _ rfl; (with_reducible repeat (first | refine blk_drewN ?_ _ | refine blk_drew ?_ | refine blk_alloc ?_ _)); refine blk_put (cs := #[.int .u8 t234, .int .u16 t235, .int .u8 t236, .string t237, .int .i64 t238, .int .i64 t239, .int .i64 t240, .int .u64 t241, .bool false, .bool false]) ?_ 8 _ rfl; (with_reducible repeat (first | refine blk_drewN ?_ _ | refine blk_drew ?_ | refine blk_alloc ?_ _)); refine blk_put (cs := #[.int .u8 t234, .int .u16 t235, .int .u8 t236, .string t237, .int .i64 t238, .int .i64 t239, .int .i64 t240, .int .u64 0, .bool false, .bool false]) ?_ 7 _ rfl; (with_reducible repeat (first | refine blk_drewN ?_ _ | refine blk_drew ?_ | refine blk_alloc ?_ _)); refine blk_put (cs := #[.int .u8 t234, .int .u16 t235, .int .u8 t236, .string t237, .int .i64 t238, .int .i64 t239, .int .i64 0, .int .u64 0, .bool false, .bool false]) ?_ 6 _ rfl; (with_reducible repeat (first | refine blk_drewN ?_ _ | refine blk_drew ?_ | refine blk_alloc ?_ _)); refine blk_put (cs := #[.int .u8 t234, .int .u16 t235, .int .u8 t236, .string t237, .int .i64 t238, .int .i64 0, .int .i64 0, .int .u64 0, .bool false, .bool false]) ?_ 5 _ rfl; (with_reducible repeat (first | refine blk_drewN ?_ _ | refine blk_drew ?_ | refine blk_alloc ?_ _)); refine blk_put (cs := #[.int .u8 t234, .int .u16 t235, .int .u8 t236, .string t237, .int .i64 0, .int .i64 0, .int .i64 0, .int .u64 0, .bool false, .bool false]) ?_ 4 _ rfl; (with_reducible repeat (first | refine blk_drewN ?_ _ | refine blk_drew ?_ | refine blk_alloc ?_ _)); refine blk_put (cs := #[.int .u8 t234, .int .u16 t235, .int .u8 t236, .string (⟨#[]⟩ : ByteArray), .int .i64 0, .int .i64 0, .int .i64 0, .int .u64 0, .bool false, .bool false]) ?_ 3 _ rfl; (with_reducible repeat (first | refine blk_drewN ?_ _ | refine blk_drew ?_ | refine blk_alloc ?_ _)); refine blk_put (cs := #[.int .u8 t234, .int .u16 t235, .int .u8 0, .string (⟨#[]⟩ : ByteArray), .int .i64 0, .int .i64 0, .int .i64 0, .int .u64 0, .bool false, .bool false]) ?_ 2 _ rfl; (with_reducible repeat (first | refine blk_drewN ?_ _ | refine blk_drew ?_ | refine blk_alloc ?_ _)); refine blk_put (cs := #[.int .u8 t234, .int .u16 0, .int .u8 0, .string (⟨#[]⟩ : ByteArray), .int .i64 0, .int .i64 0, .int .i64 0, .int .u64 0, .bool false, .bool false]) ?_ 1 _ rfl; (with_reducible repeat (first | refine blk_drewN ?_ _ | refine blk_drew ?_ | refine blk_alloc ?_ _)); refine blk_put (cs := #[.int .u8 0, .int .u16 0, .int .u8 0, .string (⟨#[]⟩ : ByteArray), .int .i64 0, .int .i64 0, .int .i64 0, .int .u64 0, .bool false, .bool false]) ?_ 0 _ rfl; (with_reducible repeat (first | refine blk_drewN ?_ _ | refine blk_drew ?_ | refine blk_alloc ?_ _)); exact BK245.out) hb); have n1_ := Aside0.mk (below_step (by repeat (first | (with_reducible first | exact HB.out | apply below_alloc | apply pw_below_drewN | apply below_drew1 | refine below_set ?_ GE245.out) | exact HB.out)) hb); clear BK245; clear HB; have BK245 := n0_; have HB := n1_; clear n0_ n1_; (try clear hb); (try clear hb2); (try clear hk); (try clear hi)) | ((with_reducible refine gate_callee (f := 31) rfl ?_); refine goesL_ (some 31) rfl rfl Try.func31 (by kernel_rfl) rfl #[.int .u8 0, .int .u16 2, .int .u8 4, .string t246, .int .i64 (wrap64 ((wrap64 (Int.tmod a0 50)) + 1)), .int .i64 0] rfl (by (try simp only [List.map_toArray, List.map_cons, List.map_nil]); first | done | rfl | (simp only [List.length_drop, List.length_take]; rfl)) ?_; (with_reducible refine (watch_New.calls k 0 2 4 t246 (wrap64 ((wrap64 (Int.tmod a0 50)) + 1)) 0 t247 t248 t249 t250 t251 t252 t253 t254 t255 t256 t257 _ A6.out).mono ?_); rintro e w13 ⟨rfl, hb⟩; refine ⟨_, rfl, ?_⟩; have n0_ := Aside0.mk (blk_below (g := gb245) (o := .cells #[.int .u8 t234, .int .u16 t235, .int .u8 t236, .string t237, .int .i64 t238, .int .i64 t239, .int .i64 t240, .int .u64 t241, .bool t242, .bool t243] 59 (0, 0)) (by (with_reducible repeat (first | refine blk_drewN ?_ _ | refine blk_drew ?_ | refine blk_alloc ?_ _)); exact BK245.out) hb); have n1_ := Aside0.mk (below_step (by repeat (first | (with_reducible first | exact HB.out | apply below_alloc | apply pw_below_drewN | apply below_drew1 | refine below_set ?_ GE245.out) | exact HB.out)) hb); clear BK245; clear HB; have BK245 := n0_; have HB := n1_; clear n0_ n1_; (try clear hb); (try clear hb2); (try clear hk); (try clear hi)) | ((with_reducible refine gate_dst (N := 8) rfl ?_); (try (refine gate_guard (by rfl) ?_; dsimp only)); refine box_event ?hg (N := 8) ?hd (cs := #[.int .u8 0, .int .u16 0, .int .u8 0, .string (⟨#[]⟩ : ByteArray), .int .i64 0, .int .i64 0, .int .i64 0, .int .u64 0, .bool false, .bool false]) (t := 59) ?hr ?_; (case hd => rfl); (case hg => rfl); (case hr => first | (go_simp; done) | (go_simp; rfl)); intro gb258 hg w14 hbox hb; have n0_ := Aside0.mk (blk_below (g := gb245) (o := .cells #[.int .u8 t234, .int .u16 t235, .int .u8 t236, .string t237, .int .i64 t238, .int .i64 t239, .int .i64 t240, .int .u64 t241, .bool t242, .bool t243] 59 (0, 0)) (by (with_reducible repeat (first | refine blk_drewN ?_ _ | refine blk_drew ?_ | refine blk_alloc ?_ _)); exact BK245.out) hb); have n1_ := Aside0.mk (below_step (by repeat (first | (with_reducible first | exact HB.out | apply below_alloc | apply pw_below_drewN | apply below_drew1 | refine below_set ?_ GE245.out) | exact HB.out)) hb); have n2_ := Aside0.mk (hbox); have n3_ := Aside0.mk ((by rw [hg]; exact (below_size (by repeat (first | (with_reducible first | exact HB.out | apply below_alloc | apply pw_below_drewN | apply below_drew1 | refine below_set ?_ GE245.out) | exact HB.out))) : w.heap.size ≤ gb258)); have n4_ := Aside0.mk ((by rw [hg]; exact (below_size (by repeat (first | (with_reducible first | exact HB.out | apply below_alloc | apply pw_below_drewN | apply below_drew1 | refine below_set ?_ GE245.out) | exact HB.out))) : w.heap.size ≤ gb258)); have n5_ := Aside0.mk ((by rw [hg]; exact Nat.ne_of_lt (blk_lt (g := gb245) (o := .cells #[.int .u8 t234, .int .u16 t235, .int .u8 t236, .string t237, .int .i64 t238, .int .i64 t239, .int .i64 t240, .int .u64 t241, .bool t242, .bool t243] 59 (0, 0)) (by (with_reducible repeat (first | refine blk_drewN ?_ _ | refine blk_drew ?_ | refine blk_alloc ?_ _)); exact BK245.out)) : gb245 ≠ gb258)); have n6_ := Aside0.mk ((by rw [hg]; exact Nat.ne_of_gt (blk_lt (g := gb245) (o := .cells #[.int .u8 t234, .int .u16 t235, .int .u8 t236, .string t237, .int .i64 t238, .int .i64 t239, .int .i64 t240, .int .u64 t241, .bool t242, .bool t243] 59 (0, 0)) (by (with_reducible repeat (first | refine blk_drewN ?_ _ | refine blk_drew ?_ | refine blk_alloc ?_ _)); exact BK245.out)) : gb258 ≠ gb245)); clear BK245; clear HB; have BK245 := n0_; have HB := n1_; have BK258 := n2_; have GW258 := n3_; have GE258 := n4_; have NB245_258 := n5_; have NB258_245 := n6_; clear n0_ n1_ n2_ n3_ n4_ n5_ n6_; clear hb hbox hg; have hnb15 := NB258_245.out; have hnc15 := NB245_258.out; have hcz16_0 : w14.cell? ⟨gb258, 0, none⟩ = some (.int .u8 0) := (blk_cell BK258.out 0).trans rfl; have hcz16_1 : w14.cell? ⟨gb258, 1, none⟩ = some (.int .u16 0) := (blk_cell BK258.out 1).trans rfl; have hcz16_2 : w14.cell? ⟨gb258, 2, none⟩ = some (.int .u8 0) := (blk_cell BK258.out 2).trans rfl; have hcz16_3 : w14.cell? ⟨gb258, 3, none⟩ = some (.string (⟨#[]⟩ : ByteArray)) := (blk_cell BK258.out 3).trans rfl; have hcz16_4 : w14.cell? ⟨gb258, 4, none⟩ = some (.int .i64 0) := (blk_cell BK258.out 4).trans rfl; have hcz16_5 : w14.cell? ⟨gb258, 5, none⟩ = some (.int .i64 0) := (blk_cell BK258.out 5).trans rfl; have hcz16_6 : w14.cell? ⟨gb258, 6, none⟩ = some (.int .i64 0) := (blk_cell BK258.out 6).trans rfl; have hcz16_7 : w14.cell? ⟨gb258, 7, none⟩ = some (.int .u64 0) := (blk_cell BK258.out 7).trans rfl; have hcz16_8 : w14.cell? ⟨gb258, 8, none⟩ = some (.bool false) := (blk_cell BK258.out 8).trans rfl; have hcz16_9 : w14.cell? ⟨gb258, 9, none⟩ = some (.bool false) := (blk_cell BK258.out 9).trans rfl; have hfz16_0 := blk_frozen BK258.out 0; have hfz16_1 := blk_frozen BK258.out 1; have hfz16_2 := blk_frozen BK258.out 2; have hfz16_3 := blk_frozen BK258.out 3; have hfz16_4 := blk_frozen BK258.out 4; have hfz16_5 := blk_frozen BK258.out 5; have hfz16_6 := blk_frozen BK258.out 6; have hfz16_7 := blk_frozen BK258.out 7; have hfz16_8 := blk_frozen BK258.out 8; have hfz16_9 := blk_frozen BK258.out 9))
 (try simp only [Act.put, List.setIfInBounds_toArray, List.set_cons_zero, List.set_cons_succ])
 go_cut [44] (fun v44 wc => ∃ (kq : Nat) (x44_6 : Bool), v44 = .bool x44_6 ∧ Aside0 (carousellaw09_WatchLoses.j0 kq l1 (wrap64 ((wrap64 (Int.tmod a0 50)) + 1)) t244 t257 x44_6 t234 t235 t236 t237 t238 t239 t240 t241 t242 t243 t247 t248 t249 t250 t251 t252 t253 t254 t255 t256 = some r) ∧ Aside0 (kq ≤ k) ∧ Aside0 (wc.heap[gb245]? = some (.cells #[.int .u8 t234, .int .u16 t235, .int .u8 t236, .string t237, .int .i64 t238, .int .i64 t239, .int .i64 t240, .int .u64 t241, .bool t242, .bool t243] 59 (0, 0))) ∧ Aside0 (wc.heap[gb258]? = some (.cells #[.int .u8 t247, .int .u16 t248, .int .u8 t249, .string t250, .int .i64 t251, .int .i64 t252, .int .i64 t253, .int .u64 t254, .bool t255, .bool t256] 59 (0, 0))) ∧ Aside0 (Below w.heap.size w wc))
 case first =>
  have H := HC7.out
  clear HC7
  by_cases c17 : t244 = 0
  ·
   rw [if_pos c17] at H
   have c17b0 : (t244 == 0) = true := beq_iff_eq.mpr c17
   have c17b1 : (t244 != 0) = false := bne_eq_false_iff_eq.mpr c17
   clear c17
   (first | rw [c17b0] | (simp only [i64_w, i32_w]; rw [c17b0]) | skip)
   by_cases c18 : t257 = 0
   ·
    rw [if_pos c18] at H
    have c18b0 : (t257 == 0) = true := beq_iff_eq.mpr c18
    have c18b1 : (t257 != 0) = false := bne_eq_false_iff_eq.mpr c18
    clear c18
    have H' := Aside0.mk H
    clear H
    go_wp2
    go_meet
    case rel => exact ⟨_, (decide ((l1.length : Int) > 60)), (by first | rfl | (simp; done) | (simp [*]; done)), H', ⟨by first | omega | exact Nat.le_refl _⟩, ⟨by (with_reducible repeat (first | refine blk_drewN ?_ _ | refine blk_drew ?_ | refine blk_alloc ?_ _)); refine blk_far ?_ NB245_258.out _; (with_reducible repeat (first | refine blk_drewN ?_ _ | refine blk_drew ?_ | refine blk_alloc ?_ _)); refine blk_far ?_ NB245_258.out _; (with_reducible repeat (first | refine blk_drewN ?_ _ | refine blk_drew ?_ | refine blk_alloc ?_ _)); refine blk_far ?_ NB245_258.out _; (with_reducible repeat (first | refine blk_drewN ?_ _ | refine blk_drew ?_ | refine blk_alloc ?_ _)); refine blk_far ?_ NB245_258.out _; (with_reducible repeat (first | refine blk_drewN ?_ _ | refine blk_drew ?_ | refine blk_alloc ?_ _)); refine blk_far ?_ NB245_258.out _; (with_reducible repeat (first | refine blk_drewN ?_ _ | refine blk_drew ?_ | refine blk_alloc ?_ _)); refine blk_far ?_ NB245_258.out _; (with_reducible repeat (first | refine blk_drewN ?_ _ | refine blk_drew ?_ | refine blk_alloc ?_ _)); refine blk_far ?_ NB245_258.out _; (with_reducible repeat (first | refine blk_drewN ?_ _ | refine blk_drew ?_ | refine blk_alloc ?_ _)); refine blk_far ?_ NB245_258.out _; (with_reducible repeat (first | refine blk_drewN ?_ _ | refine blk_drew ?_ | refine blk_alloc ?_ _)); refine blk_far ?_ NB245_258.out _; (with_reducible repeat (first | refine blk_drewN ?_ _ | refine blk_drew ?_ | refine blk_alloc ?_ _)); refine blk_far ?_ NB245_258.out _; (with_reducible repeat (first | refine blk_drewN ?_ _ | refine blk_drew ?_ | refine blk_alloc ?_ _)); exact BK245.out⟩, ⟨by (with_reducible repeat (first | refine blk_drewN ?_ _ | refine blk_drew ?_ | refine blk_alloc ?_ _)); refine blk_put (cs := #[.int .u8 t247, .int .u16 t248, .int .u8 t249, .string t250, .int .i64 t251, .int .i64 t252, .int .i64 t253, .int .u64 t254, .bool t255, .bool false]) ?_ 9 _ rfl; (with_reducible repeat (first | refine blk_drewN ?_ _ | refine blk_drew ?_ | refine blk_alloc ?_ _)); refine blk_put (cs := #[.int .u8 t247, .int .u16 t248, .int .u8 t249, .string t250, .int .i64 t251, .int .i64 t252, .int .i64 t253, .int .u64 t254, .bool false, .bool false]) ?_ 8 _ rfl; (with_reducible repeat (first | refine blk_drewN ?_ _ | refine blk_drew ?_ | refine blk_alloc ?_ _)); refine blk_put (cs := #[.int .u8 t247, .int .u16 t248, .int .u8 t249, .string t250, .int .i64 t251, .int .i64 t252, .int .i64 t253, .int .u64 0, .bool false, .bool false]) ?_ 7 _ rfl; (with_reducible repeat (first | refine blk_drewN ?_ _ | refine blk_drew ?_ | refine blk_alloc ?_ _)); refine blk_put (cs := #[.int .u8 t247, .int .u16 t248, .int .u8 t249, .string t250, .int .i64 t251, .int .i64 t252, .int .i64 0, .int .u64 0, .bool false, .bool false]) ?_ 6 _ rfl; (with_reducible repeat (first | refine blk_drewN ?_ _ | refine blk_drew ?_ | refine blk_alloc ?_ _)); refine blk_put (cs := #[.int .u8 t247, .int .u16 t248, .int .u8 t249, .string t250, .int .i64 t251, .int .i64 0, .int .i64 0, .int .u64 0, .bool false, .bool false]) ?_ 5 _ rfl; (with_reducible repeat (first | refine blk_drewN ?_ _ | refine blk_drew ?_ | refine blk_alloc ?_ _)); refine blk_put (cs := #[.int .u8 t247, .int .u16 t248, .int .u8 t249, .string t250, .int .i64 0, .int .i64 0, .int .i64 0, .int .u64 0, .bool false, .bool false]) ?_ 4 _ rfl; (with_reducible repeat (first | refine blk_drewN ?_ _ | refine blk_drew ?_ | refine blk_alloc ?_ _)); refine blk_put (cs := #[.int .u8 t247, .int .u16 t248, .int .u8 t249, .string (⟨#[]⟩ : ByteArray), .int .i64 0, .int .i64 0, .int .i64 0, .int .u64 0, .bool false, .bool false]) ?_ 3 _ rfl; (with_reducible repeat (first | refine blk_drewN ?_ _ | refine blk_drew ?_ | refine blk_alloc ?_ _)); refine blk_put (cs := #[.int .u8 t247, .int .u16 t248, .int .u8 0, .string (⟨#[]⟩ : ByteArray), .int .i64 0, .int .i64 0, .int .i64 0, .int .u64 0, .bool false, .bool false]) ?_ 2 _ rfl; (with_reducible repeat (first | refine blk_drewN ?_ _ | refine blk_drew ?_ | refine blk_alloc ?_ _)); refine blk_put (cs := #[.int .u8 t247, .int .u16 0, .int .u8 0, .string (⟨#[]⟩ : ByteArray), .int .i64 0, .int .i64 0, .int .i64 0, .int .u64 0, .bool false, .bool false]) ?_ 1 _ rfl; (with_reducible repeat (first | refine blk_drewN ?_ _ | refine blk_drew ?_ | refine blk_alloc ?_ _)); refine blk_put (cs := #[.int .u8 0, .int .u16 0, .int .u8 0, .string (⟨#[]⟩ : ByteArray), .int .i64 0, .int .i64 0, .int .i64 0, .int .u64 0, .bool false, .bool false]) ?_ 0 _ rfl; (with_reducible repeat (first | refine blk_drewN ?_ _ | refine blk_drew ?_ | refine blk_alloc ?_ _)); exact BK258.out⟩, ⟨by repeat (first | (with_reducible first | exact HB.out | apply below_alloc | apply pw_below_drewN | apply below_drew1 | refine below_set ?_ GE245.out | refine below_set ?_ GE258.out) | exact HB.out)⟩⟩
   ·
    rw [if_neg c18] at H
    have c18b0 : (t257 == 0) = false := beq_eq_false_iff_ne.mpr c18
    have c18b1 : (t257 != 0) = true := bne_iff_ne.mpr c18
    have H' := Aside0.mk H
    clear H
    go_wp2
    go_meet
    case rel => exact ⟨_, (true), (by first | rfl | (simp; done) | (simp [*]; done)), H', ⟨by first | omega | exact Nat.le_refl _⟩, ⟨by (with_reducible repeat (first | refine blk_drewN ?_ _ | refine blk_drew ?_ | refine blk_alloc ?_ _)); refine blk_far ?_ NB245_258.out _; (with_reducible repeat (first | refine blk_drewN ?_ _ | refine blk_drew ?_ | refine blk_alloc ?_ _)); refine blk_far ?_ NB245_258.out _; (with_reducible repeat (first | refine blk_drewN ?_ _ | refine blk_drew ?_ | refine blk_alloc ?_ _)); refine blk_far ?_ NB245_258.out _; (with_reducible repeat (first | refine blk_drewN ?_ _ | refine blk_drew ?_ | refine blk_alloc ?_ _)); refine blk_far ?_ NB245_258.out _; (with_reducible repeat (first | refine blk_drewN ?_ _ | refine blk_drew ?_ | refine blk_alloc ?_ _)); refine blk_far ?_ NB245_258.out _; (with_reducible repeat (first | refine blk_drewN ?_ _ | refine blk_drew ?_ | refine blk_alloc ?_ _)); refine blk_far ?_ NB245_258.out _; (with_reducible repeat (first | refine blk_drewN ?_ _ | refine blk_drew ?_ | refine blk_alloc ?_ _)); refine blk_far ?_ NB245_258.out _; (with_reducible repeat (first | refine blk_drewN ?_ _ | refine blk_drew ?_ | refine blk_alloc ?_ _)); refine blk_far ?_ NB245_258.out _; (with_reducible repeat (first | refine blk_drewN ?_ _ | refine blk_drew ?_ | refine blk_alloc ?_ _)); refine blk_far ?_ NB245_258.out _; (with_reducible repeat (first | refine blk_drewN ?_ _ | refine blk_drew ?_ | refine blk_alloc ?_ _)); refine blk_far ?_ NB245_258.out _; (with_reducible repeat (first | refine blk_drewN ?_ _ | refine blk_drew ?_ | refine blk_alloc ?_ _)); exact BK245.out⟩, ⟨by (with_reducible repeat (first | refine blk_drewN ?_ _ | refine blk_drew ?_ | refine blk_alloc ?_ _)); refine blk_put (cs := #[.int .u8 t247, .int .u16 t248, .int .u8 t249, .string t250, .int .i64 t251, .int .i64 t252, .int .i64 t253, .int .u64 t254, .bool t255, .bool false]) ?_ 9 _ rfl; (with_reducible repeat (first | refine blk_drewN ?_ _ | refine blk_drew ?_ | refine blk_alloc ?_ _)); refine blk_put (cs := #[.int .u8 t247, .int .u16 t248, .int .u8 t249, .string t250, .int .i64 t251, .int .i64 t252, .int .i64 t253, .int .u64 t254, .bool false, .bool false]) ?_ 8 _ rfl; (with_reducible repeat (first | refine blk_drewN ?_ _ | refine blk_drew ?_ | refine blk_alloc ?_ _)); refine blk_put (cs := #[.int .u8 t247, .int .u16 t248, .int .u8 t249, .string t250, .int .i64 t251, .int .i64 t252, .int .i64 t253, .int .u64 0, .bool false, .bool false]) ?_ 7 _ rfl; (with_reducible repeat (first | refine blk_drewN ?_ _ | refine blk_drew ?_ | refine blk_alloc ?_ _)); refine blk_put (cs := #[.int .u8 t247, .int .u16 t248, .int .u8 t249, .string t250, .int .i64 t251, .int .i64 t252, .int .i64 0, .int .u64 0, .bool false, .bool false]) ?_ 6 _ rfl; (with_reducible repeat (first | refine blk_drewN ?_ _ | refine blk_drew ?_ | refine blk_alloc ?_ _)); refine blk_put (cs := #[.int .u8 t247, .int .u16 t248, .int .u8 t249, .string t250, .int .i64 t251, .int .i64 0, .int .i64 0, .int .u64 0, .bool false, .bool false]) ?_ 5 _ rfl; (with_reducible repeat (first | refine blk_drewN ?_ _ | refine blk_drew ?_ | refine blk_alloc ?_ _)); refine blk_put (cs := #[.int .u8 t247, .int .u16 t248, .int .u8 t249, .string t250, .int .i64 0, .int .i64 0, .int .i64 0, .int .u64 0, .bool false, .bool false]) ?_ 4 _ rfl; (with_reducible repeat (first | refine blk_drewN ?_ _ | refine blk_drew ?_ | refine blk_alloc ?_ _)); refine blk_put (cs := #[.int .u8 t247, .int .u16 t248, .int .u8 t249, .string (⟨#[]⟩ : ByteArray), .int .i64 0, .int .i64 0, .int .i64 0, .int .u64 0, .bool false, .bool false]) ?_ 3 _ rfl; (with_reducible repeat (first | refine blk_drewN ?_ _ | refine blk_drew ?_ | refine blk_alloc ?_ _)); refine blk_put (cs := #[.int .u8 t247, .int .u16 t248, .int .u8 0, .string (⟨#[]⟩ : ByteArray), .int .i64 0, .int .i64 0, .int .i64 0, .int .u64 0, .bool false, .bool false]) ?_ 2 _ rfl; (with_reducible repeat (first | refine blk_drewN ?_ _ | refine blk_drew ?_ | refine blk_alloc ?_ _)); refine blk_put (cs := #[.int .u8 t247, .int .u16 0, .int .u8 0, .string (⟨#[]⟩ : ByteArray), .int .i64 0, .int .i64 0, .int .i64 0, .int .u64 0, .bool false, .bool false]) ?_ 1 _ rfl; (with_reducible repeat (first | refine blk_drewN ?_ _ | refine blk_drew ?_ | refine blk_alloc ?_ _)); refine blk_put (cs := #[.int .u8 0, .int .u16 0, .int .u8 0, .string (⟨#[]⟩ : ByteArray), .int .i64 0, .int .i64 0, .int .i64 0, .int .u64 0, .bool false, .bool false]) ?_ 0 _ rfl; (with_reducible repeat (first | refine blk_drewN ?_ _ | refine blk_drew ?_ | refine blk_alloc ?_ _)); exact BK258.out⟩, ⟨by repeat (first | (with_reducible first | exact HB.out | apply below_alloc | apply pw_below_drewN | apply below_drew1 | refine below_set ?_ GE245.out | refine below_set ?_ GE258.out) | exact HB.out)⟩⟩
  ·
   rw [if_neg c17] at H
   have c17b0 : (t244 == 0) = false := beq_eq_false_iff_ne.mpr c17
   have c17b1 : (t244 != 0) = true := bne_iff_ne.mpr c17
   (first | rw [c17b0] | (simp only [i64_w, i32_w]; rw [c17b0]) | skip)
   have H' := Aside0.mk H
   clear H
   go_wp2
   go_meet
   case rel => exact ⟨_, (true), (by first | rfl | (simp; done) | (simp [*]; done)), H', ⟨by first | omega | exact Nat.le_refl _⟩, ⟨by (with_reducible repeat (first | refine blk_drewN ?_ _ | refine blk_drew ?_ | refine blk_alloc ?_ _)); refine blk_far ?_ NB245_258.out _; (with_reducible repeat (first | refine blk_drewN ?_ _ | refine blk_drew ?_ | refine blk_alloc ?_ _)); refine blk_far ?_ NB245_258.out _; (with_reducible repeat (first | refine blk_drewN ?_ _ | refine blk_drew ?_ | refine blk_alloc ?_ _)); refine blk_far ?_ NB245_258.out _; (with_reducible repeat (first | refine blk_drewN ?_ _ | refine blk_drew ?_ | refine blk_alloc ?_ _)); refine blk_far ?_ NB245_258.out _; (with_reducible repeat (first | refine blk_drewN ?_ _ | refine blk_drew ?_ | refine blk_alloc ?_ _)); refine blk_far ?_ NB245_258.out _; (with_reducible repeat (first | refine blk_drewN ?_ _ | refine blk_drew ?_ | refine blk_alloc ?_ _)); refine blk_far ?_ NB245_258.out _; (with_reducible repeat (first | refine blk_drewN ?_ _ | refine blk_drew ?_ | refine blk_alloc ?_ _)); refine blk_far ?_ NB245_258.out _; (with_reducible repeat (first | refine blk_drewN ?_ _ | refine blk_drew ?_ | refine blk_alloc ?_ _)); refine blk_far ?_ NB245_258.out _; (with_reducible repeat (first | refine blk_drewN ?_ _ | refine blk_drew ?_ | refine blk_alloc ?_ _)); refine blk_far ?_ NB245_258.out _; (with_reducible repeat (first | refine blk_drewN ?_ _ | refine blk_drew ?_ | refine blk_alloc ?_ _)); refine blk_far ?_ NB245_258.out _; (with_reducible repeat (first | refine blk_drewN ?_ _ | refine blk_drew ?_ | refine blk_alloc ?_ _)); exact BK245.out⟩, ⟨by (with_reducible repeat (first | refine blk_drewN ?_ _ | refine blk_drew ?_ | refine blk_alloc ?_ _)); refine blk_put (cs := #[.int .u8 t247, .int .u16 t248, .int .u8 t249, .string t250, .int .i64 t251, .int .i64 t252, .int .i64 t253, .int .u64 t254, .bool t255, .bool false]) ?_ 9 _ rfl; (with_reducible repeat (first | refine blk_drewN ?_ _ | refine blk_drew ?_ | refine blk_alloc ?_ _)); refine blk_put (cs := #[.int .u8 t247, .int .u16 t248, .int .u8 t249, .string t250, .int .i64 t251, .int .i64 t252, .int .i64 t253, .int .u64 t254, .bool false, .bool false]) ?_ 8 _ rfl; (with_reducible repeat (first | refine blk_drewN ?_ _ | refine blk_drew ?_ | refine blk_alloc ?_ _)); refine blk_put (cs := #[.int .u8 t247, .int .u16 t248, .int .u8 t249, .string t250, .int .i64 t251, .int .i64 t252, .int .i64 t253, .int .u64 0, .bool false, .bool false]) ?_ 7 _ rfl; (with_reducible repeat (first | refine blk_drewN ?_ _ | refine blk_drew ?_ | refine blk_alloc ?_ _)); refine blk_put (cs := #[.int .u8 t247, .int .u16 t248, .int .u8 t249, .string t250, .int .i64 t251, .int .i64 t252, .int .i64 0, .int .u64 0, .bool false, .bool false]) ?_ 6 _ rfl; (with_reducible repeat (first | refine blk_drewN ?_ _ | refine blk_drew ?_ | refine blk_alloc ?_ _)); refine blk_put (cs := #[.int .u8 t247, .int .u16 t248, .int .u8 t249, .string t250, .int .i64 t251, .int .i64 0, .int .i64 0, .int .u64 0, .bool false, .bool false]) ?_ 5 _ rfl; (with_reducible repeat (first | refine blk_drewN ?_ _ | refine blk_drew ?_ | refine blk_alloc ?_ _)); refine blk_put (cs := #[.int .u8 t247, .int .u16 t248, .int .u8 t249, .string t250, .int .i64 0, .int .i64 0, .int .i64 0, .int .u64 0, .bool false, .bool false]) ?_ 4 _ rfl; (with_reducible repeat (first | refine blk_drewN ?_ _ | refine blk_drew ?_ | refine blk_alloc ?_ _)); refine blk_put (cs := #[.int .u8 t247, .int .u16 t248, .int .u8 t249, .string (⟨#[]⟩ : ByteArray), .int .i64 0, .int .i64 0, .int .i64 0, .int .u64 0, .bool false, .bool false]) ?_ 3 _ rfl; (with_reducible repeat (first | refine blk_drewN ?_ _ | refine blk_drew ?_ | refine blk_alloc ?_ _)); refine blk_put (cs := #[.int .u8 t247, .int .u16 t248, .int .u8 0, .string (⟨#[]⟩ : ByteArray), .int .i64 0, .int .i64 0, .int .i64 0, .int .u64 0, .bool false, .bool false]) ?_ 2 _ rfl; (with_reducible repeat (first | refine blk_drewN ?_ _ | refine blk_drew ?_ | refine blk_alloc ?_ _)); refine blk_put (cs := #[.int .u8 t247, .int .u16 0, .int .u8 0, .string (⟨#[]⟩ : ByteArray), .int .i64 0, .int .i64 0, .int .i64 0, .int .u64 0, .bool false, .bool false]) ?_ 1 _ rfl; (with_reducible repeat (first | refine blk_drewN ?_ _ | refine blk_drew ?_ | refine blk_alloc ?_ _)); refine blk_put (cs := #[.int .u8 0, .int .u16 0, .int .u8 0, .string (⟨#[]⟩ : ByteArray), .int .i64 0, .int .i64 0, .int .i64 0, .int .u64 0, .bool false, .bool false]) ?_ 0 _ rfl; (with_reducible repeat (first | refine blk_drewN ?_ _ | refine blk_drew ?_ | refine blk_alloc ?_ _)); exact BK258.out⟩, ⟨by repeat (first | (with_reducible first | exact HB.out | apply below_alloc | apply pw_below_drewN | apply below_drew1 | refine below_set ?_ GE245.out | refine below_set ?_ GE258.out) | exact HB.out)⟩⟩
 case rest =>
  clear HC7
  try clear c1
  try clear p2
  try clear c3
  try clear p6
  try clear c8
  try clear c15
  try clear c17
  try clear c17b0
  try clear c17b1
  try clear c18
  try clear c18b0
  try clear c18b1
  try clear hcz11_0
  try clear hcz11_1
  try clear hcz11_2
  try clear hcz11_3
  try clear hcz11_4
  try clear hcz11_5
  try clear hcz11_6
  try clear hcz11_7
  try clear hcz11_8
  try clear hcz11_9
  try clear hcz16_0
  try clear hcz16_1
  try clear hcz16_2
  try clear hcz16_3
  try clear hcz16_4
  try clear hcz16_5
  try clear hcz16_6
  try clear hcz16_7
  try clear hcz16_8
  try clear hcz16_9
  try clear hfz11_0
  try clear hfz11_1
  try clear hfz11_2
  try clear hfz11_3
  try clear hfz11_4
  try clear hfz11_5
  try clear hfz11_6
  try clear hfz11_7
  try clear hfz11_8
  try clear hfz11_9
  try clear hfz16_0
  try clear hfz16_1
  try clear hfz16_2
  try clear hfz16_3
  try clear hfz16_4
  try clear hfz16_5
  try clear hfz16_6
  try clear hfz16_7
  try clear hfz16_8
  try clear hfz16_9
  obtain ⟨kq, x44_6, rfl, HA, HJ6, BK245, BK258, HB⟩ := hcut
  cases kq with
  | zero => exact absurd HA.out (by simp [carousellaw09_WatchLoses.j0])
  | succ kj6 =>
   have H := HA.out
   clear HA
   simp only [carousellaw09_WatchLoses.j0] at H
   by_cases c19 : x44_6 = true
   ·
    subst c19
    have H1 : (if t244 = 0 then (if t257 = 0 then ((carousellaw09_Awake.f kj6).bind fun t259 => (some t259)) else (some false)) else (some false)) = some r := by rw [if_pos rfl] at H; exact H
    clear H
    have H := H1
    clear H1
    by_cases c20 : t244 = 0
    ·
     rw [if_pos c20] at H
     have c20b0 : (t244 == 0) = true := beq_iff_eq.mpr c20
     have c20b1 : (t244 != 0) = false := bne_eq_false_iff_eq.mpr c20
     clear c20
     by_cases c21 : t257 = 0
     ·
      rw [if_pos c21] at H
      have c21b0 : (t257 == 0) = true := beq_iff_eq.mpr c21
      have c21b1 : (t257 != 0) = false := bne_eq_false_iff_eq.mpr c21
      clear c21
      replace H := Option.bind_eq_some_iff.mp H
      obtain ⟨t259, A220, H⟩ := H
      replace H : (some t259) = some r := H
      have A22 := Aside0.mk A220
      clear A220
      obtain rfl := Option.some.inj H
      go_wp2_with (first | (go_at_call 30; (with_reducible refine (carousellaw09_Awake.calls kj6  t259 _ A22.out).mono ?_); rintro e w23 ⟨rfl, hb⟩; have n0_ := Aside0.mk (blk_below (g := gb245) (o := .cells #[.int .u8 t234, .int .u16 t235, .int .u8 t236, .string t237, .int .i64 t238, .int .i64 t239, .int .i64 t240, .int .u64 t241, .bool t242, .bool t243] 59 (0, 0)) (by (with_reducible repeat (first | refine blk_drewN ?_ _ | refine blk_drew ?_ | refine blk_alloc ?_ _)); exact BK245.out) hb); have n1_ := Aside0.mk (blk_below (g := gb258) (o := .cells #[.int .u8 t247, .int .u16 t248, .int .u8 t249, .string t250, .int .i64 t251, .int .i64 t252, .int .i64 t253, .int .u64 t254, .bool t255, .bool t256] 59 (0, 0)) (by (with_reducible repeat (first | refine blk_drewN ?_ _ | refine blk_drew ?_ | refine blk_alloc ?_ _)); exact BK258.out) hb); have n2_ := Aside0.mk (below_step (by repeat (first | (with_reducible first | exact HB.out | apply below_alloc | apply pw_below_drewN | apply below_drew1 | refine below_set ?_ GE245.out | refine below_set ?_ GE258.out) | exact HB.out)) hb); clear BK245; clear BK258; clear HB; have BK245 := n0_; have BK258 := n1_; have HB := n2_; clear n0_ n1_ n2_; (try clear hb); (try clear hb2); (try clear hk); (try clear hi)))
      go_ret
      exact ⟨by first | rfl | (simp [errW_none, errW_some] <;> rfl) | (simp [*, errW_none, errW_some] <;> rfl), by repeat (first | (with_reducible first | exact HB.out | apply below_alloc | apply pw_below_drewN | apply below_drew1 | refine below_set ?_ GE245.out | refine below_set ?_ GE258.out) | exact HB.out)⟩
     ·
      rw [if_neg c21] at H
      have c21b0 : (t257 == 0) = false := beq_eq_false_iff_ne.mpr c21
      have c21b1 : (t257 != 0) = true := bne_iff_ne.mpr c21
      cases (Option.some.inj H).trans hT
    ·
     rw [if_neg c20] at H
     have c20b0 : (t244 == 0) = false := beq_eq_false_iff_ne.mpr c20
     have c20b1 : (t244 != 0) = true := bne_iff_ne.mpr c20
     cases (Option.some.inj H).trans hT
   ·
    replace c19 := Bool.eq_false_iff.mpr c19
    subst c19
    have H1 : ((watch_Watch_Tick.f kj6 t247 t248 t249 t250 t251 t252 t253 t254 t255 t256 0).bind fun bt260 => (carousellaw09_WatchLoses.l0 kj6 (wrap64 ((wrap64 (Int.tmod a0 50)) + 1)) bt260.2.2.2.2.2.2.2.2.2.2 0 l1 (l1.length : Int) 0 t234 t235 t236 t237 t238 t239 t240 t241 t242 t243)) = some r := by rw [if_neg (show ¬ (false = true) by decide)] at H; exact H
    clear H
    have H := H1
    clear H1
    replace H := Option.bind_eq_some_iff.mp H
    obtain ⟨⟨t260, t261, t262, t263, t264, t265, t266, t267, t268, t269, t270⟩, A240, H⟩ := H
    try dsimp only at H
    have A24 := Aside0.mk A240
    clear A240
    have H' := Aside0.mk H
    clear H
    have hnb25 := NB258_245.out
    have hnc25 := NB245_258.out
    have hcz26_0 : wc.cell? ⟨gb258, 0, none⟩ = some (.int .u8 t247) := (blk_cell BK258.out 0).trans rfl
    have hcz26_1 : wc.cell? ⟨gb258, 1, none⟩ = some (.int .u16 t248) := (blk_cell BK258.out 1).trans rfl
    have hcz26_2 : wc.cell? ⟨gb258, 2, none⟩ = some (.int .u8 t249) := (blk_cell BK258.out 2).trans rfl
    have hcz26_3 : wc.cell? ⟨gb258, 3, none⟩ = some (.string t250) := (blk_cell BK258.out 3).trans rfl
    have hcz26_4 : wc.cell? ⟨gb258, 4, none⟩ = some (.int .i64 t251) := (blk_cell BK258.out 4).trans rfl
    have hcz26_5 : wc.cell? ⟨gb258, 5, none⟩ = some (.int .i64 t252) := (blk_cell BK258.out 5).trans rfl
    have hcz26_6 : wc.cell? ⟨gb258, 6, none⟩ = some (.int .i64 t253) := (blk_cell BK258.out 6).trans rfl
    have hcz26_7 : wc.cell? ⟨gb258, 7, none⟩ = some (.int .u64 t254) := (blk_cell BK258.out 7).trans rfl
    have hcz26_8 : wc.cell? ⟨gb258, 8, none⟩ = some (.bool t255) := (blk_cell BK258.out 8).trans rfl
    have hcz26_9 : wc.cell? ⟨gb258, 9, none⟩ = some (.bool t256) := (blk_cell BK258.out 9).trans rfl
    have hfz26_0 := blk_frozen BK258.out 0
    have hfz26_1 := blk_frozen BK258.out 1
    have hfz26_2 := blk_frozen BK258.out 2
    have hfz26_3 := blk_frozen BK258.out 3
    have hfz26_4 := blk_frozen BK258.out 4
    have hfz26_5 := blk_frozen BK258.out 5
    have hfz26_6 := blk_frozen BK258.out 6
    have hfz26_7 := blk_frozen BK258.out 7
    have hfz26_8 := blk_frozen BK258.out 8
    have hfz26_9 := blk_frozen BK258.out 9
    go_wp2_with (first | ((with_reducible refine gate_callee (f := 35) rfl ?_); refine goesL_ (some 56) rfl rfl Try.func35 (by kernel_rfl) rfl #[.agg #[.int .u8 t247, .int .u16 t248, .int .u8 t249, .string t250, .int .i64 t251, .int .i64 t252, .int .i64 t253, .int .u64 t254, .bool t255, .bool t256], .int .i64 0] rfl (by (try simp only [List.map_toArray, List.map_cons, List.map_nil]); first | done | rfl | (simp only [List.length_drop, List.length_take]; rfl)) ?_; (with_reducible refine (watch_Watch_Tick.calls kj6 t247 t248 t249 t250 t251 t252 t253 t254 t255 t256 0 t260 t261 t262 t263 t264 t265 t266 t267 t268 t269 t270 _ A24.out).mono ?_); rintro e w27 ⟨rfl, hb⟩; refine ⟨_, rfl, ?_⟩; have n0_ := Aside0.mk (blk_below (g := gb245) (o := .cells #[.int .u8 t234, .int .u16 t235, .int .u8 t236, .string t237, .int .i64 t238, .int .i64 t239, .int .i64 t240, .int .u64 t241, .bool t242, .bool t243] 59 (0, 0)) (by (with_reducible repeat (first | refine blk_drewN ?_ _ | refine blk_drew ?_ | refine blk_alloc ?_ _)); exact BK245.out) hb); have n1_ := Aside0.mk (blk_below (g := gb258) (o := .cells #[.int .u8 t247, .int .u16 t248, .int .u8 t249, .string t250, .int .i64 t251, .int .i64 t252, .int .i64 t253, .int .u64 t254, .bool t255, .bool t256] 59 (0, 0)) (by (with_reducible repeat (first | refine blk_drewN ?_ _ | refine blk_drew ?_ | refine blk_alloc ?_ _)); exact BK258.out) hb); have n2_ := Aside0.mk (below_step (by repeat (first | (with_reducible first | exact HB.out | apply below_alloc | apply pw_below_drewN | apply below_drew1 | refine below_set ?_ GE245.out | refine below_set ?_ GE258.out) | exact HB.out)) hb); clear BK245; clear BK258; clear HB; have BK245 := n0_; have BK258 := n1_; have HB := n2_; clear n0_ n1_ n2_; (try clear hb); (try clear hb2); (try clear hk); (try clear hi)) | ((with_reducible refine gate_dst (N := 10) rfl ?_); (try (refine gate_guard (by rfl) ?_; dsimp only)); refine box_event ?hg (N := 10) ?hd (cs := #[.int .u8 0, .int .u16 0, .int .u8 0, .string (⟨#[]⟩ : ByteArray), .int .i64 0, .int .i64 0, .int .i64 0, .int .u64 0, .bool false, .bool false]) (t := 59) ?hr ?_; (case hd => rfl); (case hg => rfl); (case hr => first | (go_simp; done) | (go_simp; rfl)); intro gb271 hg w28 hbox hb; have n0_ := Aside0.mk (blk_below (g := gb245) (o := .cells #[.int .u8 t234, .int .u16 t235, .int .u8 t236, .string t237, .int .i64 t238, .int .i64 t239, .int .i64 t240, .int .u64 t241, .bool t242, .bool t243] 59 (0, 0)) (by (with_reducible repeat (first | refine blk_drewN ?_ _ | refine blk_drew ?_ | refine blk_alloc ?_ _)); exact BK245.out) hb); have n1_ := Aside0.mk (blk_below (g := gb258) (o := .cells #[.int .u8 t247, .int .u16 t248, .int .u8 t249, .string t250, .int .i64 t251, .int .i64 t252, .int .i64 t253, .int .u64 t254, .bool t255, .bool t256] 59 (0, 0)) (by (with_reducible repeat (first | refine blk_drewN ?_ _ | refine blk_drew ?_ | refine blk_alloc ?_ _)); exact BK258.out) hb); have n2_ := Aside0.mk (below_step (by repeat (first | (with_reducible first | exact HB.out | apply below_alloc | apply pw_below_drewN | apply below_drew1 | refine below_set ?_ GE245.out | refine below_set ?_ GE258.out) | exact HB.out)) hb); have n3_ := Aside0.mk (hbox); have n4_ := Aside0.mk ((by rw [hg]; exact (below_size (by repeat (first | (with_reducible first | exact HB.out | apply below_alloc | apply pw_below_drewN | apply below_drew1 | refine below_set ?_ GE245.out | refine below_set ?_ GE258.out) | exact HB.out))) : w.heap.size ≤ gb271)); have n5_ := Aside0.mk ((by rw [hg]; exact (below_size (by repeat (first | (with_reducible first | exact HB.out | apply below_alloc | apply pw_below_drewN | apply below_drew1 | refine below_set ?_ GE245.out | refine below_set ?_ GE258.out) | exact HB.out))) : w.heap.size ≤ gb271)); have n6_ := Aside0.mk ((by rw [hg]; exact Nat.ne_of_lt (blk_lt (g := gb245) (o := .cells #[.int .u8 t234, .int .u16 t235, .int .u8 t236, .string t237, .int .i64 t238, .int .i64 t239, .int .i64 t240, .int .u64 t241, .bool t242, .bool t243] 59 (0, 0)) (by (with_reducible repeat (first | refine blk_drewN ?_ _ | refine blk_drew ?_ | refine blk_alloc ?_ _)); exact BK245.out)) : gb245 ≠ gb271)); have n7_ := Aside0.mk ((by rw [hg]; exact Nat.ne_of_gt (blk_lt (g := gb245) (o := .cells #[.int .u8 t234, .int .u16 t235, .int .u8 t236, .string t237, .int .i64 t238, .int .i64 t239, .int .i64 t240, .int .u64 t241, .bool t242, .bool t243] 59 (0, 0)) (by (with_reducible repeat (first | refine blk_drewN ?_ _ | refine blk_drew ?_ | refine blk_alloc ?_ _)); exact BK245.out)) : gb271 ≠ gb245)); have n8_ := Aside0.mk ((by rw [hg]; exact Nat.ne_of_lt (blk_lt (g := gb258) (o := .cells #[.int .u8 t247, .int .u16 t248, .int .u8 t249, .string t250, .int .i64 t251, .int .i64 t252, .int .i64 t253, .int .u64 t254, .bool t255, .bool t256] 59 (0, 0)) (by (with_reducible repeat (first | refine blk_drewN ?_ _ | refine blk_drew ?_ | refine blk_alloc ?_ _)); exact BK258.out)) : gb258 ≠ gb271)); have n9_ := Aside0.mk ((by rw [hg]; exact Nat.ne_of_gt (blk_lt (g := gb258) (o := .cells #[.int .u8 t247, .int .u16 t248, .int .u8 t249, .string t250, .int .i64 t251, .int .i64 t252, .int .i64 t253, .int .u64 t254, .bool t255, .bool t256] 59 (0, 0)) (by (with_reducible repeat (first | refine blk_drewN ?_ _ | refine blk_drew ?_ | refine blk_alloc ?_ _)); exact BK258.out)) : gb271 ≠ gb258)); clear BK245; clear BK258; clear HB; have BK245 := n0_; have BK258 := n1_; have HB := n2_; have BK271 := n3_; have GW271 := n4_; have GE271 := n5_; have NB245_271 := n6_; have NB271_245 := n7_; have NB258_271 := n8_; have NB271_258 := n9_; clear n0_ n1_ n2_ n3_ n4_ n5_ n6_ n7_ n8_ n9_; clear hb hbox hg; have hnb29 := NB271_245.out; have hnc29 := NB245_271.out; have hnb30 := NB271_258.out; have hnc30 := NB258_271.out; have hcz31_0 : w28.cell? ⟨gb271, 0, none⟩ = some (.int .u8 0) := (blk_cell BK271.out 0).trans rfl; have hcz31_1 : w28.cell? ⟨gb271, 1, none⟩ = some (.int .u16 0) := (blk_cell BK271.out 1).trans rfl; have hcz31_2 : w28.cell? ⟨gb271, 2, none⟩ = some (.int .u8 0) := (blk_cell BK271.out 2).trans rfl; have hcz31_3 : w28.cell? ⟨gb271, 3, none⟩ = some (.string (⟨#[]⟩ : ByteArray)) := (blk_cell BK271.out 3).trans rfl; have hcz31_4 : w28.cell? ⟨gb271, 4, none⟩ = some (.int .i64 0) := (blk_cell BK271.out 4).trans rfl; have hcz31_5 : w28.cell? ⟨gb271, 5, none⟩ = some (.int .i64 0) := (blk_cell BK271.out 5).trans rfl; have hcz31_6 : w28.cell? ⟨gb271, 6, none⟩ = some (.int .i64 0) := (blk_cell BK271.out 6).trans rfl; have hcz31_7 : w28.cell? ⟨gb271, 7, none⟩ = some (.int .u64 0) := (blk_cell BK271.out 7).trans rfl; have hcz31_8 : w28.cell? ⟨gb271, 8, none⟩ = some (.bool false) := (blk_cell BK271.out 8).trans rfl; have hcz31_9 : w28.cell? ⟨gb271, 9, none⟩ = some (.bool false) := (blk_cell BK271.out 9).trans rfl; have hfz31_0 := blk_frozen BK271.out 0; have hfz31_1 := blk_frozen BK271.out 1; have hfz31_2 := blk_frozen BK271.out 2; have hfz31_3 := blk_frozen BK271.out 3; have hfz31_4 := blk_frozen BK271.out 4; have hfz31_5 := blk_frozen BK271.out 5; have hfz31_6 := blk_frozen BK271.out 6; have hfz31_7 := blk_frozen BK271.out 7; have hfz31_8 := blk_frozen BK271.out 8; have hfz31_9 := blk_frozen BK271.out 9))
    go_loopg [12, 61] kj6 (fun kq v12 v61 w' => ∃ (x12_2 : Int) (x61_2 : Int) (x246000_2 : Int) (x246001_2 : Int) (x246002_2 : Int) (x246003_2 : ByteArray) (x246004_2 : Int) (x246005_2 : Int) (x246006_2 : Int) (x246007_2 : Int) (x246008_2 : Bool) (x246009_2 : Bool), v12 = .int .i64 x12_2 ∧ v61 = .int .i64 x61_2 ∧ Aside0 (carousellaw09_WatchLoses.l0 kq (wrap64 ((wrap64 (Int.tmod a0 50)) + 1)) t270 x12_2 l1 (l1.length : Int) x61_2 x246000_2 x246001_2 x246002_2 x246003_2 x246004_2 x246005_2 x246006_2 x246007_2 x246008_2 x246009_2 = some r) ∧ Aside0 (kq ≤ kj6) ∧ Aside0 (w'.heap[gb245]? = some (.cells #[.int .u8 x246000_2, .int .u16 x246001_2, .int .u8 x246002_2, .string x246003_2, .int .i64 x246004_2, .int .i64 x246005_2, .int .i64 x246006_2, .int .u64 x246007_2, .bool x246008_2, .bool x246009_2] 59 (0, 0))) ∧ Aside0 (w'.heap[gb258]? = some (.cells #[.int .u8 t247, .int .u16 t248, .int .u8 t249, .string t250, .int .i64 t251, .int .i64 t252, .int .i64 t253, .int .u64 t254, .bool t255, .bool t256] 59 (0, 0))) ∧ Aside0 (w'.heap[gb271]? = some (.cells #[.int .u8 t260, .int .u16 t261, .int .u8 t262, .string t263, .int .i64 t264, .int .i64 t265, .int .i64 t266, .int .u64 t267, .bool t268, .bool t269] 59 (0, 0))) ∧ Aside0 (Below w.heap.size w w'))
    case atStart => exact ⟨(0), (0), (t234), (t235), (t236), (t237), (t238), (t239), (t240), (t241), (t242), (t243), (by first | rfl | (simp; done) | (simp [*]; done)), (by first | rfl | (simp; done) | (simp [*]; done)), H', ⟨Nat.le_refl _⟩, ⟨by (with_reducible repeat (first | refine blk_drewN ?_ _ | refine blk_drew ?_ | refine blk_alloc ?_ _)); refine blk_far ?_ NB245_271.out _; (with_reducible repeat (first | refine blk_drewN ?_ _ | refine blk_drew ?_ | refine blk_alloc ?_ _)); refine blk_far ?_ NB245_271.out _; (with_reducible repeat (first | refine blk_drewN ?_ _ | refine blk_drew ?_ | refine blk_alloc ?_ _)); refine blk_far ?_ NB245_271.out _; (with_reducible repeat (first | refine blk_drewN ?_ _ | refine blk_drew ?_ | refine blk_alloc ?_ _)); refine blk_far ?_ NB245_271.out _; (with_reducible repeat (first | refine blk_drewN ?_ _ | refine blk_drew ?_ | refine blk_alloc ?_ _)); refine blk_far ?_ NB245_271.out _; (with_reducible repeat (first | refine blk_drewN ?_ _ | refine blk_drew ?_ | refine blk_alloc ?_ _)); refine blk_far ?_ NB245_271.out _; (with_reducible repeat (first | refine blk_drewN ?_ _ | refine blk_drew ?_ | refine blk_alloc ?_ _)); refine blk_far ?_ NB245_271.out _; (with_reducible repeat (first | refine blk_drewN ?_ _ | refine blk_drew ?_ | refine blk_alloc ?_ _)); refine blk_far ?_ NB245_271.out _; (with_reducible repeat (first | refine blk_drewN ?_ _ | refine blk_drew ?_ | refine blk_alloc ?_ _)); refine blk_far ?_ NB245_271.out _; (with_reducible repeat (first | refine blk_drewN ?_ _ | refine blk_drew ?_ | refine blk_alloc ?_ _)); refine blk_far ?_ NB245_271.out _; (with_reducible repeat (first | refine blk_drewN ?_ _ | refine blk_drew ?_ | refine blk_alloc ?_ _)); exact BK245.out⟩, ⟨by (with_reducible repeat (first | refine blk_drewN ?_ _ | refine blk_drew ?_ | refine blk_alloc ?_ _)); refine blk_far ?_ NB258_271.out _; (with_reducible repeat (first | refine blk_drewN ?_ _ | refine blk_drew ?_ | refine blk_alloc ?_ _)); refine blk_far ?_ NB258_271.out _; (with_reducible repeat (first | refine blk_drewN ?_ _ | refine blk_drew ?_ | refine blk_alloc ?_ _)); refine blk_far ?_ NB258_271.out _; (with_reducible repeat (first | refine blk_drewN ?_ _ | refine blk_drew ?_ | refine blk_alloc ?_ _)); refine blk_far ?_ NB258_271.out _; (with_reducible repeat (first | refine blk_drewN ?_ _ | refine blk_drew ?_ | refine blk_alloc ?_ _)); refine blk_far ?_ NB258_271.out _; (with_reducible repeat (first | refine blk_drewN ?_ _ | refine blk_drew ?_ | refine blk_alloc ?_ _)); refine blk_far ?_ NB258_271.out _; (with_reducible repeat (first | refine blk_drewN ?_ _ | refine blk_drew ?_ | refine blk_alloc ?_ _)); refine blk_far ?_ NB258_271.out _; (with_reducible repeat (first | refine blk_drewN ?_ _ | refine blk_drew ?_ | refine blk_alloc ?_ _)); refine blk_far ?_ NB258_271.out _; (with_reducible repeat (first | refine blk_drewN ?_ _ | refine blk_drew ?_ | refine blk_alloc ?_ _)); refine blk_far ?_ NB258_271.out _; (with_reducible repeat (first | refine blk_drewN ?_ _ | refine blk_drew ?_ | refine blk_alloc ?_ _)); refine blk_far ?_ NB258_271.out _; (with_reducible repeat (first | refine blk_drewN ?_ _ | refine blk_drew ?_ | refine blk_alloc ?_ _)); exact BK258.out⟩, ⟨by (with_reducible repeat (first | refine blk_drewN ?_ _ | refine blk_drew ?_ | refine blk_alloc ?_ _)); refine blk_put (cs := #[.int .u8 t260, .int .u16 t261, .int .u8 t262, .string t263, .int .i64 t264, .int .i64 t265, .int .i64 t266, .int .u64 t267, .bool t268, .bool false]) ?_ 9 _ rfl; (with_reducible repeat (first | refine blk_drewN ?_ _ | refine blk_drew ?_ | refine blk_alloc ?_ _)); refine blk_put (cs := #[.int .u8 t260, .int .u16 t261, .int .u8 t262, .string t263, .int .i64 t264, .int .i64 t265, .int .i64 t266, .int .u64 t267, .bool false, .bool false]) ?_ 8 _ rfl; (with_reducible repeat (first | refine blk_drewN ?_ _ | refine blk_drew ?_ | refine blk_alloc ?_ _)); refine blk_put (cs := #[.int .u8 t260, .int .u16 t261, .int .u8 t262, .string t263, .int .i64 t264, .int .i64 t265, .int .i64 t266, .int .u64 0, .bool false, .bool false]) ?_ 7 _ rfl; (with_reducible repeat (first | refine blk_drewN ?_ _ | refine blk_drew ?_ | refine blk_alloc ?_ _)); refine blk_put (cs := #[.int .u8 t260, .int .u16 t261, .int .u8 t262, .string t263, .int .i64 t264, .int .i64 t265, .int .i64 0, .int .u64 0, .bool false, .bool false]) ?_ 6 _ rfl; (with_reducible repeat (first | refine blk_drewN ?_ _ | refine blk_drew ?_ | refine blk_alloc ?_ _)); refine blk_put (cs := #[.int .u8 t260, .int .u16 t261, .int .u8 t262, .string t263, .int .i64 t264, .int .i64 0, .int .i64 0, .int .u64 0, .bool false, .bool false]) ?_ 5 _ rfl; (with_reducible repeat (first | refine blk_drewN ?_ _ | refine blk_drew ?_ | refine blk_alloc ?_ _)); refine blk_put (cs := #[.int .u8 t260, .int .u16 t261, .int .u8 t262, .string t263, .int .i64 0, .int .i64 0, .int .i64 0, .int .u64 0, .bool false, .bool false]) ?_ 4 _ rfl; (with_reducible repeat (first | refine blk_drewN ?_ _ | refine blk_drew ?_ | refine blk_alloc ?_ _)); refine blk_put (cs := #[.int .u8 t260, .int .u16 t261, .int .u8 t262, .string (⟨#[]⟩ : ByteArray), .int .i64 0, .int .i64 0, .int .i64 0, .int .u64 0, .bool false, .bool false]) ?_ 3 _ rfl; (with_reducible repeat (first | refine blk_drewN ?_ _ | refine blk_drew ?_ | refine blk_alloc ?_ _)); refine blk_put (cs := #[.int .u8 t260, .int .u16 t261, .int .u8 0, .string (⟨#[]⟩ : ByteArray), .int .i64 0, .int .i64 0, .int .i64 0, .int .u64 0, .bool false, .bool false]) ?_ 2 _ rfl; (with_reducible repeat (first | refine blk_drewN ?_ _ | refine blk_drew ?_ | refine blk_alloc ?_ _)); refine blk_put (cs := #[.int .u8 t260, .int .u16 0, .int .u8 0, .string (⟨#[]⟩ : ByteArray), .int .i64 0, .int .i64 0, .int .i64 0, .int .u64 0, .bool false, .bool false]) ?_ 1 _ rfl; (with_reducible repeat (first | refine blk_drewN ?_ _ | refine blk_drew ?_ | refine blk_alloc ?_ _)); refine blk_put (cs := #[.int .u8 0, .int .u16 0, .int .u8 0, .string (⟨#[]⟩ : ByteArray), .int .i64 0, .int .i64 0, .int .i64 0, .int .u64 0, .bool false, .bool false]) ?_ 0 _ rfl; (with_reducible repeat (first | refine blk_drewN ?_ _ | refine blk_drew ?_ | refine blk_alloc ?_ _)); exact BK271.out⟩, ⟨by repeat (first | (with_reducible first | exact HB.out | apply below_alloc | apply pw_below_drewN | apply below_drew1 | refine below_set ?_ GE245.out | refine below_set ?_ GE258.out | refine below_set ?_ GE271.out) | exact HB.out)⟩⟩
    case round =>
     clear H'
     try clear c1
     try clear c2
     try clear p2
     try clear c3
     try clear p6
     try clear c8
     try clear c15
     try clear c17
     try clear c17b0
     try clear c17b1
     try clear c18
     try clear c18b0
     try clear c18b1
     try clear c19
     try clear c20
     try clear c20b0
     try clear c20b1
     try clear c21
     try clear c21b0
     try clear c21b1
     try clear c25
     try clear c29
     try clear c30
     try clear c31
     try clear hcz11_0
     try clear hcz11_1
     try clear hcz11_2
     try clear hcz11_3
     try clear hcz11_4
     try clear hcz11_5
     try clear hcz11_6
     try clear hcz11_7
     try clear hcz11_8
     try clear hcz11_9
     try clear hcz16_0
     try clear hcz16_1
     try clear hcz16_2
     try clear hcz16_3
     try clear hcz16_4
     try clear hcz16_5
     try clear hcz16_6
     try clear hcz16_7
     try clear hcz16_8
     try clear hcz16_9
     try clear hcz26_0
     try clear hcz26_1
     try clear hcz26_2
     try clear hcz26_3
     try clear hcz26_4
     try clear hcz26_5
     try clear hcz26_6
     try clear hcz26_7
     try clear hcz26_8
     try clear hcz26_9
     try clear hcz31_0
     try clear hcz31_1
     try clear hcz31_2
     try clear hcz31_3
     try clear hcz31_4
     try clear hcz31_5
     try clear hcz31_6
     try clear hcz31_7
     try clear hcz31_8
     try clear hcz31_9
     try clear hfz11_0
     try clear hfz11_1
     try clear hfz11_2
     try clear hfz11_3
     try clear hfz11_4
     try clear hfz11_5
     try clear hfz11_6
     try clear hfz11_7
     try clear hfz11_8
     try clear hfz11_9
     try clear hfz16_0
     try clear hfz16_1
     try clear hfz16_2
     try clear hfz16_3
     try clear hfz16_4
     try clear hfz16_5
     try clear hfz16_6
     try clear hfz16_7
     try clear hfz16_8
     try clear hfz16_9
     try clear hfz26_0
     try clear hfz26_1
     try clear hfz26_2
     try clear hfz26_3
     try clear hfz26_4
     try clear hfz26_5
     try clear hfz26_6
     try clear hfz26_7
     try clear hfz26_8
     try clear hfz26_9
     try clear hfz31_0
     try clear hfz31_1
     try clear hfz31_2
     try clear hfz31_3
     try clear hfz31_4
     try clear hfz31_5
     try clear hfz31_6
     try clear hfz31_7
     try clear hfz31_8
     try clear hfz31_9
     try clear p2
     try clear p6
     obtain ⟨x12_2, x61_2, x246000_2, x246001_2, x246002_2, x246003_2, x246004_2, x246005_2, x246006_2, x246007_2, x246008_2, x246009_2, rfl, rfl, HA, HK2, BK245, BK258, BK271, HB⟩ := hrel
     cases gk with
     | zero => exact absurd HA.out (by simp [carousellaw09_WatchLoses.l0])
     | succ k2 =>
      have H := HA.out
      clear HA
      simp only [carousellaw09_WatchLoses.l0] at H
      by_cases c32 : x61_2 < (l1.length : Int)
      ·
       rw [if_pos c32] at H
       have c32b0 : decide (x61_2 < (l1.length : Int)) = true := decide_eq_true c32
       clear c32
       by_cases c33 : 0 ≤ x61_2
       ·
        rw [if_pos c33] at H
        have c33b0 : decide (0 ≤ x61_2) = true := decide_eq_true c33
        clear c33
        by_cases c34 : x61_2 < (l1.length : Int)
        ·
         rw [if_pos c34] at H
         have c34b0 : decide (x61_2 < (l1.length : Int)) = true := decide_eq_true c34
         clear c34
         have H' := Aside0.mk H
         clear H
         have p273 : 0 ≤ (x61_2 : Int) := of_decide_eq_true (by first | (with_reducible assumption) | assumption)
         have q273 : x61_2 < (l1.length : Int) := of_decide_eq_true (by first | (with_reducible assumption) | assumption)
         obtain ⟨ad273, e273, hx273_0⟩ := Kd.at_int HR1.out x61_2 p273 q273
         cases e273
         replace hx273_0 := (HB.out.cell (World.block_lt_of_cell? w _ hx273_0)).trans hx273_0
         replace p273 := eq_true p273
         replace q273 := eq_true q273
         go_wp2
         go_loopg [12, 69] k2 (fun kq v12 v69 w' => ∃ (x12_3 : Int) (x69_3 : Int) (x246000_3 : Int) (x246001_3 : Int) (x246002_3 : Int) (x246003_3 : ByteArray) (x246004_3 : Int) (x246005_3 : Int) (x246006_3 : Int) (x246007_3 : Int) (x246008_3 : Bool) (x246009_3 : Bool), v12 = .int .i64 x12_3 ∧ v69 = .int .i64 x69_3 ∧ Aside0 (carousellaw09_WatchLoses.l1 kq (wrap64 ((wrap64 (Int.tmod a0 50)) + 1)) t270 x12_3 l1 (l1.length : Int) x61_2 (wrap64 (Int.tmod (rd l1 x61_2) 300)) x69_3 x246000_3 x246001_3 x246002_3 x246003_3 x246004_3 x246005_3 x246006_3 x246007_3 x246008_3 x246009_3 = some r) ∧ Aside0 (kq ≤ k2) ∧ Aside0 (w'.heap[gb245]? = some (.cells #[.int .u8 x246000_3, .int .u16 x246001_3, .int .u8 x246002_3, .string x246003_3, .int .i64 x246004_3, .int .i64 x246005_3, .int .i64 x246006_3, .int .u64 x246007_3, .bool x246008_3, .bool x246009_3] 59 (0, 0))) ∧ Aside0 (w'.heap[gb258]? = some (.cells #[.int .u8 t247, .int .u16 t248, .int .u8 t249, .string t250, .int .i64 t251, .int .i64 t252, .int .i64 t253, .int .u64 t254, .bool t255, .bool t256] 59 (0, 0))) ∧ Aside0 (w'.heap[gb271]? = some (.cells #[.int .u8 t260, .int .u16 t261, .int .u8 t262, .string t263, .int .i64 t264, .int .i64 t265, .int .i64 t266, .int .u64 t267, .bool t268, .bool t269] 59 (0, 0))) ∧ Aside0 (Below w.heap.size w w'))
         case atStart => exact ⟨(x12_2), (0), (x246000_2), (x246001_2), (x246002_2), (x246003_2), (x246004_2), (x246005_2), (x246006_2), (x246007_2), (x246008_2), (x246009_2), (by first | rfl | (simp; done) | (simp [*]; done)), (by first | rfl | (simp; done) | (simp [*]; done)), H', ⟨Nat.le_refl _⟩, ⟨by (with_reducible repeat (first | refine blk_drewN ?_ _ | refine blk_drew ?_ | refine blk_alloc ?_ _)); exact BK245.out⟩, ⟨by (with_reducible repeat (first | refine blk_drewN ?_ _ | refine blk_drew ?_ | refine blk_alloc ?_ _)); exact BK258.out⟩, ⟨by (with_reducible repeat (first | refine blk_drewN ?_ _ | refine blk_drew ?_ | refine blk_alloc ?_ _)); exact BK271.out⟩, ⟨by repeat (first | (with_reducible first | exact HB.out | apply below_alloc | apply pw_below_drewN | apply below_drew1 | refine below_set ?_ GE245.out | refine below_set ?_ GE258.out | refine below_set ?_ GE271.out) | exact HB.out)⟩⟩
         case round =>
          clear H'
          try clear c1
          try clear c2
          try clear p2
          try clear q2
          try clear hx2
          try clear c3
          try clear p6
          try clear c8
          try clear c15
          try clear c17
          try clear c17b0
          try clear c17b1
          try clear c18
          try clear c18b0
          try clear c18b1
          try clear c19
          try clear c20
          try clear c20b0
          try clear c20b1
          try clear c21
          try clear c21b0
          try clear c21b1
          try clear c25
          try clear p27
          try clear q27
          try clear hx27
          try clear c29
          try clear c30
          try clear c31
          try clear c32
          try clear c32b0
          try clear c33
          try clear c33b0
          try clear c34
          try clear c34b0
          try clear hcz11_0
          try clear hcz11_1
          try clear hcz11_2
          try clear hcz11_3
          try clear hcz11_4
          try clear hcz11_5
          try clear hcz11_6
          try clear hcz11_7
          try clear hcz11_8
          try clear hcz11_9
          try clear hcz16_0
          try clear hcz16_1
          try clear hcz16_2
          try clear hcz16_3
          try clear hcz16_4
          try clear hcz16_5
          try clear hcz16_6
          try clear hcz16_7
          try clear hcz16_8
          try clear hcz16_9
          try clear hcz26_0
          try clear hcz26_1
          try clear hcz26_2
          try clear hcz26_3
          try clear hcz26_4
          try clear hcz26_5
          try clear hcz26_6
          try clear hcz26_7
          try clear hcz26_8
          try clear hcz26_9
          try clear hcz31_0
          try clear hcz31_1
          try clear hcz31_2
          try clear hcz31_3
          try clear hcz31_4
          try clear hcz31_5
          try clear hcz31_6
          try clear hcz31_7
          try clear hcz31_8
          try clear hcz31_9
          try clear hfz11_0
          try clear hfz11_1
          try clear hfz11_2
          try clear hfz11_3
          try clear hfz11_4
          try clear hfz11_5
          try clear hfz11_6
          try clear hfz11_7
          try clear hfz11_8
          try clear hfz11_9
          try clear hfz16_0
          try clear hfz16_1
          try clear hfz16_2
          try clear hfz16_3
          try clear hfz16_4
          try clear hfz16_5
          try clear hfz16_6
          try clear hfz16_7
          try clear hfz16_8
          try clear hfz16_9
          try clear hfz26_0
          try clear hfz26_1
          try clear hfz26_2
          try clear hfz26_3
          try clear hfz26_4
          try clear hfz26_5
          try clear hfz26_6
          try clear hfz26_7
          try clear hfz26_8
          try clear hfz26_9
          try clear hfz31_0
          try clear hfz31_1
          try clear hfz31_2
          try clear hfz31_3
          try clear hfz31_4
          try clear hfz31_5
          try clear hfz31_6
          try clear hfz31_7
          try clear hfz31_8
          try clear hfz31_9
          try clear hx273_0
          try clear p2
          try clear p273
          try clear p6
          try clear q273
          obtain ⟨x12_3, x69_3, x246000_3, x246001_3, x246002_3, x246003_3, x246004_3, x246005_3, x246006_3, x246007_3, x246008_3, x246009_3, rfl, rfl, HA, HK3, BK245, BK258, BK271, HB⟩ := hrel
          cases gk with
          | zero => exact absurd HA.out (by simp [carousellaw09_WatchLoses.l1])
          | succ k3 =>
           have H := HA.out
           clear HA
           simp only [carousellaw09_WatchLoses.l1] at H
           by_cases c35 : x69_3 < (wrap64 (Int.tmod (rd l1 x61_2) 300))
           ·
            rw [if_pos c35] at H
            have c35b0 : decide (x69_3 < (wrap64 (Int.tmod (rd l1 x61_2) 300))) = true := decide_eq_true c35
            clear c35
            replace H := Option.bind_eq_some_iff.mp H
            obtain ⟨⟨t274, t275, t276, t277, t278, t279, t280, t281, t282, t283, t284⟩, A360, H⟩ := H
            try dsimp only at H
            have A36 := Aside0.mk A360
            clear A360
            by_cases c37 : (t282 != (decide ((wrap64 (2 * (wrap64 ((wrap64 (x12_3 + 1)) - t279)))) > (wrap64 (7 * (wrap64 ((wrap64 (Int.tmod a0 50)) + 1))))))) = true
            ·
             rw [if_pos c37] at H
             have c37b0 : (t282 != (decide ((wrap64 (2 * (wrap64 ((wrap64 (x12_3 + 1)) - t279)))) > (wrap64 (7 * (wrap64 ((wrap64 (Int.tmod a0 50)) + 1))))))) = true := c37
             (try (have c37b1 : decide (t282 = (decide ((wrap64 (2 * (wrap64 ((wrap64 (x12_3 + 1)) - t279)))) > (wrap64 (7 * (wrap64 ((wrap64 (Int.tmod a0 50)) + 1))))))) = false := by simpa using c37))
             (try (have c37b2 : (t282 == (decide ((wrap64 (2 * (wrap64 ((wrap64 (x12_3 + 1)) - t279)))) > (wrap64 (7 * (wrap64 ((wrap64 (Int.tmod a0 50)) + 1))))))) = false := by simpa using c37))
             (try (have c37b3 : ¬ (t282 = (decide ((wrap64 (2 * (wrap64 ((wrap64 (x12_3 + 1)) - t279)))) > (wrap64 (7 * (wrap64 ((wrap64 (Int.tmod a0 50)) + 1))))))) := by simpa using c37))
             clear c37
             cases (Option.some.inj H).trans hT
            ·
             rw [if_neg c37] at H
             have c37b0 : (t282 != (decide ((wrap64 (2 * (wrap64 ((wrap64 (x12_3 + 1)) - t279)))) > (wrap64 (7 * (wrap64 ((wrap64 (Int.tmod a0 50)) + 1))))))) = false := by simpa using c37
             (try (have c37b1 : decide (t282 = (decide ((wrap64 (2 * (wrap64 ((wrap64 (x12_3 + 1)) - t279)))) > (wrap64 (7 * (wrap64 ((wrap64 (Int.tmod a0 50)) + 1))))))) = true := by simpa using c37))
             (try (have c37b2 : (t282 == (decide ((wrap64 (2 * (wrap64 ((wrap64 (x12_3 + 1)) - t279)))) > (wrap64 (7 * (wrap64 ((wrap64 (Int.tmod a0 50)) + 1))))))) = true := by simpa using c37))
             clear c37
             have H' := Aside0.mk H
             clear H
             have hnb38 := NB245_258.out
             have hnc38 := NB258_245.out
             have hnb39 := NB245_271.out
             have hnc39 := NB271_245.out
             have hcz40_0 : wr.cell? ⟨gb245, 0, none⟩ = some (.int .u8 x246000_3) := (blk_cell BK245.out 0).trans rfl
             have hcz40_1 : wr.cell? ⟨gb245, 1, none⟩ = some (.int .u16 x246001_3) := (blk_cell BK245.out 1).trans rfl
             have hcz40_2 : wr.cell? ⟨gb245, 2, none⟩ = some (.int .u8 x246002_3) := (blk_cell BK245.out 2).trans rfl
             have hcz40_3 : wr.cell? ⟨gb245, 3, none⟩ = some (.string x246003_3) := (blk_cell BK245.out 3).trans rfl
             have hcz40_4 : wr.cell? ⟨gb245, 4, none⟩ = some (.int .i64 x246004_3) := (blk_cell BK245.out 4).trans rfl
             have hcz40_5 : wr.cell? ⟨gb245, 5, none⟩ = some (.int .i64 x246005_3) := (blk_cell BK245.out 5).trans rfl
             have hcz40_6 : wr.cell? ⟨gb245, 6, none⟩ = some (.int .i64 x246006_3) := (blk_cell BK245.out 6).trans rfl
             have hcz40_7 : wr.cell? ⟨gb245, 7, none⟩ = some (.int .u64 x246007_3) := (blk_cell BK245.out 7).trans rfl
             have hcz40_8 : wr.cell? ⟨gb245, 8, none⟩ = some (.bool x246008_3) := (blk_cell BK245.out 8).trans rfl
             have hcz40_9 : wr.cell? ⟨gb245, 9, none⟩ = some (.bool x246009_3) := (blk_cell BK245.out 9).trans rfl
             have hfz40_0 := blk_frozen BK245.out 0
             have hfz40_1 := blk_frozen BK245.out 1
             have hfz40_2 := blk_frozen BK245.out 2
             have hfz40_3 := blk_frozen BK245.out 3
             have hfz40_4 := blk_frozen BK245.out 4
             have hfz40_5 := blk_frozen BK245.out 5
             have hfz40_6 := blk_frozen BK245.out 6
             have hfz40_7 := blk_frozen BK245.out 7
             have hfz40_8 := blk_frozen BK245.out 8
             have hfz40_9 := blk_frozen BK245.out 9
             go_wp2_with (first | ((with_reducible refine gate_callee (f := 35) rfl ?_); refine goesL_ (some 76) rfl rfl Try.func35 (by kernel_rfl) rfl #[.agg #[.int .u8 x246000_3, .int .u16 x246001_3, .int .u8 x246002_3, .string x246003_3, .int .i64 x246004_3, .int .i64 x246005_3, .int .i64 x246006_3, .int .u64 x246007_3, .bool x246008_3, .bool x246009_3], .int .i64 (wrap64 (x12_3 + 1))] rfl (by (try simp only [List.map_toArray, List.map_cons, List.map_nil]); first | done | rfl | (simp only [List.length_drop, List.length_take]; rfl)) ?_; (with_reducible refine (watch_Watch_Tick.calls k3 x246000_3 x246001_3 x246002_3 x246003_3 x246004_3 x246005_3 x246006_3 x246007_3 x246008_3 x246009_3 (wrap64 (x12_3 + 1)) t274 t275 t276 t277 t278 t279 t280 t281 t282 t283 t284 _ A36.out).mono ?_); rintro e w41 ⟨rfl, hb⟩; refine ⟨_, rfl, ?_⟩; have n0_ := Aside0.mk (blk_below (g := gb245) (o := .cells #[.int .u8 x246000_3, .int .u16 x246001_3, .int .u8 x246002_3, .string x246003_3, .int .i64 x246004_3, .int .i64 x246005_3, .int .i64 x246006_3, .int .u64 x246007_3, .bool x246008_3, .bool x246009_3] 59 (0, 0)) (by (with_reducible repeat (first | refine blk_drewN ?_ _ | refine blk_drew ?_ | refine blk_alloc ?_ _)); exact BK245.out) hb); have n1_ := Aside0.mk (blk_below (g := gb258) (o := .cells #[.int .u8 t247, .int .u16 t248, .int .u8 t249, .string t250, .int .i64 t251, .int .i64 t252, .int .i64 t253, .int .u64 t254, .bool t255, .bool t256] 59 (0, 0)) (by (with_reducible repeat (first | refine blk_drewN ?_ _ | refine blk_drew ?_ | refine blk_alloc ?_ _)); exact BK258.out) hb); have n2_ := Aside0.mk (blk_below (g := gb271) (o := .cells #[.int .u8 t260, .int .u16 t261, .int .u8 t262, .string t263, .int .i64 t264, .int .i64 t265, .int .i64 t266, .int .u64 t267, .bool t268, .bool t269] 59 (0, 0)) (by (with_reducible repeat (first | refine blk_drewN ?_ _ | refine blk_drew ?_ | refine blk_alloc ?_ _)); exact BK271.out) hb); have n3_ := Aside0.mk (below_step (by repeat (first | (with_reducible first | exact HB.out | apply below_alloc | apply pw_below_drewN | apply below_drew1 | refine below_set ?_ GE245.out | refine below_set ?_ GE258.out | refine below_set ?_ GE271.out) | exact HB.out)) hb); clear BK245; clear BK258; clear BK271; clear HB; have BK245 := n0_; have BK258 := n1_; have BK271 := n2_; have HB := n3_; clear n0_ n1_ n2_ n3_; (try clear hb); (try clear hb2); (try clear hk); (try clear hi)) | ((with_reducible refine gate_dst (N := 16) rfl ?_); (try (refine gate_guard (by rfl) ?_; dsimp only)); refine box_event ?hg (N := 16) ?hd (cs := #[.int .u8 0, .int .u16 0, .int .u8 0, .string (⟨#[]⟩ : ByteArray), .int .i64 0, .int .i64 0, .int .i64 0, .int .u64 0, .bool false, .bool false]) (t := 59) ?hr ?_; (case hd => rfl); (case hg => rfl); (case hr => first | (go_simp; done) | (go_simp; rfl)); intro gb285 hg w42 hbox hb; have n0_ := Aside0.mk (blk_below (g := gb245) (o := .cells #[.int .u8 x246000_3, .int .u16 x246001_3, .int .u8 x246002_3, .string x246003_3, .int .i64 x246004_3, .int .i64 x246005_3, .int .i64 x246006_3, .int .u64 x246007_3, .bool x246008_3, .bool x246009_3] 59 (0, 0)) (by (with_reducible repeat (first | refine blk_drewN ?_ _ | refine blk_drew ?_ | refine blk_alloc ?_ _)); exact BK245.out) hb); have n1_ := Aside0.mk (blk_below (g := gb258) (o := .cells #[.int .u8 t247, .int .u16 t248, .int .u8 t249, .string t250, .int .i64 t251, .int .i64 t252, .int .i64 t253, .int .u64 t254, .bool t255, .bool t256] 59 (0, 0)) (by (with_reducible repeat (first | refine blk_drewN ?_ _ | refine blk_drew ?_ | refine blk_alloc ?_ _)); exact BK258.out) hb); have n2_ := Aside0.mk (blk_below (g := gb271) (o := .cells #[.int .u8 t260, .int .u16 t261, .int .u8 t262, .string t263, .int .i64 t264, .int .i64 t265, .int .i64 t266, .int .u64 t267, .bool t268, .bool t269] 59 (0, 0)) (by (with_reducible repeat (first | refine blk_drewN ?_ _ | refine blk_drew ?_ | refine blk_alloc ?_ _)); exact BK271.out) hb); have n3_ := Aside0.mk (below_step (by repeat (first | (with_reducible first | exact HB.out | apply below_alloc | apply pw_below_drewN | apply below_drew1 | refine below_set ?_ GE245.out | refine below_set ?_ GE258.out | refine below_set ?_ GE271.out) | exact HB.out)) hb); have n4_ := Aside0.mk (hbox); have n5_ := Aside0.mk ((by rw [hg]; exact (below_size (by repeat (first | (with_reducible first | exact HB.out | apply below_alloc | apply pw_below_drewN | apply below_drew1 | refine below_set ?_ GE245.out | refine below_set ?_ GE258.out | refine below_set ?_ GE271.out) | exact HB.out))) : w.heap.size ≤ gb285)); have n6_ := Aside0.mk ((by rw [hg]; exact (below_size (by repeat (first | (with_reducible first | exact HB.out | apply below_alloc | apply pw_below_drewN | apply below_drew1 | refine below_set ?_ GE245.out | refine below_set ?_ GE258.out | refine below_set ?_ GE271.out) | exact HB.out))) : w.heap.size ≤ gb285)); have n7_ := Aside0.mk ((by rw [hg]; exact Nat.ne_of_lt (blk_lt (g := gb245) (o := .cells #[.int .u8 x246000_3, .int .u16 x246001_3, .int .u8 x246002_3, .string x246003_3, .int .i64 x246004_3, .int .i64 x246005_3, .int .i64 x246006_3, .int .u64 x246007_3, .bool x246008_3, .bool x246009_3] 59 (0, 0)) (by (with_reducible repeat (first | refine blk_drewN ?_ _ | refine blk_drew ?_ | refine blk_alloc ?_ _)); exact BK245.out)) : gb245 ≠ gb285)); have n8_ := Aside0.mk ((by rw [hg]; exact Nat.ne_of_gt (blk_lt (g := gb245) (o := .cells #[.int .u8 x246000_3, .int .u16 x246001_3, .int .u8 x246002_3, .string x246003_3, .int .i64 x246004_3, .int .i64 x246005_3, .int .i64 x246006_3, .int .u64 x246007_3, .bool x246008_3, .bool x246009_3] 59 (0, 0)) (by (with_reducible repeat (first | refine blk_drewN ?_ _ | refine blk_drew ?_ | refine blk_alloc ?_ _)); exact BK245.out)) : gb285 ≠ gb245)); have n9_ := Aside0.mk ((by rw [hg]; exact Nat.ne_of_lt (blk_lt (g := gb258) (o := .cells #[.int .u8 t247, .int .u16 t248, .int .u8 t249, .string t250, .int .i64 t251, .int .i64 t252, .int .i64 t253, .int .u64 t254, .bool t255, .bool t256] 59 (0, 0)) (by (with_reducible repeat (first | refine blk_drewN ?_ _ | refine blk_drew ?_ | refine blk_alloc ?_ _)); exact BK258.out)) : gb258 ≠ gb285)); have n10_ := Aside0.mk ((by rw [hg]; exact Nat.ne_of_gt (blk_lt (g := gb258) (o := .cells #[.int .u8 t247, .int .u16 t248, .int .u8 t249, .string t250, .int .i64 t251, .int .i64 t252, .int .i64 t253, .int .u64 t254, .bool t255, .bool t256] 59 (0, 0)) (by (with_reducible repeat (first | refine blk_drewN ?_ _ | refine blk_drew ?_ | refine blk_alloc ?_ _)); exact BK258.out)) : gb285 ≠ gb258)); have n11_ := Aside0.mk ((by rw [hg]; exact Nat.ne_of_lt (blk_lt (g := gb271) (o := .cells #[.int .u8 t260, .int .u16 t261, .int .u8 t262, .string t263, .int .i64 t264, .int .i64 t265, .int .i64 t266, .int .u64 t267, .bool t268, .bool t269] 59 (0, 0)) (by (with_reducible repeat (first | refine blk_drewN ?_ _ | refine blk_drew ?_ | refine blk_alloc ?_ _)); exact BK271.out)) : gb271 ≠ gb285)); have n12_ := Aside0.mk ((by rw [hg]; exact Nat.ne_of_gt (blk_lt (g := gb271) (o := .cells #[.int .u8 t260, .int .u16 t261, .int .u8 t262, .string t263, .int .i64 t264, .int .i64 t265, .int .i64 t266, .int .u64 t267, .bool t268, .bool t269] 59 (0, 0)) (by (with_reducible repeat (first | refine blk_drewN ?_ _ | refine blk_drew ?_ | refine blk_alloc ?_ _)); exact BK271.out)) : gb285 ≠ gb271)); clear BK245; clear BK258; clear BK271; clear HB; have BK245 := n0_; have BK258 := n1_; have BK271 := n2_; have HB := n3_; have BK285 := n4_; have GW285 := n5_; have GE285 := n6_; have NB245_285 := n7_; have NB285_245 := n8_; have NB258_285 := n9_; have NB285_258 := n10_; have NB271_285 := n11_; have NB285_271 := n12_; clear n0_ n1_ n2_ n3_ n4_ n5_ n6_ n7_ n8_ n9_ n10_ n11_ n12_; clear hb hbox hg; have hnb43 := NB285_245.out; have hnc43 := NB245_285.out; have hnb44 := NB285_258.out; have hnc44 := NB258_285.out; have hnb45 := NB285_271.out; have hnc45 := NB271_285.out; have hcz46_0 : w42.cell? ⟨gb285, 0, none⟩ = some (.int .u8 0) := (blk_cell BK285.out 0).trans rfl; have hcz46_1 : w42.cell? ⟨gb285, 1, none⟩ = some (.int .u16 0) := (blk_cell BK285.out 1).trans rfl; have hcz46_2 : w42.cell? ⟨gb285, 2, none⟩ = some (.int .u8 0) := (blk_cell BK285.out 2).trans rfl; have hcz46_3 : w42.cell? ⟨gb285, 3, none⟩ = some (.string (⟨#[]⟩ : ByteArray)) := (blk_cell BK285.out 3).trans rfl; have hcz46_4 : w42.cell? ⟨gb285, 4, none⟩ = some (.int .i64 0) := (blk_cell BK285.out 4).trans rfl; have hcz46_5 : w42.cell? ⟨gb285, 5, none⟩ = some (.int .i64 0) := (blk_cell BK285.out 5).trans rfl; have hcz46_6 : w42.cell? ⟨gb285, 6, none⟩ = some (.int .i64 0) := (blk_cell BK285.out 6).trans rfl; have hcz46_7 : w42.cell? ⟨gb285, 7, none⟩ = some (.int .u64 0) := (blk_cell BK285.out 7).trans rfl; have hcz46_8 : w42.cell? ⟨gb285, 8, none⟩ = some (.bool false) := (blk_cell BK285.out 8).trans rfl; have hcz46_9 : w42.cell? ⟨gb285, 9, none⟩ = some (.bool false) := (blk_cell BK285.out 9).trans rfl; have hfz46_0 := blk_frozen BK285.out 0; have hfz46_1 := blk_frozen BK285.out 1; have hfz46_2 := blk_frozen BK285.out 2; have hfz46_3 := blk_frozen BK285.out 3; have hfz46_4 := blk_frozen BK285.out 4; have hfz46_5 := blk_frozen BK285.out 5; have hfz46_6 := blk_frozen BK285.out 6; have hfz46_7 := blk_frozen BK285.out 7; have hfz46_8 := blk_frozen BK285.out 8; have hfz46_9 := blk_frozen BK285.out 9; have hcz47_0 : w42.cell? ⟨gb245, 0, none⟩ = some (.int .u8 x246000_3) := (blk_cell BK245.out 0).trans rfl; have hcz47_1 : w42.cell? ⟨gb245, 1, none⟩ = some (.int .u16 x246001_3) := (blk_cell BK245.out 1).trans rfl; have hcz47_2 : w42.cell? ⟨gb245, 2, none⟩ = some (.int .u8 x246002_3) := (blk_cell BK245.out 2).trans rfl; have hcz47_3 : w42.cell? ⟨gb245, 3, none⟩ = some (.string x246003_3) := (blk_cell BK245.out 3).trans rfl; have hcz47_4 : w42.cell? ⟨gb245, 4, none⟩ = some (.int .i64 x246004_3) := (blk_cell BK245.out 4).trans rfl; have hcz47_5 : w42.cell? ⟨gb245, 5, none⟩ = some (.int .i64 x246005_3) := (blk_cell BK245.out 5).trans rfl; have hcz47_6 : w42.cell? ⟨gb245, 6, none⟩ = some (.int .i64 x246006_3) := (blk_cell BK245.out 6).trans rfl; have hcz47_7 : w42.cell? ⟨gb245, 7, none⟩ = some (.int .u64 x246007_3) := (blk_cell BK245.out 7).trans rfl; have hcz47_8 : w42.cell? ⟨gb245, 8, none⟩ = some (.bool x246008_3) := (blk_cell BK245.out 8).trans rfl; have hcz47_9 : w42.cell? ⟨gb245, 9, none⟩ = some (.bool x246009_3) := (blk_cell BK245.out 9).trans rfl; have hfz47_0 := blk_frozen BK245.out 0; have hfz47_1 := blk_frozen BK245.out 1; have hfz47_2 := blk_frozen BK245.out 2; have hfz47_3 := blk_frozen BK245.out 3; have hfz47_4 := blk_frozen BK245.out 4; have hfz47_5 := blk_frozen BK245.out 5; have hfz47_6 := blk_frozen BK245.out 6; have hfz47_7 := blk_frozen BK245.out 7; have hfz47_8 := blk_frozen BK245.out 8; have hfz47_9 := blk_frozen BK245.out 9))
             go_roundg k3
             case measure => have := HJ6.out; have := HK2.out; have := HK3.out; omega
             case rel => exact ⟨(wrap64 (x12_3 + 1)), (wrap64 (x69_3 + 1)), (t274), (t275), (t276), (t277), (t278), (t279), (t280), (t281), (t282), (t283), (by first | rfl | (simp; done) | (simp [*]; done)), (by first | rfl | (simp; done) | (simp [*]; done)), H', ⟨by have := HJ6.out; have := HK2.out; have := HK3.out; omega⟩, ⟨by (with_reducible repeat (first | refine blk_drewN ?_ _ | refine blk_drew ?_ | refine blk_alloc ?_ _)); refine blk_put (cs := #[.int .u8 t274, .int .u16 t275, .int .u8 t276, .string t277, .int .i64 t278, .int .i64 t279, .int .i64 t280, .int .u64 t281, .bool t282, .bool x246009_3]) ?_ 9 _ rfl; (with_reducible repeat (first | refine blk_drewN ?_ _ | refine blk_drew ?_ | refine blk_alloc ?_ _)); refine blk_put (cs := #[.int .u8 t274, .int .u16 t275, .int .u8 t276, .string t277, .int .i64 t278, .int .i64 t279, .int .i64 t280, .int .u64 t281, .bool x246008_3, .bool x246009_3]) ?_ 8 _ rfl; (with_reducible repeat (first | refine blk_drewN ?_ _ | refine blk_drew ?_ | refine blk_alloc ?_ _)); refine blk_put (cs := #[.int .u8 t274, .int .u16 t275, .int .u8 t276, .string t277, .int .i64 t278, .int .i64 t279, .int .i64 t280, .int .u64 x246007_3, .bool x246008_3, .bool x246009_3]) ?_ 7 _ rfl; (with_reducible repeat (first | refine blk_drewN ?_ _ | refine blk_drew ?_ | refine blk_alloc ?_ _)); refine blk_put (cs := #[.int .u8 t274, .int .u16 t275, .int .u8 t276, .string t277, .int .i64 t278, .int .i64 t279, .int .i64 x246006_3, .int .u64 x246007_3, .bool x246008_3, .bool x246009_3]) ?_ 6 _ rfl; (with_reducible repeat (first | refine blk_drewN ?_ _ | refine blk_drew ?_ | refine blk_alloc ?_ _)); refine blk_put (cs := #[.int .u8 t274, .int .u16 t275, .int .u8 t276, .string t277, .int .i64 t278, .int .i64 x246005_3, .int .i64 x246006_3, .int .u64 x246007_3, .bool x246008_3, .bool x246009_3]) ?_ 5 _ rfl; (with_reducible repeat (first | refine blk_drewN ?_ _ | refine blk_drew ?_ | refine blk_alloc ?_ _)); refine blk_put (cs := #[.int .u8 t274, .int .u16 t275, .int .u8 t276, .string t277, .int .i64 x246004_3, .int .i64 x246005_3, .int .i64 x246006_3, .int .u64 x246007_3, .bool x246008_3, .bool x246009_3]) ?_ 4 _ rfl; (with_reducible repeat (first | refine blk_drewN ?_ _ | refine blk_drew ?_ | refine blk_alloc ?_ _)); refine blk_put (cs := #[.int .u8 t274, .int .u16 t275, .int .u8 t276, .string x246003_3, .int .i64 x246004_3, .int .i64 x246005_3, .int .i64 x246006_3, .int .u64 x246007_3, .bool x246008_3, .bool x246009_3]) ?_ 3 _ rfl; (with_reducible repeat (first | refine blk_drewN ?_ _ | refine blk_drew ?_ | refine blk_alloc ?_ _)); refine blk_put (cs := #[.int .u8 t274, .int .u16 t275, .int .u8 x246002_3, .string x246003_3, .int .i64 x246004_3, .int .i64 x246005_3, .int .i64 x246006_3, .int .u64 x246007_3, .bool x246008_3, .bool x246009_3]) ?_ 2 _ rfl; (with_reducible repeat (first | refine blk_drewN ?_ _ | refine blk_drew ?_ | refine blk_alloc ?_ _)); refine blk_put (cs := #[.int .u8 t274, .int .u16 x246001_3, .int .u8 x246002_3, .string x246003_3, .int .i64 x246004_3, .int .i64 x246005_3, .int .i64 x246006_3, .int .u64 x246007_3, .bool x246008_3, .bool x246009_3]) ?_ 1 _ rfl; (with_reducible repeat (first | refine blk_drewN ?_ _ | refine blk_drew ?_ | refine blk_alloc ?_ _)); refine blk_put (cs := #[.int .u8 x246000_3, .int .u16 x246001_3, .int .u8 x246002_3, .string x246003_3, .int .i64 x246004_3, .int .i64 x246005_3, .int .i64 x246006_3, .int .u64 x246007_3, .bool x246008_3, .bool x246009_3]) ?_ 0 _ rfl; (with_reducible repeat (first | refine blk_drewN ?_ _ | refine blk_drew ?_ | refine blk_alloc ?_ _)); refine blk_far ?_ NB245_285.out _; (with_reducible repeat (first | refine blk_drewN ?_ _ | refine blk_drew ?_ | refine blk_alloc ?_ _)); refine blk_far ?_ NB245_285.out _; (with_reducible repeat (first | refine blk_drewN ?_ _ | refine blk_drew ?_ | refine blk_alloc ?_ _)); refine blk_far ?_ NB245_285.out _; (with_reducible repeat (first | refine blk_drewN ?_ _ | refine blk_drew ?_ | refine blk_alloc ?_ _)); refine blk_far ?_ NB245_285.out _; (with_reducible repeat (first | refine blk_drewN ?_ _ | refine blk_drew ?_ | refine blk_alloc ?_ _)); refine blk_far ?_ NB245_285.out _; (with_reducible repeat (first | refine blk_drewN ?_ _ | refine blk_drew ?_ | refine blk_alloc ?_ _)); refine blk_far ?_ NB245_285.out _; (with_reducible repeat (first | refine blk_drewN ?_ _ | refine blk_drew ?_ | refine blk_alloc ?_ _)); refine blk_far ?_ NB245_285.out _; (with_reducible repeat (first | refine blk_drewN ?_ _ | refine blk_drew ?_ | refine blk_alloc ?_ _)); refine blk_far ?_ NB245_285.out _; (with_reducible repeat (first | refine blk_drewN ?_ _ | refine blk_drew ?_ | refine blk_alloc ?_ _)); refine blk_far ?_ NB245_285.out _; (with_reducible repeat (first | refine blk_drewN ?_ _ | refine blk_drew ?_ | refine blk_alloc ?_ _)); refine blk_far ?_ NB245_285.out _; (with_reducible repeat (first | refine blk_drewN ?_ _ | refine blk_drew ?_ | refine blk_alloc ?_ _)); exact BK245.out⟩, ⟨by (with_reducible repeat (first | refine blk_drewN ?_ _ | refine blk_drew ?_ | refine blk_alloc ?_ _)); refine blk_far ?_ NB258_245.out _; (with_reducible repeat (first | refine blk_drewN ?_ _ | refine blk_drew ?_ | refine blk_alloc ?_ _)); refine blk_far ?_ NB258_245.out _; (with_reducible repeat (first | refine blk_drewN ?_ _ | refine blk_drew ?_ | refine blk_alloc ?_ _)); refine blk_far ?_ NB258_245.out _; (with_reducible repeat (first | refine blk_drewN ?_ _ | refine blk_drew ?_ | refine blk_alloc ?_ _)); refine blk_far ?_ NB258_245.out _; (with_reducible repeat (first | refine blk_drewN ?_ _ | refine blk_drew ?_ | refine blk_alloc ?_ _)); refine blk_far ?_ NB258_245.out _; (with_reducible repeat (first | refine blk_drewN ?_ _ | refine blk_drew ?_ | refine blk_alloc ?_ _)); refine blk_far ?_ NB258_245.out _; (with_reducible repeat (first | refine blk_drewN ?_ _ | refine blk_drew ?_ | refine blk_alloc ?_ _)); refine blk_far ?_ NB258_245.out _; (with_reducible repeat (first | refine blk_drewN ?_ _ | refine blk_drew ?_ | refine blk_alloc ?_ _)); refine blk_far ?_ NB258_245.out _; (with_reducible repeat (first | refine blk_drewN ?_ _ | refine blk_drew ?_ | refine blk_alloc ?_ _)); refine blk_far ?_ NB258_245.out _; (with_reducible repeat (first | refine blk_drewN ?_ _ | refine blk_drew ?_ | refine blk_alloc ?_ _)); refine blk_far ?_ NB258_245.out _; (with_reducible repeat (first | refine blk_drewN ?_ _ | refine blk_drew ?_ | refine blk_alloc ?_ _)); refine blk_far ?_ NB258_285.out _; (with_reducible repeat (first | refine blk_drewN ?_ _ | refine blk_drew ?_ | refine blk_alloc ?_ _)); refine blk_far ?_ NB258_285.out _; (with_reducible repeat (first | refine blk_drewN ?_ _ | refine blk_drew ?_ | refine blk_alloc ?_ _)); refine blk_far ?_ NB258_285.out _; (with_reducible repeat (first | refine blk_drewN ?_ _ | refine blk_drew ?_ | refine blk_alloc ?_ _)); refine blk_far ?_ NB258_285.out _; (with_reducible repeat (first | refine blk_drewN ?_ _ | refine blk_drew ?_ | refine blk_alloc ?_ _)); refine blk_far ?_ NB258_285.out _; (with_reducible repeat (first | refine blk_drewN ?_ _ | refine blk_drew ?_ | refine blk_alloc ?_ _)); refine blk_far ?_ NB258_285.out _; (with_reducible repeat (first | refine blk_drewN ?_ _ | refine blk_drew ?_ | refine blk_alloc ?_ _)); refine blk_far ?_ NB258_285.out _; (with_reducible repeat (first | refine blk_drewN ?_ _ | refine blk_drew ?_ | refine blk_alloc ?_ _)); refine blk_far ?_ NB258_285.out _; (with_reducible repeat (first | refine blk_drewN ?_ _ | refine blk_drew ?_ | refine blk_alloc ?_ _)); refine blk_far ?_ NB258_285.out _; (with_reducible repeat (first | refine blk_drewN ?_ _ | refine blk_drew ?_ | refine blk_alloc ?_ _)); refine blk_far ?_ NB258_285.out _; (with_reducible repeat (first | refine blk_drewN ?_ _ | refine blk_drew ?_ | refine blk_alloc ?_ _)); exact BK258.out⟩, ⟨by (with_reducible repeat (first | refine blk_drewN ?_ _ | refine blk_drew ?_ | refine blk_alloc ?_ _)); refine blk_far ?_ NB271_245.out _; (with_reducible repeat (first | refine blk_drewN ?_ _ | refine blk_drew ?_ | refine blk_alloc ?_ _)); refine blk_far ?_ NB271_245.out _; (with_reducible repeat (first | refine blk_drewN ?_ _ | refine blk_drew ?_ | refine blk_alloc ?_ _)); refine blk_far ?_ NB271_245.out _; (with_reducible repeat (first | refine blk_drewN ?_ _ | refine blk_drew ?_ | refine blk_alloc ?_ _)); refine blk_far ?_ NB271_245.out _; (with_reducible repeat (first | refine blk_drewN ?_ _ | refine blk_drew ?_ | refine blk_alloc ?_ _)); refine blk_far ?_ NB271_245.out _; (with_reducible repeat (first | refine blk_drewN ?_ _ | refine blk_drew ?_ | refine blk_alloc ?_ _)); refine blk_far ?_ NB271_245.out _; (with_reducible repeat (first | refine blk_drewN ?_ _ | refine blk_drew ?_ | refine blk_alloc ?_ _)); refine blk_far ?_ NB271_245.out _; (with_reducible repeat (first | refine blk_drewN ?_ _ | refine blk_drew ?_ | refine blk_alloc ?_ _)); refine blk_far ?_ NB271_245.out _; (with_reducible repeat (first | refine blk_drewN ?_ _ | refine blk_drew ?_ | refine blk_alloc ?_ _)); refine blk_far ?_ NB271_245.out _; (with_reducible repeat (first | refine blk_drewN ?_ _ | refine blk_drew ?_ | refine blk_alloc ?_ _)); refine blk_far ?_ NB271_245.out _; (with_reducible repeat (first | refine blk_drewN ?_ _ | refine blk_drew ?_ | refine blk_alloc ?_ _)); refine blk_far ?_ NB271_285.out _; (with_reducible repeat (first | refine blk_drewN ?_ _ | refine blk_drew ?_ | refine blk_alloc ?_ _)); refine blk_far ?_ NB271_285.out _; (with_reducible repeat (first | refine blk_drewN ?_ _ | refine blk_drew ?_ | refine blk_alloc ?_ _)); refine blk_far ?_ NB271_285.out _; (with_reducible repeat (first | refine blk_drewN ?_ _ | refine blk_drew ?_ | refine blk_alloc ?_ _)); refine blk_far ?_ NB271_285.out _; (with_reducible repeat (first | refine blk_drewN ?_ _ | refine blk_drew ?_ | refine blk_alloc ?_ _)); refine blk_far ?_ NB271_285.out _; (with_reducible repeat (first | refine blk_drewN ?_ _ | refine blk_drew ?_ | refine blk_alloc ?_ _)); refine blk_far ?_ NB271_285.out _; (with_reducible repeat (first | refine blk_drewN ?_ _ | refine blk_drew ?_ | refine blk_alloc ?_ _)); refine blk_far ?_ NB271_285.out _; (with_reducible repeat (first | refine blk_drewN ?_ _ | refine blk_drew ?_ | refine blk_alloc ?_ _)); refine blk_far ?_ NB271_285.out _; (with_reducible repeat (first | refine blk_drewN ?_ _ | refine blk_drew ?_ | refine blk_alloc ?_ _)); refine blk_far ?_ NB271_285.out _; (with_reducible repeat (first | refine blk_drewN ?_ _ | refine blk_drew ?_ | refine blk_alloc ?_ _)); refine blk_far ?_ NB271_285.out _; (with_reducible repeat (first | refine blk_drewN ?_ _ | refine blk_drew ?_ | refine blk_alloc ?_ _)); exact BK271.out⟩, ⟨by repeat (first | (with_reducible first | exact HB.out | apply below_alloc | apply pw_below_drewN | apply below_drew1 | refine below_set ?_ GE245.out | refine below_set ?_ GE258.out | refine below_set ?_ GE271.out | refine below_set ?_ GE285.out) | exact HB.out)⟩⟩
           ·
            rw [if_neg c35] at H
            have c35b0 : decide (x69_3 < (wrap64 (Int.tmod (rd l1 x61_2) 300))) = false := decide_eq_false c35
            clear c35
            replace H := Option.bind_eq_some_iff.mp H
            obtain ⟨⟨t286, t287, t288, t289, t290, t291, t292, t293, t294, t295, t296⟩, A480, H⟩ := H
            try dsimp only at H
            have A48 := Aside0.mk A480
            clear A480
            have HC49 := Aside0.mk H
            clear H
            have hnb50 := NB245_258.out
            have hnc50 := NB258_245.out
            have hnb51 := NB245_271.out
            have hnc51 := NB271_245.out
            have hcz52_0 : wr.cell? ⟨gb245, 0, none⟩ = some (.int .u8 x246000_3) := (blk_cell BK245.out 0).trans rfl
            have hcz52_1 : wr.cell? ⟨gb245, 1, none⟩ = some (.int .u16 x246001_3) := (blk_cell BK245.out 1).trans rfl
            have hcz52_2 : wr.cell? ⟨gb245, 2, none⟩ = some (.int .u8 x246002_3) := (blk_cell BK245.out 2).trans rfl
            have hcz52_3 : wr.cell? ⟨gb245, 3, none⟩ = some (.string x246003_3) := (blk_cell BK245.out 3).trans rfl
            have hcz52_4 : wr.cell? ⟨gb245, 4, none⟩ = some (.int .i64 x246004_3) := (blk_cell BK245.out 4).trans rfl
            have hcz52_5 : wr.cell? ⟨gb245, 5, none⟩ = some (.int .i64 x246005_3) := (blk_cell BK245.out 5).trans rfl
            have hcz52_6 : wr.cell? ⟨gb245, 6, none⟩ = some (.int .i64 x246006_3) := (blk_cell BK245.out 6).trans rfl
            have hcz52_7 : wr.cell? ⟨gb245, 7, none⟩ = some (.int .u64 x246007_3) := (blk_cell BK245.out 7).trans rfl
            have hcz52_8 : wr.cell? ⟨gb245, 8, none⟩ = some (.bool x246008_3) := (blk_cell BK245.out 8).trans rfl
            have hcz52_9 : wr.cell? ⟨gb245, 9, none⟩ = some (.bool x246009_3) := (blk_cell BK245.out 9).trans rfl
            have hfz52_0 := blk_frozen BK245.out 0
            have hfz52_1 := blk_frozen BK245.out 1
            have hfz52_2 := blk_frozen BK245.out 2
            have hfz52_3 := blk_frozen BK245.out 3
            have hfz52_4 := blk_frozen BK245.out 4
            have hfz52_5 := blk_frozen BK245.out 5
            have hfz52_6 := blk_frozen BK245.out 6
            have hfz52_7 := blk_frozen BK245.out 7
            have hfz52_8 := blk_frozen BK245.out 8
            have hfz52_9 := blk_frozen BK245.out 9
            go_upto_region 21 with (first | ((with_reducible refine gate_callee (f := 33) rfl ?_); refine goesL_ (some 96) rfl rfl Try.func33 (by kernel_rfl) rfl #[.agg #[.int .u8 x246000_3, .int .u16 x246001_3, .int .u8 x246002_3, .string x246003_3, .int .i64 x246004_3, .int .i64 x246005_3, .int .i64 x246006_3, .int .u64 x246007_3, .bool x246008_3, .bool x246009_3], .int .i64 x12_3, .string t270] rfl (by (try simp only [List.map_toArray, List.map_cons, List.map_nil]); first | done | rfl | (simp only [List.length_drop, List.length_take]; rfl)) ?_; (with_reducible refine (watch_Watch_Hear.calls k3 x246000_3 x246001_3 x246002_3 x246003_3 x246004_3 x246005_3 x246006_3 x246007_3 x246008_3 x246009_3 x12_3 t270 t286 t287 t288 t289 t290 t291 t292 t293 t294 t295 t296 _ A48.out).mono ?_); rintro e w53 ⟨rfl, hb⟩; refine ⟨_, rfl, ?_⟩; have n0_ := Aside0.mk (blk_below (g := gb245) (o := .cells #[.int .u8 x246000_3, .int .u16 x246001_3, .int .u8 x246002_3, .string x246003_3, .int .i64 x246004_3, .int .i64 x246005_3, .int .i64 x246006_3, .int .u64 x246007_3, .bool x246008_3, .bool x246009_3] 59 (0, 0)) (by (with_reducible repeat (first | refine blk_drewN ?_ _ | refine blk_drew ?_ | refine blk_alloc ?_ _)); exact BK245.out) hb); have n1_ := Aside0.mk (blk_below (g := gb258) (o := .cells #[.int .u8 t247, .int .u16 t248, .int .u8 t249, .string t250, .int .i64 t251, .int .i64 t252, .int .i64 t253, .int .u64 t254, .bool t255, .bool t256] 59 (0, 0)) (by (with_reducible repeat (first | refine blk_drewN ?_ _ | refine blk_drew ?_ | refine blk_alloc ?_ _)); exact BK258.out) hb); have n2_ := Aside0.mk (blk_below (g := gb271) (o := .cells #[.int .u8 t260, .int .u16 t261, .int .u8 t262, .string t263, .int .i64 t264, .int .i64 t265, .int .i64 t266, .int .u64 t267, .bool t268, .bool t269] 59 (0, 0)) (by (with_reducible repeat (first | refine blk_drewN ?_ _ | refine blk_drew ?_ | refine blk_alloc ?_ _)); exact BK271.out) hb); have n3_ := Aside0.mk (below_step (by repeat (first | (with_reducible first | exact HB.out | apply below_alloc | apply pw_below_drewN | apply below_drew1 | refine below_set ?_ GE245.out | refine below_set ?_ GE258.out | refine below_set ?_ GE271.out) | exact HB.out)) hb); clear BK245; clear BK258; clear BK271; clear HB; have BK245 := n0_; have BK258 := n1_; have BK271 := n2_; have HB := n3_; clear n0_ n1_ n2_ n3_; (try clear hb); (try clear hb2); (try clear hk); (try clear hi); have hcz54_0 : w53.cell? ⟨gb245, 0, none⟩ = some (.int .u8 x246000_3) := (blk_cell BK245.out 0).trans rfl; have hcz54_1 : w53.cell? ⟨gb245, 1, none⟩ = some (.int .u16 x246001_3) := (blk_cell BK245.out 1).trans rfl; have hcz54_2 : w53.cell? ⟨gb245, 2, none⟩ = some (.int .u8 x246002_3) := (blk_cell BK245.out 2).trans rfl; have hcz54_3 : w53.cell? ⟨gb245, 3, none⟩ = some (.string x246003_3) := (blk_cell BK245.out 3).trans rfl; have hcz54_4 : w53.cell? ⟨gb245, 4, none⟩ = some (.int .i64 x246004_3) := (blk_cell BK245.out 4).trans rfl; have hcz54_5 : w53.cell? ⟨gb245, 5, none⟩ = some (.int .i64 x246005_3) := (blk_cell BK245.out 5).trans rfl; have hcz54_6 : w53.cell? ⟨gb245, 6, none⟩ = some (.int .i64 x246006_3) := (blk_cell BK245.out 6).trans rfl; have hcz54_7 : w53.cell? ⟨gb245, 7, none⟩ = some (.int .u64 x246007_3) := (blk_cell BK245.out 7).trans rfl; have hcz54_8 : w53.cell? ⟨gb245, 8, none⟩ = some (.bool x246008_3) := (blk_cell BK245.out 8).trans rfl; have hcz54_9 : w53.cell? ⟨gb245, 9, none⟩ = some (.bool x246009_3) := (blk_cell BK245.out 9).trans rfl; have hfz54_0 := blk_frozen BK245.out 0; have hfz54_1 := blk_frozen BK245.out 1; have hfz54_2 := blk_frozen BK245.out 2; have hfz54_3 := blk_frozen BK245.out 3; have hfz54_4 := blk_frozen BK245.out 4; have hfz54_5 := blk_frozen BK245.out 5; have hfz54_6 := blk_frozen BK245.out 6; have hfz54_7 := blk_frozen BK245.out 7; have hfz54_8 := blk_frozen BK245.out 8; have hfz54_9 := blk_frozen BK245.out 9))
            (try simp only [Act.put, List.setIfInBounds_toArray, List.set_cons_zero, List.set_cons_succ])
            go_cut [110] (fun v110 wc => ∃ (kq : Nat) (x110_48 : Bool), v110 = .bool x110_48 ∧ Aside0 (carousellaw09_WatchLoses.j3 kq (wrap64 ((wrap64 (Int.tmod a0 50)) + 1)) t270 x12_3 l1 (l1.length : Int) x61_2 x110_48 t286 t287 t288 t289 t290 t291 t292 t293 t294 t295 = some r) ∧ Aside0 (kq ≤ k3) ∧ Aside0 (wc.heap[gb245]? = some (.cells #[.int .u8 t286, .int .u16 t287, .int .u8 t288, .string t289, .int .i64 t290, .int .i64 t291, .int .i64 t292, .int .u64 t293, .bool t294, .bool t295] 59 (0, 0))) ∧ Aside0 (wc.heap[gb258]? = some (.cells #[.int .u8 t247, .int .u16 t248, .int .u8 t249, .string t250, .int .i64 t251, .int .i64 t252, .int .i64 t253, .int .u64 t254, .bool t255, .bool t256] 59 (0, 0))) ∧ Aside0 (wc.heap[gb271]? = some (.cells #[.int .u8 t260, .int .u16 t261, .int .u8 t262, .string t263, .int .i64 t264, .int .i64 t265, .int .i64 t266, .int .u64 t267, .bool t268, .bool t269] 59 (0, 0))) ∧ Aside0 (Below w.heap.size w wc))
            case first =>
             have H := HC49.out
             clear HC49
             by_cases c55 : t296 = 0
             ·
              rw [if_pos c55] at H
              have c55b0 : (t296 == 0) = true := beq_iff_eq.mpr c55
              have c55b1 : (t296 != 0) = false := bne_eq_false_iff_eq.mpr c55
              clear c55
              (first | rw [c55b0] | (simp only [i64_w, i32_w]; rw [c55b0]) | skip)
              by_cases c56 : t294 = true
              ·
               subst c56
               have H1 : (carousellaw09_WatchLoses.j3 k3 (wrap64 ((wrap64 (Int.tmod a0 50)) + 1)) t270 x12_3 l1 (l1.length : Int) x61_2 true t286 t287 t288 t289 t290 t291 t292 t293 true t295) = some r := by rw [if_pos rfl] at H; exact H
               clear H
               have H := H1
               clear H1
               have H' := Aside0.mk H
               clear H
               have hnb57 := NB245_258.out
               have hnc57 := NB258_245.out
               have hnb58 := NB245_271.out
               have hnc58 := NB271_245.out
               have hcz59_0 : w53.cell? ⟨gb245, 0, none⟩ = some (.int .u8 x246000_3) := (blk_cell BK245.out 0).trans rfl
               have hcz59_1 : w53.cell? ⟨gb245, 1, none⟩ = some (.int .u16 x246001_3) := (blk_cell BK245.out 1).trans rfl
               have hcz59_2 : w53.cell? ⟨gb245, 2, none⟩ = some (.int .u8 x246002_3) := (blk_cell BK245.out 2).trans rfl
               have hcz59_3 : w53.cell? ⟨gb245, 3, none⟩ = some (.string x246003_3) := (blk_cell BK245.out 3).trans rfl
               have hcz59_4 : w53.cell? ⟨gb245, 4, none⟩ = some (.int .i64 x246004_3) := (blk_cell BK245.out 4).trans rfl
               have hcz59_5 : w53.cell? ⟨gb245, 5, none⟩ = some (.int .i64 x246005_3) := (blk_cell BK245.out 5).trans rfl
               have hcz59_6 : w53.cell? ⟨gb245, 6, none⟩ = some (.int .i64 x246006_3) := (blk_cell BK245.out 6).trans rfl
               have hcz59_7 : w53.cell? ⟨gb245, 7, none⟩ = some (.int .u64 x246007_3) := (blk_cell BK245.out 7).trans rfl
               have hcz59_8 : w53.cell? ⟨gb245, 8, none⟩ = some (.bool x246008_3) := (blk_cell BK245.out 8).trans rfl
               have hcz59_9 : w53.cell? ⟨gb245, 9, none⟩ = some (.bool x246009_3) := (blk_cell BK245.out 9).trans rfl
               have hfz59_0 := blk_frozen BK245.out 0
               have hfz59_1 := blk_frozen BK245.out 1
               have hfz59_2 := blk_frozen BK245.out 2
               have hfz59_3 := blk_frozen BK245.out 3
               have hfz59_4 := blk_frozen BK245.out 4
               have hfz59_5 := blk_frozen BK245.out 5
               have hfz59_6 := blk_frozen BK245.out 6
               have hfz59_7 := blk_frozen BK245.out 7
               have hfz59_8 := blk_frozen BK245.out 8
               have hfz59_9 := blk_frozen BK245.out 9
               go_wp2
               go_meet
               case rel => exact ⟨_, (true), (by first | rfl | (simp; done) | (simp [*]; done)), H', ⟨by have := HJ6.out; have := HK2.out; have := HK3.out; first | omega | exact Nat.le_refl _⟩, ⟨by (with_reducible repeat (first | refine blk_drewN ?_ _ | refine blk_drew ?_ | refine blk_alloc ?_ _)); refine blk_put (cs := #[.int .u8 t286, .int .u16 t287, .int .u8 t288, .string t289, .int .i64 t290, .int .i64 t291, .int .i64 t292, .int .u64 t293, .bool true, .bool x246009_3]) ?_ 9 _ rfl; (with_reducible repeat (first | refine blk_drewN ?_ _ | refine blk_drew ?_ | refine blk_alloc ?_ _)); refine blk_put (cs := #[.int .u8 t286, .int .u16 t287, .int .u8 t288, .string t289, .int .i64 t290, .int .i64 t291, .int .i64 t292, .int .u64 t293, .bool x246008_3, .bool x246009_3]) ?_ 8 _ rfl; (with_reducible repeat (first | refine blk_drewN ?_ _ | refine blk_drew ?_ | refine blk_alloc ?_ _)); refine blk_put (cs := #[.int .u8 t286, .int .u16 t287, .int .u8 t288, .string t289, .int .i64 t290, .int .i64 t291, .int .i64 t292, .int .u64 x246007_3, .bool x246008_3, .bool x246009_3]) ?_ 7 _ rfl; (with_reducible repeat (first | refine blk_drewN ?_ _ | refine blk_drew ?_ | refine blk_alloc ?_ _)); refine blk_put (cs := #[.int .u8 t286, .int .u16 t287, .int .u8 t288, .string t289, .int .i64 t290, .int .i64 t291, .int .i64 x246006_3, .int .u64 x246007_3, .bool x246008_3, .bool x246009_3]) ?_ 6 _ rfl; (with_reducible repeat (first | refine blk_drewN ?_ _ | refine blk_drew ?_ | refine blk_alloc ?_ _)); refine blk_put (cs := #[.int .u8 t286, .int .u16 t287, .int .u8 t288, .string t289, .int .i64 t290, .int .i64 x246005_3, .int .i64 x246006_3, .int .u64 x246007_3, .bool x246008_3, .bool x246009_3]) ?_ 5 _ rfl; (with_reducible repeat (first | refine blk_drewN ?_ _ | refine blk_drew ?_ | refine blk_alloc ?_ _)); refine blk_put (cs := #[.int .u8 t286, .int .u16 t287, .int .u8 t288, .string t289, .int .i64 x246004_3, .int .i64 x246005_3, .int .i64 x246006_3, .int .u64 x246007_3, .bool x246008_3, .bool x246009_3]) ?_ 4 _ rfl; (with_reducible repeat (first | refine blk_drewN ?_ _ | refine blk_drew ?_ | refine blk_alloc ?_ _)); refine blk_put (cs := #[.int .u8 t286, .int .u16 t287, .int .u8 t288, .string x246003_3, .int .i64 x246004_3, .int .i64 x246005_3, .int .i64 x246006_3, .int .u64 x246007_3, .bool x246008_3, .bool x246009_3]) ?_ 3 _ rfl; (with_reducible repeat (first | refine blk_drewN ?_ _ | refine blk_drew ?_ | refine blk_alloc ?_ _)); refine blk_put (cs := #[.int .u8 t286, .int .u16 t287, .int .u8 x246002_3, .string x246003_3, .int .i64 x246004_3, .int .i64 x246005_3, .int .i64 x246006_3, .int .u64 x246007_3, .bool x246008_3, .bool x246009_3]) ?_ 2 _ rfl; (with_reducible repeat (first | refine blk_drewN ?_ _ | refine blk_drew ?_ | refine blk_alloc ?_ _)); refine blk_put (cs := #[.int .u8 t286, .int .u16 x246001_3, .int .u8 x246002_3, .string x246003_3, .int .i64 x246004_3, .int .i64 x246005_3, .int .i64 x246006_3, .int .u64 x246007_3, .bool x246008_3, .bool x246009_3]) ?_ 1 _ rfl; (with_reducible repeat (first | refine blk_drewN ?_ _ | refine blk_drew ?_ | refine blk_alloc ?_ _)); refine blk_put (cs := #[.int .u8 x246000_3, .int .u16 x246001_3, .int .u8 x246002_3, .string x246003_3, .int .i64 x246004_3, .int .i64 x246005_3, .int .i64 x246006_3, .int .u64 x246007_3, .bool x246008_3, .bool x246009_3]) ?_ 0 _ rfl; (with_reducible repeat (first | refine blk_drewN ?_ _ | refine blk_drew ?_ | refine blk_alloc ?_ _)); exact BK245.out⟩, ⟨by (with_reducible repeat (first | refine blk_drewN ?_ _ | refine blk_drew ?_ | refine blk_alloc ?_ _)); refine blk_far ?_ NB258_245.out _; (with_reducible repeat (first | refine blk_drewN ?_ _ | refine blk_drew ?_ | refine blk_alloc ?_ _)); refine blk_far ?_ NB258_245.out _; (with_reducible repeat (first | refine blk_drewN ?_ _ | refine blk_drew ?_ | refine blk_alloc ?_ _)); refine blk_far ?_ NB258_245.out _; (with_reducible repeat (first | refine blk_drewN ?_ _ | refine blk_drew ?_ | refine blk_alloc ?_ _)); refine blk_far ?_ NB258_245.out _; (with_reducible repeat (first | refine blk_drewN ?_ _ | refine blk_drew ?_ | refine blk_alloc ?_ _)); refine blk_far ?_ NB258_245.out _; (with_reducible repeat (first | refine blk_drewN ?_ _ | refine blk_drew ?_ | refine blk_alloc ?_ _)); refine blk_far ?_ NB258_245.out _; (with_reducible repeat (first | refine blk_drewN ?_ _ | refine blk_drew ?_ | refine blk_alloc ?_ _)); refine blk_far ?_ NB258_245.out _; (with_reducible repeat (first | refine blk_drewN ?_ _ | refine blk_drew ?_ | refine blk_alloc ?_ _)); refine blk_far ?_ NB258_245.out _; (with_reducible repeat (first | refine blk_drewN ?_ _ | refine blk_drew ?_ | refine blk_alloc ?_ _)); refine blk_far ?_ NB258_245.out _; (with_reducible repeat (first | refine blk_drewN ?_ _ | refine blk_drew ?_ | refine blk_alloc ?_ _)); refine blk_far ?_ NB258_245.out _; (with_reducible repeat (first | refine blk_drewN ?_ _ | refine blk_drew ?_ | refine blk_alloc ?_ _)); exact BK258.out⟩, ⟨by (with_reducible repeat (first | refine blk_drewN ?_ _ | refine blk_drew ?_ | refine blk_alloc ?_ _)); refine blk_far ?_ NB271_245.out _; (with_reducible repeat (first | refine blk_drewN ?_ _ | refine blk_drew ?_ | refine blk_alloc ?_ _)); refine blk_far ?_ NB271_245.out _; (with_reducible repeat (first | refine blk_drewN ?_ _ | refine blk_drew ?_ | refine blk_alloc ?_ _)); refine blk_far ?_ NB271_245.out _; (with_reducible repeat (first | refine blk_drewN ?_ _ | refine blk_drew ?_ | refine blk_alloc ?_ _)); refine blk_far ?_ NB271_245.out _; (with_reducible repeat (first | refine blk_drewN ?_ _ | refine blk_drew ?_ | refine blk_alloc ?_ _)); refine blk_far ?_ NB271_245.out _; (with_reducible repeat (first | refine blk_drewN ?_ _ | refine blk_drew ?_ | refine blk_alloc ?_ _)); refine blk_far ?_ NB271_245.out _; (with_reducible repeat (first | refine blk_drewN ?_ _ | refine blk_drew ?_ | refine blk_alloc ?_ _)); refine blk_far ?_ NB271_245.out _; (with_reducible repeat (first | refine blk_drewN ?_ _ | refine blk_drew ?_ | refine blk_alloc ?_ _)); refine blk_far ?_ NB271_245.out _; (with_reducible repeat (first | refine blk_drewN ?_ _ | refine blk_drew ?_ | refine blk_alloc ?_ _)); refine blk_far ?_ NB271_245.out _; (with_reducible repeat (first | refine blk_drewN ?_ _ | refine blk_drew ?_ | refine blk_alloc ?_ _)); refine blk_far ?_ NB271_245.out _; (with_reducible repeat (first | refine blk_drewN ?_ _ | refine blk_drew ?_ | refine blk_alloc ?_ _)); exact BK271.out⟩, ⟨by repeat (first | (with_reducible first | exact HB.out | apply below_alloc | apply pw_below_drewN | apply below_drew1 | refine below_set ?_ GE245.out | refine below_set ?_ GE258.out | refine below_set ?_ GE271.out) | exact HB.out)⟩⟩
              ·
               replace c56 := Bool.eq_false_iff.mpr c56
               subst c56
               have H1 : (carousellaw09_WatchLoses.j3 k3 (wrap64 ((wrap64 (Int.tmod a0 50)) + 1)) t270 x12_3 l1 (l1.length : Int) x61_2 (t291 != x12_3) t286 t287 t288 t289 t290 t291 t292 t293 false t295) = some r := by rw [if_neg (show ¬ (false = true) by decide)] at H; exact H
               clear H
               have H := H1
               clear H1
               have H' := Aside0.mk H
               clear H
               have hnb60 := NB245_258.out
               have hnc60 := NB258_245.out
               have hnb61 := NB245_271.out
               have hnc61 := NB271_245.out
               have hcz62_0 : w53.cell? ⟨gb245, 0, none⟩ = some (.int .u8 x246000_3) := (blk_cell BK245.out 0).trans rfl
               have hcz62_1 : w53.cell? ⟨gb245, 1, none⟩ = some (.int .u16 x246001_3) := (blk_cell BK245.out 1).trans rfl
               have hcz62_2 : w53.cell? ⟨gb245, 2, none⟩ = some (.int .u8 x246002_3) := (blk_cell BK245.out 2).trans rfl
               have hcz62_3 : w53.cell? ⟨gb245, 3, none⟩ = some (.string x246003_3) := (blk_cell BK245.out 3).trans rfl
               have hcz62_4 : w53.cell? ⟨gb245, 4, none⟩ = some (.int .i64 x246004_3) := (blk_cell BK245.out 4).trans rfl
               have hcz62_5 : w53.cell? ⟨gb245, 5, none⟩ = some (.int .i64 x246005_3) := (blk_cell BK245.out 5).trans rfl
               have hcz62_6 : w53.cell? ⟨gb245, 6, none⟩ = some (.int .i64 x246006_3) := (blk_cell BK245.out 6).trans rfl
               have hcz62_7 : w53.cell? ⟨gb245, 7, none⟩ = some (.int .u64 x246007_3) := (blk_cell BK245.out 7).trans rfl
               have hcz62_8 : w53.cell? ⟨gb245, 8, none⟩ = some (.bool x246008_3) := (blk_cell BK245.out 8).trans rfl
               have hcz62_9 : w53.cell? ⟨gb245, 9, none⟩ = some (.bool x246009_3) := (blk_cell BK245.out 9).trans rfl
               have hfz62_0 := blk_frozen BK245.out 0
               have hfz62_1 := blk_frozen BK245.out 1
               have hfz62_2 := blk_frozen BK245.out 2
               have hfz62_3 := blk_frozen BK245.out 3
               have hfz62_4 := blk_frozen BK245.out 4
               have hfz62_5 := blk_frozen BK245.out 5
               have hfz62_6 := blk_frozen BK245.out 6
               have hfz62_7 := blk_frozen BK245.out 7
               have hfz62_8 := blk_frozen BK245.out 8
               have hfz62_9 := blk_frozen BK245.out 9
               go_wp2
               go_meet
               case rel => exact ⟨_, ((t291 != x12_3)), (by first | rfl | (simp; done) | (simp [*]; done)), H', ⟨by have := HJ6.out; have := HK2.out; have := HK3.out; first | omega | exact Nat.le_refl _⟩, ⟨by (with_reducible repeat (first | refine blk_drewN ?_ _ | refine blk_drew ?_ | refine blk_alloc ?_ _)); refine blk_put (cs := #[.int .u8 t286, .int .u16 t287, .int .u8 t288, .string t289, .int .i64 t290, .int .i64 t291, .int .i64 t292, .int .u64 t293, .bool false, .bool x246009_3]) ?_ 9 _ rfl; (with_reducible repeat (first | refine blk_drewN ?_ _ | refine blk_drew ?_ | refine blk_alloc ?_ _)); refine blk_put (cs := #[.int .u8 t286, .int .u16 t287, .int .u8 t288, .string t289, .int .i64 t290, .int .i64 t291, .int .i64 t292, .int .u64 t293, .bool x246008_3, .bool x246009_3]) ?_ 8 _ rfl; (with_reducible repeat (first | refine blk_drewN ?_ _ | refine blk_drew ?_ | refine blk_alloc ?_ _)); refine blk_put (cs := #[.int .u8 t286, .int .u16 t287, .int .u8 t288, .string t289, .int .i64 t290, .int .i64 t291, .int .i64 t292, .int .u64 x246007_3, .bool x246008_3, .bool x246009_3]) ?_ 7 _ rfl; (with_reducible repeat (first | refine blk_drewN ?_ _ | refine blk_drew ?_ | refine blk_alloc ?_ _)); refine blk_put (cs := #[.int .u8 t286, .int .u16 t287, .int .u8 t288, .string t289, .int .i64 t290, .int .i64 t291, .int .i64 x246006_3, .int .u64 x246007_3, .bool x246008_3, .bool x246009_3]) ?_ 6 _ rfl; (with_reducible repeat (first | refine blk_drewN ?_ _ | refine blk_drew ?_ | refine blk_alloc ?_ _)); refine blk_put (cs := #[.int .u8 t286, .int .u16 t287, .int .u8 t288, .string t289, .int .i64 t290, .int .i64 x246005_3, .int .i64 x246006_3, .int .u64 x246007_3, .bool x246008_3, .bool x246009_3]) ?_ 5 _ rfl; (with_reducible repeat (first | refine blk_drewN ?_ _ | refine blk_drew ?_ | refine blk_alloc ?_ _)); refine blk_put (cs := #[.int .u8 t286, .int .u16 t287, .int .u8 t288, .string t289, .int .i64 x246004_3, .int .i64 x246005_3, .int .i64 x246006_3, .int .u64 x246007_3, .bool x246008_3, .bool x246009_3]) ?_ 4 _ rfl; (with_reducible repeat (first | refine blk_drewN ?_ _ | refine blk_drew ?_ | refine blk_alloc ?_ _)); refine blk_put (cs := #[.int .u8 t286, .int .u16 t287, .int .u8 t288, .string x246003_3, .int .i64 x246004_3, .int .i64 x246005_3, .int .i64 x246006_3, .int .u64 x246007_3, .bool x246008_3, .bool x246009_3]) ?_ 3 _ rfl; (with_reducible repeat (first | refine blk_drewN ?_ _ | refine blk_drew ?_ | refine blk_alloc ?_ _)); refine blk_put (cs := #[.int .u8 t286, .int .u16 t287, .int .u8 x246002_3, .string x246003_3, .int .i64 x246004_3, .int .i64 x246005_3, .int .i64 x246006_3, .int .u64 x246007_3, .bool x246008_3, .bool x246009_3]) ?_ 2 _ rfl; (with_reducible repeat (first | refine blk_drewN ?_ _ | refine blk_drew ?_ | refine blk_alloc ?_ _)); refine blk_put (cs := #[.int .u8 t286, .int .u16 x246001_3, .int .u8 x246002_3, .string x246003_3, .int .i64 x246004_3, .int .i64 x246005_3, .int .i64 x246006_3, .int .u64 x246007_3, .bool x246008_3, .bool x246009_3]) ?_ 1 _ rfl; (with_reducible repeat (first | refine blk_drewN ?_ _ | refine blk_drew ?_ | refine blk_alloc ?_ _)); refine blk_put (cs := #[.int .u8 x246000_3, .int .u16 x246001_3, .int .u8 x246002_3, .string x246003_3, .int .i64 x246004_3, .int .i64 x246005_3, .int .i64 x246006_3, .int .u64 x246007_3, .bool x246008_3, .bool x246009_3]) ?_ 0 _ rfl; (with_reducible repeat (first | refine blk_drewN ?_ _ | refine blk_drew ?_ | refine blk_alloc ?_ _)); exact BK245.out⟩, ⟨by (with_reducible repeat (first | refine blk_drewN ?_ _ | refine blk_drew ?_ | refine blk_alloc ?_ _)); refine blk_far ?_ NB258_245.out _; (with_reducible repeat (first | refine blk_drewN ?_ _ | refine blk_drew ?_ | refine blk_alloc ?_ _)); refine blk_far ?_ NB258_245.out _; (with_reducible repeat (first | refine blk_drewN ?_ _ | refine blk_drew ?_ | refine blk_alloc ?_ _)); refine blk_far ?_ NB258_245.out _; (with_reducible repeat (first | refine blk_drewN ?_ _ | refine blk_drew ?_ | refine blk_alloc ?_ _)); refine blk_far ?_ NB258_245.out _; (with_reducible repeat (first | refine blk_drewN ?_ _ | refine blk_drew ?_ | refine blk_alloc ?_ _)); refine blk_far ?_ NB258_245.out _; (with_reducible repeat (first | refine blk_drewN ?_ _ | refine blk_drew ?_ | refine blk_alloc ?_ _)); refine blk_far ?_ NB258_245.out _; (with_reducible repeat (first | refine blk_drewN ?_ _ | refine blk_drew ?_ | refine blk_alloc ?_ _)); refine blk_far ?_ NB258_245.out _; (with_reducible repeat (first | refine blk_drewN ?_ _ | refine blk_drew ?_ | refine blk_alloc ?_ _)); refine blk_far ?_ NB258_245.out _; (with_reducible repeat (first | refine blk_drewN ?_ _ | refine blk_drew ?_ | refine blk_alloc ?_ _)); refine blk_far ?_ NB258_245.out _; (with_reducible repeat (first | refine blk_drewN ?_ _ | refine blk_drew ?_ | refine blk_alloc ?_ _)); refine blk_far ?_ NB258_245.out _; (with_reducible repeat (first | refine blk_drewN ?_ _ | refine blk_drew ?_ | refine blk_alloc ?_ _)); exact BK258.out⟩, ⟨by (with_reducible repeat (first | refine blk_drewN ?_ _ | refine blk_drew ?_ | refine blk_alloc ?_ _)); refine blk_far ?_ NB271_245.out _; (with_reducible repeat (first | refine blk_drewN ?_ _ | refine blk_drew ?_ | refine blk_alloc ?_ _)); refine blk_far ?_ NB271_245.out _; (with_reducible repeat (first | refine blk_drewN ?_ _ | refine blk_drew ?_ | refine blk_alloc ?_ _)); refine blk_far ?_ NB271_245.out _; (with_reducible repeat (first | refine blk_drewN ?_ _ | refine blk_drew ?_ | refine blk_alloc ?_ _)); refine blk_far ?_ NB271_245.out _; (with_reducible repeat (first | refine blk_drewN ?_ _ | refine blk_drew ?_ | refine blk_alloc ?_ _)); refine blk_far ?_ NB271_245.out _; (with_reducible repeat (first | refine blk_drewN ?_ _ | refine blk_drew ?_ | refine blk_alloc ?_ _)); refine blk_far ?_ NB271_245.out _; (with_reducible repeat (first | refine blk_drewN ?_ _ | refine blk_drew ?_ | refine blk_alloc ?_ _)); refine blk_far ?_ NB271_245.out _; (with_reducible repeat (first | refine blk_drewN ?_ _ | refine blk_drew ?_ | refine blk_alloc ?_ _)); refine blk_far ?_ NB271_245.out _; (with_reducible repeat (first | refine blk_drewN ?_ _ | refine blk_drew ?_ | refine blk_alloc ?_ _)); refine blk_far ?_ NB271_245.out _; (with_reducible repeat (first | refine blk_drewN ?_ _ | refine blk_drew ?_ | refine blk_alloc ?_ _)); refine blk_far ?_ NB271_245.out _; (with_reducible repeat (first | refine blk_drewN ?_ _ | refine blk_drew ?_ | refine blk_alloc ?_ _)); exact BK271.out⟩, ⟨by repeat (first | (with_reducible first | exact HB.out | apply below_alloc | apply pw_below_drewN | apply below_drew1 | refine below_set ?_ GE245.out | refine below_set ?_ GE258.out | refine below_set ?_ GE271.out) | exact HB.out)⟩⟩
             ·
              rw [if_neg c55] at H
              have c55b0 : (t296 == 0) = false := beq_eq_false_iff_ne.mpr c55
              have c55b1 : (t296 != 0) = true := bne_iff_ne.mpr c55
              (first | rw [c55b0] | (simp only [i64_w, i32_w]; rw [c55b0]) | skip)
              have H' := Aside0.mk H
              clear H
              go_wp2
              go_meet
              case rel => exact ⟨_, (true), (by first | rfl | (simp; done) | (simp [*]; done)), H', ⟨by have := HJ6.out; have := HK2.out; have := HK3.out; first | omega | exact Nat.le_refl _⟩, ⟨by (with_reducible repeat (first | refine blk_drewN ?_ _ | refine blk_drew ?_ | refine blk_alloc ?_ _)); refine blk_put (cs := #[.int .u8 t286, .int .u16 t287, .int .u8 t288, .string t289, .int .i64 t290, .int .i64 t291, .int .i64 t292, .int .u64 t293, .bool t294, .bool x246009_3]) ?_ 9 _ rfl; (with_reducible repeat (first | refine blk_drewN ?_ _ | refine blk_drew ?_ | refine blk_alloc ?_ _)); refine blk_put (cs := #[.int .u8 t286, .int .u16 t287, .int .u8 t288, .string t289, .int .i64 t290, .int .i64 t291, .int .i64 t292, .int .u64 t293, .bool x246008_3, .bool x246009_3]) ?_ 8 _ rfl; (with_reducible repeat (first | refine blk_drewN ?_ _ | refine blk_drew ?_ | refine blk_alloc ?_ _)); refine blk_put (cs := #[.int .u8 t286, .int .u16 t287, .int .u8 t288, .string t289, .int .i64 t290, .int .i64 t291, .int .i64 t292, .int .u64 x246007_3, .bool x246008_3, .bool x246009_3]) ?_ 7 _ rfl; (with_reducible repeat (first | refine blk_drewN ?_ _ | refine blk_drew ?_ | refine blk_alloc ?_ _)); refine blk_put (cs := #[.int .u8 t286, .int .u16 t287, .int .u8 t288, .string t289, .int .i64 t290, .int .i64 t291, .int .i64 x246006_3, .int .u64 x246007_3, .bool x246008_3, .bool x246009_3]) ?_ 6 _ rfl; (with_reducible repeat (first | refine blk_drewN ?_ _ | refine blk_drew ?_ | refine blk_alloc ?_ _)); refine blk_put (cs := #[.int .u8 t286, .int .u16 t287, .int .u8 t288, .string t289, .int .i64 t290, .int .i64 x246005_3, .int .i64 x246006_3, .int .u64 x246007_3, .bool x246008_3, .bool x246009_3]) ?_ 5 _ rfl; (with_reducible repeat (first | refine blk_drewN ?_ _ | refine blk_drew ?_ | refine blk_alloc ?_ _)); refine blk_put (cs := #[.int .u8 t286, .int .u16 t287, .int .u8 t288, .string t289, .int .i64 x246004_3, .int .i64 x246005_3, .int .i64 x246006_3, .int .u64 x246007_3, .bool x246008_3, .bool x246009_3]) ?_ 4 _ rfl; (with_reducible repeat (first | refine blk_drewN ?_ _ | refine blk_drew ?_ | refine blk_alloc ?_ _)); refine blk_put (cs := #[.int .u8 t286, .int .u16 t287, .int .u8 t288, .string x246003_3, .int .i64 x246004_3, .int .i64 x246005_3, .int .i64 x246006_3, .int .u64 x246007_3, .bool x246008_3, .bool x246009_3]) ?_ 3 _ rfl; (with_reducible repeat (first | refine blk_drewN ?_ _ | refine blk_drew ?_ | refine blk_alloc ?_ _)); refine blk_put (cs := #[.int .u8 t286, .int .u16 t287, .int .u8 x246002_3, .string x246003_3, .int .i64 x246004_3, .int .i64 x246005_3, .int .i64 x246006_3, .int .u64 x246007_3, .bool x246008_3, .bool x246009_3]) ?_ 2 _ rfl; (with_reducible repeat (first | refine blk_drewN ?_ _ | refine blk_drew ?_ | refine blk_alloc ?_ _)); refine blk_put (cs := #[.int .u8 t286, .int .u16 x246001_3, .int .u8 x246002_3, .string x246003_3, .int .i64 x246004_3, .int .i64 x246005_3, .int .i64 x246006_3, .int .u64 x246007_3, .bool x246008_3, .bool x246009_3]) ?_ 1 _ rfl; (with_reducible repeat (first | refine blk_drewN ?_ _ | refine blk_drew ?_ | refine blk_alloc ?_ _)); refine blk_put (cs := #[.int .u8 x246000_3, .int .u16 x246001_3, .int .u8 x246002_3, .string x246003_3, .int .i64 x246004_3, .int .i64 x246005_3, .int .i64 x246006_3, .int .u64 x246007_3, .bool x246008_3, .bool x246009_3]) ?_ 0 _ rfl; (with_reducible repeat (first | refine blk_drewN ?_ _ | refine blk_drew ?_ | refine blk_alloc ?_ _)); exact BK245.out⟩, ⟨by (with_reducible repeat (first | refine blk_drewN ?_ _ | refine blk_drew ?_ | refine blk_alloc ?_ _)); refine blk_far ?_ NB258_245.out _; (with_reducible repeat (first | refine blk_drewN ?_ _ | refine blk_drew ?_ | refine blk_alloc ?_ _)); refine blk_far ?_ NB258_245.out _; (with_reducible repeat (first | refine blk_drewN ?_ _ | refine blk_drew ?_ | refine blk_alloc ?_ _)); refine blk_far ?_ NB258_245.out _; (with_reducible repeat (first | refine blk_drewN ?_ _ | refine blk_drew ?_ | refine blk_alloc ?_ _)); refine blk_far ?_ NB258_245.out _; (with_reducible repeat (first | refine blk_drewN ?_ _ | refine blk_drew ?_ | refine blk_alloc ?_ _)); refine blk_far ?_ NB258_245.out _; (with_reducible repeat (first | refine blk_drewN ?_ _ | refine blk_drew ?_ | refine blk_alloc ?_ _)); refine blk_far ?_ NB258_245.out _; (with_reducible repeat (first | refine blk_drewN ?_ _ | refine blk_drew ?_ | refine blk_alloc ?_ _)); refine blk_far ?_ NB258_245.out _; (with_reducible repeat (first | refine blk_drewN ?_ _ | refine blk_drew ?_ | refine blk_alloc ?_ _)); refine blk_far ?_ NB258_245.out _; (with_reducible repeat (first | refine blk_drewN ?_ _ | refine blk_drew ?_ | refine blk_alloc ?_ _)); refine blk_far ?_ NB258_245.out _; (with_reducible repeat (first | refine blk_drewN ?_ _ | refine blk_drew ?_ | refine blk_alloc ?_ _)); refine blk_far ?_ NB258_245.out _; (with_reducible repeat (first | refine blk_drewN ?_ _ | refine blk_drew ?_ | refine blk_alloc ?_ _)); exact BK258.out⟩, ⟨by (with_reducible repeat (first | refine blk_drewN ?_ _ | refine blk_drew ?_ | refine blk_alloc ?_ _)); refine blk_far ?_ NB271_245.out _; (with_reducible repeat (first | refine blk_drewN ?_ _ | refine blk_drew ?_ | refine blk_alloc ?_ _)); refine blk_far ?_ NB271_245.out _; (with_reducible repeat (first | refine blk_drewN ?_ _ | refine blk_drew ?_ | refine blk_alloc ?_ _)); refine blk_far ?_ NB271_245.out _; (with_reducible repeat (first | refine blk_drewN ?_ _ | refine blk_drew ?_ | refine blk_alloc ?_ _)); refine blk_far ?_ NB271_245.out _; (with_reducible repeat (first | refine blk_drewN ?_ _ | refine blk_drew ?_ | refine blk_alloc ?_ _)); refine blk_far ?_ NB271_245.out _; (with_reducible repeat (first | refine blk_drewN ?_ _ | refine blk_drew ?_ | refine blk_alloc ?_ _)); refine blk_far ?_ NB271_245.out _; (with_reducible repeat (first | refine blk_drewN ?_ _ | refine blk_drew ?_ | refine blk_alloc ?_ _)); refine blk_far ?_ NB271_245.out _; (with_reducible repeat (first | refine blk_drewN ?_ _ | refine blk_drew ?_ | refine blk_alloc ?_ _)); refine blk_far ?_ NB271_245.out _; (with_reducible repeat (first | refine blk_drewN ?_ _ | refine blk_drew ?_ | refine blk_alloc ?_ _)); refine blk_far ?_ NB271_245.out _; (with_reducible repeat (first | refine blk_drewN ?_ _ | refine blk_drew ?_ | refine blk_alloc ?_ _)); refine blk_far ?_ NB271_245.out _; (with_reducible repeat (first | refine blk_drewN ?_ _ | refine blk_drew ?_ | refine blk_alloc ?_ _)); exact BK271.out⟩, ⟨by repeat (first | (with_reducible first | exact HB.out | apply below_alloc | apply pw_below_drewN | apply below_drew1 | refine below_set ?_ GE245.out | refine below_set ?_ GE258.out | refine below_set ?_ GE271.out) | exact HB.out)⟩⟩
            case rest =>
             clear HC49
             try clear c1
             try clear c2
             try clear p2
             try clear q2
             try clear hx2
             try clear c3
             try clear c4
             try clear c5
             try clear c6
             try clear p6
             try clear c8
             try clear c15
             try clear c17
             try clear c17b0
             try clear c17b1
             try clear c18
             try clear c18b0
             try clear c18b1
             try clear c19
             try clear c20
             try clear c20b0
             try clear c20b1
             try clear c21
             try clear c21b0
             try clear c21b1
             try clear c25
             try clear p27
             try clear q27
             try clear hx27
             try clear c29
             try clear c30
             try clear c31
             try clear c32
             try clear c32b0
             try clear c33
             try clear c33b0
             try clear c34
             try clear c34b0
             try clear c35
             try clear c35b0
             try clear c37
             try clear c37b0
             try clear c37b1
             try clear c37b2
             try clear c38
             try clear c39
             try clear c43
             try clear c44
             try clear c45
             try clear c50
             try clear c51
             try clear c55
             try clear c55b0
             try clear c55b1
             try clear c56
             try clear c57
             try clear c58
             try clear c60
             try clear c61
             try clear hcz11_0
             try clear hcz11_1
             try clear hcz11_2
             try clear hcz11_3
             try clear hcz11_4
             try clear hcz11_5
             try clear hcz11_6
             try clear hcz11_7
             try clear hcz11_8
             try clear hcz11_9
             try clear hcz16_0
             try clear hcz16_1
             try clear hcz16_2
             try clear hcz16_3
             try clear hcz16_4
             try clear hcz16_5
             try clear hcz16_6
             try clear hcz16_7
             try clear hcz16_8
             try clear hcz16_9
             try clear hcz26_0
             try clear hcz26_1
             try clear hcz26_2
             try clear hcz26_3
             try clear hcz26_4
             try clear hcz26_5
             try clear hcz26_6
             try clear hcz26_7
             try clear hcz26_8
             try clear hcz26_9
             try clear hcz31_0
             try clear hcz31_1
             try clear hcz31_2
             try clear hcz31_3
             try clear hcz31_4
             try clear hcz31_5
             try clear hcz31_6
             try clear hcz31_7
             try clear hcz31_8
             try clear hcz31_9
             try clear hcz40_0
             try clear hcz40_1
             try clear hcz40_2
             try clear hcz40_3
             try clear hcz40_4
             try clear hcz40_5
             try clear hcz40_6
             try clear hcz40_7
             try clear hcz40_8
             try clear hcz40_9
             try clear hcz46_0
             try clear hcz46_1
             try clear hcz46_2
             try clear hcz46_3
             try clear hcz46_4
             try clear hcz46_5
             try clear hcz46_6
             try clear hcz46_7
             try clear hcz46_8
             try clear hcz46_9
             try clear hcz47_0
             try clear hcz47_1
             try clear hcz47_2
             try clear hcz47_3
             try clear hcz47_4
             try clear hcz47_5
             try clear hcz47_6
             try clear hcz47_7
             try clear hcz47_8
             try clear hcz47_9
             try clear hcz52_0
             try clear hcz52_1
             try clear hcz52_2
             try clear hcz52_3
             try clear hcz52_4
             try clear hcz52_5
             try clear hcz52_6
             try clear hcz52_7
             try clear hcz52_8
             try clear hcz52_9
             try clear hcz54_0
             try clear hcz54_1
             try clear hcz54_2
             try clear hcz54_3
             try clear hcz54_4
             try clear hcz54_5
             try clear hcz54_6
             try clear hcz54_7
             try clear hcz54_8
             try clear hcz54_9
             try clear hcz59_0
             try clear hcz59_1
             try clear hcz59_2
             try clear hcz59_3
             try clear hcz59_4
             try clear hcz59_5
             try clear hcz59_6
             try clear hcz59_7
             try clear hcz59_8
             try clear hcz59_9
             try clear hcz62_0
             try clear hcz62_1
             try clear hcz62_2
             try clear hcz62_3
             try clear hcz62_4
             try clear hcz62_5
             try clear hcz62_6
             try clear hcz62_7
             try clear hcz62_8
             try clear hcz62_9
             try clear hfz11_0
             try clear hfz11_1
             try clear hfz11_2
             try clear hfz11_3
             try clear hfz11_4
             try clear hfz11_5
             try clear hfz11_6
             try clear hfz11_7
             try clear hfz11_8
             try clear hfz11_9
             try clear hfz16_0
             try clear hfz16_1
             try clear hfz16_2
             try clear hfz16_3
             try clear hfz16_4
             try clear hfz16_5
             try clear hfz16_6
             try clear hfz16_7
             try clear hfz16_8
             try clear hfz16_9
             try clear hfz26_0
             try clear hfz26_1
             try clear hfz26_2
             try clear hfz26_3
             try clear hfz26_4
             try clear hfz26_5
             try clear hfz26_6
             try clear hfz26_7
             try clear hfz26_8
             try clear hfz26_9
             try clear hfz31_0
             try clear hfz31_1
             try clear hfz31_2
             try clear hfz31_3
             try clear hfz31_4
             try clear hfz31_5
             try clear hfz31_6
             try clear hfz31_7
             try clear hfz31_8
             try clear hfz31_9
             try clear hfz40_0
             try clear hfz40_1
             try clear hfz40_2
             try clear hfz40_3
             try clear hfz40_4
             try clear hfz40_5
             try clear hfz40_6
             try clear hfz40_7
             try clear hfz40_8
             try clear hfz40_9
             try clear hfz46_0
             try clear hfz46_1
             try clear hfz46_2
             try clear hfz46_3
             try clear hfz46_4
             try clear hfz46_5
             try clear hfz46_6
             try clear hfz46_7
             try clear hfz46_8
             try clear hfz46_9
             try clear hfz47_0
             try clear hfz47_1
             try clear hfz47_2
             try clear hfz47_3
             try clear hfz47_4
             try clear hfz47_5
             try clear hfz47_6
             try clear hfz47_7
             try clear hfz47_8
             try clear hfz47_9
             try clear hfz52_0
             try clear hfz52_1
             try clear hfz52_2
             try clear hfz52_3
             try clear hfz52_4
             try clear hfz52_5
             try clear hfz52_6
             try clear hfz52_7
             try clear hfz52_8
             try clear hfz52_9
             try clear hfz54_0
             try clear hfz54_1
             try clear hfz54_2
             try clear hfz54_3
             try clear hfz54_4
             try clear hfz54_5
             try clear hfz54_6
             try clear hfz54_7
             try clear hfz54_8
             try clear hfz54_9
             try clear hfz59_0
             try clear hfz59_1
             try clear hfz59_2
             try clear hfz59_3
             try clear hfz59_4
             try clear hfz59_5
             try clear hfz59_6
             try clear hfz59_7
             try clear hfz59_8
             try clear hfz59_9
             try clear hfz62_0
             try clear hfz62_1
             try clear hfz62_2
             try clear hfz62_3
             try clear hfz62_4
             try clear hfz62_5
             try clear hfz62_6
             try clear hfz62_7
             try clear hfz62_8
             try clear hfz62_9
             try clear hx273_0
             try clear p2
             try clear p27
             try clear p273
             try clear p6
             try clear q2
             try clear q27
             try clear q273
             obtain ⟨kq, x110_48, rfl, HA, HJ48, BK245, BK258, BK271, HB⟩ := hcut
             cases kq with
             | zero => exact absurd HA.out (by simp [carousellaw09_WatchLoses.j3])
             | succ kj48 =>
              have H := HA.out
              clear HA
              simp only [carousellaw09_WatchLoses.j3] at H
              by_cases c63 : x110_48 = true
              ·
               subst c63
               have H1 : (some false) = some r := by rw [if_pos rfl] at H; exact H
               clear H
               have H := H1
               clear H1
               cases (Option.some.inj H).trans hT
              ·
               replace c63 := Bool.eq_false_iff.mpr c63
               subst c63
               have H1 : (carousellaw09_WatchLoses.l0 kj48 (wrap64 ((wrap64 (Int.tmod a0 50)) + 1)) t270 x12_3 l1 (l1.length : Int) (wrap64 (x61_2 + 1)) t286 t287 t288 t289 t290 t291 t292 t293 t294 t295) = some r := by rw [if_neg (show ¬ (false = true) by decide)] at H; exact H
               clear H
               have H := H1
               clear H1
               have H' := Aside0.mk H
               clear H
               go_wp2
               go_roundg kj48
               case measure => have := HJ6.out; have := HK2.out; have := HK3.out; have := HJ48.out; omega
               case rel => exact ⟨(x12_3), (wrap64 (x61_2 + 1)), (t286), (t287), (t288), (t289), (t290), (t291), (t292), (t293), (t294), (t295), (by first | rfl | (simp; done) | (simp [*]; done)), (by first | rfl | (simp; done) | (simp [*]; done)), H', ⟨by have := HJ6.out; have := HK2.out; have := HK3.out; have := HJ48.out; omega⟩, ⟨by (with_reducible repeat (first | refine blk_drewN ?_ _ | refine blk_drew ?_ | refine blk_alloc ?_ _)); exact BK245.out⟩, ⟨by (with_reducible repeat (first | refine blk_drewN ?_ _ | refine blk_drew ?_ | refine blk_alloc ?_ _)); exact BK258.out⟩, ⟨by (with_reducible repeat (first | refine blk_drewN ?_ _ | refine blk_drew ?_ | refine blk_alloc ?_ _)); exact BK271.out⟩, ⟨by repeat (first | (with_reducible first | exact HB.out | apply below_alloc | apply pw_below_drewN | apply below_drew1 | refine below_set ?_ GE245.out | refine below_set ?_ GE258.out | refine below_set ?_ GE271.out) | exact HB.out)⟩⟩
        ·
         rw [if_neg c34] at H
         exact absurd H (by simp)
       ·
        rw [if_neg c33] at H
        exact absurd H (by simp)
      ·
       rw [if_neg c32] at H
       have c32b0 : decide (x61_2 < (l1.length : Int)) = false := decide_eq_false c32
       clear c32
       replace H := Option.bind_eq_some_iff.mp H
       obtain ⟨t272, A640, H⟩ := H
       replace H : (some t272) = some r := H
       have A64 := Aside0.mk A640
       clear A640
       obtain rfl := Option.some.inj H
       go_wp2_with (first | ((with_reducible refine gate_callee (f := 30) rfl ?_); refine goesL_ (some 112) rfl rfl Try.func30 (by kernel_rfl) rfl #[] rfl (by (try simp only [List.map_toArray, List.map_cons, List.map_nil]); first | done | rfl | (simp only [List.length_drop, List.length_take]; rfl)) ?_; (with_reducible refine (carousellaw09_Awake.calls k2  t272 _ A64.out).mono ?_); rintro e w65 ⟨rfl, hb⟩; refine ⟨_, rfl, ?_⟩; have n0_ := Aside0.mk (blk_below (g := gb245) (o := .cells #[.int .u8 x246000_2, .int .u16 x246001_2, .int .u8 x246002_2, .string x246003_2, .int .i64 x246004_2, .int .i64 x246005_2, .int .i64 x246006_2, .int .u64 x246007_2, .bool x246008_2, .bool x246009_2] 59 (0, 0)) (by (with_reducible repeat (first | refine blk_drewN ?_ _ | refine blk_drew ?_ | refine blk_alloc ?_ _)); exact BK245.out) hb); have n1_ := Aside0.mk (blk_below (g := gb258) (o := .cells #[.int .u8 t247, .int .u16 t248, .int .u8 t249, .string t250, .int .i64 t251, .int .i64 t252, .int .i64 t253, .int .u64 t254, .bool t255, .bool t256] 59 (0, 0)) (by (with_reducible repeat (first | refine blk_drewN ?_ _ | refine blk_drew ?_ | refine blk_alloc ?_ _)); exact BK258.out) hb); have n2_ := Aside0.mk (blk_below (g := gb271) (o := .cells #[.int .u8 t260, .int .u16 t261, .int .u8 t262, .string t263, .int .i64 t264, .int .i64 t265, .int .i64 t266, .int .u64 t267, .bool t268, .bool t269] 59 (0, 0)) (by (with_reducible repeat (first | refine blk_drewN ?_ _ | refine blk_drew ?_ | refine blk_alloc ?_ _)); exact BK271.out) hb); have n3_ := Aside0.mk (below_step (by repeat (first | (with_reducible first | exact HB.out | apply below_alloc | apply pw_below_drewN | apply below_drew1 | refine below_set ?_ GE245.out | refine below_set ?_ GE258.out | refine below_set ?_ GE271.out) | exact HB.out)) hb); clear BK245; clear BK258; clear BK271; clear HB; have BK245 := n0_; have BK258 := n1_; have BK271 := n2_; have HB := n3_; clear n0_ n1_ n2_ n3_; (try clear hb); (try clear hb2); (try clear hk); (try clear hi)))
       go_ret
       exact ⟨by first | rfl | (simp [errW_none, errW_some] <;> rfl) | (simp [*, errW_none, errW_some] <;> rfl), by repeat (first | (with_reducible first | exact HB.out | apply below_alloc | apply pw_below_drewN | apply below_drew1 | refine below_set ?_ GE245.out | refine below_set ?_ GE258.out | refine below_set ?_ GE271.out) | exact HB.out)⟩

/-- THE ONE PURE STATEMENT of carousellaw09_WatchLoses: yours. -/
def carousellaw09_WatchLoses.Pure : Prop := ∀ (a0 : Int) (l1 : List Int), (Lit.int .u8 a0).wf = true → l1.length ≤ maxLen → l1.length * 2 ≤ 140737488351232 → (∀ x ∈ l1, (Lit.int .u16 x).wf = true) → ∃ k, carousellaw09_WatchLoses.f k a0 l1 = some true
theorem carousellaw09_WatchLoses.walk (P : carousellaw09_WatchLoses.Pure) (a0 : Int) (A1 : Option Addr) (c1 : Nat) (l1 : List Int) (w : World) (w0_0 : (Lit.int .u8 a0).wf = true) (hr1 : Kd.C (Kd.int .u16) w A1 l1.length l1) (hc1 : l1.length ≤ c1) (w1_0 : l1.length ≤ maxLen) (w1_1 : l1.length * 2 ≤ 140737488351232) (w1_2 : (∀ x ∈ l1, (Lit.int .u16 x).wf = true)) :
  Calls Try.prog 8 #[.int .u8 a0, .slice A1 l1.length c1] w fun e w' => e = .returned (.bool true) ∧ Below w.heap.size w w' := by
 obtain ⟨k, h⟩ := P a0 l1 w0_0 w1_0 w1_1 w1_2
 refine (carousellaw09_WatchLoses.calls k a0 A1 c1 l1 true w hr1 hc1 h rfl).mono ?_
 rintro e w' ⟨rfl, hd⟩
 exact ⟨rfl, hd⟩

end Go.Proofs.Ytmdaaphjndjakag.PWatchLoses
