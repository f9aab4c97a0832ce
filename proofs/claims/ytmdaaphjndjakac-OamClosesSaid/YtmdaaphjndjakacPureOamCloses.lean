/- The law OamCloses holds: the bytes of any message, or what is wrong with it, are the document's; opened, whatever is behind, it is as it was: for every input. -/
import Derived.Test.YtmdaaphjndjakacLOamRefCloseAll
import Derived.Test.YtmdaaphjndjakacLOamAll
import Derived.Test.YtmdaaphjndjakacPAllx10
namespace Go.Proofs.Ytmdaaphjndjakac.Pure
open Go.RowKit Go.Proofs.Ytmdaaphjndjakac.PAll Go.Proofs.YtmdaaphjndjakacW.PrintWords Go.Proofs.YtmdaaphjndjakacW.PrintLast Go.Proofs.YtmdaaphjndjakacW.PrintMore Go.Proofs.Ytmdaaphjndjakac Go.Proofs.Ytmdaaphjndjakac.LAll
set_option linter.unusedVariables false

theorem oc_awake : carousellaw04_Awake.f = some true := by decide +kernel
theorem oc_wf {a : Int} (h : (Lit.int .u8 a).wf = true) : isU8 a := by
  have h' : IntKind.u8.min ≤ a ∧ a ≤ IntKind.u8.max := by simpa [Lit.wf] using h
  exact h'

/-- What was closed is opened as it was. -/
theorem oam_back (l v c f o : Int) (s b : ByteArray) (hl : isU8 l) (hv : isU8 v) (hc : isU8 c) (hf : isU8 f) (ho : isU8 o) (h1 : l ≤ 7) (h2 : v ≤ 31) (h3 : (s.size : Int) = o) :
    oamOpen (((strOfNums [l * 32 + v, c, f, o] ++ s) ++ ⟨#[0]⟩) ++ b) = (l, v, c, f, o, s, 0) := by
  unfold isU8 at *
  have hb : bytesOf (((strOfNums [l * 32 + v, c, f, o] ++ s) ++ ⟨#[0]⟩) ++ b) = (l * 32 + v) :: c :: f :: o :: (bytesOf s ++ ([0] ++ bytesOf b)) := by
    rw [Gv.bytesOf_append, Gv.bytesOf_append, Gv.bytesOf_append, Gv.bytesOf_str _ (by intro x hx; simp at hx; omega)]
    simp [show bytesOf (⟨#[0]⟩ : ByteArray) = [0] from rfl]
  have hsz : (((strOfNums [l * 32 + v, c, f, o] ++ s) ++ ⟨#[0]⟩) ++ b).size = s.size + b.size + 5 := by
    rw [Gv.size_bytesOf, hb]; simp [bytesOf_length]; omega
  generalize ((strOfNums [l * 32 + v, c, f, o] ++ s) ++ ⟨#[0]⟩) ++ b = t at hb hsz
  have g0 : bt t 0 = l * 32 + v := by rw [Gv.bt_get, hb]; rfl
  have g1 : bt t 1 = c := by rw [Gv.bt_get, hb]; rfl
  have g2 : bt t 2 = f := by rw [Gv.bt_get, hb]; rfl
  have g3 : bt t 3 = o := by rw [Gv.bt_get, hb]; rfl
  have g4 : bt t (4 + o) = 0 := by
    rw [Gv.bt_get, hb, show (4 + o).toNat = s.size + 4 from by omega]
    simp only [List.getD_cons_succ]
    rw [List.getD_eq_getElem?_getD, List.getElem?_append_right (by rw [bytesOf_length]; exact Nat.le_refl _), bytesOf_length, Nat.sub_self]
    rfl
  have g5 : t.extract 4 (4 + o).toNat = s := by
    apply Gv.bytesOf_inj
    rw [Gv.bytesOf_extract, hb, show (4 + o).toNat = s.size + 4 from by omega]
    simp only [List.take_succ_cons, List.drop_succ_cons, List.drop_zero]
    rw [List.take_append_of_le_length (by rw [bytesOf_length]; exact Nat.le_refl _), List.take_of_length_le (by rw [bytesOf_length]; exact Nat.le_refl _)]
  unfold oamOpen
  rw [if_neg (by omega), g3, if_neg (by omega), g4, if_pos rfl, g0, g1, g2, g5, show (l * 32 + v) / 32 = l from by omega, show (l * 32 + v) % 32 = v from by omega]

theorem OamCloses : carousellaw04_OamCloses.Pure := by
  intro l v c f o s b w0 w1 w2 w3 w4 _ _
  have hl := oc_wf w0; have hv := oc_wf w1; have hc := oc_wf w2; have hf := oc_wf w3; have ho := oc_wf w4
  have hawake : Ev (fun k => carousellaw04_OamCloses.j0 k s b true l v c f o) true := by
    refine Ev.step (f := fun _ => some true) (fun k => ?_) (Ev.now _)
    simp only [carousellaw04_OamCloses.j0]
    rw [if_pos trivial, oc_awake]; rfl
  have hgo : Ev (fun k => carousellaw04_OamCloses.f k l v c f o s b) true := by
    by_cases h1 : (s.size : Int) > 400
    · refine Ev.congr (fun k => ?_) hawake
      unfold carousellaw04_OamCloses.f; rw [if_pos h1]
    · by_cases h2 : (b.size : Int) > 100
      · refine Ev.congr (fun k => ?_) hawake
        unfold carousellaw04_OamCloses.f; rw [if_neg h1, show decide ((b.size : Int) > 100) = true from by simpa using h2]
      · have hcl := oam_close l v c f o s (by omega) hl hv hc hf ho
        have href := ev_ref_close l v c f o s (by omega) hl hv hc hf ho
        have hj1 : Ev (fun k => carousellaw04_OamCloses.j1 k s b (oamClose l v c f o s).1 (oamClose l v c f o s).2 false l v c f o) true := by
          by_cases h3 : (l ≤ 7 ∧ v ≤ 31) ∧ (s.size : Int) = o
          · obtain ⟨⟨h3, h4⟩, h5⟩ := h3
            have e : oamClose l v c f o s = ((strOfNums [l * 32 + v, c, f, o] ++ s) ++ ⟨#[0]⟩, 0) := by unfold oamClose; rw [if_pos ⟨h3, h4⟩, if_pos h5]
            rw [e]
            have hz : ((strOfNums [l * 32 + v, c, f, o] ++ s) ++ (⟨#[0]⟩ : ByteArray)).size = s.size + 5 := by
              rw [Gv.size_bytesOf, Gv.bytesOf_append, Gv.bytesOf_append]
              simp [bytesOf_length, strOfNums_size, show bytesOf (⟨#[0]⟩ : ByteArray) = [0] from rfl]; omega
            have hz2 : (((strOfNums [l * 32 + v, c, f, o] ++ s) ++ (⟨#[0]⟩ : ByteArray)) ++ b).size ≤ 100000 := by
              rw [Gv.size_bytesOf, Gv.bytesOf_append, List.length_append, bytesOf_length, bytesOf_length, hz]; omega
            have hop := ev_oam_open _ hz2
            rw [oam_back l v c f o s b hl hv hc hf ho h3 h4 h5] at hop
            refine Ev.step (fun k => ?_) (Ev.bind hop (f := fun k x => if (x.1 == l && (x.2.1 == v && (x.2.2.1 == c && (x.2.2.2.1 == f && (x.2.2.2.2.1 == o))))) = true then (if x.2.2.2.2.2.1.toList = s.toList then (some (x.2.2.2.2.2.2 == 0)) else (some false)) else (some false)) (Ev.congr (fun k => ?_) (Ev.now true)))
            · simp only [carousellaw04_OamCloses.j1]
              rw [if_neg (by simp), if_pos trivial, hz, if_pos (by omega), oc_awake]
              simp only [Option.bind_some, if_true]
            · simp
          · have e : (oamClose l v c f o s).2 ≠ 0 := by
              unfold oamClose
              by_cases h4 : l ≤ 7 ∧ v ≤ 31
              · rw [if_pos h4, if_neg (fun h5 => h3 ⟨h4, h5⟩)]; decide
              · rw [if_neg h4]; decide
            refine Ev.step (f := fun _ => some true) (fun k => ?_) (Ev.now _)
            simp only [carousellaw04_OamCloses.j1]
            rw [if_neg (by simp), if_neg e, oc_awake]; rfl
        refine Ev.congr (f := fun k => carousellaw04_OamCloses.j0 k s b false l v c f o) (fun k => ?_) (Ev.step (fun k => ?_) (Ev.bind href (f := fun k x => if (oamClose l v c f o s).1.toList = x.1.toList then (carousellaw04_OamCloses.j1 k s b (oamClose l v c f o s).1 x.2 ((oamClose l v c f o s).2 != x.2) l v c f o) else (carousellaw04_OamCloses.j1 k s b (oamClose l v c f o s).1 x.2 true l v c f o)) (Ev.congr (fun k => ?_) hj1)))
        · unfold carousellaw04_OamCloses.f; rw [if_neg h1, show decide ((b.size : Int) > 100) = false from by simpa using h2]
        · simp only [carousellaw04_OamCloses.j0]
          rw [if_neg (by simp), hcl]
          simp only [Option.bind_some]
        · simp
  exact hgo.rounds

end Go.Proofs.Ytmdaaphjndjakac.Pure
