/- The law FieldBack holds: what is packed is split as it was, whatever is behind; what is split is packed as it was: for every input. -/
import Derived.Test.YtmdaaphjndjakabLSplitFieldBack
import Derived.Test.YtmdaaphjndjakabGvBack
import Derived.Test.YtmdaaphjndjakabPFieldBackx2
namespace Go.Proofs.Ytmdaaphjndjakab.Pure
open Go.RowKit Go.Proofs.Ytmdaaphjndjakab.PFieldBack Go.Proofs.YtmdaaphjndjakabW.PrintWords Go.Proofs.YtmdaaphjndjakabW.PrintLast Go.Proofs.YtmdaaphjndjakabW.PrintMore Go.Proofs.Ytmdaaphjndjakab Go.Proofs.Ytmdaaphjndjakab.LFieldBack
set_option linter.unusedVariables false

theorem fb_awake : carousellaw01_Awake.f = some true := by decide +kernel
theorem fb_u64 {a : Int} (h : (Lit.int .u64 a).wf = true) : 0 ≤ a ∧ a ≤ 18446744073709551615 := by
  have h' : IntKind.u64.min ≤ a ∧ a ≤ IntKind.u64.max := by simpa [Lit.wf] using h
  exact h'

def prs (l : List S101) : List (Int × Int) := l.map fun x => (x.f0, x.f1)
theorem prs_fst (l : List S101) : (prs l).map (·.1) = l.map (·.f0) := by simp [prs, Function.comp_def]
theorem prs_snd (l : List S101) : (prs l).map (·.2) = l.map (·.f1) := by simp [prs, Function.comp_def]

theorem ev_numbers (l : List Int) (hl : l.length ≤ 1000) (d : Nat) : ∀ i : Nat, l.length - i = d → i ≤ l.length →
    Ev (fun k => carousellaw01_numbers.l0 k l l (l.length : Int) (i : Int)) true := by
  induction d with
  | zero =>
    intro i hi hi2
    refine Ev.step (f := fun _ => some true) (fun k => ?_) (Ev.now _)
    simp only [carousellaw01_numbers.l0]
    rw [if_neg (by omega)]
  | succ d ih =>
    intro i hi hi2
    refine Ev.step (fun k => ?_) (ih (i + 1) (by omega) (by omega))
    simp only [carousellaw01_numbers.l0]
    rw [if_pos (by omega), if_pos (by omega), if_pos (by omega), if_pos (by omega), if_pos trivial, sw_wrap (by omega) (by omega)]
    rfl
theorem ev_numbers_f (l : List Int) (hl : l.length ≤ 1000) : Ev (fun k => carousellaw01_numbers.f k l l) true := by
  refine Ev.congr (fun k => ?_) (ev_numbers l hl _ 0 rfl (by omega))
  unfold carousellaw01_numbers.f
  rw [if_pos rfl]; rfl

theorem pk_some (l : List S101) (hu : Gv.isU64 (prs l) = true) (hl : l.length ≤ 1000) (h : (prs l).all Gv.okPart = true) (h8 : (Gv.allBits (prs l)).length % 8 = 0) :
    field_Pack.f l = some (strOfNums (Gv.packB (Gv.allBits (prs l))), 0) := by
  show Gv.pack (prs l) = _
  unfold Gv.pack
  rw [if_pos ⟨hu, by simp [prs]; omega⟩, if_pos h, if_pos h8]; rfl
theorem pk_bad (l : List S101) (hu : Gv.isU64 (prs l) = true) (hl : l.length ≤ 1000) (h : ¬ ((prs l).all Gv.okPart = true ∧ (Gv.allBits (prs l)).length % 8 = 0)) :
    ∃ b e, field_Pack.f l = some (b, e) ∧ e ≠ 0 := by
  have e : field_Pack.f l = Gv.pack (prs l) := rfl
  rw [e]
  unfold Gv.pack
  rw [if_pos ⟨hu, by simp [prs]; omega⟩]
  by_cases h1 : (prs l).all Gv.okPart = true
  · rw [if_pos h1, if_neg (fun h2 => h ⟨h1, h2⟩)]
    exact ⟨_, _, rfl, by decide⟩
  · rw [if_neg h1]
    exact ⟨_, _, rfl, by decide⟩

/-- The second half's loop. -/
theorem fb_l1 (s : ByteArray) (hs : s.size ≤ 600) (ws : List Int) (hl : ws.length ≤ 60) (hok : Gv.okW ws = true) (h8 : Gv.sumW ws % 8 = 0) (hsz : Gv.sumW ws / 8 ≤ (s.size : Int)) (x : List Int) (hx : x = Gv.vals (Gv.sBits s) ws) (r : ByteArray) (hr : r = s.extract (Gv.sumW ws / 8).toNat s.size) (d : Nat) :
    ∀ i : Nat, x.length - i = d → i ≤ x.length → Ev (fun k => carousellaw01_FieldBack.l1 k s ws r ((ws.zip x).take i |>.map fun p => (⟨p.1, p.2⟩ : S101)) x (x.length : Int) (i : Int)) true := by
  have hxl : x.length = ws.length := by rw [hx, vals_length]
  induction d with
  | zero =>
    intro i hi hi2
    have hp := Gv.pack_split s ws hok h8 hsz
    rw [← hx, ← hr] at hp
    have hzl : (ws.zip x).length = ws.length := by rw [List.length_zip]; omega
    rw [List.take_of_length_le (by omega)]
    have hpr : prs ((ws.zip x).map fun p => (⟨p.1, p.2⟩ : S101)) = ws.zip x := by simp [prs, Function.comp_def]
    have hpk := pk_some ((ws.zip x).map fun p => (⟨p.1, p.2⟩ : S101)) (by rw [hpr]; exact hp.2.2.2) (by rw [List.length_map]; omega) (by rw [hpr]; exact hp.2.2.1) (by rw [hpr]; exact hp.2.1)
    rw [hpr] at hpk
    refine Ev.step (f := fun _ => some true) (fun k => ?_) (Ev.now _)
    simp only [carousellaw01_FieldBack.l1]
    rw [if_neg (by omega), hpk, fb_awake]
    have hsize := congrArg ByteArray.size hp.1
    rw [ByteArray.size_append] at hsize
    simp only [Option.bind_some, if_true]
    rw [if_pos (by omega), hp.1]
    simp
  | succ d ih =>
    intro i hi hi2
    have hi3 : i < ws.length := by omega
    have h := ih (i + 1) (by omega) (by omega)
    have hzi : i < (ws.zip x).length := by rw [List.length_zip]; omega
    rw [List.take_succ_eq_append_getElem hzi, List.map_append] at h
    refine Ev.step (fun k => ?_) h
    simp only [carousellaw01_FieldBack.l1]
    rw [if_pos (by omega), if_pos (by omega), if_pos (by omega), if_pos (by omega), if_pos (by rw [List.length_map, List.length_take]; omega), sw_wrap (by omega) (by omega), sw_rd (l := ws) hi3, sw_rd (l := x) (by omega)]
    simp [List.getElem_zip]

theorem fb_j2 (s : ByteArray) (hs : s.size ≤ 600) (ws : List Int) (hl : ws.length ≤ 60) : Ev (fun k => carousellaw01_FieldBack.j2 k s ws) true := by
  have hsp := ev_split s (by omega) ws (by omega)
  by_cases h : Gv.okW ws = true ∧ Gv.sumW ws % 8 = 0 ∧ ¬ (Gv.sumW ws / 8 > (s.size : Int))
  · have e : Gv.split s ws = (Gv.vals (Gv.sBits s) ws, s.extract (Gv.sumW ws / 8).toNat s.size, 0) := by
      unfold Gv.split; rw [if_pos h.1, if_pos h.2.1, if_neg h.2.2]
    rw [e] at hsp
    have h1 := fb_l1 s hs ws hl h.1 h.2.1 (by omega) _ rfl _ rfl _ 0 rfl (by omega)
    refine Ev.step (fun k => ?_) (Ev.bind hsp (f := fun k b => if b.2.2 = 0 then carousellaw01_FieldBack.l1 k s ws b.2.1 ([] : List S101) b.1 (b.1.length : Int) 0 else ((carousellaw01_Awake.f).bind fun t137 => (if t137 = true then (some ((b.1.length : Int) == 0)) else (some false)))) ?_)
    · simp only [carousellaw01_FieldBack.j2]
    · simp only [if_true]
      exact h1
  · have e : ∃ e, Gv.split s ws = ([], ⟨#[]⟩, e) ∧ e ≠ 0 := by
      unfold Gv.split
      by_cases h1 : Gv.okW ws = true
      · rw [if_pos h1]
        by_cases h2 : Gv.sumW ws % 8 = 0
        · rw [if_pos h2, if_pos (Classical.byContradiction fun h3 => h ⟨h1, h2, h3⟩)]
          exact ⟨_, rfl, by decide⟩
        · rw [if_neg h2]; exact ⟨_, rfl, by decide⟩
      · rw [if_neg h1]; exact ⟨_, rfl, by decide⟩
    obtain ⟨e, he, hne⟩ := e
    rw [he] at hsp
    refine Ev.step (fun k => ?_) (Ev.bind hsp (f := fun k b => if b.2.2 = 0 then carousellaw01_FieldBack.l1 k s ws b.2.1 ([] : List S101) b.1 (b.1.length : Int) 0 else ((carousellaw01_Awake.f).bind fun t137 => (if t137 = true then (some ((b.1.length : Int) == 0)) else (some false)))) ?_)
    · simp only [carousellaw01_FieldBack.j2]
    · refine Ev.congr (f := fun _ => some true) (fun k => ?_) (Ev.now _)
      simp only [hne, if_false, fb_awake, Option.bind_some, if_true, List.length_nil]
      rfl

/-- The first half's loop. -/
theorem fb_l0 (l : List S101) (hl : l.length ≤ 60) (hu : Gv.isU64 (prs l) = true) (hok : (prs l).all Gv.okPart = true) (h8 : (Gv.allBits (prs l)).length % 8 = 0) (s behind : ByteArray) (hs : s.size ≤ 600) (hb : behind.size ≤ 100) (ws : List Int) (hws : ws.length ≤ 60) (d : Nat) :
    ∀ i : Nat, l.length - i = d → i ≤ l.length → Ev (fun k => carousellaw01_FieldBack.l0 k s behind ws (strOfNums (Gv.packB (Gv.allBits (prs l)))) ((l.map (·.f0)).take i) ((l.map (·.f1)).take i) l (l.length : Int) (i : Int)) true := by
  induction d with
  | zero =>
    intro i hi hi2
    rw [List.take_of_length_le (by rw [List.length_map]; omega), List.take_of_length_le (by rw [List.length_map]; omega)]
    have hal := Gv.sum_parts (prs l) hok
    have hbd := sum_bound _ (Gv.okW_parts (prs l) hok)
    rw [hal, List.length_map] at hbd
    have hpl : (prs l).length = l.length := by simp [prs]
    have hsz : (strOfNums (Gv.packB (Gv.allBits (prs l)))).size ≤ 1000 := by
      rw [Gv.size_bytesOf, Gv.bytesOf_str _ (Gv.packB_range (Gv.bits_all _)), Gv.packB_length]; omega
    have hsp := ev_split (strOfNums (Gv.packB (Gv.allBits (prs l))) ++ behind) (by rw [ByteArray.size_append]; omega) (l.map (·.f0)) (by rw [List.length_map]; omega)
    have e := Gv.split_pack (prs l) hok hu h8 behind
    rw [prs_fst, prs_snd] at e
    rw [e] at hsp
    have hn := ev_numbers_f (l.map (·.f1)) (by rw [List.length_map]; omega)
    have hj := fb_j2 s hs ws hws
    refine Ev.step (fun k => ?_) (Ev.bind hsp (f := fun k b => if b.2.2 = 0 then (if b.2.1.toList = behind.toList then ((carousellaw01_numbers.f k b.1 (l.map (·.f1))).bind fun t131 => (if t131 = true then (carousellaw01_FieldBack.j2 k s ws) else (some false))) else (some false)) else (some false)) ?_)
    · simp only [carousellaw01_FieldBack.l0]
      rw [if_neg (by omega), if_pos (by omega)]
    · simp only [if_true]
      refine Ev.bind hn (f := fun k t => if t = true then (carousellaw01_FieldBack.j2 k s ws) else (some false)) ?_
      simp only [if_true]
      exact hj
  | succ d ih =>
    intro i hi hi2
    have hi3 : i < l.length := by omega
    have h := ih (i + 1) (by omega) (by omega)
    rw [List.take_succ_eq_append_getElem (l := l.map (·.f0)) (by rw [List.length_map]; omega), List.take_succ_eq_append_getElem (l := l.map (·.f1)) (by rw [List.length_map]; omega)] at h
    refine Ev.step (fun k => ?_) h
    simp only [carousellaw01_FieldBack.l0]
    have hrd : rd_T101 l (i : Int) = l[i] := by unfold rd_T101; simp [List.getD_eq_getElem?_getD, hi3]
    rw [if_pos (by omega), if_pos (by omega), if_pos (by omega), if_pos (by rw [List.length_take, List.length_map]; omega), if_pos (by rw [List.length_take, List.length_map]; omega), sw_wrap (by omega) (by omega), hrd]
    simp

theorem FieldBack : carousellaw01_FieldBack.Pure := by
  intro l s behind ws h1 h2 h3 h4 h5 h6 h7 h8
  have hj1 : ∀ b, b = true → Ev (fun k => carousellaw01_FieldBack.j0 k l s behind ws b) true := by
    rintro b rfl
    refine Ev.step (f := fun _ => some true) (fun k => ?_) (Ev.now _)
    simp only [carousellaw01_FieldBack.j0]
    rw [if_pos trivial, fb_awake]; rfl
  have hgo : Ev (fun k => carousellaw01_FieldBack.f k l s behind ws) true := by
    by_cases c1 : (l.length : Int) > 60
    · refine Ev.congr (fun k => ?_) (hj1 true rfl)
      unfold carousellaw01_FieldBack.f; rw [if_pos c1]
    by_cases c2 : (s.size : Int) > 600
    · refine Ev.congr (fun k => ?_) (hj1 true rfl)
      unfold carousellaw01_FieldBack.f; rw [if_neg c1, if_pos c2]
    by_cases c3 : (behind.size : Int) > 100
    · refine Ev.congr (fun k => ?_) (hj1 true rfl)
      unfold carousellaw01_FieldBack.f; rw [if_neg c1, if_neg c2, if_pos c3]
    by_cases c4 : (ws.length : Int) > 60
    · refine Ev.congr (fun k => ?_) (hj1 _ (decide_eq_true c4))
      unfold carousellaw01_FieldBack.f; rw [if_neg c1, if_neg c2, if_neg c3]
    have hj2 := fb_j2 s (by omega) ws (by omega)
    have hu : Gv.isU64 (prs l) = true := by
      simp only [Gv.isU64, prs, List.all_eq_true, List.mem_map]
      rintro p ⟨x, hx, rfl⟩
      have := fb_u64 (h3 x hx).2
      simp [this.1, Gv.u64max, this.2]
    refine Ev.congr (f := fun k => carousellaw01_FieldBack.j0 k l s behind ws false) (fun k => ?_) ?_
    · unfold carousellaw01_FieldBack.f
      rw [if_neg c1, if_neg c2, if_neg c3, decide_eq_false c4]
    by_cases hp : (prs l).all Gv.okPart = true ∧ (Gv.allBits (prs l)).length % 8 = 0
    · have h0 := fb_l0 l (by omega) hu hp.1 hp.2 s behind (by omega) (by omega) ws (by omega) _ 0 rfl (by omega)
      refine Ev.step (fun k => ?_) h0
      simp only [carousellaw01_FieldBack.j0]
      rw [if_neg (by simp), pk_some l hu (by omega) hp.1 hp.2]
      simp
    · obtain ⟨b, e, hpb, hne⟩ := pk_bad l hu (by omega) hp
      refine Ev.step (fun k => ?_) hj2
      simp only [carousellaw01_FieldBack.j0]
      rw [if_neg (by simp), hpb]
      simp [hne]
  exact hgo.rounds

end Go.Proofs.Ytmdaaphjndjakab.Pure
