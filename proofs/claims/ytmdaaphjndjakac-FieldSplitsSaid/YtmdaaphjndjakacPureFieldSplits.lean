/- The law FieldSplits holds: the values of any bytes by any widths, and what is behind, or what is wrong, are the document's; so is whether all bytes are 0: for every input. -/
import Derived.Test.YtmdaaphjndjakacLSplitFieldSplits
import Derived.Test.YtmdaaphjndjakacPFieldSplitsx3
namespace Go.Proofs.Ytmdaaphjndjakac.Pure
open Go.RowKit Go.Proofs.Ytmdaaphjndjakac.PFieldSplits Go.Proofs.YtmdaaphjndjakacW.PrintWords Go.Proofs.YtmdaaphjndjakacW.PrintLast Go.Proofs.YtmdaaphjndjakacW.PrintMore Go.Proofs.Ytmdaaphjndjakac Go.Proofs.Ytmdaaphjndjakac.LFieldSplits
set_option linter.unusedVariables false

theorem fs_awake : carousellaw01_Awake.f = some true := by decide +kernel

def allz (s : ByteArray) : Nat → Bool
  | 0 => true
  | i + 1 => allz s i && (bt s i == 0)
theorem allz_false (s : ByteArray) (i : Nat) (h : allz s i = false) (d : Nat) : allz s (i + d) = false := by
  induction d with
  | zero => exact h
  | succ d ih => show (allz s (i + d) && _) = false; rw [ih]; rfl

theorem ev_noughts (s : ByteArray) (hs : s.size ≤ 100000) (d : Nat) : ∀ i : Nat, s.size - i = d → i ≤ s.size → allz s i = true →
    Ev (fun k => field_Noughts.l0 k s (s.size : Int) (i : Int)) (allz s s.size) := by
  induction d with
  | zero =>
    intro i hi hi2 hz
    obtain rfl : i = s.size := by omega
    rw [hz]
    refine Ev.step (f := fun _ => some true) (fun k => ?_) (Ev.now _)
    simp only [field_Noughts.l0]
    rw [if_neg (by omega)]
  | succ d ih =>
    intro i hi hi2 hz
    by_cases hb : bt s (i : Int) = 0
    · have h := ih (i + 1) (by omega) (by omega) (by simp [allz, hz, hb])
      refine Ev.step (fun k => ?_) h
      simp only [field_Noughts.l0]
      rw [if_pos (by omega), if_pos (by omega), if_pos (by omega), if_pos hb, sw_wrap (by omega) (by omega)]
      rfl
    · have hf : allz s s.size = false := by
        have := allz_false s (i + 1) (by simp [allz, hb]) (s.size - (i + 1))
        rwa [show i + 1 + (s.size - (i + 1)) = s.size from by omega] at this
      rw [hf]
      refine Ev.step (f := fun _ => some false) (fun k => ?_) (Ev.now _)
      simp only [field_Noughts.l0]
      rw [if_pos (by omega), if_pos (by omega), if_pos (by omega), if_neg hb]

theorem ev_numbers (l : List Int) (hl : l.length ≤ 1000) (d : Nat) : ∀ i : Nat, l.length - i = d → i ≤ l.length →
    Ev (fun k => carousellaw01_numbers.l0 k l l (l.length : Int) (i : Int)) true := by
  induction d with
  | zero =>
    intro i hi hi2
    refine Ev.step (f := fun _ => some true) (fun k => ?_) (Ev.now _)
    simp only [carousellaw01_numbers.l0]
    rw [if_neg (by omega)]
  | succ d ih =>
    intro i hi hi2
    refine Ev.step (fun k => ?_) (ih (i + 1) (by omega) (by omega))
    simp only [carousellaw01_numbers.l0]
    rw [if_pos (by omega), if_pos (by omega), if_pos (by omega), if_pos (by omega), if_pos trivial, sw_wrap (by omega) (by omega)]
    rfl
theorem ev_numbers_f (l : List Int) (hl : l.length ≤ 1000) : Ev (fun k => carousellaw01_numbers.f k l l) true := by
  refine Ev.congr (fun k => ?_) (ev_numbers l hl _ 0 rfl (by omega))
  unfold carousellaw01_numbers.f
  rw [if_pos rfl]; rfl

theorem split_len (s : ByteArray) (ws : List Int) : (Gv.split s ws).1.length ≤ ws.length := by
  unfold Gv.split
  repeat' split
  all_goals simp [vals_length]

theorem ev_fs_loop (s : ByteArray) (hs : s.size ≤ 600) (x : List Int) (r : ByteArray) (e : Int) (hx : x.length ≤ 1000) (d : Nat) : ∀ i : Nat, s.size - i = d → i ≤ s.size →
    Ev (fun k => carousellaw01_FieldSplits.l0 k s x r e x r e (allz s i) (s.size : Int) (i : Int)) true := by
  induction d with
  | zero =>
    intro i hi hi2
    obtain rfl : i = s.size := by omega
    have h1 := ev_numbers_f x hx
    have h2 := ev_noughts s (by omega) _ 0 rfl (by omega) rfl
    refine Ev.step (fun k => ?_) (Ev.bind h1 (f := fun k t => if t = true then (if r.toList = r.toList then (if e = e then ((field_Noughts.f k s).bind fun t => (some (t == allz s s.size))) else (some false)) else (some false)) else (some false)) ?_)
    · simp only [carousellaw01_FieldSplits.l0]
      rw [if_neg (by omega), fs_awake]
      rfl
    · simp only [if_true]
      simp only [field_Noughts.f]
      refine Ev.bind h2 (Ev.congr (fun k => ?_) (Ev.now _))
      simp
  | succ d ih =>
    intro i hi hi2
    have h := ih (i + 1) (by omega) (by omega)
    refine Ev.step (fun k => ?_) h
    simp only [carousellaw01_FieldSplits.l0]
    rw [if_pos (by omega), sw_wrap (by omega) (by omega)]
    cases hz : allz s i with
    | true =>
      rw [if_pos rfl, if_pos (by omega), if_pos (by omega)]
      simp [allz, hz]
    | false =>
      rw [if_neg (by simp)]
      simp [allz, hz]

theorem FieldSplits : carousellaw01_FieldSplits.Pure := by
  intro s ws h1 h2 h3 h4
  have hgo : Ev (fun k => carousellaw01_FieldSplits.f k s ws) true := by
    by_cases hs : (s.size : Int) > 600
    · refine Ev.congr (f := fun k => carousellaw01_FieldSplits.j0 k s ws true) (fun k => ?_) (Ev.step (f := fun _ => some true) (fun k => ?_) (Ev.now _))
      · unfold carousellaw01_FieldSplits.f
        rw [if_pos hs]
      · simp only [carousellaw01_FieldSplits.j0]
        rw [if_pos trivial, fs_awake]; rfl
    · by_cases hl : (ws.length : Int) > 60
      · refine Ev.congr (f := fun k => carousellaw01_FieldSplits.j0 k s ws true) (fun k => ?_) (Ev.step (f := fun _ => some true) (fun k => ?_) (Ev.now _))
        · unfold carousellaw01_FieldSplits.f
          rw [if_neg hs, show decide ((ws.length : Int) > 60) = true from by simpa using hl]
        · simp only [carousellaw01_FieldSplits.j0]
          rw [if_pos trivial, fs_awake]; rfl
      · have hsp := ev_split s (by omega) ws (by omega)
        have hrf := ev_refsplit s (by omega) ws (by omega)
        have hlen := split_len s ws
        have hfin := ev_fs_loop s (by omega) (Gv.split s ws).1 (Gv.split s ws).2.1 (Gv.split s ws).2.2 (by omega) _ 0 rfl (by omega)
        refine Ev.congr (f := fun k => carousellaw01_FieldSplits.j0 k s ws false) (fun k => ?_) (Ev.step (fun k => ?_) (Ev.bind hsp (f := fun k b => (carouselref01_Split.f k s ws).bind fun c => carousellaw01_FieldSplits.l0 k s b.1 b.2.1 b.2.2 c.1 c.2.1 c.2.2 true (s.size : Int) 0) (Ev.bind hrf hfin)))
        · unfold carousellaw01_FieldSplits.f
          rw [if_neg hs, show decide ((ws.length : Int) > 60) = false from by simpa using hl]
        · simp only [carousellaw01_FieldSplits.j0]
          rw [if_neg (by simp)]
  exact hgo.rounds

end Go.Proofs.Ytmdaaphjndjakac.Pure
