/- Open of layer 4, the program's: it comes to a plain word. -/
import Derived.Test.YtmdaaphjndjakacLSplitAll
import Derived.Test.YtmdaaphjndjakacGvBytes
import Derived.Test.YtmdaaphjndjakacPAllx6
namespace Go.Proofs.Ytmdaaphjndjakac.LAll
open Go.RowKit Go.Proofs.Ytmdaaphjndjakac.PAll Go.Proofs.YtmdaaphjndjakacW.PrintWords Go.Proofs.YtmdaaphjndjakacW.PrintLast Go.Proofs.YtmdaaphjndjakacW.PrintMore Go.Proofs.Ytmdaaphjndjakac
set_option linter.unusedVariables false

/-- The head and the content of bytes, or what is wrong. -/
def oamOpen (s : ByteArray) : Int × Int × Int × Int × Int × ByteArray × Int :=
  if s.size < 4 then (0, 0, 0, 0, 0, ⟨#[]⟩, 1)
  else if (s.size : Int) < 5 + bt s 3 then (0, 0, 0, 0, 0, ⟨#[]⟩, 1)
  else if bt s (4 + bt s 3) = 0 then (bt s 0 / 32, bt s 0 % 32, bt s 1, bt s 2, bt s 3, s.extract 4 (4 + bt s 3).toNat, 0)
  else (0, 0, 0, 0, 0, ⟨#[]⟩, 3)

theorem split_oam (s : ByteArray) (h : 4 ≤ s.size) : Gv.split s [3, 5, 8, 8, 8] = ([bt s 0 / 32, bt s 0 % 32, bt s 1, bt s 2, bt s 3], s.extract 4 s.size, 0) := by
  have e1 : Gv.okW [3, 5, 8, 8, 8] = true := by decide
  have e2 : Gv.sumW [3, 5, 8, 8, 8] = 32 := by decide
  unfold Gv.split
  rw [if_pos e1, e2, if_pos (by decide), if_neg (by omega)]
  have hh := Gv.bytesOf_head s 4 h
  simp only [List.range, List.range.loop, List.map, List.cons_append, List.nil_append] at hh
  have h0 := bt_range s 0; have h1 := bt_range s 1; have h2 := bt_range s 2; have h3 := bt_range s 3
  have e3 : Gv.sBits s = Gv.bitsOf 3 (bt s 0 / 32) ++ (Gv.bitsOf 5 (bt s 0) ++ (Gv.bitsOf 8 (bt s 1) ++ (Gv.bitsOf 8 (bt s 2) ++ (Gv.bitsOf 8 (bt s 3) ++ ((bytesOf s).drop 4).flatMap fun b => Gv.bitsOf 8 b)))) := by
    rw [Gv.sBits_cons hh, Gv.flat_cons, Gv.flat_cons, Gv.flat_cons, Gv.flat_cons, ← List.append_assoc (Gv.bitsOf 3 _)]
    congr 1
    exact Gv.bitsOf_add 3 5 (bt s 0)
  have e4 : Gv.vals (Gv.sBits s) [3, 5, 8, 8, 8] = [bt s 0 / 32, bt s 0 % 32, bt s 1, bt s 2, bt s 3] := by
    rw [e3, show ([3, 5, 8, 8, 8] : List Int) = ((3 : Nat) : Int) :: ((5 : Nat) : Int) :: ((8 : Nat) : Int) :: ((8 : Nat) : Int) :: ((8 : Nat) : Int) :: [] from rfl]
    rw [Gv.vals_cons, Gv.vals_cons, Gv.vals_cons, Gv.vals_cons, Gv.vals_cons, Gv.vals_none]
    have p3 : (2 : Int) ^ 3 = 8 := by decide
    have p5 : (2 : Int) ^ 5 = 32 := by decide
    have p8 : (2 : Int) ^ 8 = 256 := by decide
    rw [p3, p5, p8, Int.emod_eq_of_lt (a := bt s 0 / 32) (by omega) (by omega), Int.emod_eq_of_lt h1.1 (by omega), Int.emod_eq_of_lt h2.1 (by omega), Int.emod_eq_of_lt h3.1 (by omega)]
  rw [e4]
  rfl
theorem split_oam_short (s : ByteArray) (h : s.size < 4) : Gv.split s [3, 5, 8, 8, 8] = ([], ⟨#[]⟩, 1) := by
  have e1 : Gv.okW [3, 5, 8, 8, 8] = true := by decide
  have e2 : Gv.sumW [3, 5, 8, 8, 8] = 32 := by decide
  unfold Gv.split
  rw [if_pos e1, e2, if_pos (by decide), if_pos (by omega)]

theorem bt_ext (s : ByteArray) (n : Int) (h0 : 0 ≤ n) (h4 : 4 ≤ s.size) : bt (s.extract 4 s.size) n = bt s (4 + n) := by
  rw [Gv.bt_get, Gv.bt_get, Gv.bytesOf_extract]
  rw [List.take_of_length_le (by rw [bytesOf_length]; exact Nat.le_refl _)]
  simp only [List.getD_eq_getElem?_getD, List.getElem?_drop]
  rw [show (4 + n).toNat = 4 + n.toNat from by omega]
theorem size_ext (s : ByteArray) (a b : Nat) (h : b ≤ s.size) : (s.extract a b).size = b - a := by
  rw [Gv.size_bytesOf, Gv.bytesOf_extract, List.length_drop, List.length_take, bytesOf_length]; omega
theorem ext_ext (s : ByteArray) (n : Nat) : (s.extract 4 s.size).extract 0 n = s.extract 4 (4 + n) := by
  apply Gv.bytesOf_inj
  rw [Gv.bytesOf_extract, Gv.bytesOf_extract, Gv.bytesOf_extract, List.take_of_length_le (l := bytesOf s) (i := s.size) (by rw [bytesOf_length]; exact Nat.le_refl _), List.drop_zero, List.drop_take, show 4 + n - 4 = n from by omega]

/-- The program's Open. -/
theorem ev_oam_open (s : ByteArray) (hs : s.size ≤ 100000) : Ev (fun k => oam_Open.f k s) (oamOpen s) := by
  have hsp := ev_split s hs [3, 5, 8, 8, 8] (by simp)
  simp only [oam_Open.f]
  refine Ev.bind hsp (Ev.congr (fun k => ?_) (Ev.now _))
  unfold oamOpen
  by_cases h4 : s.size < 4
  · rw [split_oam_short s h4, if_pos h4]
    simp
  · rw [split_oam s (by omega), if_neg h4]
    have h3 := bt_range s 3
    have h0 := bt_range s 0
    have h1 := bt_range s 1
    have h2 := bt_range s 2
    have r0 : rd [bt s 0 / 32, bt s 0 % 32, bt s 1, bt s 2, bt s 3] 0 = bt s 0 / 32 := rfl
    have r1 : rd [bt s 0 / 32, bt s 0 % 32, bt s 1, bt s 2, bt s 3] 1 = bt s 0 % 32 := rfl
    have r2 : rd [bt s 0 / 32, bt s 0 % 32, bt s 1, bt s 2, bt s 3] 2 = bt s 1 := rfl
    have r3 : rd [bt s 0 / 32, bt s 0 % 32, bt s 1, bt s 2, bt s 3] 3 = bt s 2 := rfl
    have r4 : rd [bt s 0 / 32, bt s 0 % 32, bt s 1, bt s 2, bt s 3] 4 = bt s 3 := rfl
    have m0 : bt s 0 / 32 % 256 = bt s 0 / 32 := by omega
    have m1 : bt s 0 % 32 % 256 = bt s 0 % 32 := by omega
    have m2 : bt s 1 % 256 = bt s 1 := by omega
    have m3 : bt s 2 % 256 = bt s 2 := by omega
    have m4 : bt s 3 % 256 = bt s 3 := by omega
    simp only [r0, r1, r2, r3, r4, m0, m1, m2, m3, m4, List.length_cons, List.length_nil]
    rw [if_pos trivial, if_pos (by decide), size_ext s 4 s.size (Nat.le_refl _)]
    by_cases h5 : (s.size : Int) < 5 + bt s 3
    · rw [if_pos (by omega), if_pos h5]
    · rw [if_neg (by omega), if_neg h5, bt_ext s _ h3.1 (by omega), ext_ext s]
      by_cases hz : bt s (4 + bt s 3) = 0
      · rw [if_pos hz, if_pos hz, show 4 + (bt s 3).toNat = (4 + bt s 3).toNat from by omega]
      · rw [if_neg hz, if_neg hz]

end Go.Proofs.Ytmdaaphjndjakac.LAll
