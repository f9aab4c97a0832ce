/- Close of layer 4, the program's: it comes to a plain word. -/
import Derived.Test.YtmdaaphjndjakacGvBytes
import Derived.Test.YtmdaaphjndjakacPAllx3
namespace Go.Proofs.Ytmdaaphjndjakac.LAll
open Go.RowKit Go.Proofs.Ytmdaaphjndjakac.PAll Go.Proofs.YtmdaaphjndjakacW.PrintWords Go.Proofs.YtmdaaphjndjakacW.PrintLast Go.Proofs.YtmdaaphjndjakacW.PrintMore Go.Proofs.Ytmdaaphjndjakac
set_option linter.unusedVariables false

/-- A message's bytes, or what is wrong. -/
def oamClose (l v c f o : Int) (s : ByteArray) : ByteArray × Int :=
  if l ≤ 7 ∧ v ≤ 31 then (if (s.size : Int) = o then ((strOfNums [l * 32 + v, c, f, o] ++ s) ++ ⟨#[0]⟩, 0) else (⟨#[]⟩, 3)) else (⟨#[]⟩, 4)
def isU8 (n : Int) : Prop := 0 ≤ n ∧ n ≤ 255

theorem oc_u64 {n : Int} (h : isU8 n) : IntKind.u64.wrap n = n := by have := h.1; have := h.2; simp [IntKind.wrap, IntKind.bits, IntKind.signed]; omega
theorem oc_wrap {n : Int} (h : isU8 n) : wrap64 n = n := by have := h.1; have := h.2; unfold wrap64; omega

theorem pack_oam (l v c f o : Int) (hl : isU8 l) (hv : isU8 v) (hc : isU8 c) (hf : isU8 f) (ho : isU8 o) :
    Gv.pack [(3, l), (5, v), (8, c), (8, f), (8, o)] = some (if l ≤ 7 ∧ v ≤ 31 then (strOfNums [l * 32 + v, c, f, o], 0) else (ByteArray.empty, 4)) := by
  have p3 : (2 : Int) ^ (3 : Int).toNat = 8 := by decide
  have p5 : (2 : Int) ^ (5 : Int).toNat = 32 := by decide
  have p8 : (2 : Int) ^ (8 : Int).toNat = 256 := by decide
  unfold isU8 at *
  have hu : Gv.isU64 [(3, l), (5, v), (8, c), (8, f), (8, o)] = true := by
    simp only [Gv.isU64, List.all_cons, List.all_nil, Bool.and_true, Bool.and_eq_true, decide_eq_true_eq]; unfold Gv.u64max; omega
  unfold Gv.pack
  rw [if_pos ⟨hu, by simp⟩]
  by_cases h : l ≤ 7 ∧ v ≤ 31
  · have hok : [((3 : Int), l), (5, v), (8, c), (8, f), (8, o)].all Gv.okPart = true := by
      simp only [List.all_cons, List.all_nil, Gv.okPart, p3, p5, p8, Bool.and_true, Bool.and_eq_true, Bool.or_eq_true, decide_eq_true_eq]; omega
    have e : Gv.allBits [(3, l), (5, v), (8, c), (8, f), (8, o)] = Gv.bitsOf 8 (l * 32 + v) ++ (Gv.bitsOf 8 c ++ (Gv.bitsOf 8 f ++ Gv.bitsOf 8 o)) := by
      have h32 : (2 : Int) ^ 5 = 32 := by decide
      have := Gv.bitsOf_join 3 5 l v hv.1 (by rw [h32]; omega)
      have e32 : (2 : Int) ^ 5 = 32 := by decide
      rw [e32] at this
      simp only [Gv.allBits, List.flatMap_cons, List.flatMap_nil, List.append_nil]
      show Gv.bitsOf 3 l ++ (Gv.bitsOf 5 v ++ _) = _
      rw [← List.append_assoc, this]
      rfl
    have elen : (Gv.bitsOf 8 (l * 32 + v) ++ (Gv.bitsOf 8 c ++ (Gv.bitsOf 8 f ++ Gv.bitsOf 8 o))).length % 8 = 0 := by
      simp only [List.length_append, Gv.bitsOf_length]
    rw [if_pos hok, e, if_pos elen, if_pos h, Gv.packB_byte, Gv.packB_byte, Gv.packB_byte, Gv.packB_last]
    rw [Int.emod_eq_of_lt (a := l * 32 + v) (by omega) (by omega), Int.emod_eq_of_lt hc.1 (by omega), Int.emod_eq_of_lt hf.1 (by omega), Int.emod_eq_of_lt ho.1 (by omega)]
    rfl
  · have hok : ¬ [((3 : Int), l), (5, v), (8, c), (8, f), (8, o)].all Gv.okPart = true := by
      simp only [List.all_cons, List.all_nil, Gv.okPart, p3, p5, p8, Bool.and_true, Bool.and_eq_true, Bool.or_eq_true, decide_eq_true_eq]; omega
    rw [if_neg hok, if_neg h]

/-- The program's Close. -/
theorem oam_close (l v c f o : Int) (s : ByteArray) (hs : s.size ≤ 100000) (hl : isU8 l) (hv : isU8 v) (hc : isU8 c) (hf : isU8 f) (ho : isU8 o) : oam_Close.f l v c f o s = some (oamClose l v c f o s) := by
  unfold oam_Close.f field_Pack.f oamClose
  rw [oc_u64 hl, oc_u64 hv, oc_u64 hc, oc_u64 hf, oc_u64 ho]
  simp only [List.map_cons, List.map_nil]
  rw [pack_oam l v c f o hl hv hc hf ho, oc_wrap ho]
  have hz : (strOfNums [l * 32 + v, c, f, o]).size = 4 := by rw [strOfNums_size]; rfl
  by_cases h : l ≤ 7 ∧ v ≤ 31
  · rw [if_pos h, if_pos h]
    simp only [Option.bind_some]
    rw [if_pos trivial, hz]
    by_cases h2 : (s.size : Int) = o
    · rw [if_pos h2, if_pos h2, if_pos (by omega), if_pos (by omega)]
    · rw [if_neg h2, if_neg h2]
  · rw [if_neg h, if_neg h]
    simp only [Option.bind_some]
    rw [if_neg (by decide)]

end Go.Proofs.Ytmdaaphjndjakac.LAll
