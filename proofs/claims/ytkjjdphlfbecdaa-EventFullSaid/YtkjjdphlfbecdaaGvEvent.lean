/- Events: their plain word; event.Close walked by hand. -/
import Derived.Test.YtkjjdphlfbecdaaGvPack
import Derived.Test.YtkjjdphlfbecdaaGvBytes
import Derived.Test.YtkjjdphlfbecdaaGvShelfWrite
import Derived.Test.YtkjjdphlfbecdaaGvShelfText
import Derived.Lib.UnsafeStr
namespace Go.Proofs.Ytkjjdphlfbecdaa.Gv
open Go.RowKit Go.Proofs.YtkjjdphlfbecdaaW.PrintWords Go.Proofs.YtkjjdphlfbecdaaW.PrintLast Go.Proofs.YtkjjdphlfbecdaaW.PrintMore
set_option linter.unusedVariables false
set_option linter.unusedSimpArgs false
/-- An event: its kind, its three numbers, its bytes. -/
abbrev Ev := Int × Int × Int × Int × ByteArray
def evWrong (e : Ev) : Int := if e.1 > 7 then 10 else if (e.2.2.2.2.size : Int) > 1600 then 2 else 0
def evHead (e : Ev) : List Int := [e.1, e.2.1, e.2.2.1, e.2.2.2.1, (e.2.2.2.2.size : Int) / 256, (e.2.2.2.2.size : Int) % 256]
def u8s (l : List Int) : List UInt8 := l.map fun n => UInt8.ofNat n.toNat
def evBytes (e : Ev) : List UInt8 := u8s (evHead e) ++ e.2.2.2.2.data.toList
def evAll (l : List Ev) : List UInt8 := l.flatMap evBytes
def EvIn (e : Ev) : Prop := (0 ≤ e.1 ∧ e.1 ≤ 255) ∧ (0 ≤ e.2.1 ∧ e.2.1 ≤ 255) ∧ (0 ≤ e.2.2.1 ∧ e.2.2.1 ≤ 255) ∧ (0 ≤ e.2.2.2.1 ∧ e.2.2.2.1 ≤ 255)
/-- What is wrong with the first event that is wrong. -/
def evFirst : List Ev → Int
  | [] => 0
  | e :: l => if evWrong e = 0 then evFirst l else evWrong e
def evClose (l : List Ev) : ByteArray × Int := if evFirst l = 0 then (if l.length > 10000 then (⟨#[]⟩, 9) else (⟨(evAll l).toArray⟩, 0)) else (⟨#[]⟩, evFirst l)
def ez : Ev := (0, 0, 0, 0, ⟨#[]⟩)
theorem evFirst_at (l : List Ev) : ∀ (k : Nat), k < l.length → (∀ e ∈ l.take k, evWrong e = 0) → evWrong (l.getD k ez) ≠ 0 → evFirst l = evWrong (l.getD k ez) := by
  induction l with
  | nil => intro k h; simp at h
  | cons e l ih =>
    intro k h hok hb
    cases k with
    | zero =>
      rw [List.getD_cons_zero] at hb ⊢
      unfold evFirst
      rw [if_neg hb]
    | succ k =>
      rw [List.getD_cons_succ] at hb ⊢
      unfold evFirst
      rw [if_pos (hok e (by simp))]
      exact ih k (by simpa using h) (fun x hx => hok x (by simp [hx])) hb
theorem evFirst_ok (l : List Ev) (hok : ∀ e ∈ l, evWrong e = 0) : evFirst l = 0 := by
  induction l with
  | nil => rfl
  | cons e l ih =>
    unfold evFirst
    rw [if_pos (hok e (by simp))]
    exact ih (fun x hx => hok x (by simp [hx]))
theorem ev_snoc (l : List Ev) (k : Nat) (h : k < l.length) : l.take (k + 1) = l.take k ++ [l.getD k ez] := by
  rw [List.take_succ_eq_append_getElem h, List.getD_eq_getElem?_getD, List.getElem?_eq_getElem h]; rfl
theorem evAll_snoc (l : List Ev) (k : Nat) (h : k < l.length) : evAll (l.take (k + 1)) = evAll (l.take k) ++ evBytes (l.getD k ez) := by
  rw [ev_snoc l k h]; simp [evAll]
theorem evBytes_length (e : Ev) : (evBytes e).length = 6 + e.2.2.2.2.size := by
  simp only [evBytes, u8s, evHead, List.length_append, List.length_map, List.length_cons, List.length_nil, data_length]
theorem evWrong_zero {e : Ev} (h : evWrong e = 0) : e.1 ≤ 7 ∧ e.2.2.2.2.size ≤ 1600 := by
  unfold evWrong at h
  split at h
  · omega
  · split at h <;> omega
theorem evAll_length (l : List Ev) (hok : ∀ e ∈ l, evWrong e = 0) : (evAll l).length ≤ 1606 * l.length := by
  induction l with
  | nil => simp [evAll]
  | cons e l ih =>
    have h1 := ih (fun x hx => hok x (by simp [hx]))
    have h2 := evWrong_zero (hok e (by simp))
    have h3 := evBytes_length e
    have h4 : evAll (e :: l) = evBytes e ++ evAll l := rfl
    rw [h4, List.length_append, List.length_cons]
    omega
theorem packB_16 (n : Int) : packB (bitsOf 16 n) = [n / 256 % 256, n % 256] := by
  rw [show (16 : Nat) = 8 + 8 from rfl, bitsOf_8, packB_byte, packB_last]
theorem pack_ev (e : Ev) (h : EvIn e) (hs : e.2.2.2.2.size ≤ 65535) : pack [(8, e.1), (8, e.2.1), (8, e.2.2.1), (8, e.2.2.2.1), (16, (e.2.2.2.2.size : Int))] = some ((⟨(u8s (evHead e)).toArray⟩ : ByteArray), 0) := by
  obtain ⟨⟨a0, a1⟩, ⟨b0, b1⟩, ⟨c0, c1⟩, d0, d1⟩ := h
  have p8 : (2 : Int) ^ (8 : Int).toNat = 256 := by decide
  have p16 : (2 : Int) ^ (16 : Int).toNat = 65536 := by decide
  have hu : isU64 [((8 : Int), e.1), (8, e.2.1), (8, e.2.2.1), (8, e.2.2.2.1), (16, (e.2.2.2.2.size : Int))] = true := by
    simp only [isU64, List.all_cons, List.all_nil, Bool.and_true, Bool.and_eq_true, decide_eq_true_eq]; unfold u64max; omega
  have hok : [((8 : Int), e.1), (8, e.2.1), (8, e.2.2.1), (8, e.2.2.2.1), (16, (e.2.2.2.2.size : Int))].all okPart = true := by
    simp only [List.all_cons, List.all_nil, okPart, p8, p16, Bool.and_true, Bool.and_eq_true, Bool.or_eq_true, decide_eq_true_eq]
    exact ⟨⟨by omega, .inr (by omega)⟩, ⟨by omega, .inr (by omega)⟩, ⟨by omega, .inr (by omega)⟩, ⟨by omega, .inr (by omega)⟩, by omega, .inr (by omega)⟩
  have hbits : allBits [((8 : Int), e.1), (8, e.2.1), (8, e.2.2.1), (8, e.2.2.2.1), (16, (e.2.2.2.2.size : Int))] = bitsOf 8 e.1 ++ (bitsOf 8 e.2.1 ++ (bitsOf 8 e.2.2.1 ++ (bitsOf 8 e.2.2.2.1 ++ bitsOf 16 (e.2.2.2.2.size : Int)))) := by
    simp only [allBits, List.flatMap_cons, List.flatMap_nil, List.append_nil]; rfl
  unfold pack
  rw [if_pos ⟨hu, by simp⟩, if_pos hok, hbits, if_pos (by simp only [List.length_append, bitsOf_length])]
  rw [packB_byte, packB_byte, packB_byte, packB_byte, packB_16, Int.emod_eq_of_lt a0 (by omega), Int.emod_eq_of_lt b0 (by omega), Int.emod_eq_of_lt c0 (by omega), Int.emod_eq_of_lt d0 (by omega), Int.emod_eq_of_lt (show 0 ≤ (e.2.2.2.2.size : Int) / 256 by omega) (by omega)]
  rfl
theorem bld_below {T e : TypeId} {B b : Nat} {bs : List Value} {w w' : World} (h : Lib.IsBuilderF T e B b bs w) (hb : Below w.heap.size w w') : Lib.IsBuilderF T e B b bs w' := by
  have key : ∀ p, Lib.BuilderAtF T e B b p bs w → Lib.BuilderAtF T e B b p bs w' := by
    rintro p ⟨hB, v, hbk, ⟨hl, ho⟩, hne⟩
    refine ⟨hB, v, blk_below hbk hb, ⟨hl, ?_⟩, hne⟩
    rcases ho with ho | ⟨g, cap, cur, fz, hv, hg0, hg, rest⟩
    · exact .inl ho
    · exact .inr ⟨g, cap, cur, fz, hv, hg0, blk_below hg hb, rest⟩
  exact h.elim (fun h => .inl (key _ h)) (fun h => .inr (key _ h))
theorem ev_calls_W {P : Program} {f : FuncId} {args : Array Value} {Q : Ending → World → Prop} {W : World} (h : ∀ W', W' = W → Calls P f args W' Q) : Calls P f args W Q := h W rfl
set_option maxHeartbeats 2000000 in
set_option maxRecDepth 100000 in
theorem wrong_calls (k a b c : Int) (s : ByteArray) (w : World) : Calls Try.prog 17 #[.agg #[.int .u8 k, .int .u8 a, .int .u8 b, .int .u8 c, .string s]] w fun e w' => e = .returned (.int .i64 (evWrong (k, a, b, c, s))) ∧ Below w.heap.size w w' := by
  by_cases h : k > 7
  · have q : decide (k > 7) = true := decide_eq_true h
    have q' : decide (7 < k) = true := decide_eq_true h
    rw [show evWrong (k, a, b, c, s) = 10 from if_pos h]
    go_enter Try.func17, Try.ntmps17
    go_wp2
    go_ret
    exact ⟨rfl, below_alloc (Below.refl _ _) _⟩
  · have q : decide (k > 7) = false := decide_eq_false h
    have q' : decide (7 < k) = false := decide_eq_false h
    by_cases h2 : (s.size : Int) > 1600
    · have r : decide ((s.size : Int) > 1600) = true := decide_eq_true h2
      have r' : decide (1600 < (s.size : Int)) = true := decide_eq_true h2
      have r2 : decide (1600 < s.size) = true := decide_eq_true (by omega)
      rw [show evWrong (k, a, b, c, s) = 2 from (if_neg h).trans (if_pos h2)]
      go_enter Try.func17, Try.ntmps17
      go_wp2
      go_ret
      exact ⟨rfl, below_alloc (Below.refl _ _) _⟩
    · have r : decide ((s.size : Int) > 1600) = false := decide_eq_false h2
      have r' : decide (1600 < (s.size : Int)) = false := decide_eq_false h2
      have r2 : decide (1600 < s.size) = false := decide_eq_false (by omega)
      rw [show evWrong (k, a, b, c, s) = 0 from (if_neg h).trans (if_neg h2)]
      go_enter Try.func17, Try.ntmps17
      go_wp2
      go_ret
      exact ⟨rfl, below_alloc (Below.refl _ _) _⟩
end Go.Proofs.Ytkjjdphlfbecdaa.Gv
