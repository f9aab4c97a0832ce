/- event.events, its iterator, walked by hand. -/
import Derived.Test.YtkjjdphlfbecdaaGvEvOne
import Derived.RangeFuncMany
import Derived.RangeFuncLeaves
import Derived.RangeFuncRecord
import Derived.RangeFuncBox
import Derived.TacticsIn
import Derived.BigFrameIn
import Derived.LoopIn
namespace Go.Proofs.Ytkjjdphlfbecdaa.Gv
open Go.RowKit Go.Proofs.YtkjjdphlfbecdaaW.PrintWords Go.Proofs.YtkjjdphlfbecdaaW.PrintLast Go.Proofs.YtkjjdphlfbecdaaW.PrintMore
set_option linter.unusedVariables false
set_option linter.unusedSimpArgs false
set_option maxHeartbeats 4000000 in
set_option maxRecDepth 100000 in
theorem events_calls (s : ByteArray) (w : World) : Calls Try.prog 21 #[.string s] w fun e w' => e = .returned (.func (.func 25) #[] #[.pointer (some ⟨w.heap.size, 0, none⟩)]) ∧ w' = w.alloc (.cells #[.string s] 9) := by
  go_enter Try.func21, Try.ntmps21
  go_wp2_with fail
  go_ret
  exact ⟨rfl, rfl⟩
theorem oneP_less (t : ByteArray) (h : t.size ≠ 0) : (oneP t).2.1.size < t.size := by
  unfold oneP
  split
  · show (⟨#[]⟩ : ByteArray).size < t.size
    rw [show (⟨#[]⟩ : ByteArray).size = 0 from rfl]; omega
  · split
    · show (⟨#[]⟩ : ByteArray).size < t.size
      rw [show (⟨#[]⟩ : ByteArray).size = 0 from rfl]; omega
    · show ((t.extract 6 t.size).extract _ _).size < t.size
      rw [ByteArray.size_extract, ByteArray.size_extract]; omega
/-- What Open comes to, from what has come and what is left. -/
def runP (t : ByteArray) (out : List Ev) : List Ev × Int :=
  if h : t.size = 0 then (out, 0)
  else if out.length = 10000 then ([], 9)
  else if (oneP t).2.2 = 0 then runP (oneP t).2.1 (out ++ [(oneP t).1]) else ([], (oneP t).2.2)
termination_by t.size
decreasing_by exact oneP_less t h
theorem runP_end (t : ByteArray) (out : List Ev) (h : t.size = 0) : runP t out = (out, 0) := by rw [runP, dif_pos h]
theorem runP_full (t : ByteArray) (out : List Ev) (h : t.size ≠ 0) (hl : out.length = 10000) : runP t out = ([], 9) := by rw [runP, dif_neg h, if_pos hl]
theorem runP_bad (t : ByteArray) (out : List Ev) (h : t.size ≠ 0) (hl : out.length ≠ 10000) (he : (oneP t).2.2 ≠ 0) : runP t out = ([], (oneP t).2.2) := by rw [runP, dif_neg h, if_neg hl, if_neg he]
theorem runP_on (t : ByteArray) (out : List Ev) (h : t.size ≠ 0) (hl : out.length ≠ 10000) (he : (oneP t).2.2 = 0) : runP t out = runP (oneP t).2.1 (out ++ [(oneP t).1]) := by rw [runP, dif_neg h, if_neg hl, if_pos he]
theorem oneP_size (t : ByteArray) : (oneP t).2.1.size ≤ t.size := by
  by_cases h : t.size = 0
  · rw [show oneP t = (ez, ⟨#[]⟩, 1) from if_pos (by omega)]; exact Nat.zero_le _
  · exact Nat.le_of_lt (oneP_less t h)
def evAgg (x : Ev) : Value := .agg #[.int .u8 x.1, .int .u8 x.2.1, .int .u8 x.2.2.1, .int .u8 x.2.2.2.1, .string x.2.2.2.2]
def YieldsTo (bs : Nat) (J : List Ev → World → Prop) (Jx : List Ev × Int → World → Prop) (o : List Ev) (x : Ev) (e : Int) (W1 : World) (r : Ending) (W' : World) : Prop :=
  (o.length = 10000 ∧ r = .returned (.bool false) ∧ Jx ([], 9) W') ∨ (o.length ≠ 10000 ∧ e ≠ 0 ∧ r = .returned (.bool false) ∧ Jx ([], e) W') ∨ (o.length ≠ 10000 ∧ e = 0 ∧ r = .returned (.bool true) ∧ J (o ++ [x]) W' ∧ W'.heap[bs]? = W1.heap[bs]?)
def ItRel (bs : Nat) (J : List Ev → World → Prop) (s : ByteArray) (W : World) (t : ByteArray) (o : List Ev) : Prop := t.size ≤ 100000 ∧ Boxed W bs 9 (.string t) ∧ J o W ∧ runP s [] = runP t o
def strIn (W : World) (bs : Nat) : Nat := match W.cell? ⟨bs, 0, none⟩ with | some (Value.string t) => t.size | _ => 0
theorem strIn_box {W : World} {bs : Nat} {t : ByteArray} (h : Boxed W bs 9 (.string t)) : strIn W bs = t.size := by unfold strIn; rw [h.cell]
theorem isEmpty_size (t : ByteArray) : t.toList.isEmpty = decide (t.size = 0) := by
  rw [ByteArray.toList_eq]
  by_cases h : t.size = 0
  · rw [decide_eq_true h, List.isEmpty_iff]; exact List.eq_nil_of_length_eq_zero ((data_length t).trans h)
  · rw [decide_eq_false h, List.isEmpty_eq_false_iff]; intro e; have := data_length t; rw [e] at this; exact h this.symm
set_option maxHeartbeats 4000000 in
set_option maxRecDepth 100000 in
theorem iter_calls (n l bs : Nat) (J : List Ev → World → Prop) (Jx : List Ev × Int → World → Prop)
    (hJset : ∀ o W v, J o W → J o (W.setCell ⟨bs, 0, none⟩ v))
    (hJb : ∀ o W W', J o W → Below W.heap.size W W' → J o W')
    (hY : ∀ o x e W1, J o W1 → (∃ t, Boxed W1 bs 9 (.string t)) → YieldAt Fence.wide (n - 1) Try.prog l #[evAgg x, .int .i64 e] W1 (YieldsTo bs J Jx o x e W1))
    (s : ByteArray) (hs : s.size ≤ 100000) (W : World) (h0 : J [] W) (hbox : Boxed W bs 9 (.string s)) :
    CallsIn Fence.wide n Try.prog 25 #[.func (.yield l) #[] #[], .pointer (some ⟨bs, 0, none⟩)] W fun e W' => (∃ v, e = .returned v) ∧ ((∃ o, runP s [] = (o, 0) ∧ J o W') ∨ (∃ r, runP s [] = r ∧ r.1 = [] ∧ Jx r W')) := by
  refine callsIn_of_wp Try.func25 rfl trivial ?_ rfl
  simp only [Try.ntmps25, List.size_toArray, List.length_cons, List.length_nil, Nat.reduceAdd, Nat.reduceSub, Array.replicate_succ, Array.replicate_zero, List.push_toArray, List.append_toArray, List.nil_append, List.cons_append]
  have HY := Lib.hid hY
  have HS := Lib.hid hJset
  have HB := Lib.hid hJb
  have H0 := Lib.hid h0
  clear hY hJset hJb h0
  gi_wp2_with fail
  gi_loopw [] (fun wr => ∃ t o, ItRel bs J s wr t o) (fun wr => strIn wr bs)
  case atStart => exact ⟨s, [], hs, hbox, H0.out, rfl⟩
  case round =>
    clear hbox H0
    obtain ⟨t, o, ht, hbx, hj, hr⟩ := hrel
    have HJ := Lib.hid hj
    have HR := Lib.hid hr
    clear hj hr
    have c0 := hbx.cell
    have f0 := hbx.frozen
    by_cases hz : t.size = 0
    · have q1 := isEmpty_size t
      rw [decide_eq_true hz] at q1
      gi_wp2_with fail
      go_end0
      exact ⟨⟨_, rfl⟩, .inl ⟨o, HR.out.trans (runP_end t o hz), HJ.out⟩⟩
    · have q1 := isEmpty_size t
      rw [decide_eq_false hz] at q1
      gi_wp2_with fail
      refine ⟨trivial, (fun h => by cases h), callsIn_wide.2 ((one_calls t ht wr).mono ?_)⟩
      rintro e' w2 ⟨rfl, hb2⟩
      have hbx2 : Boxed w2 bs 9 (.string t) := blk_below hbx hb2
      have HJ2 := Lib.hid (HB.out _ _ _ HJ.out hb2)
      clear HJ hb2 c0 f0
      generalize hone : oneP t = p
      obtain ⟨⟨xk, xa, xb, xc, xs⟩, rest, er⟩ := p
      have HO := Lib.hid hone
      clear hone
      have c0 := hbx2.cell
      have f0 := hbx2.frozen
      have hne : bs ≠ w2.heap.size := Nat.ne_of_lt hbx2.lt
      have hxb : ((w2.alloc (.cells #[.int .u8 xk, .int .u8 xa, .int .u8 xb, .int .u8 xc, .string xs] 28)).setCell ⟨bs, 0, none⟩ (.string rest)).heap[w2.heap.size]? = some (.cells #[.int .u8 xk, .int .u8 xa, .int .u8 xb, .int .u8 xc, .string xs] 28 (0, 0)) := (Below.heap_setCell _ _ _ _ (Ne.symm hne)).trans (blk_new _ _)
      have hbxa : Boxed (w2.alloc (.cells #[.int .u8 xk, .int .u8 xa, .int .u8 xb, .int .u8 xc, .string xs] 28)) bs 9 (.string t) := hbx2.alloc _
      have ca := hbxa.cell
      have fa := hbxa.frozen
      have z0 := (blk_cell hxb 0).trans rfl
      have z1 := (blk_cell hxb 1).trans rfl
      have z2 := (blk_cell hxb 2).trans rfl
      have z3 := (blk_cell hxb 3).trans rfl
      have z4 := (blk_cell hxb 4).trans rfl
      have hj3 : J o ((w2.alloc (.cells #[.int .u8 xk, .int .u8 xa, .int .u8 xb, .int .u8 xc, .string xs] 28)).setCell ⟨bs, 0, none⟩ (.string rest)) := HS.out _ _ _ (HB.out _ _ _ HJ2.out (below_alloc (Below.refl _ _) _))
      have hb3 : Boxed ((w2.alloc (.cells #[.int .u8 xk, .int .u8 xa, .int .u8 xb, .int .u8 xc, .string xs] 28)).setCell ⟨bs, 0, none⟩ (.string rest)) bs 9 (.string rest) := (hbx2.alloc _).set _
      obtain ⟨f1, t1, a1, b1, hy1, hR1⟩ := HY.out o (xk, xa, xb, xc, xs) er _ hj3 ⟨rest, hb3⟩
      have HB3 := Lib.hid hb3
      have HR1 := Lib.hid hR1
      clear hj3 hb3 hR1
      dsimp only [evAgg] at hy1
      gi_wp2_with fail
      refine ⟨(fun h => by cases h), HR1.out.mono ?_⟩
      rintro e' W4 (⟨hl, rfl, hx⟩ | ⟨hl, he, rfl, hx⟩ | ⟨hl, he, rfl, hj4, hk4⟩)
      · have HX := Lib.hid hx
        clear hx
        gi_wp2_with fail
        refine bodyPost_ret (results_none rfl _ _ _) rfl ?_
        exact ⟨⟨_, rfl⟩, .inr ⟨_, HR.out.trans (runP_full t o hz hl), rfl, HX.out⟩⟩
      · have HX := Lib.hid hx
        have HE := Lib.hid he
        clear hx he
        gi_wp2_with fail
        refine bodyPost_ret (results_none rfl _ _ _) rfl ?_
        refine ⟨⟨_, rfl⟩, .inr ⟨_, HR.out.trans (runP_bad t o hz hl (by rw [HO.out]; exact HE.out)), rfl, ?_⟩⟩
        rw [HO.out]; exact HX.out
      · have HJ4 := Lib.hid hj4
        have hb4 : Boxed W4 bs 9 (.string rest) := hk4.trans HB3.out
        have HB4 := Lib.hid hb4
        have HE := Lib.hid he
        clear hj4 hk4 hb4 he
        gi_wp2_with fail
        go_roundw
        case rel =>
          refine ⟨rest, o ++ [(xk, xa, xb, xc, xs)], ?_, HB4.out, HJ4.out, ?_⟩
          · have := oneP_size t; rw [HO.out] at this; exact Nat.le_trans this ht
          · rw [HR.out, runP_on t o hz hl (by rw [HO.out]; exact HE.out), HO.out]
        case measure =>
          rw [strIn_box HB4.out, strIn_box hbx]
          have := oneP_less t hz
          rw [HO.out] at this
          exact this
end Go.Proofs.Ytkjjdphlfbecdaa.Gv
