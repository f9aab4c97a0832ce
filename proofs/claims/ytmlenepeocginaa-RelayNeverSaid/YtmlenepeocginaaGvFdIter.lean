/- Tables of addresses: the rows come out of the map, in some order. -/
import Derived.Test.YtmlenepeocginaaGvFdMap
import Derived.RangeFuncFrom
import Derived.RangeFuncLeaves
import Derived.RangeFuncBox
import Derived.TacticsIn
import Derived.BigFrameIn
import Derived.LoopIn
import Derived.LoopNIn
import Derived.Laws.IdiomRangeMap
import Derived.OwnWalkIn
namespace Go.Proofs.Ytmlenepeocginaa.Gv
open Go.RowKit Go.Maps Go.WideElems Go.Proofs.YtmlenepeocginaaW.PrintWords Go.Proofs.YtmlenepeocginaaW.PrintLast Go.Proofs.YtmlenepeocginaaW.PrintMore
set_option linter.unusedVariables false
set_option linter.unusedSimpArgs false
set_option maxHeartbeats 2000000 in
theorem values_calls (mb : Option Nat) (w : World) : Calls Try.prog 22 #[.map mb] w fun e w' => e = .returned (.func (.func 48) #[] #[.pointer (some ⟨w.heap.size, 0, none⟩)]) ∧ w' = w.alloc (.cells #[.map mb] 24) := by
  go_enter Try.func22, Try.ntmps22
  go_wp2_with fail
  go_ret
  exact ⟨rfl, rfl⟩
def VRel (L : List Rw) (D : DataW Rw) (b r nn : Nat) (J : List Rw → World → Prop) (wr : World) (left : Lit → Bool) (cnt : Nat) (ps : List Rw) : Prop :=
  wr.ranges Try.prog 69 RR b r nn D left cnt ∧ ps.Nodup ∧ (∀ q, q ∈ ps ↔ q ∈ L ∧ left (kl (rk q)) = false) ∧ ps.length + cnt ≤ L.length ∧ J ps wr
theorem same_string {a : List UInt8} {l : Lit} (h : (Lit.string a).sameKey l = true) : l = .string a := by
  cases l <;> simp [Lit.sameKey] at h
  rw [h]
theorem TD_found {L : List Rw} {D : DataW Rw} (h : TD L D) {l : Lit} {c : Rw} (hat : ∀ zd, D.atKey l zd = .held c) : c ∈ L ∧ l = kl (rk c) := by
  obtain ⟨hi, _, E, rfl, h4⟩ := h
  have e := hat .nil
  rw [at_find] at e
  cases hf : E.find? (fun p => p.1.sameKey l) with
  | none => rw [hf] at e; cases e
  | some p =>
    rw [hf] at e
    obtain ⟨r, hr, rfl⟩ := List.mem_map.1 (h4.mem_iff.1 (List.mem_of_find?_eq_some hf))
    have hrc : r = c := by injection e
    subst hrc
    have hs := List.find?_some hf
    exact ⟨hr, same_string (show (kl (rk r)).sameKey l = true from hs)⟩
set_option maxRecDepth 100000 in
set_option maxHeartbeats 4000000 in
theorem values_in (n l Bm b nn : Nat) (L : List Rw) (D : DataW Rw) (hT : TD L D) (J Jx : List Rw → World → Prop)
    (hY : ∀ pre x W, J pre W → pre.length < L.length → YieldAt Fence.wide (n - 1) Try.prog l #[rowV x] W fun e W' => (e = .returned (.bool true) ∧ J (pre ++ [x]) W' ∧ KeepsWalks W W') ∨ (e = .returned (.bool false) ∧ Jx (pre ++ [x]) W'))
    (W : World) (hJ : AbidesFrom W.heap.size J) (hm : W.cell? ⟨Bm, 0, none⟩ = some (.map (some b))) (hown : W.ownsMap Try.prog 69 RR b nn D) (h0 : J [] W) :
    CallsIn Fence.wide n Try.prog 48 #[.func (.yield l) #[] #[], .pointer (some ⟨Bm, 0, none⟩)] W fun e W' => (∃ v, e = .returned v) ∧ ((∃ xs, xs.Perm L ∧ J xs W') ∨ ∃ pre, Jx pre W') := by
  refine callsIn_of_wp Try.func48 rfl trivial ?_ rfl
  simp only [Try.ntmps48, List.size_toArray, List.length_cons, List.length_nil, Nat.reduceAdd, Nat.reduceSub, Array.replicate_succ, Array.replicate_zero, List.push_toArray, List.append_toArray, List.nil_append, List.cons_append]
  have HY := Lib.hid hY
  have HJ := Lib.hid hJ
  have H0 := Lib.hid h0
  have HT := Lib.hid hT
  clear hY hJ h0 hT
  gi_wp2_with (first
    | (gi_at_range; refine wpListIn_range_own _ rfl _ 24 rfl 69 64 fd_keyed Try.underlying24 RR b nn _ rfl hown ?_; intro w0 hrg0 hg0 hs0)
    | gi_in)
  simp only [Act.put, List.setIfInBounds_toArray, List.set_cons_zero, List.set_cons_succ]
  gi_loopw [] (fun wr => ∃ left cnt ps, VRel L D b W.heap.size nn J wr left cnt ps) (fun wr => wr.rangeLeft b W.heap.size)
  case atStart =>
    refine ⟨_, _, [], hrg0, List.nodup_nil, fun q => ⟨fun h => by simp at h, fun h => ?_⟩, by rw [TD_size HT.out]; simp, HJ.out [] W w0 none H0.out hg0 (fun r e => by cases e)⟩
    have := (TD_has HT.out (rk q) (HT.out.1 q h.1).1 (HT.out.1 q h.1).2).2 ⟨q, h.1, rfl⟩
    rw [this] at h
    exact absurd h.2 (by simp)
  case round =>
    obtain ⟨left, cnt, ps, hrg, hnd, hmem, hcs, hj⟩ := hrel
    have HM := Lib.hid hmem
    have HJJ := Lib.hid hj
    clear hmem hj hrg0 hg0 hs0 H0
    gi_wp2_with (first
      | (gi_at_next; refine wpListIn_next_ranges _ rfl _ rfl 69 fd_keyed RR (fun v : Value => v) rowV (fun key kl hk => ⟨key, rfl⟩) (fun v y hv => by obtain ⟨r, hr, _⟩ := RR_inv hv; exact ⟨r, hr⟩) b W.heap.size nn _ _ _ rfl hrg ?_ ?_)
      | gi_in)
    · intro hc0 hl0
      gi_wp2_with fail
      go_end0
      refine ⟨⟨_, rfl⟩, .inl ⟨ps, ?_, HJJ.out⟩⟩
      refine (List.perm_ext_iff_of_nodup hnd ?_).2 (fun q => by rw [HM.out q, hl0]; simp)
      exact HT.out.2.1.imp (fun h e => h (by rw [e]))
    · intro key c1 c2 c3 c4 l2 yd yp w2 cnt2 hkey hlk hv hat hrg2 hlt hg2 hs2 hen
      have hyd : yd = .held (c1, c2, c3, c4) := by
        rw [RR_mk] at hv
        exact (Prod.mk.inj (Option.some.inj hv)).1.symm
      subst hyd
      obtain ⟨hcL, rfl⟩ := TD_found HT.out hat
      have hJ2 : J ps w2 := HJ.out _ _ w2 (some W.heap.size) HJJ.out hg2 (fun r e => by cases e; exact ⟨Nat.le_refl _, hrg.iter_walk⟩)
      have hJ3 : J ps (w2.alloc (.cells #[.int .u16 c1, .int .u64 c2, .int .i64 c3, .int .i64 c4] 64)) := HJ.out _ w2 _ none hJ2 (World.grownBy_alloc _ _ _) (fun r e => by cases e)
      have hrg3 := hrg2.alloc (.cells #[.int .u16 c1, .int .u64 c2, .int .i64 c3, .int .i64 c4] 64)
      obtain ⟨fn, tmps, assign, body, hy, hR⟩ := HY.out ps (c1, c2, c3, c4) _ hJ3 (by omega)
      have HR := Lib.hid hR
      have HR3 := Lib.hid hrg3
      have HLT := Lib.hid hlt
      have HLK := Lib.hid hlk
      have HRG := Lib.hid hrg
      clear hs2 hR hrg3 hJ2 hJ3 hat hkey hv hg2 hlt hlk hrg hrg2
      dsimp only [rowV] at hy hen
      gi_wp2_with fail
      refine ⟨(fun h => by cases h), HR.out.mono ?_⟩
      rintro e W3 (⟨rfl, hJ3, hk3⟩ | ⟨rfl, hx3⟩)
      rotate_left
      · have HX3 := Lib.hid hx3
        clear hx3
        gi_wp2_with fail
        refine bodyPost_ret (results_none rfl _ _ _) rfl ?_
        exact ⟨⟨_, rfl⟩, .inr ⟨_, HX3.out⟩⟩
      have HJ3 := Lib.hid hJ3
      have HK3 := Lib.hid hk3
      clear hJ3 hk3
      gi_wp2_with fail
      have hrg4 := HR3.out.of_walks HK3.out
      go_roundw
      case rel =>
        refine ⟨_, cnt2, ps ++ [(c1, c2, c3, c4)], hrg4, ?_, ?_, by have := HLT.out; rw [List.length_append, List.length_singleton]; omega, HJ3.out⟩
        · rw [List.nodup_append]
          refine ⟨hnd, by simp, fun q hq q' hq' e => ?_⟩
          rw [List.mem_singleton.1 hq'] at e
          subst e
          have h := ((HM.out _).1 hq).2
          rw [HLK.out] at h
          cases h
        · intro q
          constructor
          · intro hq
            rcases List.mem_append.1 hq with h | h
            · obtain ⟨h1, h2⟩ := (HM.out q).1 h
              exact ⟨h1, by rw [h2]; rfl⟩
            · rw [List.mem_singleton.1 h]
              exact ⟨hcL, by rw [show (kl (rk (c1, c2, c3, c4))).sameKey (kl (rk (c1, c2, c3, c4))) = true from (kl_same _ _).2 rfl]; simp⟩
          · rintro ⟨h1, h2⟩
            by_cases hlq : left (kl (rk q)) = false
            · exact List.mem_append.2 (.inl ((HM.out q).2 ⟨h1, hlq⟩))
            · have hs : (kl (rk q)).sameKey (kl (rk (c1, c2, c3, c4))) = true := by
                rw [Bool.not_eq_false] at hlq
                rw [hlq] at h2
                simpa using h2
              have hk := kl_inj (HT.out.1 q h1).1 (HT.out.1 q h1).2 (HT.out.1 _ hcL).1 (HT.out.1 _ hcL).2 ((kl_same _ _).1 hs)
              rw [pw_inj HT.out.2.1 h1 hcL hk]
              exact List.mem_append.2 (.inr (by simp))
      case measure => rw [hrg4.left_eq, HRG.out.left_eq]; exact HLT.out
set_option maxRecDepth 100000 in
set_option maxHeartbeats 2000000 in
theorem values_nil_in (n l Bm : Nat) (J : List Rw → World → Prop) (W : World) (hJ : AbidesFrom W.heap.size J) (hm : W.cell? ⟨Bm, 0, none⟩ = some (.map none)) (h0 : J [] W) :
    CallsIn Fence.wide n Try.prog 48 #[.func (.yield l) #[] #[], .pointer (some ⟨Bm, 0, none⟩)] W fun e W' => (∃ v, e = .returned v) ∧ J [] W' := by
  refine callsIn_of_wp Try.func48 rfl trivial ?_ rfl
  simp only [Try.ntmps48, List.size_toArray, List.length_cons, List.length_nil, Nat.reduceAdd, Nat.reduceSub, Array.replicate_succ, Array.replicate_zero, List.push_toArray, List.append_toArray, List.nil_append, List.cons_append]
  have hrg := run_range_nilMap (P := Try.prog) W 24 69 64 Try.underlying24
  have hnx : ∀ ty, (Instr.next (.pointer (some ⟨W.heap.size, 0, none⟩)) false ty).run Try.prog (W.alloc (.mapIter none 0 #[] 0)) = _ := fun ty => run_next_nilMap _ ty 0 0 #[]
  gi_wp2
  refine wpIn_loop_rounds 1 ?_
  rw [roundsIn_succ]
  gi_wp2
  go_end0
  exact ⟨⟨_, rfl⟩, hJ [] W _ none h0 (World.grownBy_alloc W _ none) (fun r e => by cases e)⟩
/-- A table's rows in memory: the map's value, the rows in some order. -/
def Tab (w : World) (mb : Option Nat) (L : List Rw) : Prop := (mb = none ∧ L = []) ∨ ∃ b nn D, mb = some b ∧ TD L D ∧ w.ownsMap Try.prog 69 RR b nn D ∧ nn ≤ 1000000
theorem owns_below {w w' : World} {b n : Nat} {D : DataW Rw} (h : w.ownsMap Try.prog 69 RR b n D) (hb : Below w.heap.size w w') : w'.ownsMap Try.prog 69 RR b n D := by
  have hl := h.lt
  obtain ⟨es, clock, h1, h2, h3, h4⟩ := h
  exact ⟨es, clock, (hb.block b hl).trans h1, h2, h3, h4⟩
theorem Tab.below {w w' : World} {mb : Option Nat} {L : List Rw} (h : Tab w mb L) (hb : Below w.heap.size w w') : Tab w' mb L := by
  rcases h with h | ⟨b, nn, D, h1, h2, h3, h4⟩
  · exact .inl h
  · exact .inr ⟨b, nn, D, h1, h2, owns_below h3 hb, h4⟩
/-- The iterator's contract. -/
theorem values_stops (n Bm : Nat) (mb : Option Nat) (L : List Rw) (w : World) (hT : Tab w mb L) (hm : w.cell? ⟨Bm, 0, none⟩ = some (.map mb)) :
    SeqStopsK Fence.wide n Try.prog 48 #[.pointer (some ⟨Bm, 0, none⟩)] (fun r : Rw => #[rowV r]) KeepsWalks (fun xs => xs.Perm L) (fun _ => True) L.length w := by
  intro l J Jx W hW hJ hJx hY h0
  have hm2 : W.cell? ⟨Bm, 0, none⟩ = some (.map mb) := (hW.cell (p := ⟨Bm, 0, none⟩) (World.block_lt_of_cell? w _ hm)).trans hm
  rcases hT.below hW with ⟨rfl, rfl⟩ | ⟨b, nn, D, rfl, h2, h3, _⟩
  · exact (values_nil_in n l Bm J W hJ hm2 h0).mono fun e W' ⟨he, hj⟩ => ⟨he, .inl ⟨[], List.Perm.refl _, hj⟩⟩
  · exact (values_in n l Bm b nn L D h2 J Jx hY W hJ hm2 h3 h0).mono fun e W' ⟨he, hj⟩ => ⟨he, hj.elim .inl (fun ⟨pre, hp⟩ => .inr ⟨pre, trivial, hp⟩)⟩
end Go.Proofs.Ytmlenepeocginaa.Gv
