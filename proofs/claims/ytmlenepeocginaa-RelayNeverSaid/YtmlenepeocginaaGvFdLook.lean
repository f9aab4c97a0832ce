/- Tables of addresses: New, old, Look. -/
import Derived.Test.YtmlenepeocginaaGvFdAll
namespace Go.Proofs.Ytmlenepeocginaa.Gv
open Go.RowKit Go.Maps Go.WideElems Go.Lib Go.Proofs.YtmlenepeocginaaW.PrintWords Go.Proofs.YtmlenepeocginaaW.PrintLast Go.Proofs.YtmlenepeocginaaW.PrintMore
set_option linter.unusedVariables false
set_option linter.unusedSimpArgs false
/-- What a look-up finds. -/
def FND (L : List Rw) (k : Int × Int) (r : Rw) (ok : Bool) : Prop := (ok = true ∧ r ∈ L ∧ rk r = k) ∨ (ok = false ∧ r = (0, 0, 0, 0) ∧ ∀ q ∈ L, rk q ≠ k)
theorem zeroRow (w : World) : (zeroValue 64).run Try.prog w = .ok (rowV (0, 0, 0, 0)) w := by kernel_rfl
theorem tab_look (w : World) {ops : Array Oper} {rest : List Oper} {o : Oper} {a : Act} {Q : Exit → Act → World → Prop} (hg : o.guard = none) (m x : Operand) (hop : o.op = Op.lookup 24 m x true)
    (mb : Option Nat) (L : List Rw) (hT : Tab w mb L) (hm : a.eval m = .map mb) (k0 k1 : Int) (h1 : (Lit.int .u16 k0).wf = true) (h2 : (Lit.int .u64 k1).wf = true) (hx : a.eval x = .agg #[.int .u16 k0, .int .u64 k1])
    (hK : ∀ (r0 r1 r2 r3 : Int) (ok : Bool), FND L (k0, k1) (r0, r1, r2, r3) ok → wpList Try.prog ops Q rest (a.put o.dst (.tuple #[.agg #[.int .u16 r0, .int .u64 r1, .int .i64 r2, .int .i64 r3], .bool ok])) w) :
    wpList Try.prog ops Q (o :: rest) a w := by
  have hkey := fd_keyOf (k0, k1) h1 h2
  rcases hT with ⟨rfl, rfl⟩ | ⟨b, nn, D, rfl, hD, ho, _⟩
  · refine wpList_plain hg fun K' hK' => ?_
    have hrun := Maps.look_nil (w := w) true fd_keyed Try.underlying24 (zeroRow w) hkey
    simp only [keyV] at hrun
    unfold Oper.wp
    simp [execOp, hop, hm, hx, hrun, Result.andThen]
    exact hK' _ _ (hK 0 0 0 0 false (.inr ⟨rfl, rfl, by simp⟩))
  · refine wpList_lookup_own_ok w hg m x _ hop 69 64 fd_keyed Try.underlying24 RR (zeroRow w) (.held (0, 0, 0, 0)) [] (RR_mk _) b nn D hm ho _ (kl (k0, k1)) hx hkey ?_
    intro v ps hv
    obtain ⟨r, rfl, hr⟩ := RR_inv hv
    have hat : D.atKey (kl (k0, k1)) (.held (0, 0, 0, 0)) = .held r := congrArg Prod.fst hr
    refine hK r.1 r.2.1 r.2.2.1 r.2.2.2 _ ?_
    by_cases hh : ∃ q ∈ L, rk q = (k0, k1)
    · left
      obtain ⟨q, hq, hqk⟩ := hh
      refine ⟨(TD_has hD (k0, k1) h1 h2).2 ⟨q, hq, hqk⟩, ?_⟩
      have e := TD_at hD q hq (.held (0, 0, 0, 0))
      rw [hqk, hat] at e
      have e2 : r = q := by injection e
      rw [e2]
      exact ⟨hq, hqk⟩
    · right
      have hn : ∀ q ∈ L, rk q ≠ (k0, k1) := fun q hq e => hh ⟨q, hq, e⟩
      have e := TD_none hD (k0, k1) h1 h2 hn (.held (0, 0, 0, 0))
      rw [hat] at e
      have e2 : r = (0, 0, 0, 0) := by injection e
      rw [e2]
      refine ⟨?_, rfl, hn⟩
      cases hb : Maps.has D (kl (k0, k1)) with
      | false => rfl
      | true => exact absurd ((TD_has hD (k0, k1) h1 h2).1 hb) hh
theorem tab_len (w : World) {ops : Array Oper} {rest : List Oper} {o : Oper} {a : Act} {Q : Exit → Act → World → Prop} (hg : o.guard = none) (m : Operand) (hop : o.op = Op.call { callee := Callee.builtin Builtin.len, args := #[m], argTypes := #[24] })
    (mb : Option Nat) (L : List Rw) (hT : Tab w mb L) (hm : a.eval m = .map mb) (hK : wpList Try.prog ops Q rest (a.put o.dst (.int .i64 (L.length : Int))) w) :
    wpList Try.prog ops Q (o :: rest) a w := by
  rcases hT with ⟨rfl, rfl⟩ | ⟨b, nn, D, rfl, hD, ho, _⟩
  · refine wpList_plain hg fun K' hK' => ?_
    unfold Oper.wp
    simp [execOp, hop, resolve, invoke, builtin, hm, Maps.len_nil (w := w) Try.underlying24 o.type, Result.andThen]
    exact hK' _ _ hK
  · refine wpList_len_own w hg m _ hop 69 64 Try.underlying24 RR b nn D hm ho ?_
    rw [TD_size hD]
    exact hK
def newOk (room age : Int) : Prop := 1 ≤ room ∧ room ≤ 1024 ∧ 1 ≤ age ∧ age ≤ 1048576
set_option maxHeartbeats 4000000 in
theorem new_calls (room age : Int) (w : World) : Calls Try.prog 6 #[.int .i64 room, .int .i64 age] w fun e w' => ((newOk room age ∧ e = .returned (.tuple #[.agg #[.int .i64 room, .int .i64 age, .map none], .int .i64 0])) ∨ (¬ newOk room age ∧ e = .returned (.tuple #[.agg #[.int .i64 0, .int .i64 0, .map none], .int .i64 4]))) ∧ Below w.heap.size w w' := by
  go_enter Try.func6, Try.ntmps6
  go_wp2_with fail
  all_goals
    (try simp only [Exit.inBlock, Exit.then])
    refine bodyPost_ret (results_ct rfl _ _ w.heap.size 26 _ (0, 0) _ rfl (blk_new _ _) Try.underlying26 rfl (by kernel_rfl)) rfl ?_
    first
    | exact ⟨.inl ⟨by unfold newOk; omega, rfl⟩, below_alloc (Below.refl _ _) _⟩
    | exact ⟨.inr ⟨by unfold newOk; omega, rfl⟩, below_alloc (Below.refl _ _) _⟩
set_option maxHeartbeats 4000000 in
theorem old_calls (room age r0 r1 r2 r3 now : Int) (mb : Option Nat) (w : World) : Calls Try.prog 33 #[.agg #[.int .i64 room, .int .i64 age, .map mb], .agg #[.int .u16 r0, .int .u64 r1, .int .i64 r2, .int .i64 r3], .int .i64 now] w fun e w' => e = .returned (.bool (decide (age ≤ wrap64 (now - r3)))) ∧ Below w.heap.size w w' := by
  go_enter Try.func33, Try.ntmps33
  go_wp2_with fail
  all_goals go_ret
  all_goals exact ⟨rfl, below_alloc (below_alloc (Below.refl _ _) _) _⟩
set_option maxHeartbeats 4000000 in
set_option maxRecDepth 100000 in
theorem look_calls (room age now k0 k1 : Int) (mb : Option Nat) (L : List Rw) (h1 : (Lit.int .u16 k0).wf = true) (h2 : (Lit.int .u64 k1).wf = true) (w : World) (hT : Tab w mb L) : Calls Try.prog 10 #[.agg #[.int .i64 room, .int .i64 age, .map mb], .int .i64 now, .int .u16 k0, .int .u64 k1] w fun e w' => (∃ (r : Rw) (ok : Bool), FND L (k0, k1) r ok ∧ ((ok = true ∧ wrap64 (now - r.2.2.2) < age ∧ e = .returned (.tuple #[.int .i64 r.2.2.1, .bool true])) ∨ ((ok = false ∨ age ≤ wrap64 (now - r.2.2.2)) ∧ e = .returned (.tuple #[.int .i64 (-1), .bool false])))) ∧ Below w.heap.size w w' := by
  go_enter Try.func10, Try.ntmps10
  have HT := Lib.hid hT
  clear hT
  go_wp2_with (first | (at_lookup; refine tab_look _ rfl _ _ rfl mb L (HT.out.below (by repeat (first | exact Below.refl _ _ | apply below_alloc))) rfl k0 k1 h1 h2 rfl ?_; intro r0 r1 r2 r3 ok hf) | go_in)
  all_goals
    rename_i hres
    go_ret2
    refine ⟨⟨(r0, r1, r2, r3), ok, hf, ?_⟩, by repeat (first | exact Below.refl _ _ | apply below_alloc)⟩
    first
    | exact .inl ⟨by assumption, by assumption, rfl⟩
    | exact .inr ⟨.inr (by assumption), rfl⟩
    | exact .inr ⟨.inl (by simpa using hres), rfl⟩
end Go.Proofs.Ytmlenepeocginaa.Gv
