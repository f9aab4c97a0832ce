/- Wires, walked by hand. -/
import Derived.Test.YtehicbehljfkhaaGwA
namespace Go.Proofs.Ytehicbehljfkhaa.Wi
set_option linter.unusedVariables false
set_option linter.unusedSimpArgs false
open Go.RowKit Go.Proofs.YtehicbehljfkhaaW.PrintWords Go.Proofs.YtehicbehljfkhaaW.PrintLast Go.Proofs.YtehicbehljfkhaaW.PrintMore
theorem wire_short (w : World) (A : Option Addr) (c : Nat) : WireV w (.slice A 0 c) [] := by
  refine ⟨A, c, rfl, Nat.zero_le _, ?_, fun ad _ hl => absurd hl (by simp)⟩
  exact ⟨rfl, by decide, fun h => absurd h (by simp)⟩
def PopPost (room : Int) (d : Bool) (l : List ByteArray) (x : ByteArray) (w : World) (e : Ending) (w' : World) : Prop := ∃ v', e = .returned (.tuple #[.agg #[.int .i64 room, .bool d, v'], .string x, .bool true]) ∧ WireV w' v' l ∧ Below w.heap.size w w'
set_option maxHeartbeats 4000000 in
set_option maxRecDepth 100000 in
theorem pop_ok (room : Int) (d : Bool) (v : Value) (x : ByteArray) (l : List ByteArray) (w : World) (hv : WireV w v (x :: l)) (hb : l.length ≤ 1000) :
    Calls Try.prog 11 #[.agg #[.int .i64 room, .bool d, v]] w (PopPost room d l x w) := by
  obtain ⟨A, c, rfl, hc, hC, hT⟩ := hv
  obtain ⟨ad, rfl, hcell⟩ := Kd.at_string hC 0 (by decide) (by simp <;> omega)
  have hx : w.cell? (ad.add 0) = some (.string x) := hcell
  have hlt := World.block_lt_of_cell? w _ hx
  have HC := Lib.hid hC
  have HT := Lib.hid hT
  clear hC hT hcell
  have hpn : ad.spot = none := by
    obtain ⟨b, o, p⟩ := ad
    cases p with
    | none => rfl
    | some q => unfold World.cell? at hx; simp only [Addr.add, Option.isSome_some, if_true] at hx; split at hx <;> cases hx
  have hu24 := Try.underlying24
  rw [Addr.add_zero'] at hx hlt
  have hx2 := (World.cell?_alloc_lt (w.alloc (.cells #[.int .i64 room, .bool d, .slice (some ad) (x :: l).length c] 24)) (.cells #[.int .i64 0, .bool false, .slice none 0 0] 24) ad (by simp <;> omega)).trans ((World.cell?_alloc_lt w (.cells #[.int .i64 room, .bool d, .slice (some ad) (x :: l).length c] 24) ad hlt).trans hx)
  clear hx
  simp only [List.length_cons] at hc hx2 ⊢
  have h0 : decide ((0 : Int) < ((l.length + 1 : Nat) : Int)) = true := by simp <;> omega
  have h1 : (((l.length + 1 : Nat) : Int) == 0) = false := by simp <;> omega
  go_enter Try.func11, Try.ntmps11
  go_wp2
  · refine wi_post (fun W3 hW3 => ?_)
    have hV3 : WireV W3 (.slice (some ad) l.length 0) l := by
      rw [hW3]
      have hl0 : l = [] := List.eq_nil_of_length_eq_zero (by omega)
      subst hl0
      exact wire_short _ _ _
    have hn2 := blk_new (w.alloc (.cells #[.int .i64 room, .bool d, .slice (some ad) l.length 0] 24)) (.cells #[.int .i64 room, .bool d, .slice (some ad) l.length 0] 24)
    simp only [World.size_alloc] at hn2
    have hB3 : Below w.heap.size w W3 := by rw [hW3]; exact below_alloc (below_alloc (Below.refl _ w) _) _
    rw [← hW3] at hn2
    have x0 : W3.cell? ⟨w.heap.size + 1, 0, none⟩ = some (.int .i64 room) := (blk_cell hn2 0).trans rfl
    have x1 : W3.cell? ⟨w.heap.size + 1, 1, none⟩ = some (.bool d) := (blk_cell hn2 1).trans rfl
    have x2 : W3.cell? ⟨w.heap.size + 1, 2, none⟩ = some (.slice (some ad) l.length 0) := (blk_cell hn2 2).trans rfl
    exact bodyPost_ret (v := .tuple #[.agg #[.int .i64 room, .bool d, .slice (some ad) l.length 0], .string x, .bool true]) (by simp [results, Try.results11, go_sem, x0, x1, x2]) rfl ⟨_, rfl, hV3, hB3⟩
  · have hc1 : ¬ c = 1 := by first | assumption | (intro h; omega)
    refine wi_post (fun W3 hW3 => ?_)
    have hB3 : Below w.heap.size w W3 := by rw [hW3]; exact below_alloc (below_alloc (Below.refl _ w) _) _
    have hV3 : WireV W3 (.slice (some ⟨ad.block, ad.off + 1, none⟩) l.length (c - 1)) l := by
      refine WireV.below ?_ hB3
      have hd := Kd.C_drop (c := c) HC.out (m := 1) (by simp) (by simpa using hc)
      rw [if_neg hc1] at hd
      have e : (some ad).map (fun a => a.add (1 * Kd.string.sz)) = some (⟨ad.block, ad.off + 1, none⟩ : Addr) := by
        obtain ⟨b, o, p⟩ := ad
        simp [hpn, Addr.add, Kd.string, Kd.scalar]
      rw [e] at hd
      refine ⟨_, _, rfl, by omega, hd, fun a ha _ => ?_⟩
      obtain rfl := Option.some.inj ha
      exact HT.out ad rfl (by simp)
    have hn2 := blk_new (w.alloc (.cells #[.int .i64 room, .bool d, .slice (some ⟨ad.block, ad.off + 1, none⟩) l.length (c - 1)] 24)) (.cells #[.int .i64 room, .bool d, .slice (some ⟨ad.block, ad.off + 1, none⟩) l.length (c - 1)] 24)
    simp only [World.size_alloc] at hn2
    rw [← hW3] at hn2
    have x0 : W3.cell? ⟨w.heap.size + 1, 0, none⟩ = some (.int .i64 room) := (blk_cell hn2 0).trans rfl
    have x1 : W3.cell? ⟨w.heap.size + 1, 1, none⟩ = some (.bool d) := (blk_cell hn2 1).trans rfl
    have x2 : W3.cell? ⟨w.heap.size + 1, 2, none⟩ = some (.slice (some ⟨ad.block, ad.off + 1, none⟩) l.length (c - 1)) := (blk_cell hn2 2).trans rfl
    exact bodyPost_ret (v := .tuple #[.agg #[.int .i64 room, .bool d, .slice (some ⟨ad.block, ad.off + 1, none⟩) l.length (c - 1)], .string x, .bool true]) (by simp [results, Try.results11, go_sem, x0, x1, x2]) rfl ⟨_, rfl, hV3, hB3⟩
set_option maxHeartbeats 4000000 in
set_option maxRecDepth 100000 in
theorem len_ok (room : Int) (d : Bool) (v : Value) (l : List ByteArray) (w : World) (hv : WireV w v l) :
    Calls Try.prog 10 #[.agg #[.int .i64 room, .bool d, v]] w fun e w' => e = .returned (.int .i64 l.length) ∧ Below w.heap.size w w' := by
  obtain ⟨A, c, rfl, hc, hC, hT⟩ := hv
  clear hC hT
  have hu24 := Try.underlying24
  go_enter Try.func10, Try.ntmps10
  go_wp2
  go_ret
  exact ⟨rfl, below_alloc (Below.refl _ w) _⟩
set_option maxHeartbeats 4000000 in
set_option maxRecDepth 100000 in
theorem up_ok (room : Int) (d : Bool) (v : Value) (l : List ByteArray) (w : World) (hv : WireV w v l) :
    Calls Try.prog 16 #[.agg #[.int .i64 room, .bool d, v]] w fun e w' => e = .returned (.bool (!d)) ∧ Below w.heap.size w w' := by
  obtain ⟨A, c, rfl, hc, hC, hT⟩ := hv
  clear hC hT
  have hu24 := Try.underlying24
  go_enter Try.func16, Try.ntmps16
  go_wp2
  go_ret
  exact ⟨rfl, below_alloc (Below.refl _ w) _⟩
set_option maxHeartbeats 4000000 in
set_option maxRecDepth 100000 in
theorem new_ok (room : Int) (w : World) (h1 : 1 ≤ room) (h2 : room ≤ 256) :
    Calls Try.prog 7 #[.int .i64 room] w fun e w' => e = .returned (.tuple #[.agg #[.int .i64 room, .bool false, .slice none 0 0], .int .i64 0]) ∧ Below w.heap.size w w' := by
  have hu24 := Try.underlying24
  have q1 : decide (room < 1) = false := decide_eq_false (by omega)
  have q2 : decide (room > 256) = false := decide_eq_false (by omega)
  have q3 : decide (256 < room) = false := decide_eq_false (by omega)
  go_enter Try.func7, Try.ntmps7
  go_wp2
  exact bodyPost_ret (v := .tuple #[.agg #[.int .i64 room, .bool false, .slice none 0 0], .int .i64 0]) (by simp [results, Try.results7, go_sem]) rfl ⟨rfl, by repeat (with_reducible first | exact Below.refl _ _ | apply below_alloc | refine wi_set ?_ (by simp <;> omega) _)⟩
theorem box_store {w W : World} {g : Nat} {o0 o1 o2 : Value} (hx : W.heap[g]? = some (.cells #[o0, o1, o2] 24 (0, 0))) (hg : w.heap.size ≤ g) (hB : Below w.heap.size w W) (n0 n1 n2 : Value) (W' : World) (hW : W' = ((W.setCell ⟨g, 0, none⟩ n0).setCell ⟨g, 1, none⟩ n1).setCell ⟨g, 2, none⟩ n2) :
    W'.heap[g]? = some (.cells #[n0, n1, n2] 24 (0, 0)) ∧ Below w.heap.size w W' ∧ (∀ v l, WireV W v l → WireV W' v l) ∧ (∀ (g' : Nat) (cs : Array Value) (t : TypeId), g' ≠ g → W.heap[g']? = some (.cells cs t (0, 0)) → W'.heap[g']? = some (.cells cs t (0, 0))) := by
  have q1 := blk_put (cs' := #[n0, o1, o2]) hx 0 n0 rfl
  have q2 := blk_put (cs' := #[n0, n1, o2]) q1 1 n1 rfl
  have q3 := blk_put (cs' := #[n0, n1, n2]) q2 2 n2 rfl
  subst hW
  exact ⟨q3, wi_set (wi_set (wi_set hB hg _) hg _) hg _, fun v l h => ((h.set hx _ _).set q1 _ _).set q2 _ _, fun g' cs t hne h => blk_far (blk_far (blk_far h (by exact hne) _) (by exact hne) _) (by exact hne) _⟩
theorem calls_W {P : Program} {f : FuncId} {args : Array Value} {Q : Ending → World → Prop} {W : World} (h : ∀ W', W' = W → Calls P f args W' Q) : Calls P f args W Q := h W rfl
theorem below_call {w W w1 : World} (h : Below w.heap.size w W) (hb : Below W.heap.size W w1) : Below w.heap.size w w1 := h.trans (hb.mono h.size)
theorem wire_slice {w : World} {v : Value} {l : List ByteArray} (h : WireV w v l) : ∃ A c, v = .slice A l.length c := by obtain ⟨A, c, e, _⟩ := h; exact ⟨A, c, e⟩
set_option maxHeartbeats 8000000 in
set_option maxRecDepth 100000 in
theorem awake_ok (w : World) : Calls Try.prog 8 #[] w fun e w' => e = .returned (.bool true) ∧ Below w.heap.size w w' := by
  have hu24 := Try.underlying24
  go_enter Try.func8, Try.ntmps8
  go_wp2_with fail
  refine (new_ok 2 _ (by decide) (by decide)).mono ?_
  rintro e' w1 ⟨rfl, hb1⟩
  go_wp2_with fail
  refine (push_ok 2 _ [] _ _ (WireV.nil _) (by decide) (by decide)).mono ?_
  rintro e' w2 ⟨v2, rfl, hV2, hb2⟩
  have hx2 := blk_below (blk_new w1 (.cells #[.int .i64 2, .bool false, .slice none 0 0] 24)) hb2
  have hB2 : Below w.heap.size w w2 := (below_alloc hb1 _).trans (hb2.mono (below_alloc hb1 _).size)
  obtain ⟨A2, c2, rfl⟩ : ∃ A c, v2 = .slice A 1 c := by obtain ⟨A, c, e, _⟩ := hV2; exact ⟨A, c, e⟩
  have z0 : w2.cell? ⟨w1.heap.size, 0, none⟩ = some (.int .i64 2) := (blk_cell hx2 0).trans rfl
  have z1 : w2.cell? ⟨w1.heap.size, 1, none⟩ = some (.bool false) := (blk_cell hx2 1).trans rfl
  have z2 : w2.cell? ⟨w1.heap.size, 2, none⟩ = some (.slice none 0 0) := (blk_cell hx2 2).trans rfl
  have f0 := blk_frozen hx2 0
  have f1 := blk_frozen hx2 1
  have f2 := blk_frozen hx2 2
  have HV2 := Lib.hid hV2
  clear hV2
  go_wp2_with fail
  refine calls_W (fun W3 hW3 => ?_)
  obtain ⟨hx3, hB3, hT3, _⟩ := box_store hx2 hb1.size hB2 _ _ _ W3 hW3
  clear hW3 z0 z1 z2 f0 f1 f2
  refine (push_ok 2 _ _ _ _ (hT3 _ _ HV2.out) (by decide) (by decide)).mono ?_
  rintro e' w4 ⟨v4, rfl, hV4, hb4⟩
  have hx4 := blk_below hx3 hb4
  have hB4 := below_call hB3 hb4
  obtain ⟨A4, c4, rfl⟩ := wire_slice hV4
  have HV4 := Lib.hid hV4
  clear hV4
  have z0 : w4.cell? ⟨w1.heap.size, 0, none⟩ = some (.int .i64 2) := (blk_cell hx4 0).trans rfl
  have z1 : w4.cell? ⟨w1.heap.size, 1, none⟩ = some (.bool false) := (blk_cell hx4 1).trans rfl
  have z2 : w4.cell? ⟨w1.heap.size, 2, none⟩ = some (.slice A2 1 c2) := (blk_cell hx4 2).trans rfl
  have f0 := blk_frozen hx4 0
  have f1 := blk_frozen hx4 1
  have f2 := blk_frozen hx4 2
  go_wp2_with fail
  refine calls_W (fun W5 hW5 => ?_)
  obtain ⟨hx5, hB5, hT5, _⟩ := box_store hx4 hb1.size hB4 _ _ _ W5 hW5
  clear hW5 z0 z1 z2 f0 f1 f2
  have HV5 := Lib.hid (hT5 _ _ HV4.out)
  refine (pop_ok 2 false _ ⟨#[97]⟩ [⟨#[98]⟩] _ HV5.out (by decide)).mono ?_
  rintro e' w6 ⟨v6, rfl, hV6, hb6⟩
  obtain ⟨A6, c6, rfl⟩ := wire_slice hV6
  clear hV6
  have hx6 := blk_below hx5 hb6
  have hB6 := below_call hB5 hb6
  have z0 : w6.cell? ⟨w1.heap.size, 0, none⟩ = some (.int .i64 2) := (blk_cell hx6 0).trans rfl
  have z1 : w6.cell? ⟨w1.heap.size, 1, none⟩ = some (.bool false) := (blk_cell hx6 1).trans rfl
  have z2 : w6.cell? ⟨w1.heap.size, 2, none⟩ = some (.slice A4 2 c4) := (blk_cell hx6 2).trans rfl
  have HV6 := Lib.hid (HV5.out.below hb6)
  clear HV5 HV4 HV2
  have hlt6 := blk_lt hx6
  go_wp2_with fail
  refine (len_ok 2 false _ _ _ (HV6.out.below (below_alloc (Below.refl _ _) _))).mono ?_
  rintro e' w7 ⟨rfl, hb7⟩
  have hx7 := blk_below (blk_alloc hx6 (.cells #[.int .i64 2, .bool false, .slice A6 1 c6] 24)) hb7
  have hB7 := below_call (below_alloc hB6 (.cells #[.int .i64 2, .bool false, .slice A6 1 c6] 24)) hb7
  have HV7 := Lib.hid ((HV6.out.below (below_alloc (Below.refl _ _) (.cells #[.int .i64 2, .bool false, .slice A6 1 c6] 24))).below hb7)
  clear z0 z1 z2
  have z0 : w7.cell? ⟨w1.heap.size, 0, none⟩ = some (.int .i64 2) := (blk_cell hx7 0).trans rfl
  have z1 : w7.cell? ⟨w1.heap.size, 1, none⟩ = some (.bool false) := (blk_cell hx7 1).trans rfl
  have z2 : w7.cell? ⟨w1.heap.size, 2, none⟩ = some (.slice A4 2 c4) := (blk_cell hx7 2).trans rfl
  go_wp2_with fail
  refine (up_ok 2 false _ _ _ HV7.out).mono ?_
  rintro e' w8 ⟨rfl, hb8⟩
  have hB8 := below_call hB7 hb8
  go_wp2_with fail
  go_ret
  exact ⟨rfl, hB8⟩
end Go.Proofs.Ytehicbehljfkhaa.Wi
