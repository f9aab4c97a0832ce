/- The writer of bits: its method bit, walked: one bit more. -/
import Derived.Test.YtmlenepeocginaaGvField
import Derived.Test.YtmlenepeocginaaWMore
import Derived.WalkKit
import Derived.RegionTactic
import Derived.ChangeAlike
import Derived.BigRegion
import Derived.Lib.Hide
namespace Go.Proofs.Ytmlenepeocginaa.Gv
open Go.RowKit Go.Proofs.YtmlenepeocginaaW.PrintWords
set_option linter.unusedVariables false

/-- The writer lies in block B and has laid these bits. -/
def Wr (B : Nat) (wr : World) (bits : List Int) : Prop :=
  ∃ v, wr.heap[B]? = some (.cells #[v, .int .i64 bits.length] 113 (0, 0)) ∧ wr.ownsRow (B + 1) 5 1 v (packB bits).length ((packB bits).map (Value.int .u8)) ∧ IsBits bits
/-- What a step of the writer leaves as it was. -/
def Fr (B : Nat) (wr w' : World) : Prop := ∀ k o, B < k → wr.heap[k]? = some o → (∀ cs, o ≠ .cells cs 5 (0, 0)) → w'.heap[k]? = some o

theorem infoU8 : (Try.prog.info? 5).map (fun i => (i.zero, i.size, i.bytes)) = some (some (.int .u8 0), 1, 1) := by kernel_rfl

theorem wraps_u64 (n : Int) (h₀ : 0 ≤ n) (h₁ : n < 2 ^ 64) : IntKind.u64.wrap n = n := by simp [IntKind.wrap, IntKind.bits, IntKind.signed]; omega
theorem and_one (v : Int) (h0 : 0 ≤ v) (h1 : v ≤ 18446744073709551615) : Go.bits .and .u64 v 1 = v % 2 :=
  bits_mask .u64 64 (by decide) wraps_u64 1 (by decide) v h0 (by omega)
/-- The bit goes into the byte. -/
theorem or_bit (x v : Int) (m : Nat) (hx0 : 0 ≤ x) (hx1 : x ≤ 255) (hm : m ≤ 7) (hl : x % 2 ^ (8 - m) = 0) (h0 : 0 ≤ v) (h1 : v ≤ 18446744073709551615) :
    Go.bits .or .u8 x (Go.bits .and .u64 v 1 % 256 * 2 ^ (7 - m) % 256) = x + v % 2 * 2 ^ (7 - m) := by
  rw [and_one v h0 h1]
  have hv := mod2 v
  have hp : (1 : Int) ≤ 2 ^ (7 - m) ∧ (2 : Int) ^ (7 - m) ≤ 128 ∧ (2 : Int) ^ (8 - m) = 2 * 2 ^ (7 - m) := by
    have : m = 0 ∨ m = 1 ∨ m = 2 ∨ m = 3 ∨ m = 4 ∨ m = 5 ∨ m = 6 ∨ m = 7 := by omega
    rcases this with h | h | h | h | h | h | h | h <;> subst h <;> decide
  generalize (2 : Int) ^ (7 - m) = q at hp
  have e : v % 2 % 256 * q % 256 = v % 2 * q := by rcases hv with h | h <;> rw [h] <;> omega
  rw [e]
  exact bits_join .u8 8 (by decide) wraps_u8 (8 - m) x _ hx0 hl (by omega) (by rcases hv with h | h <;> rw [h] <;> omega) (by rw [hp.2.2]; rcases hv with h | h <;> rw [h] <;> omega) (by rcases hv with h | h <;> rw [h] <;> omega)

/-- The row behind the store; n bits have been laid ahead of it. -/
theorem wr_step (B g cap : Nat) (bits : List Int) (v : Int) (wr w2 : World) (hb : bits.length ≤ 1000000000) (hbits : IsBits bits) (hv0 : 0 ≤ v) (hv1 : v ≤ 18446744073709551615)
    (ro : List Int) (hro : ro = if bits.length % 8 = 0 then packB bits ++ [0] else packB bits)
    (hblk : w2.heap[B]? = some (.cells #[.slice (some ⟨g, 0, none⟩) ro.length cap, .int .i64 bits.length] 113 (0, 0)))
    (hown : w2.ownsRow (B + 1) 5 1 (.slice (some ⟨g, 0, none⟩) ro.length cap) ro.length (ro.map (Value.int .u8)))
    (hbel : Below B wr w2) (hfr : Fr B wr w2) (hg : ∀ o, wr.heap[g]? = some o → B < g → ∃ cs, o = .cells cs 5 (0, 0)) (x : Int) (hx : x = ro.getD (bits.length / 8) 0 + v % 2 * 2 ^ (7 - bits.length % 8)) :
    Wr B ((w2.setCell ⟨g, bits.length / 8, none⟩ (.int .u8 x)).setCell ⟨B, 1, none⟩ (.int .i64 ((bits.length : Int) + 1))).drew (bits ++ [v % 2]) ∧
    Below B wr ((w2.setCell ⟨g, bits.length / 8, none⟩ (.int .u8 x)).setCell ⟨B, 1, none⟩ (.int .i64 ((bits.length : Int) + 1))).drew ∧
    Fr B wr ((w2.setCell ⟨g, bits.length / 8, none⟩ (.int .u8 x)).setCell ⟨B, 1, none⟩ (.int .i64 ((bits.length : Int) + 1))).drew := by
  have hBg := (hown.lt g rfl).1
  have hsn := packB_snoc bits (v % 2)
  rw [← hro, ← hx] at hsn
  have hlen : (packB (bits ++ [v % 2])).length = ro.length := by rw [hsn, List.length_set]
  have hst := (hown.stored (bits.length / 8) (.int .u8 x)).1
  have hb1 : (w2.setCell ⟨g, bits.length / 8, none⟩ (.int .u8 x)).heap[B]? = some (.cells #[.slice (some ⟨g, 0, none⟩) ro.length cap, .int .i64 bits.length] 113 (0, 0)) := blk_far hblk (by show B ≠ g; omega) _
  refine ⟨⟨.slice (some ⟨g, 0, none⟩) ro.length cap, ?_, ?_, hbits.append (fun b hb => by simp at hb; subst hb; exact mod2 v)⟩, ?_, ?_⟩
  · have := blk_put hb1 1 (.int .i64 ((bits.length : Int) + 1)) (cs' := #[.slice (some ⟨g, 0, none⟩) ro.length cap, .int .i64 ((bits ++ [v % 2]).length)]) (by simp)
    exact this
  · rw [hlen]
    have h2 := own_setCell hst (p := ⟨B, 1, none⟩) (by simp [Value.ownBlock]; omega) (.int .i64 ((bits.length : Int) + 1))
    rw [hsn, List.map_set]
    exact h2
  · exact ((hbel.setCell (p := ⟨g, bits.length / 8, none⟩) (by show B ≤ g; omega) _).setCell (p := ⟨B, 1, none⟩) (Nat.le_refl _) _).drew
  · intro k o hk ho hno
    have h0 := hfr k o hk ho hno
    have hkg : k ≠ g := fun e => by
      subst e
      obtain ⟨cs, hcs⟩ := hg o ho hk
      exact hno cs hcs
    show ((w2.setCell ⟨g, bits.length / 8, none⟩ (.int .u8 x)).setCell ⟨B, 1, none⟩ (.int .i64 ((bits.length : Int) + 1))).heap[k]? = some o
    rw [Below.heap_setCell _ _ _ _ (by show k ≠ B; omega), Below.heap_setCell _ _ _ _ (by show k ≠ g; exact hkg)]
    exact h0

theorem own_type {w : World} {base : Nat} {e : TypeId} {size n g m cap : Nat} {xs : List Value} (h : w.ownsRow base e size (.slice (some ⟨g, 0, none⟩) m cap) n xs) {B : Nat} : ∀ o, w.heap[g]? = some o → B < g → ∃ cs, o = .cells cs e (0, 0) := by
  intro o ho _
  rcases h.2 with ⟨h', _⟩ | ⟨g', cap', cur, h', _, hg, _⟩
  · simp at h'
  · simp only [Value.slice.injEq, Option.some.injEq, Addr.mk.injEq, and_true] at h'
    obtain ⟨rfl, _⟩ := h'
    rw [hg] at ho
    exact ⟨cur, (Option.some.inj ho).symm⟩

set_option maxHeartbeats 1600000 in
set_option maxRecDepth 100000 in
theorem bit_on (B : Nat) (bits : List Int) (v : Int) (wr : World) (h : Wr B wr bits) (hv0 : 0 ≤ v) (hv1 : v ≤ 18446744073709551615) (hb : bits.length ≤ 1000000000) (hm : bits.length % 8 ≠ 0) :
    Calls Try.prog 63 #[.pointer (some ⟨B, 0, none⟩), .int .u64 v] wr fun e w' => e = .returned (.tuple #[]) ∧ Wr B w' (bits ++ [v % 2]) ∧ Below B wr w' ∧ Fr B wr w' := by
  obtain ⟨u, hblk, hown, hbits⟩ := h
  have hpl := packB_length bits
  have hex : ∃ g cap, u = .slice (some ⟨g, 0, none⟩) (packB bits).length cap := by
    obtain ⟨_, hcase⟩ := hown
    rcases hcase with ⟨_, h0⟩ | ⟨g', cap', cur', h, _⟩
    · omega
    · exact ⟨g', cap', h⟩
  obtain ⟨g, cap, rfl⟩ := hex
  have hc0 : wr.cell? ⟨B, 0, none⟩ = some (.slice (some ⟨g, 0, none⟩) (packB bits).length cap) := (blk_cell hblk 0).trans rfl
  have hc1 : wr.cell? ⟨B, 1, none⟩ = some (.int .i64 bits.length) := (blk_cell hblk 1).trans rfl
  have hf1 := blk_frozen hblk 1
  have hr1 : wr.cell? ⟨g, bits.length / 8, none⟩ = some (.int .u8 ((packB bits).getD (bits.length / 8) 0)) := by
    rw [hown.cellAt (bits.length / 8) (by omega), List.getElem?_map, List.getElem?_eq_getElem (by omega), List.getD_eq_getElem?_getD, List.getElem?_eq_getElem (by omega)]; rfl
  have hfr := hown.frozenAt (bits.length / 8)
  have hne := (hown.lt g rfl).1
  have ht8 : ((bits.length : Int) % 8 == 0) = false := by rw [beq_eq_false_iff_ne]; omega
  have hi0 : (0 : Int) ≤ (bits.length : Int) / 8 := by omega
  have hi1 : (bits.length : Int) / 8 < ((packB bits).length : Int) := by omega
  clear hpl
  go_enter Try.func63, Try.ntmps63
  go_wp2
  go_region
  all_goals (try go_wp2)
  go_end0
  refine ⟨rfl, ?_⟩
  have hget : (packB bits)[bits.length / 8]?.getD 0 = (packB bits).getD (bits.length / 8) 0 := (List.getD_eq_getElem?_getD).symm
  have hrg : 0 ≤ (packB bits).getD (bits.length / 8) 0 ∧ (packB bits).getD (bits.length / 8) 0 ≤ 255 := by
    have hlt : bits.length / 8 < (packB bits).length := by omega
    rw [List.getD_eq_getElem?_getD, List.getElem?_eq_getElem hlt]
    exact packB_range hbits _ (List.getElem_mem hlt)
  rw [hget, or_bit _ v (bits.length % 8) hrg.1 hrg.2 (by omega) (packB_low bits hm) hv0 hv1]
  exact wr_step B g cap bits v wr wr hb hbits hv0 hv1 (packB bits) (by rw [if_neg hm]) hblk hown (Below.refl _ _) (fun _ _ _ h _ => h) (own_type hown) _ rfl

set_option maxHeartbeats 1600000 in
set_option maxRecDepth 100000 in
theorem bit_new (B : Nat) (bits : List Int) (v : Int) (wr : World) (h : Wr B wr bits) (hv0 : 0 ≤ v) (hv1 : v ≤ 18446744073709551615) (hb : bits.length ≤ 1000000000) (hm : bits.length % 8 = 0) :
    Calls Try.prog 63 #[.pointer (some ⟨B, 0, none⟩), .int .u64 v] wr fun e w' => e = .returned (.tuple #[]) ∧ Wr B w' (bits ++ [v % 2]) ∧ Below B wr w' ∧ Fr B wr w' := by
  obtain ⟨u, hblk, hown, hbits⟩ := h
  obtain ⟨i, hi, hz0, hz1, hz2⟩ := info_parts infoU8
  have hpl := packB_length bits
  have hlen1 : (packB bits).length = bits.length / 8 := by omega
  have hBlt := blk_lt hblk
  have hc0 : wr.cell? ⟨B, 0, none⟩ = some u := (blk_cell hblk 0).trans rfl
  have hc1 : wr.cell? ⟨B, 1, none⟩ = some (.int .i64 bits.length) := (blk_cell hblk 1).trans rfl
  have hf0 := blk_frozen hblk 0
  have hf1 := blk_frozen hblk 1
  have ht8 : ((bits.length : Int) % 8 == 0) = true := by rw [beq_iff_eq]; omega
  have hreach : (packB bits).length + 1 ≤ 140737488355328 := by omega
  have Hl := Lib.hid hlen1
  have Hm := Lib.hid hm
  clear hpl hlen1 hm
  go_enter Try.func63, Try.ntmps63
  go_wp2_with (at_builtin; refine wpList_append_own _ rfl (.tmp 14) (.tmp 15) 111 rfl (B + 1) 5 i (.int .u8 0) 1 1 Try.underlying111 hi hz0 hz1 hz2 rfl (by decide) u (packB bits).length _ rfl (hown.alloc _) ⟨wr.heap.size, 0, none⟩ 1 1 [.int .u8 0] rfl rfl ?c1 ?c2 (by unfold maxLen; omega) (by omega) (by simp; omega) ?_)
  case c1 =>
    intro j u hj
    match j, hj with
    | 0, hj => simp at hj; subst hj; simp [Addr.add]
  case c2 => intro u hu; simp at hu; subst hu; rfl
  intro v' w1 hown' hgrow _
  have hex : ∃ g' cap', v' = .slice (some ⟨g', 0, none⟩) ((packB bits).length + 1) cap' := by
    obtain ⟨_, hcase⟩ := hown'
    rcases hcase with ⟨_, h0⟩ | ⟨g', cap', cur', h, _⟩
    · omega
    · exact ⟨g', cap', h⟩
  obtain ⟨g, cap, rfl⟩ := hex
  have hne : some B ≠ u.ownBlock := fun h => by have := hown.lt B h.symm; omega
  have hb1 : w1.heap[B]? = some (.cells #[u, .int .i64 bits.length] 113 (0, 0)) := blk_grown (blk_alloc hblk _) hgrow hne
  have hb2 : (w1.setCell ⟨B, 0, none⟩ (.slice (some ⟨g, 0, none⟩) ((packB bits).length + 1) cap)).heap[B]? = some (.cells #[.slice (some ⟨g, 0, none⟩) ((packB bits).length + 1) cap, .int .i64 bits.length] 113 (0, 0)) := blk_put hb1 0 _ (by simp)
  have hBg := (hown'.lt g rfl).1
  have hown2 : (w1.setCell ⟨B, 0, none⟩ (.slice (some ⟨g, 0, none⟩) ((packB bits).length + 1) cap)).ownsRow (B + 1) 5 1 (.slice (some ⟨g, 0, none⟩) ((packB bits).length + 1) cap) ((packB bits).length + 1) ((packB bits).map (Value.int .u8) ++ [.int .u8 0]) := own_setCell hown' (by simp [Value.ownBlock]; omega) _
  have hbel : Below B wr (w1.setCell ⟨B, 0, none⟩ (.slice (some ⟨g, 0, none⟩) ((packB bits).length + 1) cap)) :=
    (((Below.refl B wr).alloc (by omega) _).grown hgrow (by simp; omega) (fun k hk => by have := (hown.lt k hk).1; omega)).setCell (Nat.le_refl B) _
  have hfr2 : Fr B wr (w1.setCell ⟨B, 0, none⟩ (.slice (some ⟨g, 0, none⟩) ((packB bits).length + 1) cap)) := by
    intro k o hk ho hno
    rw [Below.heap_setCell _ _ _ _ (by show k ≠ B; omega)]
    refine blk_grown (blk_alloc ho _) hgrow (fun e => ?_)
    rcases hown.2 with ⟨h', _⟩ | ⟨g', cap', cur, h', _, hg, _⟩
    · rw [h'] at e; simp [Value.ownBlock] at e
    · rw [h'] at e; simp [Value.ownBlock] at e; subst e; rw [hg] at ho; exact hno cur (Option.some.inj ho).symm
  have hgt : ∀ o, wr.heap[g]? = some o → B < g → ∃ cs, o = .cells cs 5 (0, 0) := by
    intro o ho hBg
    by_cases e : some g = u.ownBlock
    · rcases hown.2 with ⟨h', _⟩ | ⟨g', cap', cur, h', _, hg, _⟩
      · rw [h'] at e; simp [Value.ownBlock] at e
      · rw [h'] at e; simp [Value.ownBlock] at e; subst e; rw [hg] at ho; exact ⟨cur, (Option.some.inj ho).symm⟩
    · have := blk_grown (blk_alloc ho _) hgrow e
      exact own_type hown' (B := B) o this hBg
  have hv1c : w1.cell? ⟨B, 0, none⟩ = some u := (blk_cell hb1 0).trans rfl
  have hv1f := blk_frozen hb1 0
  go_wp2_with fail
  obtain ⟨w2, hw2⟩ : ∃ w2, w1.setCell ⟨B, 0, none⟩ (.slice (some ⟨g, 0, none⟩) ((packB bits).length + 1) cap) = w2 := ⟨_, rfl⟩
  rw [hw2] at hb2 hown2 hbel hfr2 ⊢
  clear hw2 hv1c hv1f hb1 hown' hgrow hc0 hc1 hf0 hf1
  have hc0 : w2.cell? ⟨B, 0, none⟩ = some (.slice (some ⟨g, 0, none⟩) ((packB bits).length + 1) cap) := (blk_cell hb2 0).trans rfl
  have hc1 : w2.cell? ⟨B, 1, none⟩ = some (.int .i64 bits.length) := (blk_cell hb2 1).trans rfl
  have hf1 := blk_frozen hb2 1
  have hr1 : w2.cell? ⟨g, bits.length / 8, none⟩ = some (.int .u8 0) := by
    rw [hown2.cellAt (bits.length / 8) (by have := Hl.out; omega), ← Hl.out, List.getElem?_append_right (by simp)]; simp
  have hfr := hown2.frozenAt (bits.length / 8)
  have hi0 : (0 : Int) ≤ (bits.length : Int) / 8 := by omega
  have hi1 : (bits.length : Int) / 8 < ((packB bits).length : Int) + 1 := by have := Hl.out; omega
  go_region
  all_goals (try go_wp2)
  go_end0
  refine ⟨rfl, ?_⟩
  have e0 := or_bit 0 v (bits.length % 8) (by omega) (by omega) (by omega) (Int.zero_emod _) hv0 hv1
  rw [e0]
  have hlr : (packB bits ++ [0]).length = (packB bits).length + 1 := by simp
  exact wr_step B g cap bits v wr w2 hb hbits hv0 hv1 (packB bits ++ [0]) (by rw [if_pos Hm.out]) (by rw [hlr]; exact hb2) (by rw [hlr, List.map_append]; exact hown2) hbel hfr2 hgt _ (by
    rw [← Hl.out, List.getD_eq_getElem?_getD, List.getElem?_append_right (by omega)]; simp)

/-- The method bit, whatever has been laid. -/
theorem bit_any (B : Nat) (bits : List Int) (v : Int) (wr : World) (h : Wr B wr bits) (hv0 : 0 ≤ v) (hv1 : v ≤ 18446744073709551615) (hb : bits.length ≤ 1000000000) :
    Calls Try.prog 63 #[.pointer (some ⟨B, 0, none⟩), .int .u64 v] wr fun e w' => e = .returned (.tuple #[]) ∧ Wr B w' (bits ++ [v % 2]) ∧ Below B wr w' ∧ Fr B wr w' := by
  by_cases hm : bits.length % 8 = 0
  · exact bit_new B bits v wr h hv0 hv1 hb hm
  · exact bit_on B bits v wr h hv0 hv1 hb hm

end Go.Proofs.Ytmlenepeocginaa.Gv
