/- event.one walked by hand. (Ponex1, LSplitone: the printed Split of its own print 'one'.) -/
import Derived.Test.YtkjjdphlfbecdaaGvEvWord
import Derived.Test.YtkjjdphlfbecdaaGvBack
import Derived.Test.YtkjjdphlfbecdaaPonex1
import Derived.Test.YtkjjdphlfbecdaaLSplitone
namespace Go.Proofs.Ytkjjdphlfbecdaa.Gv
open Go.RowKit Go.Proofs.YtkjjdphlfbecdaaW.PrintWords Go.Proofs.YtkjjdphlfbecdaaW.PrintLast Go.Proofs.YtkjjdphlfbecdaaW.PrintMore
set_option linter.unusedVariables false
set_option linter.unusedSimpArgs false
/-- The first event of bytes, what is behind, and what is wrong. -/
def oneP (s : ByteArray) : Ev × ByteArray × Int :=
  if s.size < 6 then (ez, ⟨#[]⟩, 1)
  else if (s.size : Int) - 6 < bt s 4 * 256 + bt s 5 then (ez, ⟨#[]⟩, 1)
  else ((bt s 0, bt s 1, bt s 2, bt s 3, (s.extract 6 s.size).extract 0 (bt s 4 * 256 + bt s 5).toNat), (s.extract 6 s.size).extract (bt s 4 * 256 + bt s 5).toNat (s.extract 6 s.size).size,
    evWrong (bt s 0, bt s 1, bt s 2, bt s 3, (s.extract 6 s.size).extract 0 (bt s 4 * 256 + bt s 5).toNat))
def ws5 : List Int := [8, 8, 8, 8, 16]
theorem split_short (s : ByteArray) (h : s.size < 6) : split s ws5 = ([], ⟨#[]⟩, 1) := by
  unfold split
  rw [if_pos (by decide), if_pos (by decide), if_pos (show sumW ws5 / 8 > (s.size : Int) from by rw [show sumW ws5 / 8 = 6 from by decide]; omega)]
theorem split_five (s : ByteArray) (h : 6 ≤ s.size) : split s ws5 = ([bt s 0, bt s 1, bt s 2, bt s 3, bt s 4 * 256 + bt s 5], s.extract 6 s.size, 0) := by
  unfold split
  rw [if_pos (by decide), if_pos (by decide), if_neg (show ¬ sumW ws5 / 8 > (s.size : Int) from by rw [show sumW ws5 / 8 = 6 from by decide]; omega), show (sumW ws5 / 8).toNat = 6 from by decide]
  have hh := bytesOf_head s 6 h
  rw [show ((List.range 6).map fun i : Nat => bt s (i : Int)) = [bt s 0, bt s 1, bt s 2, bt s 3, bt s 4, bt s 5] from rfl] at hh
  rw [sBits_cons hh]
  simp only [List.cons_append, List.nil_append, flat_cons]
  have r0 := bt_range s 0
  have r1 := bt_range s 1
  have r2 := bt_range s 2
  have r3 := bt_range s 3
  have r4 := bt_range s 4
  have r5 := bt_range s 5
  rw [← List.append_assoc (bitsOf 8 (bt s 4)), bitsOf_join 8 8 _ _ r5.1 (by have := r5.2; omega)]
  rw [show ws5 = [((8 : Nat) : Int), ((8 : Nat) : Int), ((8 : Nat) : Int), ((8 : Nat) : Int), ((8 + 8 : Nat) : Int)] from rfl, vals_cons, vals_cons, vals_cons, vals_cons, vals_cons, vals_none]
  rw [show (2 : Int) ^ 8 = 256 from by decide, show (2 : Int) ^ (8 + 8) = 65536 from by decide, Int.emod_eq_of_lt r0.1 (by omega), Int.emod_eq_of_lt r1.1 (by omega), Int.emod_eq_of_lt r2.1 (by omega), Int.emod_eq_of_lt r3.1 (by omega), Int.emod_eq_of_lt (by omega) (by omega)]
theorem ints_of_blk {W : World} {g : Nat} {t : TypeId} {l : List Int} (h : W.heap[g]? = some (.cells (l.map (Value.int .i64)).toArray t (0, 0))) (hl : l.length ≤ 9223372036854775807) : Kd.C (Kd.int .i64) W (some ⟨g, 0, none⟩) l.length l := by
  refine ⟨rfl, hl, fun _ => ⟨_, rfl, fun j p hj => ⟨[.int .i64 p], rfl, rfl, fun i u hi => ?_⟩⟩⟩
  cases i with
  | zero =>
    obtain rfl := Option.some.inj hi
    rw [Nat.add_zero, show j * (Kd.int .i64).sz = j from Nat.mul_one j, show ((⟨g, 0, none⟩ : Addr).add j) = ⟨g, j, none⟩ from by unfold Addr.add; by_cases hj0 : j = 0 <;> simp [hj0], blk_cell h j]
    simp [hj]
  | succ i => simp at hi
theorem blk_new2 (w : World) (o o' : Obj) : ((w.alloc o).alloc o').heap[w.heap.size + 1]? = some o' := by
  have h := blk_new (w.alloc o) o'
  rwa [show (w.alloc o).heap.size = w.heap.size + 1 from by simp] at h
theorem put5 {w : World} {g : Nat} {t : TypeId} {a0 a1 a2 a3 a4 : Value} (h : w.heap[g]? = some (.cells #[a0, a1, a2, a3, a4] t (0, 0))) (b0 b1 b2 b3 b4 : Value) :
    (((((w.setCell ⟨g, 0, none⟩ b0).setCell ⟨g, 1, none⟩ b1).setCell ⟨g, 2, none⟩ b2).setCell ⟨g, 3, none⟩ b3).setCell ⟨g, 4, none⟩ b4).heap[g]? = some (.cells #[b0, b1, b2, b3, b4] t (0, 0)) :=
  blk_put (blk_put (blk_put (blk_put (blk_put h 0 b0 rfl) 1 b1 rfl) 2 b2 rfl) 3 b3 rfl) 4 b4 rfl
theorem below5 {w0 w : World} {g : Nat} (h : Below w0.heap.size w0 w) (hg : w0.heap.size ≤ g) (b0 b1 b2 b3 b4 : Value) :
    Below w0.heap.size w0 (((((w.setCell ⟨g, 0, none⟩ b0).setCell ⟨g, 1, none⟩ b1).setCell ⟨g, 2, none⟩ b2).setCell ⟨g, 3, none⟩ b3).setCell ⟨g, 4, none⟩ b4) :=
  below_set (below_set (below_set (below_set (below_set h hg) hg) hg) hg) hg
theorem keep5 {w : World} {g k : Nat} {o : Obj} (h : w.heap[k]? = some o) (hk : k ≠ g) (b0 b1 b2 b3 b4 : Value) :
    (((((w.setCell ⟨g, 0, none⟩ b0).setCell ⟨g, 1, none⟩ b1).setCell ⟨g, 2, none⟩ b2).setCell ⟨g, 3, none⟩ b3).setCell ⟨g, 4, none⟩ b4).heap[k]? = some o := by
  rw [Below.heap_setCell _ _ _ _ hk, Below.heap_setCell _ _ _ _ hk, Below.heap_setCell _ _ _ _ hk, Below.heap_setCell _ _ _ _ hk, Below.heap_setCell _ _ _ _ hk]
  exact h
theorem cell5 {w : World} {g : Nat} {a : Addr} (hk : a.block ≠ g) (b0 b1 b2 b3 b4 : Value) :
    (((((w.setCell ⟨g, 0, none⟩ b0).setCell ⟨g, 1, none⟩ b1).setCell ⟨g, 2, none⟩ b2).setCell ⟨g, 3, none⟩ b3).setCell ⟨g, 4, none⟩ b4).cell? a = w.cell? a :=
  World.cell?_of_block (by rw [Below.heap_setCell _ _ _ _ hk, Below.heap_setCell _ _ _ _ hk, Below.heap_setCell _ _ _ _ hk, Below.heap_setCell _ _ _ _ hk, Below.heap_setCell _ _ _ _ hk])
theorem split_calls (s : ByteArray) (hs : s.size ≤ 100000) (A : Option Addr) (c : Nat) (w : World) (hr : Kd.C (Kd.int .i64) w A 5 ws5) (hc : 5 ≤ c) :
    Calls Try.prog 28 #[.string s, .slice A 5 c] w fun e w' => ∃ v0_ : Value, e = .returned (.tuple #[v0_, .string (split s ws5).2.1, .int .i64 (split s ws5).2.2]) ∧ Kd.R (Kd.int .u64) 53 w' w.heap.size (fun _ => True) v0_ (split s ws5).1 ∧ Below w.heap.size w w' := by
  obtain ⟨k, hk⟩ := Go.Proofs.Ytkjjdphlfbecdaa.Lone.ev_split s hs ws5 (by decide)
  exact Go.Proofs.Ytkjjdphlfbecdaa.Pone.field_Split.calls k s A c ws5 _ _ _ w hr hc (hk k (Nat.le_refl k))
set_option maxHeartbeats 4000000 in
set_option maxRecDepth 100000 in
theorem one_calls (s : ByteArray) (hs : s.size ≤ 100000) (w : World) :
    Calls Try.prog 26 #[.string s] w fun e w' => e = .returned (.tuple #[.agg #[.int .u8 (oneP s).1.1, .int .u8 (oneP s).1.2.1, .int .u8 (oneP s).1.2.2.1, .int .u8 (oneP s).1.2.2.2.1, .string (oneP s).1.2.2.2.2], .string (oneP s).2.1, .int .i64 (oneP s).2.2]) ∧ Below w.heap.size w w' := by
  by_cases h6 : s.size < 6
  · have HO := Lib.hid (show oneP s = (ez, ⟨#[]⟩, 1) from if_pos h6)
    have hsp := split_short s h6
    go_enter Try.func26, Try.ntmps26
    go_wp2_with fail
    refine ev_calls_W (fun W1 hW1 => ?_)
    have hx1 : W1.heap[w.heap.size]? = some (.cells #[.int .u8 0, .int .u8 0, .int .u8 0, .int .u8 0, .string ⟨#[]⟩] 28 (0, 0)) := by rw [hW1]; exact blk_alloc (blk_new _ _) _
    have hy1 : W1.heap[w.heap.size + 1]? = some (.cells (ws5.map (Value.int .i64)).toArray 3 (0, 0)) := by rw [hW1]; exact blk_new2 _ _ _
    have hb1 : Below w.heap.size w W1 := by rw [hW1]; exact below_alloc (below_alloc (Below.refl _ _) _) _
    clear hW1
    refine (split_calls s hs _ 5 W1 (ints_of_blk hy1 (by decide)) (by decide)).mono ?_
    rintro e' w2 ⟨v2, rfl, hR2, hb2⟩
    rw [hsp] at hR2
    obtain ⟨A2, c2, rfl⟩ := Kd.R_slice hR2
    have hx2 := blk_below hx1 hb2
    have hB2 := below_call hb1 hb2
    rw [hsp]
    clear hR2 hx1 hy1 hb1 hb2 hsp
    have z0 := (blk_cell hx2 0).trans rfl
    have z1 := (blk_cell hx2 1).trans rfl
    have z2 := (blk_cell hx2 2).trans rfl
    have z3 := (blk_cell hx2 3).trans rfl
    have z4 := (blk_cell hx2 4).trans rfl
    have f0 := blk_frozen hx2 0
    have f1 := blk_frozen hx2 1
    have f2 := blk_frozen hx2 2
    have f3 := blk_frozen hx2 3
    have f4 := blk_frozen hx2 4
    go_wp2_with fail
    refine bodyPost_ret (results_ctt rfl _ _ w.heap.size 28 #[.int .u8 0, .int .u8 0, .int .u8 0, .int .u8 0, .string ⟨#[]⟩] (0, 0) _ rfl (put5 hx2 _ _ _ _ _) Try.underlying28 rfl (by kernel_rfl)) rfl ?_
    exact ⟨by rw [HO.out]; rfl, below5 hB2 (Nat.le_refl _) _ _ _ _ _⟩
  · have hsp := split_five s (by omega)
    have r0 := bt_range s 0
    have r1 := bt_range s 1
    have r2 := bt_range s 2
    have r3 := bt_range s 3
    have r4 := bt_range s 4
    have r5 := bt_range s 5
    have hsz : (s.extract 6 s.size).size = s.size - 6 := by rw [ByteArray.size_extract]; omega
    by_cases hn : (s.size : Int) - 6 < bt s 4 * 256 + bt s 5
    · have HO := Lib.hid (show oneP s = (ez, ⟨#[]⟩, 1) from (if_neg h6).trans (if_pos hn))
      have hn0 : 0 ≤ bt s 4 * 256 + bt s 5 ∧ bt s 4 * 256 + bt s 5 ≤ 65535 := by omega
      generalize bt s 4 * 256 + bt s 5 = n at hsp hn hn0
      go_enter Try.func26, Try.ntmps26
      go_wp2_with fail
      refine ev_calls_W (fun W1 hW1 => ?_)
      have hx1 : W1.heap[w.heap.size]? = some (.cells #[.int .u8 0, .int .u8 0, .int .u8 0, .int .u8 0, .string ⟨#[]⟩] 28 (0, 0)) := by rw [hW1]; exact blk_alloc (blk_new _ _) _
      have hy1 : W1.heap[w.heap.size + 1]? = some (.cells (ws5.map (Value.int .i64)).toArray 3 (0, 0)) := by rw [hW1]; exact blk_new2 _ _ _
      have hb1 : Below w.heap.size w W1 := by rw [hW1]; exact below_alloc (below_alloc (Below.refl _ _) _) _
      clear hW1
      refine (split_calls s hs _ 5 W1 (ints_of_blk hy1 (by decide)) (by decide)).mono ?_
      rintro e' w2 ⟨v2, rfl, hR2, hb2⟩
      rw [hsp] at hR2
      obtain ⟨A2, c2, rfl⟩ := Kd.R_slice hR2
      have hC2 := Lib.hid (Kd.R_reads' hR2).2.2
      have hx2 := blk_below hx1 hb2
      have hB2 := below_call hb1 hb2
      rw [hsp]
      clear hR2 hx1 hy1 hb1 hb2 hsp
      obtain ⟨ad, ea, p4⟩ := Kd.at_int hC2.out 4 (by omega) (by show (4 : Int) < 5; omega)
      subst ea
      have p4 : w2.cell? ⟨ad.block, ad.off + 4, none⟩ = some (.int .u64 n) := p4
      have hln : List.length [bt s 0, bt s 1, bt s 2, bt s 3, n] = 5 := rfl
      rw [hln]
      have z0 := (blk_cell hx2 0).trans rfl
      have z1 := (blk_cell hx2 1).trans rfl
      have z2 := (blk_cell hx2 2).trans rfl
      have z3 := (blk_cell hx2 3).trans rfl
      have z4 := (blk_cell hx2 4).trans rfl
      have f0 := blk_frozen hx2 0
      have f1 := blk_frozen hx2 1
      have f2 := blk_frozen hx2 2
      have f3 := blk_frozen hx2 3
      have f4 := blk_frozen hx2 4
      have u1 : IntKind.u64.wrap ((s.extract 6 s.size).size : Int) = ((s.size - 6 : Nat) : Int) := by rw [hsz]; exact wraps_u64 _ (by omega) (by omega)
      have u2 : decide (((s.size - 6 : Nat) : Int) < n) = true := decide_eq_true (by omega)
      go_wp2_with fail
      refine bodyPost_ret (results_ctt rfl _ _ w.heap.size 28 #[.int .u8 0, .int .u8 0, .int .u8 0, .int .u8 0, .string ⟨#[]⟩] (0, 0) _ rfl (put5 hx2 _ _ _ _ _) Try.underlying28 rfl (by kernel_rfl)) rfl ?_
      exact ⟨by rw [HO.out]; rfl, below5 hB2 (Nat.le_refl _) _ _ _ _ _⟩
    · have hn0 : 0 ≤ bt s 4 * 256 + bt s 5 ∧ bt s 4 * 256 + bt s 5 ≤ 65535 := by omega
      have HO := Lib.hid (show oneP s = ((bt s 0, bt s 1, bt s 2, bt s 3, (s.extract 6 s.size).extract 0 (bt s 4 * 256 + bt s 5).toNat), (s.extract 6 s.size).extract (bt s 4 * 256 + bt s 5).toNat (s.extract 6 s.size).size, evWrong (bt s 0, bt s 1, bt s 2, bt s 3, (s.extract 6 s.size).extract 0 (bt s 4 * 256 + bt s 5).toNat)) from (if_neg h6).trans (if_neg hn))
      generalize bt s 4 * 256 + bt s 5 = n at hsp hn hn0 HO
      go_enter Try.func26, Try.ntmps26
      go_wp2_with fail
      refine ev_calls_W (fun W1 hW1 => ?_)
      have hx1 : W1.heap[w.heap.size]? = some (.cells #[.int .u8 0, .int .u8 0, .int .u8 0, .int .u8 0, .string ⟨#[]⟩] 28 (0, 0)) := by rw [hW1]; exact blk_alloc (blk_new _ _) _
      have hy1 : W1.heap[w.heap.size + 1]? = some (.cells (ws5.map (Value.int .i64)).toArray 3 (0, 0)) := by rw [hW1]; exact blk_new2 _ _ _
      have hb1 : Below w.heap.size w W1 := by rw [hW1]; exact below_alloc (below_alloc (Below.refl _ _) _) _
      clear hW1
      refine (split_calls s hs _ 5 W1 (ints_of_blk hy1 (by decide)) (by decide)).mono ?_
      rintro e' w2 ⟨v2, rfl, hR2, hb2⟩
      rw [hsp] at hR2
      obtain ⟨A2, c2, rfl⟩ := Kd.R_slice hR2
      have HAD : Hid (∃ g, A2 = some ⟨g, 0, none⟩ ∧ w.heap.size < g) := by
        obtain ⟨_, inner, ho, _⟩ := hR2
        have hlt1 := blk_lt hy1
        rcases ho.2 with ⟨_, h0⟩ | ⟨g, cap, cur, hv, hg, _⟩
        · simp at h0
        · injection hv with h1
          exact Lib.hid ⟨g, h1, by omega⟩
      have hC2 := Lib.hid (Kd.R_reads' hR2).2.2
      have hx2 := blk_below hx1 hb2
      have hB2 := below_call hb1 hb2
      rw [hsp]
      clear hR2 hx1 hy1 hb1 hb2 hsp
      obtain ⟨ad, ea, p4⟩ := Kd.at_int hC2.out 4 (by omega) (by show (4 : Int) < 5; omega)
      subst ea
      have p4 : w2.cell? ⟨ad.block, ad.off + 4, none⟩ = some (.int .u64 n) := p4
      have hln : List.length [bt s 0, bt s 1, bt s 2, bt s 3, n] = 5 := rfl
      rw [hln]
      have z0 := (blk_cell hx2 0).trans rfl
      have z1 := (blk_cell hx2 1).trans rfl
      have z2 := (blk_cell hx2 2).trans rfl
      have z3 := (blk_cell hx2 3).trans rfl
      have z4 := (blk_cell hx2 4).trans rfl
      have f0 := blk_frozen hx2 0
      have f1 := blk_frozen hx2 1
      have f2 := blk_frozen hx2 2
      have f3 := blk_frozen hx2 3
      have f4 := blk_frozen hx2 4
      have u1 : IntKind.u64.wrap ((s.extract 6 s.size).size : Int) = ((s.size - 6 : Nat) : Int) := by rw [hsz]; exact wraps_u64 _ (by omega) (by omega)
      have u2 : decide (((s.size - 6 : Nat) : Int) < n) = false := decide_eq_false (by omega)
      go_wp2_with fail
      obtain ⟨ad0, ee0, p0⟩ := Kd.at_int hC2.out 0 (by omega) (by show (0 : Int) < 5; omega)
      obtain rfl := Option.some.inj ee0
      have p0 : w2.cell? (ad) = some (.int .u64 (bt s 0)) := p0
      obtain ⟨ad1, ee1, p1⟩ := Kd.at_int hC2.out 1 (by omega) (by show (1 : Int) < 5; omega)
      obtain rfl := Option.some.inj ee1
      have p1 : w2.cell? ⟨ad.block, ad.off + 1, none⟩ = some (.int .u64 (bt s 1)) := p1
      obtain ⟨ad2, ee2, p2⟩ := Kd.at_int hC2.out 2 (by omega) (by show (2 : Int) < 5; omega)
      obtain rfl := Option.some.inj ee2
      have p2 : w2.cell? ⟨ad.block, ad.off + 2, none⟩ = some (.int .u64 (bt s 2)) := p2
      obtain ⟨ad3, ee3, p3⟩ := Kd.at_int hC2.out 3 (by omega) (by show (3 : Int) < 5; omega)
      obtain rfl := Option.some.inj ee3
      have p3 : w2.cell? ⟨ad.block, ad.off + 3, none⟩ = some (.int .u64 (bt s 3)) := p3
      have hadl : ad.block < w2.heap.size := World.block_lt_of_cell? w2 _ p0
      have hadg : ad.block ≠ w.heap.size := by obtain ⟨g, e, hg⟩ := HAD.out; obtain rfl := Option.some.inj e; exact Nat.ne_of_gt hg
      have v0 : IntKind.u8.wrap (bt s 0) = bt s 0 := by simp [IntKind.wrap, IntKind.bits, IntKind.signed]; omega
      have v1 : IntKind.u8.wrap (bt s 1) = bt s 1 := by simp [IntKind.wrap, IntKind.bits, IntKind.signed]; omega
      have v2 : IntKind.u8.wrap (bt s 2) = bt s 2 := by simp [IntKind.wrap, IntKind.bits, IntKind.signed]; omega
      have v3 : IntKind.u8.wrap (bt s 3) = bt s 3 := by simp [IntKind.wrap, IntKind.bits, IntKind.signed]; omega
      have v5 : ((s.size - 6 : Nat) : Int) = (s.size : Int) - 6 := by omega
      have v6 : n ≤ ((s.extract 6 s.size).size : Int) := by rw [hsz]; omega
      have v7 : decide (n ≤ ((s.extract 6 s.size).size : Int)) = true := decide_eq_true v6
      have v8 := hn0.1
      have hS0 : (fun w' : World => w'.cell? ad = some (.int .u64 (bt s 0)) ∧ w'.cell? ⟨ad.block, ad.off + 1, none⟩ = some (.int .u64 (bt s 1)) ∧ w'.cell? ⟨ad.block, ad.off + 2, none⟩ = some (.int .u64 (bt s 2)) ∧ w'.cell? ⟨ad.block, ad.off + 3, none⟩ = some (.int .u64 (bt s 3)) ∧ w'.cell? ⟨ad.block, ad.off + 4, none⟩ = some (.int .u64 n)) w2.drew := ⟨p0, p1, p2, p3, p4⟩
      have hb1 := fun o => below_alloc (Below.refl w2.drew.heap.size w2.drew) o
      have hS1 : ∀ o, (fun w' : World => w'.cell? ad = some (.int .u64 (bt s 0)) ∧ w'.cell? ⟨ad.block, ad.off + 1, none⟩ = some (.int .u64 (bt s 1)) ∧ w'.cell? ⟨ad.block, ad.off + 2, none⟩ = some (.int .u64 (bt s 2)) ∧ w'.cell? ⟨ad.block, ad.off + 3, none⟩ = some (.int .u64 (bt s 3)) ∧ w'.cell? ⟨ad.block, ad.off + 4, none⟩ = some (.int .u64 n)) (w2.drew.alloc o) := fun o => ⟨((hb1 o).cell (World.block_lt_of_cell? w2 _ p0)).trans p0, ((hb1 o).cell (World.block_lt_of_cell? w2 _ p1)).trans p1, ((hb1 o).cell (World.block_lt_of_cell? w2 _ p2)).trans p2, ((hb1 o).cell (World.block_lt_of_cell? w2 _ p3)).trans p3, ((hb1 o).cell (World.block_lt_of_cell? w2 _ p4)).trans p4⟩
      have hgs : w2.drew.heap.size ≤ w2.heap.size := Nat.le_refl _
      have hS2 : ∀ o b0 b1 b2 b3 b4, (fun w' : World => w'.cell? ad = some (.int .u64 (bt s 0)) ∧ w'.cell? ⟨ad.block, ad.off + 1, none⟩ = some (.int .u64 (bt s 1)) ∧ w'.cell? ⟨ad.block, ad.off + 2, none⟩ = some (.int .u64 (bt s 2)) ∧ w'.cell? ⟨ad.block, ad.off + 3, none⟩ = some (.int .u64 (bt s 3)) ∧ w'.cell? ⟨ad.block, ad.off + 4, none⟩ = some (.int .u64 n)) ((((((w2.drew.alloc o).setCell ⟨w2.heap.size, 0, none⟩ (b0)).setCell ⟨w2.heap.size, 1, none⟩ (b1)).setCell ⟨w2.heap.size, 2, none⟩ (b2)).setCell ⟨w2.heap.size, 3, none⟩ (b3)).setCell ⟨w2.heap.size, 4, none⟩ (b4)) := fun o b0 b1 b2 b3 b4 => ⟨((below5 (hb1 o) hgs b0 b1 b2 b3 b4).cell (World.block_lt_of_cell? w2 _ p0)).trans p0, ((below5 (hb1 o) hgs b0 b1 b2 b3 b4).cell (World.block_lt_of_cell? w2 _ p1)).trans p1, ((below5 (hb1 o) hgs b0 b1 b2 b3 b4).cell (World.block_lt_of_cell? w2 _ p2)).trans p2, ((below5 (hb1 o) hgs b0 b1 b2 b3 b4).cell (World.block_lt_of_cell? w2 _ p3)).trans p3, ((below5 (hb1 o) hgs b0 b1 b2 b3 b4).cell (World.block_lt_of_cell? w2 _ p4)).trans p4⟩
      go_region_held3 (fun w' : World => w'.cell? ad = some (.int .u64 (bt s 0)) ∧ w'.cell? ⟨ad.block, ad.off + 1, none⟩ = some (.int .u64 (bt s 1)) ∧ w'.cell? ⟨ad.block, ad.off + 2, none⟩ = some (.int .u64 (bt s 2)) ∧ w'.cell? ⟨ad.block, ad.off + 3, none⟩ = some (.int .u64 (bt s 3)) ∧ w'.cell? ⟨ad.block, ad.off + 4, none⟩ = some (.int .u64 n)) (first | assumption | exact hS0 | exact hS1 _ | exact hS2 _ _ _ _ _ _) (fail)
      clear hS0 hS1 hS2 hb1 p0 p1 p2 p3 v0 v1 v2 v3
      obtain ⟨W5, hW5⟩ : ∃ W5, (w2.alloc (.cells #[.int .u8 (bt s 0), .int .u8 (bt s 1), .int .u8 (bt s 2), .int .u8 (bt s 3), .string ((s.extract 6 s.size).extract 0 n.toNat)] 28)).drew = W5 := ⟨_, rfl⟩
      have hg5 : W5.heap[w2.heap.size]? = some (.cells #[.int .u8 (bt s 0), .int .u8 (bt s 1), .int .u8 (bt s 2), .int .u8 (bt s 3), .string ((s.extract 6 s.size).extract 0 n.toNat)] 28 (0, 0)) := by rw [← hW5]; exact blk_drew (blk_new _ _)
      have hbd5 : Below w2.heap.size w2 W5 := by rw [← hW5]; exact below_drew1 (below_alloc (Below.refl _ _) _)
      rw [hW5]
      have hx5 := blk_below hx2 hbd5
      have hB5 := below_call hB2 hbd5
      have p45 : W5.cell? ⟨ad.block, ad.off + 4, none⟩ = some (.int .u64 n) := (hbd5.cell (p := ⟨ad.block, ad.off + 4, none⟩) hadl).trans p4
      have hgne : w.heap.size ≠ w2.heap.size := Nat.ne_of_lt (blk_lt hx2)
      have hadl5 : ad.block ≠ w2.heap.size := Nat.ne_of_lt hadl
      clear hW5 hbd5 hx2 hB2 z0 z1 z2 z3 z4 f0 f1 f2 f3 f4 p4
      go_wp2_with fail
      have hz5 : (fun w' : World => w'.cell? ⟨w2.heap.size, 0, none⟩ = some (.int .u8 (bt s 0)) ∧ w'.cell? ⟨w2.heap.size, 1, none⟩ = some (.int .u8 (bt s 1)) ∧ w'.cell? ⟨w2.heap.size, 2, none⟩ = some (.int .u8 (bt s 2)) ∧ w'.cell? ⟨w2.heap.size, 3, none⟩ = some (.int .u8 (bt s 3)) ∧ w'.cell? ⟨w2.heap.size, 4, none⟩ = some (.string ((s.extract 6 s.size).extract 0 n.toNat)) ∧ w'.cell? ⟨ad.block, ad.off + 4, none⟩ = some (.int .u64 n)) W5.drew := ⟨(blk_cell hg5 0).trans rfl, (blk_cell hg5 1).trans rfl, (blk_cell hg5 2).trans rfl, (blk_cell hg5 3).trans rfl, (blk_cell hg5 4).trans rfl, p45⟩
      have hstep : ∀ w7 : World, Below W5.drew.heap.size W5.drew w7 → (fun w' : World => w'.cell? ⟨w2.heap.size, 0, none⟩ = some (.int .u8 (bt s 0)) ∧ w'.cell? ⟨w2.heap.size, 1, none⟩ = some (.int .u8 (bt s 1)) ∧ w'.cell? ⟨w2.heap.size, 2, none⟩ = some (.int .u8 (bt s 2)) ∧ w'.cell? ⟨w2.heap.size, 3, none⟩ = some (.int .u8 (bt s 3)) ∧ w'.cell? ⟨w2.heap.size, 4, none⟩ = some (.string ((s.extract 6 s.size).extract 0 n.toNat)) ∧ w'.cell? ⟨ad.block, ad.off + 4, none⟩ = some (.int .u64 n)) w7 := fun w7 hb7 => ⟨(hb7.cell (p := ⟨w2.heap.size, 0, none⟩) (blk_lt hg5)).trans hz5.1, (hb7.cell (p := ⟨w2.heap.size, 1, none⟩) (blk_lt hg5)).trans hz5.2.1, (hb7.cell (p := ⟨w2.heap.size, 2, none⟩) (blk_lt hg5)).trans hz5.2.2.1, (hb7.cell (p := ⟨w2.heap.size, 3, none⟩) (blk_lt hg5)).trans hz5.2.2.2.1, (hb7.cell (p := ⟨w2.heap.size, 4, none⟩) (blk_lt hg5)).trans hz5.2.2.2.2.1, (hb7.cell (p := ⟨ad.block, ad.off + 4, none⟩) (World.block_lt_of_cell? W5 _ p45)).trans p45⟩
      have hset : ∀ (w7 : World) b0 b1 b2 b3 b4, (fun w' : World => w'.cell? ⟨w2.heap.size, 0, none⟩ = some (.int .u8 (bt s 0)) ∧ w'.cell? ⟨w2.heap.size, 1, none⟩ = some (.int .u8 (bt s 1)) ∧ w'.cell? ⟨w2.heap.size, 2, none⟩ = some (.int .u8 (bt s 2)) ∧ w'.cell? ⟨w2.heap.size, 3, none⟩ = some (.int .u8 (bt s 3)) ∧ w'.cell? ⟨w2.heap.size, 4, none⟩ = some (.string ((s.extract 6 s.size).extract 0 n.toNat)) ∧ w'.cell? ⟨ad.block, ad.off + 4, none⟩ = some (.int .u64 n)) w7 → (fun w' : World => w'.cell? ⟨w2.heap.size, 0, none⟩ = some (.int .u8 (bt s 0)) ∧ w'.cell? ⟨w2.heap.size, 1, none⟩ = some (.int .u8 (bt s 1)) ∧ w'.cell? ⟨w2.heap.size, 2, none⟩ = some (.int .u8 (bt s 2)) ∧ w'.cell? ⟨w2.heap.size, 3, none⟩ = some (.int .u8 (bt s 3)) ∧ w'.cell? ⟨w2.heap.size, 4, none⟩ = some (.string ((s.extract 6 s.size).extract 0 n.toNat)) ∧ w'.cell? ⟨ad.block, ad.off + 4, none⟩ = some (.int .u64 n)) (((((w7.setCell ⟨w.heap.size, 0, none⟩ (b0)).setCell ⟨w.heap.size, 1, none⟩ (b1)).setCell ⟨w.heap.size, 2, none⟩ (b2)).setCell ⟨w.heap.size, 3, none⟩ (b3)).setCell ⟨w.heap.size, 4, none⟩ (b4)) := fun w7 b0 b1 b2 b3 b4 h => ⟨(cell5 (a := ⟨w2.heap.size, 0, none⟩) (Ne.symm hgne) b0 b1 b2 b3 b4).trans h.1, (cell5 (a := ⟨w2.heap.size, 1, none⟩) (Ne.symm hgne) b0 b1 b2 b3 b4).trans h.2.1, (cell5 (a := ⟨w2.heap.size, 2, none⟩) (Ne.symm hgne) b0 b1 b2 b3 b4).trans h.2.2.1, (cell5 (a := ⟨w2.heap.size, 3, none⟩) (Ne.symm hgne) b0 b1 b2 b3 b4).trans h.2.2.2.1, (cell5 (a := ⟨w2.heap.size, 4, none⟩) (Ne.symm hgne) b0 b1 b2 b3 b4).trans h.2.2.2.2.1, (cell5 (a := ⟨ad.block, ad.off + 4, none⟩) hadg b0 b1 b2 b3 b4).trans h.2.2.2.2.2⟩
      go_region_held3 (fun w' : World => w'.cell? ⟨w2.heap.size, 0, none⟩ = some (.int .u8 (bt s 0)) ∧ w'.cell? ⟨w2.heap.size, 1, none⟩ = some (.int .u8 (bt s 1)) ∧ w'.cell? ⟨w2.heap.size, 2, none⟩ = some (.int .u8 (bt s 2)) ∧ w'.cell? ⟨w2.heap.size, 3, none⟩ = some (.int .u8 (bt s 3)) ∧ w'.cell? ⟨w2.heap.size, 4, none⟩ = some (.string ((s.extract 6 s.size).extract 0 n.toNat)) ∧ w'.cell? ⟨ad.block, ad.off + 4, none⟩ = some (.int .u64 n)) (first | (with_reducible assumption) | (with_reducible exact hz5) | (with_reducible exact hset _ _ _ _ _ _ hS7)) ((go_at_call 17; refine (wrong_calls _ _ _ _ _ _).mono ?_; rintro e' w7 ⟨rfl, hb7⟩; have hS7 : w7.cell? ⟨w2.heap.size, 0, none⟩ = some (.int .u8 (bt s 0)) ∧ w7.cell? ⟨w2.heap.size, 1, none⟩ = some (.int .u8 (bt s 1)) ∧ w7.cell? ⟨w2.heap.size, 2, none⟩ = some (.int .u8 (bt s 2)) ∧ w7.cell? ⟨w2.heap.size, 3, none⟩ = some (.int .u8 (bt s 3)) ∧ w7.cell? ⟨w2.heap.size, 4, none⟩ = some (.string ((s.extract 6 s.size).extract 0 n.toNat)) ∧ w7.cell? ⟨ad.block, ad.off + 4, none⟩ = some (.int .u64 n) := hstep w7 hb7; have hx7 := blk_below (blk_drew hx5) hb7; have hB7 := below_call (below_drew1 hB5) hb7; have z0 := (blk_cell hx7 0).trans rfl; have z1 := (blk_cell hx7 1).trans rfl; have z2 := (blk_cell hx7 2).trans rfl; have z3 := (blk_cell hx7 3).trans rfl; have z4 := (blk_cell hx7 4).trans rfl; have f0 := blk_frozen hx7 0; have f1 := blk_frozen hx7 1; have f2 := blk_frozen hx7 2; have f3 := blk_frozen hx7 3; have f4 := blk_frozen hx7 4; clear hb7))
      go_wp2_with fail
      refine bodyPost_ret (results_ctt rfl _ _ w.heap.size 28 #[.int .u8 (bt s 0), .int .u8 (bt s 1), .int .u8 (bt s 2), .int .u8 (bt s 3), .string ((s.extract 6 s.size).extract 0 n.toNat)] (0, 0) _ rfl (put5 hx7 _ _ _ _ _) Try.underlying28 rfl (by kernel_rfl)) rfl ?_
      exact ⟨by rw [HO.out, hsz]; rfl, below5 hB7 (Nat.le_refl _) _ _ _ _ _⟩
end Go.Proofs.Ytkjjdphlfbecdaa.Gv
