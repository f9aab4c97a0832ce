-- Written by a program of this work, after the translation.
import Derived.Test.YtmdaaphjndjakagPAllx0
import Derived.Test.YtmdaaphjndjakagPAllx9
namespace Go.Proofs.Ytmdaaphjndjakag.PAll
open Go.RowKit Go.Proofs.YtmdaaphjndjakagW.PrintWords Go.Proofs.YtmdaaphjndjakagW.PrintLast Go.Proofs.YtmdaaphjndjakagW.PrintMore
attribute [local go_sem] max2_int min2_int max_two min_two max_three min_three max_four min_four   -- for this text's walks alone
set_option linter.unusedVariables false
set_option linter.unusedSimpArgs false

/-! ### oam_Open: function 39 (given: its walk is in another text) -/

theorem oam_Open.bodyPost_W {P : Program} {f : Func} {Q : Ending → World → Prop} {ex : Exit} {a : Act} {W : World} (h : ∀ W', W' = W → bodyPost P f Q ex a W') : bodyPost P f Q ex a W := h W rfl
def oam_Open.f (k : Nat) (a0 : ByteArray) : Option (Int × Int × Int × Int × Int × ByteArray × Int) := (field_Split.f k a0 (([3, 5, 8, 8, 8] : List Int))).bind fun b =>
  if b.2.2 = 0 then (if b.1.length = 5 then (if (b.2.1.size : Int) < (rd b.1 4) % 256 + 1 then (some (0, 0, 0, 0, 0, (⟨#[]⟩ : ByteArray), 1)) else
    (if (bt b.2.1 ((rd b.1 4) % 256)) = 0 then (some ((rd b.1 0) % 256, (rd b.1 1) % 256, (rd b.1 2) % 256, (rd b.1 3) % 256, (rd b.1 4) % 256, b.2.1.extract 0 (((rd b.1 4) % 256) : Int).toNat, 0)) else (some (0, 0, 0, 0, 0, (⟨#[]⟩ : ByteArray), 3)))) else none) else (some (0, 0, 0, 0, 0, (⟨#[]⟩ : ByteArray), b.2.2))
theorem oam_Open.mono : ∀ a0 k, LeO (oam_Open.f k a0) (oam_Open.f (k + 1) a0) := by
  intro a0 k
  unfold oam_Open.f
  repeat' first
      | (with_reducible exact field_Split.mono _ _ _)
      | (with_reducible exact LeO.refl _)
      | (with_reducible exact LeO.none _)
      | (with_reducible refine LeO.ite ?_ ?_)
      | (with_reducible refine LeO.bind ?_ (fun _ => ?_))
theorem oam_Open.lit5 (w : World) (o : Obj) : Kd.C (Kd.int .i64) ((w.alloc o).alloc (.cells #[.int .i64 3, .int .i64 5, .int .i64 8, .int .i64 8, .int .i64 8] 3)) (some ⟨w.heap.size + 1, 0, none⟩) 5 [3, 5, 8, 8, 8] := by
  have hb : ((w.alloc o).alloc (.cells #[.int .i64 3, .int .i64 5, .int .i64 8, .int .i64 8, .int .i64 8] 3)).heap[w.heap.size + 1]? = some (.cells #[.int .i64 3, .int .i64 5, .int .i64 8, .int .i64 8, .int .i64 8] 3 (0, 0)) := by
    have := heap_alloc_new (w.alloc o) (.cells #[.int .i64 3, .int .i64 5, .int .i64 8, .int .i64 8, .int .i64 8] 3)
    rwa [World.size_alloc] at this
  refine ⟨rfl, by decide, fun _ => ⟨_, rfl, fun j p hj => ⟨[.int .i64 p], rfl, rfl, fun i u hu => ?_⟩⟩⟩
  have hj5 : j < 5 := (List.getElem?_eq_some_iff.1 hj).1
  have hi : i = 0 := by
    have := (List.getElem?_eq_some_iff.1 hu).1
    simpa using this
  subst hi
  have e : (⟨w.heap.size + 1, 0, none⟩ : Addr).add (j * (Kd.int .i64).sz + 0) = ⟨w.heap.size + 1, j, none⟩ := by
    show (⟨w.heap.size + 1, 0, none⟩ : Addr).add (j * 1 + 0) = _
    simp [Addr.add]
    omega
  rw [e, blk_cell hb j]
  simp only [List.getElem?_cons_zero, Option.some.injEq] at hu
  subst hu
  have hc : j = 0 ∨ j = 1 ∨ j = 2 ∨ j = 3 ∨ j = 4 := by omega
  rcases hc with rfl | rfl | rfl | rfl | rfl <;> simp_all
set_option maxHeartbeats 8000000 in
set_option maxRecDepth 100000 in
theorem oam_Open.cA (k : Nat) (a0 : ByteArray) (r1 : Int) (r2 : Int) (r3 : Int) (r4 : Int) (r5 : Int) (r6 : ByteArray) (r7 : Int) (w : World) (h : oam_Open.f k a0 = some (r1, r2, r3, r4, r5, r6, r7)) (l : List Int) (rest : ByteArray) (hsp : field_Split.f k a0 [3, 5, 8, 8, 8] = some (l, rest, 0)) (c1 : (rest.size : Int) < rd l 4 % 256 + 1) :
    Calls Try.prog 39 #[.string a0] w fun e w' => e = .returned (.tuple #[.agg #[.int .u8 r1, .int .u8 r2, .int .u8 r3, .int .u8 r4, .int .u8 r5], .string r6, .int .i64 r7]) ∧ Below w.heap.size w w' := by
  unfold oam_Open.f at h
  rw [hsp] at h
  dsimp only [Option.bind_some] at h
  have huH := Try.underlying79
  have H := Lib.hid h
  have HS := Lib.hid hsp
  clear h hsp
  have h5 : (5 : Int) ≤ l.length := by
    have hh := H.out
    rw [if_pos rfl] at hh
    by_cases h5 : l.length = 5
    · omega
    · rw [if_neg h5] at hh; cases hh
  have hn0 : 0 ≤ rd l 4 % 256 := by omega
  have hn1 : rd l 4 % 256 ≤ 255 := by omega
  have c1b : decide ((rest.size : Int) < rd l 4 % 256 + 1) = true := decide_eq_true c1
  go_enter Try.func39, Try.ntmps39
  go_wp2_with (go_at_call 41; refine (field_Split.calls k a0 (some ⟨w.heap.size + 1, 0, none⟩) 5 [3, 5, 8, 8, 8] l rest 0 _ (oam_Open.lit5 w _) (by decide) HS.out).mono ?_; rintro e' w1 ⟨v0, rfl, hR, hb⟩; have hB := blk_below (blk_alloc (blk_new w (.cells #[.int .u8 0, .int .u8 0, .int .u8 0, .int .u8 0, .int .u8 0] 79)) _) hb; have HBW := ((((Below.refl w.heap.size w).alloc (Nat.le_refl _) _).alloc (by simp) _).trans (hb.mono (by simp; omega))); have hz0 := (blk_cell hB 0).trans rfl; have hz1 := (blk_cell hB 1).trans rfl; have hz2 := (blk_cell hB 2).trans rfl; have hz3 := (blk_cell hB 3).trans rfl; have hz4 := (blk_cell hB 4).trans rfl; have hf0 := blk_frozen hB 0; have hf1 := blk_frozen hB 1; have hf2 := blk_frozen hB 2; have hf3 := blk_frozen hB 3; have hf4 := blk_frozen hB 4; obtain ⟨Al, cl, rfl⟩ := Kd.R_slice hR; obtain ⟨ad, eA, hx0⟩ := Kd.at_int (Kd.R_reads' hR).2.2 0 (by omega) (by omega); cases eA; obtain ⟨ad1, eA, hx1⟩ := Kd.at_int (Kd.R_reads' hR).2.2 1 (by omega) (by omega); cases eA; obtain ⟨ad1, eA, hx2⟩ := Kd.at_int (Kd.R_reads' hR).2.2 2 (by omega) (by omega); cases eA; obtain ⟨ad1, eA, hx3⟩ := Kd.at_int (Kd.R_reads' hR).2.2 3 (by omega) (by omega); cases eA; obtain ⟨ad1, eA, hx4⟩ := Kd.at_int (Kd.R_reads' hR).2.2 4 (by omega) (by omega); cases eA)
  obtain ⟨bl, ol, pl⟩ := ad
  simp only [show ((0 : Int)).toNat = 0 from rfl, show ((1 : Int)).toNat = 1 from rfl, show ((2 : Int)).toNat = 2 from rfl, show ((3 : Int)).toNat = 3 from rfl, show ((4 : Int)).toNat = 4 from rfl] at hx0 hx1 hx2 hx3 hx4
  rw [Addr.add_zero'] at hx0
  simp only [Go.Addr.add, Nat.reduceEqDiff, ↓reduceIte] at hx1 hx2 hx3 hx4
  have hy0 := (World.cell?_alloc_lt w1 (.cells #[.int .u8 0, .int .u8 0, .int .u8 0, .int .u8 0, .int .u8 0] 79) _ (World.block_lt_of_cell? w1 _ hx0)).trans hx0
  have hy1 := (World.cell?_alloc_lt w1 (.cells #[.int .u8 0, .int .u8 0, .int .u8 0, .int .u8 0, .int .u8 0] 79) _ (World.block_lt_of_cell? w1 _ hx1)).trans hx1
  have hy2 := (World.cell?_alloc_lt w1 (.cells #[.int .u8 0, .int .u8 0, .int .u8 0, .int .u8 0, .int .u8 0] 79) _ (World.block_lt_of_cell? w1 _ hx2)).trans hx2
  have hy3 := (World.cell?_alloc_lt w1 (.cells #[.int .u8 0, .int .u8 0, .int .u8 0, .int .u8 0, .int .u8 0] 79) _ (World.block_lt_of_cell? w1 _ hx3)).trans hx3
  have hy4 := (World.cell?_alloc_lt w1 (.cells #[.int .u8 0, .int .u8 0, .int .u8 0, .int .u8 0, .int .u8 0] 79) _ (World.block_lt_of_cell? w1 _ hx4)).trans hx4
  have q0 : (0 : Int) < (l.length : Int) := by omega
  have q1 : (1 : Int) < (l.length : Int) := by omega
  have q2 : (2 : Int) < (l.length : Int) := by omega
  have q3 : (3 : Int) < (l.length : Int) := by omega
  have q4 : (4 : Int) < (l.length : Int) := by omega
  have hltB := blk_lt hB
  go_region
  all_goals (try go_wp2)
  have hR2 := H.out
  rw [if_pos trivial] at hR2
  have h55 : l.length = 5 := by
    by_cases h55 : l.length = 5
    · exact h55
    · rw [if_neg h55] at hR2; cases hR2
  rw [if_pos h55, if_pos c1] at hR2
  simp only [Option.some.injEq, Prod.mk.injEq] at hR2
  obtain ⟨rfl, rfl, rfl, rfl, rfl, rfl, rfl⟩ := hR2
  refine oam_Open.bodyPost_W (fun W' hW' => ?_)
  have hBel : Below w.heap.size w W' := by
    rw [hW']
    repeat (first | (with_reducible exact HBW) | (with_reducible refine Below.drew ?_) | (with_reducible refine Below.alloc ?_ (by have := HBW.size; simp; omega) _) | (with_reducible refine Below.setCell ?_ (by simp) _))
  have hF : W'.heap[w.heap.size]? = some (.cells #[.int .u8 0, .int .u8 0, .int .u8 0, .int .u8 0, .int .u8 0] 79 (0, 0)) := by
    rw [hW']
    (with_reducible repeat (first | refine blk_drew ?_ | refine blk_alloc ?_ _)); refine blk_put (cs := #[.int .u8 0, .int .u8 0, .int .u8 0, .int .u8 0, .int .u8 0]) ?_ 4 _ rfl; (with_reducible repeat (first | refine blk_drew ?_ | refine blk_alloc ?_ _)); refine blk_put (cs := #[.int .u8 0, .int .u8 0, .int .u8 0, .int .u8 0, .int .u8 0]) ?_ 3 _ rfl; (with_reducible repeat (first | refine blk_drew ?_ | refine blk_alloc ?_ _)); refine blk_put (cs := #[.int .u8 0, .int .u8 0, .int .u8 0, .int .u8 0, .int .u8 0]) ?_ 2 _ rfl; (with_reducible repeat (first | refine blk_drew ?_ | refine blk_alloc ?_ _)); refine blk_put (cs := #[.int .u8 0, .int .u8 0, .int .u8 0, .int .u8 0, .int .u8 0]) ?_ 1 _ rfl; (with_reducible repeat (first | refine blk_drew ?_ | refine blk_alloc ?_ _)); refine blk_put (cs := #[.int .u8 0, .int .u8 0, .int .u8 0, .int .u8 0, .int .u8 0]) ?_ 0 _ rfl; (with_reducible repeat (first | refine blk_drew ?_ | refine blk_alloc ?_ _)); exact hB
  clear hW'
  have z0 : W'.cell? ⟨w.heap.size, 0, none⟩ = some (.int .u8 0) := (blk_cell hF 0).trans rfl
  have z1 : W'.cell? ⟨w.heap.size, 1, none⟩ = some (.int .u8 0) := (blk_cell hF 1).trans rfl
  have z2 : W'.cell? ⟨w.heap.size, 2, none⟩ = some (.int .u8 0) := (blk_cell hF 2).trans rfl
  have z3 : W'.cell? ⟨w.heap.size, 3, none⟩ = some (.int .u8 0) := (blk_cell hF 3).trans rfl
  have z4 : W'.cell? ⟨w.heap.size, 4, none⟩ = some (.int .u8 0) := (blk_cell hF 4).trans rfl
  exact bodyPost_ret (v := .tuple #[.agg #[.int .u8 0, .int .u8 0, .int .u8 0, .int .u8 0, .int .u8 0], .string ⟨#[]⟩, .int .i64 1]) (by simp [results, Try.results39, go_sem, z0, z1, z2, z3, z4]) rfl ⟨rfl, hBel⟩
set_option maxHeartbeats 8000000 in
set_option maxRecDepth 100000 in
theorem oam_Open.cB (k : Nat) (a0 : ByteArray) (r1 : Int) (r2 : Int) (r3 : Int) (r4 : Int) (r5 : Int) (r6 : ByteArray) (r7 : Int) (w : World) (h : oam_Open.f k a0 = some (r1, r2, r3, r4, r5, r6, r7)) (l : List Int) (rest : ByteArray) (hsp : field_Split.f k a0 [3, 5, 8, 8, 8] = some (l, rest, 0)) (c1 : ¬ (rest.size : Int) < rd l 4 % 256 + 1) (c2 : ¬ bt rest (rd l 4 % 256) = 0) :
    Calls Try.prog 39 #[.string a0] w fun e w' => e = .returned (.tuple #[.agg #[.int .u8 r1, .int .u8 r2, .int .u8 r3, .int .u8 r4, .int .u8 r5], .string r6, .int .i64 r7]) ∧ Below w.heap.size w w' := by
  unfold oam_Open.f at h
  rw [hsp] at h
  dsimp only [Option.bind_some] at h
  have huH := Try.underlying79
  have H := Lib.hid h
  have HS := Lib.hid hsp
  clear h hsp
  have h5 : (5 : Int) ≤ l.length := by
    have hh := H.out
    rw [if_pos rfl] at hh
    by_cases h5 : l.length = 5
    · omega
    · rw [if_neg h5] at hh; cases hh
  have hn0 : 0 ≤ rd l 4 % 256 := by omega
  have hn1 : rd l 4 % 256 ≤ 255 := by omega
  have c1b : decide ((rest.size : Int) < rd l 4 % 256 + 1) = false := decide_eq_false c1
  have hbt := bt_at rest (rd l 4 % 256)
  have hq : rd l 4 % 256 < (rest.size : Int) := by omega
  have c2b : (bt rest (rd l 4 % 256) == 0) = false := by rw [beq_eq_false_iff_ne]; exact c2
  have c2c : (bt rest (rd l 4 % 256) != 0) = true := by rw [bne_iff_ne]; exact c2
  go_enter Try.func39, Try.ntmps39
  go_wp2_with (go_at_call 41; refine (field_Split.calls k a0 (some ⟨w.heap.size + 1, 0, none⟩) 5 [3, 5, 8, 8, 8] l rest 0 _ (oam_Open.lit5 w _) (by decide) HS.out).mono ?_; rintro e' w1 ⟨v0, rfl, hR, hb⟩; have hB := blk_below (blk_alloc (blk_new w (.cells #[.int .u8 0, .int .u8 0, .int .u8 0, .int .u8 0, .int .u8 0] 79)) _) hb; have HBW := ((((Below.refl w.heap.size w).alloc (Nat.le_refl _) _).alloc (by simp) _).trans (hb.mono (by simp; omega))); have hz0 := (blk_cell hB 0).trans rfl; have hz1 := (blk_cell hB 1).trans rfl; have hz2 := (blk_cell hB 2).trans rfl; have hz3 := (blk_cell hB 3).trans rfl; have hz4 := (blk_cell hB 4).trans rfl; have hf0 := blk_frozen hB 0; have hf1 := blk_frozen hB 1; have hf2 := blk_frozen hB 2; have hf3 := blk_frozen hB 3; have hf4 := blk_frozen hB 4; obtain ⟨Al, cl, rfl⟩ := Kd.R_slice hR; obtain ⟨ad, eA, hx0⟩ := Kd.at_int (Kd.R_reads' hR).2.2 0 (by omega) (by omega); cases eA; obtain ⟨ad1, eA, hx1⟩ := Kd.at_int (Kd.R_reads' hR).2.2 1 (by omega) (by omega); cases eA; obtain ⟨ad1, eA, hx2⟩ := Kd.at_int (Kd.R_reads' hR).2.2 2 (by omega) (by omega); cases eA; obtain ⟨ad1, eA, hx3⟩ := Kd.at_int (Kd.R_reads' hR).2.2 3 (by omega) (by omega); cases eA; obtain ⟨ad1, eA, hx4⟩ := Kd.at_int (Kd.R_reads' hR).2.2 4 (by omega) (by omega); cases eA)
  obtain ⟨bl, ol, pl⟩ := ad
  simp only [show ((0 : Int)).toNat = 0 from rfl, show ((1 : Int)).toNat = 1 from rfl, show ((2 : Int)).toNat = 2 from rfl, show ((3 : Int)).toNat = 3 from rfl, show ((4 : Int)).toNat = 4 from rfl] at hx0 hx1 hx2 hx3 hx4
  rw [Addr.add_zero'] at hx0
  simp only [Go.Addr.add, Nat.reduceEqDiff, ↓reduceIte] at hx1 hx2 hx3 hx4
  have hy0 := (World.cell?_alloc_lt w1 (.cells #[.int .u8 0, .int .u8 0, .int .u8 0, .int .u8 0, .int .u8 0] 79) _ (World.block_lt_of_cell? w1 _ hx0)).trans hx0
  have hy1 := (World.cell?_alloc_lt w1 (.cells #[.int .u8 0, .int .u8 0, .int .u8 0, .int .u8 0, .int .u8 0] 79) _ (World.block_lt_of_cell? w1 _ hx1)).trans hx1
  have hy2 := (World.cell?_alloc_lt w1 (.cells #[.int .u8 0, .int .u8 0, .int .u8 0, .int .u8 0, .int .u8 0] 79) _ (World.block_lt_of_cell? w1 _ hx2)).trans hx2
  have hy3 := (World.cell?_alloc_lt w1 (.cells #[.int .u8 0, .int .u8 0, .int .u8 0, .int .u8 0, .int .u8 0] 79) _ (World.block_lt_of_cell? w1 _ hx3)).trans hx3
  have hy4 := (World.cell?_alloc_lt w1 (.cells #[.int .u8 0, .int .u8 0, .int .u8 0, .int .u8 0, .int .u8 0] 79) _ (World.block_lt_of_cell? w1 _ hx4)).trans hx4
  have q0 : (0 : Int) < (l.length : Int) := by omega
  have q1 : (1 : Int) < (l.length : Int) := by omega
  have q2 : (2 : Int) < (l.length : Int) := by omega
  have q3 : (3 : Int) < (l.length : Int) := by omega
  have q4 : (4 : Int) < (l.length : Int) := by omega
  have hltB := blk_lt hB
  go_region
  all_goals (try go_wp2)
  have hR2 := H.out
  rw [if_pos trivial] at hR2
  have h55 : l.length = 5 := by
    by_cases h55 : l.length = 5
    · exact h55
    · rw [if_neg h55] at hR2; cases hR2
  rw [if_pos h55, if_neg (by omega)] at hR2
  rw [if_neg c2] at hR2
  simp only [Option.some.injEq, Prod.mk.injEq] at hR2
  obtain ⟨rfl, rfl, rfl, rfl, rfl, rfl, rfl⟩ := hR2
  refine oam_Open.bodyPost_W (fun W' hW' => ?_)
  have hBel : Below w.heap.size w W' := by
    rw [hW']
    repeat (first | (with_reducible exact HBW) | (with_reducible refine Below.drew ?_) | (with_reducible refine Below.alloc ?_ (by have := HBW.size; simp; omega) _) | (with_reducible refine Below.setCell ?_ (by simp) _))
  have hF : W'.heap[w.heap.size]? = some (.cells #[.int .u8 0, .int .u8 0, .int .u8 0, .int .u8 0, .int .u8 0] 79 (0, 0)) := by
    rw [hW']
    (with_reducible repeat (first | refine blk_drew ?_ | refine blk_alloc ?_ _)); refine blk_put (cs := #[.int .u8 0, .int .u8 0, .int .u8 0, .int .u8 0, .int .u8 0]) ?_ 4 _ rfl; (with_reducible repeat (first | refine blk_drew ?_ | refine blk_alloc ?_ _)); refine blk_put (cs := #[.int .u8 0, .int .u8 0, .int .u8 0, .int .u8 0, .int .u8 0]) ?_ 3 _ rfl; (with_reducible repeat (first | refine blk_drew ?_ | refine blk_alloc ?_ _)); refine blk_put (cs := #[.int .u8 0, .int .u8 0, .int .u8 0, .int .u8 0, .int .u8 0]) ?_ 2 _ rfl; (with_reducible repeat (first | refine blk_drew ?_ | refine blk_alloc ?_ _)); refine blk_put (cs := #[.int .u8 0, .int .u8 0, .int .u8 0, .int .u8 0, .int .u8 0]) ?_ 1 _ rfl; (with_reducible repeat (first | refine blk_drew ?_ | refine blk_alloc ?_ _)); refine blk_put (cs := #[.int .u8 0, .int .u8 0, .int .u8 0, .int .u8 0, .int .u8 0]) ?_ 0 _ rfl; (with_reducible repeat (first | refine blk_drew ?_ | refine blk_alloc ?_ _)); exact hB
  clear hW'
  have z0 : W'.cell? ⟨w.heap.size, 0, none⟩ = some (.int .u8 0) := (blk_cell hF 0).trans rfl
  have z1 : W'.cell? ⟨w.heap.size, 1, none⟩ = some (.int .u8 0) := (blk_cell hF 1).trans rfl
  have z2 : W'.cell? ⟨w.heap.size, 2, none⟩ = some (.int .u8 0) := (blk_cell hF 2).trans rfl
  have z3 : W'.cell? ⟨w.heap.size, 3, none⟩ = some (.int .u8 0) := (blk_cell hF 3).trans rfl
  have z4 : W'.cell? ⟨w.heap.size, 4, none⟩ = some (.int .u8 0) := (blk_cell hF 4).trans rfl
  exact bodyPost_ret (v := .tuple #[.agg #[.int .u8 0, .int .u8 0, .int .u8 0, .int .u8 0, .int .u8 0], .string ⟨#[]⟩, .int .i64 3]) (by simp [results, Try.results39, go_sem, z0, z1, z2, z3, z4]) rfl ⟨rfl, hBel⟩
set_option maxHeartbeats 8000000 in
set_option maxRecDepth 100000 in
theorem oam_Open.cC (k : Nat) (a0 : ByteArray) (r1 : Int) (r2 : Int) (r3 : Int) (r4 : Int) (r5 : Int) (r6 : ByteArray) (r7 : Int) (w : World) (h : oam_Open.f k a0 = some (r1, r2, r3, r4, r5, r6, r7)) (l : List Int) (rest : ByteArray) (hsp : field_Split.f k a0 [3, 5, 8, 8, 8] = some (l, rest, 0)) (c1 : ¬ (rest.size : Int) < rd l 4 % 256 + 1) (c2 : bt rest (rd l 4 % 256) = 0) :
    Calls Try.prog 39 #[.string a0] w fun e w' => e = .returned (.tuple #[.agg #[.int .u8 r1, .int .u8 r2, .int .u8 r3, .int .u8 r4, .int .u8 r5], .string r6, .int .i64 r7]) ∧ Below w.heap.size w w' := by
  unfold oam_Open.f at h
  rw [hsp] at h
  dsimp only [Option.bind_some] at h
  have huH := Try.underlying79
  have H := Lib.hid h
  have HS := Lib.hid hsp
  clear h hsp
  have h5 : (5 : Int) ≤ l.length := by
    have hh := H.out
    rw [if_pos rfl] at hh
    by_cases h5 : l.length = 5
    · omega
    · rw [if_neg h5] at hh; cases hh
  have hn0 : 0 ≤ rd l 4 % 256 := by omega
  have hn1 : rd l 4 % 256 ≤ 255 := by omega
  have c1b : decide ((rest.size : Int) < rd l 4 % 256 + 1) = false := decide_eq_false c1
  have hbt := bt_at rest (rd l 4 % 256)
  have hq : rd l 4 % 256 < (rest.size : Int) := by omega
  have c2b : (bt rest (rd l 4 % 256) == 0) = true := by rw [beq_iff_eq]; exact c2
  have c2c : (bt rest (rd l 4 % 256) != 0) = false := by rw [bne_eq_false_iff_eq]; exact c2
  go_enter Try.func39, Try.ntmps39
  go_wp2_with (go_at_call 41; refine (field_Split.calls k a0 (some ⟨w.heap.size + 1, 0, none⟩) 5 [3, 5, 8, 8, 8] l rest 0 _ (oam_Open.lit5 w _) (by decide) HS.out).mono ?_; rintro e' w1 ⟨v0, rfl, hR, hb⟩; have hB := blk_below (blk_alloc (blk_new w (.cells #[.int .u8 0, .int .u8 0, .int .u8 0, .int .u8 0, .int .u8 0] 79)) _) hb; have HBW := ((((Below.refl w.heap.size w).alloc (Nat.le_refl _) _).alloc (by simp) _).trans (hb.mono (by simp; omega))); have hz0 := (blk_cell hB 0).trans rfl; have hz1 := (blk_cell hB 1).trans rfl; have hz2 := (blk_cell hB 2).trans rfl; have hz3 := (blk_cell hB 3).trans rfl; have hz4 := (blk_cell hB 4).trans rfl; have hf0 := blk_frozen hB 0; have hf1 := blk_frozen hB 1; have hf2 := blk_frozen hB 2; have hf3 := blk_frozen hB 3; have hf4 := blk_frozen hB 4; obtain ⟨Al, cl, rfl⟩ := Kd.R_slice hR; obtain ⟨ad, eA, hx0⟩ := Kd.at_int (Kd.R_reads' hR).2.2 0 (by omega) (by omega); cases eA; obtain ⟨ad1, eA, hx1⟩ := Kd.at_int (Kd.R_reads' hR).2.2 1 (by omega) (by omega); cases eA; obtain ⟨ad1, eA, hx2⟩ := Kd.at_int (Kd.R_reads' hR).2.2 2 (by omega) (by omega); cases eA; obtain ⟨ad1, eA, hx3⟩ := Kd.at_int (Kd.R_reads' hR).2.2 3 (by omega) (by omega); cases eA; obtain ⟨ad1, eA, hx4⟩ := Kd.at_int (Kd.R_reads' hR).2.2 4 (by omega) (by omega); cases eA)
  obtain ⟨bl, ol, pl⟩ := ad
  simp only [show ((0 : Int)).toNat = 0 from rfl, show ((1 : Int)).toNat = 1 from rfl, show ((2 : Int)).toNat = 2 from rfl, show ((3 : Int)).toNat = 3 from rfl, show ((4 : Int)).toNat = 4 from rfl] at hx0 hx1 hx2 hx3 hx4
  rw [Addr.add_zero'] at hx0
  simp only [Go.Addr.add, Nat.reduceEqDiff, ↓reduceIte] at hx1 hx2 hx3 hx4
  have hy0 := (World.cell?_alloc_lt w1 (.cells #[.int .u8 0, .int .u8 0, .int .u8 0, .int .u8 0, .int .u8 0] 79) _ (World.block_lt_of_cell? w1 _ hx0)).trans hx0
  have hy1 := (World.cell?_alloc_lt w1 (.cells #[.int .u8 0, .int .u8 0, .int .u8 0, .int .u8 0, .int .u8 0] 79) _ (World.block_lt_of_cell? w1 _ hx1)).trans hx1
  have hy2 := (World.cell?_alloc_lt w1 (.cells #[.int .u8 0, .int .u8 0, .int .u8 0, .int .u8 0, .int .u8 0] 79) _ (World.block_lt_of_cell? w1 _ hx2)).trans hx2
  have hy3 := (World.cell?_alloc_lt w1 (.cells #[.int .u8 0, .int .u8 0, .int .u8 0, .int .u8 0, .int .u8 0] 79) _ (World.block_lt_of_cell? w1 _ hx3)).trans hx3
  have hy4 := (World.cell?_alloc_lt w1 (.cells #[.int .u8 0, .int .u8 0, .int .u8 0, .int .u8 0, .int .u8 0] 79) _ (World.block_lt_of_cell? w1 _ hx4)).trans hx4
  have q0 : (0 : Int) < (l.length : Int) := by omega
  have q1 : (1 : Int) < (l.length : Int) := by omega
  have q2 : (2 : Int) < (l.length : Int) := by omega
  have q3 : (3 : Int) < (l.length : Int) := by omega
  have q4 : (4 : Int) < (l.length : Int) := by omega
  have hltB := blk_lt hB
  go_region
  all_goals (try go_wp2)
  go_region
  all_goals (try go_wp2)
  have hR2 := H.out
  rw [if_pos trivial] at hR2
  have h55 : l.length = 5 := by
    by_cases h55 : l.length = 5
    · exact h55
    · rw [if_neg h55] at hR2; cases hR2
  rw [if_pos h55, if_neg (by omega)] at hR2
  rw [if_pos c2] at hR2
  simp only [Option.some.injEq, Prod.mk.injEq] at hR2
  obtain ⟨rfl, rfl, rfl, rfl, rfl, rfl, rfl⟩ := hR2
  refine oam_Open.bodyPost_W (fun W' hW' => ?_)
  have hBel : Below w.heap.size w W' := by
    rw [hW']
    repeat (first | (with_reducible exact HBW) | (with_reducible refine Below.drew ?_) | (with_reducible refine Below.alloc ?_ (by have := HBW.size; simp; omega) _) | (with_reducible refine Below.setCell ?_ (by simp) _))
  have hF : W'.heap[w.heap.size]? = some (.cells #[.int .u8 (rd l 0 % 256), .int .u8 (rd l 1 % 256), .int .u8 (rd l 2 % 256), .int .u8 (rd l 3 % 256), .int .u8 (rd l 4 % 256)] 79 (0, 0)) := by
    rw [hW']
    (with_reducible repeat (first | refine blk_drew ?_ | refine blk_alloc ?_ _)); refine blk_put (cs := #[.int .u8 (rd l 0 % 256), .int .u8 (rd l 1 % 256), .int .u8 (rd l 2 % 256), .int .u8 (rd l 3 % 256), .int .u8 0]) ?_ 4 _ rfl; (with_reducible repeat (first | refine blk_drew ?_ | refine blk_alloc ?_ _)); refine blk_put (cs := #[.int .u8 (rd l 0 % 256), .int .u8 (rd l 1 % 256), .int .u8 (rd l 2 % 256), .int .u8 0, .int .u8 0]) ?_ 3 _ rfl; (with_reducible repeat (first | refine blk_drew ?_ | refine blk_alloc ?_ _)); refine blk_put (cs := #[.int .u8 (rd l 0 % 256), .int .u8 (rd l 1 % 256), .int .u8 0, .int .u8 0, .int .u8 0]) ?_ 2 _ rfl; (with_reducible repeat (first | refine blk_drew ?_ | refine blk_alloc ?_ _)); refine blk_put (cs := #[.int .u8 (rd l 0 % 256), .int .u8 0, .int .u8 0, .int .u8 0, .int .u8 0]) ?_ 1 _ rfl; (with_reducible repeat (first | refine blk_drew ?_ | refine blk_alloc ?_ _)); refine blk_put (cs := #[.int .u8 0, .int .u8 0, .int .u8 0, .int .u8 0, .int .u8 0]) ?_ 0 _ rfl; (with_reducible repeat (first | refine blk_drew ?_ | refine blk_alloc ?_ _)); exact hB
  clear hW'
  have z0 : W'.cell? ⟨w.heap.size, 0, none⟩ = some (.int .u8 (rd l 0 % 256)) := (blk_cell hF 0).trans rfl
  have z1 : W'.cell? ⟨w.heap.size, 1, none⟩ = some (.int .u8 (rd l 1 % 256)) := (blk_cell hF 1).trans rfl
  have z2 : W'.cell? ⟨w.heap.size, 2, none⟩ = some (.int .u8 (rd l 2 % 256)) := (blk_cell hF 2).trans rfl
  have z3 : W'.cell? ⟨w.heap.size, 3, none⟩ = some (.int .u8 (rd l 3 % 256)) := (blk_cell hF 3).trans rfl
  have z4 : W'.cell? ⟨w.heap.size, 4, none⟩ = some (.int .u8 (rd l 4 % 256)) := (blk_cell hF 4).trans rfl
  exact bodyPost_ret (v := .tuple #[.agg #[.int .u8 (rd l 0 % 256), .int .u8 (rd l 1 % 256), .int .u8 (rd l 2 % 256), .int .u8 (rd l 3 % 256), .int .u8 (rd l 4 % 256)], .string (rest.extract 0 (rd l 4 % 256).toNat), .int .i64 0]) (by simp [results, Try.results39, go_sem, z0, z1, z2, z3, z4]) rfl ⟨rfl, hBel⟩
set_option maxHeartbeats 8000000 in
set_option maxRecDepth 100000 in
theorem oam_Open.calls (k : Nat) (a0 : ByteArray) (r1 : Int) (r2 : Int) (r3 : Int) (r4 : Int) (r5 : Int) (r6 : ByteArray) (r7 : Int) (w : World) (h : oam_Open.f k a0 = some (r1, r2, r3, r4, r5, r6, r7)) :
    Calls Try.prog 39 #[.string a0] w fun e w' => e = .returned (.tuple #[.agg #[.int .u8 r1, .int .u8 r2, .int .u8 r3, .int .u8 r4, .int .u8 r5], .string r6, .int .i64 r7]) ∧ Below w.heap.size w w' := by
  have h0 := h
  unfold oam_Open.f at h
  obtain ⟨⟨l, rest, e⟩, hsp, h⟩ := Option.bind_eq_some_iff.1 h
  simp only at h
  have huH := Try.underlying79
  by_cases he : e = 0
  · subst he
    by_cases c1 : (rest.size : Int) < rd l 4 % 256 + 1
    · exact oam_Open.cA k a0 r1 r2 r3 r4 r5 r6 r7 w h0 l rest hsp c1
    · by_cases c2 : bt rest (rd l 4 % 256) = 0
      · exact oam_Open.cC k a0 r1 r2 r3 r4 r5 r6 r7 w h0 l rest hsp c1 c2
      · exact oam_Open.cB k a0 r1 r2 r3 r4 r5 r6 r7 w h0 l rest hsp c1 c2
  · have H := Lib.hid h
    have HS := Lib.hid hsp
    clear h hsp h0
    have hb0 : (e != 0) = true := by rw [bne_iff_ne]; exact he
    have hb1 : (e == 0) = false := by rw [beq_eq_false_iff_ne]; exact he
    go_enter Try.func39, Try.ntmps39
    go_wp2_with (go_at_call 41; refine (field_Split.calls k a0 (some ⟨w.heap.size + 1, 0, none⟩) 5 [3, 5, 8, 8, 8] l rest e _ (oam_Open.lit5 w _) (by decide) HS.out).mono ?_; rintro e' w1 ⟨v0, rfl, hR, hb⟩; have hB := blk_below (blk_alloc (blk_new w (.cells #[.int .u8 0, .int .u8 0, .int .u8 0, .int .u8 0, .int .u8 0] 79)) _) hb; have HBW := ((((Below.refl w.heap.size w).alloc (Nat.le_refl _) _).alloc (by simp) _).trans (hb.mono (by simp; omega))); have hz0 := (blk_cell hB 0).trans rfl; have hz1 := (blk_cell hB 1).trans rfl; have hz2 := (blk_cell hB 2).trans rfl; have hz3 := (blk_cell hB 3).trans rfl; have hz4 := (blk_cell hB 4).trans rfl; have hf0 := blk_frozen hB 0; have hf1 := blk_frozen hB 1; have hf2 := blk_frozen hB 2; have hf3 := blk_frozen hB 3; have hf4 := blk_frozen hB 4; obtain ⟨Al, cl, rfl⟩ := Kd.R_slice hR)
    have hR2 := H.out
    rw [if_neg he] at hR2
    simp only [Option.some.injEq, Prod.mk.injEq] at hR2
    obtain ⟨rfl, rfl, rfl, rfl, rfl, rfl, rfl⟩ := hR2
    exact bodyPost_ret (v := .tuple #[.agg #[.int .u8 0, .int .u8 0, .int .u8 0, .int .u8 0, .int .u8 0], .string ⟨#[]⟩, .int .i64 e]) (by simp [results, Try.results39, go_sem, hz0, hz1, hz2, hz3, hz4]) rfl ⟨rfl, (by repeat (first | (with_reducible exact HBW) | (with_reducible refine Below.drew ?_) | (with_reducible refine Below.setCell ?_ (by simp) _)))⟩


end Go.Proofs.Ytmdaaphjndjakag.PAll
