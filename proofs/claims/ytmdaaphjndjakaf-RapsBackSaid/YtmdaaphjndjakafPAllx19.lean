-- Written by a program of this work, after the translation.
import Derived.Test.YtmdaaphjndjakafPAllx0
import Derived.Test.YtmdaaphjndjakafPAllx6
import Derived.Test.YtmdaaphjndjakafPAllx12
import Derived.Test.YtmdaaphjndjakafPAllx16
import Derived.Test.YtmdaaphjndjakafPAllx17
import Derived.Test.YtmdaaphjndjakafPAllx18
namespace Go.Proofs.Ytmdaaphjndjakaf.PAll
open Go.RowKit Go.Proofs.YtmdaaphjndjakafW.PrintWords Go.Proofs.YtmdaaphjndjakafW.PrintLast Go.Proofs.YtmdaaphjndjakafW.PrintMore
attribute [local go_sem] max2_int min2_int max_two min_two max_three min_three max_four min_four   -- for this text's walks alone
set_option linter.unusedVariables false
set_option linter.unusedSimpArgs false

/-! ### raps_Open: function 22 -/
mutual
def raps_Open.j0 : Nat → ByteArray → Int → Int → Int → Int → Int → Int → Option (Int × Bool × Bool × Bool × Int × Int)
  | 0, _, _, _, _, _, _, _ => none
  | k + 1, x7, x8, x230000, x230001, x230002, x230003, x230004 => if x8 = 0 then ((field_Split.f k x7 (([4, 4, 1, 1, 1, 5, 48] : List Int))).bind fun bt234 => (if bt234.2.2 = 0 then (if x230003 = 0 then (if 1 < (bt234.1.length : Int) then (if (rd bt234.1 1) = 0 then (if 5 < (bt234.1.length : Int) then (if (rd bt234.1 5) = 0 then ((field_Noughts.f k bt234.2.1).bind fun t241 => (raps_Open.j1 k bt234.1 (!t241))) else (raps_Open.j1 k bt234.1 true)) else (none)) else (raps_Open.j1 k bt234.1 true)) else (none)) else (raps_Open.j1 k bt234.1 true)) else (some (0, false, false, false, 0, bt234.2.2)))) else (some (0, false, false, false, 0, x8))
def raps_Open.j1 : Nat → List Int → Bool → Option (Int × Bool × Bool × Bool × Int × Int)
  | 0, _, _ => none
  | k + 1, x9, x58 => if x58 = true then (some (0, false, false, false, 0, 3)) else (if 0 < (x9.length : Int) then (if 2 < (x9.length : Int) then (if 3 < (x9.length : Int) then (if 4 < (x9.length : Int) then (if 6 < (x9.length : Int) then ((raps_Msg_wrong.f k ((rd x9 0) % 256) ((rd x9 2) == 1) ((rd x9 3) == 1) ((rd x9 4) == 1) (rd x9 6)).bind fun t248 => (if t248 = 0 then (some ((rd x9 0) % 256, ((rd x9 2) == 1), ((rd x9 3) == 1), ((rd x9 4) == 1), rd x9 6, 0)) else (some (0, false, false, false, 0, t248)))) else (none)) else (none)) else (none)) else (none)) else (none))
end
def raps_Open.f (k : Nat) (a0 : ByteArray) (a1 : Int) : Option (Int × Bool × Bool × Bool × Int × Int) := (oam_Open.f k a0).bind fun bt222 => (if bt222.2.2.2.2.2.2 = 0 then ((oam_Head_Is.f k bt222.1 bt222.2.1 bt222.2.2.1 bt222.2.2.2.1 bt222.2.2.2.2.1 a1 1 40 32).bind fun t230 => (raps_Open.j0 k bt222.2.2.2.2.2.1 t230 bt222.1 bt222.2.1 bt222.2.2.1 bt222.2.2.2.1 bt222.2.2.2.2.1)) else (raps_Open.j0 k bt222.2.2.2.2.2.1 bt222.2.2.2.2.2.2 bt222.1 bt222.2.1 bt222.2.2.1 bt222.2.2.2.1 bt222.2.2.2.2.1))
theorem raps_Open.mono_l : ∀ k, (∀ y0 y1 y2 y3 y4 y5 y6, LeO (raps_Open.j0 k y0 y1 y2 y3 y4 y5 y6) (raps_Open.j0 (k + 1) y0 y1 y2 y3 y4 y5 y6)) ∧ (∀ y0 y1, LeO (raps_Open.j1 k y0 y1) (raps_Open.j1 (k + 1) y0 y1))
  | 0 => ⟨fun _ _ _ _ _ _ _ r h => by simp [raps_Open.j0] at h, fun _ _ r h => by simp [raps_Open.j1] at h⟩
  | k + 1 => by
    obtain ⟨ih0, ih1⟩ := raps_Open.mono_l k
    refine ⟨?_, ?_⟩
    · intro y0 y1 y2 y3 y4 y5 y6
      unfold raps_Open.j0
      repeat' first
      | (with_reducible exact ih0 _ _ _ _ _ _ _)
      | (with_reducible exact ih1 _ _)
      | (with_reducible exact field_Noughts.mono _ _)
      | (with_reducible exact field_Split.mono _ _ _)
      | (with_reducible exact oam_Head_Is.mono _ _ _ _ _ _ _ _ _ _)
      | (with_reducible exact oam_Open.mono _ _)
      | (with_reducible exact raps_Msg_wrong.mono _ _ _ _ _ _)
      | (with_reducible exact LeO.refl _)
      | (with_reducible exact LeO.none _)
      | (with_reducible refine LeO.ite ?_ ?_)
      | (with_reducible refine LeO.bind ?_ (fun _ => ?_))
      | exact ih0 _ _ _ _ _ _ _
      | exact ih1 _ _
      | exact field_Noughts.mono _ _
      | exact field_Split.mono _ _ _
      | exact oam_Head_Is.mono _ _ _ _ _ _ _ _ _ _
      | exact oam_Open.mono _ _
      | exact raps_Msg_wrong.mono _ _ _ _ _ _
      | exact LeO.none _
      | refine LeO.ite ?_ ?_
      | refine LeO.bind ?_ (fun _ => ?_)
    · intro y0 y1
      unfold raps_Open.j1
      repeat' first
      | (with_reducible exact ih0 _ _ _ _ _ _ _)
      | (with_reducible exact ih1 _ _)
      | (with_reducible exact field_Noughts.mono _ _)
      | (with_reducible exact field_Split.mono _ _ _)
      | (with_reducible exact oam_Head_Is.mono _ _ _ _ _ _ _ _ _ _)
      | (with_reducible exact oam_Open.mono _ _)
      | (with_reducible exact raps_Msg_wrong.mono _ _ _ _ _ _)
      | (with_reducible exact LeO.refl _)
      | (with_reducible exact LeO.none _)
      | (with_reducible refine LeO.ite ?_ ?_)
      | (with_reducible refine LeO.bind ?_ (fun _ => ?_))
      | exact ih0 _ _ _ _ _ _ _
      | exact ih1 _ _
      | exact field_Noughts.mono _ _
      | exact field_Split.mono _ _ _
      | exact oam_Head_Is.mono _ _ _ _ _ _ _ _ _ _
      | exact oam_Open.mono _ _
      | exact raps_Msg_wrong.mono _ _ _ _ _ _
      | exact LeO.none _
      | refine LeO.ite ?_ ?_
      | refine LeO.bind ?_ (fun _ => ?_)
theorem raps_Open.mono : ∀ a0 a1 k, LeO (raps_Open.f k a0 a1) (raps_Open.f (k + 1) a0 a1) := by
  intro a0 a1 k
  obtain ⟨ih0, ih1⟩ := raps_Open.mono_l k
  unfold raps_Open.f
  repeat' first
      | (with_reducible exact ih0 _ _ _ _ _ _ _)
      | (with_reducible exact ih1 _ _)
      | (with_reducible exact field_Noughts.mono _ _)
      | (with_reducible exact field_Split.mono _ _ _)
      | (with_reducible exact oam_Head_Is.mono _ _ _ _ _ _ _ _ _ _)
      | (with_reducible exact oam_Open.mono _ _)
      | (with_reducible exact raps_Msg_wrong.mono _ _ _ _ _ _)
      | (with_reducible exact LeO.refl _)
      | (with_reducible exact LeO.none _)
      | (with_reducible refine LeO.ite ?_ ?_)
      | (with_reducible refine LeO.bind ?_ (fun _ => ?_))
      | exact ih0 _ _ _ _ _ _ _
      | exact ih1 _ _
      | exact field_Noughts.mono _ _
      | exact field_Split.mono _ _ _
      | exact oam_Head_Is.mono _ _ _ _ _ _ _ _ _ _
      | exact oam_Open.mono _ _
      | exact raps_Msg_wrong.mono _ _ _ _ _ _
      | exact LeO.none _
      | refine LeO.ite ?_ ?_
      | refine LeO.bind ?_ (fun _ => ?_)
def raps_Open.T11 : Bool × List (List Nat × List Nat) := (true, [([], []), ([0], [0]), ([1], [1]), ([2], [2]), ([], []), ([4], [4]), ([5], [5]), ([6], [6]), ([], []), ([8], [8]), ([9], [9]), ([10], [10]), ([], []), ([12], [12]), ([13], [13]), ([14], [14]), ([], []), ([16], [16]), ([17], [17]), ([3, 7, 11, 15, 18], [3, 7, 11, 15, 18]), ([], []), ([20, 19, 0, 1, 2, 3, 4, 5, 6, 7, 8, 9, 10, 11, 12, 13, 14, 15, 16, 17, 18, 19, 20], [19, 20])])
def raps_Open.B11 : List Nat := [0, 1, 3, 7, 0, 16, 48, 112, 0, 256, 768, 1792, 0, 4096, 12288, 28672, 0, 65536, 196608, 524287, 0, 2097151]
theorem raps_Open.tab11 : rtab .any (opsOf Try.f22 11) = raps_Open.T11 := by kernel_rfl
theorem raps_Open.bits11 : waitsOk raps_Open.T11.2 raps_Open.B11 = true := by kernel_rfl
set_option maxHeartbeats 8000000 in
set_option maxRecDepth 100000 in
theorem raps_Open.calls (k : Nat) (a0 : ByteArray) (a1 : Int) (r1 : Int) (r2 : Bool) (r3 : Bool) (r4 : Bool) (r5 : Int) (r6 : Int) (w : World) (h : raps_Open.f k a0 a1 = some (r1, r2, r3, r4, r5, r6)) :
    Calls Try.prog 22 #[.string a0, .int .u8 a1] w fun e w' => e = .returned (.tuple #[.agg #[.int .u8 r1, .bool r2, .bool r3, .bool r4, .int .u64 r5], .int .i64 r6]) ∧ Below w.heap.size w w' := by
  have hu26 := Try.underlying26
  have hu82 := Try.underlying82
  have HB := Aside0.mk (Below.refl w.heap.size w)
  have H : ((oam_Open.f k a0).bind fun bt222 => (if bt222.2.2.2.2.2.2 = 0 then ((oam_Head_Is.f k bt222.1 bt222.2.1 bt222.2.2.1 bt222.2.2.2.1 bt222.2.2.2.2.1 a1 1 40 32).bind fun t230 => (raps_Open.j0 k bt222.2.2.2.2.2.1 t230 bt222.1 bt222.2.1 bt222.2.2.1 bt222.2.2.2.1 bt222.2.2.2.2.1)) else (raps_Open.j0 k bt222.2.2.2.2.2.1 bt222.2.2.2.2.2.2 bt222.1 bt222.2.1 bt222.2.2.1 bt222.2.2.2.1 bt222.2.2.2.2.1))) = some (r1, r2, r3, r4, r5, r6) := h
  clear h
  replace H := Option.bind_eq_some_iff.mp H
  obtain ⟨⟨t222, t223, t224, t225, t226, t227, t228⟩, A30, H⟩ := H
  replace H : (if t228 = 0 then ((oam_Head_Is.f k t222 t223 t224 t225 t226 a1 1 40 32).bind fun t230 => (raps_Open.j0 k t227 t230 t222 t223 t224 t225 t226)) else (raps_Open.j0 k t227 t228 t222 t223 t224 t225 t226)) = some (r1, r2, r3, r4, r5, r6) := H
  have A3 := Aside0.mk A30
  clear A30
  have HC4 := Aside0.mk H
  clear H
  go_enter Try.func22, Try.ntmps22
  go_upto_if 20 with (first | ((with_reducible refine gate_dst (N := 4) rfl ?_); refine box_event ?hg (N := 4) ?hd (cs := #[.int .u8 0, .bool false, .bool false, .bool false, .int .u64 0]) (t := 26) ?hr ?_; (case hd => rfl); (case hg => rfl); (case hr => first | (go_simp; done) | (go_simp; rfl)); intro gb221 hg w5 hbox hb; have n0_ := Aside0.mk (below_step (by repeat (first | (with_reducible first | exact HB.out | apply below_alloc | apply pw_below_drewN | apply below_drew1) | exact HB.out)) hb); have n1_ := Aside0.mk (hbox); have n2_ := Aside0.mk ((by rw [hg]; exact (below_size (by repeat (first | (with_reducible first | exact HB.out | apply below_alloc | apply pw_below_drewN | apply below_drew1) | exact HB.out))) : w.heap.size ≤ gb221)); have n3_ := Aside0.mk ((by rw [hg]; exact (below_size (by repeat (first | (with_reducible first | exact HB.out | apply below_alloc | apply pw_below_drewN | apply below_drew1) | exact HB.out))) : w.heap.size ≤ gb221)); clear HB; have HB := n0_; have BK221 := n1_; have GW221 := n2_; have GE221 := n3_; clear n0_ n1_ n2_ n3_; clear hb hbox hg) | ((with_reducible refine gate_callee (f := 43) rfl ?_); refine goesL_ (some 15) rfl rfl Try.func43 (by kernel_rfl) rfl #[.string a0] rfl (by (try simp only [List.map_toArray, List.map_cons, List.map_nil]); first | done | rfl | (simp only [List.length_drop, List.length_take]; rfl)) ?_; (with_reducible refine (oam_Open.calls k a0 t222 t223 t224 t225 t226 t227 t228 _ A3.out).mono ?_); rintro e w6 ⟨rfl, hb⟩; refine ⟨_, rfl, ?_⟩; have n0_ := Aside0.mk (blk_below (g := gb221) (o := .cells #[.int .u8 0, .bool false, .bool false, .bool false, .int .u64 0] 26 (0, 0)) (by (with_reducible repeat (first | refine blk_drewN ?_ _ | refine blk_drew ?_ | refine blk_alloc ?_ _)); exact BK221.out) hb); have n1_ := Aside0.mk (below_step (by repeat (first | (with_reducible first | exact HB.out | apply below_alloc | apply pw_below_drewN | apply below_drew1 | refine below_set ?_ GE221.out) | exact HB.out)) hb); clear BK221; clear HB; have BK221 := n0_; have HB := n1_; clear n0_ n1_; (try clear hb); (try clear hb2); (try clear hk); (try clear hi)) | ((with_reducible refine gate_dst (N := 6) rfl ?_); refine box_event ?hg (N := 6) ?hd (cs := #[.int .u8 0, .int .u8 0, .int .u8 0, .int .u8 0, .int .u8 0]) (t := 82) ?hr ?_; (case hd => rfl); (case hg => rfl); (case hr => first | (go_simp; done) | (go_simp; rfl)); intro gb229 hg w7 hbox hb; have n0_ := Aside0.mk (blk_below (g := gb221) (o := .cells #[.int .u8 0, .bool false, .bool false, .bool false, .int .u64 0] 26 (0, 0)) (by (with_reducible repeat (first | refine blk_drewN ?_ _ | refine blk_drew ?_ | refine blk_alloc ?_ _)); exact BK221.out) hb); have n1_ := Aside0.mk (below_step (by repeat (first | (with_reducible first | exact HB.out | apply below_alloc | apply pw_below_drewN | apply below_drew1 | refine below_set ?_ GE221.out) | exact HB.out)) hb); have n2_ := Aside0.mk (hbox); have n3_ := Aside0.mk ((by rw [hg]; exact (below_size (by repeat (first | (with_reducible first | exact HB.out | apply below_alloc | apply pw_below_drewN | apply below_drew1 | refine below_set ?_ GE221.out) | exact HB.out))) : w.heap.size ≤ gb229)); have n4_ := Aside0.mk ((by rw [hg]; exact (below_size (by repeat (first | (with_reducible first | exact HB.out | apply below_alloc | apply pw_below_drewN | apply below_drew1 | refine below_set ?_ GE221.out) | exact HB.out))) : w.heap.size ≤ gb229)); have n5_ := Aside0.mk ((by rw [hg]; exact Nat.ne_of_lt (blk_lt (g := gb221) (o := .cells #[.int .u8 0, .bool false, .bool false, .bool false, .int .u64 0] 26 (0, 0)) (by (with_reducible repeat (first | refine blk_drewN ?_ _ | refine blk_drew ?_ | refine blk_alloc ?_ _)); exact BK221.out)) : gb221 ≠ gb229)); have n6_ := Aside0.mk ((by rw [hg]; exact Nat.ne_of_gt (blk_lt (g := gb221) (o := .cells #[.int .u8 0, .bool false, .bool false, .bool false, .int .u64 0] 26 (0, 0)) (by (with_reducible repeat (first | refine blk_drewN ?_ _ | refine blk_drew ?_ | refine blk_alloc ?_ _)); exact BK221.out)) : gb229 ≠ gb221)); clear BK221; clear HB; have BK221 := n0_; have HB := n1_; have BK229 := n2_; have GW229 := n3_; have GE229 := n4_; have NB221_229 := n5_; have NB229_221 := n6_; clear n0_ n1_ n2_ n3_ n4_ n5_ n6_; clear hb hbox hg; have hnb8 := NB229_221.out; have hnc8 := NB221_229.out; have hcz9_0 : w7.cell? ⟨gb229, 0, none⟩ = some (.int .u8 0) := (blk_cell BK229.out 0).trans rfl; have hcz9_1 : w7.cell? ⟨gb229, 1, none⟩ = some (.int .u8 0) := (blk_cell BK229.out 1).trans rfl; have hcz9_2 : w7.cell? ⟨gb229, 2, none⟩ = some (.int .u8 0) := (blk_cell BK229.out 2).trans rfl; have hcz9_3 : w7.cell? ⟨gb229, 3, none⟩ = some (.int .u8 0) := (blk_cell BK229.out 3).trans rfl; have hcz9_4 : w7.cell? ⟨gb229, 4, none⟩ = some (.int .u8 0) := (blk_cell BK229.out 4).trans rfl; have hfz9_0 := blk_frozen BK229.out 0; have hfz9_1 := blk_frozen BK229.out 1; have hfz9_2 := blk_frozen BK229.out 2; have hfz9_3 := blk_frozen BK229.out 3; have hfz9_4 := blk_frozen BK229.out 4))
  (try simp only [Act.put, List.setIfInBounds_toArray, List.set_cons_zero, List.set_cons_succ])
  go_cut [8] (fun v8 wc => ∃ (kq : Nat) (x8_3 : Int), v8 = .int .i64 x8_3 ∧ Aside0 (raps_Open.j0 kq t227 x8_3 t222 t223 t224 t225 t226 = some (r1, r2, r3, r4, r5, r6)) ∧ Aside0 (kq ≤ k) ∧ Aside0 (wc.heap[gb221]? = some (.cells #[.int .u8 0, .bool false, .bool false, .bool false, .int .u64 0] 26 (0, 0))) ∧ Aside0 (wc.heap[gb229]? = some (.cells #[.int .u8 t222, .int .u8 t223, .int .u8 t224, .int .u8 t225, .int .u8 t226] 82 (0, 0))) ∧ Aside0 (Below w.heap.size w wc))
  case first =>
    have H := HC4.out
    clear HC4
    by_cases c10 : t228 = 0
    · rw [if_pos c10] at H
      have c10b0 : (t228 == 0) = true := beq_iff_eq.mpr c10
      have c10b1 : (t228 != 0) = false := bne_eq_false_iff_eq.mpr c10
      clear c10
      (first | rw [c10b0] | (simp only [i64_w, i32_w]; rw [c10b0]) | skip)
      replace H := Option.bind_eq_some_iff.mp H
      obtain ⟨t230, A110, H⟩ := H
      replace H : (raps_Open.j0 k t227 t230 t222 t223 t224 t225 t226) = some (r1, r2, r3, r4, r5, r6) := H
      have A11 := Aside0.mk A110
      clear A110
      have H' := Aside0.mk H
      clear H
      have hnb12 := NB229_221.out
      have hnc12 := NB221_229.out
      have hcz13_0 : w7.cell? ⟨gb229, 0, none⟩ = some (.int .u8 0) := (blk_cell BK229.out 0).trans rfl
      have hcz13_1 : w7.cell? ⟨gb229, 1, none⟩ = some (.int .u8 0) := (blk_cell BK229.out 1).trans rfl
      have hcz13_2 : w7.cell? ⟨gb229, 2, none⟩ = some (.int .u8 0) := (blk_cell BK229.out 2).trans rfl
      have hcz13_3 : w7.cell? ⟨gb229, 3, none⟩ = some (.int .u8 0) := (blk_cell BK229.out 3).trans rfl
      have hcz13_4 : w7.cell? ⟨gb229, 4, none⟩ = some (.int .u8 0) := (blk_cell BK229.out 4).trans rfl
      have hfz13_0 := blk_frozen BK229.out 0
      have hfz13_1 := blk_frozen BK229.out 1
      have hfz13_2 := blk_frozen BK229.out 2
      have hfz13_3 := blk_frozen BK229.out 3
      have hfz13_4 := blk_frozen BK229.out 4
      go_wp2_with (first | ((with_reducible refine gate_callee (f := 44) rfl ?_); refine goesL_ (some 23) rfl rfl Try.func44 (by kernel_rfl) rfl #[.agg #[.int .u8 t222, .int .u8 t223, .int .u8 t224, .int .u8 t225, .int .u8 t226], .int .u8 a1, .int .u8 1, .int .u8 40, .int .u8 32] rfl (by (try simp only [List.map_toArray, List.map_cons, List.map_nil]); first | done | rfl | (simp only [List.length_drop, List.length_take]; rfl)) ?_; (with_reducible refine (oam_Head_Is.calls k t222 t223 t224 t225 t226 a1 1 40 32 t230 _ A11.out).mono ?_); rintro e w14 ⟨rfl, hb⟩; refine ⟨_, rfl, ?_⟩; have n0_ := Aside0.mk (blk_below (g := gb221) (o := .cells #[.int .u8 0, .bool false, .bool false, .bool false, .int .u64 0] 26 (0, 0)) (by (with_reducible repeat (first | refine blk_drewN ?_ _ | refine blk_drew ?_ | refine blk_alloc ?_ _)); refine blk_far ?_ NB221_229.out _; (with_reducible repeat (first | refine blk_drewN ?_ _ | refine blk_drew ?_ | refine blk_alloc ?_ _)); refine blk_far ?_ NB221_229.out _; (with_reducible repeat (first | refine blk_drewN ?_ _ | refine blk_drew ?_ | refine blk_alloc ?_ _)); refine blk_far ?_ NB221_229.out _; (with_reducible repeat (first | refine blk_drewN ?_ _ | refine blk_drew ?_ | refine blk_alloc ?_ _)); refine blk_far ?_ NB221_229.out _; (with_reducible repeat (first | refine blk_drewN ?_ _ | refine blk_drew ?_ | refine blk_alloc ?_ _)); refine blk_far ?_ NB221_229.out _; (with_reducible repeat (first | refine blk_drewN ?_ _ | refine blk_drew ?_ | refine blk_alloc ?_ _)); exact BK221.out) hb); have n1_ := Aside0.mk (blk_below (g := gb229) (o := .cells #[.int .u8 t222, .int .u8 t223, .int .u8 t224, .int .u8 t225, .int .u8 t226] 82 (0, 0)) (by (with_reducible repeat (first | refine blk_drewN ?_ _ | refine blk_drew ?_ | refine blk_alloc ?_ _)); refine blk_put (cs := #[.int .u8 t222, .int .u8 t223, .int .u8 t224, .int .u8 t225, .int .u8 0]) ?_ 4 _ rfl; (with_reducible repeat (first | refine blk_drewN ?_ _ | refine blk_drew ?_ | refine blk_alloc ?_ _)); refine blk_put (cs := #[.int .u8 t222, .int .u8 t223, .int .u8 t224, .int .u8 0, .int .u8 0]) ?_ 3 _ rfl; (with_reducible repeat (first | refine blk_drewN ?_ _ | refine blk_drew ?_ | refine blk_alloc ?_ _)); refine blk_put (cs := #[.int .u8 t222, .int .u8 t223, .int .u8 0, .int .u8 0, .int .u8 0]) ?_ 2 _ rfl; (with_reducible repeat (first | refine blk_drewN ?_ _ | refine blk_drew ?_ | refine blk_alloc ?_ _)); refine blk_put (cs := #[.int .u8 t222, .int .u8 0, .int .u8 0, .int .u8 0, .int .u8 0]) ?_ 1 _ rfl; (with_reducible repeat (first | refine blk_drewN ?_ _ | refine blk_drew ?_ | refine blk_alloc ?_ _)); refine blk_put (cs := #[.int .u8 0, .int .u8 0, .int .u8 0, .int .u8 0, .int .u8 0]) ?_ 0 _ rfl; (with_reducible repeat (first | refine blk_drewN ?_ _ | refine blk_drew ?_ | refine blk_alloc ?_ _)); exact BK229.out) hb); have n2_ := Aside0.mk (below_step (by repeat (first | (with_reducible first | exact HB.out | apply below_alloc | apply pw_below_drewN | apply below_drew1 | refine below_set ?_ GE221.out | refine below_set ?_ GE229.out) | exact HB.out)) hb); clear BK221; clear BK229; clear HB; have BK221 := n0_; have BK229 := n1_; have HB := n2_; clear n0_ n1_ n2_; (try clear hb); (try clear hb2); (try clear hk); (try clear hi)))
      go_meet
      case rel => exact ⟨_, (t230), (by first | rfl | (simp; done) | (simp [*]; done)), H', ⟨by first | omega | exact Nat.le_refl _⟩, ⟨by (with_reducible repeat (first | refine blk_drewN ?_ _ | refine blk_drew ?_ | refine blk_alloc ?_ _)); exact BK221.out⟩, ⟨by (with_reducible repeat (first | refine blk_drewN ?_ _ | refine blk_drew ?_ | refine blk_alloc ?_ _)); exact BK229.out⟩, ⟨by repeat (first | (with_reducible first | exact HB.out | apply below_alloc | apply pw_below_drewN | apply below_drew1 | refine below_set ?_ GE221.out | refine below_set ?_ GE229.out) | exact HB.out)⟩⟩
    · rw [if_neg c10] at H
      have c10b0 : (t228 == 0) = false := beq_eq_false_iff_ne.mpr c10
      have c10b1 : (t228 != 0) = true := bne_iff_ne.mpr c10
      (first | rw [c10b0] | (simp only [i64_w, i32_w]; rw [c10b0]) | skip)
      have H' := Aside0.mk H
      clear H
      go_wp2
      go_meet
      case rel => exact ⟨_, (t228), (by first | rfl | (simp; done) | (simp [*]; done)), H', ⟨by first | omega | exact Nat.le_refl _⟩, ⟨by (with_reducible repeat (first | refine blk_drewN ?_ _ | refine blk_drew ?_ | refine blk_alloc ?_ _)); refine blk_far ?_ NB221_229.out _; (with_reducible repeat (first | refine blk_drewN ?_ _ | refine blk_drew ?_ | refine blk_alloc ?_ _)); refine blk_far ?_ NB221_229.out _; (with_reducible repeat (first | refine blk_drewN ?_ _ | refine blk_drew ?_ | refine blk_alloc ?_ _)); refine blk_far ?_ NB221_229.out _; (with_reducible repeat (first | refine blk_drewN ?_ _ | refine blk_drew ?_ | refine blk_alloc ?_ _)); refine blk_far ?_ NB221_229.out _; (with_reducible repeat (first | refine blk_drewN ?_ _ | refine blk_drew ?_ | refine blk_alloc ?_ _)); refine blk_far ?_ NB221_229.out _; (with_reducible repeat (first | refine blk_drewN ?_ _ | refine blk_drew ?_ | refine blk_alloc ?_ _)); exact BK221.out⟩, ⟨by (with_reducible repeat (first | refine blk_drewN ?_ _ | refine blk_drew ?_ | refine blk_alloc ?_ _)); refine blk_put (cs := #[.int .u8 t222, .int .u8 t223, .int .u8 t224, .int .u8 t225, .int .u8 0]) ?_ 4 _ rfl; (with_reducible repeat (first | refine blk_drewN ?_ _ | refine blk_drew ?_ | refine blk_alloc ?_ _)); refine blk_put (cs := #[.int .u8 t222, .int .u8 t223, .int .u8 t224, .int .u8 0, .int .u8 0]) ?_ 3 _ rfl; (with_reducible repeat (first | refine blk_drewN ?_ _ | refine blk_drew ?_ | refine blk_alloc ?_ _)); refine blk_put (cs := #[.int .u8 t222, .int .u8 t223, .int .u8 0, .int .u8 0, .int .u8 0]) ?_ 2 _ rfl; (with_reducible repeat (first | refine blk_drewN ?_ _ | refine blk_drew ?_ | refine blk_alloc ?_ _)); refine blk_put (cs := #[.int .u8 t222, .int .u8 0, .int .u8 0, .int .u8 0, .int .u8 0]) ?_ 1 _ rfl; (with_reducible repeat (first | refine blk_drewN ?_ _ | refine blk_drew ?_ | refine blk_alloc ?_ _)); refine blk_put (cs := #[.int .u8 0, .int .u8 0, .int .u8 0, .int .u8 0, .int .u8 0]) ?_ 0 _ rfl; (with_reducible repeat (first | refine blk_drewN ?_ _ | refine blk_drew ?_ | refine blk_alloc ?_ _)); exact BK229.out⟩, ⟨by repeat (first | (with_reducible first | exact HB.out | apply below_alloc | apply pw_below_drewN | apply below_drew1 | refine below_set ?_ GE221.out | refine below_set ?_ GE229.out) | exact HB.out)⟩⟩
  case rest =>
    clear HC4
    try clear c1
    try clear c2
    try clear p2
    try clear c4
    try clear c8
    try clear c10
    try clear c10b0
    try clear c10b1
    try clear c12
    try clear hcz13_0
    try clear hcz13_1
    try clear hcz13_2
    try clear hcz13_3
    try clear hcz13_4
    try clear hcz9_0
    try clear hcz9_1
    try clear hcz9_2
    try clear hcz9_3
    try clear hcz9_4
    try clear hfz13_0
    try clear hfz13_1
    try clear hfz13_2
    try clear hfz13_3
    try clear hfz13_4
    try clear hfz9_0
    try clear hfz9_1
    try clear hfz9_2
    try clear hfz9_3
    try clear hfz9_4
    obtain ⟨kq, x8_3, rfl, HA, HJ3, BK221, BK229, HB⟩ := hcut
    cases kq with
    | zero => exact absurd HA.out (by simp [raps_Open.j0])
    | succ kj3 =>
      have H := HA.out
      clear HA
      simp only [raps_Open.j0] at H
      by_cases c15 : x8_3 = 0
      · rw [if_pos c15] at H
        have c15b0 : (x8_3 == 0) = true := beq_iff_eq.mpr c15
        have c15b1 : (x8_3 != 0) = false := bne_eq_false_iff_eq.mpr c15
        clear c15
        obtain ⟨y231, hy231⟩ : ∃ y_ : List Int, y_ = (([4, 4, 1, 1, 1, 5, 48] : List Int)) := ⟨_, rfl⟩
        replace H : ((field_Split.f kj3 t227 y231).bind fun bt234 => (if bt234.2.2 = 0 then (if t225 = 0 then (if 1 < (bt234.1.length : Int) then (if (rd bt234.1 1) = 0 then (if 5 < (bt234.1.length : Int) then (if (rd bt234.1 5) = 0 then ((field_Noughts.f kj3 bt234.2.1).bind fun t241 => (raps_Open.j1 kj3 bt234.1 (!t241))) else (raps_Open.j1 kj3 bt234.1 true)) else (none)) else (raps_Open.j1 kj3 bt234.1 true)) else (none)) else (raps_Open.j1 kj3 bt234.1 true)) else (some (0, false, false, false, 0, bt234.2.2)))) = some (r1, r2, r3, r4, r5, r6) := by first | (rw [hy231]; with_reducible exact H) | (have H2_ := (Option.bind_some _ _).symm.trans H; rw [hy231]; with_reducible exact H2_) | (have H2_ := (Option.bind_some _ _).symm.trans H; with_reducible exact H2_) | with_reducible exact H | (rw [hy231]; exact H) | exact H
        have Ny231 := Aside0.mk hy231
        clear hy231
        replace H := Option.bind_eq_some_iff.mp H
        obtain ⟨⟨t234, t235, t236⟩, A160, H⟩ := H
        replace H : (if t236 = 0 then (if t225 = 0 then (if 1 < (t234.length : Int) then (if (rd t234 1) = 0 then (if 5 < (t234.length : Int) then (if (rd t234 5) = 0 then ((field_Noughts.f kj3 t235).bind fun t241 => (raps_Open.j1 kj3 t234 (!t241))) else (raps_Open.j1 kj3 t234 true)) else (none)) else (raps_Open.j1 kj3 t234 true)) else (none)) else (raps_Open.j1 kj3 t234 true)) else (some (0, false, false, false, 0, t236))) = some (r1, r2, r3, r4, r5, r6) := H
        have A16 := Aside0.mk A160
        clear A160
        by_cases c17 : t236 = 0
        · rw [if_pos c17] at H
          have c17b0 : (t236 == 0) = true := beq_iff_eq.mpr c17
          have c17b1 : (t236 != 0) = false := bne_eq_false_iff_eq.mpr c17
          clear c17
          have HC18 := Aside0.mk H
          clear H
          go_upto_region 9 with (first | ((with_reducible refine gate_dst (N := 30) rfl ?_); refine Kd.R_lit (Kd.int .i64) _ 3 ?hg (N := 30) ?hd (xs := ([4, 4, 1, 1, 1, 5, 48] : List Int)) (inner := [.int .i64 4, .int .i64 4, .int .i64 1, .int .i64 1, .int .i64 1, .int .i64 5, .int .i64 48]) (ok := fun _ => True) (okp := fun _ => True) ?hr ?hp (fun _ hk => hk) trivial (Below.refl _ _) (Nat.le_refl _) (by simp) ?_; (case hd => rfl); (case hg => rfl); (case hr => first | (go_simp; done) | (go_simp; rfl)); (case hp => exact (Reps.one (show Kd.M (Kd.int .i64) _ _ _ 4 [.int .i64 4] from rfl) (Reps.one (show Kd.M (Kd.int .i64) _ _ _ 4 [.int .i64 4] from rfl) (Reps.one (show Kd.M (Kd.int .i64) _ _ _ 1 [.int .i64 1] from rfl) (Reps.one (show Kd.M (Kd.int .i64) _ _ _ 1 [.int .i64 1] from rfl) (Reps.one (show Kd.M (Kd.int .i64) _ _ _ 1 [.int .i64 1] from rfl) (Reps.one (show Kd.M (Kd.int .i64) _ _ _ 5 [.int .i64 5] from rfl) (Reps.one (show Kd.M (Kd.int .i64) _ _ _ 48 [.int .i64 48] from rfl) (Reps.none _ _))))))))); intro v232 w19 ho20 hb hg_ hnew_; clear hg_ hnew_; (first | rw [← Ny231.out] at ho20 | (simp only [Int.reduceToNat] at ho20; rw [← Ny231.out] at ho20)); have n0_ := Aside0.mk (Kd.R_lower ho20 (below_size (by repeat (first | (with_reducible first | exact HB.out | apply below_alloc | apply pw_below_drewN | apply below_drew1 | refine below_set ?_ GE221.out | refine below_set ?_ GE229.out) | exact HB.out)))); have n1_ := Aside0.mk (blk_below (g := gb221) (o := .cells #[.int .u8 0, .bool false, .bool false, .bool false, .int .u64 0] 26 (0, 0)) (by (with_reducible repeat (first | refine blk_drewN ?_ _ | refine blk_drew ?_ | refine blk_alloc ?_ _)); exact BK221.out) hb); have n2_ := Aside0.mk (blk_below (g := gb229) (o := .cells #[.int .u8 t222, .int .u8 t223, .int .u8 t224, .int .u8 t225, .int .u8 t226] 82 (0, 0)) (by (with_reducible repeat (first | refine blk_drewN ?_ _ | refine blk_drew ?_ | refine blk_alloc ?_ _)); exact BK229.out) hb); have n3_ := Aside0.mk (below_step (by repeat (first | (with_reducible first | exact HB.out | apply below_alloc | apply pw_below_drewN | apply below_drew1 | refine below_set ?_ GE221.out | refine below_set ?_ GE229.out) | exact HB.out)) hb); clear BK221; clear BK229; clear HB; have HO233 := n0_; have BK221 := n1_; have BK229 := n2_; have HB := n3_; clear n0_ n1_ n2_ n3_; clear hb ho20; obtain ⟨Ao21, co21, eo21⟩ := Kd.R_slice HO233.out; subst eo21) | ((with_reducible refine gate_callee (f := 38) rfl ?_); refine goesL_ (some 31) rfl rfl Try.func38 (by kernel_rfl) rfl #[.string t227, .slice Ao21 y231.length co21] rfl (by (try simp only [List.map_toArray, List.map_cons, List.map_nil]); first | done | rfl | (simp only [List.length_drop, List.length_take]; rfl)) ?_; (with_reducible refine (field_Split.calls kj3 t227 _ _ y231 t234 t235 t236 _ ?side1 ?side2 A16.out).mono ?_); (case side1 => repeat (first | exact (Kd.R_reads' HO233.out).2.2 | (with_reducible refine Kd.C_alloc ?_ _) | (with_reducible refine Kd.C_drewN ?_ _) | (with_reducible refine Kd.C_drew ?_))); (case side2 => exact (Kd.R_reads' HO233.out).2.1); rintro e w22 ⟨v237, rfl, ho0, hb⟩; refine ⟨_, rfl, ?_⟩; have n0_ := Aside0.mk (Kd.R_below (by (with_reducible repeat (first | apply Kd.R_alloc | apply Kd.R_drewN | apply Kd.R_drew)); exact HO233.out) hb); have n1_ := Aside0.mk (Kd.R_lower ho0 (below_size (by repeat (first | (with_reducible first | exact HB.out | apply below_alloc | apply pw_below_drewN | apply below_drew1 | refine below_set ?_ GE221.out | refine below_set ?_ GE229.out) | exact HB.out)))); have n2_ := Aside0.mk (blk_below (g := gb221) (o := .cells #[.int .u8 0, .bool false, .bool false, .bool false, .int .u64 0] 26 (0, 0)) (by (with_reducible repeat (first | refine blk_drewN ?_ _ | refine blk_drew ?_ | refine blk_alloc ?_ _)); exact BK221.out) hb); have n3_ := Aside0.mk (blk_below (g := gb229) (o := .cells #[.int .u8 t222, .int .u8 t223, .int .u8 t224, .int .u8 t225, .int .u8 t226] 82 (0, 0)) (by (with_reducible repeat (first | refine blk_drewN ?_ _ | refine blk_drew ?_ | refine blk_alloc ?_ _)); exact BK229.out) hb); have n4_ := Aside0.mk (below_step (by repeat (first | (with_reducible first | exact HB.out | apply below_alloc | apply pw_below_drewN | apply below_drew1 | refine below_set ?_ GE221.out | refine below_set ?_ GE229.out) | exact HB.out)) hb); clear HO233; clear BK221; clear BK229; clear HB; have HO233 := n0_; have HO238 := n1_; have BK221 := n2_; have BK229 := n3_; have HB := n4_; clear n0_ n1_ n2_ n3_ n4_; (try clear hb); (try clear hb2); (try clear hk); (try clear hi); (try clear ho0)))
          (try simp only [Act.put, List.setIfInBounds_toArray, List.set_cons_zero, List.set_cons_succ])
          go_cut [58] (fun v58 wc => ∃ (kq : Nat) (x58_17 : Bool), v58 = .bool x58_17 ∧ Aside0 (raps_Open.j1 kq t234 x58_17 = some (r1, r2, r3, r4, r5, r6)) ∧ Aside0 (kq ≤ kj3) ∧ Aside0 (Kd.R (Kd.int .u64) 23 wc w.heap.size (fun _ => True) v237 t234) ∧ Aside0 (wc.heap[gb221]? = some (.cells #[.int .u8 0, .bool false, .bool false, .bool false, .int .u64 0] 26 (0, 0))) ∧ Aside0 (wc.heap[gb229]? = some (.cells #[.int .u8 t222, .int .u8 t223, .int .u8 t224, .int .u8 t225, .int .u8 t226] 82 (0, 0))) ∧ Aside0 (Below w.heap.size w wc))
          case first =>
            have H := HC18.out
            clear HC18
            by_cases c23 : t225 = 0
            · rw [if_pos c23] at H
              have c23b0 : (t225 == 0) = true := beq_iff_eq.mpr c23
              have c23b1 : (t225 != 0) = false := bne_eq_false_iff_eq.mpr c23
              clear c23
              (first | rw [c23b0] | (simp only [i64_w, i32_w]; rw [c23b0]) | skip)
              by_cases c24 : 1 < (t234.length : Int)
              · rw [if_pos c24] at H
                have c24b0 : decide (1 < (t234.length : Int)) = true := decide_eq_true c24
                have c24b1 : decide (1 < t234.length) = true := decide_eq_true (by omega)
                clear c24
                by_cases c25 : (rd t234 1) = 0
                · rw [if_pos c25] at H
                  have c25b0 : ((rd t234 1) == 0) = true := beq_iff_eq.mpr c25
                  have c25b1 : ((rd t234 1) != 0) = false := bne_eq_false_iff_eq.mpr c25
                  clear c25
                  by_cases c26 : 5 < (t234.length : Int)
                  · rw [if_pos c26] at H
                    have c26b0 : decide (5 < (t234.length : Int)) = true := decide_eq_true c26
                    have c26b1 : decide (5 < t234.length) = true := decide_eq_true (by omega)
                    clear c26
                    by_cases c27 : (rd t234 5) = 0
                    · rw [if_pos c27] at H
                      have c27b0 : ((rd t234 5) == 0) = true := beq_iff_eq.mpr c27
                      have c27b1 : ((rd t234 5) != 0) = false := bne_eq_false_iff_eq.mpr c27
                      clear c27
                      replace H := Option.bind_eq_some_iff.mp H
                      obtain ⟨t241, A280, H⟩ := H
                      replace H : (raps_Open.j1 kj3 t234 (!t241)) = some (r1, r2, r3, r4, r5, r6) := H
                      have A28 := Aside0.mk A280
                      clear A280
                      have H' := Aside0.mk H
                      clear H
                      have hnb29 := NB229_221.out
                      have hnc29 := NB221_229.out
                      have hcz30_0 : w22.cell? ⟨gb229, 0, none⟩ = some (.int .u8 t222) := (blk_cell BK229.out 0).trans rfl
                      have hcz30_1 : w22.cell? ⟨gb229, 1, none⟩ = some (.int .u8 t223) := (blk_cell BK229.out 1).trans rfl
                      have hcz30_2 : w22.cell? ⟨gb229, 2, none⟩ = some (.int .u8 t224) := (blk_cell BK229.out 2).trans rfl
                      have hcz30_3 : w22.cell? ⟨gb229, 3, none⟩ = some (.int .u8 t225) := (blk_cell BK229.out 3).trans rfl
                      have hcz30_4 : w22.cell? ⟨gb229, 4, none⟩ = some (.int .u8 t226) := (blk_cell BK229.out 4).trans rfl
                      have hfz30_0 := blk_frozen BK229.out 0
                      have hfz30_1 := blk_frozen BK229.out 1
                      have hfz30_2 := blk_frozen BK229.out 2
                      have hfz30_3 := blk_frozen BK229.out 3
                      have hfz30_4 := blk_frozen BK229.out 4
                      obtain ⟨Ao31, co31, eo31⟩ := Kd.R_slice HO238.out
                      subst eo31
                      have p239 : 0 ≤ (1 : Int) := (by omega)
                      have q239 : 1 < (t234.length : Int) := of_decide_eq_true (by first | (with_reducible assumption) | assumption)
                      obtain ⟨ad239, e239, hx239_0⟩ := Kd.at_int (Kd.R_reads' HO238.out).2.2 1 p239 q239
                      cases e239
                      (try simp only [show (1 : Int).toNat = 1 from rfl, Nat.reduceMul, Nat.reduceEqDiff, Go.Addr.add, ↓reduceIte] at hx239_0)
                      have qi239 : (1 < t234.length) = True := eq_true (by omega)
                      (try rw [show ((1 : Int)).toNat = 1 from rfl] at hx239_0)
                      replace p239 := eq_true p239
                      replace q239 := eq_true q239
                      have p240 : 0 ≤ (5 : Int) := (by omega)
                      have q240 : 5 < (t234.length : Int) := of_decide_eq_true (by first | (with_reducible assumption) | assumption)
                      obtain ⟨ad240, e240, hx240_0⟩ := Kd.at_int (Kd.R_reads' HO238.out).2.2 5 p240 q240
                      obtain rfl : ad239 = ad240 := (by injection e240)
                      (try simp only [show (5 : Int).toNat = 5 from rfl, Nat.reduceMul, Nat.reduceEqDiff, Go.Addr.add, ↓reduceIte] at hx240_0)
                      have qi240 : (5 < t234.length) = True := eq_true (by omega)
                      (try rw [show ((5 : Int)).toNat = 5 from rfl] at hx240_0)
                      replace p240 := eq_true p240
                      replace q240 := eq_true q240
                      go_wp2_with (first | (go_at_call 45; (with_reducible refine (field_Noughts.calls kj3 t235 t241 _ A28.out).mono ?_); rintro e w' ⟨rfl, ⟨nd, rfl⟩⟩))
                      go_meet
                      case rel => exact ⟨_, (!t241), (by first | rfl | (simp; done) | (simp [*]; done)), H', ⟨by have := HJ3.out; first | omega | exact Nat.le_refl _⟩, ⟨by (with_reducible repeat (first | apply Kd.R_alloc | apply Kd.R_drewN | apply Kd.R_drew)); exact HO238.out⟩, ⟨by (with_reducible repeat (first | refine blk_drewN ?_ _ | refine blk_drew ?_ | refine blk_alloc ?_ _)); exact BK221.out⟩, ⟨by (with_reducible repeat (first | refine blk_drewN ?_ _ | refine blk_drew ?_ | refine blk_alloc ?_ _)); exact BK229.out⟩, ⟨by repeat (first | (with_reducible first | exact HB.out | apply below_alloc | apply pw_below_drewN | apply below_drew1 | refine below_set ?_ GE221.out | refine below_set ?_ GE229.out) | exact HB.out)⟩⟩
                    · rw [if_neg c27] at H
                      have c27b0 : ((rd t234 5) == 0) = false := beq_eq_false_iff_ne.mpr c27
                      have c27b1 : ((rd t234 5) != 0) = true := bne_iff_ne.mpr c27
                      have H' := Aside0.mk H
                      clear H
                      have hnb32 := NB229_221.out
                      have hnc32 := NB221_229.out
                      have hcz33_0 : w22.cell? ⟨gb229, 0, none⟩ = some (.int .u8 t222) := (blk_cell BK229.out 0).trans rfl
                      have hcz33_1 : w22.cell? ⟨gb229, 1, none⟩ = some (.int .u8 t223) := (blk_cell BK229.out 1).trans rfl
                      have hcz33_2 : w22.cell? ⟨gb229, 2, none⟩ = some (.int .u8 t224) := (blk_cell BK229.out 2).trans rfl
                      have hcz33_3 : w22.cell? ⟨gb229, 3, none⟩ = some (.int .u8 t225) := (blk_cell BK229.out 3).trans rfl
                      have hcz33_4 : w22.cell? ⟨gb229, 4, none⟩ = some (.int .u8 t226) := (blk_cell BK229.out 4).trans rfl
                      have hfz33_0 := blk_frozen BK229.out 0
                      have hfz33_1 := blk_frozen BK229.out 1
                      have hfz33_2 := blk_frozen BK229.out 2
                      have hfz33_3 := blk_frozen BK229.out 3
                      have hfz33_4 := blk_frozen BK229.out 4
                      obtain ⟨Ao34, co34, eo34⟩ := Kd.R_slice HO238.out
                      subst eo34
                      have p239 : 0 ≤ (1 : Int) := (by omega)
                      have q239 : 1 < (t234.length : Int) := of_decide_eq_true (by first | (with_reducible assumption) | assumption)
                      obtain ⟨ad239, e239, hx239_0⟩ := Kd.at_int (Kd.R_reads' HO238.out).2.2 1 p239 q239
                      cases e239
                      (try simp only [show (1 : Int).toNat = 1 from rfl, Nat.reduceMul, Nat.reduceEqDiff, Go.Addr.add, ↓reduceIte] at hx239_0)
                      have qi239 : (1 < t234.length) = True := eq_true (by omega)
                      (try rw [show ((1 : Int)).toNat = 1 from rfl] at hx239_0)
                      replace p239 := eq_true p239
                      replace q239 := eq_true q239
                      have p240 : 0 ≤ (5 : Int) := (by omega)
                      have q240 : 5 < (t234.length : Int) := of_decide_eq_true (by first | (with_reducible assumption) | assumption)
                      obtain ⟨ad240, e240, hx240_0⟩ := Kd.at_int (Kd.R_reads' HO238.out).2.2 5 p240 q240
                      obtain rfl : ad239 = ad240 := (by injection e240)
                      (try simp only [show (5 : Int).toNat = 5 from rfl, Nat.reduceMul, Nat.reduceEqDiff, Go.Addr.add, ↓reduceIte] at hx240_0)
                      have qi240 : (5 < t234.length) = True := eq_true (by omega)
                      (try rw [show ((5 : Int)).toNat = 5 from rfl] at hx240_0)
                      replace p240 := eq_true p240
                      replace q240 := eq_true q240
                      go_wp2
                      go_meet
                      case rel => exact ⟨_, (true), (by first | rfl | (simp; done) | (simp [*]; done)), H', ⟨by have := HJ3.out; first | omega | exact Nat.le_refl _⟩, ⟨by (with_reducible repeat (first | apply Kd.R_alloc | apply Kd.R_drewN | apply Kd.R_drew)); exact HO238.out⟩, ⟨by (with_reducible repeat (first | refine blk_drewN ?_ _ | refine blk_drew ?_ | refine blk_alloc ?_ _)); exact BK221.out⟩, ⟨by (with_reducible repeat (first | refine blk_drewN ?_ _ | refine blk_drew ?_ | refine blk_alloc ?_ _)); exact BK229.out⟩, ⟨by repeat (first | (with_reducible first | exact HB.out | apply below_alloc | apply pw_below_drewN | apply below_drew1 | refine below_set ?_ GE221.out | refine below_set ?_ GE229.out) | exact HB.out)⟩⟩
                  · rw [if_neg c26] at H
                    exact absurd H (by simp)
                · rw [if_neg c25] at H
                  have c25b0 : ((rd t234 1) == 0) = false := beq_eq_false_iff_ne.mpr c25
                  have c25b1 : ((rd t234 1) != 0) = true := bne_iff_ne.mpr c25
                  have H' := Aside0.mk H
                  clear H
                  have hnb35 := NB229_221.out
                  have hnc35 := NB221_229.out
                  have hcz36_0 : w22.cell? ⟨gb229, 0, none⟩ = some (.int .u8 t222) := (blk_cell BK229.out 0).trans rfl
                  have hcz36_1 : w22.cell? ⟨gb229, 1, none⟩ = some (.int .u8 t223) := (blk_cell BK229.out 1).trans rfl
                  have hcz36_2 : w22.cell? ⟨gb229, 2, none⟩ = some (.int .u8 t224) := (blk_cell BK229.out 2).trans rfl
                  have hcz36_3 : w22.cell? ⟨gb229, 3, none⟩ = some (.int .u8 t225) := (blk_cell BK229.out 3).trans rfl
                  have hcz36_4 : w22.cell? ⟨gb229, 4, none⟩ = some (.int .u8 t226) := (blk_cell BK229.out 4).trans rfl
                  have hfz36_0 := blk_frozen BK229.out 0
                  have hfz36_1 := blk_frozen BK229.out 1
                  have hfz36_2 := blk_frozen BK229.out 2
                  have hfz36_3 := blk_frozen BK229.out 3
                  have hfz36_4 := blk_frozen BK229.out 4
                  obtain ⟨Ao37, co37, eo37⟩ := Kd.R_slice HO238.out
                  subst eo37
                  have p239 : 0 ≤ (1 : Int) := (by omega)
                  have q239 : 1 < (t234.length : Int) := of_decide_eq_true (by first | (with_reducible assumption) | assumption)
                  obtain ⟨ad239, e239, hx239_0⟩ := Kd.at_int (Kd.R_reads' HO238.out).2.2 1 p239 q239
                  cases e239
                  (try simp only [show (1 : Int).toNat = 1 from rfl, Nat.reduceMul, Nat.reduceEqDiff, Go.Addr.add, ↓reduceIte] at hx239_0)
                  have qi239 : (1 < t234.length) = True := eq_true (by omega)
                  (try rw [show ((1 : Int)).toNat = 1 from rfl] at hx239_0)
                  replace p239 := eq_true p239
                  replace q239 := eq_true q239
                  go_wp2
                  go_meet
                  case rel => exact ⟨_, (true), (by first | rfl | (simp; done) | (simp [*]; done)), H', ⟨by have := HJ3.out; first | omega | exact Nat.le_refl _⟩, ⟨by (with_reducible repeat (first | apply Kd.R_alloc | apply Kd.R_drewN | apply Kd.R_drew)); exact HO238.out⟩, ⟨by (with_reducible repeat (first | refine blk_drewN ?_ _ | refine blk_drew ?_ | refine blk_alloc ?_ _)); exact BK221.out⟩, ⟨by (with_reducible repeat (first | refine blk_drewN ?_ _ | refine blk_drew ?_ | refine blk_alloc ?_ _)); exact BK229.out⟩, ⟨by repeat (first | (with_reducible first | exact HB.out | apply below_alloc | apply pw_below_drewN | apply below_drew1 | refine below_set ?_ GE221.out | refine below_set ?_ GE229.out) | exact HB.out)⟩⟩
              · rw [if_neg c24] at H
                exact absurd H (by simp)
            · rw [if_neg c23] at H
              have c23b0 : (t225 == 0) = false := beq_eq_false_iff_ne.mpr c23
              have c23b1 : (t225 != 0) = true := bne_iff_ne.mpr c23
              (first | rw [c23b0] | (simp only [i64_w, i32_w]; rw [c23b0]) | skip)
              have H' := Aside0.mk H
              clear H
              have hnb38 := NB229_221.out
              have hnc38 := NB221_229.out
              have hcz39_0 : w22.cell? ⟨gb229, 0, none⟩ = some (.int .u8 t222) := (blk_cell BK229.out 0).trans rfl
              have hcz39_1 : w22.cell? ⟨gb229, 1, none⟩ = some (.int .u8 t223) := (blk_cell BK229.out 1).trans rfl
              have hcz39_2 : w22.cell? ⟨gb229, 2, none⟩ = some (.int .u8 t224) := (blk_cell BK229.out 2).trans rfl
              have hcz39_3 : w22.cell? ⟨gb229, 3, none⟩ = some (.int .u8 t225) := (blk_cell BK229.out 3).trans rfl
              have hcz39_4 : w22.cell? ⟨gb229, 4, none⟩ = some (.int .u8 t226) := (blk_cell BK229.out 4).trans rfl
              have hfz39_0 := blk_frozen BK229.out 0
              have hfz39_1 := blk_frozen BK229.out 1
              have hfz39_2 := blk_frozen BK229.out 2
              have hfz39_3 := blk_frozen BK229.out 3
              have hfz39_4 := blk_frozen BK229.out 4
              go_wp2
              go_meet
              case rel => exact ⟨_, (true), (by first | rfl | (simp; done) | (simp [*]; done)), H', ⟨by have := HJ3.out; first | omega | exact Nat.le_refl _⟩, ⟨by (with_reducible repeat (first | apply Kd.R_alloc | apply Kd.R_drewN | apply Kd.R_drew)); exact HO238.out⟩, ⟨by (with_reducible repeat (first | refine blk_drewN ?_ _ | refine blk_drew ?_ | refine blk_alloc ?_ _)); exact BK221.out⟩, ⟨by (with_reducible repeat (first | refine blk_drewN ?_ _ | refine blk_drew ?_ | refine blk_alloc ?_ _)); exact BK229.out⟩, ⟨by repeat (first | (with_reducible first | exact HB.out | apply below_alloc | apply pw_below_drewN | apply below_drew1 | refine below_set ?_ GE221.out | refine below_set ?_ GE229.out) | exact HB.out)⟩⟩
          case rest =>
            clear HC18
            try clear c1
            try clear c2
            try clear p2
            try clear q2
            try clear hx2
            try clear qi2
            try clear c3
            try clear c4
            try clear c8
            try clear c10
            try clear c10b0
            try clear c10b1
            try clear c12
            try clear c15
            try clear c15b0
            try clear c15b1
            try clear c17
            try clear c17b0
            try clear c17b1
            try clear c22
            try clear c23
            try clear c23b0
            try clear c23b1
            try clear p23
            try clear q23
            try clear hx23
            try clear qi23
            try clear c24
            try clear c24b0
            try clear c24b1
            try clear p24
            try clear q24
            try clear hx24
            try clear qi24
            try clear c25
            try clear c25b0
            try clear c25b1
            try clear c26
            try clear c26b0
            try clear c26b1
            try clear c27
            try clear c27b0
            try clear c27b1
            try clear c29
            try clear c32
            try clear c35
            try clear c38
            try clear hcz13_0
            try clear hcz13_1
            try clear hcz13_2
            try clear hcz13_3
            try clear hcz13_4
            try clear hcz30_0
            try clear hcz30_1
            try clear hcz30_2
            try clear hcz30_3
            try clear hcz30_4
            try clear hcz33_0
            try clear hcz33_1
            try clear hcz33_2
            try clear hcz33_3
            try clear hcz33_4
            try clear hcz36_0
            try clear hcz36_1
            try clear hcz36_2
            try clear hcz36_3
            try clear hcz36_4
            try clear hcz39_0
            try clear hcz39_1
            try clear hcz39_2
            try clear hcz39_3
            try clear hcz39_4
            try clear hcz9_0
            try clear hcz9_1
            try clear hcz9_2
            try clear hcz9_3
            try clear hcz9_4
            try clear hfz13_0
            try clear hfz13_1
            try clear hfz13_2
            try clear hfz13_3
            try clear hfz13_4
            try clear hfz30_0
            try clear hfz30_1
            try clear hfz30_2
            try clear hfz30_3
            try clear hfz30_4
            try clear hfz33_0
            try clear hfz33_1
            try clear hfz33_2
            try clear hfz33_3
            try clear hfz33_4
            try clear hfz36_0
            try clear hfz36_1
            try clear hfz36_2
            try clear hfz36_3
            try clear hfz36_4
            try clear hfz39_0
            try clear hfz39_1
            try clear hfz39_2
            try clear hfz39_3
            try clear hfz39_4
            try clear hfz9_0
            try clear hfz9_1
            try clear hfz9_2
            try clear hfz9_3
            try clear hfz9_4
            try clear hx239_0
            try clear hx240_0
            try clear p2
            try clear p239
            try clear p240
            try clear q239
            try clear q240
            obtain ⟨kq, x58_17, rfl, HA, HJ17, HO_9, BK221, BK229, HB⟩ := hcut
            cases kq with
            | zero => exact absurd HA.out (by simp [raps_Open.j1])
            | succ kj17 =>
              have H := HA.out
              clear HA
              simp only [raps_Open.j1] at H
              by_cases c40 : x58_17 = true
              · subst c40
                have H1 : (some (0, false, false, false, 0, 3)) = some (r1, r2, r3, r4, r5, r6) := by rw [if_pos rfl] at H; exact H
                clear H
                have H := H1
                clear H1
                simp only [Option.some.injEq, Prod.mk.injEq] at H
                obtain ⟨rfl, rfl, rfl, rfl, rfl, rfl⟩ := H
                have hnb41 := NB221_229.out
                have hnc41 := NB229_221.out
                have hcz42_0 : wc.cell? ⟨gb221, 0, none⟩ = some (.int .u8 0) := (blk_cell BK221.out 0).trans rfl
                have hcz42_1 : wc.cell? ⟨gb221, 1, none⟩ = some (.bool false) := (blk_cell BK221.out 1).trans rfl
                have hcz42_2 : wc.cell? ⟨gb221, 2, none⟩ = some (.bool false) := (blk_cell BK221.out 2).trans rfl
                have hcz42_3 : wc.cell? ⟨gb221, 3, none⟩ = some (.bool false) := (blk_cell BK221.out 3).trans rfl
                have hcz42_4 : wc.cell? ⟨gb221, 4, none⟩ = some (.int .u64 0) := (blk_cell BK221.out 4).trans rfl
                have hfz42_0 := blk_frozen BK221.out 0
                have hfz42_1 := blk_frozen BK221.out 1
                have hfz42_2 := blk_frozen BK221.out 2
                have hfz42_3 := blk_frozen BK221.out 3
                have hfz42_4 := blk_frozen BK221.out 4
                go_wp2
                refine bodyPost_ret (results_ct rfl _ _ gb221 26 #[.int .u8 0, .bool false, .bool false, .bool false, .int .u64 0] (0, 0) _ rfl (by (with_reducible repeat (first | refine blk_drewN ?_ _ | refine blk_drew ?_ | refine blk_alloc ?_ _)); refine blk_put (cs := #[.int .u8 0, .bool false, .bool false, .bool false, .int .u64 0]) ?_ 4 _ rfl; (with_reducible repeat (first | refine blk_drewN ?_ _ | refine blk_drew ?_ | refine blk_alloc ?_ _)); refine blk_put (cs := #[.int .u8 0, .bool false, .bool false, .bool false, .int .u64 0]) ?_ 3 _ rfl; (with_reducible repeat (first | refine blk_drewN ?_ _ | refine blk_drew ?_ | refine blk_alloc ?_ _)); refine blk_put (cs := #[.int .u8 0, .bool false, .bool false, .bool false, .int .u64 0]) ?_ 2 _ rfl; (with_reducible repeat (first | refine blk_drewN ?_ _ | refine blk_drew ?_ | refine blk_alloc ?_ _)); refine blk_put (cs := #[.int .u8 0, .bool false, .bool false, .bool false, .int .u64 0]) ?_ 1 _ rfl; (with_reducible repeat (first | refine blk_drewN ?_ _ | refine blk_drew ?_ | refine blk_alloc ?_ _)); refine blk_put (cs := #[.int .u8 0, .bool false, .bool false, .bool false, .int .u64 0]) ?_ 0 _ rfl; (with_reducible repeat (first | refine blk_drewN ?_ _ | refine blk_drew ?_ | refine blk_alloc ?_ _)); exact BK221.out) Try.underlying26 rfl (by kernel_rfl)) rfl ?_
                exact ⟨by first | rfl | (simp [errW_none, errW_some] <;> rfl) | (simp [*, errW_none, errW_some] <;> rfl), by repeat (first | (with_reducible first | exact HB.out | apply below_alloc | apply pw_below_drewN | apply below_drew1 | refine below_set ?_ GE221.out | refine below_set ?_ GE229.out) | exact HB.out)⟩
              · replace c40 := Bool.eq_false_iff.mpr c40
                subst c40
                have H1 : (if 0 < (t234.length : Int) then (if 2 < (t234.length : Int) then (if 3 < (t234.length : Int) then (if 4 < (t234.length : Int) then (if 6 < (t234.length : Int) then ((raps_Msg_wrong.f kj17 ((rd t234 0) % 256) ((rd t234 2) == 1) ((rd t234 3) == 1) ((rd t234 4) == 1) (rd t234 6)).bind fun t248 => (if t248 = 0 then (some ((rd t234 0) % 256, ((rd t234 2) == 1), ((rd t234 3) == 1), ((rd t234 4) == 1), rd t234 6, 0)) else (some (0, false, false, false, 0, t248)))) else (none)) else (none)) else (none)) else (none)) else (none)) = some (r1, r2, r3, r4, r5, r6) := by rw [if_neg (show ¬ (false = true) by decide)] at H; exact H
                clear H
                have H := H1
                clear H1
                by_cases c43 : 0 < (t234.length : Int)
                · rw [if_pos c43] at H
                  have c43b0 : decide (0 < (t234.length : Int)) = true := decide_eq_true c43
                  have c43b1 : decide (0 < t234.length) = true := decide_eq_true (by omega)
                  clear c43
                  by_cases c44 : 2 < (t234.length : Int)
                  · rw [if_pos c44] at H
                    have c44b0 : decide (2 < (t234.length : Int)) = true := decide_eq_true c44
                    have c44b1 : decide (2 < t234.length) = true := decide_eq_true (by omega)
                    clear c44
                    by_cases c45 : 3 < (t234.length : Int)
                    · rw [if_pos c45] at H
                      have c45b0 : decide (3 < (t234.length : Int)) = true := decide_eq_true c45
                      have c45b1 : decide (3 < t234.length) = true := decide_eq_true (by omega)
                      clear c45
                      by_cases c46 : 4 < (t234.length : Int)
                      · rw [if_pos c46] at H
                        have c46b0 : decide (4 < (t234.length : Int)) = true := decide_eq_true c46
                        have c46b1 : decide (4 < t234.length) = true := decide_eq_true (by omega)
                        clear c46
                        by_cases c47 : 6 < (t234.length : Int)
                        · rw [if_pos c47] at H
                          have c47b0 : decide (6 < (t234.length : Int)) = true := decide_eq_true c47
                          have c47b1 : decide (6 < t234.length) = true := decide_eq_true (by omega)
                          clear c47
                          replace H := Option.bind_eq_some_iff.mp H
                          obtain ⟨t248, A480, H⟩ := H
                          replace H : (if t248 = 0 then (some ((rd t234 0) % 256, ((rd t234 2) == 1), ((rd t234 3) == 1), ((rd t234 4) == 1), rd t234 6, 0)) else (some (0, false, false, false, 0, t248))) = some (r1, r2, r3, r4, r5, r6) := H
                          have A48 := Aside0.mk A480
                          clear A480
                          by_cases c49 : t248 = 0
                          · rw [if_pos c49] at H
                            have c49b0 : (t248 == 0) = true := beq_iff_eq.mpr c49
                            have c49b1 : (t248 != 0) = false := bne_eq_false_iff_eq.mpr c49
                            clear c49
                            simp only [Option.some.injEq, Prod.mk.injEq] at H
                            obtain ⟨rfl, rfl, rfl, rfl, rfl, rfl⟩ := H
                            try go_wp2
                            have n0_ := Aside0.mk (Kd.R_drew HO_9.out)
                            have n1_ := Aside0.mk (blk_drew BK221.out)
                            have n2_ := Aside0.mk (blk_drew BK229.out)
                            have n3_ := Aside0.mk (below_drew1 HB.out)
                            clear HO_9
                            clear BK221
                            clear BK229
                            clear HB
                            have HO_9 := n0_
                            have BK221 := n1_
                            have BK229 := n2_
                            have HB := n3_
                            clear n0_ n1_ n2_ n3_
                            obtain ⟨Ao51, co51, eo51⟩ := Kd.R_slice HO_9.out
                            (first | subst eo51 | (injection eo51 with f1_ f2_ f3_; have f4_ := f1_.symm; have f5_ := f3_.symm; clear f1_ f2_ f3_; subst f4_; subst f5_))
                            have p242 : 0 ≤ (0 : Int) := (by omega)
                            have q242 : 0 < (t234.length : Int) := of_decide_eq_true (by first | (with_reducible assumption) | assumption)
                            obtain ⟨ad242, e242, hx242_0⟩ := Kd.at_int (Kd.R_reads' HO_9.out).2.2 0 p242 q242
                            cases e242
                            have qi242 : (0 < t234.length) = True := eq_true (by omega)
                            (try rw [show ((0 : Int)).toNat = 0 from rfl] at hx242_0)
                            (try rw [Addr.add_zero'] at hx242_0)
                            replace p242 := eq_true p242
                            replace q242 := eq_true q242
                            have p243 : 0 ≤ (2 : Int) := (by omega)
                            have q243 : 2 < (t234.length : Int) := of_decide_eq_true (by first | (with_reducible assumption) | assumption)
                            obtain ⟨ad243, e243, hx243_0⟩ := Kd.at_int (Kd.R_reads' HO_9.out).2.2 2 p243 q243
                            obtain rfl : ad242 = ad243 := (by injection e243)
                            (try simp only [show (2 : Int).toNat = 2 from rfl, Nat.reduceMul, Nat.reduceEqDiff, Go.Addr.add, ↓reduceIte] at hx243_0)
                            have qi243 : (2 < t234.length) = True := eq_true (by omega)
                            (try rw [show ((2 : Int)).toNat = 2 from rfl] at hx243_0)
                            replace p243 := eq_true p243
                            replace q243 := eq_true q243
                            have p244 : 0 ≤ (3 : Int) := (by omega)
                            have q244 : 3 < (t234.length : Int) := of_decide_eq_true (by first | (with_reducible assumption) | assumption)
                            obtain ⟨ad244, e244, hx244_0⟩ := Kd.at_int (Kd.R_reads' HO_9.out).2.2 3 p244 q244
                            obtain rfl : ad242 = ad244 := (by injection e244)
                            (try simp only [show (3 : Int).toNat = 3 from rfl, Nat.reduceMul, Nat.reduceEqDiff, Go.Addr.add, ↓reduceIte] at hx244_0)
                            have qi244 : (3 < t234.length) = True := eq_true (by omega)
                            (try rw [show ((3 : Int)).toNat = 3 from rfl] at hx244_0)
                            replace p244 := eq_true p244
                            replace q244 := eq_true q244
                            have p245 : 0 ≤ (4 : Int) := (by omega)
                            have q245 : 4 < (t234.length : Int) := of_decide_eq_true (by first | (with_reducible assumption) | assumption)
                            obtain ⟨ad245, e245, hx245_0⟩ := Kd.at_int (Kd.R_reads' HO_9.out).2.2 4 p245 q245
                            obtain rfl : ad242 = ad245 := (by injection e245)
                            (try simp only [show (4 : Int).toNat = 4 from rfl, Nat.reduceMul, Nat.reduceEqDiff, Go.Addr.add, ↓reduceIte] at hx245_0)
                            have qi245 : (4 < t234.length) = True := eq_true (by omega)
                            (try rw [show ((4 : Int)).toNat = 4 from rfl] at hx245_0)
                            replace p245 := eq_true p245
                            replace q245 := eq_true q245
                            have p246 : 0 ≤ (6 : Int) := (by omega)
                            have q246 : 6 < (t234.length : Int) := of_decide_eq_true (by first | (with_reducible assumption) | assumption)
                            obtain ⟨ad246, e246, hx246_0⟩ := Kd.at_int (Kd.R_reads' HO_9.out).2.2 6 p246 q246
                            obtain rfl : ad242 = ad246 := (by injection e246)
                            (try simp only [show (6 : Int).toNat = 6 from rfl, Nat.reduceMul, Nat.reduceEqDiff, Go.Addr.add, ↓reduceIte] at hx246_0)
                            have qi246 : (6 < t234.length) = True := eq_true (by omega)
                            (try rw [show ((6 : Int)).toNat = 6 from rfl] at hx246_0)
                            replace p246 := eq_true p246
                            replace q246 := eq_true q246
                            refine start_ (n := 22) (S := fun w' => w'.cell? ad242 = some (.int .u64 (rd t234 0)) ∧ w'.cell? ⟨ad242.block, ad242.off + 2, none⟩ = some (.int .u64 (rd t234 2)) ∧ w'.cell? ⟨ad242.block, ad242.off + 3, none⟩ = some (.int .u64 (rd t234 3)) ∧ w'.cell? ⟨ad242.block, ad242.off + 4, none⟩ = some (.int .u64 (rd t234 4)) ∧ w'.cell? ⟨ad242.block, ad242.off + 6, none⟩ = some (.int .u64 (rd t234 6))) (ds := []) #[false, false, false, false, false, false, false, false, false, false, false, false, false, false, false, false, false, false, false, false, false, false] (by kernel_rfl) rfl rfl ⟨hx242_0, hx243_0, hx244_0, hx245_0, hx246_0⟩ (fun hHeld => ?_); refine with_tabW raps_Open.tab11 raps_Open.bits11 (fun HT_ HW_ => ?_)
                            generalize wc.drew = w50 at HO_9 BK221 BK229 HB hx242_0 hx243_0 hx244_0 hx245_0 hx246_0 hHeld ⊢
                            refine pure_ (i := 0) (N := some 60) (v := ?_) (a' := ?_) #[true, false, false, false, false, false, false, false, false, false, false, false, false, false, false, false, false, false, false, false, false, false] rfl rfl (any_of HT_.out (by kernel_rfl)) (fun _ _ _ h => h) (Or.inl ⟨by rfl, ?_⟩) ?_ ?_
                            rotate_left
                            · intro w'
                              go_simp
                              with_reducible rfl
                            rotate_left
                            · simp only [Act.put, List.setIfInBounds_toArray, List.set_cons_zero, List.set_cons_succ, i64_w, i32_w]
                              rfl
                            refine pure_ (i := 1) (N := some 61) (v := ?_) (a' := ?_) #[true, true, false, false, false, false, false, false, false, false, false, false, false, false, false, false, false, false, false, false, false, false] rfl rfl (any_of HT_.out (by kernel_rfl)) (fun _ _ _ h => h) (Or.inl ⟨by rfl, ?_⟩) ?_ ?_
                            rotate_left
                            · intro w'
                              go_simp
                              with_reducible rfl
                            rotate_left
                            · simp only [Act.put, List.setIfInBounds_toArray, List.set_cons_zero, List.set_cons_succ, i64_w, i32_w]
                              rfl
                            refine pure_ (i := 4) (N := some 64) (v := ?_) (a' := ?_) #[true, true, false, false, true, false, false, false, false, false, false, false, false, false, false, false, false, false, false, false, false, false] rfl rfl (any_of HT_.out (by kernel_rfl)) (fun _ _ _ h => h) (Or.inl ⟨by rfl, ?_⟩) ?_ ?_
                            rotate_left
                            · intro w'
                              go_simp
                              with_reducible rfl
                            rotate_left
                            · simp only [Act.put, List.setIfInBounds_toArray, List.set_cons_zero, List.set_cons_succ, i64_w, i32_w]
                              rfl
                            refine pure_ (i := 5) (N := some 65) (v := ?_) (a' := ?_) #[true, true, false, false, true, true, false, false, false, false, false, false, false, false, false, false, false, false, false, false, false, false] rfl rfl (any_of HT_.out (by kernel_rfl)) (fun _ _ _ h => h) (Or.inl ⟨by rfl, ?_⟩) ?_ ?_
                            rotate_left
                            · intro w'
                              go_simp
                              with_reducible rfl
                            rotate_left
                            · simp only [Act.put, List.setIfInBounds_toArray, List.set_cons_zero, List.set_cons_succ, i64_w, i32_w]
                              rfl
                            refine pure_ (i := 8) (N := some 68) (v := ?_) (a' := ?_) #[true, true, false, false, true, true, false, false, true, false, false, false, false, false, false, false, false, false, false, false, false, false] rfl rfl (any_of HT_.out (by kernel_rfl)) (fun _ _ _ h => h) (Or.inl ⟨by rfl, ?_⟩) ?_ ?_
                            rotate_left
                            · intro w'
                              go_simp
                              with_reducible rfl
                            rotate_left
                            · simp only [Act.put, List.setIfInBounds_toArray, List.set_cons_zero, List.set_cons_succ, i64_w, i32_w]
                              rfl
                            refine pure_ (i := 9) (N := some 69) (v := ?_) (a' := ?_) #[true, true, false, false, true, true, false, false, true, true, false, false, false, false, false, false, false, false, false, false, false, false] rfl rfl (any_of HT_.out (by kernel_rfl)) (fun _ _ _ h => h) (Or.inl ⟨by rfl, ?_⟩) ?_ ?_
                            rotate_left
                            · intro w'
                              go_simp
                              with_reducible rfl
                            rotate_left
                            · simp only [Act.put, List.setIfInBounds_toArray, List.set_cons_zero, List.set_cons_succ, i64_w, i32_w]
                              rfl
                            refine pure_ (i := 12) (N := some 72) (v := ?_) (a' := ?_) #[true, true, false, false, true, true, false, false, true, true, false, false, true, false, false, false, false, false, false, false, false, false] rfl rfl (any_of HT_.out (by kernel_rfl)) (fun _ _ _ h => h) (Or.inl ⟨by rfl, ?_⟩) ?_ ?_
                            rotate_left
                            · intro w'
                              go_simp
                              with_reducible rfl
                            rotate_left
                            · simp only [Act.put, List.setIfInBounds_toArray, List.set_cons_zero, List.set_cons_succ, i64_w, i32_w]
                              rfl
                            refine pure_ (i := 13) (N := some 73) (v := ?_) (a' := ?_) #[true, true, false, false, true, true, false, false, true, true, false, false, true, true, false, false, false, false, false, false, false, false] rfl rfl (any_of HT_.out (by kernel_rfl)) (fun _ _ _ h => h) (Or.inl ⟨by rfl, ?_⟩) ?_ ?_
                            rotate_left
                            · intro w'
                              go_simp
                              with_reducible rfl
                            rotate_left
                            · simp only [Act.put, List.setIfInBounds_toArray, List.set_cons_zero, List.set_cons_succ, i64_w, i32_w]
                              rfl
                            refine pure_ (i := 16) (N := some 76) (v := ?_) (a' := ?_) #[true, true, false, false, true, true, false, false, true, true, false, false, true, true, false, false, true, false, false, false, false, false] rfl rfl (any_of HT_.out (by kernel_rfl)) (fun _ _ _ h => h) (Or.inl ⟨by rfl, ?_⟩) ?_ ?_
                            rotate_left
                            · intro w'
                              go_simp
                              with_reducible rfl
                            rotate_left
                            · simp only [Act.put, List.setIfInBounds_toArray, List.set_cons_zero, List.set_cons_succ, i64_w, i32_w]
                              rfl
                            refine pure_ (i := 17) (N := some 77) (v := ?_) (a' := ?_) #[true, true, false, false, true, true, false, false, true, true, false, false, true, true, false, false, true, true, false, false, false, false] rfl rfl (any_of HT_.out (by kernel_rfl)) (fun _ _ _ h => h) (Or.inl ⟨by rfl, ?_⟩) ?_ ?_
                            rotate_left
                            · intro w'
                              go_simp
                              with_reducible rfl
                            rotate_left
                            · simp only [Act.put, List.setIfInBounds_toArray, List.set_cons_zero, List.set_cons_succ, i64_w, i32_w]
                              rfl
                            refine take_ (i := 2) (N := some 62) (v := ?_) (a' := ?_) #[true, true, true, false, true, true, false, false, true, true, false, false, true, true, false, false, true, true, false, false, false, false] rfl rfl (take_ofW HT_.out HW_.out (by kernel_rfl)) (fun _ _ _ h => h) (Or.inl ⟨by rfl, ?_⟩) hHeld ?_ ?_
                            rotate_left
                            · rintro w' ⟨s0, s1, s2, s3, s4⟩
                              go_simp
                              with_reducible rfl
                            rotate_left
                            · simp only [Act.put, List.setIfInBounds_toArray, List.set_cons_zero, List.set_cons_succ, i64_w, i32_w]
                              rfl
                            refine pure_ (i := 3) (N := some 63) (v := ?_) (a' := ?_) #[true, true, true, true, true, true, false, false, true, true, false, false, true, true, false, false, true, true, false, false, false, false] rfl rfl (any_of HT_.out (by kernel_rfl)) (fun _ _ _ h => h) (Or.inl ⟨by rfl, ?_⟩) ?_ ?_
                            rotate_left
                            · intro w'
                              go_simp
                              with_reducible rfl
                            rotate_left
                            · simp only [Act.put, List.setIfInBounds_toArray, List.set_cons_zero, List.set_cons_succ, i64_w, i32_w]
                              rfl
                            refine take_ (i := 6) (N := some 66) (v := ?_) (a' := ?_) #[true, true, true, true, true, true, true, false, true, true, false, false, true, true, false, false, true, true, false, false, false, false] rfl rfl (take_ofW HT_.out HW_.out (by kernel_rfl)) (fun _ _ _ h => h) (Or.inl ⟨by rfl, ?_⟩) hHeld ?_ ?_
                            rotate_left
                            · rintro w' ⟨s0, s1, s2, s3, s4⟩
                              go_simp
                              with_reducible rfl
                            rotate_left
                            · simp only [Act.put, List.setIfInBounds_toArray, List.set_cons_zero, List.set_cons_succ, i64_w, i32_w]
                              rfl
                            refine pure_ (i := 7) (N := some 67) (v := ?_) (a' := ?_) #[true, true, true, true, true, true, true, true, true, true, false, false, true, true, false, false, true, true, false, false, false, false] rfl rfl (any_of HT_.out (by kernel_rfl)) (fun _ _ _ h => h) (Or.inl ⟨by rfl, ?_⟩) ?_ ?_
                            rotate_left
                            · intro w'
                              go_simp
                              with_reducible rfl
                            rotate_left
                            · simp only [Act.put, List.setIfInBounds_toArray, List.set_cons_zero, List.set_cons_succ, i64_w, i32_w]
                              rfl
                            refine take_ (i := 10) (N := some 70) (v := ?_) (a' := ?_) #[true, true, true, true, true, true, true, true, true, true, true, false, true, true, false, false, true, true, false, false, false, false] rfl rfl (take_ofW HT_.out HW_.out (by kernel_rfl)) (fun _ _ _ h => h) (Or.inl ⟨by rfl, ?_⟩) hHeld ?_ ?_
                            rotate_left
                            · rintro w' ⟨s0, s1, s2, s3, s4⟩
                              go_simp
                              with_reducible rfl
                            rotate_left
                            · simp only [Act.put, List.setIfInBounds_toArray, List.set_cons_zero, List.set_cons_succ, i64_w, i32_w]
                              rfl
                            refine pure_ (i := 11) (N := some 71) (v := ?_) (a' := ?_) #[true, true, true, true, true, true, true, true, true, true, true, true, true, true, false, false, true, true, false, false, false, false] rfl rfl (any_of HT_.out (by kernel_rfl)) (fun _ _ _ h => h) (Or.inl ⟨by rfl, ?_⟩) ?_ ?_
                            rotate_left
                            · intro w'
                              go_simp
                              with_reducible rfl
                            rotate_left
                            · simp only [Act.put, List.setIfInBounds_toArray, List.set_cons_zero, List.set_cons_succ, i64_w, i32_w]
                              rfl
                            refine take_ (i := 14) (N := some 74) (v := ?_) (a' := ?_) #[true, true, true, true, true, true, true, true, true, true, true, true, true, true, true, false, true, true, false, false, false, false] rfl rfl (take_ofW HT_.out HW_.out (by kernel_rfl)) (fun _ _ _ h => h) (Or.inl ⟨by rfl, ?_⟩) hHeld ?_ ?_
                            rotate_left
                            · rintro w' ⟨s0, s1, s2, s3, s4⟩
                              go_simp
                              with_reducible rfl
                            rotate_left
                            · simp only [Act.put, List.setIfInBounds_toArray, List.set_cons_zero, List.set_cons_succ, i64_w, i32_w]
                              rfl
                            refine pure_ (i := 15) (N := some 75) (v := ?_) (a' := ?_) #[true, true, true, true, true, true, true, true, true, true, true, true, true, true, true, true, true, true, false, false, false, false] rfl rfl (any_of HT_.out (by kernel_rfl)) (fun _ _ _ h => h) (Or.inl ⟨by rfl, ?_⟩) ?_ ?_
                            rotate_left
                            · intro w'
                              go_simp
                              with_reducible rfl
                            rotate_left
                            · simp only [Act.put, List.setIfInBounds_toArray, List.set_cons_zero, List.set_cons_succ, i64_w, i32_w]
                              rfl
                            refine take_ (i := 18) (N := some 78) (v := ?_) (a' := ?_) #[true, true, true, true, true, true, true, true, true, true, true, true, true, true, true, true, true, true, true, false, false, false] rfl rfl (take_ofW HT_.out HW_.out (by kernel_rfl)) (fun _ _ _ h => h) (Or.inl ⟨by rfl, ?_⟩) hHeld ?_ ?_
                            rotate_left
                            · rintro w' ⟨s0, s1, s2, s3, s4⟩
                              go_simp
                              with_reducible rfl
                            rotate_left
                            · simp only [Act.put, List.setIfInBounds_toArray, List.set_cons_zero, List.set_cons_succ, i64_w, i32_w]
                              rfl
                            refine pure_ (i := 19) (N := some 79) (v := ?_) (a' := ?_) #[true, true, true, true, true, true, true, true, true, true, true, true, true, true, true, true, true, true, true, true, false, false] rfl rfl (any_of HT_.out (by kernel_rfl)) (fun _ _ _ h => h) (Or.inl ⟨by rfl, ?_⟩) ?_ ?_
                            rotate_left
                            · intro w'
                              go_simp
                              with_reducible rfl
                            rotate_left
                            · simp only [Act.put, List.setIfInBounds_toArray, List.set_cons_zero, List.set_cons_succ, i64_w, i32_w]
                              rfl
                            refine one_ (i := 20) (N := some 11) #[true, true, true, true, true, true, true, true, true, true, true, true, true, true, true, true, true, true, true, true, true, false] rfl rfl (one_of HT_.out (by kernel_rfl)) (by decide) (fun K hK => ?_)
                            refine box_step ?hg (N := 11) ?hd (cs := #[.int .u8 0, .bool false, .bool false, .bool false, .int .u64 0]) (t := 26) ?hr ?_; (case hd => rfl); (case hg => rfl); (case hr => first | (go_simp; done) | (go_simp; rfl))
                            intro gb247 hg w52 hbox hb
                            have HS0_ := (hb.cell (World.block_lt_of_cell? _ _ (hHeld.1))).trans (hHeld.1)
                            have HS1_ := (hb.cell (World.block_lt_of_cell? _ _ (hHeld.2.1))).trans (hHeld.2.1)
                            have HS2_ := (hb.cell (World.block_lt_of_cell? _ _ (hHeld.2.2.1))).trans (hHeld.2.2.1)
                            have HS3_ := (hb.cell (World.block_lt_of_cell? _ _ (hHeld.2.2.2.1))).trans (hHeld.2.2.2.1)
                            have HS4_ := (hb.cell (World.block_lt_of_cell? _ _ (hHeld.2.2.2.2))).trans (hHeld.2.2.2.2)
                            have n0_ := Aside0.mk (Kd.R_below (by (with_reducible repeat (first | apply Kd.R_alloc | apply Kd.R_drewN | apply Kd.R_drew)); exact HO_9.out) hb)
                            have n1_ := Aside0.mk (blk_below (g := gb221) (o := .cells #[.int .u8 0, .bool false, .bool false, .bool false, .int .u64 0] 26 (0, 0)) (by (with_reducible repeat (first | refine blk_drewN ?_ _ | refine blk_drew ?_ | refine blk_alloc ?_ _)); exact BK221.out) hb)
                            have n2_ := Aside0.mk (blk_below (g := gb229) (o := .cells #[.int .u8 t222, .int .u8 t223, .int .u8 t224, .int .u8 t225, .int .u8 t226] 82 (0, 0)) (by (with_reducible repeat (first | refine blk_drewN ?_ _ | refine blk_drew ?_ | refine blk_alloc ?_ _)); exact BK229.out) hb)
                            have n3_ := Aside0.mk (below_step (by repeat (first | (with_reducible first | exact HB.out | apply below_alloc | apply pw_below_drewN | apply below_drew1 | refine below_set ?_ GE221.out | refine below_set ?_ GE229.out) | exact HB.out)) hb)
                            have n4_ := Aside0.mk (hbox)
                            have n5_ := Aside0.mk ((by rw [hg]; exact (below_size (by repeat (first | (with_reducible first | exact HB.out | apply below_alloc | apply pw_below_drewN | apply below_drew1 | refine below_set ?_ GE221.out | refine below_set ?_ GE229.out) | exact HB.out))) : w.heap.size ≤ gb247))
                            have n6_ := Aside0.mk ((by rw [hg]; exact (below_size (by repeat (first | (with_reducible first | exact HB.out | apply below_alloc | apply pw_below_drewN | apply below_drew1 | refine below_set ?_ GE221.out | refine below_set ?_ GE229.out) | exact HB.out))) : w.heap.size ≤ gb247))
                            have n7_ := Aside0.mk ((by rw [hg]; exact Nat.ne_of_lt (blk_lt (g := gb221) (o := .cells #[.int .u8 0, .bool false, .bool false, .bool false, .int .u64 0] 26 (0, 0)) (by (with_reducible repeat (first | refine blk_drewN ?_ _ | refine blk_drew ?_ | refine blk_alloc ?_ _)); exact BK221.out)) : gb221 ≠ gb247))
                            have n8_ := Aside0.mk ((by rw [hg]; exact Nat.ne_of_gt (blk_lt (g := gb221) (o := .cells #[.int .u8 0, .bool false, .bool false, .bool false, .int .u64 0] 26 (0, 0)) (by (with_reducible repeat (first | refine blk_drewN ?_ _ | refine blk_drew ?_ | refine blk_alloc ?_ _)); exact BK221.out)) : gb247 ≠ gb221))
                            have n9_ := Aside0.mk ((by rw [hg]; exact Nat.ne_of_lt (blk_lt (g := gb229) (o := .cells #[.int .u8 t222, .int .u8 t223, .int .u8 t224, .int .u8 t225, .int .u8 t226] 82 (0, 0)) (by (with_reducible repeat (first | refine blk_drewN ?_ _ | refine blk_drew ?_ | refine blk_alloc ?_ _)); exact BK229.out)) : gb229 ≠ gb247))
                            have n10_ := Aside0.mk ((by rw [hg]; exact Nat.ne_of_gt (blk_lt (g := gb229) (o := .cells #[.int .u8 t222, .int .u8 t223, .int .u8 t224, .int .u8 t225, .int .u8 t226] 82 (0, 0)) (by (with_reducible repeat (first | refine blk_drewN ?_ _ | refine blk_drew ?_ | refine blk_alloc ?_ _)); exact BK229.out)) : gb247 ≠ gb229))
                            clear HO_9
                            clear BK221
                            clear BK229
                            clear HB
                            have HO_9 := n0_
                            have BK221 := n1_
                            have BK229 := n2_
                            have HB := n3_
                            have BK247 := n4_
                            have GW247 := n5_
                            have GE247 := n6_
                            have NB221_247 := n7_
                            have NB247_221 := n8_
                            have NB229_247 := n9_
                            have NB247_229 := n10_
                            clear n0_ n1_ n2_ n3_ n4_ n5_ n6_ n7_ n8_ n9_ n10_
                            clear hb hbox hg
                            refine hK.out _ _ ⟨HS0_, HS1_, HS2_, HS3_, HS4_⟩ (fun hHeld => ?_)
                            clear hK K
                            refine norm_ (a' := ?_) ?_ ?_
                            rotate_left
                            · show Act.put _ (some 11) _ = _
                              simp only [Act.put, List.setIfInBounds_toArray, List.set_cons_zero, List.set_cons_succ, i64_w, i32_w]
                              rfl
                            refine one_ (i := 21) (N := none) #[true, true, true, true, true, true, true, true, true, true, true, true, true, true, true, true, true, true, true, true, true, true] rfl rfl (one_of HT_.out (by kernel_rfl)) (by decide) (fun K hK => ?_)
                            have hs53 : w52.cell? ⟨gb247, 0, none⟩ = some (.int .u8 0) := (blk_cell BK247.out 0).trans rfl
                            have hfs53 := blk_frozen BK247.out 0
                            have hns53_0 := NB221_247.out
                            have hns53_1 := NB229_247.out
                            have hms53_0 := NB247_221.out
                            have hms53_1 := NB247_229.out
                            have hs54 : w52.cell? ⟨gb247, 1, none⟩ = some (.bool false) := (blk_cell BK247.out 1).trans rfl
                            have hfs54 := blk_frozen BK247.out 1
                            have hns54_0 := NB221_247.out
                            have hns54_1 := NB229_247.out
                            have hms54_0 := NB247_221.out
                            have hms54_1 := NB247_229.out
                            have hs55 : w52.cell? ⟨gb247, 2, none⟩ = some (.bool false) := (blk_cell BK247.out 2).trans rfl
                            have hfs55 := blk_frozen BK247.out 2
                            have hns55_0 := NB221_247.out
                            have hns55_1 := NB229_247.out
                            have hms55_0 := NB247_221.out
                            have hms55_1 := NB247_229.out
                            have hs56 : w52.cell? ⟨gb247, 3, none⟩ = some (.bool false) := (blk_cell BK247.out 3).trans rfl
                            have hfs56 := blk_frozen BK247.out 3
                            have hns56_0 := NB221_247.out
                            have hns56_1 := NB229_247.out
                            have hms56_0 := NB247_221.out
                            have hms56_1 := NB247_229.out
                            have hs57 : w52.cell? ⟨gb247, 4, none⟩ = some (.int .u64 0) := (blk_cell BK247.out 4).trans rfl
                            have hfs57 := blk_frozen BK247.out 4
                            have hns57_0 := NB221_247.out
                            have hns57_1 := NB229_247.out
                            have hms57_0 := NB247_221.out
                            have hms57_1 := NB247_229.out
                            refine skip_ (w1 := ?_) (by rfl) rfl ?_ ?_
                            rotate_left
                            · go_simp
                              rfl
                            refine hK.out _ _ ⟨?hh0_, ?hh1_, ?hh2_, ?hh3_, ?hh4_⟩ (fun hHeld => ?_)
                            case hh0_ =>
                              have hfF_ : ∀ (W_ : World) (a_ : Addr) (i_ : Nat) (u_ : Value), a_.block ≠ gb247 → (W_.setCell ⟨gb247, i_, none⟩ u_).cell? a_ = W_.cell? a_ := fun W_ a_ i_ u_ h_ => cell_far (p := ⟨gb247, i_, none⟩) h_ u_
                              have hqF_ := (Kd.own_blk (Kd.R_ne HO_9.out BK247.out (by decide)))
                              simp only [hfF_, ne_eq, hqF_, not_false_eq_true]
                              exact hHeld.1
                            case hh1_ =>
                              have hfF_ : ∀ (W_ : World) (a_ : Addr) (i_ : Nat) (u_ : Value), a_.block ≠ gb247 → (W_.setCell ⟨gb247, i_, none⟩ u_).cell? a_ = W_.cell? a_ := fun W_ a_ i_ u_ h_ => cell_far (p := ⟨gb247, i_, none⟩) h_ u_
                              have hqF_ := (Kd.own_blk (Kd.R_ne HO_9.out BK247.out (by decide)))
                              simp only [hfF_, ne_eq, hqF_, not_false_eq_true]
                              exact hHeld.2.1
                            case hh2_ =>
                              have hfF_ : ∀ (W_ : World) (a_ : Addr) (i_ : Nat) (u_ : Value), a_.block ≠ gb247 → (W_.setCell ⟨gb247, i_, none⟩ u_).cell? a_ = W_.cell? a_ := fun W_ a_ i_ u_ h_ => cell_far (p := ⟨gb247, i_, none⟩) h_ u_
                              have hqF_ := (Kd.own_blk (Kd.R_ne HO_9.out BK247.out (by decide)))
                              simp only [hfF_, ne_eq, hqF_, not_false_eq_true]
                              exact hHeld.2.2.1
                            case hh3_ =>
                              have hfF_ : ∀ (W_ : World) (a_ : Addr) (i_ : Nat) (u_ : Value), a_.block ≠ gb247 → (W_.setCell ⟨gb247, i_, none⟩ u_).cell? a_ = W_.cell? a_ := fun W_ a_ i_ u_ h_ => cell_far (p := ⟨gb247, i_, none⟩) h_ u_
                              have hqF_ := (Kd.own_blk (Kd.R_ne HO_9.out BK247.out (by decide)))
                              simp only [hfF_, ne_eq, hqF_, not_false_eq_true]
                              exact hHeld.2.2.2.1
                            case hh4_ =>
                              have hfF_ : ∀ (W_ : World) (a_ : Addr) (i_ : Nat) (u_ : Value), a_.block ≠ gb247 → (W_.setCell ⟨gb247, i_, none⟩ u_).cell? a_ = W_.cell? a_ := fun W_ a_ i_ u_ h_ => cell_far (p := ⟨gb247, i_, none⟩) h_ u_
                              have hqF_ := (Kd.own_blk (Kd.R_ne HO_9.out BK247.out (by decide)))
                              simp only [hfF_, ne_eq, hqF_, not_false_eq_true]
                              exact hHeld.2.2.2.2
                            clear hK K
                            refine done_ (done_of HT_.out (by kernel_rfl)) ?_
                            have hnb58 := NB247_221.out
                            have hnc58 := NB221_247.out
                            have hnb59 := NB247_229.out
                            have hnc59 := NB229_247.out
                            have hcz60_0 : w52.cell? ⟨gb247, 0, none⟩ = some (.int .u8 0) := (blk_cell BK247.out 0).trans rfl
                            have hcz60_1 : w52.cell? ⟨gb247, 1, none⟩ = some (.bool false) := (blk_cell BK247.out 1).trans rfl
                            have hcz60_2 : w52.cell? ⟨gb247, 2, none⟩ = some (.bool false) := (blk_cell BK247.out 2).trans rfl
                            have hcz60_3 : w52.cell? ⟨gb247, 3, none⟩ = some (.bool false) := (blk_cell BK247.out 3).trans rfl
                            have hcz60_4 : w52.cell? ⟨gb247, 4, none⟩ = some (.int .u64 0) := (blk_cell BK247.out 4).trans rfl
                            have hfz60_0 := blk_frozen BK247.out 0
                            have hfz60_1 := blk_frozen BK247.out 1
                            have hfz60_2 := blk_frozen BK247.out 2
                            have hfz60_3 := blk_frozen BK247.out 3
                            have hfz60_4 := blk_frozen BK247.out 4
                            try go_wp2_with (first | ((with_reducible refine gate_callee (f := 46) rfl ?_); refine goesL_ (some 81) rfl rfl Try.func46 (by kernel_rfl) rfl #[.agg #[.int .u8 ((rd t234 0) % 256), .bool ((rd t234 2) == 1), .bool ((rd t234 3) == 1), .bool ((rd t234 4) == 1), .int .u64 (rd t234 6)]] rfl (by (try simp only [List.map_toArray, List.map_cons, List.map_nil]); first | done | rfl | (simp only [List.length_drop, List.length_take]; rfl)) ?_; (with_reducible refine (raps_Msg_wrong.calls kj17 ((rd t234 0) % 256) ((rd t234 2) == 1) ((rd t234 3) == 1) ((rd t234 4) == 1) (rd t234 6) t248 _ A48.out).mono ?_); rintro e w61 ⟨rfl, hb⟩; refine ⟨_, rfl, ?_⟩; have n0_ := Aside0.mk (Kd.R_below (by (with_reducible repeat (first | apply Kd.R_alloc | apply Kd.R_drewN | apply Kd.R_drew)); exact (Kd.R_mono (Kd.R_far (p := ⟨gb247, 4, none⟩) (Kd.R_far (p := ⟨gb247, 3, none⟩) (Kd.R_far (p := ⟨gb247, 2, none⟩) (Kd.R_far (p := ⟨gb247, 1, none⟩) (Kd.R_far (p := ⟨gb247, 0, none⟩) (Kd.R_types HO_9.out BK247.out (by decide)) (fun _ hk => hk.2) (.int .u8 ((rd t234 0) % 256))) (fun _ hk => hk.2) (.bool ((rd t234 2) == 1))) (fun _ hk => hk.2) (.bool ((rd t234 3) == 1))) (fun _ hk => hk.2) (.bool ((rd t234 4) == 1))) (fun _ hk => hk.2) (.int .u64 (rd t234 6))) (fun _ h_ => h_.1))) hb); have n1_ := Aside0.mk (blk_below (g := gb221) (o := .cells #[.int .u8 0, .bool false, .bool false, .bool false, .int .u64 0] 26 (0, 0)) (by (with_reducible repeat (first | refine blk_drewN ?_ _ | refine blk_drew ?_ | refine blk_alloc ?_ _)); refine blk_far ?_ NB221_247.out _; (with_reducible repeat (first | refine blk_drewN ?_ _ | refine blk_drew ?_ | refine blk_alloc ?_ _)); refine blk_far ?_ NB221_247.out _; (with_reducible repeat (first | refine blk_drewN ?_ _ | refine blk_drew ?_ | refine blk_alloc ?_ _)); refine blk_far ?_ NB221_247.out _; (with_reducible repeat (first | refine blk_drewN ?_ _ | refine blk_drew ?_ | refine blk_alloc ?_ _)); refine blk_far ?_ NB221_247.out _; (with_reducible repeat (first | refine blk_drewN ?_ _ | refine blk_drew ?_ | refine blk_alloc ?_ _)); refine blk_far ?_ NB221_247.out _; (with_reducible repeat (first | refine blk_drewN ?_ _ | refine blk_drew ?_ | refine blk_alloc ?_ _)); exact BK221.out) hb); have n2_ := Aside0.mk (blk_below (g := gb229) (o := .cells #[.int .u8 t222, .int .u8 t223, .int .u8 t224, .int .u8 t225, .int .u8 t226] 82 (0, 0)) (by (with_reducible repeat (first | refine blk_drewN ?_ _ | refine blk_drew ?_ | refine blk_alloc ?_ _)); refine blk_far ?_ NB229_247.out _; (with_reducible repeat (first | refine blk_drewN ?_ _ | refine blk_drew ?_ | refine blk_alloc ?_ _)); refine blk_far ?_ NB229_247.out _; (with_reducible repeat (first | refine blk_drewN ?_ _ | refine blk_drew ?_ | refine blk_alloc ?_ _)); refine blk_far ?_ NB229_247.out _; (with_reducible repeat (first | refine blk_drewN ?_ _ | refine blk_drew ?_ | refine blk_alloc ?_ _)); refine blk_far ?_ NB229_247.out _; (with_reducible repeat (first | refine blk_drewN ?_ _ | refine blk_drew ?_ | refine blk_alloc ?_ _)); refine blk_far ?_ NB229_247.out _; (with_reducible repeat (first | refine blk_drewN ?_ _ | refine blk_drew ?_ | refine blk_alloc ?_ _)); exact BK229.out) hb); have n3_ := Aside0.mk (blk_below (g := gb247) (o := .cells #[.int .u8 ((rd t234 0) % 256), .bool ((rd t234 2) == 1), .bool ((rd t234 3) == 1), .bool ((rd t234 4) == 1), .int .u64 (rd t234 6)] 26 (0, 0)) (by (with_reducible repeat (first | refine blk_drewN ?_ _ | refine blk_drew ?_ | refine blk_alloc ?_ _)); refine blk_put (cs := #[.int .u8 ((rd t234 0) % 256), .bool ((rd t234 2) == 1), .bool ((rd t234 3) == 1), .bool ((rd t234 4) == 1), .int .u64 0]) ?_ 4 _ rfl; (with_reducible repeat (first | refine blk_drewN ?_ _ | refine blk_drew ?_ | refine blk_alloc ?_ _)); refine blk_put (cs := #[.int .u8 ((rd t234 0) % 256), .bool ((rd t234 2) == 1), .bool ((rd t234 3) == 1), .bool false, .int .u64 0]) ?_ 3 _ rfl; (with_reducible repeat (first | refine blk_drewN ?_ _ | refine blk_drew ?_ | refine blk_alloc ?_ _)); refine blk_put (cs := #[.int .u8 ((rd t234 0) % 256), .bool ((rd t234 2) == 1), .bool false, .bool false, .int .u64 0]) ?_ 2 _ rfl; (with_reducible repeat (first | refine blk_drewN ?_ _ | refine blk_drew ?_ | refine blk_alloc ?_ _)); refine blk_put (cs := #[.int .u8 ((rd t234 0) % 256), .bool false, .bool false, .bool false, .int .u64 0]) ?_ 1 _ rfl; (with_reducible repeat (first | refine blk_drewN ?_ _ | refine blk_drew ?_ | refine blk_alloc ?_ _)); refine blk_put (cs := #[.int .u8 0, .bool false, .bool false, .bool false, .int .u64 0]) ?_ 0 _ rfl; (with_reducible repeat (first | refine blk_drewN ?_ _ | refine blk_drew ?_ | refine blk_alloc ?_ _)); exact BK247.out) hb); have n4_ := Aside0.mk (below_step (by repeat (first | (with_reducible first | exact HB.out | apply below_alloc | apply pw_below_drewN | apply below_drew1 | refine below_set ?_ GE221.out | refine below_set ?_ GE229.out | refine below_set ?_ GE247.out) | exact HB.out)) hb); clear HO_9; clear BK221; clear BK229; clear BK247; clear HB; have HO_9 := n0_; have BK221 := n1_; have BK229 := n2_; have BK247 := n3_; have HB := n4_; clear n0_ n1_ n2_ n3_ n4_; (try clear hb); (try clear hb2); (try clear hk); (try clear hi); have hcz62_0 : w61.cell? ⟨gb247, 0, none⟩ = some (.int .u8 ((rd t234 0) % 256)) := (blk_cell BK247.out 0).trans rfl; have hcz62_1 : w61.cell? ⟨gb247, 1, none⟩ = some (.bool ((rd t234 2) == 1)) := (blk_cell BK247.out 1).trans rfl; have hcz62_2 : w61.cell? ⟨gb247, 2, none⟩ = some (.bool ((rd t234 3) == 1)) := (blk_cell BK247.out 2).trans rfl; have hcz62_3 : w61.cell? ⟨gb247, 3, none⟩ = some (.bool ((rd t234 4) == 1)) := (blk_cell BK247.out 3).trans rfl; have hcz62_4 : w61.cell? ⟨gb247, 4, none⟩ = some (.int .u64 (rd t234 6)) := (blk_cell BK247.out 4).trans rfl; have hfz62_0 := blk_frozen BK247.out 0; have hfz62_1 := blk_frozen BK247.out 1; have hfz62_2 := blk_frozen BK247.out 2; have hfz62_3 := blk_frozen BK247.out 3; have hfz62_4 := blk_frozen BK247.out 4; have hnb63 := NB221_229.out; have hnc63 := NB229_221.out; have hcz64_0 : w61.cell? ⟨gb221, 0, none⟩ = some (.int .u8 0) := (blk_cell BK221.out 0).trans rfl; have hcz64_1 : w61.cell? ⟨gb221, 1, none⟩ = some (.bool false) := (blk_cell BK221.out 1).trans rfl; have hcz64_2 : w61.cell? ⟨gb221, 2, none⟩ = some (.bool false) := (blk_cell BK221.out 2).trans rfl; have hcz64_3 : w61.cell? ⟨gb221, 3, none⟩ = some (.bool false) := (blk_cell BK221.out 3).trans rfl; have hcz64_4 : w61.cell? ⟨gb221, 4, none⟩ = some (.int .u64 0) := (blk_cell BK221.out 4).trans rfl; have hfz64_0 := blk_frozen BK221.out 0; have hfz64_1 := blk_frozen BK221.out 1; have hfz64_2 := blk_frozen BK221.out 2; have hfz64_3 := blk_frozen BK221.out 3; have hfz64_4 := blk_frozen BK221.out 4))
                            refine bodyPost_ret (results_ct rfl _ _ gb221 26 #[.int .u8 ((rd t234 0) % 256), .bool ((rd t234 2) == 1), .bool ((rd t234 3) == 1), .bool ((rd t234 4) == 1), .int .u64 (rd t234 6)] (0, 0) _ rfl (by (with_reducible repeat (first | refine blk_drewN ?_ _ | refine blk_drew ?_ | refine blk_alloc ?_ _)); refine blk_put (cs := #[.int .u8 ((rd t234 0) % 256), .bool ((rd t234 2) == 1), .bool ((rd t234 3) == 1), .bool ((rd t234 4) == 1), .int .u64 0]) ?_ 4 _ rfl; (with_reducible repeat (first | refine blk_drewN ?_ _ | refine blk_drew ?_ | refine blk_alloc ?_ _)); refine blk_put (cs := #[.int .u8 ((rd t234 0) % 256), .bool ((rd t234 2) == 1), .bool ((rd t234 3) == 1), .bool false, .int .u64 0]) ?_ 3 _ rfl; (with_reducible repeat (first | refine blk_drewN ?_ _ | refine blk_drew ?_ | refine blk_alloc ?_ _)); refine blk_put (cs := #[.int .u8 ((rd t234 0) % 256), .bool ((rd t234 2) == 1), .bool false, .bool false, .int .u64 0]) ?_ 2 _ rfl; (with_reducible repeat (first | refine blk_drewN ?_ _ | refine blk_drew ?_ | refine blk_alloc ?_ _)); refine blk_put (cs := #[.int .u8 ((rd t234 0) % 256), .bool false, .bool false, .bool false, .int .u64 0]) ?_ 1 _ rfl; (with_reducible repeat (first | refine blk_drewN ?_ _ | refine blk_drew ?_ | refine blk_alloc ?_ _)); refine blk_put (cs := #[.int .u8 0, .bool false, .bool false, .bool false, .int .u64 0]) ?_ 0 _ rfl; (with_reducible repeat (first | refine blk_drewN ?_ _ | refine blk_drew ?_ | refine blk_alloc ?_ _)); exact BK221.out) Try.underlying26 rfl (by kernel_rfl)) rfl ?_
                            exact ⟨by first | rfl | (simp [errW_none, errW_some] <;> rfl) | (simp [*, errW_none, errW_some] <;> rfl), by repeat (first | (with_reducible first | exact HB.out | apply below_alloc | apply pw_below_drewN | apply below_drew1 | refine below_set ?_ GE221.out | refine below_set ?_ GE229.out | refine below_set ?_ GE247.out) | exact HB.out)⟩
                          · rw [if_neg c49] at H
                            have c49b0 : (t248 == 0) = false := beq_eq_false_iff_ne.mpr c49
                            have c49b1 : (t248 != 0) = true := bne_iff_ne.mpr c49
                            simp only [Option.some.injEq, Prod.mk.injEq] at H
                            obtain ⟨rfl, rfl, rfl, rfl, rfl, rfl⟩ := H
                            try go_wp2
                            have n0_ := Aside0.mk (Kd.R_drew HO_9.out)
                            have n1_ := Aside0.mk (blk_drew BK221.out)
                            have n2_ := Aside0.mk (blk_drew BK229.out)
                            have n3_ := Aside0.mk (below_drew1 HB.out)
                            clear HO_9
                            clear BK221
                            clear BK229
                            clear HB
                            have HO_9 := n0_
                            have BK221 := n1_
                            have BK229 := n2_
                            have HB := n3_
                            clear n0_ n1_ n2_ n3_
                            obtain ⟨Ao66, co66, eo66⟩ := Kd.R_slice HO_9.out
                            (first | subst eo66 | (injection eo66 with f1_ f2_ f3_; have f4_ := f1_.symm; have f5_ := f3_.symm; clear f1_ f2_ f3_; subst f4_; subst f5_))
                            have p242 : 0 ≤ (0 : Int) := (by omega)
                            have q242 : 0 < (t234.length : Int) := of_decide_eq_true (by first | (with_reducible assumption) | assumption)
                            obtain ⟨ad242, e242, hx242_0⟩ := Kd.at_int (Kd.R_reads' HO_9.out).2.2 0 p242 q242
                            cases e242
                            have qi242 : (0 < t234.length) = True := eq_true (by omega)
                            (try rw [show ((0 : Int)).toNat = 0 from rfl] at hx242_0)
                            (try rw [Addr.add_zero'] at hx242_0)
                            replace p242 := eq_true p242
                            replace q242 := eq_true q242
                            have p243 : 0 ≤ (2 : Int) := (by omega)
                            have q243 : 2 < (t234.length : Int) := of_decide_eq_true (by first | (with_reducible assumption) | assumption)
                            obtain ⟨ad243, e243, hx243_0⟩ := Kd.at_int (Kd.R_reads' HO_9.out).2.2 2 p243 q243
                            obtain rfl : ad242 = ad243 := (by injection e243)
                            (try simp only [show (2 : Int).toNat = 2 from rfl, Nat.reduceMul, Nat.reduceEqDiff, Go.Addr.add, ↓reduceIte] at hx243_0)
                            have qi243 : (2 < t234.length) = True := eq_true (by omega)
                            (try rw [show ((2 : Int)).toNat = 2 from rfl] at hx243_0)
                            replace p243 := eq_true p243
                            replace q243 := eq_true q243
                            have p244 : 0 ≤ (3 : Int) := (by omega)
                            have q244 : 3 < (t234.length : Int) := of_decide_eq_true (by first | (with_reducible assumption) | assumption)
                            obtain ⟨ad244, e244, hx244_0⟩ := Kd.at_int (Kd.R_reads' HO_9.out).2.2 3 p244 q244
                            obtain rfl : ad242 = ad244 := (by injection e244)
                            (try simp only [show (3 : Int).toNat = 3 from rfl, Nat.reduceMul, Nat.reduceEqDiff, Go.Addr.add, ↓reduceIte] at hx244_0)
                            have qi244 : (3 < t234.length) = True := eq_true (by omega)
                            (try rw [show ((3 : Int)).toNat = 3 from rfl] at hx244_0)
                            replace p244 := eq_true p244
                            replace q244 := eq_true q244
                            have p245 : 0 ≤ (4 : Int) := (by omega)
                            have q245 : 4 < (t234.length : Int) := of_decide_eq_true (by first | (with_reducible assumption) | assumption)
                            obtain ⟨ad245, e245, hx245_0⟩ := Kd.at_int (Kd.R_reads' HO_9.out).2.2 4 p245 q245
                            obtain rfl : ad242 = ad245 := (by injection e245)
                            (try simp only [show (4 : Int).toNat = 4 from rfl, Nat.reduceMul, Nat.reduceEqDiff, Go.Addr.add, ↓reduceIte] at hx245_0)
                            have qi245 : (4 < t234.length) = True := eq_true (by omega)
                            (try rw [show ((4 : Int)).toNat = 4 from rfl] at hx245_0)
                            replace p245 := eq_true p245
                            replace q245 := eq_true q245
                            have p246 : 0 ≤ (6 : Int) := (by omega)
                            have q246 : 6 < (t234.length : Int) := of_decide_eq_true (by first | (with_reducible assumption) | assumption)
                            obtain ⟨ad246, e246, hx246_0⟩ := Kd.at_int (Kd.R_reads' HO_9.out).2.2 6 p246 q246
                            obtain rfl : ad242 = ad246 := (by injection e246)
                            (try simp only [show (6 : Int).toNat = 6 from rfl, Nat.reduceMul, Nat.reduceEqDiff, Go.Addr.add, ↓reduceIte] at hx246_0)
                            have qi246 : (6 < t234.length) = True := eq_true (by omega)
                            (try rw [show ((6 : Int)).toNat = 6 from rfl] at hx246_0)
                            replace p246 := eq_true p246
                            replace q246 := eq_true q246
                            refine start_ (n := 22) (S := fun w' => w'.cell? ad242 = some (.int .u64 (rd t234 0)) ∧ w'.cell? ⟨ad242.block, ad242.off + 2, none⟩ = some (.int .u64 (rd t234 2)) ∧ w'.cell? ⟨ad242.block, ad242.off + 3, none⟩ = some (.int .u64 (rd t234 3)) ∧ w'.cell? ⟨ad242.block, ad242.off + 4, none⟩ = some (.int .u64 (rd t234 4)) ∧ w'.cell? ⟨ad242.block, ad242.off + 6, none⟩ = some (.int .u64 (rd t234 6))) (ds := []) #[false, false, false, false, false, false, false, false, false, false, false, false, false, false, false, false, false, false, false, false, false, false] (by kernel_rfl) rfl rfl ⟨hx242_0, hx243_0, hx244_0, hx245_0, hx246_0⟩ (fun hHeld => ?_); refine with_tabW raps_Open.tab11 raps_Open.bits11 (fun HT_ HW_ => ?_)
                            generalize wc.drew = w65 at HO_9 BK221 BK229 HB hx242_0 hx243_0 hx244_0 hx245_0 hx246_0 hHeld ⊢
                            refine pure_ (i := 0) (N := some 60) (v := ?_) (a' := ?_) #[true, false, false, false, false, false, false, false, false, false, false, false, false, false, false, false, false, false, false, false, false, false] rfl rfl (any_of HT_.out (by kernel_rfl)) (fun _ _ _ h => h) (Or.inl ⟨by rfl, ?_⟩) ?_ ?_
                            rotate_left
                            · intro w'
                              go_simp
                              with_reducible rfl
                            rotate_left
                            · simp only [Act.put, List.setIfInBounds_toArray, List.set_cons_zero, List.set_cons_succ, i64_w, i32_w]
                              rfl
                            refine pure_ (i := 1) (N := some 61) (v := ?_) (a' := ?_) #[true, true, false, false, false, false, false, false, false, false, false, false, false, false, false, false, false, false, false, false, false, false] rfl rfl (any_of HT_.out (by kernel_rfl)) (fun _ _ _ h => h) (Or.inl ⟨by rfl, ?_⟩) ?_ ?_
                            rotate_left
                            · intro w'
                              go_simp
                              with_reducible rfl
                            rotate_left
                            · simp only [Act.put, List.setIfInBounds_toArray, List.set_cons_zero, List.set_cons_succ, i64_w, i32_w]
                              rfl
                            refine pure_ (i := 4) (N := some 64) (v := ?_) (a' := ?_) #[true, true, false, false, true, false, false, false, false, false, false, false, false, false, false, false, false, false, false, false, false, false] rfl rfl (any_of HT_.out (by kernel_rfl)) (fun _ _ _ h => h) (Or.inl ⟨by rfl, ?_⟩) ?_ ?_
                            rotate_left
                            · intro w'
                              go_simp
                              with_reducible rfl
                            rotate_left
                            · simp only [Act.put, List.setIfInBounds_toArray, List.set_cons_zero, List.set_cons_succ, i64_w, i32_w]
                              rfl
                            refine pure_ (i := 5) (N := some 65) (v := ?_) (a' := ?_) #[true, true, false, false, true, true, false, false, false, false, false, false, false, false, false, false, false, false, false, false, false, false] rfl rfl (any_of HT_.out (by kernel_rfl)) (fun _ _ _ h => h) (Or.inl ⟨by rfl, ?_⟩) ?_ ?_
                            rotate_left
                            · intro w'
                              go_simp
                              with_reducible rfl
                            rotate_left
                            · simp only [Act.put, List.setIfInBounds_toArray, List.set_cons_zero, List.set_cons_succ, i64_w, i32_w]
                              rfl
                            refine pure_ (i := 8) (N := some 68) (v := ?_) (a' := ?_) #[true, true, false, false, true, true, false, false, true, false, false, false, false, false, false, false, false, false, false, false, false, false] rfl rfl (any_of HT_.out (by kernel_rfl)) (fun _ _ _ h => h) (Or.inl ⟨by rfl, ?_⟩) ?_ ?_
                            rotate_left
                            · intro w'
                              go_simp
                              with_reducible rfl
                            rotate_left
                            · simp only [Act.put, List.setIfInBounds_toArray, List.set_cons_zero, List.set_cons_succ, i64_w, i32_w]
                              rfl
                            refine pure_ (i := 9) (N := some 69) (v := ?_) (a' := ?_) #[true, true, false, false, true, true, false, false, true, true, false, false, false, false, false, false, false, false, false, false, false, false] rfl rfl (any_of HT_.out (by kernel_rfl)) (fun _ _ _ h => h) (Or.inl ⟨by rfl, ?_⟩) ?_ ?_
                            rotate_left
                            · intro w'
                              go_simp
                              with_reducible rfl
                            rotate_left
                            · simp only [Act.put, List.setIfInBounds_toArray, List.set_cons_zero, List.set_cons_succ, i64_w, i32_w]
                              rfl
                            refine pure_ (i := 12) (N := some 72) (v := ?_) (a' := ?_) #[true, true, false, false, true, true, false, false, true, true, false, false, true, false, false, false, false, false, false, false, false, false] rfl rfl (any_of HT_.out (by kernel_rfl)) (fun _ _ _ h => h) (Or.inl ⟨by rfl, ?_⟩) ?_ ?_
                            rotate_left
                            · intro w'
                              go_simp
                              with_reducible rfl
                            rotate_left
                            · simp only [Act.put, List.setIfInBounds_toArray, List.set_cons_zero, List.set_cons_succ, i64_w, i32_w]
                              rfl
                            refine pure_ (i := 13) (N := some 73) (v := ?_) (a' := ?_) #[true, true, false, false, true, true, false, false, true, true, false, false, true, true, false, false, false, false, false, false, false, false] rfl rfl (any_of HT_.out (by kernel_rfl)) (fun _ _ _ h => h) (Or.inl ⟨by rfl, ?_⟩) ?_ ?_
                            rotate_left
                            · intro w'
                              go_simp
                              with_reducible rfl
                            rotate_left
                            · simp only [Act.put, List.setIfInBounds_toArray, List.set_cons_zero, List.set_cons_succ, i64_w, i32_w]
                              rfl
                            refine pure_ (i := 16) (N := some 76) (v := ?_) (a' := ?_) #[true, true, false, false, true, true, false, false, true, true, false, false, true, true, false, false, true, false, false, false, false, false] rfl rfl (any_of HT_.out (by kernel_rfl)) (fun _ _ _ h => h) (Or.inl ⟨by rfl, ?_⟩) ?_ ?_
                            rotate_left
                            · intro w'
                              go_simp
                              with_reducible rfl
                            rotate_left
                            · simp only [Act.put, List.setIfInBounds_toArray, List.set_cons_zero, List.set_cons_succ, i64_w, i32_w]
                              rfl
                            refine pure_ (i := 17) (N := some 77) (v := ?_) (a' := ?_) #[true, true, false, false, true, true, false, false, true, true, false, false, true, true, false, false, true, true, false, false, false, false] rfl rfl (any_of HT_.out (by kernel_rfl)) (fun _ _ _ h => h) (Or.inl ⟨by rfl, ?_⟩) ?_ ?_
                            rotate_left
                            · intro w'
                              go_simp
                              with_reducible rfl
                            rotate_left
                            · simp only [Act.put, List.setIfInBounds_toArray, List.set_cons_zero, List.set_cons_succ, i64_w, i32_w]
                              rfl
                            refine take_ (i := 2) (N := some 62) (v := ?_) (a' := ?_) #[true, true, true, false, true, true, false, false, true, true, false, false, true, true, false, false, true, true, false, false, false, false] rfl rfl (take_ofW HT_.out HW_.out (by kernel_rfl)) (fun _ _ _ h => h) (Or.inl ⟨by rfl, ?_⟩) hHeld ?_ ?_
                            rotate_left
                            · rintro w' ⟨s0, s1, s2, s3, s4⟩
                              go_simp
                              with_reducible rfl
                            rotate_left
                            · simp only [Act.put, List.setIfInBounds_toArray, List.set_cons_zero, List.set_cons_succ, i64_w, i32_w]
                              rfl
                            refine pure_ (i := 3) (N := some 63) (v := ?_) (a' := ?_) #[true, true, true, true, true, true, false, false, true, true, false, false, true, true, false, false, true, true, false, false, false, false] rfl rfl (any_of HT_.out (by kernel_rfl)) (fun _ _ _ h => h) (Or.inl ⟨by rfl, ?_⟩) ?_ ?_
                            rotate_left
                            · intro w'
                              go_simp
                              with_reducible rfl
                            rotate_left
                            · simp only [Act.put, List.setIfInBounds_toArray, List.set_cons_zero, List.set_cons_succ, i64_w, i32_w]
                              rfl
                            refine take_ (i := 6) (N := some 66) (v := ?_) (a' := ?_) #[true, true, true, true, true, true, true, false, true, true, false, false, true, true, false, false, true, true, false, false, false, false] rfl rfl (take_ofW HT_.out HW_.out (by kernel_rfl)) (fun _ _ _ h => h) (Or.inl ⟨by rfl, ?_⟩) hHeld ?_ ?_
                            rotate_left
                            · rintro w' ⟨s0, s1, s2, s3, s4⟩
                              go_simp
                              with_reducible rfl
                            rotate_left
                            · simp only [Act.put, List.setIfInBounds_toArray, List.set_cons_zero, List.set_cons_succ, i64_w, i32_w]
                              rfl
                            refine pure_ (i := 7) (N := some 67) (v := ?_) (a' := ?_) #[true, true, true, true, true, true, true, true, true, true, false, false, true, true, false, false, true, true, false, false, false, false] rfl rfl (any_of HT_.out (by kernel_rfl)) (fun _ _ _ h => h) (Or.inl ⟨by rfl, ?_⟩) ?_ ?_
                            rotate_left
                            · intro w'
                              go_simp
                              with_reducible rfl
                            rotate_left
                            · simp only [Act.put, List.setIfInBounds_toArray, List.set_cons_zero, List.set_cons_succ, i64_w, i32_w]
                              rfl
                            refine take_ (i := 10) (N := some 70) (v := ?_) (a' := ?_) #[true, true, true, true, true, true, true, true, true, true, true, false, true, true, false, false, true, true, false, false, false, false] rfl rfl (take_ofW HT_.out HW_.out (by kernel_rfl)) (fun _ _ _ h => h) (Or.inl ⟨by rfl, ?_⟩) hHeld ?_ ?_
                            rotate_left
                            · rintro w' ⟨s0, s1, s2, s3, s4⟩
                              go_simp
                              with_reducible rfl
                            rotate_left
                            · simp only [Act.put, List.setIfInBounds_toArray, List.set_cons_zero, List.set_cons_succ, i64_w, i32_w]
                              rfl
                            refine pure_ (i := 11) (N := some 71) (v := ?_) (a' := ?_) #[true, true, true, true, true, true, true, true, true, true, true, true, true, true, false, false, true, true, false, false, false, false] rfl rfl (any_of HT_.out (by kernel_rfl)) (fun _ _ _ h => h) (Or.inl ⟨by rfl, ?_⟩) ?_ ?_
                            rotate_left
                            · intro w'
                              go_simp
                              with_reducible rfl
                            rotate_left
                            · simp only [Act.put, List.setIfInBounds_toArray, List.set_cons_zero, List.set_cons_succ, i64_w, i32_w]
                              rfl
                            refine take_ (i := 14) (N := some 74) (v := ?_) (a' := ?_) #[true, true, true, true, true, true, true, true, true, true, true, true, true, true, true, false, true, true, false, false, false, false] rfl rfl (take_ofW HT_.out HW_.out (by kernel_rfl)) (fun _ _ _ h => h) (Or.inl ⟨by rfl, ?_⟩) hHeld ?_ ?_
                            rotate_left
                            · rintro w' ⟨s0, s1, s2, s3, s4⟩
                              go_simp
                              with_reducible rfl
                            rotate_left
                            · simp only [Act.put, List.setIfInBounds_toArray, List.set_cons_zero, List.set_cons_succ, i64_w, i32_w]
                              rfl
                            refine pure_ (i := 15) (N := some 75) (v := ?_) (a' := ?_) #[true, true, true, true, true, true, true, true, true, true, true, true, true, true, true, true, true, true, false, false, false, false] rfl rfl (any_of HT_.out (by kernel_rfl)) (fun _ _ _ h => h) (Or.inl ⟨by rfl, ?_⟩) ?_ ?_
                            rotate_left
                            · intro w'
                              go_simp
                              with_reducible rfl
                            rotate_left
                            · simp only [Act.put, List.setIfInBounds_toArray, List.set_cons_zero, List.set_cons_succ, i64_w, i32_w]
                              rfl
                            refine take_ (i := 18) (N := some 78) (v := ?_) (a' := ?_) #[true, true, true, true, true, true, true, true, true, true, true, true, true, true, true, true, true, true, true, false, false, false] rfl rfl (take_ofW HT_.out HW_.out (by kernel_rfl)) (fun _ _ _ h => h) (Or.inl ⟨by rfl, ?_⟩) hHeld ?_ ?_
                            rotate_left
                            · rintro w' ⟨s0, s1, s2, s3, s4⟩
                              go_simp
                              with_reducible rfl
                            rotate_left
                            · simp only [Act.put, List.setIfInBounds_toArray, List.set_cons_zero, List.set_cons_succ, i64_w, i32_w]
                              rfl
                            refine pure_ (i := 19) (N := some 79) (v := ?_) (a' := ?_) #[true, true, true, true, true, true, true, true, true, true, true, true, true, true, true, true, true, true, true, true, false, false] rfl rfl (any_of HT_.out (by kernel_rfl)) (fun _ _ _ h => h) (Or.inl ⟨by rfl, ?_⟩) ?_ ?_
                            rotate_left
                            · intro w'
                              go_simp
                              with_reducible rfl
                            rotate_left
                            · simp only [Act.put, List.setIfInBounds_toArray, List.set_cons_zero, List.set_cons_succ, i64_w, i32_w]
                              rfl
                            refine one_ (i := 20) (N := some 11) #[true, true, true, true, true, true, true, true, true, true, true, true, true, true, true, true, true, true, true, true, true, false] rfl rfl (one_of HT_.out (by kernel_rfl)) (by decide) (fun K hK => ?_)
                            refine box_step ?hg (N := 11) ?hd (cs := #[.int .u8 0, .bool false, .bool false, .bool false, .int .u64 0]) (t := 26) ?hr ?_; (case hd => rfl); (case hg => rfl); (case hr => first | (go_simp; done) | (go_simp; rfl))
                            intro gb247 hg w67 hbox hb
                            have HS0_ := (hb.cell (World.block_lt_of_cell? _ _ (hHeld.1))).trans (hHeld.1)
                            have HS1_ := (hb.cell (World.block_lt_of_cell? _ _ (hHeld.2.1))).trans (hHeld.2.1)
                            have HS2_ := (hb.cell (World.block_lt_of_cell? _ _ (hHeld.2.2.1))).trans (hHeld.2.2.1)
                            have HS3_ := (hb.cell (World.block_lt_of_cell? _ _ (hHeld.2.2.2.1))).trans (hHeld.2.2.2.1)
                            have HS4_ := (hb.cell (World.block_lt_of_cell? _ _ (hHeld.2.2.2.2))).trans (hHeld.2.2.2.2)
                            have n0_ := Aside0.mk (Kd.R_below (by (with_reducible repeat (first | apply Kd.R_alloc | apply Kd.R_drewN | apply Kd.R_drew)); exact HO_9.out) hb)
                            have n1_ := Aside0.mk (blk_below (g := gb221) (o := .cells #[.int .u8 0, .bool false, .bool false, .bool false, .int .u64 0] 26 (0, 0)) (by (with_reducible repeat (first | refine blk_drewN ?_ _ | refine blk_drew ?_ | refine blk_alloc ?_ _)); exact BK221.out) hb)
                            have n2_ := Aside0.mk (blk_below (g := gb229) (o := .cells #[.int .u8 t222, .int .u8 t223, .int .u8 t224, .int .u8 t225, .int .u8 t226] 82 (0, 0)) (by (with_reducible repeat (first | refine blk_drewN ?_ _ | refine blk_drew ?_ | refine blk_alloc ?_ _)); exact BK229.out) hb)
                            have n3_ := Aside0.mk (below_step (by repeat (first | (with_reducible first | exact HB.out | apply below_alloc | apply pw_below_drewN | apply below_drew1 | refine below_set ?_ GE221.out | refine below_set ?_ GE229.out) | exact HB.out)) hb)
                            have n4_ := Aside0.mk (hbox)
                            have n5_ := Aside0.mk ((by rw [hg]; exact (below_size (by repeat (first | (with_reducible first | exact HB.out | apply below_alloc | apply pw_below_drewN | apply below_drew1 | refine below_set ?_ GE221.out | refine below_set ?_ GE229.out) | exact HB.out))) : w.heap.size ≤ gb247))
                            have n6_ := Aside0.mk ((by rw [hg]; exact (below_size (by repeat (first | (with_reducible first | exact HB.out | apply below_alloc | apply pw_below_drewN | apply below_drew1 | refine below_set ?_ GE221.out | refine below_set ?_ GE229.out) | exact HB.out))) : w.heap.size ≤ gb247))
                            have n7_ := Aside0.mk ((by rw [hg]; exact Nat.ne_of_lt (blk_lt (g := gb221) (o := .cells #[.int .u8 0, .bool false, .bool false, .bool false, .int .u64 0] 26 (0, 0)) (by (with_reducible repeat (first | refine blk_drewN ?_ _ | refine blk_drew ?_ | refine blk_alloc ?_ _)); exact BK221.out)) : gb221 ≠ gb247))
                            have n8_ := Aside0.mk ((by rw [hg]; exact Nat.ne_of_gt (blk_lt (g := gb221) (o := .cells #[.int .u8 0, .bool false, .bool false, .bool false, .int .u64 0] 26 (0, 0)) (by (with_reducible repeat (first | refine blk_drewN ?_ _ | refine blk_drew ?_ | refine blk_alloc ?_ _)); exact BK221.out)) : gb247 ≠ gb221))
                            have n9_ := Aside0.mk ((by rw [hg]; exact Nat.ne_of_lt (blk_lt (g := gb229) (o := .cells #[.int .u8 t222, .int .u8 t223, .int .u8 t224, .int .u8 t225, .int .u8 t226] 82 (0, 0)) (by (with_reducible repeat (first | refine blk_drewN ?_ _ | refine blk_drew ?_ | refine blk_alloc ?_ _)); exact BK229.out)) : gb229 ≠ gb247))
                            have n10_ := Aside0.mk ((by rw [hg]; exact Nat.ne_of_gt (blk_lt (g := gb229) (o := .cells #[.int .u8 t222, .int .u8 t223, .int .u8 t224, .int .u8 t225, .int .u8 t226] 82 (0, 0)) (by (with_reducible repeat (first | refine blk_drewN ?_ _ | refine blk_drew ?_ | refine blk_alloc ?_ _)); exact BK229.out)) : gb247 ≠ gb229))
                            clear HO_9
                            clear BK221
                            clear BK229
                            clear HB
                            have HO_9 := n0_
                            have BK221 := n1_
                            have BK229 := n2_
                            have HB := n3_
                            have BK247 := n4_
                            have GW247 := n5_
                            have GE247 := n6_
                            have NB221_247 := n7_
                            have NB247_221 := n8_
                            have NB229_247 := n9_
                            have NB247_229 := n10_
                            clear n0_ n1_ n2_ n3_ n4_ n5_ n6_ n7_ n8_ n9_ n10_
                            clear hb hbox hg
                            refine hK.out _ _ ⟨HS0_, HS1_, HS2_, HS3_, HS4_⟩ (fun hHeld => ?_)
                            clear hK K
                            refine norm_ (a' := ?_) ?_ ?_
                            rotate_left
                            · show Act.put _ (some 11) _ = _
                              simp only [Act.put, List.setIfInBounds_toArray, List.set_cons_zero, List.set_cons_succ, i64_w, i32_w]
                              rfl
                            refine one_ (i := 21) (N := none) #[true, true, true, true, true, true, true, true, true, true, true, true, true, true, true, true, true, true, true, true, true, true] rfl rfl (one_of HT_.out (by kernel_rfl)) (by decide) (fun K hK => ?_)
                            have hs68 : w67.cell? ⟨gb247, 0, none⟩ = some (.int .u8 0) := (blk_cell BK247.out 0).trans rfl
                            have hfs68 := blk_frozen BK247.out 0
                            have hns68_0 := NB221_247.out
                            have hns68_1 := NB229_247.out
                            have hms68_0 := NB247_221.out
                            have hms68_1 := NB247_229.out
                            have hs69 : w67.cell? ⟨gb247, 1, none⟩ = some (.bool false) := (blk_cell BK247.out 1).trans rfl
                            have hfs69 := blk_frozen BK247.out 1
                            have hns69_0 := NB221_247.out
                            have hns69_1 := NB229_247.out
                            have hms69_0 := NB247_221.out
                            have hms69_1 := NB247_229.out
                            have hs70 : w67.cell? ⟨gb247, 2, none⟩ = some (.bool false) := (blk_cell BK247.out 2).trans rfl
                            have hfs70 := blk_frozen BK247.out 2
                            have hns70_0 := NB221_247.out
                            have hns70_1 := NB229_247.out
                            have hms70_0 := NB247_221.out
                            have hms70_1 := NB247_229.out
                            have hs71 : w67.cell? ⟨gb247, 3, none⟩ = some (.bool false) := (blk_cell BK247.out 3).trans rfl
                            have hfs71 := blk_frozen BK247.out 3
                            have hns71_0 := NB221_247.out
                            have hns71_1 := NB229_247.out
                            have hms71_0 := NB247_221.out
                            have hms71_1 := NB247_229.out
                            have hs72 : w67.cell? ⟨gb247, 4, none⟩ = some (.int .u64 0) := (blk_cell BK247.out 4).trans rfl
                            have hfs72 := blk_frozen BK247.out 4
                            have hns72_0 := NB221_247.out
                            have hns72_1 := NB229_247.out
                            have hms72_0 := NB247_221.out
                            have hms72_1 := NB247_229.out
                            refine skip_ (w1 := ?_) (by rfl) rfl ?_ ?_
                            rotate_left
                            · go_simp
                              rfl
                            refine hK.out _ _ ⟨?hh0_, ?hh1_, ?hh2_, ?hh3_, ?hh4_⟩ (fun hHeld => ?_)
                            case hh0_ =>
                              have hfF_ : ∀ (W_ : World) (a_ : Addr) (i_ : Nat) (u_ : Value), a_.block ≠ gb247 → (W_.setCell ⟨gb247, i_, none⟩ u_).cell? a_ = W_.cell? a_ := fun W_ a_ i_ u_ h_ => cell_far (p := ⟨gb247, i_, none⟩) h_ u_
                              have hqF_ := (Kd.own_blk (Kd.R_ne HO_9.out BK247.out (by decide)))
                              simp only [hfF_, ne_eq, hqF_, not_false_eq_true]
                              exact hHeld.1
                            case hh1_ =>
                              have hfF_ : ∀ (W_ : World) (a_ : Addr) (i_ : Nat) (u_ : Value), a_.block ≠ gb247 → (W_.setCell ⟨gb247, i_, none⟩ u_).cell? a_ = W_.cell? a_ := fun W_ a_ i_ u_ h_ => cell_far (p := ⟨gb247, i_, none⟩) h_ u_
                              have hqF_ := (Kd.own_blk (Kd.R_ne HO_9.out BK247.out (by decide)))
                              simp only [hfF_, ne_eq, hqF_, not_false_eq_true]
                              exact hHeld.2.1
                            case hh2_ =>
                              have hfF_ : ∀ (W_ : World) (a_ : Addr) (i_ : Nat) (u_ : Value), a_.block ≠ gb247 → (W_.setCell ⟨gb247, i_, none⟩ u_).cell? a_ = W_.cell? a_ := fun W_ a_ i_ u_ h_ => cell_far (p := ⟨gb247, i_, none⟩) h_ u_
                              have hqF_ := (Kd.own_blk (Kd.R_ne HO_9.out BK247.out (by decide)))
                              simp only [hfF_, ne_eq, hqF_, not_false_eq_true]
                              exact hHeld.2.2.1
                            case hh3_ =>
                              have hfF_ : ∀ (W_ : World) (a_ : Addr) (i_ : Nat) (u_ : Value), a_.block ≠ gb247 → (W_.setCell ⟨gb247, i_, none⟩ u_).cell? a_ = W_.cell? a_ := fun W_ a_ i_ u_ h_ => cell_far (p := ⟨gb247, i_, none⟩) h_ u_
                              have hqF_ := (Kd.own_blk (Kd.R_ne HO_9.out BK247.out (by decide)))
                              simp only [hfF_, ne_eq, hqF_, not_false_eq_true]
                              exact hHeld.2.2.2.1
                            case hh4_ =>
                              have hfF_ : ∀ (W_ : World) (a_ : Addr) (i_ : Nat) (u_ : Value), a_.block ≠ gb247 → (W_.setCell ⟨gb247, i_, none⟩ u_).cell? a_ = W_.cell? a_ := fun W_ a_ i_ u_ h_ => cell_far (p := ⟨gb247, i_, none⟩) h_ u_
                              have hqF_ := (Kd.own_blk (Kd.R_ne HO_9.out BK247.out (by decide)))
                              simp only [hfF_, ne_eq, hqF_, not_false_eq_true]
                              exact hHeld.2.2.2.2
                            clear hK K
                            refine done_ (done_of HT_.out (by kernel_rfl)) ?_
                            have hnb73 := NB247_221.out
                            have hnc73 := NB221_247.out
                            have hnb74 := NB247_229.out
                            have hnc74 := NB229_247.out
                            have hcz75_0 : w67.cell? ⟨gb247, 0, none⟩ = some (.int .u8 0) := (blk_cell BK247.out 0).trans rfl
                            have hcz75_1 : w67.cell? ⟨gb247, 1, none⟩ = some (.bool false) := (blk_cell BK247.out 1).trans rfl
                            have hcz75_2 : w67.cell? ⟨gb247, 2, none⟩ = some (.bool false) := (blk_cell BK247.out 2).trans rfl
                            have hcz75_3 : w67.cell? ⟨gb247, 3, none⟩ = some (.bool false) := (blk_cell BK247.out 3).trans rfl
                            have hcz75_4 : w67.cell? ⟨gb247, 4, none⟩ = some (.int .u64 0) := (blk_cell BK247.out 4).trans rfl
                            have hfz75_0 := blk_frozen BK247.out 0
                            have hfz75_1 := blk_frozen BK247.out 1
                            have hfz75_2 := blk_frozen BK247.out 2
                            have hfz75_3 := blk_frozen BK247.out 3
                            have hfz75_4 := blk_frozen BK247.out 4
                            try go_wp2_with (first | ((with_reducible refine gate_callee (f := 46) rfl ?_); refine goesL_ (some 81) rfl rfl Try.func46 (by kernel_rfl) rfl #[.agg #[.int .u8 ((rd t234 0) % 256), .bool ((rd t234 2) == 1), .bool ((rd t234 3) == 1), .bool ((rd t234 4) == 1), .int .u64 (rd t234 6)]] rfl (by (try simp only [List.map_toArray, List.map_cons, List.map_nil]); first | done | rfl | (simp only [List.length_drop, List.length_take]; rfl)) ?_; (with_reducible refine (raps_Msg_wrong.calls kj17 ((rd t234 0) % 256) ((rd t234 2) == 1) ((rd t234 3) == 1) ((rd t234 4) == 1) (rd t234 6) t248 _ A48.out).mono ?_); rintro e w76 ⟨rfl, hb⟩; refine ⟨_, rfl, ?_⟩; have n0_ := Aside0.mk (Kd.R_below (by (with_reducible repeat (first | apply Kd.R_alloc | apply Kd.R_drewN | apply Kd.R_drew)); exact (Kd.R_mono (Kd.R_far (p := ⟨gb247, 4, none⟩) (Kd.R_far (p := ⟨gb247, 3, none⟩) (Kd.R_far (p := ⟨gb247, 2, none⟩) (Kd.R_far (p := ⟨gb247, 1, none⟩) (Kd.R_far (p := ⟨gb247, 0, none⟩) (Kd.R_types HO_9.out BK247.out (by decide)) (fun _ hk => hk.2) (.int .u8 ((rd t234 0) % 256))) (fun _ hk => hk.2) (.bool ((rd t234 2) == 1))) (fun _ hk => hk.2) (.bool ((rd t234 3) == 1))) (fun _ hk => hk.2) (.bool ((rd t234 4) == 1))) (fun _ hk => hk.2) (.int .u64 (rd t234 6))) (fun _ h_ => h_.1))) hb); have n1_ := Aside0.mk (blk_below (g := gb221) (o := .cells #[.int .u8 0, .bool false, .bool false, .bool false, .int .u64 0] 26 (0, 0)) (by (with_reducible repeat (first | refine blk_drewN ?_ _ | refine blk_drew ?_ | refine blk_alloc ?_ _)); refine blk_far ?_ NB221_247.out _; (with_reducible repeat (first | refine blk_drewN ?_ _ | refine blk_drew ?_ | refine blk_alloc ?_ _)); refine blk_far ?_ NB221_247.out _; (with_reducible repeat (first | refine blk_drewN ?_ _ | refine blk_drew ?_ | refine blk_alloc ?_ _)); refine blk_far ?_ NB221_247.out _; (with_reducible repeat (first | refine blk_drewN ?_ _ | refine blk_drew ?_ | refine blk_alloc ?_ _)); refine blk_far ?_ NB221_247.out _; (with_reducible repeat (first | refine blk_drewN ?_ _ | refine blk_drew ?_ | refine blk_alloc ?_ _)); refine blk_far ?_ NB221_247.out _; (with_reducible repeat (first | refine blk_drewN ?_ _ | refine blk_drew ?_ | refine blk_alloc ?_ _)); exact BK221.out) hb); have n2_ := Aside0.mk (blk_below (g := gb229) (o := .cells #[.int .u8 t222, .int .u8 t223, .int .u8 t224, .int .u8 t225, .int .u8 t226] 82 (0, 0)) (by (with_reducible repeat (first | refine blk_drewN ?_ _ | refine blk_drew ?_ | refine blk_alloc ?_ _)); refine blk_far ?_ NB229_247.out _; (with_reducible repeat (first | refine blk_drewN ?_ _ | refine blk_drew ?_ | refine blk_alloc ?_ _)); refine blk_far ?_ NB229_247.out _; (with_reducible repeat (first | refine blk_drewN ?_ _ | refine blk_drew ?_ | refine blk_alloc ?_ _)); refine blk_far ?_ NB229_247.out _; (with_reducible repeat (first | refine blk_drewN ?_ _ | refine blk_drew ?_ | refine blk_alloc ?_ _)); refine blk_far ?_ NB229_247.out _; (with_reducible repeat (first | refine blk_drewN ?_ _ | refine blk_drew ?_ | refine blk_alloc ?_ _)); refine blk_far ?_ NB229_247.out _; (with_reducible repeat (first | refine blk_drewN ?_ _ | refine blk_drew ?_ | refine blk_alloc ?_ _)); exact BK229.out) hb); have n3_ := Aside0.mk (blk_below (g := gb247) (o := .cells #[.int .u8 ((rd t234 0) % 256), .bool ((rd t234 2) == 1), .bool ((rd t234 3) == 1), .bool ((rd t234 4) == 1), .int .u64 (rd t234 6)] 26 (0, 0)) (by (with_reducible repeat (first | refine blk_drewN ?_ _ | refine blk_drew ?_ | refine blk_alloc ?_ _)); refine blk_put (cs := #[.int .u8 ((rd t234 0) % 256), .bool ((rd t234 2) == 1), .bool ((rd t234 3) == 1), .bool ((rd t234 4) == 1), .int .u64 0]) ?_ 4 _ rfl; (with_reducible repeat (first | refine blk_drewN ?_ _ | refine blk_drew ?_ | refine blk_alloc ?_ _)); refine blk_put (cs := #[.int .u8 ((rd t234 0) % 256), .bool ((rd t234 2) == 1), .bool ((rd t234 3) == 1), .bool false, .int .u64 0]) ?_ 3 _ rfl; (with_reducible repeat (first | refine blk_drewN ?_ _ | refine blk_drew ?_ | refine blk_alloc ?_ _)); refine blk_put (cs := #[.int .u8 ((rd t234 0) % 256), .bool ((rd t234 2) == 1), .bool false, .bool false, .int .u64 0]) ?_ 2 _ rfl; (with_reducible repeat (first | refine blk_drewN ?_ _ | refine blk_drew ?_ | refine blk_alloc ?_ _)); refine blk_put (cs := #[.int .u8 ((rd t234 0) % 256), .bool false, .bool false, .bool false, .int .u64 0]) ?_ 1 _ rfl; (with_reducible repeat (first | refine blk_drewN ?_ _ | refine blk_drew ?_ | refine blk_alloc ?_ _)); refine blk_put (cs := #[.int .u8 0, .bool false, .bool false, .bool false, .int .u64 0]) ?_ 0 _ rfl; (with_reducible repeat (first | refine blk_drewN ?_ _ | refine blk_drew ?_ | refine blk_alloc ?_ _)); exact BK247.out) hb); have n4_ := Aside0.mk (below_step (by repeat (first | (with_reducible first | exact HB.out | apply below_alloc | apply pw_below_drewN | apply below_drew1 | refine below_set ?_ GE221.out | refine below_set ?_ GE229.out | refine below_set ?_ GE247.out) | exact HB.out)) hb); clear HO_9; clear BK221; clear BK229; clear BK247; clear HB; have HO_9 := n0_; have BK221 := n1_; have BK229 := n2_; have BK247 := n3_; have HB := n4_; clear n0_ n1_ n2_ n3_ n4_; (try clear hb); (try clear hb2); (try clear hk); (try clear hi); have hnb77 := NB221_229.out; have hnc77 := NB229_221.out; have hcz78_0 : w76.cell? ⟨gb221, 0, none⟩ = some (.int .u8 0) := (blk_cell BK221.out 0).trans rfl; have hcz78_1 : w76.cell? ⟨gb221, 1, none⟩ = some (.bool false) := (blk_cell BK221.out 1).trans rfl; have hcz78_2 : w76.cell? ⟨gb221, 2, none⟩ = some (.bool false) := (blk_cell BK221.out 2).trans rfl; have hcz78_3 : w76.cell? ⟨gb221, 3, none⟩ = some (.bool false) := (blk_cell BK221.out 3).trans rfl; have hcz78_4 : w76.cell? ⟨gb221, 4, none⟩ = some (.int .u64 0) := (blk_cell BK221.out 4).trans rfl; have hfz78_0 := blk_frozen BK221.out 0; have hfz78_1 := blk_frozen BK221.out 1; have hfz78_2 := blk_frozen BK221.out 2; have hfz78_3 := blk_frozen BK221.out 3; have hfz78_4 := blk_frozen BK221.out 4))
                            refine bodyPost_ret (results_ct rfl _ _ gb221 26 #[.int .u8 0, .bool false, .bool false, .bool false, .int .u64 0] (0, 0) _ rfl (by (with_reducible repeat (first | refine blk_drewN ?_ _ | refine blk_drew ?_ | refine blk_alloc ?_ _)); refine blk_put (cs := #[.int .u8 0, .bool false, .bool false, .bool false, .int .u64 0]) ?_ 4 _ rfl; (with_reducible repeat (first | refine blk_drewN ?_ _ | refine blk_drew ?_ | refine blk_alloc ?_ _)); refine blk_put (cs := #[.int .u8 0, .bool false, .bool false, .bool false, .int .u64 0]) ?_ 3 _ rfl; (with_reducible repeat (first | refine blk_drewN ?_ _ | refine blk_drew ?_ | refine blk_alloc ?_ _)); refine blk_put (cs := #[.int .u8 0, .bool false, .bool false, .bool false, .int .u64 0]) ?_ 2 _ rfl; (with_reducible repeat (first | refine blk_drewN ?_ _ | refine blk_drew ?_ | refine blk_alloc ?_ _)); refine blk_put (cs := #[.int .u8 0, .bool false, .bool false, .bool false, .int .u64 0]) ?_ 1 _ rfl; (with_reducible repeat (first | refine blk_drewN ?_ _ | refine blk_drew ?_ | refine blk_alloc ?_ _)); refine blk_put (cs := #[.int .u8 0, .bool false, .bool false, .bool false, .int .u64 0]) ?_ 0 _ rfl; (with_reducible repeat (first | refine blk_drewN ?_ _ | refine blk_drew ?_ | refine blk_alloc ?_ _)); exact BK221.out) Try.underlying26 rfl (by kernel_rfl)) rfl ?_
                            exact ⟨by first | rfl | (simp [errW_none, errW_some] <;> rfl) | (simp [*, errW_none, errW_some] <;> rfl), by repeat (first | (with_reducible first | exact HB.out | apply below_alloc | apply pw_below_drewN | apply below_drew1 | refine below_set ?_ GE221.out | refine below_set ?_ GE229.out | refine below_set ?_ GE247.out) | exact HB.out)⟩
                        · rw [if_neg c47] at H
                          exact absurd H (by simp)
                      · rw [if_neg c46] at H
                        exact absurd H (by simp)
                    · rw [if_neg c45] at H
                      exact absurd H (by simp)
                  · rw [if_neg c44] at H
                    exact absurd H (by simp)
                · rw [if_neg c43] at H
                  exact absurd H (by simp)
        · rw [if_neg c17] at H
          have c17b0 : (t236 == 0) = false := beq_eq_false_iff_ne.mpr c17
          have c17b1 : (t236 != 0) = true := bne_iff_ne.mpr c17
          simp only [Option.some.injEq, Prod.mk.injEq] at H
          obtain ⟨rfl, rfl, rfl, rfl, rfl, rfl⟩ := H
          go_wp2_with (first | ((with_reducible refine gate_dst (N := 30) rfl ?_); refine Kd.R_lit (Kd.int .i64) _ 3 ?hg (N := 30) ?hd (xs := ([4, 4, 1, 1, 1, 5, 48] : List Int)) (inner := [.int .i64 4, .int .i64 4, .int .i64 1, .int .i64 1, .int .i64 1, .int .i64 5, .int .i64 48]) (ok := fun _ => True) (okp := fun _ => True) ?hr ?hp (fun _ hk => hk) trivial (Below.refl _ _) (Nat.le_refl _) (by simp) ?_; (case hd => rfl); (case hg => rfl); (case hr => first | (go_simp; done) | (go_simp; rfl)); (case hp => exact (Reps.one (show Kd.M (Kd.int .i64) _ _ _ 4 [.int .i64 4] from rfl) (Reps.one (show Kd.M (Kd.int .i64) _ _ _ 4 [.int .i64 4] from rfl) (Reps.one (show Kd.M (Kd.int .i64) _ _ _ 1 [.int .i64 1] from rfl) (Reps.one (show Kd.M (Kd.int .i64) _ _ _ 1 [.int .i64 1] from rfl) (Reps.one (show Kd.M (Kd.int .i64) _ _ _ 1 [.int .i64 1] from rfl) (Reps.one (show Kd.M (Kd.int .i64) _ _ _ 5 [.int .i64 5] from rfl) (Reps.one (show Kd.M (Kd.int .i64) _ _ _ 48 [.int .i64 48] from rfl) (Reps.none _ _))))))))); intro v232 w79 ho80 hb hg_ hnew_; clear hg_ hnew_; (first | rw [← Ny231.out] at ho80 | (simp only [Int.reduceToNat] at ho80; rw [← Ny231.out] at ho80)); have n0_ := Aside0.mk (Kd.R_lower ho80 (below_size (by repeat (first | (with_reducible first | exact HB.out | apply below_alloc | apply pw_below_drewN | apply below_drew1 | refine below_set ?_ GE221.out | refine below_set ?_ GE229.out) | exact HB.out)))); have n1_ := Aside0.mk (blk_below (g := gb221) (o := .cells #[.int .u8 0, .bool false, .bool false, .bool false, .int .u64 0] 26 (0, 0)) (by (with_reducible repeat (first | refine blk_drewN ?_ _ | refine blk_drew ?_ | refine blk_alloc ?_ _)); exact BK221.out) hb); have n2_ := Aside0.mk (blk_below (g := gb229) (o := .cells #[.int .u8 t222, .int .u8 t223, .int .u8 t224, .int .u8 t225, .int .u8 t226] 82 (0, 0)) (by (with_reducible repeat (first | refine blk_drewN ?_ _ | refine blk_drew ?_ | refine blk_alloc ?_ _)); exact BK229.out) hb); have n3_ := Aside0.mk (below_step (by repeat (first | (with_reducible first | exact HB.out | apply below_alloc | apply pw_below_drewN | apply below_drew1 | refine below_set ?_ GE221.out | refine below_set ?_ GE229.out) | exact HB.out)) hb); clear BK221; clear BK229; clear HB; have HO233 := n0_; have BK221 := n1_; have BK229 := n2_; have HB := n3_; clear n0_ n1_ n2_ n3_; clear hb ho80; obtain ⟨Ao81, co81, eo81⟩ := Kd.R_slice HO233.out; subst eo81) | ((with_reducible refine gate_callee (f := 38) rfl ?_); refine goesL_ (some 31) rfl rfl Try.func38 (by kernel_rfl) rfl #[.string t227, .slice Ao81 y231.length co81] rfl (by (try simp only [List.map_toArray, List.map_cons, List.map_nil]); first | done | rfl | (simp only [List.length_drop, List.length_take]; rfl)) ?_; (with_reducible refine (field_Split.calls kj3 t227 _ _ y231 t234 t235 t236 _ ?side1 ?side2 A16.out).mono ?_); (case side1 => repeat (first | exact (Kd.R_reads' HO233.out).2.2 | (with_reducible refine Kd.C_alloc ?_ _) | (with_reducible refine Kd.C_drewN ?_ _) | (with_reducible refine Kd.C_drew ?_))); (case side2 => exact (Kd.R_reads' HO233.out).2.1); rintro e w82 ⟨v237, rfl, ho0, hb⟩; refine ⟨_, rfl, ?_⟩; have n0_ := Aside0.mk (Kd.R_below (by (with_reducible repeat (first | apply Kd.R_alloc | apply Kd.R_drewN | apply Kd.R_drew)); exact HO233.out) hb); have n1_ := Aside0.mk (Kd.R_lower ho0 (below_size (by repeat (first | (with_reducible first | exact HB.out | apply below_alloc | apply pw_below_drewN | apply below_drew1 | refine below_set ?_ GE221.out | refine below_set ?_ GE229.out) | exact HB.out)))); have n2_ := Aside0.mk (blk_below (g := gb221) (o := .cells #[.int .u8 0, .bool false, .bool false, .bool false, .int .u64 0] 26 (0, 0)) (by (with_reducible repeat (first | refine blk_drewN ?_ _ | refine blk_drew ?_ | refine blk_alloc ?_ _)); exact BK221.out) hb); have n3_ := Aside0.mk (blk_below (g := gb229) (o := .cells #[.int .u8 t222, .int .u8 t223, .int .u8 t224, .int .u8 t225, .int .u8 t226] 82 (0, 0)) (by (with_reducible repeat (first | refine blk_drewN ?_ _ | refine blk_drew ?_ | refine blk_alloc ?_ _)); exact BK229.out) hb); have n4_ := Aside0.mk (below_step (by repeat (first | (with_reducible first | exact HB.out | apply below_alloc | apply pw_below_drewN | apply below_drew1 | refine below_set ?_ GE221.out | refine below_set ?_ GE229.out) | exact HB.out)) hb); clear HO233; clear BK221; clear BK229; clear HB; have HO233 := n0_; have HO238 := n1_; have BK221 := n2_; have BK229 := n3_; have HB := n4_; clear n0_ n1_ n2_ n3_ n4_; (try clear hb); (try clear hb2); (try clear hk); (try clear hi); (try clear ho0); have hnb83 := NB221_229.out; have hnc83 := NB229_221.out; have hcz84_0 : w82.cell? ⟨gb221, 0, none⟩ = some (.int .u8 0) := (blk_cell BK221.out 0).trans rfl; have hcz84_1 : w82.cell? ⟨gb221, 1, none⟩ = some (.bool false) := (blk_cell BK221.out 1).trans rfl; have hcz84_2 : w82.cell? ⟨gb221, 2, none⟩ = some (.bool false) := (blk_cell BK221.out 2).trans rfl; have hcz84_3 : w82.cell? ⟨gb221, 3, none⟩ = some (.bool false) := (blk_cell BK221.out 3).trans rfl; have hcz84_4 : w82.cell? ⟨gb221, 4, none⟩ = some (.int .u64 0) := (blk_cell BK221.out 4).trans rfl; have hfz84_0 := blk_frozen BK221.out 0; have hfz84_1 := blk_frozen BK221.out 1; have hfz84_2 := blk_frozen BK221.out 2; have hfz84_3 := blk_frozen BK221.out 3; have hfz84_4 := blk_frozen BK221.out 4))
          refine bodyPost_ret (results_ct rfl _ _ gb221 26 #[.int .u8 0, .bool false, .bool false, .bool false, .int .u64 0] (0, 0) _ rfl (by (with_reducible repeat (first | refine blk_drewN ?_ _ | refine blk_drew ?_ | refine blk_alloc ?_ _)); refine blk_put (cs := #[.int .u8 0, .bool false, .bool false, .bool false, .int .u64 0]) ?_ 4 _ rfl; (with_reducible repeat (first | refine blk_drewN ?_ _ | refine blk_drew ?_ | refine blk_alloc ?_ _)); refine blk_put (cs := #[.int .u8 0, .bool false, .bool false, .bool false, .int .u64 0]) ?_ 3 _ rfl; (with_reducible repeat (first | refine blk_drewN ?_ _ | refine blk_drew ?_ | refine blk_alloc ?_ _)); refine blk_put (cs := #[.int .u8 0, .bool false, .bool false, .bool false, .int .u64 0]) ?_ 2 _ rfl; (with_reducible repeat (first | refine blk_drewN ?_ _ | refine blk_drew ?_ | refine blk_alloc ?_ _)); refine blk_put (cs := #[.int .u8 0, .bool false, .bool false, .bool false, .int .u64 0]) ?_ 1 _ rfl; (with_reducible repeat (first | refine blk_drewN ?_ _ | refine blk_drew ?_ | refine blk_alloc ?_ _)); refine blk_put (cs := #[.int .u8 0, .bool false, .bool false, .bool false, .int .u64 0]) ?_ 0 _ rfl; (with_reducible repeat (first | refine blk_drewN ?_ _ | refine blk_drew ?_ | refine blk_alloc ?_ _)); exact BK221.out) Try.underlying26 rfl (by kernel_rfl)) rfl ?_
          exact ⟨by first | rfl | (simp [errW_none, errW_some] <;> rfl) | (simp [*, errW_none, errW_some] <;> rfl), by repeat (first | (with_reducible first | exact HB.out | apply below_alloc | apply pw_below_drewN | apply below_drew1 | refine below_set ?_ GE221.out | refine below_set ?_ GE229.out) | exact HB.out)⟩
      · rw [if_neg c15] at H
        have c15b0 : (x8_3 == 0) = false := beq_eq_false_iff_ne.mpr c15
        have c15b1 : (x8_3 != 0) = true := bne_iff_ne.mpr c15
        simp only [Option.some.injEq, Prod.mk.injEq] at H
        obtain ⟨rfl, rfl, rfl, rfl, rfl, rfl⟩ := H
        have hnb85 := NB221_229.out
        have hnc85 := NB229_221.out
        have hcz86_0 : wc.cell? ⟨gb221, 0, none⟩ = some (.int .u8 0) := (blk_cell BK221.out 0).trans rfl
        have hcz86_1 : wc.cell? ⟨gb221, 1, none⟩ = some (.bool false) := (blk_cell BK221.out 1).trans rfl
        have hcz86_2 : wc.cell? ⟨gb221, 2, none⟩ = some (.bool false) := (blk_cell BK221.out 2).trans rfl
        have hcz86_3 : wc.cell? ⟨gb221, 3, none⟩ = some (.bool false) := (blk_cell BK221.out 3).trans rfl
        have hcz86_4 : wc.cell? ⟨gb221, 4, none⟩ = some (.int .u64 0) := (blk_cell BK221.out 4).trans rfl
        have hfz86_0 := blk_frozen BK221.out 0
        have hfz86_1 := blk_frozen BK221.out 1
        have hfz86_2 := blk_frozen BK221.out 2
        have hfz86_3 := blk_frozen BK221.out 3
        have hfz86_4 := blk_frozen BK221.out 4
        go_wp2
        refine bodyPost_ret (results_ct rfl _ _ gb221 26 #[.int .u8 0, .bool false, .bool false, .bool false, .int .u64 0] (0, 0) _ rfl (by (with_reducible repeat (first | refine blk_drewN ?_ _ | refine blk_drew ?_ | refine blk_alloc ?_ _)); refine blk_put (cs := #[.int .u8 0, .bool false, .bool false, .bool false, .int .u64 0]) ?_ 4 _ rfl; (with_reducible repeat (first | refine blk_drewN ?_ _ | refine blk_drew ?_ | refine blk_alloc ?_ _)); refine blk_put (cs := #[.int .u8 0, .bool false, .bool false, .bool false, .int .u64 0]) ?_ 3 _ rfl; (with_reducible repeat (first | refine blk_drewN ?_ _ | refine blk_drew ?_ | refine blk_alloc ?_ _)); refine blk_put (cs := #[.int .u8 0, .bool false, .bool false, .bool false, .int .u64 0]) ?_ 2 _ rfl; (with_reducible repeat (first | refine blk_drewN ?_ _ | refine blk_drew ?_ | refine blk_alloc ?_ _)); refine blk_put (cs := #[.int .u8 0, .bool false, .bool false, .bool false, .int .u64 0]) ?_ 1 _ rfl; (with_reducible repeat (first | refine blk_drewN ?_ _ | refine blk_drew ?_ | refine blk_alloc ?_ _)); refine blk_put (cs := #[.int .u8 0, .bool false, .bool false, .bool false, .int .u64 0]) ?_ 0 _ rfl; (with_reducible repeat (first | refine blk_drewN ?_ _ | refine blk_drew ?_ | refine blk_alloc ?_ _)); exact BK221.out) Try.underlying26 rfl (by kernel_rfl)) rfl ?_
        exact ⟨by first | rfl | (simp [errW_none, errW_some] <;> rfl) | (simp [*, errW_none, errW_some] <;> rfl), by repeat (first | (with_reducible first | exact HB.out | apply below_alloc | apply pw_below_drewN | apply below_drew1 | refine below_set ?_ GE221.out | refine below_set ?_ GE229.out) | exact HB.out)⟩

end Go.Proofs.Ytmdaaphjndjakaf.PAll
