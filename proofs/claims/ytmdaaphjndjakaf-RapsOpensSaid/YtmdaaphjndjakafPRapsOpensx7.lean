-- Written by a program of this work, after the translation.
import Derived.Test.YtmdaaphjndjakafPRapsOpensx0
import Derived.Test.YtmdaaphjndjakafPRapsOpensx3
import Derived.Test.YtmdaaphjndjakafPRapsOpensx5
import Derived.Test.YtmdaaphjndjakafPRapsOpensx6
namespace Go.Proofs.Ytmdaaphjndjakaf.PRapsOpens
open Go.RowKit Go.Proofs.YtmdaaphjndjakafW.PrintWords Go.Proofs.YtmdaaphjndjakafW.PrintLast Go.Proofs.YtmdaaphjndjakafW.PrintMore
attribute [local go_sem] max2_int min2_int max_two min_two max_three min_three max_four min_four   -- for this text's walks alone
set_option linter.unusedVariables false
set_option linter.unusedSimpArgs false

/-! ### raps_Open: function 22 -/
mutual
def raps_Open.j0 : Nat → ByteArray → Int → Int → Int → Int → Int → Int → Option (Int × Bool × Bool × Bool × Int × Int)
  | 0, _, _, _, _, _, _, _ => none
  | k + 1, x7, x8, x186000, x186001, x186002, x186003, x186004 => if x8 = 0 then ((field_Split.f k x7 (([4, 4, 1, 1, 1, 5, 48] : List Int))).bind fun bt190 => (if bt190.2.2 = 0 then (if x186003 = 0 then (if 1 < (bt190.1.length : Int) then (if (rd bt190.1 1) = 0 then (if 5 < (bt190.1.length : Int) then (if (rd bt190.1 5) = 0 then ((field_Noughts.f k bt190.2.1).bind fun t197 => (raps_Open.j1 k bt190.1 (!t197))) else (raps_Open.j1 k bt190.1 true)) else (none)) else (raps_Open.j1 k bt190.1 true)) else (none)) else (raps_Open.j1 k bt190.1 true)) else (some (0, false, false, false, 0, bt190.2.2)))) else (some (0, false, false, false, 0, x8))
def raps_Open.j1 : Nat → List Int → Bool → Option (Int × Bool × Bool × Bool × Int × Int)
  | 0, _, _ => none
  | k + 1, x9, x58 => if x58 = true then (some (0, false, false, false, 0, 3)) else (if 0 < (x9.length : Int) then (if 2 < (x9.length : Int) then (if 3 < (x9.length : Int) then (if 4 < (x9.length : Int) then (if 6 < (x9.length : Int) then ((raps_Msg_wrong.f k ((rd x9 0) % 256) ((rd x9 2) == 1) ((rd x9 3) == 1) ((rd x9 4) == 1) (rd x9 6)).bind fun t204 => (if t204 = 0 then (some ((rd x9 0) % 256, ((rd x9 2) == 1), ((rd x9 3) == 1), ((rd x9 4) == 1), rd x9 6, 0)) else (some (0, false, false, false, 0, t204)))) else (none)) else (none)) else (none)) else (none)) else (none))
end
def raps_Open.f (k : Nat) (a0 : ByteArray) (a1 : Int) : Option (Int × Bool × Bool × Bool × Int × Int) := (oam_Open.f k a0).bind fun bt178 => (if bt178.2.2.2.2.2.2 = 0 then ((oam_Head_Is.f k bt178.1 bt178.2.1 bt178.2.2.1 bt178.2.2.2.1 bt178.2.2.2.2.1 a1 1 40 32).bind fun t186 => (raps_Open.j0 k bt178.2.2.2.2.2.1 t186 bt178.1 bt178.2.1 bt178.2.2.1 bt178.2.2.2.1 bt178.2.2.2.2.1)) else (raps_Open.j0 k bt178.2.2.2.2.2.1 bt178.2.2.2.2.2.2 bt178.1 bt178.2.1 bt178.2.2.1 bt178.2.2.2.1 bt178.2.2.2.2.1))
theorem raps_Open.mono_l : ∀ k, (∀ y0 y1 y2 y3 y4 y5 y6, LeO (raps_Open.j0 k y0 y1 y2 y3 y4 y5 y6) (raps_Open.j0 (k + 1) y0 y1 y2 y3 y4 y5 y6)) ∧ (∀ y0 y1, LeO (raps_Open.j1 k y0 y1) (raps_Open.j1 (k + 1) y0 y1))
 | 0 => ⟨fun _ _ _ _ _ _ _ r h => by simp [raps_Open.j0] at h, fun _ _ r h => by simp [raps_Open.j1] at h⟩
 | k + 1 => by
  obtain ⟨ih0, ih1⟩ := raps_Open.mono_l k
  refine ⟨?_, ?_⟩
  ·
   intro y0 y1 y2 y3 y4 y5 y6
   unfold raps_Open.j0
   repeat' first
   | (with_reducible exact ih0 _ _ _ _ _ _ _)
   | (with_reducible exact ih1 _ _)
   | (with_reducible exact field_Noughts.mono _ _)
   | (with_reducible exact field_Split.mono _ _ _)
   | (with_reducible exact oam_Head_Is.mono _ _ _ _ _ _ _ _ _ _)
   | (with_reducible exact oam_Open.mono _ _)
   | (with_reducible exact raps_Msg_wrong.mono _ _ _ _ _ _)
   | (with_reducible exact LeO.refl _)
   | (with_reducible exact LeO.none _)
   | (with_reducible refine LeO.ite ?_ ?_)
   | (with_reducible refine LeO.bind ?_ (fun _ => ?_))
   | exact ih0 _ _ _ _ _ _ _
   | exact ih1 _ _
   | exact field_Noughts.mono _ _
   | exact field_Split.mono _ _ _
   | exact oam_Head_Is.mono _ _ _ _ _ _ _ _ _ _
   | exact oam_Open.mono _ _
   | exact raps_Msg_wrong.mono _ _ _ _ _ _
   | exact LeO.none _
   | refine LeO.ite ?_ ?_
   | refine LeO.bind ?_ (fun _ => ?_)
  ·
   intro y0 y1
   unfold raps_Open.j1
   repeat' first
   | (with_reducible exact ih0 _ _ _ _ _ _ _)
   | (with_reducible exact ih1 _ _)
   | (with_reducible exact field_Noughts.mono _ _)
   | (with_reducible exact field_Split.mono _ _ _)
   | (with_reducible exact oam_Head_Is.mono _ _ _ _ _ _ _ _ _ _)
   | (with_reducible exact oam_Open.mono _ _)
   | (with_reducible exact raps_Msg_wrong.mono _ _ _ _ _ _)
   | (with_reducible exact LeO.refl _)
   | (with_reducible exact LeO.none _)
   | (with_reducible refine LeO.ite ?_ ?_)
   | (with_reducible refine LeO.bind ?_ (fun _ => ?_))
   | exact ih0 _ _ _ _ _ _ _
   | exact ih1 _ _
   | exact field_Noughts.mono _ _
   | exact field_Split.mono _ _ _
   | exact oam_Head_Is.mono _ _ _ _ _ _ _ _ _ _
   | exact oam_Open.mono _ _
   | exact raps_Msg_wrong.mono _ _ _ _ _ _
   | exact LeO.none _
   | refine LeO.ite ?_ ?_
   | refine LeO.bind ?_ (fun _ => ?_)
theorem raps_Open.mono : ∀ a0 a1 k, LeO (raps_Open.f k a0 a1) (raps_Open.f (k + 1) a0 a1) := by
 intro a0 a1 k
 obtain ⟨ih0, ih1⟩ := raps_Open.mono_l k
 unfold raps_Open.f
 repeat' first
   | (with_reducible exact ih0 _ _ _ _ _ _ _)
   | (with_reducible exact ih1 _ _)
   | (with_reducible exact field_Noughts.mono _ _)
   | (with_reducible exact field_Split.mono _ _ _)
   | (with_reducible exact oam_Head_Is.mono _ _ _ _ _ _ _ _ _ _)
   | (with_reducible exact oam_Open.mono _ _)
   | (with_reducible exact raps_Msg_wrong.mono _ _ _ _ _ _)
   | (with_reducible exact LeO.refl _)
   | (with_reducible exact LeO.none _)
   | (with_reducible refine LeO.ite ?_ ?_)
   | (with_reducible refine LeO.bind ?_ (fun _ => ?_))
   | exact ih0 _ _ _ _ _ _ _
   | exact ih1 _ _
   | exact field_Noughts.mono _ _
   | exact field_Split.mono _ _ _
   | exact oam_Head_Is.mono _ _ _ _ _ _ _ _ _ _
   | exact oam_Open.mono _ _
   | exact raps_Msg_wrong.mono _ _ _ _ _ _
   | exact LeO.none _
   | refine LeO.ite ?_ ?_
   | refine LeO.bind ?_ (fun _ => ?_)
def raps_Open.T11 : Bool × List (List Nat × List Nat) := (true, [([], []), ([0], [0]), ([1], [1]), ([2], [2]), ([], []), ([4], [4]), ([5], [5]), ([6], [6]), ([], []), ([8], [8]), ([9], [9]), ([10], [10]), ([], []), ([12], [12]), ([13], [13]), ([14], [14]), ([], []), ([16], [16]), ([17], [17]), ([3, 7, 11, 15, 18], [3, 7, 11, 15, 18]), ([], []), ([20, 19, 0, 1, 2, 3, 4, 5, 6, 7, 8, 9, 10, 11, 12, 13, 14, 15, 16, 17, 18, 19, 20], [19, 20])])
def raps_Open.B11 : List Nat := [0, 1, 3, 7, 0, 16, 48, 112, 0, 256, 768, 1792, 0, 4096, 12288, 28672, 0, 65536, 196608, 524287, 0, 2097151]
theorem raps_Open.tab11 : rtab .any (opsOf Try.f22 11) = raps_Open.T11 := by kernel_rfl
theorem raps_Open.bits11 : waitsOk raps_Open.T11.2 raps_Open.B11 = true := by kernel_rfl
set_option maxHeartbeats 8000000 in
set_option maxRecDepth 100000 in
theorem raps_Open.calls (k : Nat) (a0 : ByteArray) (a1 : Int) (r1 : Int) (r2 : Bool) (r3 : Bool) (r4 : Bool) (r5 : Int) (r6 : Int) (w : World) (h : raps_Open.f k a0 a1 = some (r1, r2, r3, r4, r5, r6)) :
  Calls Try.prog 22 #[.string a0, .int .u8 a1] w fun e w' => e = .returned (.tuple #[.agg #[.int .u8 r1, .bool r2, .bool r3, .bool r4, .int .u64 r5], .int .i64 r6]) ∧ Below w.heap.size w w' := by
 have hu26 := Try.underlying26
 have hu82 := Try.underlying82
 have HB := Aside0.mk (Below.refl w.heap.size w)
 have H : ((oam_Open.f k a0).bind fun bt178 => (if bt178.2.2.2.2.2.2 = 0 then ((oam_Head_Is.f k bt178.1 bt178.2.1 bt178.2.2.1 bt178.2.2.2.1 bt178.2.2.2.2.1 a1 1 40 32).bind fun t186 => (raps_Open.j0 k bt178.2.2.2.2.2.1 t186 bt178.1 bt178.2.1 bt178.2.2.1 bt178.2.2.2.1 bt178.2.2.2.2.1)) else (raps_Open.j0 k bt178.2.2.2.2.2.1 bt178.2.2.2.2.2.2 bt178.1 bt178.2.1 bt178.2.2.1 bt178.2.2.2.1 bt178.2.2.2.2.1))) = some (r1, r2, r3, r4, r5, r6) := h
 clear h
 replace H := Option.bind_eq_some_iff.mp H
 obtain ⟨⟨t178, t179, t180, t181, t182, t183, t184⟩, A30, H⟩ := H
 try dsimp only at H
 have A3 := Aside0.mk A30
 clear A30
 have HC4 := Aside0.mk H
 clear H
 go_enter Try.func22, Try.ntmps22
 go_upto_if 20 with (first | ((with_reducible refine gate_dst (N := 4) rfl ?_); refine box_event ?hg (N := 4) ?hd (cs := #[.int .u8 0, .bool false, .bool false, .bool false, .int .u64 0]) (t := 26) ?hr ?_; (case hd => rfl); (case hg => rfl); (case hr => first | (go_simp; done) | (go_simp; rfl)); intro gb177 hg w5 hbox hb; have n0_ := Aside0.mk (below_step (by repeat (first | (with_reducible first | exact HB.out | apply below_alloc | apply pw_below_drewN | apply below_drew1) | exact HB.out)) hb); have n1_ := Aside0.mk (hbox); have n2_ := Aside0.mk ((by rw [hg]; exact (below_size (by repeat (first | (with_reducible first | exact HB.out | apply below_alloc | apply pw_below_drewN | apply below_drew1) | exact HB.out))) : w.heap.size ≤ gb177)); have n3_ := Aside0.mk ((by rw [hg]; exact (below_size (by repeat (first | (with_reducible first | exact HB.out | apply below_alloc | apply pw_below_drewN | apply below_drew1) | exact HB.out))) : w.heap.size ≤ gb177)); clear HB; have HB := n0_; have BK177 := n1_; have GW177 := n2_; have GE177 := n3_; clear n0_ n1_ n2_ n3_; clear hb hbox hg) | ((with_reducible refine gate_callee (f := 43) rfl ?_); refine goesL_ (some 15) rfl rfl Try.func43 (by kernel_rfl) rfl #[.string a0] rfl (by (try simp only [List.map_toArray, List.map_cons, List.map_nil]); first | done | rfl | (simp only [List.length_drop, List.length_take]; rfl)) ?_; (with_reducible refine (oam_Open.calls k a0 t178 t179 t180 t181 t182 t183 t184 _ A3.out).mono ?_); rintro e w6 ⟨rfl, hb⟩; refine ⟨_, rfl, ?_⟩; have n0_ := Aside0.mk (blk_below (g := gb177) (o := .cells #[.int .u8 0, .bool false, .bool false, .bool false, .int .u64 0] 26 (0, 0)) (by (with_reducible repeat (first | refine blk_drewN ?_ _ | refine blk_drew ?_ | refine blk_alloc ?_ _)); exact BK177.out) hb); have n1_ := Aside0.mk (below_step (by repeat (first | (with_reducible first | exact HB.out | apply below_alloc | apply pw_below_drewN | apply below_drew1 | refine below_set ?_ GE177.out) | exact HB.out)) hb); clear BK177; clear HB; have BK177 := n0_; have HB := n1_; clear n0_ n1_; (try clear hb); (try clear hb2); (try clear hk); (try clear hi)) | ((with_reducible refine gate_dst (N := 6) rfl ?_); refine box_event ?hg (N := 6) ?hd (cs := #[.int .u8 0, .int .u8 0, .int .u8 0, .int .u8 0, .int .u8 0]) (t := 82) ?hr ?_; (case hd => rfl); (case hg => rfl); (case hr => first | (go_simp; done) | (go_simp; rfl)); intro gb185 hg w7 hbox hb; have n0_ := Aside0.mk (blk_below (g := gb177) (o := .cells #[.int .u8 0, .bool false, .bool false, .bool false, .int .u64 0] 26 (0, 0)) (by (with_reducible repeat (first | refine blk_drewN ?_ _ | refine blk_drew ?_ | refine blk_alloc ?_ _)); exact BK177.out) hb); have n1_ := Aside0.mk (below_step (by repeat (first | (with_reducible first | exact HB.out | apply below_alloc | apply pw_below_drewN | apply below_drew1 | refine below_set ?_ GE177.out) | exact HB.out)) hb); have n2_ := Aside0.mk (hbox); have n3_ := Aside0.mk ((by rw [hg]; exact (below_size (by repeat (first | (with_reducible first | exact HB.out | apply below_alloc | apply pw_below_drewN | apply below_drew1 | refine below_set ?_ GE177.out) | exact HB.out))) : w.heap.size ≤ gb185)); have n4_ := Aside0.mk ((by rw [hg]; exact (below_size (by repeat (first | (with_reducible first | exact HB.out | apply below_alloc | apply pw_below_drewN | apply below_drew1 | refine below_set ?_ GE177.out) | exact HB.out))) : w.heap.size ≤ gb185)); have n5_ := Aside0.mk ((by rw [hg]; exact Nat.ne_of_lt (blk_lt (g := gb177) (o := .cells #[.int .u8 0, .bool false, .bool false, .bool false, .int .u64 0] 26 (0, 0)) (by (with_reducible repeat (first | refine blk_drewN ?_ _ | refine blk_drew ?_ | refine blk_alloc ?_ _)); exact BK177.out)) : gb177 ≠ gb185)); have n6_ := Aside0.mk ((by rw [hg]; exact Nat.ne_of_gt (blk_lt (g := gb177) (o := .cells #[.int .u8 0, .bool false, .bool false, .bool false, .int .u64 0] 26 (0, 0)) (by (with_reducible repeat (first | refine blk_drewN ?_ _ | refine blk_drew ?_ | refine blk_alloc ?_ _)); exact BK177.out)) : gb185 ≠ gb177)); clear BK177; clear HB; have BK177 := n0_; have HB := n1_; have BK185 := n2_; have GW185 := n3_; have GE185 := n4_; have NB177_185 := n5_; have NB185_177 := n6_; clear n0_ n1_ n2_ n3_ n4_ n5_ n6_; clear hb hbox hg; have hnb8 := NB185_177.out; have hnc8 := NB177_185.out; have hcz9_0 : w7.cell? ⟨gb185, 0, none⟩ = some (.int .u8 0) := (blk_cell BK185.out 0).trans rfl; have hcz9_1 : w7.cell? ⟨gb185, 1, none⟩ = some (.int .u8 0) := (blk_cell BK185.out 1).trans rfl; have hcz9_2 : w7.cell? ⟨gb185, 2, none⟩ = some (.int .u8 0) := (blk_cell BK185.out 2).trans rfl; have hcz9_3 : w7.cell? ⟨gb185, 3, none⟩ = some (.int .u8 0) := (blk_cell BK185.out 3).trans rfl; have hcz9_4 : w7.cell? ⟨gb185, 4, none⟩ = some (.int .u8 0) := (blk_cell BK185.out 4).trans rfl; have hfz9_0 := blk_frozen BK185.out 0; have hfz9_1 := blk_frozen BK185.out 1; have hfz9_2 := blk_frozen BK185.out 2; have hfz9_3 := blk_frozen BK185.out 3; have hfz9_4 := blk_frozen BK185.out 4))
 (try simp only [Act.put, List.setIfInBounds_toArray, List.set_cons_zero, List.set_cons_succ])
 go_cut [8] (fun v8 wc => ∃ (kq : Nat) (x8_3 : Int), v8 = .int .i64 x8_3 ∧ Aside0 (raps_Open.j0 kq t183 x8_3 t178 t179 t180 t181 t182 = some (r1, r2, r3, r4, r5, r6)) ∧ Aside0 (kq ≤ k) ∧ Aside0 (wc.heap[gb177]? = some (.cells #[.int .u8 0, .bool false, .bool false, .bool false, .int .u64 0] 26 (0, 0))) ∧ Aside0 (wc.heap[gb185]? = some (.cells #[.int .u8 t178, .int .u8 t179, .int .u8 t180, .int .u8 t181, .int .u8 t182] 82 (0, 0))) ∧ Aside0 (Below w.heap.size w wc))
 case first =>
  have H := HC4.out
  clear HC4
  by_cases c10 : t184 = 0
  ·
   rw [if_pos c10] at H
   have c10b0 : (t184 == 0) = true := beq_iff_eq.mpr c10
   have c10b1 : (t184 != 0) = false := bne_eq_false_iff_eq.mpr c10
   clear c10
   (first | rw [c10b0] | (simp only [i64_w, i32_w]; rw [c10b0]) | skip)
   replace H := Option.bind_eq_some_iff.mp H
   obtain ⟨t186, A110, H⟩ := H
   try dsimp only at H
   have A11 := Aside0.mk A110
   clear A110
   have H' := Aside0.mk H
   clear H
   have hnb12 := NB185_177.out
   have hnc12 := NB177_185.out
   have hcz13_0 : w7.cell? ⟨gb185, 0, none⟩ = some (.int .u8 0) := (blk_cell BK185.out 0).trans rfl
   have hcz13_1 : w7.cell? ⟨gb185, 1, none⟩ = some (.int .u8 0) := (blk_cell BK185.out 1).trans rfl
   have hcz13_2 : w7.cell? ⟨gb185, 2, none⟩ = some (.int .u8 0) := (blk_cell BK185.out 2).trans rfl
   have hcz13_3 : w7.cell? ⟨gb185, 3, none⟩ = some (.int .u8 0) := (blk_cell BK185.out 3).trans rfl
   have hcz13_4 : w7.cell? ⟨gb185, 4, none⟩ = some (.int .u8 0) := (blk_cell BK185.out 4).trans rfl
   have hfz13_0 := blk_frozen BK185.out 0
   have hfz13_1 := blk_frozen BK185.out 1
   have hfz13_2 := blk_frozen BK185.out 2
   have hfz13_3 := blk_frozen BK185.out 3
   have hfz13_4 := blk_frozen BK185.out 4
   go_wp2_with (first | ((with_reducible refine gate_callee (f := 44) rfl ?_); refine goesL_ (some 23) rfl rfl Try.func44 (by kernel_rfl) rfl #[.agg #[.int .u8 t178, .int .u8 t179, .int .u8 t180, .int .u8 t181, .int .u8 t182], .int .u8 a1, .int .u8 1, .int .u8 40, .int .u8 32] rfl (by (try simp only [List.map_toArray, List.map_cons, List.map_nil]); first | done | rfl | (simp only [List.length_drop, List.length_take]; rfl)) ?_; (with_reducible refine (oam_Head_Is.calls k t178 t179 t180 t181 t182 a1 1 40 32 t186 _ A11.out).mono ?_); rintro e w14 ⟨rfl, hb⟩; refine ⟨_, rfl, ?_⟩; have n0_ := Aside0.mk (blk_below (g := gb177) (o := .cells #[.int .u8 0, .bool false, .bool false, .bool false, .int .u64 0] 26 (0, 0)) (by (with_reducible repeat (first | refine blk_drewN ?_ _ | refine blk_drew ?_ | refine blk_alloc ?_ _)); refine blk_far ?_ NB177_185.out _; (with_reducible repeat (first | refine blk_drewN ?_ _ | refine blk_drew ?_ | refine blk_alloc ?_ _)); refine blk_far ?_ NB177_185.out _; (with_reducible repeat (first | refine blk_drewN ?_ _ | refine blk_drew ?_ | refine blk_alloc ?_ _)); refine blk_far ?_ NB177_185.out _; (with_reducible repeat (first | refine blk_drewN ?_ _ | refine blk_drew ?_ | refine blk_alloc ?_ _)); refine blk_far ?_ NB177_185.out _; (with_reducible repeat (first | refine blk_drewN ?_ _ | refine blk_drew ?_ | refine blk_alloc ?_ _)); refine blk_far ?_ NB177_185.out _; (with_reducible repeat (first | refine blk_drewN ?_ _ | refine blk_drew ?_ | refine blk_alloc ?_ _)); exact BK177.out) hb); have n1_ := Aside0.mk (blk_below (g := gb185) (o := .cells #[.int .u8 t178, .int .u8 t179, .int .u8 t180, .int .u8 t181, .int .u8 t182] 82 (0, 0)) (by (with_reducible repeat (first | refine blk_drewN ?_ _ | refine blk_drew ?_ | refine blk_alloc ?_ _)); refine blk_put (cs := #[.int .u8 t178, .int .u8 t179, .int .u8 t180, .int .u8 t181, .int .u8 0]) ?_ 4 _ rfl; (with_reducible repeat (first | refine blk_drewN ?_ _ | refine blk_drew ?_ | refine blk_alloc ?_ _)); refine blk_put (cs := #[.int .u8 t178, .int .u8 t179, .int .u8 t180, .int .u8 0, .int .u8 0]) ?_ 3 _ rfl; (with_reducible repeat (first | refine blk_drewN ?_ _ | refine blk_drew ?_ | refine blk_alloc ?_ _)); refine blk_put (cs := #[.int .u8 t178, .int .u8 t179, .int .u8 0, .int .u8 0, .int .u8 0]) ?_ 2 _ rfl; (with_reducible repeat (first | refine blk_drewN ?_ _ | refine blk_drew ?_ | refine blk_alloc ?_ _)); refine blk_put (cs := #[.int .u8 t178, .int .u8 0, .int .u8 0, .int .u8 0, .int .u8 0]) ?_ 1 _ rfl; (with_reducible repeat (first | refine blk_drewN ?_ _ | refine blk_drew ?_ | refine blk_alloc ?_ _)); refine blk_put (cs := #[.int .u8 0, .int .u8 0, .int .u8 0, .int .u8 0, .int .u8 0]) ?_ 0 _ rfl; (with_reducible repeat (first | refine blk_drewN ?_ _ | refine blk_drew ?_ | refine blk_alloc ?_ _)); exact BK185.out) hb); have n2_ := Aside0.mk (below_step (by repeat (first | (with_reducible first | exact HB.out | apply below_alloc | apply pw_below_drewN | apply below_drew1 | refine below_set ?_ GE177.out | refine below_set ?_ GE185.out) | exact HB.out)) hb); clear BK177; clear BK185; clear HB; have BK177 := n0_; have BK185 := n1_; have HB := n2_; clear n0_ n1_ n2_; (try clear hb); (try clear hb2); (try clear hk); (try clear hi)))
   go_meet
   case rel => exact ⟨_, (t186), (by first | rfl | (simp; done) | (simp [*]; done)), H', ⟨by first | omega | exact Nat.le_refl _⟩, ⟨by (with_reducible repeat (first | refine blk_drewN ?_ _ | refine blk_drew ?_ | refine blk_alloc ?_ _)); exact BK177.out⟩, ⟨by (with_reducible repeat (first | refine blk_drewN ?_ _ | refine blk_drew ?_ | refine blk_alloc ?_ _)); exact BK185.out⟩, ⟨by repeat (first | (with_reducible first | exact HB.out | apply below_alloc | apply pw_below_drewN | apply below_drew1 | refine below_set ?_ GE177.out | refine below_set ?_ GE185.out) | exact HB.out)⟩⟩
  ·
   rw [if_neg c10] at H
   have c10b0 : (t184 == 0) = false := beq_eq_false_iff_ne.mpr c10
   have c10b1 : (t184 != 0) = true := bne_iff_ne.mpr c10
   (first | rw [c10b0] | (simp only [i64_w, i32_w]; rw [c10b0]) | skip)
   have H' := Aside0.mk H
   clear H
   go_wp2
   go_meet
   case rel => exact ⟨_, (t184), (by first | rfl | (simp; done) | (simp [*]; done)), H', ⟨by first | omega | exact Nat.le_refl _⟩, ⟨by (with_reducible repeat (first | refine blk_drewN ?_ _ | refine blk_drew ?_ | refine blk_alloc ?_ _)); refine blk_far ?_ NB177_185.out _; (with_reducible repeat (first | refine blk_drewN ?_ _ | refine blk_drew ?_ | refine blk_alloc ?_ _)); refine blk_far ?_ NB177_185.out _; (with_reducible repeat (first | refine blk_drewN ?_ _ | refine blk_drew ?_ | refine blk_alloc ?_ _)); refine blk_far ?_ NB177_185.out _; (with_reducible repeat (first | refine blk_drewN ?_ _ | refine blk_drew ?_ | refine blk_alloc ?_ _)); refine blk_far ?_ NB177_185.out _; (with_reducible repeat (first | refine blk_drewN ?_ _ | refine blk_drew ?_ | refine blk_alloc ?_ _)); refine blk_far ?_ NB177_185.out _; (with_reducible repeat (first | refine blk_drewN ?_ _ | refine blk_drew ?_ | refine blk_alloc ?_ _)); exact BK177.out⟩, ⟨by (with_reducible repeat (first | refine blk_drewN ?_ _ | refine blk_drew ?_ | refine blk_alloc ?_ _)); refine blk_put (cs := #[.int .u8 t178, .int .u8 t179, .int .u8 t180, .int .u8 t181, .int .u8 0]) ?_ 4 _ rfl; (with_reducible repeat (first | refine blk_drewN ?_ _ | refine blk_drew ?_ | refine blk_alloc ?_ _)); refine blk_put (cs := #[.int .u8 t178, .int .u8 t179, .int .u8 t180, .int .u8 0, .int .u8 0]) ?_ 3 _ rfl; (with_reducible repeat (first | refine blk_drewN ?_ _ | refine blk_drew ?_ | refine blk_alloc ?_ _)); refine blk_put (cs := #[.int .u8 t178, .int .u8 t179, .int .u8 0, .int .u8 0, .int .u8 0]) ?_ 2 _ rfl; (with_reducible repeat (first | refine blk_drewN ?_ _ | refine blk_drew ?_ | refine blk_alloc ?_ _)); refine blk_put (cs := #[.int .u8 t178, .int .u8 0, .int .u8 0, .int .u8 0, .int .u8 0]) ?_ 1 _ rfl; (with_reducible repeat (first | refine blk_drewN ?_ _ | refine blk_drew ?_ | refine blk_alloc ?_ _)); refine blk_put (cs := #[.int .u8 0, .int .u8 0, .int .u8 0, .int .u8 0, .int .u8 0]) ?_ 0 _ rfl; (with_reducible repeat (first | refine blk_drewN ?_ _ | refine blk_drew ?_ | refine blk_alloc ?_ _)); exact BK185.out⟩, ⟨by repeat (first | (with_reducible first | exact HB.out | apply below_alloc | apply pw_below_drewN | apply below_drew1 | refine below_set ?_ GE177.out | refine below_set ?_ GE185.out) | exact HB.out)⟩⟩
 case rest =>
  clear HC4
  try clear c1
  try clear c2
  try clear p2
  try clear c4
  try clear c8
  try clear c10
  try clear c10b0
  try clear c10b1
  try clear c12
  try clear hcz13_0
  try clear hcz13_1
  try clear hcz13_2
  try clear hcz13_3
  try clear hcz13_4
  try clear hcz9_0
  try clear hcz9_1
  try clear hcz9_2
  try clear hcz9_3
  try clear hcz9_4
  try clear hfz13_0
  try clear hfz13_1
  try clear hfz13_2
  try clear hfz13_3
  try clear hfz13_4
  try clear hfz9_0
  try clear hfz9_1
  try clear hfz9_2
  try clear hfz9_3
  try clear hfz9_4
  obtain ⟨kq, x8_3, rfl, HA, HJ3, BK177, BK185, HB⟩ := hcut
  cases kq with
  | zero => exact absurd HA.out (by simp [raps_Open.j0])
  | succ kj3 =>
   have H := HA.out
   clear HA
   simp only [raps_Open.j0] at H
   by_cases c15 : x8_3 = 0
   ·
    rw [if_pos c15] at H
    have c15b0 : (x8_3 == 0) = true := beq_iff_eq.mpr c15
    have c15b1 : (x8_3 != 0) = false := bne_eq_false_iff_eq.mpr c15
    clear c15
    obtain ⟨y187, hy187⟩ : ∃ y_ : List Int, y_ = (([4, 4, 1, 1, 1, 5, 48] : List Int)) := ⟨_, rfl⟩
    replace H : ((field_Split.f kj3 t183 y187).bind fun bt190 => (if bt190.2.2 = 0 then (if t181 = 0 then (if 1 < (bt190.1.length : Int) then (if (rd bt190.1 1) = 0 then (if 5 < (bt190.1.length : Int) then (if (rd bt190.1 5) = 0 then ((field_Noughts.f kj3 bt190.2.1).bind fun t197 => (raps_Open.j1 kj3 bt190.1 (!t197))) else (raps_Open.j1 kj3 bt190.1 true)) else (none)) else (raps_Open.j1 kj3 bt190.1 true)) else (none)) else (raps_Open.j1 kj3 bt190.1 true)) else (some (0, false, false, false, 0, bt190.2.2)))) = some (r1, r2, r3, r4, r5, r6) := by first | (rw [hy187]; with_reducible exact H) | (have H2_ := (Option.bind_some _ _).symm.trans H; rw [hy187]; with_reducible exact H2_) | (have H2_ := (Option.bind_some _ _).symm.trans H; with_reducible exact H2_) | with_reducible exact H | (rw [hy187]; exact H) | exact H
    have Ny187 := Aside0.mk hy187
    clear hy187
    replace H := Option.bind_eq_some_iff.mp H
    obtain ⟨⟨t190, t191, t192⟩, A160, H⟩ := H
    try dsimp only at H
    have A16 := Aside0.mk A160
    clear A160
    by_cases c17 : t192 = 0
    ·
     rw [if_pos c17] at H
     have c17b0 : (t192 == 0) = true := beq_iff_eq.mpr c17
     have c17b1 : (t192 != 0) = false := bne_eq_false_iff_eq.mpr c17
     clear c17
     have HC18 := Aside0.mk H
     clear H
     go_upto_region 9 with (first | ((with_reducible refine gate_dst (N := 30) rfl ?_); refine Kd.R_lit (Kd.int .i64) _ 3 ?hg (N := 30) ?hd (xs := ([4, 4, 1, 1, 1, 5, 48] : List Int)) (inner := [.int .i64 4, .int .i64 4, .int .i64 1, .int .i64 1, .int .i64 1, .int .i64 5, .int .i64 48]) (ok := fun _ => True) (okp := fun _ => True) ?hr ?hp (fun _ hk => hk) trivial (Below.refl _ _) (Nat.le_refl _) (by simp) ?_; (case hd => rfl); (case hg => rfl); (case hr => first | (go_simp; done) | (go_simp; rfl)); (case hp => exact (Reps.one (show Kd.M (Kd.int .i64) _ _ _ 4 [.int .i64 4] from rfl) (Reps.one (show Kd.M (Kd.int .i64) _ _ _ 4 [.int .i64 4] from rfl) (Reps.one (show Kd.M (Kd.int .i64) _ _ _ 1 [.int .i64 1] from rfl) (Reps.one (show Kd.M (Kd.int .i64) _ _ _ 1 [.int .i64 1] from rfl) (Reps.one (show Kd.M (Kd.int .i64) _ _ _ 1 [.int .i64 1] from rfl) (Reps.one (show Kd.M (Kd.int .i64) _ _ _ 5 [.int .i64 5] from rfl) (Reps.one (show Kd.M (Kd.int .i64) _ _ _ 48 [.int .i64 48] from rfl) (Reps.none _ _))))))))); intro v188 w19 ho20 hb hg_ hnew_; clear hg_ hnew_; (first | rw [← Ny187.out] at ho20 | (simp only [Int.reduceToNat] at ho20; rw [← Ny187.out] at ho20)); have n0_ := Aside0.mk (Kd.R_lower ho20 (below_size (by repeat (first | (with_reducible first | exact HB.out | apply below_alloc | apply pw_below_drewN | apply below_drew1 | refine below_set ?_ GE177.out | refine below_set ?_ GE185.out) | exact HB.out)))); have n1_ := Aside0.mk (blk_below (g := gb177) (o := .cells #[.int .u8 0, .bool false, .bool false, .bool false, .int .u64 0] 26 (0, 0)) (by (with_reducible repeat (first | refine blk_drewN ?_ _ | refine blk_drew ?_ | refine blk_alloc ?_ _)); exact BK177.out) hb); have n2_ := Aside0.mk (blk_below (g := gb185) (o := .cells #[.int .u8 t178, .int .u8 t179, .int .u8 t180, .int .u8 t181, .int .u8 t182] 82 (0, 0)) (by (with_reducible repeat (first | refine blk_drewN ?_ _ | refine blk_drew ?_ | refine blk_alloc ?_ _)); exact BK185.out) hb); have n3_ := Aside0.mk (below_step (by repeat (first | (with_reducible first | exact HB.out | apply below_alloc | apply pw_below_drewN | apply below_drew1 | refine below_set ?_ GE177.out | refine below_set ?_ GE185.out) | exact HB.out)) hb); clear BK177; clear BK185; clear HB; have HO189 := n0_; have BK177 := n1_; have BK185 := n2_; have HB := n3_; clear n0_ n1_ n2_ n3_; clear hb ho20; obtain ⟨Ao21, co21, eo21⟩ := Kd.R_slice HO189.out; subst eo21) | ((with_reducible refine gate_callee (f := 38) rfl ?_); refine goesL_ (some 31) rfl rfl Try.func38 (by kernel_rfl) rfl #[.string t183, .slice Ao21 y187.length co21] rfl (by (try simp only [List.map_toArray, List.map_cons, List.map_nil]); first | done | rfl | (simp only [List.length_drop, List.length_take]; rfl)) ?_; (with_reducible refine (field_Split.calls kj3 t183 _ _ y187 t190 t191 t192 _ ?side1 ?side2 A16.out).mono ?_); (case side1 => repeat (first | exact (Kd.R_reads' HO189.out).2.2 | (with_reducible refine Kd.C_alloc ?_ _) | (with_reducible refine Kd.C_drewN ?_ _) | (with_reducible refine Kd.C_drew ?_))); (case side2 => exact (Kd.R_reads' HO189.out).2.1); rintro e w22 ⟨v193, rfl, ho0, hb⟩; refine ⟨_, rfl, ?_⟩; have n0_ := Aside0.mk (Kd.R_below (by (with_reducible repeat (first | apply Kd.R_alloc | apply Kd.R_drewN | apply Kd.R_drew)); exact HO189.out) hb); have n1_ := Aside0.mk (Kd.R_lower ho0 (below_size (by repeat (first | (with_reducible first | exact HB.out | apply below_alloc | apply pw_below_drewN | apply below_drew1 | refine below_set ?_ GE177.out | refine below_set ?_ GE185.out) | exact HB.out)))); have n2_ := Aside0.mk (blk_below (g := gb177) (o := .cells #[.int .u8 0, .bool false, .bool false, .bool false, .int .u64 0] 26 (0, 0)) (by (with_reducible repeat (first | refine blk_drewN ?_ _ | refine blk_drew ?_ | refine blk_alloc ?_ _)); exact BK177.out) hb); have n3_ := Aside0.mk (blk_below (g := gb185) (o := .cells #[.int .u8 t178, .int .u8 t179, .int .u8 t180, .int .u8 t181, .int .u8 t182] 82 (0, 0)) (by (with_reducible repeat (first | refine blk_drewN ?_ _ | refine blk_drew ?_ | refine blk_alloc ?_ _)); exact BK185.out) hb); have n4_ := Aside0.mk (below_step (by repeat (first | (with_reducible first | exact HB.out | apply below_alloc | apply pw_below_drewN | apply below_drew1 | refine below_set ?_ GE177.out | refine below_set ?_ GE185.out) | exact HB.out)) hb); clear HO189; clear BK177; clear BK185; clear HB; have HO189 := n0_; have HO194 := n1_; have BK177 := n2_; have BK185 := n3_; have HB := n4_; clear n0_ n1_ n2_ n3_ n4_; (try clear hb); (try clear hb2); (try clear hk); (try clear hi); (try clear ho0)))
     (try simp only [Act.put, List.setIfInBounds_toArray, List.set_cons_zero, List.set_cons_succ])
     go_cut [58] (fun v58 wc => ∃ (kq : Nat) (x58_17 : Bool), v58 = .bool x58_17 ∧ Aside0 (raps_Open.j1 kq t190 x58_17 = some (r1, r2, r3, r4, r5, r6)) ∧ Aside0 (kq ≤ kj3) ∧ Aside0 (Kd.R (Kd.int .u64) 23 wc w.heap.size (fun _ => True) v193 t190) ∧ Aside0 (wc.heap[gb177]? = some (.cells #[.int .u8 0, .bool false, .bool false, .bool false, .int .u64 0] 26 (0, 0))) ∧ Aside0 (wc.heap[gb185]? = some (.cells #[.int .u8 t178, .int .u8 t179, .int .u8 t180, .int .u8 t181, .int .u8 t182] 82 (0, 0))) ∧ Aside0 (Below w.heap.size w wc))
     case first =>
      have H := HC18.out
      clear HC18
      by_cases c23 : t181 = 0
      ·
       rw [if_pos c23] at H
       have c23b0 : (t181 == 0) = true := beq_iff_eq.mpr c23
       have c23b1 : (t181 != 0) = false := bne_eq_false_iff_eq.mpr c23
       clear c23
       (first | rw [c23b0] | (simp only [i64_w, i32_w]; rw [c23b0]) | skip)
       by_cases c24 : 1 < (t190.length : Int)
       ·
        rw [if_pos c24] at H
        have c24b0 : decide (1 < (t190.length : Int)) = true := decide_eq_true c24
        have c24b1 : decide (1 < t190.length) = true := decide_eq_true (by omega)
        clear c24
        by_cases c25 : (rd t190 1) = 0
        ·
         rw [if_pos c25] at H
         have c25b0 : ((rd t190 1) == 0) = true := beq_iff_eq.mpr c25
         have c25b1 : ((rd t190 1) != 0) = false := bne_eq_false_iff_eq.mpr c25
         clear c25
         by_cases c26 : 5 < (t190.length : Int)
         ·
          rw [if_pos c26] at H
          have c26b0 : decide (5 < (t190.length : Int)) = true := decide_eq_true c26
          have c26b1 : decide (5 < t190.length) = true := decide_eq_true (by omega)
          clear c26
          by_cases c27 : (rd t190 5) = 0
          ·
           rw [if_pos c27] at H
           have c27b0 : ((rd t190 5) == 0) = true := beq_iff_eq.mpr c27
           have c27b1 : ((rd t190 5) != 0) = false := bne_eq_false_iff_eq.mpr c27
           clear c27
           replace H := Option.bind_eq_some_iff.mp H
           obtain ⟨t197, A280, H⟩ := H
           try dsimp only at H
           have A28 := Aside0.mk A280
           clear A280
           have H' := Aside0.mk H
           clear H
           have hnb29 := NB185_177.out
           have hnc29 := NB177_185.out
           have hcz30_0 : w22.cell? ⟨gb185, 0, none⟩ = some (.int .u8 t178) := (blk_cell BK185.out 0).trans rfl
           have hcz30_1 : w22.cell? ⟨gb185, 1, none⟩ = some (.int .u8 t179) := (blk_cell BK185.out 1).trans rfl
           have hcz30_2 : w22.cell? ⟨gb185, 2, none⟩ = some (.int .u8 t180) := (blk_cell BK185.out 2).trans rfl
           have hcz30_3 : w22.cell? ⟨gb185, 3, none⟩ = some (.int .u8 t181) := (blk_cell BK185.out 3).trans rfl
           have hcz30_4 : w22.cell? ⟨gb185, 4, none⟩ = some (.int .u8 t182) := (blk_cell BK185.out 4).trans rfl
           have hfz30_0 := blk_frozen BK185.out 0
           have hfz30_1 := blk_frozen BK185.out 1
           have hfz30_2 := blk_frozen BK185.out 2
           have hfz30_3 := blk_frozen BK185.out 3
           have hfz30_4 := blk_frozen BK185.out 4
           obtain ⟨Ao31, co31, eo31⟩ := Kd.R_slice HO194.out
           subst eo31
           have p195 : 0 ≤ (1 : Int) := (by omega)
           have q195 : 1 < (t190.length : Int) := of_decide_eq_true (by first | (with_reducible assumption) | assumption)
           obtain ⟨ad195, e195, hx195_0⟩ := Kd.at_int (Kd.R_reads' HO194.out).2.2 1 p195 q195
           cases e195
           (try simp only [show (1 : Int).toNat = 1 from rfl, Nat.reduceMul, Nat.reduceEqDiff, Go.Addr.add, ↓reduceIte] at hx195_0)
           have qi195 : (1 < t190.length) = True := eq_true (by omega)
           (try rw [show ((1 : Int)).toNat = 1 from rfl] at hx195_0)
           replace p195 := eq_true p195
           replace q195 := eq_true q195
           have p196 : 0 ≤ (5 : Int) := (by omega)
           have q196 : 5 < (t190.length : Int) := of_decide_eq_true (by first | (with_reducible assumption) | assumption)
           obtain ⟨ad196, e196, hx196_0⟩ := Kd.at_int (Kd.R_reads' HO194.out).2.2 5 p196 q196
           obtain rfl : ad195 = ad196 := (by injection e196)
           (try simp only [show (5 : Int).toNat = 5 from rfl, Nat.reduceMul, Nat.reduceEqDiff, Go.Addr.add, ↓reduceIte] at hx196_0)
           have qi196 : (5 < t190.length) = True := eq_true (by omega)
           (try rw [show ((5 : Int)).toNat = 5 from rfl] at hx196_0)
           replace p196 := eq_true p196
           replace q196 := eq_true q196
           go_wp2_with (first | (go_at_call 45; (with_reducible refine (field_Noughts.calls kj3 t191 t197 _ A28.out).mono ?_); rintro e w' ⟨rfl, ⟨nd, rfl⟩⟩))
           go_meet
           case rel => exact ⟨_, (!t197), (by first | rfl | (simp; done) | (simp [*]; done)), H', ⟨by have := HJ3.out; first | omega | exact Nat.le_refl _⟩, ⟨by (with_reducible repeat (first | apply Kd.R_alloc | apply Kd.R_drewN | apply Kd.R_drew)); exact HO194.out⟩, ⟨by (with_reducible repeat (first | refine blk_drewN ?_ _ | refine blk_drew ?_ | refine blk_alloc ?_ _)); exact BK177.out⟩, ⟨by (with_reducible repeat (first | refine blk_drewN ?_ _ | refine blk_drew ?_ | refine blk_alloc ?_ _)); exact BK185.out⟩, ⟨by repeat (first | (with_reducible first | exact HB.out | apply below_alloc | apply pw_below_drewN | apply below_drew1 | refine below_set ?_ GE177.out | refine below_set ?_ GE185.out) | exact HB.out)⟩⟩
          ·
           rw [if_neg c27] at H
           have c27b0 : ((rd t190 5) == 0) = false := beq_eq_false_iff_ne.mpr c27
           have c27b1 : ((rd t190 5) != 0) = true := bne_iff_ne.mpr c27
           have H' := Aside0.mk H
           clear H
           have hnb32 := NB185_177.out
           have hnc32 := NB177_185.out
           have hcz33_0 : w22.cell? ⟨gb185, 0, none⟩ = some (.int .u8 t178) := (blk_cell BK185.out 0).trans rfl
           have hcz33_1 : w22.cell? ⟨gb185, 1, none⟩ = some (.int .u8 t179) := (blk_cell BK185.out 1).trans rfl
           have hcz33_2 : w22.cell? ⟨gb185, 2, none⟩ = some (.int .u8 t180) := (blk_cell BK185.out 2).trans rfl
           have hcz33_3 : w22.cell? ⟨gb185, 3, none⟩ = some (.int .u8 t181) := (blk_cell BK185.out 3).trans rfl
           have hcz33_4 : w22.cell? ⟨gb185, 4, none⟩ = some (.int .u8 t182) := (blk_cell BK185.out 4).trans rfl
           have hfz33_0 := blk_frozen BK185.out 0
           have hfz33_1 := blk_frozen BK185.out 1
           have hfz33_2 := blk_frozen BK185.out 2
           have hfz33_3 := blk_frozen BK185.out 3
           have hfz33_4 := blk_frozen BK185.out 4
           obtain ⟨Ao34, co34, eo34⟩ := Kd.R_slice HO194.out
           subst eo34
           have p195 : 0 ≤ (1 : Int) := (by omega)
           have q195 : 1 < (t190.length : Int) := of_decide_eq_true (by first | (with_reducible assumption) | assumption)
           obtain ⟨ad195, e195, hx195_0⟩ := Kd.at_int (Kd.R_reads' HO194.out).2.2 1 p195 q195
           cases e195
           (try simp only [show (1 : Int).toNat = 1 from rfl, Nat.reduceMul, Nat.reduceEqDiff, Go.Addr.add, ↓reduceIte] at hx195_0)
           have qi195 : (1 < t190.length) = True := eq_true (by omega)
           (try rw [show ((1 : Int)).toNat = 1 from rfl] at hx195_0)
           replace p195 := eq_true p195
           replace q195 := eq_true q195
           have p196 : 0 ≤ (5 : Int) := (by omega)
           have q196 : 5 < (t190.length : Int) := of_decide_eq_true (by first | (with_reducible assumption) | assumption)
           obtain ⟨ad196, e196, hx196_0⟩ := Kd.at_int (Kd.R_reads' HO194.out).2.2 5 p196 q196
           obtain rfl : ad195 = ad196 := (by injection e196)
           (try simp only [show (5 : Int).toNat = 5 from rfl, Nat.reduceMul, Nat.reduceEqDiff, Go.Addr.add, ↓reduceIte] at hx196_0)
           have qi196 : (5 < t190.length) = True := eq_true (by omega)
           (try rw [show ((5 : Int)).toNat = 5 from rfl] at hx196_0)
           replace p196 := eq_true p196
           replace q196 := eq_true q196
           go_wp2
           go_meet
           case rel => exact ⟨_, (true), (by first | rfl | (simp; done) | (simp [*]; done)), H', ⟨by have := HJ3.out; first | omega | exact Nat.le_refl _⟩, ⟨by (with_reducible repeat (first | apply Kd.R_alloc | apply Kd.R_drewN | apply Kd.R_drew)); exact HO194.out⟩, ⟨by (with_reducible repeat (first | refine blk_drewN ?_ _ | refine blk_drew ?_ | refine blk_alloc ?_ _)); exact BK177.out⟩, ⟨by (with_reducible repeat (first | refine blk_drewN ?_ _ | refine blk_drew ?_ | refine blk_alloc ?_ _)); exact BK185.out⟩, ⟨by repeat (first | (with_reducible first | exact HB.out | apply below_alloc | apply pw_below_drewN | apply below_drew1 | refine below_set ?_ GE177.out | refine below_set ?_ GE185.out) | exact HB.out)⟩⟩
         ·
          rw [if_neg c26] at H
          exact absurd H (by simp)
        ·
         rw [if_neg c25] at H
         have c25b0 : ((rd t190 1) == 0) = false := beq_eq_false_iff_ne.mpr c25
         have c25b1 : ((rd t190 1) != 0) = true := bne_iff_ne.mpr c25
         have H' := Aside0.mk H
         clear H
         have hnb35 := NB185_177.out
         have hnc35 := NB177_185.out
         have hcz36_0 : w22.cell? ⟨gb185, 0, none⟩ = some (.int .u8 t178) := (blk_cell BK185.out 0).trans rfl
         have hcz36_1 : w22.cell? ⟨gb185, 1, none⟩ = some (.int .u8 t179) := (blk_cell BK185.out 1).trans rfl
         have hcz36_2 : w22.cell? ⟨gb185, 2, none⟩ = some (.int .u8 t180) := (blk_cell BK185.out 2).trans rfl
         have hcz36_3 : w22.cell? ⟨gb185, 3, none⟩ = some (.int .u8 t181) := (blk_cell BK185.out 3).trans rfl
         have hcz36_4 : w22.cell? ⟨gb185, 4, none⟩ = some (.int .u8 t182) := (blk_cell BK185.out 4).trans rfl
         have hfz36_0 := blk_frozen BK185.out 0
         have hfz36_1 := blk_frozen BK185.out 1
         have hfz36_2 := blk_frozen BK185.out 2
         have hfz36_3 := blk_frozen BK185.out 3
         have hfz36_4 := blk_frozen BK185.out 4
         obtain ⟨Ao37, co37, eo37⟩ := Kd.R_slice HO194.out
         subst eo37
         have p195 : 0 ≤ (1 : Int) := (by omega)
         have q195 : 1 < (t190.length : Int) := of_decide_eq_true (by first | (with_reducible assumption) | assumption)
         obtain ⟨ad195, e195, hx195_0⟩ := Kd.at_int (Kd.R_reads' HO194.out).2.2 1 p195 q195
         cases e195
         (try simp only [show (1 : Int).toNat = 1 from rfl, Nat.reduceMul, Nat.reduceEqDiff, Go.Addr.add, ↓reduceIte] at hx195_0)
         have qi195 : (1 < t190.length) = True := eq_true (by omega)
         (try rw [show ((1 : Int)).toNat = 1 from rfl] at hx195_0)
         replace p195 := eq_true p195
         replace q195 := eq_true q195
         go_wp2
         go_meet
         case rel => exact ⟨_, (true), (by first | rfl | (simp; done) | (simp [*]; done)), H', ⟨by have := HJ3.out; first | omega | exact Nat.le_refl _⟩, ⟨by (with_reducible repeat (first | apply Kd.R_alloc | apply Kd.R_drewN | apply Kd.R_drew)); exact HO194.out⟩, ⟨by (with_reducible repeat (first | refine blk_drewN ?_ _ | refine blk_drew ?_ | refine blk_alloc ?_ _)); exact BK177.out⟩, ⟨by (with_reducible repeat (first | refine blk_drewN ?_ _ | refine blk_drew ?_ | refine blk_alloc ?_ _)); exact BK185.out⟩, ⟨by repeat (first | (with_reducible first | exact HB.out | apply below_alloc | apply pw_below_drewN | apply below_drew1 | refine below_set ?_ GE177.out | refine below_set ?_ GE185.out) | exact HB.out)⟩⟩
       ·
        rw [if_neg c24] at H
        exact absurd H (by simp)
      ·
       rw [if_neg c23] at H
       have c23b0 : (t181 == 0) = false := beq_eq_false_iff_ne.mpr c23
       have c23b1 : (t181 != 0) = true := bne_iff_ne.mpr c23
       (first | rw [c23b0] | (simp only [i64_w, i32_w]; rw [c23b0]) | skip)
       have H' := Aside0.mk H
       clear H
       have hnb38 := NB185_177.out
       have hnc38 := NB177_185.out
       have hcz39_0 : w22.cell? ⟨gb185, 0, none⟩ = some (.int .u8 t178) := (blk_cell BK185.out 0).trans rfl
       have hcz39_1 : w22.cell? ⟨gb185, 1, none⟩ = some (.int .u8 t179) := (blk_cell BK185.out 1).trans rfl
       have hcz39_2 : w22.cell? ⟨gb185, 2, none⟩ = some (.int .u8 t180) := (blk_cell BK185.out 2).trans rfl
       have hcz39_3 : w22.cell? ⟨gb185, 3, none⟩ = some (.int .u8 t181) := (blk_cell BK185.out 3).trans rfl
       have hcz39_4 : w22.cell? ⟨gb185, 4, none⟩ = some (.int .u8 t182) := (blk_cell BK185.out 4).trans rfl
       have hfz39_0 := blk_frozen BK185.out 0
       have hfz39_1 := blk_frozen BK185.out 1
       have hfz39_2 := blk_frozen BK185.out 2
       have hfz39_3 := blk_frozen BK185.out 3
       have hfz39_4 := blk_frozen BK185.out 4
       go_wp2
       go_meet
       case rel => exact ⟨_, (true), (by first | rfl | (simp; done) | (simp [*]; done)), H', ⟨by have := HJ3.out; first | omega | exact Nat.le_refl _⟩, ⟨by (with_reducible repeat (first | apply Kd.R_alloc | apply Kd.R_drewN | apply Kd.R_drew)); exact HO194.out⟩, ⟨by (with_reducible repeat (first | refine blk_drewN ?_ _ | refine blk_drew ?_ | refine blk_alloc ?_ _)); exact BK177.out⟩, ⟨by (with_reducible repeat (first | refine blk_drewN ?_ _ | refine blk_drew ?_ | refine blk_alloc ?_ _)); exact BK185.out⟩, ⟨by repeat (first | (with_reducible first | exact HB.out | apply below_alloc | apply pw_below_drewN | apply below_drew1 | refine below_set ?_ GE177.out | refine below_set ?_ GE185.out) | exact HB.out)⟩⟩
     case rest =>
      clear HC18
      try clear c1
      try clear p1
      try clear q1
      try clear hx1
      try clear qi1
      try clear c2
      try clear p2
      try clear c3
      try clear c4
      try clear c8
      try clear c10
      try clear c10b0
      try clear c10b1
      try clear c12
      try clear c15
      try clear c15b0
      try clear c15b1
      try clear c17
      try clear c17b0
      try clear c17b1
      try clear p19
      try clear q19
      try clear hx19
      try clear qi19
      try clear c22
      try clear c23
      try clear c23b0
      try clear c23b1
      try clear c24
      try clear c24b0
      try clear c24b1
      try clear c25
      try clear c25b0
      try clear c25b1
      try clear c26
      try clear c26b0
      try clear c26b1
      try clear c27
      try clear c27b0
      try clear c27b1
      try clear c29
      try clear c32
      try clear c35
      try clear c38
      try clear hcz13_0
      try clear hcz13_1
      try clear hcz13_2
      try clear hcz13_3
      try clear hcz13_4
      try clear hcz30_0
      try clear hcz30_1
      try clear hcz30_2
      try clear hcz30_3
      try clear hcz30_4
      try clear hcz33_0
      try clear hcz33_1
      try clear hcz33_2
      try clear hcz33_3
      try clear hcz33_4
      try clear hcz36_0
      try clear hcz36_1
      try clear hcz36_2
      try clear hcz36_3
      try clear hcz36_4
      try clear hcz39_0
      try clear hcz39_1
      try clear hcz39_2
      try clear hcz39_3
      try clear hcz39_4
      try clear hcz9_0
      try clear hcz9_1
      try clear hcz9_2
      try clear hcz9_3
      try clear hcz9_4
      try clear hfz13_0
      try clear hfz13_1
      try clear hfz13_2
      try clear hfz13_3
      try clear hfz13_4
      try clear hfz30_0
      try clear hfz30_1
      try clear hfz30_2
      try clear hfz30_3
      try clear hfz30_4
      try clear hfz33_0
      try clear hfz33_1
      try clear hfz33_2
      try clear hfz33_3
      try clear hfz33_4
      try clear hfz36_0
      try clear hfz36_1
      try clear hfz36_2
      try clear hfz36_3
      try clear hfz36_4
      try clear hfz39_0
      try clear hfz39_1
      try clear hfz39_2
      try clear hfz39_3
      try clear hfz39_4
      try clear hfz9_0
      try clear hfz9_1
      try clear hfz9_2
      try clear hfz9_3
      try clear hfz9_4
      try clear hx195_0
      try clear hx196_0
      try clear p195
      try clear p196
      try clear p2
      try clear q195
      try clear q196
      obtain ⟨kq, x58_17, rfl, HA, HJ17, HO_9, BK177, BK185, HB⟩ := hcut
      cases kq with
      | zero => exact absurd HA.out (by simp [raps_Open.j1])
      | succ kj17 =>
       have H := HA.out
       clear HA
       simp only [raps_Open.j1] at H
       by_cases c40 : x58_17 = true
       ·
        subst c40
        have H1 : (some (0, false, false, false, 0, 3)) = some (r1, r2, r3, r4, r5, r6) := by rw [if_pos rfl] at H; exact H
        clear H
        have H := H1
        clear H1
        simp only [Option.some.injEq, Prod.mk.injEq] at H
        obtain ⟨rfl, rfl, rfl, rfl, rfl, rfl⟩ := H
        have hnb41 := NB177_185.out
        have hnc41 := NB185_177.out
        have hcz42_0 : wc.cell? ⟨gb177, 0, none⟩ = some (.int .u8 0) := (blk_cell BK177.out 0).trans rfl
        have hcz42_1 : wc.cell? ⟨gb177, 1, none⟩ = some (.bool false) := (blk_cell BK177.out 1).trans rfl
        have hcz42_2 : wc.cell? ⟨gb177, 2, none⟩ = some (.bool false) := (blk_cell BK177.out 2).trans rfl
        have hcz42_3 : wc.cell? ⟨gb177, 3, none⟩ = some (.bool false) := (blk_cell BK177.out 3).trans rfl
        have hcz42_4 : wc.cell? ⟨gb177, 4, none⟩ = some (.int .u64 0) := (blk_cell BK177.out 4).trans rfl
        have hfz42_0 := blk_frozen BK177.out 0
        have hfz42_1 := blk_frozen BK177.out 1
        have hfz42_2 := blk_frozen BK177.out 2
        have hfz42_3 := blk_frozen BK177.out 3
        have hfz42_4 := blk_frozen BK177.out 4
        go_wp2
        refine bodyPost_ret (results_ct rfl _ _ gb177 26 #[.int .u8 0, .bool false, .bool false, .bool false, .int .u64 0] (0, 0) _ rfl (by (with_reducible repeat (first | refine blk_drewN ?_ _ | refine blk_drew ?_ | refine blk_alloc ?_ _)); refine blk_put (cs := #[.int .u8 0, .bool false, .bool false, .bool false, .int .u64 0]) ?_ 4 _ rfl; (with_reducible repeat (first | refine blk_drewN ?_ _ | refine blk_drew ?_ | refine blk_alloc ?_ _)); refine blk_put (cs := #[.int .u8 0, .bool false, .bool false, .bool false, .int .u64 0]) ?_ 3 _ rfl; (with_reducible repeat (first | refine blk_drewN ?_ _ | refine blk_drew ?_ | refine blk_alloc ?_ _)); refine blk_put (cs := #[.int .u8 0, .bool false, .bool false, .bool false, .int .u64 0]) ?_ 2 _ rfl; (with_reducible repeat (first | refine blk_drewN ?_ _ | refine blk_drew ?_ | refine blk_alloc ?_ _)); refine blk_put (cs := #[.int .u8 0, .bool false, .bool false, .bool false, .int .u64 0]) ?_ 1 _ rfl; (with_reducible repeat (first | refine blk_drewN ?_ _ | refine blk_drew ?_ | refine blk_alloc ?_ _)); refine blk_put (cs := #[.int .u8 0, .bool false, .bool false, .bool false, .int .u64 0]) ?_ 0 _ rfl; (with_reducible repeat (first | refine blk_drewN ?_ _ | refine blk_drew ?_ | refine blk_alloc ?_ _)); exact BK177.out) Try.underlying26 rfl (by kernel_rfl)) rfl ?_
        exact ⟨by first | rfl | (simp [errW_none, errW_some] <;> rfl) | (simp [*, errW_none, errW_some] <;> rfl), by repeat (first | (with_reducible first | exact HB.out | apply below_alloc | apply pw_below_drewN | apply below_drew1 | refine below_set ?_ GE177.out | refine below_set ?_ GE185.out) | exact HB.out)⟩
       ·
        replace c40 := Bool.eq_false_iff.mpr c40
        subst c40
        have H1 : (if 0 < (t190.length : Int) then (if 2 < (t190.length : Int) then (if 3 < (t190.length : Int) then (if 4 < (t190.length : Int) then (if 6 < (t190.length : Int) then ((raps_Msg_wrong.f kj17 ((rd t190 0) % 256) ((rd t190 2) == 1) ((rd t190 3) == 1) ((rd t190 4) == 1) (rd t190 6)).bind fun t204 => (if t204 = 0 then (some ((rd t190 0) % 256, ((rd t190 2) == 1), ((rd t190 3) == 1), ((rd t190 4) == 1), rd t190 6, 0)) else (some (0, false, false, false, 0, t204)))) else (none)) else (none)) else (none)) else (none)) else (none)) = some (r1, r2, r3, r4, r5, r6) := by rw [if_neg (show ¬ (false = true) by decide)] at H; exact H
        clear H
        have H := H1
        clear H1
        by_cases c43 : 0 < (t190.length : Int)
        ·
         rw [if_pos c43] at H
         have c43b0 : decide (0 < (t190.length : Int)) = true := decide_eq_true c43
         have c43b1 : decide (0 < t190.length) = true := decide_eq_true (by omega)
         clear c43
         by_cases c44 : 2 < (t190.length : Int)
         ·
          rw [if_pos c44] at H
          have c44b0 : decide (2 < (t190.length : Int)) = true := decide_eq_true c44
          have c44b1 : decide (2 < t190.length) = true := decide_eq_true (by omega)
          clear c44
          by_cases c45 : 3 < (t190.length : Int)
          ·
           rw [if_pos c45] at H
           have c45b0 : decide (3 < (t190.length : Int)) = true := decide_eq_true c45
           have c45b1 : decide (3 < t190.length) = true := decide_eq_true (by omega)
           clear c45
           by_cases c46 : 4 < (t190.length : Int)
           ·
            rw [if_pos c46] at H
            have c46b0 : decide (4 < (t190.length : Int)) = true := decide_eq_true c46
            have c46b1 : decide (4 < t190.length) = true := decide_eq_true (by omega)
            clear c46
            by_cases c47 : 6 < (t190.length : Int)
            ·
             rw [if_pos c47] at H
             have c47b0 : decide (6 < (t190.length : Int)) = true := decide_eq_true c47
             have c47b1 : decide (6 < t190.length) = true := decide_eq_true (by omega)
             clear c47
             replace H := Option.bind_eq_some_iff.mp H
             obtain ⟨t204, A480, H⟩ := H
             try dsimp only at H
             have A48 := Aside0.mk A480
             clear A480
             by_cases c49 : t204 = 0
             ·
              rw [if_pos c49] at H
              have c49b0 : (t204 == 0) = true := beq_iff_eq.mpr c49
              have c49b1 : (t204 != 0) = false := bne_eq_false_iff_eq.mpr c49
              clear c49
              simp only [Option.some.injEq, Prod.mk.injEq] at H
              obtain ⟨rfl, rfl, rfl, rfl, rfl, rfl⟩ := H
              try go_wp2
              have n0_ := Aside0.mk (Kd.R_drew HO_9.out)
              have n1_ := Aside0.mk (blk_drew BK177.out)
              have n2_ := Aside0.mk (blk_drew BK185.out)
              have n3_ := Aside0.mk (below_drew1 HB.out)
              clear HO_9
              clear BK177
              clear BK185
              clear HB
              have HO_9 := n0_
              have BK177 := n1_
              have BK185 := n2_
              have HB := n3_
              clear n0_ n1_ n2_ n3_
              obtain ⟨Ao51, co51, eo51⟩ := Kd.R_slice HO_9.out
              (first | subst eo51 | (injection eo51 with f1_ f2_ f3_; have f4_ := f1_.symm; have f5_ := f3_.symm; clear f1_ f2_ f3_; subst f4_; subst f5_))
              have p198 : 0 ≤ (0 : Int) := (by omega)
              have q198 : 0 < (t190.length : Int) := of_decide_eq_true (by first | (with_reducible assumption) | assumption)
              obtain ⟨ad198, e198, hx198_0⟩ := Kd.at_int (Kd.R_reads' HO_9.out).2.2 0 p198 q198
              cases e198
              have qi198 : (0 < t190.length) = True := eq_true (by omega)
              (try rw [show ((0 : Int)).toNat = 0 from rfl] at hx198_0)
              (try rw [Addr.add_zero'] at hx198_0)
              replace p198 := eq_true p198
              replace q198 := eq_true q198
              have p199 : 0 ≤ (2 : Int) := (by omega)
              have q199 : 2 < (t190.length : Int) := of_decide_eq_true (by first | (with_reducible assumption) | assumption)
              obtain ⟨ad199, e199, hx199_0⟩ := Kd.at_int (Kd.R_reads' HO_9.out).2.2 2 p199 q199
              obtain rfl : ad198 = ad199 := (by injection e199)
              (try simp only [show (2 : Int).toNat = 2 from rfl, Nat.reduceMul, Nat.reduceEqDiff, Go.Addr.add, ↓reduceIte] at hx199_0)
              have qi199 : (2 < t190.length) = True := eq_true (by omega)
              (try rw [show ((2 : Int)).toNat = 2 from rfl] at hx199_0)
              replace p199 := eq_true p199
              replace q199 := eq_true q199
              have p200 : 0 ≤ (3 : Int) := (by omega)
              have q200 : 3 < (t190.length : Int) := of_decide_eq_true (by first | (with_reducible assumption) | assumption)
              obtain ⟨ad200, e200, hx200_0⟩ := Kd.at_int (Kd.R_reads' HO_9.out).2.2 3 p200 q200
              obtain rfl : ad198 = ad200 := (by injection e200)
              (try simp only [show (3 : Int).toNat = 3 from rfl, Nat.reduceMul, Nat.reduceEqDiff, Go.Addr.add, ↓reduceIte] at hx200_0)
              have qi200 : (3 < t190.length) = True := eq_true (by omega)
              (try rw [show ((3 : Int)).toNat = 3 from rfl] at hx200_0)
              replace p200 := eq_true p200
              replace q200 := eq_true q200
              have p201 : 0 ≤ (4 : Int) := (by omega)
              have q201 : 4 < (t190.length : Int) := of_decide_eq_true (by first | (with_reducible assumption) | assumption)
              obtain ⟨ad201, e201, hx201_0⟩ := Kd.at_int (Kd.R_reads' HO_9.out).2.2 4 p201 q201
              obtain rfl : ad198 = ad201 := (by injection e201)
              (try simp only [show (4 : Int).toNat = 4 from rfl, Nat.reduceMul, Nat.reduceEqDiff, Go.Addr.add, ↓reduceIte] at hx201_0)
              have qi201 : (4 < t190.length) = True := eq_true (by omega)
              (try rw [show ((4 : Int)).toNat = 4 from rfl] at hx201_0)
              replace p201 := eq_true p201
              replace q201 := eq_true q201
              have p202 : 0 ≤ (6 : Int) := (by omega)
              have q202 : 6 < (t190.length : Int) := of_decide_eq_true (by first | (with_reducible assumption) | assumption)
              obtain ⟨ad202, e202, hx202_0⟩ := Kd.at_int (Kd.R_reads' HO_9.out).2.2 6 p202 q202
              obtain rfl : ad198 = ad202 := (by injection e202)
              (try simp only [show (6 : Int).toNat = 6 from rfl, Nat.reduceMul, Nat.reduceEqDiff, Go.Addr.add, ↓reduceIte] at hx202_0)
              have qi202 : (6 < t190.length) = True := eq_true (by omega)
              (try rw [show ((6 : Int)).toNat = 6 from rfl] at hx202_0)
              replace p202 := eq_true p202
              replace q202 := eq_true q202
              refine start_ (n := 22) (S := fun w' => w'.cell? ad198 = some (.int .u64 (rd t190 0)) ∧ w'.cell? ⟨ad198.block, ad198.off + 2, none⟩ = some (.int .u64 (rd t190 2)) ∧ w'.cell? ⟨ad198.block, ad198.off + 3, none⟩ = some (.int .u64 (rd t190 3)) ∧ w'.cell? ⟨ad198.block, ad198.off + 4, none⟩ = some (.int .u64 (rd t190 4)) ∧ w'.cell? ⟨ad198.block, ad198.off + 6, none⟩ = some (.int .u64 (rd t190 6))) (ds := []) #[false, false, false, false, false, false, false, false, false, false, false, false, false, false, false, false, false, false, false, false, false, false] (by kernel_rfl) rfl rfl ⟨hx198_0, hx199_0, hx200_0, hx201_0, hx202_0⟩ (fun hHeld => ?_); refine with_tabW raps_Open.tab11 raps_Open.bits11 (fun HT_ HW_ => ?_)
              generalize wc.drew = w50 at HO_9 BK177 BK185 HB hx198_0 hx199_0 hx200_0 hx201_0 hx202_0 hHeld ⊢
              refine pure_ (i := 0) (N := some 60) (v := ?_) (a' := ?_) #[true, false, false, false, false, false, false, false, false, false, false, false, false, false, false, false, false, false, false, false, false, false] rfl rfl (any_of HT_.out (by kernel_rfl)) (fun _ _ _ h => h) (Or.inl ⟨by rfl, ?_⟩) ?_ ?_
              rotate_left
              ·
               intro w'
               go_simp
               with_reducible rfl
              rotate_left
              ·
               simp only [Act.put, List.setIfInBounds_toArray, List.set_cons_zero, List.set_cons_succ, i64_w, i32_w]
               rfl
              refine pure_ (i := 1) (N := some 61) (v := ?_) (a' := ?_) #[true, true, false, false, false, false, false, false, false, false, false, false, false, false, false, false, false, false, false, false, false, false] rfl rfl (any_of HT_.out (by kernel_rfl)) (fun _ _ _ h => h) (Or.inl ⟨by rfl, ?_⟩) ?_ ?_
              rotate_left
              ·
               intro w'
               go_simp
               with_reducible rfl
              rotate_left
              ·
               simp only [Act.put, List.setIfInBounds_toArray, List.set_cons_zero, List.set_cons_succ, i64_w, i32_w]
               rfl
              refine pure_ (i := 4) (N := some 64) (v := ?_) (a' := ?_) #[true, true, false, false, true, false, false, false, false, false, false, false, false, false, false, false, false, false, false, false, false, false] rfl rfl (any_of HT_.out (by kernel_rfl)) (fun _ _ _ h => h) (Or.inl ⟨by rfl, ?_⟩) ?_ ?_
              rotate_left
              ·
               intro w'
               go_simp
               with_reducible rfl
              rotate_left
              ·
               simp only [Act.put, List.setIfInBounds_toArray, List.set_cons_zero, List.set_cons_succ, i64_w, i32_w]
               rfl
              refine pure_ (i := 5) (N := some 65) (v := ?_) (a' := ?_) #[true, true, false, false, true, true, false, false, false, false, false, false, false, false, false, false, false, false, false, false, false, false] rfl rfl (any_of HT_.out (by kernel_rfl)) (fun _ _ _ h => h) (Or.inl ⟨by rfl, ?_⟩) ?_ ?_
              rotate_left
              ·
               intro w'
               go_simp
               with_reducible rfl
              rotate_left
              ·
               simp only [Act.put, List.setIfInBounds_toArray, List.set_cons_zero, List.set_cons_succ, i64_w, i32_w]
               rfl
              refine pure_ (i := 8) (N := some 68) (v := ?_) (a' := ?_) #[true, true, false, false, true, true, false, false, true, false, false, false, false, false, false, false, false, false, false, false, false, false] rfl rfl (any_of HT_.out (by kernel_rfl)) (fun _ _ _ h => h) (Or.inl ⟨by rfl, ?_⟩) ?_ ?_
              rotate_left
              ·
               intro w'
               go_simp
               with_reducible rfl
              rotate_left
              ·
               simp only [Act.put, List.setIfInBounds_toArray, List.set_cons_zero, List.set_cons_succ, i64_w, i32_w]
               rfl
              refine pure_ (i := 9) (N := some 69) (v := ?_) (a' := ?_) #[true, true, false, false, true, true, false, false, true, true, false, false, false, false, false, false, false, false, false, false, false, false] rfl rfl (any_of HT_.out (by kernel_rfl)) (fun _ _ _ h => h) (Or.inl ⟨by rfl, ?_⟩) ?_ ?_
              rotate_left
              ·
               intro w'
               go_simp
               with_reducible rfl
              rotate_left
              ·
               simp only [Act.put, List.setIfInBounds_toArray, List.set_cons_zero, List.set_cons_succ, i64_w, i32_w]
               rfl
              refine pure_ (i := 12) (N := some 72) (v := ?_) (a' := ?_) #[true, true, false, false, true, true, false, false, true, true, false, false, true, false, false, false, false, false, false, false, false, false] rfl rfl (any_of HT_.out (by kernel_rfl)) (fun _ _ _ h => h) (Or.inl ⟨by rfl, ?_⟩) ?_ ?_
              rotate_left
              ·
               intro w'
               go_simp
               with_reducible rfl
              rotate_left
              ·
               simp only [Act.put, List.setIfInBounds_toArray, List.set_cons_zero, List.set_cons_succ, i64_w, i32_w]
               rfl
              refine pure_ (i := 13) (N := some 73) (v := ?_) (a' := ?_) #[true, true, false, false, true, true, false, false, true, true, false, false, true, true, false, false, false, false, false, false, false, false] rfl rfl (any_of HT_.out (by kernel_rfl)) (fun _ _ _ h => h) (Or.inl ⟨by rfl, ?_⟩) ?_ ?_
              rotate_left
              ·
               intro w'
               go_simp
               with_reducible rfl
              rotate_left
              ·
               simp only [Act.put, List.setIfInBounds_toArray, List.set_cons_zero, List.set_cons_succ, i64_w, i32_w]
               rfl
              refine pure_ (i := 16) (N := some 76) (v := ?_) (a' := ?_) #[true, true, false, false, true, true, false, false, true, true, false, false, true, true, false, false, true, false, false, false, false, false] rfl rfl (any_of HT_.out (by kernel_rfl)) (fun _ _ _ h => h) (Or.inl ⟨by rfl, ?_⟩) ?_ ?_
              rotate_left
              ·
               intro w'
               go_simp
               with_reducible rfl
              rotate_left
              ·
               simp only [Act.put, List.setIfInBounds_toArray, List.set_cons_zero, List.set_cons_succ, i64_w, i32_w]
               rfl
              refine pure_ (i := 17) (N := some 77) (v := ?_) (a' := ?_) #[true, true, false, false, true, true, false, false, true, true, false, false, true, true, false, false, true, true, false, false, false, false] rfl rfl (any_of HT_.out (by kernel_rfl)) (fun _ _ _ h => h) (Or.inl ⟨by rfl, ?_⟩) ?_ ?_
              rotate_left
              ·
               intro w'
               go_simp
               with_reducible rfl
              rotate_left
              ·
               simp only [Act.put, List.setIfInBounds_toArray, List.set_cons_zero, List.set_cons_succ, i64_w, i32_w]
               rfl
              refine take_ (i := 2) (N := some 62) (v := ?_) (a' := ?_) #[true, true, true, false, true, true, false, false, true, true, false, false, true, true, false, false, true, true, false, false, false, false] rfl rfl (take_ofW HT_.out HW_.out (by kernel_rfl)) (fun _ _ _ h => h) (Or.inl ⟨by rfl, ?_⟩) hHeld ?_ ?_
              rotate_left
              ·
               rintro w' ⟨s0, s1, s2, s3, s4⟩
               go_simp
               with_reducible rfl
              rotate_left
              ·
               simp only [Act.put, List.setIfInBounds_toArray, List.set_cons_zero, List.set_cons_succ, i64_w, i32_w]
               rfl
              refine pure_ (i := 3) (N := some 63) (v := ?_) (a' := ?_) #[true, true, true, true, true, true, false, false, true, true, false, false, true, true, false, false, true, true, false, false, false, false] rfl rfl (any_of HT_.out (by kernel_rfl)) (fun _ _ _ h => h) (Or.inl ⟨by rfl, ?_⟩) ?_ ?_
              rotate_left
              ·
               intro w'
               go_simp
               with_reducible rfl
              rotate_left
              ·
               simp only [Act.put, List.setIfInBounds_toArray, List.set_cons_zero, List.set_cons_succ, i64_w, i32_w]
               rfl
              refine take_ (i := 6) (N := some 66) (v := ?_) (a' := ?_) #[true, true, true, true, true, true, true, false, true, true, false, false, true, true, false, false, true, true, false, false, false, false] rfl rfl (take_ofW HT_.out HW_.out (by kernel_rfl)) (fun _ _ _ h => h) (Or.inl ⟨by rfl, ?_⟩) hHeld ?_ ?_
              rotate_left
              ·
               rintro w' ⟨s0, s1, s2, s3, s4⟩
               go_simp
               with_reducible rfl
              rotate_left
              ·
               simp only [Act.put, List.setIfInBounds_toArray, List.set_cons_zero, List.set_cons_succ, i64_w, i32_w]
               rfl
              refine pure_ (i := 7) (N := some 67) (v := ?_) (a' := ?_) #[true, true, true, true, true, true, true, true, true, true, false, false, true, true, false, false, true, true, false, false, false, false] rfl rfl (any_of HT_.out (by kernel_rfl)) (fun _ _ _ h => h) (Or.inl ⟨by rfl, ?_⟩) ?_ ?_
              rotate_left
              ·
               intro w'
               go_simp
               with_reducible rfl
              rotate_left
              ·
               simp only [Act.put, List.setIfInBounds_toArray, List.set_cons_zero, List.set_cons_succ, i64_w, i32_w]
               rfl
              refine take_ (i := 10) (N := some 70) (v := ?_) (a' := ?_) #[true, true, true, true, true, true, true, true, true, true, true, false, true, true, false, false, true, true, false, false, false, false] rfl rfl (take_ofW HT_.out HW_.out (by kernel_rfl)) (fun _ _ _ h => h) (Or.inl ⟨by rfl, ?_⟩) hHeld ?_ ?_
              rotate_left
              ·
               rintro w' ⟨s0, s1, s2, s3, s4⟩
               go_simp
               with_reducible rfl
              rotate_left
              ·
               simp only [Act.put, List.setIfInBounds_toArray, List.set_cons_zero, List.set_cons_succ, i64_w, i32_w]
               rfl
              refine pure_ (i := 11) (N := some 71) (v := ?_) (a' := ?_) #[true, true, true, true, true, true, true, true, true, true, true, true, true, true, false, false, true, true, false, false, false, false] rfl rfl (any_of HT_.out (by kernel_rfl)) (fun _ _ _ h => h) (Or.inl ⟨by rfl, ?_⟩) ?_ ?_
              rotate_left
              ·
               intro w'
               go_simp
               with_reducible rfl
              rotate_left
              ·
               simp only [Act.put, List.setIfInBounds_toArray, List.set_cons_zero, List.set_cons_succ, i64_w, i32_w]
               rfl
              refine take_ (i := 14) (N := some 74) (v := ?_) (a' := ?_) #[true, true, true, true, true, true, true, true, true, true, true, true, true, true, true, false, true, true, false, false, false, false] rfl rfl (take_ofW HT_.out HW_.out (by kernel_rfl)) (fun _ _ _ h => h) (Or.inl ⟨by rfl, ?_⟩) hHeld ?_ ?_
              rotate_left
              ·
               rintro w' ⟨s0, s1, s2, s3, s4⟩
               go_simp
               with_reducible rfl
              rotate_left
              ·
               simp only [Act.put, List.setIfInBounds_toArray, List.set_cons_zero, List.set_cons_succ, i64_w, i32_w]
               rfl
              refine pure_ (i := 15) (N := some 75) (v := ?_) (a' := ?_) #[true, true, true, true, true, true, true, true, true, true, true, true, true, true, true, true, true, true, false, false, false, false] rfl rfl (any_of HT_.out (by kernel_rfl)) (fun _ _ _ h => h) (Or.inl ⟨by rfl, ?_⟩) ?_ ?_
              rotate_left
              ·
               intro w'
               go_simp
               with_reducible rfl
              rotate_left
              ·
               simp only [Act.put, List.setIfInBounds_toArray, List.set_cons_zero, List.set_cons_succ, i64_w, i32_w]
               rfl
              refine take_ (i := 18) (N := some 78) (v := ?_) (a' := ?_) #[true, true, true, true, true, true, true, true, true, true, true, true, true, true, true, true, true, true, true, false, false, false] rfl rfl (take_ofW HT_.out HW_.out (by kernel_rfl)) (fun _ _ _ h => h) (Or.inl ⟨by rfl, ?_⟩) hHeld ?_ ?_
              rotate_left
              ·
               rintro w' ⟨s0, s1, s2, s3, s4⟩
               go_simp
               with_reducible rfl
              rotate_left
              ·
               simp only [Act.put, List.setIfInBounds_toArray, List.set_cons_zero, List.set_cons_succ, i64_w, i32_w]
               rfl
              refine pure_ (i := 19) (N := some 79) (v := ?_) (a' := ?_) #[true, true, true, true, true, true, true, true, true, true, true, true, true, true, true, true, true, true, true, true, false, false] rfl rfl (any_of HT_.out (by kernel_rfl)) (fun _ _ _ h => h) (Or.inl ⟨by rfl, ?_⟩) ?_ ?_
              rotate_left
              ·
               intro w'
               go_simp
               with_reducible rfl
              rotate_left
              ·
               simp only [Act.put, List.setIfInBounds_toArray, List.set_cons_zero, List.set_cons_succ, i64_w, i32_w]
               rfl
              refine one_ (i := 20) (N := some 11) #[true, true, true, true, true, true, true, true, true, true, true, true, true, true, true, true, true, true, true, true, true, false] rfl rfl (one_of HT_.out (by kernel_rfl)) (by decide) (fun K hK => ?_)
              refine box_step ?hg (N := 11) ?hd (cs := #[.int .u8 0, .bool false, .bool false, .bool false, .int .u64 0]) (t := 26) ?hr ?_; (case hd => rfl); (case hg => rfl); (case hr => first | (go_simp; done) | (go_simp; rfl))
              intro gb203 hg w52 hbox hb
              have HS0_ := (hb.cell (World.block_lt_of_cell? _ _ (hHeld.1))).trans (hHeld.1)
              have HS1_ := (hb.cell (World.block_lt_of_cell? _ _ (hHeld.2.1))).trans (hHeld.2.1)
              have HS2_ := (hb.cell (World.block_lt_of_cell? _ _ (hHeld.2.2.1))).trans (hHeld.2.2.1)
              have HS3_ := (hb.cell (World.block_lt_of_cell? _ _ (hHeld.2.2.2.1))).trans (hHeld.2.2.2.1)
              have HS4_ := (hb.cell (World.block_lt_of_cell? _ _ (hHeld.2.2.2.2))).trans (hHeld.2.2.2.2)
              have n0_ := Aside0.mk (Kd.R_below (by (with_reducible repeat (first | apply Kd.R_alloc | apply Kd.R_drewN | apply Kd.R_drew)); exact HO_9.out) hb)
              have n1_ := Aside0.mk (blk_below (g := gb177) (o := .cells #[.int .u8 0, .bool false, .bool false, .bool false, .int .u64 0] 26 (0, 0)) (by (with_reducible repeat (first | refine blk_drewN ?_ _ | refine blk_drew ?_ | refine blk_alloc ?_ _)); exact BK177.out) hb)
              have n2_ := Aside0.mk (blk_below (g := gb185) (o := .cells #[.int .u8 t178, .int .u8 t179, .int .u8 t180, .int .u8 t181, .int .u8 t182] 82 (0, 0)) (by (with_reducible repeat (first | refine blk_drewN ?_ _ | refine blk_drew ?_ | refine blk_alloc ?_ _)); exact BK185.out) hb)
              have n3_ := Aside0.mk (below_step (by repeat (first | (with_reducible first | exact HB.out | apply below_alloc | apply pw_below_drewN | apply below_drew1 | refine below_set ?_ GE177.out | refine below_set ?_ GE185.out) | exact HB.out)) hb)
              have n4_ := Aside0.mk (hbox)
              have n5_ := Aside0.mk ((by rw [hg]; exact (below_size (by repeat (first | (with_reducible first | exact HB.out | apply below_alloc | apply pw_below_drewN | apply below_drew1 | refine below_set ?_ GE177.out | refine below_set ?_ GE185.out) | exact HB.out))) : w.heap.size ≤ gb203))
              have n6_ := Aside0.mk ((by rw [hg]; exact (below_size (by repeat (first | (with_reducible first | exact HB.out | apply below_alloc | apply pw_below_drewN | apply below_drew1 | refine below_set ?_ GE177.out | refine below_set ?_ GE185.out) | exact HB.out))) : w.heap.size ≤ gb203))
              have n7_ := Aside0.mk ((by rw [hg]; exact Nat.ne_of_lt (blk_lt (g := gb177) (o := .cells #[.int .u8 0, .bool false, .bool false, .bool false, .int .u64 0] 26 (0, 0)) (by (with_reducible repeat (first | refine blk_drewN ?_ _ | refine blk_drew ?_ | refine blk_alloc ?_ _)); exact BK177.out)) : gb177 ≠ gb203))
              have n8_ := Aside0.mk ((by rw [hg]; exact Nat.ne_of_gt (blk_lt (g := gb177) (o := .cells #[.int .u8 0, .bool false, .bool false, .bool false, .int .u64 0] 26 (0, 0)) (by (with_reducible repeat (first | refine blk_drewN ?_ _ | refine blk_drew ?_ | refine blk_alloc ?_ _)); exact BK177.out)) : gb203 ≠ gb177))
              have n9_ := Aside0.mk ((by rw [hg]; exact Nat.ne_of_lt (blk_lt (g := gb185) (o := .cells #[.int .u8 t178, .int .u8 t179, .int .u8 t180, .int .u8 t181, .int .u8 t182] 82 (0, 0)) (by (with_reducible repeat (first | refine blk_drewN ?_ _ | refine blk_drew ?_ | refine blk_alloc ?_ _)); exact BK185.out)) : gb185 ≠ gb203))
              have n10_ := Aside0.mk ((by rw [hg]; exact Nat.ne_of_gt (blk_lt (g := gb185) (o := .cells #[.int .u8 t178, .int .u8 t179, .int .u8 t180, .int .u8 t181, .int .u8 t182] 82 (0, 0)) (by (with_reducible repeat (first | refine blk_drewN ?_ _ | refine blk_drew ?_ | refine blk_alloc ?_ _)); exact BK185.out)) : gb203 ≠ gb185))
              clear HO_9
              clear BK177
              clear BK185
              clear HB
              have HO_9 := n0_
              have BK177 := n1_
              have BK185 := n2_
              have HB := n3_
              have BK203 := n4_
              have GW203 := n5_
              have GE203 := n6_
              have NB177_203 := n7_
              have NB203_177 := n8_
              have NB185_203 := n9_
              have NB203_185 := n10_
              clear n0_ n1_ n2_ n3_ n4_ n5_ n6_ n7_ n8_ n9_ n10_
              clear hb hbox hg
              refine hK.out _ _ ⟨HS0_, HS1_, HS2_, HS3_, HS4_⟩ (fun hHeld => ?_)
              clear hK K
              refine norm_ (a' := ?_) ?_ ?_
              rotate_left
              ·
               show Act.put _ (some 11) _ = _
               simp only [Act.put, List.setIfInBounds_toArray, List.set_cons_zero, List.set_cons_succ, i64_w, i32_w]
               rfl
              refine one_ (i := 21) (N := none) #[true, true, true, true, true, true, true, true, true, true, true, true, true, true, true, true, true, true, true, true, true, true] rfl rfl (one_of HT_.out (by kernel_rfl)) (by decide) (fun K hK => ?_)
              have hs53 : w52.cell? ⟨gb203, 0, none⟩ = some (.int .u8 0) := (blk_cell BK203.out 0).trans rfl
              have hfs53 := blk_frozen BK203.out 0
              have hns53_0 := NB177_203.out
              have hns53_1 := NB185_203.out
              have hms53_0 := NB203_177.out
              have hms53_1 := NB203_185.out
              have hs54 : w52.cell? ⟨gb203, 1, none⟩ = some (.bool false) := (blk_cell BK203.out 1).trans rfl
              have hfs54 := blk_frozen BK203.out 1
              have hns54_0 := NB177_203.out
              have hns54_1 := NB185_203.out
              have hms54_0 := NB203_177.out
              have hms54_1 := NB203_185.out
              have hs55 : w52.cell? ⟨gb203, 2, none⟩ = some (.bool false) := (blk_cell BK203.out 2).trans rfl
              have hfs55 := blk_frozen BK203.out 2
              have hns55_0 := NB177_203.out
              have hns55_1 := NB185_203.out
              have hms55_0 := NB203_177.out
              have hms55_1 := NB203_185.out
              have hs56 : w52.cell? ⟨gb203, 3, none⟩ = some (.bool false) := (blk_cell BK203.out 3).trans rfl
              have hfs56 := blk_frozen BK203.out 3
              have hns56_0 := NB177_203.out
              have hns56_1 := NB185_203.out
              have hms56_0 := NB203_177.out
              have hms56_1 := NB203_185.out
              have hs57 : w52.cell? ⟨gb203, 4, none⟩ = some (.int .u64 0) := (blk_cell BK203.out 4).trans rfl
              have hfs57 := blk_frozen BK203.out 4
              have hns57_0 := NB177_203.out
              have hns57_1 := NB185_203.out
              have hms57_0 := NB203_177.out
              have hms57_1 := NB203_185.out
              refine skip_ (w1 := ?_) (by rfl) rfl ?_ ?_
              rotate_left
              ·
               go_simp
               rfl
              refine hK.out _ _ ⟨?hh0_, ?hh1_, ?hh2_, ?hh3_, ?hh4_⟩ (fun hHeld => ?_)
              case hh0_ =>
               have hfF_ : ∀ (W_ : World) (a_ : Addr) (i_ : Nat) (u_ : Value), a_.block ≠ gb203 → (W_.setCell ⟨gb203, i_, none⟩ u_).cell? a_ = W_.cell? a_ := fun W_ a_ i_ u_ h_ => cell_far (p := ⟨gb203, i_, none⟩) h_ u_
               have hqF_ := (Kd.own_blk (Kd.R_ne HO_9.out BK203.out (by decide)))
               simp only [hfF_, ne_eq, hqF_, not_false_eq_true]
               exact hHeld.1
              case hh1_ =>
               have hfF_ : ∀ (W_ : World) (a_ : Addr) (i_ : Nat) (u_ : Value), a_.block ≠ gb203 → (W_.setCell ⟨gb203, i_, none⟩ u_).cell? a_ = W_.cell? a_ := fun W_ a_ i_ u_ h_ => cell_far (p := ⟨gb203, i_, none⟩) h_ u_
               have hqF_ := (Kd.own_blk (Kd.R_ne HO_9.out BK203.out (by decide)))
               simp only [hfF_, ne_eq, hqF_, not_false_eq_true]
               exact hHeld.2.1
              case hh2_ =>
               have hfF_ : ∀ (W_ : World) (a_ : Addr) (i_ : Nat) (u_ : Value), a_.block ≠ gb203 → (W_.setCell ⟨gb203, i_, none⟩ u_).cell? a_ = W_.cell? a_ := fun W_ a_ i_ u_ h_ => cell_far (p := ⟨gb203, i_, none⟩) h_ u_
               have hqF_ := (Kd.own_blk (Kd.R_ne HO_9.out BK203.out (by decide)))
               simp only [hfF_, ne_eq, hqF_, not_false_eq_true]
               exact hHeld.2.2.1
              case hh3_ =>
               have hfF_ : ∀ (W_ : World) (a_ : Addr) (i_ : Nat) (u_ : Value), a_.block ≠ gb203 → (W_.setCell ⟨gb203, i_, none⟩ u_).cell? a_ = W_.cell? a_ := fun W_ a_ i_ u_ h_ => cell_far (p := ⟨gb203, i_, none⟩) h_ u_
               have hqF_ := (Kd.own_blk (Kd.R_ne HO_9.out BK203.out (by decide)))
               simp only [hfF_, ne_eq, hqF_, not_false_eq_true]
               exact hHeld.2.2.2.1
              case hh4_ =>
               have hfF_ : ∀ (W_ : World) (a_ : Addr) (i_ : Nat) (u_ : Value), a_.block ≠ gb203 → (W_.setCell ⟨gb203, i_, none⟩ u_).cell? a_ = W_.cell? a_ := fun W_ a_ i_ u_ h_ => cell_far (p := ⟨gb203, i_, none⟩) h_ u_
               have hqF_ := (Kd.own_blk (Kd.R_ne HO_9.out BK203.out (by decide)))
               simp only [hfF_, ne_eq, hqF_, not_false_eq_true]
               exact hHeld.2.2.2.2
              clear hK K
              refine done_ (done_of HT_.out (by kernel_rfl)) ?_
              have hnb58 := NB203_177.out
              have hnc58 := NB177_203.out
              have hnb59 := NB203_185.out
              have hnc59 := NB185_203.out
              have hcz60_0 : w52.cell? ⟨gb203, 0, none⟩ = some (.int .u8 0) := (blk_cell BK203.out 0).trans rfl
              have hcz60_1 : w52.cell? ⟨gb203, 1, none⟩ = some (.bool false) := (blk_cell BK203.out 1).trans rfl
              have hcz60_2 : w52.cell? ⟨gb203, 2, none⟩ = some (.bool false) := (blk_cell BK203.out 2).trans rfl
              have hcz60_3 : w52.cell? ⟨gb203, 3, none⟩ = some (.bool false) := (blk_cell BK203.out 3).trans rfl
              have hcz60_4 : w52.cell? ⟨gb203, 4, none⟩ = some (.int .u64 0) := (blk_cell BK203.out 4).trans rfl
              have hfz60_0 := blk_frozen BK203.out 0
              have hfz60_1 := blk_frozen BK203.out 1
              have hfz60_2 := blk_frozen BK203.out 2
              have hfz60_3 := blk_frozen BK203.out 3
              have hfz60_4 := blk_frozen BK203.out 4
              try go_wp2_with (first | ((with_reducible refine gate_callee (f := 46) rfl ?_); refine goesL_ (some 81) rfl rfl Try.func46 (by kernel_rfl) rfl #[.agg #[.int .u8 ((rd t190 0) % 256), .bool ((rd t190 2) == 1), .bool ((rd t190 3) == 1), .bool ((rd t190 4) == 1), .int .u64 (rd t190 6)]] rfl (by (try simp only [List.map_toArray, List.map_cons, List.map_nil]); first | done | rfl | (simp only [List.length_drop, List.length_take]; rfl)) ?_; (with_reducible refine (raps_Msg_wrong.calls kj17 ((rd t190 0) % 256) ((rd t190 2) == 1) ((rd t190 3) == 1) ((rd t190 4) == 1) (rd t190 6) t204 _ A48.out).mono ?_); rintro e w61 ⟨rfl, hb⟩; refine ⟨_, rfl, ?_⟩; have n0_ := Aside0.mk (Kd.R_below (by (with_reducible repeat (first | apply Kd.R_alloc | apply Kd.R_drewN | apply Kd.R_drew)); exact (Kd.R_mono (Kd.R_far (p := ⟨gb203, 4, none⟩) (Kd.R_far (p := ⟨gb203, 3, none⟩) (Kd.R_far (p := ⟨gb203, 2, none⟩) (Kd.R_far (p := ⟨gb203, 1, none⟩) (Kd.R_far (p := ⟨gb203, 0, none⟩) (Kd.R_types HO_9.out BK203.out (by decide)) (fun _ hk => hk.2) (.int .u8 ((rd t190 0) % 256))) (fun _ hk => hk.2) (.bool ((rd t190 2) == 1))) (fun _ hk => hk.2) (.bool ((rd t190 3) == 1))) (fun _ hk => hk.2) (.bool ((rd t190 4) == 1))) (fun _ hk => hk.2) (.int .u64 (rd t190 6))) (fun _ h_ => h_.1))) hb); have n1_ := Aside0.mk (blk_below (g := gb177) (o := .cells #[.int .u8 0, .bool false, .bool false, .bool false, .int .u64 0] 26 (0, 0)) (by (with_reducible repeat (first | refine blk_drewN ?_ _ | refine blk_drew ?_ | refine blk_alloc ?_ _)); refine blk_far ?_ NB177_203.out _; (with_reducible repeat (first | refine blk_drewN ?_ _ | refine blk_drew ?_ | refine blk_alloc ?_ _)); refine blk_far ?_ NB177_203.out _; (with_reducible repeat (first | refine blk_drewN ?_ _ | refine blk_drew ?_ | refine blk_alloc ?_ _)); refine blk_far ?_ NB177_203.out _; (with_reducible repeat (first | refine blk_drewN ?_ _ | refine blk_drew ?_ | refine blk_alloc ?_ _)); refine blk_far ?_ NB177_203.out _; (with_reducible repeat (first | refine blk_drewN ?_ _ | refine blk_drew ?_ | refine blk_alloc ?_ _)); refine blk_far ?_ NB177_203.out _; (with_reducible repeat (first | refine blk_drewN ?_ _ | refine blk_drew ?_ | refine blk_alloc ?_ _)); exact BK177.out) hb); have n2_ := Aside0.mk (blk_below (g := gb185) (o := .cells #[.int .u8 t178, .int .u8 t179, .int .u8 t180, .int .u8 t181, .int .u8 t182] 82 (0, 0)) (by (with_reducible repeat (first | refine blk_drewN ?_ _ | refine blk_drew ?_ | refine blk_alloc ?_ _)); refine blk_far ?_ NB185_203.out _; (with_reducible repeat (first | refine blk_drewN ?_ _ | refine blk_drew ?_ | refine blk_alloc ?_ _)); refine blk_far ?_ NB185_203.out _; (with_reducible repeat (first | refine blk_drewN ?_ _ | refine blk_drew ?_ | refine blk_alloc ?_ _)); refine blk_far ?_ NB185_203.out _; (with_reducible repeat (first | refine blk_drewN ?_ _ | refine blk_drew ?_ | refine blk_alloc ?_ _)); refine blk_far ?_ NB185_203.out _; (with_reducible repeat (first | refine blk_drewN ?_ _ | refine blk_drew ?_ | refine blk_alloc ?_ _)); refine blk_far ?_ NB185_203.out _; (with_reducible repeat (first | refine blk_drewN ?_ _ | refine blk_drew ?_ | refine blk_alloc ?_ _)); exact BK185.out) hb); have n3_ := Aside0.mk (blk_below (g := gb203) (o := .cells #[.int .u8 ((rd t190 0) % 256), .bool ((rd t190 2) == 1), .bool ((rd t190 3) == 1), .bool ((rd t190 4) == 1), .int .u64 (rd t190 6)] 26 (0, 0)) (by (with_reducible repeat (first | refine blk_drewN ?_ _ | refine blk_drew ?_ | refine blk_alloc ?_ _)); refine blk_put (cs := #[.int .u8 ((rd t190 0) % 256), .bool ((rd t190 2) == 1), .bool ((rd t190 3) == 1), .bool ((rd t190 4) == 1), .int .u64 0]) ?_ 4 _ rfl; (with_reducible repeat (first | refine blk_drewN ?_ _ | refine blk_drew ?_ | refine blk_alloc ?_ _)); refine blk_put (cs := #[.int .u8 ((rd t190 0) % 256), .bool ((rd t190 2) == 1), .bool ((rd t190 3) == 1), .bool false, .int .u64 0]) ?_ 3 _ rfl; (with_reducible repeat (first | refine blk_drewN ?_ _ | refine blk_drew ?_ | refine blk_alloc ?_ _)); refine blk_put (cs := #[.int .u8 ((rd t190 0) % 256), .bool ((rd t190 2) == 1), .bool false, .bool false, .int .u64 0]) ?_ 2 _ rfl; (with_reducible repeat (first | refine blk_drewN ?_ _ | refine blk_drew ?_ | refine blk_alloc ?_ _)); refine blk_put (cs := #[.int .u8 ((rd t190 0) % 256), .bool false, .bool false, .bool false, .int .u64 0]) ?_ 1 _ rfl; (with_reducible repeat (first | refine blk_drewN ?_ _ | refine blk_drew ?_ | refine blk_alloc ?_ _)); refine blk_put (cs := #[.int .u8 0, .bool false, .bool false, .bool false, .int .u64 0]) ?_ 0 _ rfl; (with_reducible repeat (first | refine blk_drewN ?_ _ | refine blk_drew ?_ | refine blk_alloc ?_ _)); exact BK203.out) hb); have n4_ := Aside0.mk (below_step (by repeat (first | (with_reducible first | exact HB.out | apply below_alloc | apply pw_below_drewN | apply below_drew1 | refine below_set ?_ GE177.out | refine below_set ?_ GE185.out | refine below_set ?_ GE203.out) | exact HB.out)) hb); clear HO_9; clear BK177; clear BK185; clear BK203; clear HB; have HO_9 := n0_; have BK177 := n1_; have BK185 := n2_; have BK203 := n3_; have HB := n4_; clear n0_ n1_ n2_ n3_ n4_; (try clear hb); (try clear hb2); (try clear hk); (try clear hi); have hcz62_0 : w61.cell? ⟨gb203, 0, none⟩ = some (.int .u8 ((rd t190 0) % 256)) := (blk_cell BK203.out 0).trans rfl; have hcz62_1 : w61.cell? ⟨gb203, 1, none⟩ = some (.bool ((rd t190 2) == 1)) := (blk_cell BK203.out 1).trans rfl; have hcz62_2 : w61.cell? ⟨gb203, 2, none⟩ = some (.bool ((rd t190 3) == 1)) := (blk_cell BK203.out 2).trans rfl; have hcz62_3 : w61.cell? ⟨gb203, 3, none⟩ = some (.bool ((rd t190 4) == 1)) := (blk_cell BK203.out 3).trans rfl; have hcz62_4 : w61.cell? ⟨gb203, 4, none⟩ = some (.int .u64 (rd t190 6)) := (blk_cell BK203.out 4).trans rfl; have hfz62_0 := blk_frozen BK203.out 0; have hfz62_1 := blk_frozen BK203.out 1; have hfz62_2 := blk_frozen BK203.out 2; have hfz62_3 := blk_frozen BK203.out 3; have hfz62_4 := blk_frozen BK203.out 4; have hnb63 := NB177_185.out; have hnc63 := NB185_177.out; have hcz64_0 : w61.cell? ⟨gb177, 0, none⟩ = some (.int .u8 0) := (blk_cell BK177.out 0).trans rfl; have hcz64_1 : w61.cell? ⟨gb177, 1, none⟩ = some (.bool false) := (blk_cell BK177.out 1).trans rfl; have hcz64_2 : w61.cell? ⟨gb177, 2, none⟩ = some (.bool false) := (blk_cell BK177.out 2).trans rfl; have hcz64_3 : w61.cell? ⟨gb177, 3, none⟩ = some (.bool false) := (blk_cell BK177.out 3).trans rfl; have hcz64_4 : w61.cell? ⟨gb177, 4, none⟩ = some (.int .u64 0) := (blk_cell BK177.out 4).trans rfl; have hfz64_0 := blk_frozen BK177.out 0; have hfz64_1 := blk_frozen BK177.out 1; have hfz64_2 := blk_frozen BK177.out 2; have hfz64_3 := blk_frozen BK177.out 3; have hfz64_4 := blk_frozen BK177.out 4))
              refine bodyPost_ret (results_ct rfl _ _ gb177 26 #[.int .u8 ((rd t190 0) % 256), .bool ((rd t190 2) == 1), .bool ((rd t190 3) == 1), .bool ((rd t190 4) == 1), .int .u64 (rd t190 6)] (0, 0) _ rfl (by (with_reducible repeat (first | refine blk_drewN ?_ _ | refine blk_drew ?_ | refine blk_alloc ?_ _)); refine blk_put (cs := #[.int .u8 ((rd t190 0) % 256), .bool ((rd t190 2) == 1), .bool ((rd t190 3) == 1), .bool ((rd t190 4) == 1), .int .u64 0]) ?_ 4 _ rfl; (with_reducible repeat (first | refine blk_drewN ?_ _ | refine blk_drew ?_ | refine blk_alloc ?_ _)); refine blk_put (cs := #[.int .u8 ((rd t190 0) % 256), .bool ((rd t190 2) == 1), .bool ((rd t190 3) == 1), .bool false, .int .u64 0]) ?_ 3 _ rfl; (with_reducible repeat (first | refine blk_drewN ?_ _ | refine blk_drew ?_ | refine blk_alloc ?_ _)); refine blk_put (cs := #[.int .u8 ((rd t190 0) % 256), .bool ((rd t190 2) == 1), .bool false, .bool false, .int .u64 0]) ?_ 2 _ rfl; (with_reducible repeat (first | refine blk_drewN ?_ _ | refine blk_drew ?_ | refine blk_alloc ?_ _)); refine blk_put (cs := #[.int .u8 ((rd t190 0) % 256), .bool false, .bool false, .bool false, .int .u64 0]) ?_ 1 _ rfl; (with_reducible repeat (first | refine blk_drewN ?_ _ | refine blk_drew ?_ | refine blk_alloc ?_ _)); refine blk_put (cs := #[.int .u8 0, .bool false, .bool false, .bool false, .int .u64 0]) ?_ 0 _ rfl; (with_reducible repeat (first | refine blk_drewN ?_ _ | refine blk_drew ?_ | refine blk_alloc ?_ _)); exact BK177.out) Try.underlying26 rfl (by kernel_rfl)) rfl ?_
              exact ⟨by first | rfl | (simp [errW_none, errW_some] <;> rfl) | (simp [*, errW_none, errW_some] <;> rfl), by repeat (first | (with_reducible first | exact HB.out | apply below_alloc | apply pw_below_drewN | apply below_drew1 | refine below_set ?_ GE177.out | refine below_set ?_ GE185.out | refine below_set ?_ GE203.out) | exact HB.out)⟩
             ·
              rw [if_neg c49] at H
              have c49b0 : (t204 == 0) = false := beq_eq_false_iff_ne.mpr c49
              have c49b1 : (t204 != 0) = true := bne_iff_ne.mpr c49
              simp only [Option.some.injEq, Prod.mk.injEq] at H
              obtain ⟨rfl, rfl, rfl, rfl, rfl, rfl⟩ := H
              try go_wp2
              have n0_ := Aside0.mk (Kd.R_drew HO_9.out)
              have n1_ := Aside0.mk (blk_drew BK177.out)
              have n2_ := Aside0.mk (blk_drew BK185.out)
              have n3_ := Aside0.mk (below_drew1 HB.out)
              clear HO_9
              clear BK177
              clear BK185
              clear HB
              have HO_9 := n0_
              have BK177 := n1_
              have BK185 := n2_
              have HB := n3_
              clear n0_ n1_ n2_ n3_
              obtain ⟨Ao66, co66, eo66⟩ := Kd.R_slice HO_9.out
              (first | subst eo66 | (injection eo66 with f1_ f2_ f3_; have f4_ := f1_.symm; have f5_ := f3_.symm; clear f1_ f2_ f3_; subst f4_; subst f5_))
              have p198 : 0 ≤ (0 : Int) := (by omega)
              have q198 : 0 < (t190.length : Int) := of_decide_eq_true (by first | (with_reducible assumption) | assumption)
              obtain ⟨ad198, e198, hx198_0⟩ := Kd.at_int (Kd.R_reads' HO_9.out).2.2 0 p198 q198
              cases e198
              have qi198 : (0 < t190.length) = True := eq_true (by omega)
              (try rw [show ((0 : Int)).toNat = 0 from rfl] at hx198_0)
              (try rw [Addr.add_zero'] at hx198_0)
              replace p198 := eq_true p198
              replace q198 := eq_true q198
              have p199 : 0 ≤ (2 : Int) := (by omega)
              have q199 : 2 < (t190.length : Int) := of_decide_eq_true (by first | (with_reducible assumption) | assumption)
              obtain ⟨ad199, e199, hx199_0⟩ := Kd.at_int (Kd.R_reads' HO_9.out).2.2 2 p199 q199
              obtain rfl : ad198 = ad199 := (by injection e199)
              (try simp only [show (2 : Int).toNat = 2 from rfl, Nat.reduceMul, Nat.reduceEqDiff, Go.Addr.add, ↓reduceIte] at hx199_0)
              have qi199 : (2 < t190.length) = True := eq_true (by omega)
              (try rw [show ((2 : Int)).toNat = 2 from rfl] at hx199_0)
              replace p199 := eq_true p199
              replace q199 := eq_true q199
              have p200 : 0 ≤ (3 : Int) := (by omega)
              have q200 : 3 < (t190.length : Int) := of_decide_eq_true (by first | (with_reducible assumption) | assumption)
              obtain ⟨ad200, e200, hx200_0⟩ := Kd.at_int (Kd.R_reads' HO_9.out).2.2 3 p200 q200
              obtain rfl : ad198 = ad200 := (by injection e200)
              (try simp only [show (3 : Int).toNat = 3 from rfl, Nat.reduceMul, Nat.reduceEqDiff, Go.Addr.add, ↓reduceIte] at hx200_0)
              have qi200 : (3 < t190.length) = True := eq_true (by omega)
              (try rw [show ((3 : Int)).toNat = 3 from rfl] at hx200_0)
              replace p200 := eq_true p200
              replace q200 := eq_true q200
              have p201 : 0 ≤ (4 : Int) := (by omega)
              have q201 : 4 < (t190.length : Int) := of_decide_eq_true (by first | (with_reducible assumption) | assumption)
              obtain ⟨ad201, e201, hx201_0⟩ := Kd.at_int (Kd.R_reads' HO_9.out).2.2 4 p201 q201
              obtain rfl : ad198 = ad201 := (by injection e201)
              (try simp only [show (4 : Int).toNat = 4 from rfl, Nat.reduceMul, Nat.reduceEqDiff, Go.Addr.add, ↓reduceIte] at hx201_0)
              have qi201 : (4 < t190.length) = True := eq_true (by omega)
              (try rw [show ((4 : Int)).toNat = 4 from rfl] at hx201_0)
              replace p201 := eq_true p201
              replace q201 := eq_true q201
              have p202 : 0 ≤ (6 : Int) := (by omega)
              have q202 : 6 < (t190.length : Int) := of_decide_eq_true (by first | (with_reducible assumption) | assumption)
              obtain ⟨ad202, e202, hx202_0⟩ := Kd.at_int (Kd.R_reads' HO_9.out).2.2 6 p202 q202
              obtain rfl : ad198 = ad202 := (by injection e202)
              (try simp only [show (6 : Int).toNat = 6 from rfl, Nat.reduceMul, Nat.reduceEqDiff, Go.Addr.add, ↓reduceIte] at hx202_0)
              have qi202 : (6 < t190.length) = True := eq_true (by omega)
              (try rw [show ((6 : Int)).toNat = 6 from rfl] at hx202_0)
              replace p202 := eq_true p202
              replace q202 := eq_true q202
              refine start_ (n := 22) (S := fun w' => w'.cell? ad198 = some (.int .u64 (rd t190 0)) ∧ w'.cell? ⟨ad198.block, ad198.off + 2, none⟩ = some (.int .u64 (rd t190 2)) ∧ w'.cell? ⟨ad198.block, ad198.off + 3, none⟩ = some (.int .u64 (rd t190 3)) ∧ w'.cell? ⟨ad198.block, ad198.off + 4, none⟩ = some (.int .u64 (rd t190 4)) ∧ w'.cell? ⟨ad198.block, ad198.off + 6, none⟩ = some (.int .u64 (rd t190 6))) (ds := []) #[false, false, false, false, false, false, false, false, false, false, false, false, false, false, false, false, false, false, false, false, false, false] (by kernel_rfl) rfl rfl ⟨hx198_0, hx199_0, hx200_0, hx201_0, hx202_0⟩ (fun hHeld => ?_); refine with_tabW raps_Open.tab11 raps_Open.bits11 (fun HT_ HW_ => ?_)
              generalize wc.drew = w65 at HO_9 BK177 BK185 HB hx198_0 hx199_0 hx200_0 hx201_0 hx202_0 hHeld ⊢
              refine pure_ (i := 0) (N := some 60) (v := ?_) (a' := ?_) #[true, false, false, false, false, false, false, false, false, false, false, false, false, false, false, false, false, false, false, false, false, false] rfl rfl (any_of HT_.out (by kernel_rfl)) (fun _ _ _ h => h) (Or.inl ⟨by rfl, ?_⟩) ?_ ?_
              rotate_left
              ·
               intro w'
               go_simp
               with_reducible rfl
              rotate_left
              ·
               simp only [Act.put, List.setIfInBounds_toArray, List.set_cons_zero, List.set_cons_succ, i64_w, i32_w]
               rfl
              refine pure_ (i := 1) (N := some 61) (v := ?_) (a' := ?_) #[true, true, false, false, false, false, false, false, false, false, false, false, false, false, false, false, false, false, false, false, false, false] rfl rfl (any_of HT_.out (by kernel_rfl)) (fun _ _ _ h => h) (Or.inl ⟨by rfl, ?_⟩) ?_ ?_
              rotate_left
              ·
               intro w'
               go_simp
               with_reducible rfl
              rotate_left
              ·
               simp only [Act.put, List.setIfInBounds_toArray, List.set_cons_zero, List.set_cons_succ, i64_w, i32_w]
               rfl
              refine pure_ (i := 4) (N := some 64) (v := ?_) (a' := ?_) #[true, true, false, false, true, false, false, false, false, false, false, false, false, false, false, false, false, false, false, false, false, false] rfl rfl (any_of HT_.out (by kernel_rfl)) (fun _ _ _ h => h) (Or.inl ⟨by rfl, ?_⟩) ?_ ?_
              rotate_left
              ·
               intro w'
               go_simp
               with_reducible rfl
              rotate_left
              ·
               simp only [Act.put, List.setIfInBounds_toArray, List.set_cons_zero, List.set_cons_succ, i64_w, i32_w]
               rfl
              refine pure_ (i := 5) (N := some 65) (v := ?_) (a' := ?_) #[true, true, false, false, true, true, false, false, false, false, false, false, false, false, false, false, false, false, false, false, false, false] rfl rfl (any_of HT_.out (by kernel_rfl)) (fun _ _ _ h => h) (Or.inl ⟨by rfl, ?_⟩) ?_ ?_
              rotate_left
              ·
               intro w'
               go_simp
               with_reducible rfl
              rotate_left
              ·
               simp only [Act.put, List.setIfInBounds_toArray, List.set_cons_zero, List.set_cons_succ, i64_w, i32_w]
               rfl
              refine pure_ (i := 8) (N := some 68) (v := ?_) (a' := ?_) #[true, true, false, false, true, true, false, false, true, false, false, false, false, false, false, false, false, false, false, false, false, false] rfl rfl (any_of HT_.out (by kernel_rfl)) (fun _ _ _ h => h) (Or.inl ⟨by rfl, ?_⟩) ?_ ?_
              rotate_left
              ·
               intro w'
               go_simp
               with_reducible rfl
              rotate_left
              ·
               simp only [Act.put, List.setIfInBounds_toArray, List.set_cons_zero, List.set_cons_succ, i64_w, i32_w]
               rfl
              refine pure_ (i := 9) (N := some 69) (v := ?_) (a' := ?_) #[true, true, false, false, true, true, false, false, true, true, false, false, false, false, false, false, false, false, false, false, false, false] rfl rfl (any_of HT_.out (by kernel_rfl)) (fun _ _ _ h => h) (Or.inl ⟨by rfl, ?_⟩) ?_ ?_
              rotate_left
              ·
               intro w'
               go_simp
               with_reducible rfl
              rotate_left
              ·
               simp only [Act.put, List.setIfInBounds_toArray, List.set_cons_zero, List.set_cons_succ, i64_w, i32_w]
               rfl
              refine pure_ (i := 12) (N := some 72) (v := ?_) (a' := ?_) #[true, true, false, false, true, true, false, false, true, true, false, false, true, false, false, false, false, false, false, false, false, false] rfl rfl (any_of HT_.out (by kernel_rfl)) (fun _ _ _ h => h) (Or.inl ⟨by rfl, ?_⟩) ?_ ?_
              rotate_left
              ·
               intro w'
               go_simp
               with_reducible rfl
              rotate_left
              ·
               simp only [Act.put, List.setIfInBounds_toArray, List.set_cons_zero, List.set_cons_succ, i64_w, i32_w]
               rfl
              refine pure_ (i := 13) (N := some 73) (v := ?_) (a' := ?_) #[true, true, false, false, true, true, false, false, true, true, false, false, true, true, false, false, false, false, false, false, false, false] rfl rfl (any_of HT_.out (by kernel_rfl)) (fun _ _ _ h => h) (Or.inl ⟨by rfl, ?_⟩) ?_ ?_
              rotate_left
              ·
               intro w'
               go_simp
               with_reducible rfl
              rotate_left
              ·
               simp only [Act.put, List.setIfInBounds_toArray, List.set_cons_zero, List.set_cons_succ, i64_w, i32_w]
               rfl
              refine pure_ (i := 16) (N := some 76) (v := ?_) (a' := ?_) #[true, true, false, false, true, true, false, false, true, true, false, false, true, true, false, false, true, false, false, false, false, false] rfl rfl (any_of HT_.out (by kernel_rfl)) (fun _ _ _ h => h) (Or.inl ⟨by rfl, ?_⟩) ?_ ?_
              rotate_left
              ·
               intro w'
               go_simp
               with_reducible rfl
              rotate_left
              ·
               simp only [Act.put, List.setIfInBounds_toArray, List.set_cons_zero, List.set_cons_succ, i64_w, i32_w]
               rfl
              refine pure_ (i := 17) (N := some 77) (v := ?_) (a' := ?_) #[true, true, false, false, true, true, false, false, true, true, false, false, true, true, false, false, true, true, false, false, false, false] rfl rfl (any_of HT_.out (by kernel_rfl)) (fun _ _ _ h => h) (Or.inl ⟨by rfl, ?_⟩) ?_ ?_
              rotate_left
              ·
               intro w'
               go_simp
               with_reducible rfl
              rotate_left
              ·
               simp only [Act.put, List.setIfInBounds_toArray, List.set_cons_zero, List.set_cons_succ, i64_w, i32_w]
               rfl
              refine take_ (i := 2) (N := some 62) (v := ?_) (a' := ?_) #[true, true, true, false, true, true, false, false, true, true, false, false, true, true, false, false, true, true, false, false, false, false] rfl rfl (take_ofW HT_.out HW_.out (by kernel_rfl)) (fun _ _ _ h => h) (Or.inl ⟨by rfl, ?_⟩) hHeld ?_ ?_
              rotate_left
              ·
               rintro w' ⟨s0, s1, s2, s3, s4⟩
               go_simp
               with_reducible rfl
              rotate_left
              ·
               simp only [Act.put, List.setIfInBounds_toArray, List.set_cons_zero, List.set_cons_succ, i64_w, i32_w]
               rfl
              refine pure_ (i := 3) (N := some 63) (v := ?_) (a' := ?_) #[true, true, true, true, true, true, false, false, true, true, false, false, true, true, false, false, true, true, false, false, false, false] rfl rfl (any_of HT_.out (by kernel_rfl)) (fun _ _ _ h => h) (Or.inl ⟨by rfl, ?_⟩) ?_ ?_
              rotate_left
              ·
               intro w'
               go_simp
               with_reducible rfl
              rotate_left
              ·
               simp only [Act.put, List.setIfInBounds_toArray, List.set_cons_zero, List.set_cons_succ, i64_w, i32_w]
               rfl
              refine take_ (i := 6) (N := some 66) (v := ?_) (a' := ?_) #[true, true, true, true, true, true, true, false, true, true, false, false, true, true, false, false, true, true, false, false, false, false] rfl rfl (take_ofW HT_.out HW_.out (by kernel_rfl)) (fun _ _ _ h => h) (Or.inl ⟨by rfl, ?_⟩) hHeld ?_ ?_
              rotate_left
              ·
               rintro w' ⟨s0, s1, s2, s3, s4⟩
               go_simp
               with_reducible rfl
              rotate_left
              ·
               simp only [Act.put, List.setIfInBounds_toArray, List.set_cons_zero, List.set_cons_succ, i64_w, i32_w]
               rfl
              refine pure_ (i := 7) (N := some 67) (v := ?_) (a' := ?_) #[true, true, true, true, true, true, true, true, true, true, false, false, true, true, false, false, true, true, false, false, false, false] rfl rfl (any_of HT_.out (by kernel_rfl)) (fun _ _ _ h => h) (Or.inl ⟨by rfl, ?_⟩) ?_ ?_
              rotate_left
              ·
               intro w'
               go_simp
               with_reducible rfl
              rotate_left
              ·
               simp only [Act.put, List.setIfInBounds_toArray, List.set_cons_zero, List.set_cons_succ, i64_w, i32_w]
               rfl
              refine take_ (i := 10) (N := some 70) (v := ?_) (a' := ?_) #[true, true, true, true, true, true, true, true, true, true, true, false, true, true, false, false, true, true, false, false, false, false] rfl rfl (take_ofW HT_.out HW_.out (by kernel_rfl)) (fun _ _ _ h => h) (Or.inl ⟨by rfl, ?_⟩) hHeld ?_ ?_
              rotate_left
              ·
               rintro w' ⟨s0, s1, s2, s3, s4⟩
               go_simp
               with_reducible rfl
              rotate_left
              ·
               simp only [Act.put, List.setIfInBounds_toArray, List.set_cons_zero, List.set_cons_succ, i64_w, i32_w]
               rfl
              refine pure_ (i := 11) (N := some 71) (v := ?_) (a' := ?_) #[true, true, true, true, true, true, true, true, true, true, true, true, true, true, false, false, true, true, false, false, false, false] rfl rfl (any_of HT_.out (by kernel_rfl)) (fun _ _ _ h => h) (Or.inl ⟨by rfl, ?_⟩) ?_ ?_
              rotate_left
              ·
               intro w'
               go_simp
               with_reducible rfl
              rotate_left
              ·
               simp only [Act.put, List.setIfInBounds_toArray, List.set_cons_zero, List.set_cons_succ, i64_w, i32_w]
               rfl
              refine take_ (i := 14) (N := some 74) (v := ?_) (a' := ?_) #[true, true, true, true, true, true, true, true, true, true, true, true, true, true, true, false, true, true, false, false, false, false] rfl rfl (take_ofW HT_.out HW_.out (by kernel_rfl)) (fun _ _ _ h => h) (Or.inl ⟨by rfl, ?_⟩) hHeld ?_ ?_
              rotate_left
              ·
               rintro w' ⟨s0, s1, s2, s3, s4⟩
               go_simp
               with_reducible rfl
              rotate_left
              ·
               simp only [Act.put, List.setIfInBounds_toArray, List.set_cons_zero, List.set_cons_succ, i64_w, i32_w]
               rfl
              refine pure_ (i := 15) (N := some 75) (v := ?_) (a' := ?_) #[true, true, true, true, true, true, true, true, true, true, true, true, true, true, true, true, true, true, false, false, false, false] rfl rfl (any_of HT_.out (by kernel_rfl)) (fun _ _ _ h => h) (Or.inl ⟨by rfl, ?_⟩) ?_ ?_
              rotate_left
              ·
               intro w'
               go_simp
               with_reducible rfl
              rotate_left
              ·
               simp only [Act.put, List.setIfInBounds_toArray, List.set_cons_zero, List.set_cons_succ, i64_w, i32_w]
               rfl
              refine take_ (i := 18) (N := some 78) (v := ?_) (a' := ?_) #[true, true, true, true, true, true, true, true, true, true, true, true, true, true, true, true, true, true, true, false, false, false] rfl rfl (take_ofW HT_.out HW_.out (by kernel_rfl)) (fun _ _ _ h => h) (Or.inl ⟨by rfl, ?_⟩) hHeld ?_ ?_
              rotate_left
              ·
               rintro w' ⟨s0, s1, s2, s3, s4⟩
               go_simp
               with_reducible rfl
              rotate_left
              ·
               simp only [Act.put, List.setIfInBounds_toArray, List.set_cons_zero, List.set_cons_succ, i64_w, i32_w]
               rfl
              refine pure_ (i := 19) (N := some 79) (v := ?_) (a' := ?_) #[true, true, true, true, true, true, true, true, true, true, true, true, true, true, true, true, true, true, true, true, false, false] rfl rfl (any_of HT_.out (by kernel_rfl)) (fun _ _ _ h => h) (Or.inl ⟨by rfl, ?_⟩) ?_ ?_
              rotate_left
              ·
               intro w'
               go_simp
               with_reducible rfl
              rotate_left
              ·
               simp only [Act.put, List.setIfInBounds_toArray, List.set_cons_zero, List.set_cons_succ, i64_w, i32_w]
               rfl
              refine one_ (i := 20) (N := some 11) #[true, true, true, true, true, true, true, true, true, true, true, true, true, true, true, true, true, true, true, true, true, false] rfl rfl (one_of HT_.out (by kernel_rfl)) (by decide) (fun K hK => ?_)
              refine box_step ?hg (N := 11) ?hd (cs := #[.int .u8 0, .bool false, .bool false, .bool false, .int .u64 0]) (t := 26) ?hr ?_; (case hd => rfl); (case hg => rfl); (case hr => first | (go_simp; done) | (go_simp; rfl))
              intro gb203 hg w67 hbox hb
              have HS0_ := (hb.cell (World.block_lt_of_cell? _ _ (hHeld.1))).trans (hHeld.1)
              have HS1_ := (hb.cell (World.block_lt_of_cell? _ _ (hHeld.2.1))).trans (hHeld.2.1)
              have HS2_ := (hb.cell (World.block_lt_of_cell? _ _ (hHeld.2.2.1))).trans (hHeld.2.2.1)
              have HS3_ := (hb.cell (World.block_lt_of_cell? _ _ (hHeld.2.2.2.1))).trans (hHeld.2.2.2.1)
              have HS4_ := (hb.cell (World.block_lt_of_cell? _ _ (hHeld.2.2.2.2))).trans (hHeld.2.2.2.2)
              have n0_ := Aside0.mk (Kd.R_below (by (with_reducible repeat (first | apply Kd.R_alloc | apply Kd.R_drewN | apply Kd.R_drew)); exact HO_9.out) hb)
              have n1_ := Aside0.mk (blk_below (g := gb177) (o := .cells #[.int .u8 0, .bool false, .bool false, .bool false, .int .u64 0] 26 (0, 0)) (by (with_reducible repeat (first | refine blk_drewN ?_ _ | refine blk_drew ?_ | refine blk_alloc ?_ _)); exact BK177.out) hb)
              have n2_ := Aside0.mk (blk_below (g := gb185) (o := .cells #[.int .u8 t178, .int .u8 t179, .int .u8 t180, .int .u8 t181, .int .u8 t182] 82 (0, 0)) (by (with_reducible repeat (first | refine blk_drewN ?_ _ | refine blk_drew ?_ | refine blk_alloc ?_ _)); exact BK185.out) hb)
              have n3_ := Aside0.mk (below_step (by repeat (first | (with_reducible first | exact HB.out | apply below_alloc | apply pw_below_drewN | apply below_drew1 | refine below_set ?_ GE177.out | refine below_set ?_ GE185.out) | exact HB.out)) hb)
              have n4_ := Aside0.mk (hbox)
              have n5_ := Aside0.mk ((by rw [hg]; exact (below_size (by repeat (first | (with_reducible first | exact HB.out | apply below_alloc | apply pw_below_drewN | apply below_drew1 | refine below_set ?_ GE177.out | refine below_set ?_ GE185.out) | exact HB.out))) : w.heap.size ≤ gb203))
              have n6_ := Aside0.mk ((by rw [hg]; exact (below_size (by repeat (first | (with_reducible first | exact HB.out | apply below_alloc | apply pw_below_drewN | apply below_drew1 | refine below_set ?_ GE177.out | refine below_set ?_ GE185.out) | exact HB.out))) : w.heap.size ≤ gb203))
              have n7_ := Aside0.mk ((by rw [hg]; exact Nat.ne_of_lt (blk_lt (g := gb177) (o := .cells #[.int .u8 0, .bool false, .bool false, .bool false, .int .u64 0] 26 (0, 0)) (by (with_reducible repeat (first | refine blk_drewN ?_ _ | refine blk_drew ?_ | refine blk_alloc ?_ _)); exact BK177.out)) : gb177 ≠ gb203))
              have n8_ := Aside0.mk ((by rw [hg]; exact Nat.ne_of_gt (blk_lt (g := gb177) (o := .cells #[.int .u8 0, .bool false, .bool false, .bool false, .int .u64 0] 26 (0, 0)) (by (with_reducible repeat (first | refine blk_drewN ?_ _ | refine blk_drew ?_ | refine blk_alloc ?_ _)); exact BK177.out)) : gb203 ≠ gb177))
              have n9_ := Aside0.mk ((by rw [hg]; exact Nat.ne_of_lt (blk_lt (g := gb185) (o := .cells #[.int .u8 t178, .int .u8 t179, .int .u8 t180, .int .u8 t181, .int .u8 t182] 82 (0, 0)) (by (with_reducible repeat (first | refine blk_drewN ?_ _ | refine blk_drew ?_ | refine blk_alloc ?_ _)); exact BK185.out)) : gb185 ≠ gb203))
              have n10_ := Aside0.mk ((by rw [hg]; exact Nat.ne_of_gt (blk_lt (g := gb185) (o := .cells #[.int .u8 t178, .int .u8 t179, .int .u8 t180, .int .u8 t181, .int .u8 t182] 82 (0, 0)) (by (with_reducible repeat (first | refine blk_drewN ?_ _ | refine blk_drew ?_ | refine blk_alloc ?_ _)); exact BK185.out)) : gb203 ≠ gb185))
              clear HO_9
              clear BK177
              clear BK185
              clear HB
              have HO_9 := n0_
              have BK177 := n1_
              have BK185 := n2_
              have HB := n3_
              have BK203 := n4_
              have GW203 := n5_
              have GE203 := n6_
              have NB177_203 := n7_
              have NB203_177 := n8_
              have NB185_203 := n9_
              have NB203_185 := n10_
              clear n0_ n1_ n2_ n3_ n4_ n5_ n6_ n7_ n8_ n9_ n10_
              clear hb hbox hg
              refine hK.out _ _ ⟨HS0_, HS1_, HS2_, HS3_, HS4_⟩ (fun hHeld => ?_)
              clear hK K
              refine norm_ (a' := ?_) ?_ ?_
              rotate_left
              ·
               show Act.put _ (some 11) _ = _
               simp only [Act.put, List.setIfInBounds_toArray, List.set_cons_zero, List.set_cons_succ, i64_w, i32_w]
               rfl
              refine one_ (i := 21) (N := none) #[true, true, true, true, true, true, true, true, true, true, true, true, true, true, true, true, true, true, true, true, true, true] rfl rfl (one_of HT_.out (by kernel_rfl)) (by decide) (fun K hK => ?_)
              have hs68 : w67.cell? ⟨gb203, 0, none⟩ = some (.int .u8 0) := (blk_cell BK203.out 0).trans rfl
              have hfs68 := blk_frozen BK203.out 0
              have hns68_0 := NB177_203.out
              have hns68_1 := NB185_203.out
              have hms68_0 := NB203_177.out
              have hms68_1 := NB203_185.out
              have hs69 : w67.cell? ⟨gb203, 1, none⟩ = some (.bool false) := (blk_cell BK203.out 1).trans rfl
              have hfs69 := blk_frozen BK203.out 1
              have hns69_0 := NB177_203.out
              have hns69_1 := NB185_203.out
              have hms69_0 := NB203_177.out
              have hms69_1 := NB203_185.out
              have hs70 : w67.cell? ⟨gb203, 2, none⟩ = some (.bool false) := (blk_cell BK203.out 2).trans rfl
              have hfs70 := blk_frozen BK203.out 2
              have hns70_0 := NB177_203.out
              have hns70_1 := NB185_203.out
              have hms70_0 := NB203_177.out
              have hms70_1 := NB203_185.out
              have hs71 : w67.cell? ⟨gb203, 3, none⟩ = some (.bool false) := (blk_cell BK203.out 3).trans rfl
              have hfs71 := blk_frozen BK203.out 3
              have hns71_0 := NB177_203.out
              have hns71_1 := NB185_203.out
              have hms71_0 := NB203_177.out
              have hms71_1 := NB203_185.out
              have hs72 : w67.cell? ⟨gb203, 4, none⟩ = some (.int .u64 0) := (blk_cell BK203.out 4).trans rfl
              have hfs72 := blk_frozen BK203.out 4
              have hns72_0 := NB177_203.out
              have hns72_1 := NB185_203.out
              have hms72_0 := NB203_177.out
              have hms72_1 := NB203_185.out
              refine skip_ (w1 := ?_) (by rfl) rfl ?_ ?_
              rotate_left
              ·
               go_simp
               rfl
              refine hK.out _ _ ⟨?hh0_, ?hh1_, ?hh2_, ?hh3_, ?hh4_⟩ (fun hHeld => ?_)
              case hh0_ =>
               have hfF_ : ∀ (W_ : World) (a_ : Addr) (i_ : Nat) (u_ : Value), a_.block ≠ gb203 → (W_.setCell ⟨gb203, i_, none⟩ u_).cell? a_ = W_.cell? a_ := fun W_ a_ i_ u_ h_ => cell_far (p := ⟨gb203, i_, none⟩) h_ u_
               have hqF_ := (Kd.own_blk (Kd.R_ne HO_9.out BK203.out (by decide)))
               simp only [hfF_, ne_eq, hqF_, not_false_eq_true]
               exact hHeld.1
              case hh1_ =>
               have hfF_ : ∀ (W_ : World) (a_ : Addr) (i_ : Nat) (u_ : Value), a_.block ≠ gb203 → (W_.setCell ⟨gb203, i_, none⟩ u_).cell? a_ = W_.cell? a_ := fun W_ a_ i_ u_ h_ => cell_far (p := ⟨gb203, i_, none⟩) h_ u_
               have hqF_ := (Kd.own_blk (Kd.R_ne HO_9.out BK203.out (by decide)))
               simp only [hfF_, ne_eq, hqF_, not_false_eq_true]
               exact hHeld.2.1
              case hh2_ =>
               have hfF_ : ∀ (W_ : World) (a_ : Addr) (i_ : Nat) (u_ : Value), a_.block ≠ gb203 → (W_.setCell ⟨gb203, i_, none⟩ u_).cell? a_ = W_.cell? a_ := fun W_ a_ i_ u_ h_ => cell_far (p := ⟨gb203, i_, none⟩) h_ u_
               have hqF_ := (Kd.own_blk (Kd.R_ne HO_9.out BK203.out (by decide)))
               simp only [hfF_, ne_eq, hqF_, not_false_eq_true]
               exact hHeld.2.2.1
              case hh3_ =>
               have hfF_ : ∀ (W_ : World) (a_ : Addr) (i_ : Nat) (u_ : Value), a_.block ≠ gb203 → (W_.setCell ⟨gb203, i_, none⟩ u_).cell? a_ = W_.cell? a_ := fun W_ a_ i_ u_ h_ => cell_far (p := ⟨gb203, i_, none⟩) h_ u_
               have hqF_ := (Kd.own_blk (Kd.R_ne HO_9.out BK203.out (by decide)))
               simp only [hfF_, ne_eq, hqF_, not_false_eq_true]
               exact hHeld.2.2.2.1
              case hh4_ =>
               have hfF_ : ∀ (W_ : World) (a_ : Addr) (i_ : Nat) (u_ : Value), a_.block ≠ gb203 → (W_.setCell ⟨gb203, i_, none⟩ u_).cell? a_ = W_.cell? a_ := fun W_ a_ i_ u_ h_ => cell_far (p := ⟨gb203, i_, none⟩) h_ u_
               have hqF_ := (Kd.own_blk (Kd.R_ne HO_9.out BK203.out (by decide)))
               simp only [hfF_, ne_eq, hqF_, not_false_eq_true]
               exact hHeld.2.2.2.2
              clear hK K
              refine done_ (done_of HT_.out (by kernel_rfl)) ?_
              have hnb73 := NB203_177.out
              have hnc73 := NB177_203.out
              have hnb74 := NB203_185.out
              have hnc74 := NB185_203.out
              have hcz75_0 : w67.cell? ⟨gb203, 0, none⟩ = some (.int .u8 0) := (blk_cell BK203.out 0).trans rfl
              have hcz75_1 : w67.cell? ⟨gb203, 1, none⟩ = some (.bool false) := (blk_cell BK203.out 1).trans rfl
              have hcz75_2 : w67.cell? ⟨gb203, 2, none⟩ = some (.bool false) := (blk_cell BK203.out 2).trans rfl
              have hcz75_3 : w67.cell? ⟨gb203, 3, none⟩ = some (.bool false) := (blk_cell BK203.out 3).trans rfl
              have hcz75_4 : w67.cell? ⟨gb203, 4, none⟩ = some (.int .u64 0) := (blk_cell BK203.out 4).trans rfl
              have hfz75_0 := blk_frozen BK203.out 0
              have hfz75_1 := blk_frozen BK203.out 1
              have hfz75_2 := blk_frozen BK203.out 2
              have hfz75_3 := blk_frozen BK203.out 3
              have hfz75_4 := blk_frozen BK203.out 4
              try go_wp2_with (first | ((with_reducible refine gate_callee (f := 46) rfl ?_); refine goesL_ (some 81) rfl rfl Try.func46 (by kernel_rfl) rfl #[.agg #[.int .u8 ((rd t190 0) % 256), .bool ((rd t190 2) == 1), .bool ((rd t190 3) == 1), .bool ((rd t190 4) == 1), .int .u64 (rd t190 6)]] rfl (by (try simp only [List.map_toArray, List.map_cons, List.map_nil]); first | done | rfl | (simp only [List.length_drop, List.length_take]; rfl)) ?_; (with_reducible refine (raps_Msg_wrong.calls kj17 ((rd t190 0) % 256) ((rd t190 2) == 1) ((rd t190 3) == 1) ((rd t190 4) == 1) (rd t190 6) t204 _ A48.out).mono ?_); rintro e w76 ⟨rfl, hb⟩; refine ⟨_, rfl, ?_⟩; have n0_ := Aside0.mk (Kd.R_below (by (with_reducible repeat (first | apply Kd.R_alloc | apply Kd.R_drewN | apply Kd.R_drew)); exact (Kd.R_mono (Kd.R_far (p := ⟨gb203, 4, none⟩) (Kd.R_far (p := ⟨gb203, 3, none⟩) (Kd.R_far (p := ⟨gb203, 2, none⟩) (Kd.R_far (p := ⟨gb203, 1, none⟩) (Kd.R_far (p := ⟨gb203, 0, none⟩) (Kd.R_types HO_9.out BK203.out (by decide)) (fun _ hk => hk.2) (.int .u8 ((rd t190 0) % 256))) (fun _ hk => hk.2) (.bool ((rd t190 2) == 1))) (fun _ hk => hk.2) (.bool ((rd t190 3) == 1))) (fun _ hk => hk.2) (.bool ((rd t190 4) == 1))) (fun _ hk => hk.2) (.int .u64 (rd t190 6))) (fun _ h_ => h_.1))) hb); have n1_ := Aside0.mk (blk_below (g := gb177) (o := .cells #[.int .u8 0, .bool false, .bool false, .bool false, .int .u64 0] 26 (0, 0)) (by (with_reducible repeat (first | refine blk_drewN ?_ _ | refine blk_drew ?_ | refine blk_alloc ?_ _)); refine blk_far ?_ NB177_203.out _; (with_reducible repeat (first | refine blk_drewN ?_ _ | refine blk_drew ?_ | refine blk_alloc ?_ _)); refine blk_far ?_ NB177_203.out _; (with_reducible repeat (first | refine blk_drewN ?_ _ | refine blk_drew ?_ | refine blk_alloc ?_ _)); refine blk_far ?_ NB177_203.out _; (with_reducible repeat (first | refine blk_drewN ?_ _ | refine blk_drew ?_ | refine blk_alloc ?_ _)); refine blk_far ?_ NB177_203.out _; (with_reducible repeat (first | refine blk_drewN ?_ _ | refine blk_drew ?_ | refine blk_alloc ?_ _)); refine blk_far ?_ NB177_203.out _; (with_reducible repeat (first | refine blk_drewN ?_ _ | refine blk_drew ?_ | refine blk_alloc ?_ _)); exact BK177.out) hb); have n2_ := Aside0.mk (blk_below (g := gb185) (o := .cells #[.int .u8 t178, .int .u8 t179, .int .u8 t180, .int .u8 t181, .int .u8 t182] 82 (0, 0)) (by (with_reducible repeat (first | refine blk_drewN ?_ _ | refine blk_drew ?_ | refine blk_alloc ?_ _)); refine blk_far ?_ NB185_203.out _; (with_reducible repeat (first | refine blk_drewN ?_ _ | refine blk_drew ?_ | refine blk_alloc ?_ _)); refine blk_far ?_ NB185_203.out _; (with_reducible repeat (first | refine blk_drewN ?_ _ | refine blk_drew ?_ | refine blk_alloc ?_ _)); refine blk_far ?_ NB185_203.out _; (with_reducible repeat (first | refine blk_drewN ?_ _ | refine blk_drew ?_ | refine blk_alloc ?_ _)); refine blk_far ?_ NB185_203.out _; (with_reducible repeat (first | refine blk_drewN ?_ _ | refine blk_drew ?_ | refine blk_alloc ?_ _)); refine blk_far ?_ NB185_203.out _; (with_reducible repeat (first | refine blk_drewN ?_ _ | refine blk_drew ?_ | refine blk_alloc ?_ _)); exact BK185.out) hb); have n3_ := Aside0.mk (blk_below (g := gb203) (o := .cells #[.int .u8 ((rd t190 0) % 256), .bool ((rd t190 2) == 1), .bool ((rd t190 3) == 1), .bool ((rd t190 4) == 1), .int .u64 (rd t190 6)] 26 (0, 0)) (by (with_reducible repeat (first | refine blk_drewN ?_ _ | refine blk_drew ?_ | refine blk_alloc ?_ _)); refine blk_put (cs := #[.int .u8 ((rd t190 0) % 256), .bool ((rd t190 2) == 1), .bool ((rd t190 3) == 1), .bool ((rd t190 4) == 1), .int .u64 0]) ?_ 4 _ rfl; (with_reducible repeat (first | refine blk_drewN ?_ _ | refine blk_drew ?_ | refine blk_alloc ?_ _)); refine blk_put (cs := #[.int .u8 ((rd t190 0) % 256), .bool ((rd t190 2) == 1), .bool ((rd t190 3) == 1), .bool false, .int .u64 0]) ?_ 3 _ rfl; (with_reducible repeat (first | refine blk_drewN ?_ _ | refine blk_drew ?_ | refine blk_alloc ?_ _)); refine blk_put (cs := #[.int .u8 ((rd t190 0) % 256), .bool ((rd t190 2) == 1), .bool false, .bool false, .int .u64 0]) ?_ 2 _ rfl; (with_reducible repeat (first | refine blk_drewN ?_ _ | refine blk_drew ?_ | refine blk_alloc ?_ _)); refine blk_put (cs := #[.int .u8 ((rd t190 0) % 256), .bool false, .bool false, .bool false, .int .u64 0]) ?_ 1 _ rfl; (with_reducible repeat (first | refine blk_drewN ?_ _ | refine blk_drew ?_ | refine blk_alloc ?_ _)); refine blk_put (cs := #[.int .u8 0, .bool false, .bool false, .bool false, .int .u64 0]) ?_ 0 _ rfl; (with_reducible repeat (first | refine blk_drewN ?_ _ | refine blk_drew ?_ | refine blk_alloc ?_ _)); exact BK203.out) hb); have n4_ := Aside0.mk (below_step (by repeat (first | (with_reducible first | exact HB.out | apply below_alloc | apply pw_below_drewN | apply below_drew1 | refine below_set ?_ GE177.out | refine below_set ?_ GE185.out | refine below_set ?_ GE203.out) | exact HB.out)) hb); clear HO_9; clear BK177; clear BK185; clear BK203; clear HB; have HO_9 := n0_; have BK177 := n1_; have BK185 := n2_; have BK203 := n3_; have HB := n4_; clear n0_ n1_ n2_ n3_ n4_; (try clear hb); (try clear hb2); (try clear hk); (try clear hi); have hnb77 := NB177_185.out; have hnc77 := NB185_177.out; have hcz78_0 : w76.cell? ⟨gb177, 0, none⟩ = some (.int .u8 0) := (blk_cell BK177.out 0).trans rfl; have hcz78_1 : w76.cell? ⟨gb177, 1, none⟩ = some (.bool false) := (blk_cell BK177.out 1).trans rfl; have hcz78_2 : w76.cell? ⟨gb177, 2, none⟩ = some (.bool false) := (blk_cell BK177.out 2).trans rfl; have hcz78_3 : w76.cell? ⟨gb177, 3, none⟩ = some (.bool false) := (blk_cell BK177.out 3).trans rfl; have hcz78_4 : w76.cell? ⟨gb177, 4, none⟩ = some (.int .u64 0) := (blk_cell BK177.out 4).trans rfl; have hfz78_0 := blk_frozen BK177.out 0; have hfz78_1 := blk_frozen BK177.out 1; have hfz78_2 := blk_frozen BK177.out 2; have hfz78_3 := blk_frozen BK177.out 3; have hfz78_4 := blk_frozen BK177.out 4))
              refine bodyPost_ret (results_ct rfl _ _ gb177 26 #[.int .u8 0, .bool false, .bool false, .bool false, .int .u64 0] (0, 0) _ rfl (by (with_reducible repeat (first | refine blk_drewN ?_ _ | refine blk_drew ?_ | refine blk_alloc ?_ _)); refine blk_put (cs := #[.int .u8 0, .bool false, .bool false, .bool false, .int .u64 0]) ?_ 4 _ rfl; (with_reducible repeat (first | refine blk_drewN ?_ _ | refine blk_drew ?_ | refine blk_alloc ?_ _)); refine blk_put (cs := #[.int .u8 0, .bool false, .bool false, .bool false, .int .u64 0]) ?_ 3 _ rfl; (with_reducible repeat (first | refine blk_drewN ?_ _ | refine blk_drew ?_ | refine blk_alloc ?_ _)); refine blk_put (cs := #[.int .u8 0, .bool false, .bool false, .bool false, .int .u64 0]) ?_ 2 _ rfl; (with_reducible repeat (first | refine blk_drewN ?_ _ | refine blk_drew ?_ | refine blk_alloc ?_ _)); refine blk_put (cs := #[.int .u8 0, .bool false, .bool false, .bool false, .int .u64 0]) ?_ 1 _ rfl; (with_reducible repeat (first | refine blk_drewN ?_ _ | refine blk_drew ?_ | refine blk_alloc ?_ _)); refine blk_put (cs := #[.int .u8 0, .bool false, .bool false, .bool false, .int .u64 0]) ?_ 0 _ rfl; (with_reducible repeat (first | refine blk_drewN ?_ _ | refine blk_drew ?_ | refine blk_alloc ?_ _)); exact BK177.out) Try.underlying26 rfl (by kernel_rfl)) rfl ?_
              exact ⟨by first | rfl | (simp [errW_none, errW_some] <;> rfl) | (simp [*, errW_none, errW_some] <;> rfl), by repeat (first | (with_reducible first | exact HB.out | apply below_alloc | apply pw_below_drewN | apply below_drew1 | refine below_set ?_ GE177.out | refine below_set ?_ GE185.out | refine below_set ?_ GE203.out) | exact HB.out)⟩
            ·
             rw [if_neg c47] at H
             exact absurd H (by simp)
           ·
            rw [if_neg c46] at H
            exact absurd H (by simp)
          ·
           rw [if_neg c45] at H
           exact absurd H (by simp)
         ·
          rw [if_neg c44] at H
          exact absurd H (by simp)
        ·
         rw [if_neg c43] at H
         exact absurd H (by simp)
    ·
     rw [if_neg c17] at H
     have c17b0 : (t192 == 0) = false := beq_eq_false_iff_ne.mpr c17
     have c17b1 : (t192 != 0) = true := bne_iff_ne.mpr c17
     simp only [Option.some.injEq, Prod.mk.injEq] at H
     obtain ⟨rfl, rfl, rfl, rfl, rfl, rfl⟩ := H
     go_wp2_with (first | ((with_reducible refine gate_dst (N := 30) rfl ?_); refine Kd.R_lit (Kd.int .i64) _ 3 ?hg (N := 30) ?hd (xs := ([4, 4, 1, 1, 1, 5, 48] : List Int)) (inner := [.int .i64 4, .int .i64 4, .int .i64 1, .int .i64 1, .int .i64 1, .int .i64 5, .int .i64 48]) (ok := fun _ => True) (okp := fun _ => True) ?hr ?hp (fun _ hk => hk) trivial (Below.refl _ _) (Nat.le_refl _) (by simp) ?_; (case hd => rfl); (case hg => rfl); (case hr => first | (go_simp; done) | (go_simp; rfl)); (case hp => exact (Reps.one (show Kd.M (Kd.int .i64) _ _ _ 4 [.int .i64 4] from rfl) (Reps.one (show Kd.M (Kd.int .i64) _ _ _ 4 [.int .i64 4] from rfl) (Reps.one (show Kd.M (Kd.int .i64) _ _ _ 1 [.int .i64 1] from rfl) (Reps.one (show Kd.M (Kd.int .i64) _ _ _ 1 [.int .i64 1] from rfl) (Reps.one (show Kd.M (Kd.int .i64) _ _ _ 1 [.int .i64 1] from rfl) (Reps.one (show Kd.M (Kd.int .i64) _ _ _ 5 [.int .i64 5] from rfl) (Reps.one (show Kd.M (Kd.int .i64) _ _ _ 48 [.int .i64 48] from rfl) (Reps.none _ _))))))))); intro v188 w79 ho80 hb hg_ hnew_; clear hg_ hnew_; (first | rw [← Ny187.out] at ho80 | (simp only [Int.reduceToNat] at ho80; rw [← Ny187.out] at ho80)); have n0_ := Aside0.mk (Kd.R_lower ho80 (below_size (by repeat (first | (with_reducible first | exact HB.out | apply below_alloc | apply pw_below_drewN | apply below_drew1 | refine below_set ?_ GE177.out | refine below_set ?_ GE185.out) | exact HB.out)))); have n1_ := Aside0.mk (blk_below (g := gb177) (o := .cells #[.int .u8 0, .bool false, .bool false, .bool false, .int .u64 0] 26 (0, 0)) (by (with_reducible repeat (first | refine blk_drewN ?_ _ | refine blk_drew ?_ | refine blk_alloc ?_ _)); exact BK177.out) hb); have n2_ := Aside0.mk (blk_below (g := gb185) (o := .cells #[.int .u8 t178, .int .u8 t179, .int .u8 t180, .int .u8 t181, .int .u8 t182] 82 (0, 0)) (by (with_reducible repeat (first | refine blk_drewN ?_ _ | refine blk_drew ?_ | refine blk_alloc ?_ _)); exact BK185.out) hb); have n3_ := Aside0.mk (below_step (by repeat (first | (with_reducible first | exact HB.out | apply below_alloc | apply pw_below_drewN | apply below_drew1 | refine below_set ?_ GE177.out | refine below_set ?_ GE185.out) | exact HB.out)) hb); clear BK177; clear BK185; clear HB; have HO189 := n0_; have BK177 := n1_; have BK185 := n2_; have HB := n3_; clear n0_ n1_ n2_ n3_; clear hb ho80; obtain ⟨Ao81, co81, eo81⟩ := Kd.R_slice HO189.out; subst eo81) | ((with_reducible refine gate_callee (f := 38) rfl ?_); refine goesL_ (some 31) rfl rfl Try.func38 (by kernel_rfl) rfl #[.string t183, .slice Ao81 y187.length co81] rfl (by (try simp only [List.map_toArray, List.map_cons, List.map_nil]); first | done | rfl | (simp only [List.length_drop, List.length_take]; rfl)) ?_; (with_reducible refine (field_Split.calls kj3 t183 _ _ y187 t190 t191 t192 _ ?side1 ?side2 A16.out).mono ?_); (case side1 => repeat (first | exact (Kd.R_reads' HO189.out).2.2 | (with_reducible refine Kd.C_alloc ?_ _) | (with_reducible refine Kd.C_drewN ?_ _) | (with_reducible refine Kd.C_drew ?_))); (case side2 => exact (Kd.R_reads' HO189.out).2.1); rintro e w82 ⟨v193, rfl, ho0, hb⟩; refine ⟨_, rfl, ?_⟩; have n0_ := Aside0.mk (Kd.R_below (by (with_reducible repeat (first | apply Kd.R_alloc | apply Kd.R_drewN | apply Kd.R_drew)); exact HO189.out) hb); have n1_ := Aside0.mk (Kd.R_lower ho0 (below_size (by repeat (first | (with_reducible first | exact HB.out | apply below_alloc | apply pw_below_drewN | apply below_drew1 | refine below_set ?_ GE177.out | refine below_set ?_ GE185.out) | exact HB.out)))); have n2_ := Aside0.mk (blk_below (g := gb177) (o := .cells #[.int .u8 0, .bool false, .bool false, .bool false, .int .u64 0] 26 (0, 0)) (by (with_reducible repeat (first | refine blk_drewN ?_ _ | refine blk_drew ?_ | refine blk_alloc ?_ _)); exact BK177.out) hb); have n3_ := Aside0.mk (blk_below (g := gb185) (o := .cells #[.int .u8 t178, .int .u8 t179, .int .u8 t180, .int .u8 t181, .int .u8 t182] 82 (0, 0)) (by (with_reducible repeat (first | refine blk_drewN ?_ _ | refine blk_drew ?_ | refine blk_alloc ?_ _)); exact BK185.out) hb); have n4_ := Aside0.mk (below_step (by repeat (first | (with_reducible first | exact HB.out | apply below_alloc | apply pw_below_drewN | apply below_drew1 | refine below_set ?_ GE177.out | refine below_set ?_ GE185.out) | exact HB.out)) hb); clear HO189; clear BK177; clear BK185; clear HB; have HO189 := n0_; have HO194 := n1_; have BK177 := n2_; have BK185 := n3_; have HB := n4_; clear n0_ n1_ n2_ n3_ n4_; (try clear hb); (try clear hb2); (try clear hk); (try clear hi); (try clear ho0); have hnb83 := NB177_185.out; have hnc83 := NB185_177.out; have hcz84_0 : w82.cell? ⟨gb177, 0, none⟩ = some (.int .u8 0) := (blk_cell BK177.out 0).trans rfl; have hcz84_1 : w82.cell? ⟨gb177, 1, none⟩ = some (.bool false) := (blk_cell BK177.out 1).trans rfl; have hcz84_2 : w82.cell? ⟨gb177, 2, none⟩ = some (.bool false) := (blk_cell BK177.out 2).trans rfl; have hcz84_3 : w82.cell? ⟨gb177, 3, none⟩ = some (.bool false) := (blk_cell BK177.out 3).trans rfl; have hcz84_4 : w82.cell? ⟨gb177, 4, none⟩ = some (.int .u64 0) := (blk_cell BK177.out 4).trans rfl; have hfz84_0 := blk_frozen BK177.out 0; have hfz84_1 := blk_frozen BK177.out 1; have hfz84_2 := blk_frozen BK177.out 2; have hfz84_3 := blk_frozen BK177.out 3; have hfz84_4 := blk_frozen BK177.out 4))
     refine bodyPost_ret (results_ct rfl _ _ gb177 26 #[.int .u8 0, .bool false, .bool false, .bool false, .int .u64 0] (0, 0) _ rfl (by (with_reducible repeat (first | refine blk_drewN ?_ _ | refine blk_drew ?_ | refine blk_alloc ?_ _)); refine blk_put (cs := #[.int .u8 0, .bool false, .bool false, .bool false, .int .u64 0]) ?_ 4 _ rfl; (with_reducible repeat (first | refine blk_drewN ?_ _ | refine blk_drew ?_ | refine blk_alloc ?_ _)); refine blk_put (cs := #[.int .u8 0, .bool false, .bool false, .bool false, .int .u64 0]) ?_ 3 _ rfl; (with_reducible repeat (first | refine blk_drewN ?_ _ | refine blk_drew ?_ | refine blk_alloc ?_ _)); refine blk_put (cs := #[.int .u8 0, .bool false, .bool false, .bool false, .int .u64 0]) ?_ 2 _ rfl; (with_reducible repeat (first | refine blk_drewN ?_ _ | refine blk_drew ?_ | refine blk_alloc ?_ _)); refine blk_put (cs := #[.int .u8 0, .bool false, .bool false, .bool false, .int .u64 0]) ?_ 1 _ rfl; (with_reducible repeat (first | refine blk_drewN ?_ _ | refine blk_drew ?_ | refine blk_alloc ?_ _)); refine blk_put (cs := #[.int .u8 0, .bool false, .bool false, .bool false, .int .u64 0]) ?_ 0 _ rfl; (with_reducible repeat (first | refine blk_drewN ?_ _ | refine blk_drew ?_ | refine blk_alloc ?_ _)); exact BK177.out) Try.underlying26 rfl (by kernel_rfl)) rfl ?_
     exact ⟨by first | rfl | (simp [errW_none, errW_some] <;> rfl) | (simp [*, errW_none, errW_some] <;> rfl), by repeat (first | (with_reducible first | exact HB.out | apply below_alloc | apply pw_below_drewN | apply below_drew1 | refine below_set ?_ GE177.out | refine below_set ?_ GE185.out) | exact HB.out)⟩
   ·
    rw [if_neg c15] at H
    have c15b0 : (x8_3 == 0) = false := beq_eq_false_iff_ne.mpr c15
    have c15b1 : (x8_3 != 0) = true := bne_iff_ne.mpr c15
    simp only [Option.some.injEq, Prod.mk.injEq] at H
    obtain ⟨rfl, rfl, rfl, rfl, rfl, rfl⟩ := H
    have hnb85 := NB177_185.out
    have hnc85 := NB185_177.out
    have hcz86_0 : wc.cell? ⟨gb177, 0, none⟩ = some (.int .u8 0) := (blk_cell BK177.out 0).trans rfl
    have hcz86_1 : wc.cell? ⟨gb177, 1, none⟩ = some (.bool false) := (blk_cell BK177.out 1).trans rfl
    have hcz86_2 : wc.cell? ⟨gb177, 2, none⟩ = some (.bool false) := (blk_cell BK177.out 2).trans rfl
    have hcz86_3 : wc.cell? ⟨gb177, 3, none⟩ = some (.bool false) := (blk_cell BK177.out 3).trans rfl
    have hcz86_4 : wc.cell? ⟨gb177, 4, none⟩ = some (.int .u64 0) := (blk_cell BK177.out 4).trans rfl
    have hfz86_0 := blk_frozen BK177.out 0
    have hfz86_1 := blk_frozen BK177.out 1
    have hfz86_2 := blk_frozen BK177.out 2
    have hfz86_3 := blk_frozen BK177.out 3
    have hfz86_4 := blk_frozen BK177.out 4
    go_wp2
    refine bodyPost_ret (results_ct rfl _ _ gb177 26 #[.int .u8 0, .bool false, .bool false, .bool false, .int .u64 0] (0, 0) _ rfl (by (with_reducible repeat (first | refine blk_drewN ?_ _ | refine blk_drew ?_ | refine blk_alloc ?_ _)); refine blk_put (cs := #[.int .u8 0, .bool false, .bool false, .bool false, .int .u64 0]) ?_ 4 _ rfl; (with_reducible repeat (first | refine blk_drewN ?_ _ | refine blk_drew ?_ | refine blk_alloc ?_ _)); refine blk_put (cs := #[.int .u8 0, .bool false, .bool false, .bool false, .int .u64 0]) ?_ 3 _ rfl; (with_reducible repeat (first | refine blk_drewN ?_ _ | refine blk_drew ?_ | refine blk_alloc ?_ _)); refine blk_put (cs := #[.int .u8 0, .bool false, .bool false, .bool false, .int .u64 0]) ?_ 2 _ rfl; (with_reducible repeat (first | refine blk_drewN ?_ _ | refine blk_drew ?_ | refine blk_alloc ?_ _)); refine blk_put (cs := #[.int .u8 0, .bool false, .bool false, .bool false, .int .u64 0]) ?_ 1 _ rfl; (with_reducible repeat (first | refine blk_drewN ?_ _ | refine blk_drew ?_ | refine blk_alloc ?_ _)); refine blk_put (cs := #[.int .u8 0, .bool false, .bool false, .bool false, .int .u64 0]) ?_ 0 _ rfl; (with_reducible repeat (first | refine blk_drewN ?_ _ | refine blk_drew ?_ | refine blk_alloc ?_ _)); exact BK177.out) Try.underlying26 rfl (by kernel_rfl)) rfl ?_
    exact ⟨by first | rfl | (simp [errW_none, errW_some] <;> rfl) | (simp [*, errW_none, errW_some] <;> rfl), by repeat (first | (with_reducible first | exact HB.out | apply below_alloc | apply pw_below_drewN | apply below_drew1 | refine below_set ?_ GE177.out | refine below_set ?_ GE185.out) | exact HB.out)⟩

end Go.Proofs.Ytmdaaphjndjakaf.PRapsOpens
