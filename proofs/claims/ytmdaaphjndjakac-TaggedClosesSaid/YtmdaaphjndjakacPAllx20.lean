-- Written by a program of this work, after the translation.
import Derived.Test.YtmdaaphjndjakacPAllx0
import Derived.Test.YtmdaaphjndjakacPAllx16
import Derived.Test.YtmdaaphjndjakacPAllx19
namespace Go.Proofs.Ytmdaaphjndjakac.PAll
open Go.RowKit Go.Proofs.YtmdaaphjndjakacW.PrintWords Go.Proofs.YtmdaaphjndjakacW.PrintLast Go.Proofs.YtmdaaphjndjakacW.PrintMore
attribute [local go_sem] max2_int min2_int max_two min_two max_three min_three max_four min_four   -- for this text's walks alone
set_option linter.unusedVariables false
set_option linter.unusedSimpArgs false

/-! ### carouselref03_Close: function 33 -/
mutual
def carouselref03_Close.j0 : Nat → Bool → Int → Int → Int → Bool → Int → Int → ByteArray → Option (ByteArray × Int)
  | 0, _, _, _, _, _, _, _, _ => none
  | k + 1, x19, x218000, x218001, x218002, x218003, x218004, x218005, x218006 => if x19 = true then (some ((⟨#[]⟩ : ByteArray), 3)) else (if x218002 > 7 then (carouselref03_Close.j1 k true x218000 x218001 x218002 x218003 x218004 x218005 x218006) else (if x218004 = 0 then (carouselref03_Close.j1 k true x218000 x218001 x218002 x218003 x218004 x218005 x218006) else (carouselref03_Close.j1 k (decide (x218004 > 4094)) x218000 x218001 x218002 x218003 x218004 x218005 x218006)))
def carouselref03_Close.j1 : Nat → Bool → Int → Int → Int → Bool → Int → Int → ByteArray → Option (ByteArray × Int)
  | 0, _, _, _, _, _, _, _, _ => none
  | k + 1, x32, x218000, x218001, x218002, x218003, x218004, x218005, x218006 => if x32 = true then (some ((⟨#[]⟩ : ByteArray), 4)) else (if x218005 < 1536 then (some ((⟨#[]⟩ : ByteArray), 6)) else (if (wrap64 (18 + (x218006.size : Int))) > 1600 then (some ((⟨#[]⟩ : ByteArray), 2)) else (if x218003 = true then (carouselref03_Close.j2 k (IntKind.u64.wrap ((IntKind.u64.wrap ((IntKind.u64.wrap ((IntKind.u64.wrap (x218002)) * 8192)) + (IntKind.u64.wrap (x218004)))) + 4096)) x218000 x218001 x218002 x218003 x218004 x218005 x218006) else (carouselref03_Close.j2 k (IntKind.u64.wrap ((IntKind.u64.wrap ((IntKind.u64.wrap (x218002)) * 8192)) + (IntKind.u64.wrap (x218004)))) x218000 x218001 x218002 x218003 x218004 x218005 x218006))))
def carouselref03_Close.j2 : Nat → Int → Int → Int → Int → Bool → Int → Int → ByteArray → Option (ByteArray × Int)
  | 0, _, _, _, _, _, _, _, _ => none
  | k + 1, x4, x218000, x218001, x218002, x218003, x218004, x218005, x218006 => (carouselref02_Bytes.f k x218000).bind fun t221 => ((carouselref02_Bytes.f k x218001).bind fun t222 => (if t221.size + t222.size ≤ 9223372036854775807 then (if t221.size + t222.size + 2 ≤ 9223372036854775807 then ((carouselref01_Put.f k x4 2).bind fun t223 => (if t221.size + t222.size + 2 + t223.size ≤ 9223372036854775807 then ((carouselref01_Put.f k (IntKind.u64.wrap (x218005)) 2).bind fun t224 => (if t221.size + t222.size + 2 + t223.size + t224.size ≤ 9223372036854775807 then (if t221.size + t222.size + 2 + t223.size + t224.size + x218006.size ≤ 9223372036854775807 then (some (((((t221 ++ t222) ++ (⟨#[129, 0]⟩ : ByteArray)) ++ t223) ++ t224) ++ x218006, 0)) else (none)) else (none))) else (none))) else (none)) else (none)))
end
def carouselref03_Close.f (k : Nat) (a0_0 : Int) (a0_1 : Int) (a0_2 : Int) (a0_3 : Bool) (a0_4 : Int) (a0_5 : Int) (a0_6 : ByteArray) : Option (ByteArray × Int) := (carouselref02_May.f a0_0).bind fun t218 => (if t218 = true then ((carouselref02_May.f a0_1).bind fun t219 => (if t219 = true then ((carouselref02_Group.f a0_1).bind fun t220 => (carouselref03_Close.j0 k t220 a0_0 a0_1 a0_2 a0_3 a0_4 a0_5 a0_6)) else (carouselref03_Close.j0 k true a0_0 a0_1 a0_2 a0_3 a0_4 a0_5 a0_6))) else (carouselref03_Close.j0 k true a0_0 a0_1 a0_2 a0_3 a0_4 a0_5 a0_6))
theorem carouselref03_Close.mono_l : ∀ k, (∀ y0 y1 y2 y3 y4 y5 y6 y7, LeO (carouselref03_Close.j0 k y0 y1 y2 y3 y4 y5 y6 y7) (carouselref03_Close.j0 (k + 1) y0 y1 y2 y3 y4 y5 y6 y7)) ∧ (∀ y0 y1 y2 y3 y4 y5 y6 y7, LeO (carouselref03_Close.j1 k y0 y1 y2 y3 y4 y5 y6 y7) (carouselref03_Close.j1 (k + 1) y0 y1 y2 y3 y4 y5 y6 y7)) ∧ (∀ y0 y1 y2 y3 y4 y5 y6 y7, LeO (carouselref03_Close.j2 k y0 y1 y2 y3 y4 y5 y6 y7) (carouselref03_Close.j2 (k + 1) y0 y1 y2 y3 y4 y5 y6 y7))
  | 0 => ⟨fun _ _ _ _ _ _ _ _ r h => by simp [carouselref03_Close.j0] at h, fun _ _ _ _ _ _ _ _ r h => by simp [carouselref03_Close.j1] at h, fun _ _ _ _ _ _ _ _ r h => by simp [carouselref03_Close.j2] at h⟩
  | k + 1 => by
    obtain ⟨ih0, ih1, ih2⟩ := carouselref03_Close.mono_l k
    refine ⟨?_, ?_, ?_⟩
    · intro y0 y1 y2 y3 y4 y5 y6 y7
      unfold carouselref03_Close.j0
      repeat' first
      | (with_reducible exact ih0 _ _ _ _ _ _ _ _)
      | (with_reducible exact ih1 _ _ _ _ _ _ _ _)
      | (with_reducible exact ih2 _ _ _ _ _ _ _ _)
      | (with_reducible exact carouselref01_Put.mono _ _ _)
      | (with_reducible exact carouselref02_Bytes.mono _ _)
      | (with_reducible exact LeO.refl _)
      | (with_reducible exact LeO.none _)
      | (with_reducible refine LeO.ite ?_ ?_)
      | (with_reducible refine LeO.bind ?_ (fun _ => ?_))
      | exact ih0 _ _ _ _ _ _ _ _
      | exact ih1 _ _ _ _ _ _ _ _
      | exact ih2 _ _ _ _ _ _ _ _
      | exact carouselref01_Put.mono _ _ _
      | exact carouselref02_Bytes.mono _ _
      | exact LeO.none _
      | refine LeO.ite ?_ ?_
      | refine LeO.bind ?_ (fun _ => ?_)
    · intro y0 y1 y2 y3 y4 y5 y6 y7
      unfold carouselref03_Close.j1
      repeat' first
      | (with_reducible exact ih0 _ _ _ _ _ _ _ _)
      | (with_reducible exact ih1 _ _ _ _ _ _ _ _)
      | (with_reducible exact ih2 _ _ _ _ _ _ _ _)
      | (with_reducible exact carouselref01_Put.mono _ _ _)
      | (with_reducible exact carouselref02_Bytes.mono _ _)
      | (with_reducible exact LeO.refl _)
      | (with_reducible exact LeO.none _)
      | (with_reducible refine LeO.ite ?_ ?_)
      | (with_reducible refine LeO.bind ?_ (fun _ => ?_))
      | exact ih0 _ _ _ _ _ _ _ _
      | exact ih1 _ _ _ _ _ _ _ _
      | exact ih2 _ _ _ _ _ _ _ _
      | exact carouselref01_Put.mono _ _ _
      | exact carouselref02_Bytes.mono _ _
      | exact LeO.none _
      | refine LeO.ite ?_ ?_
      | refine LeO.bind ?_ (fun _ => ?_)
    · intro y0 y1 y2 y3 y4 y5 y6 y7
      unfold carouselref03_Close.j2
      repeat' first
      | (with_reducible exact ih0 _ _ _ _ _ _ _ _)
      | (with_reducible exact ih1 _ _ _ _ _ _ _ _)
      | (with_reducible exact ih2 _ _ _ _ _ _ _ _)
      | (with_reducible exact carouselref01_Put.mono _ _ _)
      | (with_reducible exact carouselref02_Bytes.mono _ _)
      | (with_reducible exact LeO.refl _)
      | (with_reducible exact LeO.none _)
      | (with_reducible refine LeO.ite ?_ ?_)
      | (with_reducible refine LeO.bind ?_ (fun _ => ?_))
      | exact ih0 _ _ _ _ _ _ _ _
      | exact ih1 _ _ _ _ _ _ _ _
      | exact ih2 _ _ _ _ _ _ _ _
      | exact carouselref01_Put.mono _ _ _
      | exact carouselref02_Bytes.mono _ _
      | exact LeO.none _
      | refine LeO.ite ?_ ?_
      | refine LeO.bind ?_ (fun _ => ?_)
theorem carouselref03_Close.mono : ∀ a0 a1 a2 a3 a4 a5 a6 k, LeO (carouselref03_Close.f k a0 a1 a2 a3 a4 a5 a6) (carouselref03_Close.f (k + 1) a0 a1 a2 a3 a4 a5 a6) := by
  intro a0 a1 a2 a3 a4 a5 a6 k
  obtain ⟨ih0, ih1, ih2⟩ := carouselref03_Close.mono_l k
  unfold carouselref03_Close.f
  repeat' first
      | (with_reducible exact ih0 _ _ _ _ _ _ _ _)
      | (with_reducible exact ih1 _ _ _ _ _ _ _ _)
      | (with_reducible exact ih2 _ _ _ _ _ _ _ _)
      | (with_reducible exact carouselref01_Put.mono _ _ _)
      | (with_reducible exact carouselref02_Bytes.mono _ _)
      | (with_reducible exact LeO.refl _)
      | (with_reducible exact LeO.none _)
      | (with_reducible refine LeO.ite ?_ ?_)
      | (with_reducible refine LeO.bind ?_ (fun _ => ?_))
      | exact ih0 _ _ _ _ _ _ _ _
      | exact ih1 _ _ _ _ _ _ _ _
      | exact ih2 _ _ _ _ _ _ _ _
      | exact carouselref01_Put.mono _ _ _
      | exact carouselref02_Bytes.mono _ _
      | exact LeO.none _
      | refine LeO.ite ?_ ?_
      | refine LeO.bind ?_ (fun _ => ?_)
def carouselref03_Close.T12 : Bool × List (List Nat × List Nat) := (true, [([], []), ([0], [0]), ([1], [1]), ([], []), ([3], [3]), ([4, 2], [4]), ([2, 5], [2, 5]), ([6], [6]), ([], []), ([8, 5], [8]), ([7, 9], [7, 9]), ([], []), ([11], [11]), ([12], [12]), ([13, 9], [13]), ([10, 14], [10, 14]), ([], []), ([16], [16]), ([15, 17], [15, 17]), ([18, 14, 0, 1, 2, 3, 4, 5, 6, 7, 8, 9, 10, 11, 12, 13, 14, 15, 16, 17, 18], [18]), ([19, 0, 1, 2, 3, 4, 5, 6, 7, 8, 9, 10, 11, 12, 13, 14, 15, 16, 17, 18, 19], [])])
def carouselref03_Close.B12 : List Nat := [0, 1, 3, 0, 8, 31, 63, 127, 0, 319, 1023, 0, 2048, 6144, 15167, 32767, 0, 65536, 262143, 524287, 1048575]
theorem carouselref03_Close.tab12 : rtab .any (opsOf Try.f33 12) = carouselref03_Close.T12 := by kernel_rfl
theorem carouselref03_Close.bits12 : waitsOk carouselref03_Close.T12.2 carouselref03_Close.B12 = true := by kernel_rfl
set_option maxHeartbeats 8000000 in
set_option maxRecDepth 100000 in
theorem carouselref03_Close.calls (k : Nat) (a0_0 : Int) (a0_1 : Int) (a0_2 : Int) (a0_3 : Bool) (a0_4 : Int) (a0_5 : Int) (a0_6 : ByteArray) (r1 : ByteArray) (r2 : Int) (w : World) (h : carouselref03_Close.f k a0_0 a0_1 a0_2 a0_3 a0_4 a0_5 a0_6 = some (r1, r2)) :
    Calls Try.prog 33 #[.agg #[.int .u64 a0_0, .int .u64 a0_1, .int .u8 a0_2, .bool a0_3, .int .u16 a0_4, .int .u16 a0_5, .string a0_6]] w fun e w' => e = .returned (.tuple #[.string r1, .int .i64 r2]) ∧ Below w.heap.size w w' := by
  have hu81 := Try.underlying81
  have HB := Aside0.mk (Below.refl w.heap.size w)
  have H : ((carouselref02_May.f a0_0).bind fun t218 => (if t218 = true then ((carouselref02_May.f a0_1).bind fun t219 => (if t219 = true then ((carouselref02_Group.f a0_1).bind fun t220 => (carouselref03_Close.j0 k t220 a0_0 a0_1 a0_2 a0_3 a0_4 a0_5 a0_6)) else (carouselref03_Close.j0 k true a0_0 a0_1 a0_2 a0_3 a0_4 a0_5 a0_6))) else (carouselref03_Close.j0 k true a0_0 a0_1 a0_2 a0_3 a0_4 a0_5 a0_6))) = some (r1, r2) := h
  clear h
  have HC2 := Aside0.mk H
  clear H
  go_enter Try.func33, Try.ntmps33
  go_upto_region 1 with (first | ((with_reducible refine gate_dst (N := 1) rfl ?_); refine box_event ?hg (N := 1) ?hd (cs := #[.int .u64 a0_0, .int .u64 a0_1, .int .u8 a0_2, .bool a0_3, .int .u16 a0_4, .int .u16 a0_5, .string a0_6]) (t := 81) ?hr ?_; (case hd => rfl); (case hg => rfl); (case hr => first | (go_simp; done) | (go_simp; rfl)); intro gb217 hg w3 hbox hb; have n0_ := Aside0.mk (below_step (by repeat (first | (with_reducible first | exact HB.out | apply below_alloc | apply pw_below_drewN | apply below_drew1) | exact HB.out)) hb); have n1_ := Aside0.mk (hbox); have n2_ := Aside0.mk ((by rw [hg]; exact (below_size (by repeat (first | (with_reducible first | exact HB.out | apply below_alloc | apply pw_below_drewN | apply below_drew1) | exact HB.out))) : w.heap.size ≤ gb217)); have n3_ := Aside0.mk ((by rw [hg]; exact (below_size (by repeat (first | (with_reducible first | exact HB.out | apply below_alloc | apply pw_below_drewN | apply below_drew1) | exact HB.out))) : w.heap.size ≤ gb217)); clear HB; have HB := n0_; have BK217 := n1_; have GW217 := n2_; have GE217 := n3_; clear n0_ n1_ n2_ n3_; clear hb hbox hg))
  (try simp only [Act.put, List.setIfInBounds_toArray, List.set_cons_zero, List.set_cons_succ])
  go_cut [19] (fun v19 wc => ∃ (kq : Nat) (x19_1 : Bool), v19 = .bool x19_1 ∧ Aside0 (carouselref03_Close.j0 kq x19_1 a0_0 a0_1 a0_2 a0_3 a0_4 a0_5 a0_6 = some (r1, r2)) ∧ Aside0 (kq ≤ k) ∧ Aside0 (wc.heap[gb217]? = some (.cells #[.int .u64 a0_0, .int .u64 a0_1, .int .u8 a0_2, .bool a0_3, .int .u16 a0_4, .int .u16 a0_5, .string a0_6] 81 (0, 0))) ∧ Aside0 (Below w.heap.size w wc))
  case first =>
    have H := HC2.out
    clear HC2
    replace H := Option.bind_eq_some_iff.mp H
    obtain ⟨t218, A40, H⟩ := H
    replace H : (if t218 = true then ((carouselref02_May.f a0_1).bind fun t219 => (if t219 = true then ((carouselref02_Group.f a0_1).bind fun t220 => (carouselref03_Close.j0 k t220 a0_0 a0_1 a0_2 a0_3 a0_4 a0_5 a0_6)) else (carouselref03_Close.j0 k true a0_0 a0_1 a0_2 a0_3 a0_4 a0_5 a0_6))) else (carouselref03_Close.j0 k true a0_0 a0_1 a0_2 a0_3 a0_4 a0_5 a0_6)) = some (r1, r2) := H
    have A4 := Aside0.mk A40
    clear A40
    by_cases c5 : t218 = true
    · subst c5
      have H1 : ((carouselref02_May.f a0_1).bind fun t219 => (if t219 = true then ((carouselref02_Group.f a0_1).bind fun t220 => (carouselref03_Close.j0 k t220 a0_0 a0_1 a0_2 a0_3 a0_4 a0_5 a0_6)) else (carouselref03_Close.j0 k true a0_0 a0_1 a0_2 a0_3 a0_4 a0_5 a0_6))) = some (r1, r2) := by rw [if_pos rfl] at H; exact H
      clear H
      have H := H1
      clear H1
      replace H := Option.bind_eq_some_iff.mp H
      obtain ⟨t219, A60, H⟩ := H
      replace H : (if t219 = true then ((carouselref02_Group.f a0_1).bind fun t220 => (carouselref03_Close.j0 k t220 a0_0 a0_1 a0_2 a0_3 a0_4 a0_5 a0_6)) else (carouselref03_Close.j0 k true a0_0 a0_1 a0_2 a0_3 a0_4 a0_5 a0_6)) = some (r1, r2) := H
      have A6 := Aside0.mk A60
      clear A60
      by_cases c7 : t219 = true
      · subst c7
        have H1 : ((carouselref02_Group.f a0_1).bind fun t220 => (carouselref03_Close.j0 k t220 a0_0 a0_1 a0_2 a0_3 a0_4 a0_5 a0_6)) = some (r1, r2) := by rw [if_pos rfl] at H; exact H
        clear H
        have H := H1
        clear H1
        replace H := Option.bind_eq_some_iff.mp H
        obtain ⟨t220, A80, H⟩ := H
        replace H : (carouselref03_Close.j0 k t220 a0_0 a0_1 a0_2 a0_3 a0_4 a0_5 a0_6) = some (r1, r2) := H
        have A8 := Aside0.mk A80
        clear A80
        have H' := Aside0.mk H
        clear H
        have hcz9_0 : w3.cell? ⟨gb217, 0, none⟩ = some (.int .u64 a0_0) := (blk_cell BK217.out 0).trans rfl
        have hcz9_1 : w3.cell? ⟨gb217, 1, none⟩ = some (.int .u64 a0_1) := (blk_cell BK217.out 1).trans rfl
        have hcz9_2 : w3.cell? ⟨gb217, 2, none⟩ = some (.int .u8 a0_2) := (blk_cell BK217.out 2).trans rfl
        have hcz9_3 : w3.cell? ⟨gb217, 3, none⟩ = some (.bool a0_3) := (blk_cell BK217.out 3).trans rfl
        have hcz9_4 : w3.cell? ⟨gb217, 4, none⟩ = some (.int .u16 a0_4) := (blk_cell BK217.out 4).trans rfl
        have hcz9_5 : w3.cell? ⟨gb217, 5, none⟩ = some (.int .u16 a0_5) := (blk_cell BK217.out 5).trans rfl
        have hcz9_6 : w3.cell? ⟨gb217, 6, none⟩ = some (.string a0_6) := (blk_cell BK217.out 6).trans rfl
        have hfz9_0 := blk_frozen BK217.out 0
        have hfz9_1 := blk_frozen BK217.out 1
        have hfz9_2 := blk_frozen BK217.out 2
        have hfz9_3 := blk_frozen BK217.out 3
        have hfz9_4 := blk_frozen BK217.out 4
        have hfz9_5 := blk_frozen BK217.out 5
        have hfz9_6 := blk_frozen BK217.out 6
        go_wp2_with (first | ((with_reducible refine gate_callee (f := 53) rfl ?_); refine goesL_ (some 7) rfl rfl Try.func53 (by kernel_rfl) rfl #[.int .u64 a0_0] rfl (by (try simp only [List.map_toArray, List.map_cons, List.map_nil]); first | done | rfl | (simp only [List.length_drop, List.length_take]; rfl)) ?_; (with_reducible refine (carouselref02_May.calls a0_0 true _ A4.out).mono ?_); rintro e w' ⟨rfl, ⟨nd, rfl⟩⟩; refine ⟨_, rfl, ?_⟩) | (go_at_call 53; (with_reducible refine (carouselref02_May.calls a0_1 true _ A6.out).mono ?_); rintro e w' ⟨rfl, ⟨nd, rfl⟩⟩) | (go_at_call 54; (with_reducible refine (carouselref02_Group.calls a0_1 t220 _ A8.out).mono ?_); rintro e w' ⟨rfl, ⟨nd, rfl⟩⟩))
        go_meet
        case rel => exact ⟨_, (t220), (by first | rfl | (simp; done) | (simp [*]; done)), H', ⟨by first | omega | exact Nat.le_refl _⟩, ⟨by (with_reducible repeat (first | refine blk_drewN ?_ _ | refine blk_drew ?_ | refine blk_alloc ?_ _)); exact BK217.out⟩, ⟨by repeat (first | (with_reducible first | exact HB.out | apply below_alloc | apply pw_below_drewN | apply below_drew1 | refine below_set ?_ GE217.out) | exact HB.out)⟩⟩
      · replace c7 := Bool.eq_false_iff.mpr c7
        subst c7
        have H1 : (carouselref03_Close.j0 k true a0_0 a0_1 a0_2 a0_3 a0_4 a0_5 a0_6) = some (r1, r2) := by rw [if_neg (show ¬ (false = true) by decide)] at H; exact H
        clear H
        have H := H1
        clear H1
        have H' := Aside0.mk H
        clear H
        have hcz10_0 : w3.cell? ⟨gb217, 0, none⟩ = some (.int .u64 a0_0) := (blk_cell BK217.out 0).trans rfl
        have hcz10_1 : w3.cell? ⟨gb217, 1, none⟩ = some (.int .u64 a0_1) := (blk_cell BK217.out 1).trans rfl
        have hcz10_2 : w3.cell? ⟨gb217, 2, none⟩ = some (.int .u8 a0_2) := (blk_cell BK217.out 2).trans rfl
        have hcz10_3 : w3.cell? ⟨gb217, 3, none⟩ = some (.bool a0_3) := (blk_cell BK217.out 3).trans rfl
        have hcz10_4 : w3.cell? ⟨gb217, 4, none⟩ = some (.int .u16 a0_4) := (blk_cell BK217.out 4).trans rfl
        have hcz10_5 : w3.cell? ⟨gb217, 5, none⟩ = some (.int .u16 a0_5) := (blk_cell BK217.out 5).trans rfl
        have hcz10_6 : w3.cell? ⟨gb217, 6, none⟩ = some (.string a0_6) := (blk_cell BK217.out 6).trans rfl
        have hfz10_0 := blk_frozen BK217.out 0
        have hfz10_1 := blk_frozen BK217.out 1
        have hfz10_2 := blk_frozen BK217.out 2
        have hfz10_3 := blk_frozen BK217.out 3
        have hfz10_4 := blk_frozen BK217.out 4
        have hfz10_5 := blk_frozen BK217.out 5
        have hfz10_6 := blk_frozen BK217.out 6
        go_wp2_with (first | ((with_reducible refine gate_callee (f := 53) rfl ?_); refine goesL_ (some 7) rfl rfl Try.func53 (by kernel_rfl) rfl #[.int .u64 a0_0] rfl (by (try simp only [List.map_toArray, List.map_cons, List.map_nil]); first | done | rfl | (simp only [List.length_drop, List.length_take]; rfl)) ?_; (with_reducible refine (carouselref02_May.calls a0_0 true _ A4.out).mono ?_); rintro e w' ⟨rfl, ⟨nd, rfl⟩⟩; refine ⟨_, rfl, ?_⟩) | (go_at_call 53; (with_reducible refine (carouselref02_May.calls a0_1 false _ A6.out).mono ?_); rintro e w' ⟨rfl, ⟨nd, rfl⟩⟩))
        go_meet
        case rel => exact ⟨_, (true), (by first | rfl | (simp; done) | (simp [*]; done)), H', ⟨by first | omega | exact Nat.le_refl _⟩, ⟨by (with_reducible repeat (first | refine blk_drewN ?_ _ | refine blk_drew ?_ | refine blk_alloc ?_ _)); exact BK217.out⟩, ⟨by repeat (first | (with_reducible first | exact HB.out | apply below_alloc | apply pw_below_drewN | apply below_drew1 | refine below_set ?_ GE217.out) | exact HB.out)⟩⟩
    · replace c5 := Bool.eq_false_iff.mpr c5
      subst c5
      have H1 : (carouselref03_Close.j0 k true a0_0 a0_1 a0_2 a0_3 a0_4 a0_5 a0_6) = some (r1, r2) := by rw [if_neg (show ¬ (false = true) by decide)] at H; exact H
      clear H
      have H := H1
      clear H1
      have H' := Aside0.mk H
      clear H
      have hcz11_0 : w3.cell? ⟨gb217, 0, none⟩ = some (.int .u64 a0_0) := (blk_cell BK217.out 0).trans rfl
      have hcz11_1 : w3.cell? ⟨gb217, 1, none⟩ = some (.int .u64 a0_1) := (blk_cell BK217.out 1).trans rfl
      have hcz11_2 : w3.cell? ⟨gb217, 2, none⟩ = some (.int .u8 a0_2) := (blk_cell BK217.out 2).trans rfl
      have hcz11_3 : w3.cell? ⟨gb217, 3, none⟩ = some (.bool a0_3) := (blk_cell BK217.out 3).trans rfl
      have hcz11_4 : w3.cell? ⟨gb217, 4, none⟩ = some (.int .u16 a0_4) := (blk_cell BK217.out 4).trans rfl
      have hcz11_5 : w3.cell? ⟨gb217, 5, none⟩ = some (.int .u16 a0_5) := (blk_cell BK217.out 5).trans rfl
      have hcz11_6 : w3.cell? ⟨gb217, 6, none⟩ = some (.string a0_6) := (blk_cell BK217.out 6).trans rfl
      have hfz11_0 := blk_frozen BK217.out 0
      have hfz11_1 := blk_frozen BK217.out 1
      have hfz11_2 := blk_frozen BK217.out 2
      have hfz11_3 := blk_frozen BK217.out 3
      have hfz11_4 := blk_frozen BK217.out 4
      have hfz11_5 := blk_frozen BK217.out 5
      have hfz11_6 := blk_frozen BK217.out 6
      go_wp2_with (first | ((with_reducible refine gate_callee (f := 53) rfl ?_); refine goesL_ (some 7) rfl rfl Try.func53 (by kernel_rfl) rfl #[.int .u64 a0_0] rfl (by (try simp only [List.map_toArray, List.map_cons, List.map_nil]); first | done | rfl | (simp only [List.length_drop, List.length_take]; rfl)) ?_; (with_reducible refine (carouselref02_May.calls a0_0 false _ A4.out).mono ?_); rintro e w' ⟨rfl, ⟨nd, rfl⟩⟩; refine ⟨_, rfl, ?_⟩))
      go_meet
      case rel => exact ⟨_, (true), (by first | rfl | (simp; done) | (simp [*]; done)), H', ⟨by first | omega | exact Nat.le_refl _⟩, ⟨by (with_reducible repeat (first | refine blk_drewN ?_ _ | refine blk_drew ?_ | refine blk_alloc ?_ _)); exact BK217.out⟩, ⟨by repeat (first | (with_reducible first | exact HB.out | apply below_alloc | apply pw_below_drewN | apply below_drew1 | refine below_set ?_ GE217.out) | exact HB.out)⟩⟩
  case rest =>
    clear HC2
    try clear p2
    try clear c3
    try clear c5
    try clear c7
    try clear hcz10_0
    try clear hcz10_1
    try clear hcz10_2
    try clear hcz10_3
    try clear hcz10_4
    try clear hcz10_5
    try clear hcz10_6
    try clear hcz11_0
    try clear hcz11_1
    try clear hcz11_2
    try clear hcz11_3
    try clear hcz11_4
    try clear hcz11_5
    try clear hcz11_6
    try clear hcz9_0
    try clear hcz9_1
    try clear hcz9_2
    try clear hcz9_3
    try clear hcz9_4
    try clear hcz9_5
    try clear hcz9_6
    try clear hfz10_0
    try clear hfz10_1
    try clear hfz10_2
    try clear hfz10_3
    try clear hfz10_4
    try clear hfz10_5
    try clear hfz10_6
    try clear hfz11_0
    try clear hfz11_1
    try clear hfz11_2
    try clear hfz11_3
    try clear hfz11_4
    try clear hfz11_5
    try clear hfz11_6
    try clear hfz9_0
    try clear hfz9_1
    try clear hfz9_2
    try clear hfz9_3
    try clear hfz9_4
    try clear hfz9_5
    try clear hfz9_6
    obtain ⟨kq, x19_1, rfl, HA, HJ1, BK217, HB⟩ := hcut
    cases kq with
    | zero => exact absurd HA.out (by simp [carouselref03_Close.j0])
    | succ kj1 =>
      have H := HA.out
      clear HA
      simp only [carouselref03_Close.j0] at H
      by_cases c12 : x19_1 = true
      · subst c12
        have H1 : (some ((⟨#[]⟩ : ByteArray), 3)) = some (r1, r2) := by rw [if_pos rfl] at H; exact H
        clear H
        have H := H1
        clear H1
        simp only [Option.some.injEq, Prod.mk.injEq] at H
        obtain ⟨rfl, rfl⟩ := H
        go_wp2
        go_ret2
        exact ⟨by first | rfl | (simp [errW_none, errW_some] <;> rfl) | (simp [*, errW_none, errW_some] <;> rfl), by repeat (first | (with_reducible first | exact HB.out | apply below_alloc | apply pw_below_drewN | apply below_drew1 | refine below_set ?_ GE217.out) | exact HB.out)⟩
      · replace c12 := Bool.eq_false_iff.mpr c12
        subst c12
        have H1 : (if a0_2 > 7 then (carouselref03_Close.j1 kj1 true a0_0 a0_1 a0_2 a0_3 a0_4 a0_5 a0_6) else (if a0_4 = 0 then (carouselref03_Close.j1 kj1 true a0_0 a0_1 a0_2 a0_3 a0_4 a0_5 a0_6) else (carouselref03_Close.j1 kj1 (decide (a0_4 > 4094)) a0_0 a0_1 a0_2 a0_3 a0_4 a0_5 a0_6))) = some (r1, r2) := by rw [if_neg (show ¬ (false = true) by decide)] at H; exact H
        clear H
        have H := H1
        clear H1
        have HC13 := Aside0.mk H
        clear H
        go_upto_region 3 with (fail)
        go_cut [32] (fun v32 wc => ∃ (kq : Nat) (x32_12 : Bool), v32 = .bool x32_12 ∧ Aside0 (carouselref03_Close.j1 kq x32_12 a0_0 a0_1 a0_2 a0_3 a0_4 a0_5 a0_6 = some (r1, r2)) ∧ Aside0 (kq ≤ kj1) ∧ Aside0 (wc.heap[gb217]? = some (.cells #[.int .u64 a0_0, .int .u64 a0_1, .int .u8 a0_2, .bool a0_3, .int .u16 a0_4, .int .u16 a0_5, .string a0_6] 81 (0, 0))) ∧ Aside0 (Below w.heap.size w wc))
        case first =>
          have H := HC13.out
          clear HC13
          by_cases c14 : a0_2 > 7
          · rw [if_pos c14] at H
            have c14b0 : decide (7 < a0_2) = true := decide_eq_true c14
            clear c14
            (first | rw [c14b0] | (simp only [i64_w, i32_w]; rw [c14b0]) | skip)
            have H' := Aside0.mk H
            clear H
            have hcz15_0 : wc.cell? ⟨gb217, 0, none⟩ = some (.int .u64 a0_0) := (blk_cell BK217.out 0).trans rfl
            have hcz15_1 : wc.cell? ⟨gb217, 1, none⟩ = some (.int .u64 a0_1) := (blk_cell BK217.out 1).trans rfl
            have hcz15_2 : wc.cell? ⟨gb217, 2, none⟩ = some (.int .u8 a0_2) := (blk_cell BK217.out 2).trans rfl
            have hcz15_3 : wc.cell? ⟨gb217, 3, none⟩ = some (.bool a0_3) := (blk_cell BK217.out 3).trans rfl
            have hcz15_4 : wc.cell? ⟨gb217, 4, none⟩ = some (.int .u16 a0_4) := (blk_cell BK217.out 4).trans rfl
            have hcz15_5 : wc.cell? ⟨gb217, 5, none⟩ = some (.int .u16 a0_5) := (blk_cell BK217.out 5).trans rfl
            have hcz15_6 : wc.cell? ⟨gb217, 6, none⟩ = some (.string a0_6) := (blk_cell BK217.out 6).trans rfl
            have hfz15_0 := blk_frozen BK217.out 0
            have hfz15_1 := blk_frozen BK217.out 1
            have hfz15_2 := blk_frozen BK217.out 2
            have hfz15_3 := blk_frozen BK217.out 3
            have hfz15_4 := blk_frozen BK217.out 4
            have hfz15_5 := blk_frozen BK217.out 5
            have hfz15_6 := blk_frozen BK217.out 6
            go_wp2
            go_meet
            case rel => exact ⟨_, (true), (by first | rfl | (simp; done) | (simp [*]; done)), H', ⟨by have := HJ1.out; first | omega | exact Nat.le_refl _⟩, ⟨by (with_reducible repeat (first | refine blk_drewN ?_ _ | refine blk_drew ?_ | refine blk_alloc ?_ _)); exact BK217.out⟩, ⟨by repeat (first | (with_reducible first | exact HB.out | apply below_alloc | apply pw_below_drewN | apply below_drew1 | refine below_set ?_ GE217.out) | exact HB.out)⟩⟩
          · rw [if_neg c14] at H
            have c14b0 : decide (7 < a0_2) = false := decide_eq_false c14
            clear c14
            (first | rw [c14b0] | (simp only [i64_w, i32_w]; rw [c14b0]) | skip)
            by_cases c16 : a0_4 = 0
            · rw [if_pos c16] at H
              have c16b0 : (a0_4 == 0) = true := beq_iff_eq.mpr c16
              have c16b1 : (a0_4 != 0) = false := bne_eq_false_iff_eq.mpr c16
              clear c16
              have H' := Aside0.mk H
              clear H
              have hcz17_0 : wc.cell? ⟨gb217, 0, none⟩ = some (.int .u64 a0_0) := (blk_cell BK217.out 0).trans rfl
              have hcz17_1 : wc.cell? ⟨gb217, 1, none⟩ = some (.int .u64 a0_1) := (blk_cell BK217.out 1).trans rfl
              have hcz17_2 : wc.cell? ⟨gb217, 2, none⟩ = some (.int .u8 a0_2) := (blk_cell BK217.out 2).trans rfl
              have hcz17_3 : wc.cell? ⟨gb217, 3, none⟩ = some (.bool a0_3) := (blk_cell BK217.out 3).trans rfl
              have hcz17_4 : wc.cell? ⟨gb217, 4, none⟩ = some (.int .u16 a0_4) := (blk_cell BK217.out 4).trans rfl
              have hcz17_5 : wc.cell? ⟨gb217, 5, none⟩ = some (.int .u16 a0_5) := (blk_cell BK217.out 5).trans rfl
              have hcz17_6 : wc.cell? ⟨gb217, 6, none⟩ = some (.string a0_6) := (blk_cell BK217.out 6).trans rfl
              have hfz17_0 := blk_frozen BK217.out 0
              have hfz17_1 := blk_frozen BK217.out 1
              have hfz17_2 := blk_frozen BK217.out 2
              have hfz17_3 := blk_frozen BK217.out 3
              have hfz17_4 := blk_frozen BK217.out 4
              have hfz17_5 := blk_frozen BK217.out 5
              have hfz17_6 := blk_frozen BK217.out 6
              go_wp2
              go_meet
              case rel => exact ⟨_, (true), (by first | rfl | (simp; done) | (simp [*]; done)), H', ⟨by have := HJ1.out; first | omega | exact Nat.le_refl _⟩, ⟨by (with_reducible repeat (first | refine blk_drewN ?_ _ | refine blk_drew ?_ | refine blk_alloc ?_ _)); exact BK217.out⟩, ⟨by repeat (first | (with_reducible first | exact HB.out | apply below_alloc | apply pw_below_drewN | apply below_drew1 | refine below_set ?_ GE217.out) | exact HB.out)⟩⟩
            · rw [if_neg c16] at H
              have c16b0 : (a0_4 == 0) = false := beq_eq_false_iff_ne.mpr c16
              have c16b1 : (a0_4 != 0) = true := bne_iff_ne.mpr c16
              have H' := Aside0.mk H
              clear H
              have hcz18_0 : wc.cell? ⟨gb217, 0, none⟩ = some (.int .u64 a0_0) := (blk_cell BK217.out 0).trans rfl
              have hcz18_1 : wc.cell? ⟨gb217, 1, none⟩ = some (.int .u64 a0_1) := (blk_cell BK217.out 1).trans rfl
              have hcz18_2 : wc.cell? ⟨gb217, 2, none⟩ = some (.int .u8 a0_2) := (blk_cell BK217.out 2).trans rfl
              have hcz18_3 : wc.cell? ⟨gb217, 3, none⟩ = some (.bool a0_3) := (blk_cell BK217.out 3).trans rfl
              have hcz18_4 : wc.cell? ⟨gb217, 4, none⟩ = some (.int .u16 a0_4) := (blk_cell BK217.out 4).trans rfl
              have hcz18_5 : wc.cell? ⟨gb217, 5, none⟩ = some (.int .u16 a0_5) := (blk_cell BK217.out 5).trans rfl
              have hcz18_6 : wc.cell? ⟨gb217, 6, none⟩ = some (.string a0_6) := (blk_cell BK217.out 6).trans rfl
              have hfz18_0 := blk_frozen BK217.out 0
              have hfz18_1 := blk_frozen BK217.out 1
              have hfz18_2 := blk_frozen BK217.out 2
              have hfz18_3 := blk_frozen BK217.out 3
              have hfz18_4 := blk_frozen BK217.out 4
              have hfz18_5 := blk_frozen BK217.out 5
              have hfz18_6 := blk_frozen BK217.out 6
              go_wp2
              go_meet
              case rel => exact ⟨_, (decide (a0_4 > 4094)), (by first | rfl | (simp; done) | (simp [*]; done)), H', ⟨by have := HJ1.out; first | omega | exact Nat.le_refl _⟩, ⟨by (with_reducible repeat (first | refine blk_drewN ?_ _ | refine blk_drew ?_ | refine blk_alloc ?_ _)); exact BK217.out⟩, ⟨by repeat (first | (with_reducible first | exact HB.out | apply below_alloc | apply pw_below_drewN | apply below_drew1 | refine below_set ?_ GE217.out) | exact HB.out)⟩⟩
        case rest =>
          clear HC13
          try clear c1
          try clear p2
          try clear c3
          try clear c5
          try clear c7
          try clear c12
          try clear c14
          try clear c14b0
          try clear c16
          try clear c16b0
          try clear c16b1
          try clear hcz10_0
          try clear hcz10_1
          try clear hcz10_2
          try clear hcz10_3
          try clear hcz10_4
          try clear hcz10_5
          try clear hcz10_6
          try clear hcz11_0
          try clear hcz11_1
          try clear hcz11_2
          try clear hcz11_3
          try clear hcz11_4
          try clear hcz11_5
          try clear hcz11_6
          try clear hcz15_0
          try clear hcz15_1
          try clear hcz15_2
          try clear hcz15_3
          try clear hcz15_4
          try clear hcz15_5
          try clear hcz15_6
          try clear hcz17_0
          try clear hcz17_1
          try clear hcz17_2
          try clear hcz17_3
          try clear hcz17_4
          try clear hcz17_5
          try clear hcz17_6
          try clear hcz18_0
          try clear hcz18_1
          try clear hcz18_2
          try clear hcz18_3
          try clear hcz18_4
          try clear hcz18_5
          try clear hcz18_6
          try clear hcz9_0
          try clear hcz9_1
          try clear hcz9_2
          try clear hcz9_3
          try clear hcz9_4
          try clear hcz9_5
          try clear hcz9_6
          try clear hfz10_0
          try clear hfz10_1
          try clear hfz10_2
          try clear hfz10_3
          try clear hfz10_4
          try clear hfz10_5
          try clear hfz10_6
          try clear hfz11_0
          try clear hfz11_1
          try clear hfz11_2
          try clear hfz11_3
          try clear hfz11_4
          try clear hfz11_5
          try clear hfz11_6
          try clear hfz15_0
          try clear hfz15_1
          try clear hfz15_2
          try clear hfz15_3
          try clear hfz15_4
          try clear hfz15_5
          try clear hfz15_6
          try clear hfz17_0
          try clear hfz17_1
          try clear hfz17_2
          try clear hfz17_3
          try clear hfz17_4
          try clear hfz17_5
          try clear hfz17_6
          try clear hfz18_0
          try clear hfz18_1
          try clear hfz18_2
          try clear hfz18_3
          try clear hfz18_4
          try clear hfz18_5
          try clear hfz18_6
          try clear hfz9_0
          try clear hfz9_1
          try clear hfz9_2
          try clear hfz9_3
          try clear hfz9_4
          try clear hfz9_5
          try clear hfz9_6
          try clear p2
          obtain ⟨kq, x32_12, rfl, HA, HJ12, BK217, HB⟩ := hcut
          cases kq with
          | zero => exact absurd HA.out (by simp [carouselref03_Close.j1])
          | succ kj12 =>
            have H := HA.out
            clear HA
            simp only [carouselref03_Close.j1] at H
            by_cases c19 : x32_12 = true
            · subst c19
              have H1 : (some ((⟨#[]⟩ : ByteArray), 4)) = some (r1, r2) := by rw [if_pos rfl] at H; exact H
              clear H
              have H := H1
              clear H1
              simp only [Option.some.injEq, Prod.mk.injEq] at H
              obtain ⟨rfl, rfl⟩ := H
              go_wp2
              go_ret2
              exact ⟨by first | rfl | (simp [errW_none, errW_some] <;> rfl) | (simp [*, errW_none, errW_some] <;> rfl), by repeat (first | (with_reducible first | exact HB.out | apply below_alloc | apply pw_below_drewN | apply below_drew1 | refine below_set ?_ GE217.out) | exact HB.out)⟩
            · replace c19 := Bool.eq_false_iff.mpr c19
              subst c19
              have H1 : (if a0_5 < 1536 then (some ((⟨#[]⟩ : ByteArray), 6)) else (if (wrap64 (18 + (a0_6.size : Int))) > 1600 then (some ((⟨#[]⟩ : ByteArray), 2)) else (if a0_3 = true then (carouselref03_Close.j2 kj12 (IntKind.u64.wrap ((IntKind.u64.wrap ((IntKind.u64.wrap ((IntKind.u64.wrap (a0_2)) * 8192)) + (IntKind.u64.wrap (a0_4)))) + 4096)) a0_0 a0_1 a0_2 a0_3 a0_4 a0_5 a0_6) else (carouselref03_Close.j2 kj12 (IntKind.u64.wrap ((IntKind.u64.wrap ((IntKind.u64.wrap (a0_2)) * 8192)) + (IntKind.u64.wrap (a0_4)))) a0_0 a0_1 a0_2 a0_3 a0_4 a0_5 a0_6)))) = some (r1, r2) := by rw [if_neg (show ¬ (false = true) by decide)] at H; exact H
              clear H
              have H := H1
              clear H1
              by_cases c20 : a0_5 < 1536
              · rw [if_pos c20] at H
                have c20b0 : decide (a0_5 < 1536) = true := decide_eq_true c20
                clear c20
                simp only [Option.some.injEq, Prod.mk.injEq] at H
                obtain ⟨rfl, rfl⟩ := H
                have hcz21_0 : wc.cell? ⟨gb217, 0, none⟩ = some (.int .u64 a0_0) := (blk_cell BK217.out 0).trans rfl
                have hcz21_1 : wc.cell? ⟨gb217, 1, none⟩ = some (.int .u64 a0_1) := (blk_cell BK217.out 1).trans rfl
                have hcz21_2 : wc.cell? ⟨gb217, 2, none⟩ = some (.int .u8 a0_2) := (blk_cell BK217.out 2).trans rfl
                have hcz21_3 : wc.cell? ⟨gb217, 3, none⟩ = some (.bool a0_3) := (blk_cell BK217.out 3).trans rfl
                have hcz21_4 : wc.cell? ⟨gb217, 4, none⟩ = some (.int .u16 a0_4) := (blk_cell BK217.out 4).trans rfl
                have hcz21_5 : wc.cell? ⟨gb217, 5, none⟩ = some (.int .u16 a0_5) := (blk_cell BK217.out 5).trans rfl
                have hcz21_6 : wc.cell? ⟨gb217, 6, none⟩ = some (.string a0_6) := (blk_cell BK217.out 6).trans rfl
                have hfz21_0 := blk_frozen BK217.out 0
                have hfz21_1 := blk_frozen BK217.out 1
                have hfz21_2 := blk_frozen BK217.out 2
                have hfz21_3 := blk_frozen BK217.out 3
                have hfz21_4 := blk_frozen BK217.out 4
                have hfz21_5 := blk_frozen BK217.out 5
                have hfz21_6 := blk_frozen BK217.out 6
                go_wp2
                go_ret2
                exact ⟨by first | rfl | (simp [errW_none, errW_some] <;> rfl) | (simp [*, errW_none, errW_some] <;> rfl), by repeat (first | (with_reducible first | exact HB.out | apply below_alloc | apply pw_below_drewN | apply below_drew1 | refine below_set ?_ GE217.out) | exact HB.out)⟩
              · rw [if_neg c20] at H
                have c20b0 : decide (a0_5 < 1536) = false := decide_eq_false c20
                clear c20
                by_cases c22 : (wrap64 (18 + (a0_6.size : Int))) > 1600
                · rw [if_pos c22] at H
                  have c22b0 : decide (1600 < (wrap64 (18 + (a0_6.size : Int)))) = true := decide_eq_true c22
                  clear c22
                  simp only [Option.some.injEq, Prod.mk.injEq] at H
                  obtain ⟨rfl, rfl⟩ := H
                  have hcz23_0 : wc.cell? ⟨gb217, 0, none⟩ = some (.int .u64 a0_0) := (blk_cell BK217.out 0).trans rfl
                  have hcz23_1 : wc.cell? ⟨gb217, 1, none⟩ = some (.int .u64 a0_1) := (blk_cell BK217.out 1).trans rfl
                  have hcz23_2 : wc.cell? ⟨gb217, 2, none⟩ = some (.int .u8 a0_2) := (blk_cell BK217.out 2).trans rfl
                  have hcz23_3 : wc.cell? ⟨gb217, 3, none⟩ = some (.bool a0_3) := (blk_cell BK217.out 3).trans rfl
                  have hcz23_4 : wc.cell? ⟨gb217, 4, none⟩ = some (.int .u16 a0_4) := (blk_cell BK217.out 4).trans rfl
                  have hcz23_5 : wc.cell? ⟨gb217, 5, none⟩ = some (.int .u16 a0_5) := (blk_cell BK217.out 5).trans rfl
                  have hcz23_6 : wc.cell? ⟨gb217, 6, none⟩ = some (.string a0_6) := (blk_cell BK217.out 6).trans rfl
                  have hfz23_0 := blk_frozen BK217.out 0
                  have hfz23_1 := blk_frozen BK217.out 1
                  have hfz23_2 := blk_frozen BK217.out 2
                  have hfz23_3 := blk_frozen BK217.out 3
                  have hfz23_4 := blk_frozen BK217.out 4
                  have hfz23_5 := blk_frozen BK217.out 5
                  have hfz23_6 := blk_frozen BK217.out 6
                  go_wp2
                  go_ret2
                  exact ⟨by first | rfl | (simp [errW_none, errW_some] <;> rfl) | (simp [*, errW_none, errW_some] <;> rfl), by repeat (first | (with_reducible first | exact HB.out | apply below_alloc | apply pw_below_drewN | apply below_drew1 | refine below_set ?_ GE217.out) | exact HB.out)⟩
                · rw [if_neg c22] at H
                  have c22b0 : decide (1600 < (wrap64 (18 + (a0_6.size : Int)))) = false := decide_eq_false c22
                  clear c22
                  have HC24 := Aside0.mk H
                  clear H
                  have hcz25_0 : wc.cell? ⟨gb217, 0, none⟩ = some (.int .u64 a0_0) := (blk_cell BK217.out 0).trans rfl
                  have hcz25_1 : wc.cell? ⟨gb217, 1, none⟩ = some (.int .u64 a0_1) := (blk_cell BK217.out 1).trans rfl
                  have hcz25_2 : wc.cell? ⟨gb217, 2, none⟩ = some (.int .u8 a0_2) := (blk_cell BK217.out 2).trans rfl
                  have hcz25_3 : wc.cell? ⟨gb217, 3, none⟩ = some (.bool a0_3) := (blk_cell BK217.out 3).trans rfl
                  have hcz25_4 : wc.cell? ⟨gb217, 4, none⟩ = some (.int .u16 a0_4) := (blk_cell BK217.out 4).trans rfl
                  have hcz25_5 : wc.cell? ⟨gb217, 5, none⟩ = some (.int .u16 a0_5) := (blk_cell BK217.out 5).trans rfl
                  have hcz25_6 : wc.cell? ⟨gb217, 6, none⟩ = some (.string a0_6) := (blk_cell BK217.out 6).trans rfl
                  have hfz25_0 := blk_frozen BK217.out 0
                  have hfz25_1 := blk_frozen BK217.out 1
                  have hfz25_2 := blk_frozen BK217.out 2
                  have hfz25_3 := blk_frozen BK217.out 3
                  have hfz25_4 := blk_frozen BK217.out 4
                  have hfz25_5 := blk_frozen BK217.out 5
                  have hfz25_6 := blk_frozen BK217.out 6
                  go_upto_if 50 with (fail)
                  go_cut [4] (fun v4 wc => ∃ (kq : Nat) (x4_23 : Int), v4 = .int .u64 x4_23 ∧ Aside0 (carouselref03_Close.j2 kq x4_23 a0_0 a0_1 a0_2 a0_3 a0_4 a0_5 a0_6 = some (r1, r2)) ∧ Aside0 (kq ≤ kj12) ∧ Aside0 (wc.heap[gb217]? = some (.cells #[.int .u64 a0_0, .int .u64 a0_1, .int .u8 a0_2, .bool a0_3, .int .u16 a0_4, .int .u16 a0_5, .string a0_6] 81 (0, 0))) ∧ Aside0 (Below w.heap.size w wc))
                  case first =>
                    have H := HC24.out
                    clear HC24
                    by_cases c26 : a0_3 = true
                    · subst c26
                      have H1 : (carouselref03_Close.j2 kj12 (IntKind.u64.wrap ((IntKind.u64.wrap ((IntKind.u64.wrap ((IntKind.u64.wrap (a0_2)) * 8192)) + (IntKind.u64.wrap (a0_4)))) + 4096)) a0_0 a0_1 a0_2 true a0_4 a0_5 a0_6) = some (r1, r2) := by rw [if_pos rfl] at H; exact H
                      clear H
                      have H := H1
                      clear H1
                      have H' := Aside0.mk H
                      clear H
                      go_wp2
                      go_meet
                      case rel => exact ⟨_, (IntKind.u64.wrap ((IntKind.u64.wrap ((IntKind.u64.wrap ((IntKind.u64.wrap (a0_2)) * 8192)) + (IntKind.u64.wrap (a0_4)))) + 4096)), (by first | rfl | (simp; done) | (simp [*]; done)), H', ⟨by have := HJ1.out; have := HJ12.out; first | omega | exact Nat.le_refl _⟩, ⟨by (with_reducible repeat (first | refine blk_drewN ?_ _ | refine blk_drew ?_ | refine blk_alloc ?_ _)); exact BK217.out⟩, ⟨by repeat (first | (with_reducible first | exact HB.out | apply below_alloc | apply pw_below_drewN | apply below_drew1 | refine below_set ?_ GE217.out) | exact HB.out)⟩⟩
                    · replace c26 := Bool.eq_false_iff.mpr c26
                      subst c26
                      have H1 : (carouselref03_Close.j2 kj12 (IntKind.u64.wrap ((IntKind.u64.wrap ((IntKind.u64.wrap (a0_2)) * 8192)) + (IntKind.u64.wrap (a0_4)))) a0_0 a0_1 a0_2 false a0_4 a0_5 a0_6) = some (r1, r2) := by rw [if_neg (show ¬ (false = true) by decide)] at H; exact H
                      clear H
                      have H := H1
                      clear H1
                      have H' := Aside0.mk H
                      clear H
                      go_wp2
                      go_meet
                      case rel => exact ⟨_, (IntKind.u64.wrap ((IntKind.u64.wrap ((IntKind.u64.wrap (a0_2)) * 8192)) + (IntKind.u64.wrap (a0_4)))), (by first | rfl | (simp; done) | (simp [*]; done)), H', ⟨by have := HJ1.out; have := HJ12.out; first | omega | exact Nat.le_refl _⟩, ⟨by (with_reducible repeat (first | refine blk_drewN ?_ _ | refine blk_drew ?_ | refine blk_alloc ?_ _)); exact BK217.out⟩, ⟨by repeat (first | (with_reducible first | exact HB.out | apply below_alloc | apply pw_below_drewN | apply below_drew1 | refine below_set ?_ GE217.out) | exact HB.out)⟩⟩
                  case rest =>
                    clear HC24
                    try clear c1
                    try clear c2
                    try clear p2
                    try clear c3
                    try clear c5
                    try clear p6
                    try clear c7
                    try clear c12
                    try clear c14
                    try clear c14b0
                    try clear c16
                    try clear c16b0
                    try clear c16b1
                    try clear c19
                    try clear c20
                    try clear c20b0
                    try clear c22
                    try clear c22b0
                    try clear c26
                    try clear hcz10_0
                    try clear hcz10_1
                    try clear hcz10_2
                    try clear hcz10_3
                    try clear hcz10_4
                    try clear hcz10_5
                    try clear hcz10_6
                    try clear hcz11_0
                    try clear hcz11_1
                    try clear hcz11_2
                    try clear hcz11_3
                    try clear hcz11_4
                    try clear hcz11_5
                    try clear hcz11_6
                    try clear hcz15_0
                    try clear hcz15_1
                    try clear hcz15_2
                    try clear hcz15_3
                    try clear hcz15_4
                    try clear hcz15_5
                    try clear hcz15_6
                    try clear hcz17_0
                    try clear hcz17_1
                    try clear hcz17_2
                    try clear hcz17_3
                    try clear hcz17_4
                    try clear hcz17_5
                    try clear hcz17_6
                    try clear hcz18_0
                    try clear hcz18_1
                    try clear hcz18_2
                    try clear hcz18_3
                    try clear hcz18_4
                    try clear hcz18_5
                    try clear hcz18_6
                    try clear hcz21_0
                    try clear hcz21_1
                    try clear hcz21_2
                    try clear hcz21_3
                    try clear hcz21_4
                    try clear hcz21_5
                    try clear hcz21_6
                    try clear hcz23_0
                    try clear hcz23_1
                    try clear hcz23_2
                    try clear hcz23_3
                    try clear hcz23_4
                    try clear hcz23_5
                    try clear hcz23_6
                    try clear hcz25_0
                    try clear hcz25_1
                    try clear hcz25_2
                    try clear hcz25_3
                    try clear hcz25_4
                    try clear hcz25_5
                    try clear hcz25_6
                    try clear hcz9_0
                    try clear hcz9_1
                    try clear hcz9_2
                    try clear hcz9_3
                    try clear hcz9_4
                    try clear hcz9_5
                    try clear hcz9_6
                    try clear hfz10_0
                    try clear hfz10_1
                    try clear hfz10_2
                    try clear hfz10_3
                    try clear hfz10_4
                    try clear hfz10_5
                    try clear hfz10_6
                    try clear hfz11_0
                    try clear hfz11_1
                    try clear hfz11_2
                    try clear hfz11_3
                    try clear hfz11_4
                    try clear hfz11_5
                    try clear hfz11_6
                    try clear hfz15_0
                    try clear hfz15_1
                    try clear hfz15_2
                    try clear hfz15_3
                    try clear hfz15_4
                    try clear hfz15_5
                    try clear hfz15_6
                    try clear hfz17_0
                    try clear hfz17_1
                    try clear hfz17_2
                    try clear hfz17_3
                    try clear hfz17_4
                    try clear hfz17_5
                    try clear hfz17_6
                    try clear hfz18_0
                    try clear hfz18_1
                    try clear hfz18_2
                    try clear hfz18_3
                    try clear hfz18_4
                    try clear hfz18_5
                    try clear hfz18_6
                    try clear hfz21_0
                    try clear hfz21_1
                    try clear hfz21_2
                    try clear hfz21_3
                    try clear hfz21_4
                    try clear hfz21_5
                    try clear hfz21_6
                    try clear hfz23_0
                    try clear hfz23_1
                    try clear hfz23_2
                    try clear hfz23_3
                    try clear hfz23_4
                    try clear hfz23_5
                    try clear hfz23_6
                    try clear hfz25_0
                    try clear hfz25_1
                    try clear hfz25_2
                    try clear hfz25_3
                    try clear hfz25_4
                    try clear hfz25_5
                    try clear hfz25_6
                    try clear hfz9_0
                    try clear hfz9_1
                    try clear hfz9_2
                    try clear hfz9_3
                    try clear hfz9_4
                    try clear hfz9_5
                    try clear hfz9_6
                    try clear p2
                    obtain ⟨kq, x4_23, rfl, HA, HJ23, BK217, HB⟩ := hcut
                    cases kq with
                    | zero => exact absurd HA.out (by simp [carouselref03_Close.j2])
                    | succ kj23 =>
                      have H := HA.out
                      clear HA
                      simp only [carouselref03_Close.j2] at H
                      replace H := Option.bind_eq_some_iff.mp H
                      obtain ⟨t221, A270, H⟩ := H
                      replace H : ((carouselref02_Bytes.f kj23 a0_1).bind fun t222 => (if t221.size + t222.size ≤ 9223372036854775807 then (if t221.size + t222.size + 2 ≤ 9223372036854775807 then ((carouselref01_Put.f kj23 x4_23 2).bind fun t223 => (if t221.size + t222.size + 2 + t223.size ≤ 9223372036854775807 then ((carouselref01_Put.f kj23 (IntKind.u64.wrap (a0_5)) 2).bind fun t224 => (if t221.size + t222.size + 2 + t223.size + t224.size ≤ 9223372036854775807 then (if t221.size + t222.size + 2 + t223.size + t224.size + a0_6.size ≤ 9223372036854775807 then (some (((((t221 ++ t222) ++ (⟨#[129, 0]⟩ : ByteArray)) ++ t223) ++ t224) ++ a0_6, 0)) else (none)) else (none))) else (none))) else (none)) else (none))) = some (r1, r2) := H
                      have A27 := Aside0.mk A270
                      clear A270
                      replace H := Option.bind_eq_some_iff.mp H
                      obtain ⟨t222, A280, H⟩ := H
                      replace H : (if t221.size + t222.size ≤ 9223372036854775807 then (if t221.size + t222.size + 2 ≤ 9223372036854775807 then ((carouselref01_Put.f kj23 x4_23 2).bind fun t223 => (if t221.size + t222.size + 2 + t223.size ≤ 9223372036854775807 then ((carouselref01_Put.f kj23 (IntKind.u64.wrap (a0_5)) 2).bind fun t224 => (if t221.size + t222.size + 2 + t223.size + t224.size ≤ 9223372036854775807 then (if t221.size + t222.size + 2 + t223.size + t224.size + a0_6.size ≤ 9223372036854775807 then (some (((((t221 ++ t222) ++ (⟨#[129, 0]⟩ : ByteArray)) ++ t223) ++ t224) ++ a0_6, 0)) else (none)) else (none))) else (none))) else (none)) else (none)) = some (r1, r2) := H
                      have A28 := Aside0.mk A280
                      clear A280
                      by_cases c29 : t221.size + t222.size ≤ 9223372036854775807
                      · rw [if_pos c29] at H
                        have c29b0 := eq_true c29
                        have c29b1 : decide (t221.size + t222.size ≤ 9223372036854775807) = true := decide_eq_true c29
                        try have c29b2 : (9223372036854775807 < t221.size + t222.size) = False := eq_false (Nat.not_lt.2 c29)
                        by_cases c30 : t221.size + t222.size + 2 ≤ 9223372036854775807
                        · rw [if_pos c30] at H
                          have c30b0 := eq_true c30
                          have c30b1 : decide (t221.size + t222.size + 2 ≤ 9223372036854775807) = true := decide_eq_true c30
                          try have c30b2 : (9223372036854775807 < t221.size + t222.size + 2) = False := eq_false (Nat.not_lt.2 c30)
                          replace H := Option.bind_eq_some_iff.mp H
                          obtain ⟨t223, A310, H⟩ := H
                          replace H : (if t221.size + t222.size + 2 + t223.size ≤ 9223372036854775807 then ((carouselref01_Put.f kj23 (IntKind.u64.wrap (a0_5)) 2).bind fun t224 => (if t221.size + t222.size + 2 + t223.size + t224.size ≤ 9223372036854775807 then (if t221.size + t222.size + 2 + t223.size + t224.size + a0_6.size ≤ 9223372036854775807 then (some (((((t221 ++ t222) ++ (⟨#[129, 0]⟩ : ByteArray)) ++ t223) ++ t224) ++ a0_6, 0)) else (none)) else (none))) else (none)) = some (r1, r2) := H
                          have A31 := Aside0.mk A310
                          clear A310
                          by_cases c32 : t221.size + t222.size + 2 + t223.size ≤ 9223372036854775807
                          · rw [if_pos c32] at H
                            have c32b0 := eq_true c32
                            have c32b1 : decide (t221.size + t222.size + 2 + t223.size ≤ 9223372036854775807) = true := decide_eq_true c32
                            try have c32b2 : (9223372036854775807 < t221.size + t222.size + 2 + t223.size) = False := eq_false (Nat.not_lt.2 c32)
                            replace H := Option.bind_eq_some_iff.mp H
                            obtain ⟨t224, A330, H⟩ := H
                            replace H : (if t221.size + t222.size + 2 + t223.size + t224.size ≤ 9223372036854775807 then (if t221.size + t222.size + 2 + t223.size + t224.size + a0_6.size ≤ 9223372036854775807 then (some (((((t221 ++ t222) ++ (⟨#[129, 0]⟩ : ByteArray)) ++ t223) ++ t224) ++ a0_6, 0)) else (none)) else (none)) = some (r1, r2) := H
                            have A33 := Aside0.mk A330
                            clear A330
                            by_cases c34 : t221.size + t222.size + 2 + t223.size + t224.size ≤ 9223372036854775807
                            · rw [if_pos c34] at H
                              have c34b0 := eq_true c34
                              have c34b1 : decide (t221.size + t222.size + 2 + t223.size + t224.size ≤ 9223372036854775807) = true := decide_eq_true c34
                              try have c34b2 : (9223372036854775807 < t221.size + t222.size + 2 + t223.size + t224.size) = False := eq_false (Nat.not_lt.2 c34)
                              by_cases c35 : t221.size + t222.size + 2 + t223.size + t224.size + a0_6.size ≤ 9223372036854775807
                              · rw [if_pos c35] at H
                                have c35b0 := eq_true c35
                                have c35b1 : decide (t221.size + t222.size + 2 + t223.size + t224.size + a0_6.size ≤ 9223372036854775807) = true := decide_eq_true c35
                                try have c35b2 : (9223372036854775807 < t221.size + t222.size + 2 + t223.size + t224.size + a0_6.size) = False := eq_false (Nat.not_lt.2 c35)
                                simp only [Option.some.injEq, Prod.mk.injEq] at H
                                obtain ⟨rfl, rfl⟩ := H
                                try go_wp2
                                have n0_ := Aside0.mk (blk_drew BK217.out)
                                have n1_ := Aside0.mk (below_drew1 HB.out)
                                clear BK217
                                clear HB
                                have BK217 := n0_
                                have HB := n1_
                                clear n0_ n1_
                                refine start_ (n := 21) (S := fun w' => w'.cell? ⟨gb217, 0, none⟩ = some (.int .u64 a0_0) ∧ w'.cell? ⟨gb217, 1, none⟩ = some (.int .u64 a0_1) ∧ w'.cell? ⟨gb217, 2, none⟩ = some (.int .u8 a0_2) ∧ w'.cell? ⟨gb217, 3, none⟩ = some (.bool a0_3) ∧ w'.cell? ⟨gb217, 4, none⟩ = some (.int .u16 a0_4) ∧ w'.cell? ⟨gb217, 5, none⟩ = some (.int .u16 a0_5) ∧ w'.cell? ⟨gb217, 6, none⟩ = some (.string a0_6)) (ds := []) #[false, false, false, false, false, false, false, false, false, false, false, false, false, false, false, false, false, false, false, false, false] (by kernel_rfl) rfl rfl ⟨(blk_cell BK217.out 0).trans rfl, (blk_cell BK217.out 1).trans rfl, (blk_cell BK217.out 2).trans rfl, (blk_cell BK217.out 3).trans rfl, (blk_cell BK217.out 4).trans rfl, (blk_cell BK217.out 5).trans rfl, (blk_cell BK217.out 6).trans rfl⟩ (fun hHeld => ?_); refine with_tabW carouselref03_Close.tab12 carouselref03_Close.bits12 (fun HT_ HW_ => ?_)
                                generalize wc.drew = w36 at BK217 HB hHeld ⊢
                                refine pure_ (i := 0) (N := some 53) (v := ?_) (a' := ?_) #[true, false, false, false, false, false, false, false, false, false, false, false, false, false, false, false, false, false, false, false, false] rfl rfl (any_of HT_.out (by kernel_rfl)) (fun _ _ _ h => h) (Or.inl ⟨by rfl, ?_⟩) ?_ ?_
                                rotate_left
                                · intro w'
                                  go_simp
                                  with_reducible rfl
                                rotate_left
                                · simp only [Act.put, List.setIfInBounds_toArray, List.set_cons_zero, List.set_cons_succ, i64_w, i32_w]
                                  rfl
                                refine pure_ (i := 3) (N := some 56) (v := ?_) (a' := ?_) #[true, false, false, true, false, false, false, false, false, false, false, false, false, false, false, false, false, false, false, false, false] rfl rfl (any_of HT_.out (by kernel_rfl)) (fun _ _ _ h => h) (Or.inl ⟨by rfl, ?_⟩) ?_ ?_
                                rotate_left
                                · intro w'
                                  go_simp
                                  with_reducible rfl
                                rotate_left
                                · simp only [Act.put, List.setIfInBounds_toArray, List.set_cons_zero, List.set_cons_succ, i64_w, i32_w]
                                  rfl
                                refine pure_ (i := 8) (N := some 61) (v := ?_) (a' := ?_) #[true, false, false, true, false, false, false, false, true, false, false, false, false, false, false, false, false, false, false, false, false] rfl rfl (any_of HT_.out (by kernel_rfl)) (fun _ _ _ h => h) (Or.inl ⟨by rfl, ?_⟩) ?_ ?_
                                rotate_left
                                · intro w'
                                  go_simp
                                  with_reducible rfl
                                rotate_left
                                · simp only [Act.put, List.setIfInBounds_toArray, List.set_cons_zero, List.set_cons_succ, i64_w, i32_w]
                                  rfl
                                refine pure_ (i := 11) (N := some 64) (v := ?_) (a' := ?_) #[true, false, false, true, false, false, false, false, true, false, false, true, false, false, false, false, false, false, false, false, false] rfl rfl (any_of HT_.out (by kernel_rfl)) (fun _ _ _ h => h) (Or.inl ⟨by rfl, ?_⟩) ?_ ?_
                                rotate_left
                                · intro w'
                                  go_simp
                                  with_reducible rfl
                                rotate_left
                                · simp only [Act.put, List.setIfInBounds_toArray, List.set_cons_zero, List.set_cons_succ, i64_w, i32_w]
                                  rfl
                                refine pure_ (i := 16) (N := some 69) (v := ?_) (a' := ?_) #[true, false, false, true, false, false, false, false, true, false, false, true, false, false, false, false, true, false, false, false, false] rfl rfl (any_of HT_.out (by kernel_rfl)) (fun _ _ _ h => h) (Or.inl ⟨by rfl, ?_⟩) ?_ ?_
                                rotate_left
                                · intro w'
                                  go_simp
                                  with_reducible rfl
                                rotate_left
                                · simp only [Act.put, List.setIfInBounds_toArray, List.set_cons_zero, List.set_cons_succ, i64_w, i32_w]
                                  rfl
                                refine take_ (i := 1) (N := some 54) (v := ?_) (a' := ?_) #[true, true, false, true, false, false, false, false, true, false, false, true, false, false, false, false, true, false, false, false, false] rfl rfl (take_ofW HT_.out HW_.out (by kernel_rfl)) (fun _ _ _ h => h) (Or.inl ⟨by rfl, ?_⟩) hHeld ?_ ?_
                                rotate_left
                                · rintro w' ⟨s0, s1, s2, s3, s4, s5, s6⟩
                                  go_simp
                                  with_reducible rfl
                                rotate_left
                                · simp only [Act.put, List.setIfInBounds_toArray, List.set_cons_zero, List.set_cons_succ, i64_w, i32_w]
                                  rfl
                                refine take_ (i := 4) (N := some 57) (v := ?_) (a' := ?_) #[true, true, false, true, true, false, false, false, true, false, false, true, false, false, false, false, true, false, false, false, false] rfl rfl (take_ofW HT_.out HW_.out (by kernel_rfl)) (fun _ _ _ h => h) (Or.inl ⟨by rfl, ?_⟩) hHeld ?_ ?_
                                rotate_left
                                · rintro w' ⟨s0, s1, s2, s3, s4, s5, s6⟩
                                  go_simp
                                  with_reducible rfl
                                rotate_left
                                · simp only [Act.put, List.setIfInBounds_toArray, List.set_cons_zero, List.set_cons_succ, i64_w, i32_w]
                                  rfl
                                refine take_ (i := 12) (N := some 65) (v := ?_) (a' := ?_) #[true, true, false, true, true, false, false, false, true, false, false, true, true, false, false, false, true, false, false, false, false] rfl rfl (take_ofW HT_.out HW_.out (by kernel_rfl)) (fun _ _ _ h => h) (Or.inl ⟨by rfl, ?_⟩) hHeld ?_ ?_
                                rotate_left
                                · rintro w' ⟨s0, s1, s2, s3, s4, s5, s6⟩
                                  go_simp
                                  with_reducible rfl
                                rotate_left
                                · simp only [Act.put, List.setIfInBounds_toArray, List.set_cons_zero, List.set_cons_succ, i64_w, i32_w]
                                  rfl
                                refine pure_ (i := 13) (N := some 66) (v := ?_) (a' := ?_) #[true, true, false, true, true, false, false, false, true, false, false, true, true, true, false, false, true, false, false, false, false] rfl rfl (any_of HT_.out (by kernel_rfl)) (fun _ _ _ h => h) (Or.inl ⟨by rfl, ?_⟩) ?_ ?_
                                rotate_left
                                · intro w'
                                  go_simp
                                  with_reducible rfl
                                rotate_left
                                · simp only [Act.put, List.setIfInBounds_toArray, List.set_cons_zero, List.set_cons_succ, i64_w, i32_w]
                                  rfl
                                refine take_ (i := 17) (N := some 70) (v := ?_) (a' := ?_) #[true, true, false, true, true, false, false, false, true, false, false, true, true, true, false, false, true, true, false, false, false] rfl rfl (take_ofW HT_.out HW_.out (by kernel_rfl)) (fun _ _ _ h => h) (Or.inl ⟨by rfl, ?_⟩) hHeld ?_ ?_
                                rotate_left
                                · rintro w' ⟨s0, s1, s2, s3, s4, s5, s6⟩
                                  go_simp
                                  with_reducible rfl
                                rotate_left
                                · simp only [Act.put, List.setIfInBounds_toArray, List.set_cons_zero, List.set_cons_succ, i64_w, i32_w]
                                  rfl
                                refine one_ (i := 2) (N := some 55) #[true, true, true, true, true, false, false, false, true, false, false, true, true, true, false, false, true, true, false, false, false] rfl rfl (one_of HT_.out (by kernel_rfl)) (by decide) (fun K hK => ?_)
                                refine goes_ Try.func55 (by kernel_rfl) rfl #[.int .u64 a0_0] (by rfl) rfl rfl (by (try simp only [List.map_toArray, List.map_cons, List.map_nil]); first | done | rfl | (simp only [List.length_drop, List.length_take]; rfl)) ?_
                                with_reducible refine (carouselref02_Bytes.calls kj23 a0_0 t221 _ A27.out).mono ?_
                                rintro e w37 ⟨rfl, hb⟩
                                refine ⟨_, rfl, ?_⟩
                                have n0_ := Aside0.mk (blk_below (g := gb217) (o := .cells #[.int .u64 a0_0, .int .u64 a0_1, .int .u8 a0_2, .bool a0_3, .int .u16 a0_4, .int .u16 a0_5, .string a0_6] 81 (0, 0)) (by (with_reducible repeat (first | refine blk_drewN ?_ _ | refine blk_drew ?_ | refine blk_alloc ?_ _)); exact BK217.out) hb)
                                have n1_ := Aside0.mk (below_step (by repeat (first | (with_reducible first | exact HB.out | apply below_alloc | apply pw_below_drewN | apply below_drew1 | refine below_set ?_ GE217.out) | exact HB.out)) hb)
                                clear BK217
                                clear HB
                                have BK217 := n0_
                                have HB := n1_
                                clear n0_ n1_
                                (try clear hb)
                                (try clear hb2)
                                (try clear hk)
                                (try clear hi)
                                refine hK.out _ _ ⟨(blk_cell BK217.out 0).trans rfl, (blk_cell BK217.out 1).trans rfl, (blk_cell BK217.out 2).trans rfl, (blk_cell BK217.out 3).trans rfl, (blk_cell BK217.out 4).trans rfl, (blk_cell BK217.out 5).trans rfl, (blk_cell BK217.out 6).trans rfl⟩ (fun hHeld => ?_)
                                clear hK K
                                refine norm_ (a' := ?_) ?_ ?_
                                rotate_left
                                · show Act.put _ (some 55) _ = _
                                  simp only [Act.put, List.setIfInBounds_toArray, List.set_cons_zero, List.set_cons_succ, i64_w, i32_w]
                                  rfl
                                refine one_ (i := 5) (N := some 58) #[true, true, true, true, true, true, false, false, true, false, false, true, true, true, false, false, true, true, false, false, false] rfl rfl (one_of HT_.out (by kernel_rfl)) (by decide) (fun K hK => ?_)
                                refine goes_ Try.func55 (by kernel_rfl) rfl #[.int .u64 a0_1] (by rfl) rfl rfl (by (try simp only [List.map_toArray, List.map_cons, List.map_nil]); first | done | rfl | (simp only [List.length_drop, List.length_take]; rfl)) ?_
                                with_reducible refine (carouselref02_Bytes.calls kj23 a0_1 t222 _ A28.out).mono ?_
                                rintro e w38 ⟨rfl, hb⟩
                                refine ⟨_, rfl, ?_⟩
                                have n0_ := Aside0.mk (blk_below (g := gb217) (o := .cells #[.int .u64 a0_0, .int .u64 a0_1, .int .u8 a0_2, .bool a0_3, .int .u16 a0_4, .int .u16 a0_5, .string a0_6] 81 (0, 0)) (by (with_reducible repeat (first | refine blk_drewN ?_ _ | refine blk_drew ?_ | refine blk_alloc ?_ _)); exact BK217.out) hb)
                                have n1_ := Aside0.mk (below_step (by repeat (first | (with_reducible first | exact HB.out | apply below_alloc | apply pw_below_drewN | apply below_drew1 | refine below_set ?_ GE217.out) | exact HB.out)) hb)
                                clear BK217
                                clear HB
                                have BK217 := n0_
                                have HB := n1_
                                clear n0_ n1_
                                (try clear hb)
                                (try clear hb2)
                                (try clear hk)
                                (try clear hi)
                                refine hK.out _ _ ⟨(blk_cell BK217.out 0).trans rfl, (blk_cell BK217.out 1).trans rfl, (blk_cell BK217.out 2).trans rfl, (blk_cell BK217.out 3).trans rfl, (blk_cell BK217.out 4).trans rfl, (blk_cell BK217.out 5).trans rfl, (blk_cell BK217.out 6).trans rfl⟩ (fun hHeld => ?_)
                                clear hK K
                                refine norm_ (a' := ?_) ?_ ?_
                                rotate_left
                                · show Act.put _ (some 58) _ = _
                                  simp only [Act.put, List.setIfInBounds_toArray, List.set_cons_zero, List.set_cons_succ, i64_w, i32_w]
                                  rfl
                                refine pure_ (i := 6) (N := some 59) (v := ?_) (a' := ?_) #[true, true, true, true, true, true, true, false, true, false, false, true, true, true, false, false, true, true, false, false, false] rfl rfl (any_of HT_.out (by kernel_rfl)) (fun _ _ _ h => h) (Or.inl ⟨by rfl, ?_⟩) ?_ ?_
                                rotate_left
                                · intro w'
                                  go_simp
                                  with_reducible rfl
                                rotate_left
                                · simp only [Act.put, List.setIfInBounds_toArray, List.set_cons_zero, List.set_cons_succ, i64_w, i32_w]
                                  rfl
                                refine pure_ (i := 7) (N := some 60) (v := ?_) (a' := ?_) #[true, true, true, true, true, true, true, true, true, false, false, true, true, true, false, false, true, true, false, false, false] rfl rfl (any_of HT_.out (by kernel_rfl)) (fun _ _ _ h => h) (Or.inl ⟨by rfl, ?_⟩) ?_ ?_
                                rotate_left
                                · intro w'
                                  go_simp
                                  with_reducible rfl
                                rotate_left
                                · simp only [Act.put, List.setIfInBounds_toArray, List.set_cons_zero, List.set_cons_succ, i64_w, i32_w]
                                  rfl
                                refine one_ (i := 9) (N := some 62) #[true, true, true, true, true, true, true, true, true, true, false, true, true, true, false, false, true, true, false, false, false] rfl rfl (one_of HT_.out (by kernel_rfl)) (by decide) (fun K hK => ?_)
                                refine goes_ Try.func56 (by kernel_rfl) rfl #[.int .u64 x4_23, .int .i64 2] (by rfl) rfl rfl (by (try simp only [List.map_toArray, List.map_cons, List.map_nil]); first | done | rfl | (simp only [List.length_drop, List.length_take]; rfl)) ?_
                                with_reducible refine (carouselref01_Put.calls kj23 x4_23 2 t223 _ A31.out).mono ?_
                                rintro e w39 ⟨rfl, hb⟩
                                refine ⟨_, rfl, ?_⟩
                                have n0_ := Aside0.mk (blk_below (g := gb217) (o := .cells #[.int .u64 a0_0, .int .u64 a0_1, .int .u8 a0_2, .bool a0_3, .int .u16 a0_4, .int .u16 a0_5, .string a0_6] 81 (0, 0)) (by (with_reducible repeat (first | refine blk_drewN ?_ _ | refine blk_drew ?_ | refine blk_alloc ?_ _)); exact BK217.out) hb)
                                have n1_ := Aside0.mk (below_step (by repeat (first | (with_reducible first | exact HB.out | apply below_alloc | apply pw_below_drewN | apply below_drew1 | refine below_set ?_ GE217.out) | exact HB.out)) hb)
                                clear BK217
                                clear HB
                                have BK217 := n0_
                                have HB := n1_
                                clear n0_ n1_
                                (try clear hb)
                                (try clear hb2)
                                (try clear hk)
                                (try clear hi)
                                refine hK.out _ _ ⟨(blk_cell BK217.out 0).trans rfl, (blk_cell BK217.out 1).trans rfl, (blk_cell BK217.out 2).trans rfl, (blk_cell BK217.out 3).trans rfl, (blk_cell BK217.out 4).trans rfl, (blk_cell BK217.out 5).trans rfl, (blk_cell BK217.out 6).trans rfl⟩ (fun hHeld => ?_)
                                clear hK K
                                refine norm_ (a' := ?_) ?_ ?_
                                rotate_left
                                · show Act.put _ (some 62) _ = _
                                  simp only [Act.put, List.setIfInBounds_toArray, List.set_cons_zero, List.set_cons_succ, i64_w, i32_w]
                                  rfl
                                refine pure_ (i := 10) (N := some 63) (v := ?_) (a' := ?_) #[true, true, true, true, true, true, true, true, true, true, true, true, true, true, false, false, true, true, false, false, false] rfl rfl (any_of HT_.out (by kernel_rfl)) (fun _ _ _ h => h) (Or.inl ⟨by rfl, ?_⟩) ?_ ?_
                                rotate_left
                                · intro w'
                                  go_simp
                                  with_reducible rfl
                                rotate_left
                                · simp only [Act.put, List.setIfInBounds_toArray, List.set_cons_zero, List.set_cons_succ, i64_w, i32_w]
                                  rfl
                                refine one_ (i := 14) (N := some 67) #[true, true, true, true, true, true, true, true, true, true, true, true, true, true, true, false, true, true, false, false, false] rfl rfl (one_of HT_.out (by kernel_rfl)) (by decide) (fun K hK => ?_)
                                refine goes_ Try.func56 (by kernel_rfl) rfl #[.int .u64 (IntKind.u64.wrap (a0_5)), .int .i64 2] (by rfl) rfl rfl (by (try simp only [List.map_toArray, List.map_cons, List.map_nil]); first | done | rfl | (simp only [List.length_drop, List.length_take]; rfl)) ?_
                                with_reducible refine (carouselref01_Put.calls kj23 (IntKind.u64.wrap (a0_5)) 2 t224 _ A33.out).mono ?_
                                rintro e w40 ⟨rfl, hb⟩
                                refine ⟨_, rfl, ?_⟩
                                have n0_ := Aside0.mk (blk_below (g := gb217) (o := .cells #[.int .u64 a0_0, .int .u64 a0_1, .int .u8 a0_2, .bool a0_3, .int .u16 a0_4, .int .u16 a0_5, .string a0_6] 81 (0, 0)) (by (with_reducible repeat (first | refine blk_drewN ?_ _ | refine blk_drew ?_ | refine blk_alloc ?_ _)); exact BK217.out) hb)
                                have n1_ := Aside0.mk (below_step (by repeat (first | (with_reducible first | exact HB.out | apply below_alloc | apply pw_below_drewN | apply below_drew1 | refine below_set ?_ GE217.out) | exact HB.out)) hb)
                                clear BK217
                                clear HB
                                have BK217 := n0_
                                have HB := n1_
                                clear n0_ n1_
                                (try clear hb)
                                (try clear hb2)
                                (try clear hk)
                                (try clear hi)
                                refine hK.out _ _ ⟨(blk_cell BK217.out 0).trans rfl, (blk_cell BK217.out 1).trans rfl, (blk_cell BK217.out 2).trans rfl, (blk_cell BK217.out 3).trans rfl, (blk_cell BK217.out 4).trans rfl, (blk_cell BK217.out 5).trans rfl, (blk_cell BK217.out 6).trans rfl⟩ (fun hHeld => ?_)
                                clear hK K
                                refine norm_ (a' := ?_) ?_ ?_
                                rotate_left
                                · show Act.put _ (some 67) _ = _
                                  simp only [Act.put, List.setIfInBounds_toArray, List.set_cons_zero, List.set_cons_succ, i64_w, i32_w]
                                  rfl
                                refine pure_ (i := 15) (N := some 68) (v := ?_) (a' := ?_) #[true, true, true, true, true, true, true, true, true, true, true, true, true, true, true, true, true, true, false, false, false] rfl rfl (any_of HT_.out (by kernel_rfl)) (fun _ _ _ h => h) (Or.inl ⟨by rfl, ?_⟩) ?_ ?_
                                rotate_left
                                · intro w'
                                  go_simp
                                  with_reducible rfl
                                rotate_left
                                · simp only [Act.put, List.setIfInBounds_toArray, List.set_cons_zero, List.set_cons_succ, i64_w, i32_w]
                                  rfl
                                refine pure_ (i := 18) (N := some 71) (v := ?_) (a' := ?_) #[true, true, true, true, true, true, true, true, true, true, true, true, true, true, true, true, true, true, true, false, false] rfl rfl (any_of HT_.out (by kernel_rfl)) (fun _ _ _ h => h) (Or.inl ⟨by rfl, ?_⟩) ?_ ?_
                                rotate_left
                                · intro w'
                                  go_simp
                                  with_reducible rfl
                                rotate_left
                                · simp only [Act.put, List.setIfInBounds_toArray, List.set_cons_zero, List.set_cons_succ, i64_w, i32_w]
                                  rfl
                                refine pure_ (i := 19) (N := some 2) (v := ?_) (a' := ?_) #[true, true, true, true, true, true, true, true, true, true, true, true, true, true, true, true, true, true, true, true, false] rfl rfl (any_of HT_.out (by kernel_rfl)) (fun _ _ _ h => h) (Or.inl ⟨by rfl, ?_⟩) ?_ ?_
                                rotate_left
                                · intro w'
                                  go_simp
                                  with_reducible rfl
                                rotate_left
                                · simp only [Act.put, List.setIfInBounds_toArray, List.set_cons_zero, List.set_cons_succ, i64_w, i32_w]
                                  rfl
                                refine pure_ (i := 20) (N := some 3) (v := ?_) (a' := ?_) #[true, true, true, true, true, true, true, true, true, true, true, true, true, true, true, true, true, true, true, true, true] rfl rfl (any_of HT_.out (by kernel_rfl)) (fun _ _ _ h => h) (Or.inl ⟨by rfl, ?_⟩) ?_ ?_
                                rotate_left
                                · intro w'
                                  go_simp
                                  with_reducible rfl
                                rotate_left
                                · simp only [Act.put, List.setIfInBounds_toArray, List.set_cons_zero, List.set_cons_succ, i64_w, i32_w]
                                  rfl
                                refine done_ (done_of HT_.out (by kernel_rfl)) ?_
                                try go_wp2
                                go_ret2
                                exact ⟨by first | rfl | (simp [errW_none, errW_some] <;> rfl) | (simp [*, errW_none, errW_some] <;> rfl), by repeat (first | (with_reducible first | exact HB.out | apply below_alloc | apply pw_below_drewN | apply below_drew1 | refine below_set ?_ GE217.out) | exact HB.out)⟩
                              · rw [if_neg c35] at H
                                exact absurd H (by simp)
                            · rw [if_neg c34] at H
                              exact absurd H (by simp)
                          · rw [if_neg c32] at H
                            exact absurd H (by simp)
                        · rw [if_neg c30] at H
                          exact absurd H (by simp)
                      · rw [if_neg c29] at H
                        exact absurd H (by simp)

end Go.Proofs.Ytmdaaphjndjakac.PAll
