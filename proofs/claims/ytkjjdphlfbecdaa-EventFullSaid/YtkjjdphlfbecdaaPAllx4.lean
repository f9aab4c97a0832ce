-- Written by a program of this work, after the translation.
import Derived.Test.YtkjjdphlfbecdaaPAllx0
import Derived.Test.YtkjjdphlfbecdaaPAllx3
namespace Go.Proofs.Ytkjjdphlfbecdaa.PAll
open Go.RowKit Go.Proofs.YtkjjdphlfbecdaaW.PrintWords Go.Proofs.YtkjjdphlfbecdaaW.PrintLast Go.Proofs.YtkjjdphlfbecdaaW.PrintMore
attribute [local go_sem] max2_int min2_int max_two min_two max_three min_three max_four min_four   -- for this text's walks alone
set_option linter.unusedVariables false
set_option linter.unusedSimpArgs false

/-! ### carousellaw22_Awake: function 8 -/
def carousellaw22_Awake.f  : Option (Bool) := (event_Close.f (([(⟨0, 0, 0, 0, (⟨#[]⟩ : ByteArray)⟩ : S28)] : List (S28)))).bind fun bt112 => ((carousellaw01_Awake.f).bind fun t114 => (if t114 = true then (if bt112.2 = 0 then (if bt112.1.toList = ([0, 0, 0, 0, 0, 0] : List UInt8) then ((event_Kind_String.f 7).bind fun t115 => (some (t115.toList == ([102, 108, 111, 119] : List UInt8)))) else (some false)) else (some false)) else (some false)))
set_option maxHeartbeats 8000000 in
set_option maxRecDepth 100000 in
theorem carousellaw22_Awake.calls  (r : Bool) (w : World) (h : carousellaw22_Awake.f  = some r) :
    Calls Try.prog 8 #[] w fun e w' => e = .returned (.bool r) ∧ Below w.heap.size w w' := by
  have hT : r = true := by
    have h1_ : carousellaw22_Awake.f = some true := by decide +kernel
    rw [h1_] at h
    exact (Option.some.inj h).symm
  have hu28 := Try.underlying28
  have HB := Aside0.mk (Below.refl w.heap.size w)
  have H : ((event_Close.f (([(⟨0, 0, 0, 0, (⟨#[]⟩ : ByteArray)⟩ : S28)] : List (S28)))).bind fun bt112 => ((carousellaw01_Awake.f).bind fun t114 => (if t114 = true then (if bt112.2 = 0 then (if bt112.1.toList = ([0, 0, 0, 0, 0, 0] : List UInt8) then ((event_Kind_String.f 7).bind fun t115 => (some (t115.toList == ([102, 108, 111, 119] : List UInt8)))) else (some false)) else (some false)) else (some false)))) = some r := h
  clear h
  obtain ⟨y109, hy109⟩ : ∃ y_ : List (S28), y_ = (([(⟨0, 0, 0, 0, (⟨#[]⟩ : ByteArray)⟩ : S28)] : List (S28))) := ⟨_, rfl⟩
  replace H : ((event_Close.f y109).bind fun bt112 => ((carousellaw01_Awake.f).bind fun t114 => (if t114 = true then (if bt112.2 = 0 then (if bt112.1.toList = ([0, 0, 0, 0, 0, 0] : List UInt8) then ((event_Kind_String.f 7).bind fun t115 => (some (t115.toList == ([102, 108, 111, 119] : List UInt8)))) else (some false)) else (some false)) else (some false)))) = some r := by first | (rw [hy109]; with_reducible exact H) | (have H2_ := (Option.bind_some _ _).symm.trans H; rw [hy109]; with_reducible exact H2_) | (have H2_ := (Option.bind_some _ _).symm.trans H; with_reducible exact H2_) | with_reducible exact H | (rw [hy109]; exact H) | exact H
  have Ny109 := Aside0.mk hy109
  clear hy109
  replace H := Option.bind_eq_some_iff.mp H
  obtain ⟨⟨t112, t113⟩, A10, H⟩ := H
  replace H : ((carousellaw01_Awake.f).bind fun t114 => (if t114 = true then (if t113 = 0 then (if t112.toList = ([0, 0, 0, 0, 0, 0] : List UInt8) then ((event_Kind_String.f 7).bind fun t115 => (some (t115.toList == ([102, 108, 111, 119] : List UInt8)))) else (some false)) else (some false)) else (some false))) = some r := H
  have A1 := Aside0.mk A10
  clear A10
  replace H := Option.bind_eq_some_iff.mp H
  obtain ⟨t114, A20, H⟩ := H
  replace H : (if t114 = true then (if t113 = 0 then (if t112.toList = ([0, 0, 0, 0, 0, 0] : List UInt8) then ((event_Kind_String.f 7).bind fun t115 => (some (t115.toList == ([102, 108, 111, 119] : List UInt8)))) else (some false)) else (some false)) else (some false)) = some r := H
  have A2 := Aside0.mk A20
  clear A20
  by_cases c3 : t114 = true
  · subst c3
    have H1 : (if t113 = 0 then (if t112.toList = ([0, 0, 0, 0, 0, 0] : List UInt8) then ((event_Kind_String.f 7).bind fun t115 => (some (t115.toList == ([102, 108, 111, 119] : List UInt8)))) else (some false)) else (some false)) = some r := by rw [if_pos rfl] at H; exact H
    clear H
    have H := H1
    clear H1
    by_cases c4 : t113 = 0
    · rw [if_pos c4] at H
      have c4b0 : (t113 == 0) = true := beq_iff_eq.mpr c4
      have c4b1 : (t113 != 0) = false := bne_eq_false_iff_eq.mpr c4
      clear c4
      by_cases c5 : t112.toList = ([0, 0, 0, 0, 0, 0] : List UInt8)
      · rw [if_pos c5] at H
        have c5b0 : (t112.toList == ([0, 0, 0, 0, 0, 0] : List UInt8)) = true := beq_iff_eq.mpr c5
        have c5b1 : (t112.toList != ([0, 0, 0, 0, 0, 0] : List UInt8)) = false := bne_eq_false_iff_eq.mpr c5
        clear c5
        replace H := Option.bind_eq_some_iff.mp H
        obtain ⟨t115, A60, H⟩ := H
        replace H : (some (t115.toList == ([102, 108, 111, 119] : List UInt8))) = some r := H
        have A6 := Aside0.mk A60
        clear A60
        obtain rfl := Option.some.inj H
        go_enter Try.func8, Try.ntmps8
        go_wp2_with (first | ((with_reducible refine gate_dst (N := 5) rfl ?_); refine Kd.R_lit k28 _ 28 ?hg (N := 5) ?hd (xs := ([(⟨0, 0, 0, 0, (⟨#[]⟩ : ByteArray)⟩ : S28)] : List (S28))) (inner := [.int .u8 0, .int .u8 0, .int .u8 0, .int .u8 0, .string (⟨#[]⟩ : ByteArray)]) (ok := fun _ => True) (okp := fun _ => True) ?hr ?hp (fun _ hk => hk) trivial (Below.refl _ _) (Nat.le_refl _) (by simp) ?_; (case hd => rfl); (case hg => rfl); (case hr => first | (go_simp; done) | (go_simp; rfl)); (case hp => exact (Reps.c5 (show Kd.M k28 _ _ _ (⟨0, 0, 0, 0, (⟨#[]⟩ : ByteArray)⟩ : S28) [.int .u8 0, .int .u8 0, .int .u8 0, .int .u8 0, .string (⟨#[]⟩ : ByteArray)] from (k28_mkM _ _ _ (⟨0, 0, 0, 0, (⟨#[]⟩ : ByteArray)⟩ : S28) )) (Reps.none _ _))); intro v110 w7 ho8 hb hg_ hnew_; clear hg_ hnew_; (first | rw [← Ny109.out] at ho8 | (simp only [Int.reduceToNat] at ho8; rw [← Ny109.out] at ho8)); have n0_ := Aside0.mk (Kd.R_lower ho8 (below_size (by repeat (first | (with_reducible first | exact HB.out | apply below_alloc | apply pw_below_drewN | apply below_drew1) | exact HB.out)))); have n1_ := Aside0.mk (below_step (by repeat (first | (with_reducible first | exact HB.out | apply below_alloc | apply pw_below_drewN | apply below_drew1) | exact HB.out)) hb); clear HB; have HO111 := n0_; have HB := n1_; clear n0_ n1_; clear hb ho8; obtain ⟨Ao9, co9, eo9⟩ := Kd.R_slice HO111.out; subst eo9) | ((with_reducible refine gate_callee (f := 10) rfl ?_); refine goesL_ (some 6) rfl rfl Try.func10 (by kernel_rfl) rfl #[.slice Ao9 y109.length co9] rfl (by (try simp only [List.map_toArray, List.map_cons, List.map_nil]); first | done | rfl | (simp only [List.length_drop, List.length_take]; rfl)) ?_; (with_reducible refine (event_Close.calls _ _ y109 t112 t113 _ ?side1 ?side2 A1.out).mono ?_); (case side1 => repeat (first | exact (Kd.R_reads' HO111.out).2.2 | (with_reducible refine Kd.C_alloc ?_ _) | (with_reducible refine Kd.C_drewN ?_ _) | (with_reducible refine Kd.C_drew ?_))); (case side2 => exact (Kd.R_reads' HO111.out).2.1); rintro e w10 ⟨rfl, hb⟩; refine ⟨_, rfl, ?_⟩; have n0_ := Aside0.mk (Kd.R_below (by (with_reducible repeat (first | apply Kd.R_alloc | apply Kd.R_drewN | apply Kd.R_drew)); exact HO111.out) hb); have n1_ := Aside0.mk (below_step (by repeat (first | (with_reducible first | exact HB.out | apply below_alloc | apply pw_below_drewN | apply below_drew1) | exact HB.out)) hb); clear HO111; clear HB; have HO111 := n0_; have HB := n1_; clear n0_ n1_; (try clear hb); (try clear hb2); (try clear hk); (try clear hi)) | ((with_reducible refine gate_callee (f := 16) rfl ?_); refine goesL_ (some 9) rfl rfl Try.func16 (by kernel_rfl) rfl #[] rfl (by (try simp only [List.map_toArray, List.map_cons, List.map_nil]); first | done | rfl | (simp only [List.length_drop, List.length_take]; rfl)) ?_; (with_reducible refine (carousellaw01_Awake.calls  true _ A2.out).mono ?_); rintro e w11 ⟨rfl, hb⟩; refine ⟨_, rfl, ?_⟩; have n0_ := Aside0.mk (Kd.R_below (by (with_reducible repeat (first | apply Kd.R_alloc | apply Kd.R_drewN | apply Kd.R_drew)); exact HO111.out) hb); have n1_ := Aside0.mk (below_step (by repeat (first | (with_reducible first | exact HB.out | apply below_alloc | apply pw_below_drewN | apply below_drew1) | exact HB.out)) hb); clear HO111; clear HB; have HO111 := n0_; have HB := n1_; clear n0_ n1_; (try clear hb); (try clear hb2); (try clear hk); (try clear hi)) | (go_at_call 12; (with_reducible refine (event_Kind_String.calls 7 t115 _ A6.out).mono ?_); rintro e w12 ⟨rfl, hb⟩; have n0_ := Aside0.mk (Kd.R_below (by (with_reducible repeat (first | apply Kd.R_alloc | apply Kd.R_drewN | apply Kd.R_drew)); exact HO111.out) hb); have n1_ := Aside0.mk (below_step (by repeat (first | (with_reducible first | exact HB.out | apply below_alloc | apply pw_below_drewN | apply below_drew1) | exact HB.out)) hb); clear HO111; clear HB; have HO111 := n0_; have HB := n1_; clear n0_ n1_; (try clear hb); (try clear hb2); (try clear hk); (try clear hi)))
        go_ret
        exact ⟨by first | rfl | (simp [errW_none, errW_some] <;> rfl) | (simp [*, errW_none, errW_some] <;> rfl), by repeat (first | (with_reducible first | exact HB.out | apply below_alloc | apply pw_below_drewN | apply below_drew1) | exact HB.out)⟩
      · rw [if_neg c5] at H
        have c5b0 : (t112.toList == ([0, 0, 0, 0, 0, 0] : List UInt8)) = false := beq_eq_false_iff_ne.mpr c5
        have c5b1 : (t112.toList != ([0, 0, 0, 0, 0, 0] : List UInt8)) = true := bne_iff_ne.mpr c5
        cases (Option.some.inj H).trans hT
    · rw [if_neg c4] at H
      have c4b0 : (t113 == 0) = false := beq_eq_false_iff_ne.mpr c4
      have c4b1 : (t113 != 0) = true := bne_iff_ne.mpr c4
      cases (Option.some.inj H).trans hT
  · replace c3 := Bool.eq_false_iff.mpr c3
    subst c3
    have H1 : (some false) = some r := by rw [if_neg (show ¬ (false = true) by decide)] at H; exact H
    clear H
    have H := H1
    clear H1
    cases (Option.some.inj H).trans hT

/-! ### carousellaw22_Of: function 9 -/
def carousellaw22_Of.f (a0_0 : Int) (a0_1 : Int) (a0_2 : Int) (a0_3 : Int) (a0_4 : ByteArray) : Option (Int × Int × Int × Int × ByteArray) := some (a0_0, a0_1, a0_2, a0_3, a0_4)
set_option maxHeartbeats 8000000 in
set_option maxRecDepth 100000 in
theorem carousellaw22_Of.calls (a0_0 : Int) (a0_1 : Int) (a0_2 : Int) (a0_3 : Int) (a0_4 : ByteArray) (r1 : Int) (r2 : Int) (r3 : Int) (r4 : Int) (r5 : ByteArray) (w : World) (h : carousellaw22_Of.f a0_0 a0_1 a0_2 a0_3 a0_4 = some (r1, r2, r3, r4, r5)) :
    Calls Try.prog 9 #[.agg #[.int .u8 a0_0, .int .u8 a0_1, .int .u8 a0_2, .int .u8 a0_3, .string a0_4]] w fun e w' => e = .returned (.agg #[.int .u8 r1, .int .u8 r2, .int .u8 r3, .int .u8 r4, .string r5]) ∧ Below w.heap.size w w' := by
  have hu28 := Try.underlying28
  have hu30 := Try.underlying30
  have HB := Aside0.mk (Below.refl w.heap.size w)
  have H : (some (a0_0, a0_1, a0_2, a0_3, a0_4)) = some (r1, r2, r3, r4, r5) := h
  clear h
  simp only [Option.some.injEq, Prod.mk.injEq] at H
  obtain ⟨rfl, rfl, rfl, rfl, rfl⟩ := H
  go_enter Try.func9, Try.ntmps9
  go_wp2_with (first | ((with_reducible refine gate_dst (N := 1) rfl ?_); refine box_event ?hg (N := 1) ?hd (cs := #[.int .u8 a0_0, .int .u8 a0_1, .int .u8 a0_2, .int .u8 a0_3, .string a0_4]) (t := 28) ?hr ?_; (case hd => rfl); (case hg => rfl); (case hr => first | (go_simp; done) | (go_simp; rfl)); intro gb116 hg w2 hbox hb; have n0_ := Aside0.mk (below_step (by repeat (first | (with_reducible first | exact HB.out | apply below_alloc | apply pw_below_drewN | apply below_drew1) | exact HB.out)) hb); have n1_ := Aside0.mk (hbox); have n2_ := Aside0.mk ((by rw [hg]; exact (below_size (by repeat (first | (with_reducible first | exact HB.out | apply below_alloc | apply pw_below_drewN | apply below_drew1) | exact HB.out))) : w.heap.size ≤ gb116)); have n3_ := Aside0.mk ((by rw [hg]; exact (below_size (by repeat (first | (with_reducible first | exact HB.out | apply below_alloc | apply pw_below_drewN | apply below_drew1) | exact HB.out))) : w.heap.size ≤ gb116)); clear HB; have HB := n0_; have BK116 := n1_; have GW116 := n2_; have GE116 := n3_; clear n0_ n1_ n2_ n3_; clear hb hbox hg) | ((with_reducible refine gate_dst (N := 2) rfl ?_); refine box_event ?hg (N := 2) ?hd (cs := #[.int .u8 0, .int .u8 0, .int .u8 0, .int .u8 0, .string (⟨#[]⟩ : ByteArray)]) (t := 30) ?hr ?_; (case hd => rfl); (case hg => rfl); (case hr => first | (go_simp; done) | (go_simp; rfl)); intro gb117 hg w3 hbox hb; have n0_ := Aside0.mk (blk_below (g := gb116) (o := .cells #[.int .u8 a0_0, .int .u8 a0_1, .int .u8 a0_2, .int .u8 a0_3, .string a0_4] 28 (0, 0)) (by (with_reducible repeat (first | refine blk_drewN ?_ _ | refine blk_drew ?_ | refine blk_alloc ?_ _)); exact BK116.out) hb); have n1_ := Aside0.mk (below_step (by repeat (first | (with_reducible first | exact HB.out | apply below_alloc | apply pw_below_drewN | apply below_drew1 | refine below_set ?_ GE116.out) | exact HB.out)) hb); have n2_ := Aside0.mk (hbox); have n3_ := Aside0.mk ((by rw [hg]; exact (below_size (by repeat (first | (with_reducible first | exact HB.out | apply below_alloc | apply pw_below_drewN | apply below_drew1 | refine below_set ?_ GE116.out) | exact HB.out))) : w.heap.size ≤ gb117)); have n4_ := Aside0.mk ((by rw [hg]; exact (below_size (by repeat (first | (with_reducible first | exact HB.out | apply below_alloc | apply pw_below_drewN | apply below_drew1 | refine below_set ?_ GE116.out) | exact HB.out))) : w.heap.size ≤ gb117)); have n5_ := Aside0.mk ((by rw [hg]; exact Nat.ne_of_lt (blk_lt (g := gb116) (o := .cells #[.int .u8 a0_0, .int .u8 a0_1, .int .u8 a0_2, .int .u8 a0_3, .string a0_4] 28 (0, 0)) (by (with_reducible repeat (first | refine blk_drewN ?_ _ | refine blk_drew ?_ | refine blk_alloc ?_ _)); exact BK116.out)) : gb116 ≠ gb117)); have n6_ := Aside0.mk ((by rw [hg]; exact Nat.ne_of_gt (blk_lt (g := gb116) (o := .cells #[.int .u8 a0_0, .int .u8 a0_1, .int .u8 a0_2, .int .u8 a0_3, .string a0_4] 28 (0, 0)) (by (with_reducible repeat (first | refine blk_drewN ?_ _ | refine blk_drew ?_ | refine blk_alloc ?_ _)); exact BK116.out)) : gb117 ≠ gb116)); clear BK116; clear HB; have BK116 := n0_; have HB := n1_; have BK117 := n2_; have GW117 := n3_; have GE117 := n4_; have NB116_117 := n5_; have NB117_116 := n6_; clear n0_ n1_ n2_ n3_ n4_ n5_ n6_; clear hb hbox hg; have hnb4 := NB116_117.out; have hnc4 := NB117_116.out; have hcz5_0 : w3.cell? ⟨gb116, 0, none⟩ = some (.int .u8 a0_0) := (blk_cell BK116.out 0).trans rfl; have hcz5_1 : w3.cell? ⟨gb116, 1, none⟩ = some (.int .u8 a0_1) := (blk_cell BK116.out 1).trans rfl; have hcz5_2 : w3.cell? ⟨gb116, 2, none⟩ = some (.int .u8 a0_2) := (blk_cell BK116.out 2).trans rfl; have hcz5_3 : w3.cell? ⟨gb116, 3, none⟩ = some (.int .u8 a0_3) := (blk_cell BK116.out 3).trans rfl; have hcz5_4 : w3.cell? ⟨gb116, 4, none⟩ = some (.string a0_4) := (blk_cell BK116.out 4).trans rfl; have hfz5_0 := blk_frozen BK116.out 0; have hfz5_1 := blk_frozen BK116.out 1; have hfz5_2 := blk_frozen BK116.out 2; have hfz5_3 := blk_frozen BK116.out 3; have hfz5_4 := blk_frozen BK116.out 4; have hcz6_0 : w3.cell? ⟨gb117, 0, none⟩ = some (.int .u8 0) := (blk_cell BK117.out 0).trans rfl; have hcz6_1 : w3.cell? ⟨gb117, 1, none⟩ = some (.int .u8 0) := (blk_cell BK117.out 1).trans rfl; have hcz6_2 : w3.cell? ⟨gb117, 2, none⟩ = some (.int .u8 0) := (blk_cell BK117.out 2).trans rfl; have hcz6_3 : w3.cell? ⟨gb117, 3, none⟩ = some (.int .u8 0) := (blk_cell BK117.out 3).trans rfl; have hcz6_4 : w3.cell? ⟨gb117, 4, none⟩ = some (.string (⟨#[]⟩ : ByteArray)) := (blk_cell BK117.out 4).trans rfl; have hfz6_0 := blk_frozen BK117.out 0; have hfz6_1 := blk_frozen BK117.out 1; have hfz6_2 := blk_frozen BK117.out 2; have hfz6_3 := blk_frozen BK117.out 3; have hfz6_4 := blk_frozen BK117.out 4))
  refine bodyPost_ret (results_cell_row rfl _ _ gb117 30 #[.int .u8 a0_0, .int .u8 a0_1, .int .u8 a0_2, .int .u8 a0_3, .string a0_4] (0, 0) _ rfl (by (with_reducible repeat (first | refine blk_drewN ?_ _ | refine blk_drew ?_ | refine blk_alloc ?_ _)); refine blk_put (cs := #[.int .u8 a0_0, .int .u8 a0_1, .int .u8 a0_2, .int .u8 a0_3, .string (⟨#[]⟩ : ByteArray)]) ?_ 4 _ rfl; (with_reducible repeat (first | refine blk_drewN ?_ _ | refine blk_drew ?_ | refine blk_alloc ?_ _)); refine blk_put (cs := #[.int .u8 a0_0, .int .u8 a0_1, .int .u8 a0_2, .int .u8 0, .string (⟨#[]⟩ : ByteArray)]) ?_ 3 _ rfl; (with_reducible repeat (first | refine blk_drewN ?_ _ | refine blk_drew ?_ | refine blk_alloc ?_ _)); refine blk_put (cs := #[.int .u8 a0_0, .int .u8 a0_1, .int .u8 0, .int .u8 0, .string (⟨#[]⟩ : ByteArray)]) ?_ 2 _ rfl; (with_reducible repeat (first | refine blk_drewN ?_ _ | refine blk_drew ?_ | refine blk_alloc ?_ _)); refine blk_put (cs := #[.int .u8 a0_0, .int .u8 0, .int .u8 0, .int .u8 0, .string (⟨#[]⟩ : ByteArray)]) ?_ 1 _ rfl; (with_reducible repeat (first | refine blk_drewN ?_ _ | refine blk_drew ?_ | refine blk_alloc ?_ _)); refine blk_put (cs := #[.int .u8 0, .int .u8 0, .int .u8 0, .int .u8 0, .string (⟨#[]⟩ : ByteArray)]) ?_ 0 _ rfl; (with_reducible repeat (first | refine blk_drewN ?_ _ | refine blk_drew ?_ | refine blk_alloc ?_ _)); exact BK117.out) Try.underlying30 rfl (by kernel_rfl)) rfl ?_
  exact ⟨by first | rfl | (simp [errW_none, errW_some] <;> rfl) | (simp [*, errW_none, errW_some] <;> rfl), by repeat (first | (with_reducible first | exact HB.out | apply below_alloc | apply pw_below_drewN | apply below_drew1 | refine below_set ?_ GE116.out | refine below_set ?_ GE117.out) | exact HB.out)⟩

/-! ### carouselref22_Close: function 11 (given: its walk is in another text) -/

def carouselref22_Close.tup (x : S30) : Gv.Ev := (x.f0, x.f1, x.f2, x.f3, x.f4)
def carouselref22_Close.f (l0 : List S30) : Option (ByteArray × Int) := if l0.length ≤ 1000000 ∧ (l0.all fun x => decide (0 ≤ x.f0 ∧ x.f0 ≤ 255 ∧ 0 ≤ x.f1 ∧ x.f1 ≤ 255 ∧ 0 ≤ x.f2 ∧ x.f2 ≤ 255 ∧ 0 ≤ x.f3 ∧ x.f3 ≤ 255)) = true then some (Gv.evClose (l0.map carouselref22_Close.tup)) else none
theorem carouselref22_Close.calls (A0 : Option Addr) (c0 : Nat) (l0 : List S30) (r1 : ByteArray) (r2 : Int) (w : World) (hr0 : Kd.C k30 w A0 l0.length l0) (hc0 : l0.length ≤ c0) (h : carouselref22_Close.f l0 = some (r1, r2)) :
    Calls Try.prog 11 #[.slice A0 l0.length c0] w fun e w' => e = .returned (.tuple #[.string r1, .int .i64 r2]) ∧ Below w.heap.size w w' := by
  unfold carouselref22_Close.f at h
  by_cases hc : l0.length ≤ 1000000 ∧ (l0.all fun x => decide (0 ≤ x.f0 ∧ x.f0 ≤ 255 ∧ 0 ≤ x.f1 ∧ x.f1 ≤ 255 ∧ 0 ≤ x.f2 ∧ x.f2 ≤ 255 ∧ 0 ≤ x.f3 ∧ x.f3 ≤ 255)) = true
  · rw [if_pos hc] at h
    have hp := Gv.ref_calls A0 c0 (l0.map carouselref22_Close.tup) w (fun i hi => by
      rw [List.length_map] at hi
      obtain ⟨ad, e, h0, h1, h2, h3, h4⟩ := at_T30 hr0 (i : Int) (by omega) (by omega)
      rw [Int.toNat_natCast] at h0 h1 h2 h3 h4
      have he : (l0.map carouselref22_Close.tup).getD i Gv.ez = carouselref22_Close.tup (rd_T30 l0 (i : Int)) := by simp [rd_T30, List.getD_eq_getElem?_getD, List.getElem?_eq_getElem hi]
      rw [he]
      exact ⟨ad, e, h0, h1, h2, h3, h4⟩) (by rw [List.length_map]; exact hc0) (by rw [List.length_map]; exact hc.1) (fun e he => by
      obtain ⟨x, hx, rfl⟩ := List.mem_map.1 he
      have := of_decide_eq_true (List.all_eq_true.1 hc.2 x hx)
      exact ⟨⟨this.1, this.2.1⟩, ⟨this.2.2.1, this.2.2.2.1⟩, ⟨this.2.2.2.2.1, this.2.2.2.2.2.1⟩, this.2.2.2.2.2.2.1, this.2.2.2.2.2.2.2⟩)
    have e := Option.some.inj h
    rw [List.length_map, e] at hp
    exact hp
  · rw [if_neg hc] at h; cases h


/-! ### carouselref22_Word: function 13 -/
def carouselref22_Word.f (a0 : Int) : Option (ByteArray) := (some (([(⟨#[116, 105, 99, 107]⟩ : ByteArray), (⟨#[100, 101, 108, 105, 118, 101, 114]⟩ : ByteArray), (⟨#[100, 114, 111, 112]⟩ : ByteArray), (⟨#[100, 111, 119, 110]⟩ : ByteArray), (⟨#[117, 112]⟩ : ByteArray), (⟨#[111, 114, 100, 101, 114]⟩ : ByteArray), (⟨#[104, 111, 115, 116]⟩ : ByteArray), (⟨#[102, 108, 111, 119]⟩ : ByteArray)] : List ByteArray) : List ByteArray)).bind fun y118 => (if a0 < 0 then (some (⟨#[110, 111, 110, 101]⟩ : ByteArray)) else (if a0 > 7 then (some (⟨#[110, 111, 110, 101]⟩ : ByteArray)) else (if 0 ≤ a0 then (if a0 < (y118.length : Int) then (some (rdOf ByteArray.empty y118 a0)) else (none)) else (none))))
set_option maxHeartbeats 8000000 in
set_option maxRecDepth 100000 in
theorem carouselref22_Word.calls (a0 : Int) (r : ByteArray) (w : World) (h : carouselref22_Word.f a0 = some r) :
    Calls Try.prog 13 #[.int .i64 a0] w fun e w' => e = .returned (.string r) ∧ Below w.heap.size w w' := by
  have HB := Aside0.mk (Below.refl w.heap.size w)
  have H : ((some (([(⟨#[116, 105, 99, 107]⟩ : ByteArray), (⟨#[100, 101, 108, 105, 118, 101, 114]⟩ : ByteArray), (⟨#[100, 114, 111, 112]⟩ : ByteArray), (⟨#[100, 111, 119, 110]⟩ : ByteArray), (⟨#[117, 112]⟩ : ByteArray), (⟨#[111, 114, 100, 101, 114]⟩ : ByteArray), (⟨#[104, 111, 115, 116]⟩ : ByteArray), (⟨#[102, 108, 111, 119]⟩ : ByteArray)] : List ByteArray) : List ByteArray)).bind fun y118 => (if a0 < 0 then (some (⟨#[110, 111, 110, 101]⟩ : ByteArray)) else (if a0 > 7 then (some (⟨#[110, 111, 110, 101]⟩ : ByteArray)) else (if 0 ≤ a0 then (if a0 < (y118.length : Int) then (some (rdOf ByteArray.empty y118 a0)) else (none)) else (none))))) = some r := h
  clear h
  obtain ⟨y118, hy118⟩ : ∃ y_ : List ByteArray, y_ = (([(⟨#[116, 105, 99, 107]⟩ : ByteArray), (⟨#[100, 101, 108, 105, 118, 101, 114]⟩ : ByteArray), (⟨#[100, 114, 111, 112]⟩ : ByteArray), (⟨#[100, 111, 119, 110]⟩ : ByteArray), (⟨#[117, 112]⟩ : ByteArray), (⟨#[111, 114, 100, 101, 114]⟩ : ByteArray), (⟨#[104, 111, 115, 116]⟩ : ByteArray), (⟨#[102, 108, 111, 119]⟩ : ByteArray)] : List ByteArray)) := ⟨_, rfl⟩
  replace H : (if a0 < 0 then (some (⟨#[110, 111, 110, 101]⟩ : ByteArray)) else (if a0 > 7 then (some (⟨#[110, 111, 110, 101]⟩ : ByteArray)) else (if 0 ≤ a0 then (if a0 < (y118.length : Int) then (some (rdOf ByteArray.empty y118 a0)) else (none)) else (none)))) = some r := by first | (rw [hy118]; with_reducible exact H) | (have H2_ := (Option.bind_some _ _).symm.trans H; rw [hy118]; with_reducible exact H2_) | (have H2_ := (Option.bind_some _ _).symm.trans H; with_reducible exact H2_) | with_reducible exact H | (rw [hy118]; exact H) | exact H
  have Ny118 := Aside0.mk hy118
  clear hy118
  by_cases c2 : a0 < 0
  · rw [if_pos c2] at H
    have c2b0 : decide (a0 < 0) = true := decide_eq_true c2
    clear c2
    obtain rfl := Option.some.inj H
    go_enter Try.func13, Try.ntmps13
    go_wp2_with (first | ((with_reducible refine gate_dst (N := 4) rfl ?_); refine Kd.R_lit Kd.string _ 9 ?hg (N := 4) ?hd (xs := ([(⟨#[116, 105, 99, 107]⟩ : ByteArray), (⟨#[100, 101, 108, 105, 118, 101, 114]⟩ : ByteArray), (⟨#[100, 114, 111, 112]⟩ : ByteArray), (⟨#[100, 111, 119, 110]⟩ : ByteArray), (⟨#[117, 112]⟩ : ByteArray), (⟨#[111, 114, 100, 101, 114]⟩ : ByteArray), (⟨#[104, 111, 115, 116]⟩ : ByteArray), (⟨#[102, 108, 111, 119]⟩ : ByteArray)] : List ByteArray)) (inner := [.string (⟨#[116, 105, 99, 107]⟩ : ByteArray), .string (⟨#[100, 101, 108, 105, 118, 101, 114]⟩ : ByteArray), .string (⟨#[100, 114, 111, 112]⟩ : ByteArray), .string (⟨#[100, 111, 119, 110]⟩ : ByteArray), .string (⟨#[117, 112]⟩ : ByteArray), .string (⟨#[111, 114, 100, 101, 114]⟩ : ByteArray), .string (⟨#[104, 111, 115, 116]⟩ : ByteArray), .string (⟨#[102, 108, 111, 119]⟩ : ByteArray)]) (ok := fun _ => True) (okp := fun _ => True) ?hr ?hp (fun _ hk => hk) trivial (Below.refl _ _) (Nat.le_refl _) (by simp) ?_; (case hd => rfl); (case hg => rfl); (case hr => first | (go_simp; done) | (go_simp; rfl)); (case hp => exact (Reps.one (show Kd.M Kd.string _ _ _ (⟨#[116, 105, 99, 107]⟩ : ByteArray) [.string (⟨#[116, 105, 99, 107]⟩ : ByteArray)] from rfl) (Reps.one (show Kd.M Kd.string _ _ _ (⟨#[100, 101, 108, 105, 118, 101, 114]⟩ : ByteArray) [.string (⟨#[100, 101, 108, 105, 118, 101, 114]⟩ : ByteArray)] from rfl) (Reps.one (show Kd.M Kd.string _ _ _ (⟨#[100, 114, 111, 112]⟩ : ByteArray) [.string (⟨#[100, 114, 111, 112]⟩ : ByteArray)] from rfl) (Reps.one (show Kd.M Kd.string _ _ _ (⟨#[100, 111, 119, 110]⟩ : ByteArray) [.string (⟨#[100, 111, 119, 110]⟩ : ByteArray)] from rfl) (Reps.one (show Kd.M Kd.string _ _ _ (⟨#[117, 112]⟩ : ByteArray) [.string (⟨#[117, 112]⟩ : ByteArray)] from rfl) (Reps.one (show Kd.M Kd.string _ _ _ (⟨#[111, 114, 100, 101, 114]⟩ : ByteArray) [.string (⟨#[111, 114, 100, 101, 114]⟩ : ByteArray)] from rfl) (Reps.one (show Kd.M Kd.string _ _ _ (⟨#[104, 111, 115, 116]⟩ : ByteArray) [.string (⟨#[104, 111, 115, 116]⟩ : ByteArray)] from rfl) (Reps.one (show Kd.M Kd.string _ _ _ (⟨#[102, 108, 111, 119]⟩ : ByteArray) [.string (⟨#[102, 108, 111, 119]⟩ : ByteArray)] from rfl) (Reps.none _ _)))))))))); intro v119 w3 ho4 hb hg_ hnew_; clear hg_ hnew_; (first | rw [← Ny118.out] at ho4 | (simp only [Int.reduceToNat] at ho4; rw [← Ny118.out] at ho4)); have n0_ := Aside0.mk (Kd.R_lower ho4 (below_size (by repeat (first | (with_reducible first | exact HB.out | apply below_alloc | apply pw_below_drewN | apply below_drew1) | exact HB.out)))); have n1_ := Aside0.mk (below_step (by repeat (first | (with_reducible first | exact HB.out | apply below_alloc | apply pw_below_drewN | apply below_drew1) | exact HB.out)) hb); clear HB; have HO120 := n0_; have HB := n1_; clear n0_ n1_; clear hb ho4))
    go_ret
    exact ⟨by first | rfl | (simp [errW_none, errW_some] <;> rfl) | (simp [*, errW_none, errW_some] <;> rfl), by repeat (first | (with_reducible first | exact HB.out | apply below_alloc | apply pw_below_drewN | apply below_drew1) | exact HB.out)⟩
  · rw [if_neg c2] at H
    have c2b0 : decide (a0 < 0) = false := decide_eq_false c2
    clear c2
    by_cases c5 : a0 > 7
    · rw [if_pos c5] at H
      have c5b0 : decide (7 < a0) = true := decide_eq_true c5
      clear c5
      obtain rfl := Option.some.inj H
      go_enter Try.func13, Try.ntmps13
      go_wp2_with (first | ((with_reducible refine gate_dst (N := 4) rfl ?_); refine Kd.R_lit Kd.string _ 9 ?hg (N := 4) ?hd (xs := ([(⟨#[116, 105, 99, 107]⟩ : ByteArray), (⟨#[100, 101, 108, 105, 118, 101, 114]⟩ : ByteArray), (⟨#[100, 114, 111, 112]⟩ : ByteArray), (⟨#[100, 111, 119, 110]⟩ : ByteArray), (⟨#[117, 112]⟩ : ByteArray), (⟨#[111, 114, 100, 101, 114]⟩ : ByteArray), (⟨#[104, 111, 115, 116]⟩ : ByteArray), (⟨#[102, 108, 111, 119]⟩ : ByteArray)] : List ByteArray)) (inner := [.string (⟨#[116, 105, 99, 107]⟩ : ByteArray), .string (⟨#[100, 101, 108, 105, 118, 101, 114]⟩ : ByteArray), .string (⟨#[100, 114, 111, 112]⟩ : ByteArray), .string (⟨#[100, 111, 119, 110]⟩ : ByteArray), .string (⟨#[117, 112]⟩ : ByteArray), .string (⟨#[111, 114, 100, 101, 114]⟩ : ByteArray), .string (⟨#[104, 111, 115, 116]⟩ : ByteArray), .string (⟨#[102, 108, 111, 119]⟩ : ByteArray)]) (ok := fun _ => True) (okp := fun _ => True) ?hr ?hp (fun _ hk => hk) trivial (Below.refl _ _) (Nat.le_refl _) (by simp) ?_; (case hd => rfl); (case hg => rfl); (case hr => first | (go_simp; done) | (go_simp; rfl)); (case hp => exact (Reps.one (show Kd.M Kd.string _ _ _ (⟨#[116, 105, 99, 107]⟩ : ByteArray) [.string (⟨#[116, 105, 99, 107]⟩ : ByteArray)] from rfl) (Reps.one (show Kd.M Kd.string _ _ _ (⟨#[100, 101, 108, 105, 118, 101, 114]⟩ : ByteArray) [.string (⟨#[100, 101, 108, 105, 118, 101, 114]⟩ : ByteArray)] from rfl) (Reps.one (show Kd.M Kd.string _ _ _ (⟨#[100, 114, 111, 112]⟩ : ByteArray) [.string (⟨#[100, 114, 111, 112]⟩ : ByteArray)] from rfl) (Reps.one (show Kd.M Kd.string _ _ _ (⟨#[100, 111, 119, 110]⟩ : ByteArray) [.string (⟨#[100, 111, 119, 110]⟩ : ByteArray)] from rfl) (Reps.one (show Kd.M Kd.string _ _ _ (⟨#[117, 112]⟩ : ByteArray) [.string (⟨#[117, 112]⟩ : ByteArray)] from rfl) (Reps.one (show Kd.M Kd.string _ _ _ (⟨#[111, 114, 100, 101, 114]⟩ : ByteArray) [.string (⟨#[111, 114, 100, 101, 114]⟩ : ByteArray)] from rfl) (Reps.one (show Kd.M Kd.string _ _ _ (⟨#[104, 111, 115, 116]⟩ : ByteArray) [.string (⟨#[104, 111, 115, 116]⟩ : ByteArray)] from rfl) (Reps.one (show Kd.M Kd.string _ _ _ (⟨#[102, 108, 111, 119]⟩ : ByteArray) [.string (⟨#[102, 108, 111, 119]⟩ : ByteArray)] from rfl) (Reps.none _ _)))))))))); intro v119 w6 ho7 hb hg_ hnew_; clear hg_ hnew_; (first | rw [← Ny118.out] at ho7 | (simp only [Int.reduceToNat] at ho7; rw [← Ny118.out] at ho7)); have n0_ := Aside0.mk (Kd.R_lower ho7 (below_size (by repeat (first | (with_reducible first | exact HB.out | apply below_alloc | apply pw_below_drewN | apply below_drew1) | exact HB.out)))); have n1_ := Aside0.mk (below_step (by repeat (first | (with_reducible first | exact HB.out | apply below_alloc | apply pw_below_drewN | apply below_drew1) | exact HB.out)) hb); clear HB; have HO120 := n0_; have HB := n1_; clear n0_ n1_; clear hb ho7))
      go_ret
      exact ⟨by first | rfl | (simp [errW_none, errW_some] <;> rfl) | (simp [*, errW_none, errW_some] <;> rfl), by repeat (first | (with_reducible first | exact HB.out | apply below_alloc | apply pw_below_drewN | apply below_drew1) | exact HB.out)⟩
    · rw [if_neg c5] at H
      have c5b0 : decide (7 < a0) = false := decide_eq_false c5
      clear c5
      by_cases c8 : 0 ≤ a0
      · rw [if_pos c8] at H
        have c8b0 : decide (0 ≤ a0) = true := decide_eq_true c8
        clear c8
        by_cases c9 : a0 < (y118.length : Int)
        · rw [if_pos c9] at H
          have c9b0 : decide (a0 < (y118.length : Int)) = true := decide_eq_true c9
          clear c9
          obtain rfl := Option.some.inj H
          go_enter Try.func13, Try.ntmps13
          go_wp2_with (first | ((with_reducible refine gate_dst (N := 4) rfl ?_); refine Kd.R_lit Kd.string _ 9 ?hg (N := 4) ?hd (xs := ([(⟨#[116, 105, 99, 107]⟩ : ByteArray), (⟨#[100, 101, 108, 105, 118, 101, 114]⟩ : ByteArray), (⟨#[100, 114, 111, 112]⟩ : ByteArray), (⟨#[100, 111, 119, 110]⟩ : ByteArray), (⟨#[117, 112]⟩ : ByteArray), (⟨#[111, 114, 100, 101, 114]⟩ : ByteArray), (⟨#[104, 111, 115, 116]⟩ : ByteArray), (⟨#[102, 108, 111, 119]⟩ : ByteArray)] : List ByteArray)) (inner := [.string (⟨#[116, 105, 99, 107]⟩ : ByteArray), .string (⟨#[100, 101, 108, 105, 118, 101, 114]⟩ : ByteArray), .string (⟨#[100, 114, 111, 112]⟩ : ByteArray), .string (⟨#[100, 111, 119, 110]⟩ : ByteArray), .string (⟨#[117, 112]⟩ : ByteArray), .string (⟨#[111, 114, 100, 101, 114]⟩ : ByteArray), .string (⟨#[104, 111, 115, 116]⟩ : ByteArray), .string (⟨#[102, 108, 111, 119]⟩ : ByteArray)]) (ok := fun _ => True) (okp := fun _ => True) ?hr ?hp (fun _ hk => hk) trivial (Below.refl _ _) (Nat.le_refl _) (by simp) ?_; (case hd => rfl); (case hg => rfl); (case hr => first | (go_simp; done) | (go_simp; rfl)); (case hp => exact (Reps.one (show Kd.M Kd.string _ _ _ (⟨#[116, 105, 99, 107]⟩ : ByteArray) [.string (⟨#[116, 105, 99, 107]⟩ : ByteArray)] from rfl) (Reps.one (show Kd.M Kd.string _ _ _ (⟨#[100, 101, 108, 105, 118, 101, 114]⟩ : ByteArray) [.string (⟨#[100, 101, 108, 105, 118, 101, 114]⟩ : ByteArray)] from rfl) (Reps.one (show Kd.M Kd.string _ _ _ (⟨#[100, 114, 111, 112]⟩ : ByteArray) [.string (⟨#[100, 114, 111, 112]⟩ : ByteArray)] from rfl) (Reps.one (show Kd.M Kd.string _ _ _ (⟨#[100, 111, 119, 110]⟩ : ByteArray) [.string (⟨#[100, 111, 119, 110]⟩ : ByteArray)] from rfl) (Reps.one (show Kd.M Kd.string _ _ _ (⟨#[117, 112]⟩ : ByteArray) [.string (⟨#[117, 112]⟩ : ByteArray)] from rfl) (Reps.one (show Kd.M Kd.string _ _ _ (⟨#[111, 114, 100, 101, 114]⟩ : ByteArray) [.string (⟨#[111, 114, 100, 101, 114]⟩ : ByteArray)] from rfl) (Reps.one (show Kd.M Kd.string _ _ _ (⟨#[104, 111, 115, 116]⟩ : ByteArray) [.string (⟨#[104, 111, 115, 116]⟩ : ByteArray)] from rfl) (Reps.one (show Kd.M Kd.string _ _ _ (⟨#[102, 108, 111, 119]⟩ : ByteArray) [.string (⟨#[102, 108, 111, 119]⟩ : ByteArray)] from rfl) (Reps.none _ _)))))))))); intro v119 w10 ho11 hb hg_ hnew_; clear hg_ hnew_; (first | rw [← Ny118.out] at ho11 | (simp only [Int.reduceToNat] at ho11; rw [← Ny118.out] at ho11)); have n0_ := Aside0.mk (Kd.R_lower ho11 (below_size (by repeat (first | (with_reducible first | exact HB.out | apply below_alloc | apply pw_below_drewN | apply below_drew1) | exact HB.out)))); have n1_ := Aside0.mk (below_step (by repeat (first | (with_reducible first | exact HB.out | apply below_alloc | apply pw_below_drewN | apply below_drew1) | exact HB.out)) hb); clear HB; have HO120 := n0_; have HB := n1_; clear n0_ n1_; clear hb ho11; obtain ⟨Ao12, co12, eo12⟩ := Kd.R_slice HO120.out; subst eo12; have p121 : 0 ≤ (a0 : Int) := of_decide_eq_true (by first | (with_reducible assumption) | assumption); have q121 : a0 < (y118.length : Int) := of_decide_eq_true (by first | (with_reducible assumption) | assumption); obtain ⟨ad121, e121, hx121_0⟩ := Kd.at_string (Kd.R_reads' HO120.out).2.2 a0 p121 q121; cases e121; replace p121 := eq_true p121; replace q121 := eq_true q121))
          go_ret
          exact ⟨by first | rfl | (simp [errW_none, errW_some] <;> rfl) | (simp [*, errW_none, errW_some] <;> rfl), by repeat (first | (with_reducible first | exact HB.out | apply below_alloc | apply pw_below_drewN | apply below_drew1) | exact HB.out)⟩
        · rw [if_neg c9] at H
          exact absurd H (by simp)
      · rw [if_neg c8] at H
        exact absurd H (by simp)

end Go.Proofs.Ytkjjdphlfbecdaa.PAll
