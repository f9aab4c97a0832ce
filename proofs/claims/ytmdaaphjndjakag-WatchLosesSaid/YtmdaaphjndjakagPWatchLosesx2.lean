-- Written by a program of this work, after the translation.
import Derived.Test.YtmdaaphjndjakagPWatchLosesx0
import Derived.Test.YtmdaaphjndjakagPWatchLosesx1
namespace Go.Proofs.Ytmdaaphjndjakag.PWatchLoses
open Go.RowKit Go.Proofs.YtmdaaphjndjakagW.PrintWords Go.Proofs.YtmdaaphjndjakagW.PrintLast Go.Proofs.YtmdaaphjndjakagW.PrintMore
attribute [local go_sem] max2_int min2_int max_two min_two max_three min_three max_four min_four   -- for this text's walks alone
set_option linter.unusedVariables false
set_option linter.unusedSimpArgs false

/-! ### carousellaw01_Awake: function 58 -/
def carousellaw01_Awake.f  : Option (Bool) := (field_Pack.f (([(⟨3, 5⟩ : S95), (⟨1, 0⟩ : S95), (⟨12, 100⟩ : S95)] : List (S95)))).bind fun bt125 => (if bt125.1.toList = ([160, 100] : List UInt8) then (some (bt125.2 == 0)) else (some false))
set_option maxHeartbeats 8000000 in
set_option maxRecDepth 100000 in
theorem carousellaw01_Awake.calls  (r : Bool) (w : World) (h : carousellaw01_Awake.f  = some r) :
  Calls Try.prog 58 #[] w fun e w' => e = .returned (.bool r) ∧ Below w.heap.size w w' := by
 have hT : r = true := by
  have h1_ : carousellaw01_Awake.f = some true := by decide +kernel
  rw [h1_] at h
  exact (Option.some.inj h).symm
 have hu95 := Try.underlying95
 have HB := Aside0.mk (Below.refl w.heap.size w)
 have H : ((field_Pack.f (([(⟨3, 5⟩ : S95), (⟨1, 0⟩ : S95), (⟨12, 100⟩ : S95)] : List (S95)))).bind fun bt125 => (if bt125.1.toList = ([160, 100] : List UInt8) then (some (bt125.2 == 0)) else (some false))) = some r := h
 clear h
 obtain ⟨y122, hy122⟩ : ∃ y_ : List (S95), y_ = (([(⟨3, 5⟩ : S95), (⟨1, 0⟩ : S95), (⟨12, 100⟩ : S95)] : List (S95))) := ⟨_, rfl⟩
 replace H : ((field_Pack.f y122).bind fun bt125 => (if bt125.1.toList = ([160, 100] : List UInt8) then (some (bt125.2 == 0)) else (some false))) = some r := by first | (rw [hy122]; with_reducible exact H) | (have H2_ := (Option.bind_some _ _).symm.trans H; rw [hy122]; with_reducible exact H2_) | (have H2_ := (Option.bind_some _ _).symm.trans H; with_reducible exact H2_) | with_reducible exact H | (rw [hy122]; exact H) | exact H
 have Ny122 := Aside0.mk hy122
 clear hy122
 replace H := Option.bind_eq_some_iff.mp H
 obtain ⟨⟨t125, t126⟩, A10, H⟩ := H
 try dsimp only at H
 have A1 := Aside0.mk A10
 clear A10
 by_cases c2 : t125.toList = ([160, 100] : List UInt8)
 ·
  rw [if_pos c2] at H
  have c2b0 : (t125.toList == ([160, 100] : List UInt8)) = true := beq_iff_eq.mpr c2
  have c2b1 : (t125.toList != ([160, 100] : List UInt8)) = false := bne_eq_false_iff_eq.mpr c2
  clear c2
  obtain rfl := Option.some.inj H
  go_enter Try.func58, Try.ntmps58
  go_wp2_with (first | ((with_reducible refine gate_dst (N := 7) rfl ?_); refine Kd.R_lit k95 _ 95 ?hg (N := 7) ?hd (xs := ([(⟨3, 5⟩ : S95), (⟨1, 0⟩ : S95), (⟨12, 100⟩ : S95)] : List (S95))) (inner := [.int .i64 3, .int .u64 5, .int .i64 1, .int .u64 0, .int .i64 12, .int .u64 100]) (ok := fun _ => True) (okp := fun _ => True) ?hr ?hp (fun _ hk => hk) trivial (Below.refl _ _) (Nat.le_refl _) (by simp) ?_; (case hd => rfl); (case hg => rfl); (case hr => first | (go_simp; done) | (go_simp; rfl)); (case hp => exact (Reps.c2 (show Kd.M k95 _ _ _ (⟨3, 5⟩ : S95) [.int .i64 3, .int .u64 5] from (k95_mkM _ _ _ (⟨3, 5⟩ : S95) )) (Reps.c2 (show Kd.M k95 _ _ _ (⟨1, 0⟩ : S95) [.int .i64 1, .int .u64 0] from (k95_mkM _ _ _ (⟨1, 0⟩ : S95) )) (Reps.c2 (show Kd.M k95 _ _ _ (⟨12, 100⟩ : S95) [.int .i64 12, .int .u64 100] from (k95_mkM _ _ _ (⟨12, 100⟩ : S95) )) (Reps.none _ _))))); intro v123 w3 ho4 hb hg_ hnew_; clear hg_ hnew_; (first | rw [← Ny122.out] at ho4 | (simp only [Int.reduceToNat] at ho4; rw [← Ny122.out] at ho4)); have n0_ := Aside0.mk (Kd.R_lower ho4 (below_size (by repeat (first | (with_reducible first | exact HB.out | apply below_alloc | apply pw_below_drewN | apply below_drew1) | exact HB.out)))); have n1_ := Aside0.mk (below_step (by repeat (first | (with_reducible first | exact HB.out | apply below_alloc | apply pw_below_drewN | apply below_drew1) | exact HB.out)) hb); clear HB; have HO124 := n0_; have HB := n1_; clear n0_ n1_; clear hb ho4; obtain ⟨Ao5, co5, eo5⟩ := Kd.R_slice HO124.out; subst eo5) | ((with_reducible refine gate_callee (f := 47) rfl ?_); refine goesL_ (some 8) rfl rfl Try.func47 (by kernel_rfl) rfl #[.slice Ao5 y122.length co5] rfl (by (try simp only [List.map_toArray, List.map_cons, List.map_nil]); first | done | rfl | (simp only [List.length_drop, List.length_take]; rfl)) ?_; (with_reducible refine (field_Pack.calls _ _ y122 t125 t126 _ ?side1 ?side2 A1.out).mono ?_); (case side1 => repeat (first | exact (Kd.R_reads' HO124.out).2.2 | (with_reducible refine Kd.C_alloc ?_ _) | (with_reducible refine Kd.C_drewN ?_ _) | (with_reducible refine Kd.C_drew ?_))); (case side2 => exact (Kd.R_reads' HO124.out).2.1); rintro e w6 ⟨rfl, hb⟩; refine ⟨_, rfl, ?_⟩; have n0_ := Aside0.mk (Kd.R_below (by (with_reducible repeat (first | apply Kd.R_alloc | apply Kd.R_drewN | apply Kd.R_drew)); exact HO124.out) hb); have n1_ := Aside0.mk (below_step (by repeat (first | (with_reducible first | exact HB.out | apply below_alloc | apply pw_below_drewN | apply below_drew1) | exact HB.out)) hb); clear HO124; clear HB; have HO124 := n0_; have HB := n1_; clear n0_ n1_; (try clear hb); (try clear hb2); (try clear hk); (try clear hi)))
  go_ret
  exact ⟨by first | rfl | (simp [errW_none, errW_some] <;> rfl) | (simp [*, errW_none, errW_some] <;> rfl), by repeat (first | (with_reducible first | exact HB.out | apply below_alloc | apply pw_below_drewN | apply below_drew1) | exact HB.out)⟩
 ·
  rw [if_neg c2] at H
  have c2b0 : (t125.toList == ([160, 100] : List UInt8)) = false := beq_eq_false_iff_ne.mpr c2
  have c2b1 : (t125.toList != ([160, 100] : List UInt8)) = true := bne_iff_ne.mpr c2
  cases (Option.some.inj H).trans hT

/-! ### carousellaw04_Awake: function 38 -/
def carousellaw04_Awake.f  : Option (Bool) := (oam_Close.f 7 1 40 0 0 (⟨#[]⟩ : ByteArray)).bind fun bt127 => ((carousellaw01_Awake.f).bind fun t129 => (if t129 = true then (if bt127.2 = 0 then (some (bt127.1.toList == ([225, 40, 0, 0, 0] : List UInt8))) else (some false)) else (some false)))
set_option maxHeartbeats 8000000 in
set_option maxRecDepth 100000 in
theorem carousellaw04_Awake.calls  (r : Bool) (w : World) (h : carousellaw04_Awake.f  = some r) :
  Calls Try.prog 38 #[] w fun e w' => e = .returned (.bool r) ∧ Below w.heap.size w w' := by
 have hT : r = true := by
  have h1_ : carousellaw04_Awake.f = some true := by decide +kernel
  rw [h1_] at h
  exact (Option.some.inj h).symm
 have hu79 := Try.underlying79
 have HB := Aside0.mk (Below.refl w.heap.size w)
 have H : ((oam_Close.f 7 1 40 0 0 (⟨#[]⟩ : ByteArray)).bind fun bt127 => ((carousellaw01_Awake.f).bind fun t129 => (if t129 = true then (if bt127.2 = 0 then (some (bt127.1.toList == ([225, 40, 0, 0, 0] : List UInt8))) else (some false)) else (some false)))) = some r := h
 clear h
 replace H := Option.bind_eq_some_iff.mp H
 obtain ⟨⟨t127, t128⟩, A10, H⟩ := H
 try dsimp only at H
 have A1 := Aside0.mk A10
 clear A10
 replace H := Option.bind_eq_some_iff.mp H
 obtain ⟨t129, A20, H⟩ := H
 try dsimp only at H
 have A2 := Aside0.mk A20
 clear A20
 by_cases c3 : t129 = true
 ·
  subst c3
  have H1 : (if t128 = 0 then (some (t127.toList == ([225, 40, 0, 0, 0] : List UInt8))) else (some false)) = some r := by rw [if_pos rfl] at H; exact H
  clear H
  have H := H1
  clear H1
  by_cases c4 : t128 = 0
  ·
   rw [if_pos c4] at H
   have c4b0 : (t128 == 0) = true := beq_iff_eq.mpr c4
   have c4b1 : (t128 != 0) = false := bne_eq_false_iff_eq.mpr c4
   clear c4
   obtain rfl := Option.some.inj H
   go_enter Try.func38, Try.ntmps38
   go_wp2_with (first | ((with_reducible refine gate_callee (f := 48) rfl ?_); refine goesL_ (some 5) rfl rfl Try.func48 (by kernel_rfl) rfl #[.agg #[.int .u8 7, .int .u8 1, .int .u8 40, .int .u8 0, .int .u8 0], .string (⟨#[]⟩ : ByteArray)] rfl (by (try simp only [List.map_toArray, List.map_cons, List.map_nil]); first | done | rfl | (simp only [List.length_drop, List.length_take]; rfl)) ?_; (with_reducible refine (oam_Close.calls 7 1 40 0 0 (⟨#[]⟩ : ByteArray) t127 t128 _ A1.out).mono ?_); rintro e w5 ⟨rfl, hb⟩; refine ⟨_, rfl, ?_⟩; have n0_ := Aside0.mk (below_step (by repeat (first | (with_reducible first | exact HB.out | apply below_alloc | apply pw_below_drewN | apply below_drew1) | exact HB.out)) hb); clear HB; have HB := n0_; clear n0_; (try clear hb); (try clear hb2); (try clear hk); (try clear hi)) | ((with_reducible refine gate_callee (f := 58) rfl ?_); refine goesL_ (some 8) rfl rfl Try.func58 (by kernel_rfl) rfl #[] rfl (by (try simp only [List.map_toArray, List.map_cons, List.map_nil]); first | done | rfl | (simp only [List.length_drop, List.length_take]; rfl)) ?_; (with_reducible refine (carousellaw01_Awake.calls  true _ A2.out).mono ?_); rintro e w6 ⟨rfl, hb⟩; refine ⟨_, rfl, ?_⟩; have n0_ := Aside0.mk (below_step (by repeat (first | (with_reducible first | exact HB.out | apply below_alloc | apply pw_below_drewN | apply below_drew1) | exact HB.out)) hb); clear HB; have HB := n0_; clear n0_; (try clear hb); (try clear hb2); (try clear hk); (try clear hi)))
   go_ret
   exact ⟨by first | rfl | (simp [errW_none, errW_some] <;> rfl) | (simp [*, errW_none, errW_some] <;> rfl), by repeat (first | (with_reducible first | exact HB.out | apply below_alloc | apply pw_below_drewN | apply below_drew1) | exact HB.out)⟩
  ·
   rw [if_neg c4] at H
   have c4b0 : (t128 == 0) = false := beq_eq_false_iff_ne.mpr c4
   have c4b1 : (t128 != 0) = true := bne_iff_ne.mpr c4
   cases (Option.some.inj H).trans hT
 ·
  replace c3 := Bool.eq_false_iff.mpr c3
  subst c3
  have H1 : (some false) = some r := by rw [if_neg (show ¬ (false = true) by decide)] at H; exact H
  clear H
  have H := H1
  clear H1
  cases (Option.some.inj H).trans hT

/-! ### carousellaw06_Awake: function 9 -/
def carousellaw06_Awake.f (k : Nat)  : Option (Bool) := (ccm_Name.f (⟨#[120]⟩ : ByteArray)).bind fun t130 => ((ccm_Close.f k true 4 0 1 t130 0).bind fun bt131 => ((carousellaw04_Awake.f).bind fun t133 => (if t133 = true then (if bt131.2 = 0 then (if (bt131.1.size : Int) = 75 then (if 2 < (bt131.1.size : Int) then (some ((bt bt131.1 2) == 132)) else (none)) else (some false)) else (some false)) else (some false))))
theorem carousellaw06_Awake.mono : ∀ k, LeO (carousellaw06_Awake.f k ) (carousellaw06_Awake.f (k + 1) ) := by
 intro  k
 unfold carousellaw06_Awake.f
 repeat' first
   | (with_reducible exact ccm_Close.mono _ _ _ _ _ _ _)
   | (with_reducible exact LeO.refl _)
   | (with_reducible exact LeO.none _)
   | (with_reducible refine LeO.ite ?_ ?_)
   | (with_reducible refine LeO.bind ?_ (fun _ => ?_))
   | exact ccm_Close.mono _ _ _ _ _ _ _
   | exact LeO.none _
   | refine LeO.ite ?_ ?_
   | refine LeO.bind ?_ (fun _ => ?_)
set_option maxHeartbeats 8000000 in
set_option maxRecDepth 100000 in
theorem carousellaw06_Awake.calls (k : Nat)  (r : Bool) (w : World) (h : carousellaw06_Awake.f k  = some r) :
  Calls Try.prog 9 #[] w fun e w' => e = .returned (.bool r) ∧ Below w.heap.size w w' := by
 have hT : r = true := by
  obtain ⟨K_, hK_⟩ := (Ev.of carousellaw06_Awake.mono (k := 60) (by decide +kernel) : Ev (fun k => carousellaw06_Awake.f k) true)
  have h1_ := at_rounds carousellaw06_Awake.mono (Nat.le_max_left k K_) h
  exact (Option.some.inj ((hK_ _ (Nat.le_max_right k K_)).symm.trans h1_)).symm
 have hu26 := Try.underlying26
 have HB := Aside0.mk (Below.refl w.heap.size w)
 have H : ((ccm_Name.f (⟨#[120]⟩ : ByteArray)).bind fun t130 => ((ccm_Close.f k true 4 0 1 t130 0).bind fun bt131 => ((carousellaw04_Awake.f).bind fun t133 => (if t133 = true then (if bt131.2 = 0 then (if (bt131.1.size : Int) = 75 then (if 2 < (bt131.1.size : Int) then (some ((bt bt131.1 2) == 132)) else (none)) else (some false)) else (some false)) else (some false))))) = some r := h
 clear h
 replace H := Option.bind_eq_some_iff.mp H
 obtain ⟨t130, A10, H⟩ := H
 try dsimp only at H
 have A1 := Aside0.mk A10
 clear A10
 replace H := Option.bind_eq_some_iff.mp H
 obtain ⟨⟨t131, t132⟩, A20, H⟩ := H
 try dsimp only at H
 have A2 := Aside0.mk A20
 clear A20
 replace H := Option.bind_eq_some_iff.mp H
 obtain ⟨t133, A30, H⟩ := H
 try dsimp only at H
 have A3 := Aside0.mk A30
 clear A30
 by_cases c4 : t133 = true
 ·
  subst c4
  have H1 : (if t132 = 0 then (if (t131.size : Int) = 75 then (if 2 < (t131.size : Int) then (some ((bt t131 2) == 132)) else (none)) else (some false)) else (some false)) = some r := by rw [if_pos rfl] at H; exact H
  clear H
  have H := H1
  clear H1
  by_cases c5 : t132 = 0
  ·
   rw [if_pos c5] at H
   have c5b0 : (t132 == 0) = true := beq_iff_eq.mpr c5
   have c5b1 : (t132 != 0) = false := bne_eq_false_iff_eq.mpr c5
   clear c5
   by_cases c6 : (t131.size : Int) = 75
   ·
    rw [if_pos c6] at H
    have c6b0 : ((t131.size : Int) == 75) = true := beq_iff_eq.mpr c6
    have c6b1 : ((t131.size : Int) != 75) = false := bne_eq_false_iff_eq.mpr c6
    clear c6
    by_cases c7 : 2 < (t131.size : Int)
    ·
     rw [if_pos c7] at H
     have c7b0 : decide (2 < (t131.size : Int)) = true := decide_eq_true c7
     have c7b1 : decide (2 < t131.size) = true := decide_eq_true (by omega)
     clear c7
     obtain rfl := Option.some.inj H
     go_enter Try.func9, Try.ntmps9
     go_wp2_with (first | ((with_reducible refine gate_callee (f := 37) rfl ?_); refine goesL_ (some 4) rfl rfl Try.func37 (by kernel_rfl) rfl #[.string (⟨#[120]⟩ : ByteArray)] rfl (by (try simp only [List.map_toArray, List.map_cons, List.map_nil]); first | done | rfl | (simp only [List.length_drop, List.length_take]; rfl)) ?_; (with_reducible refine (ccm_Name.calls (⟨#[120]⟩ : ByteArray) t130 _ A1.out).mono ?_); rintro e w9 ⟨rfl, hb⟩; refine ⟨_, rfl, ?_⟩; have n0_ := Aside0.mk (below_step (by repeat (first | (with_reducible first | exact HB.out | apply below_alloc | apply pw_below_drewN | apply below_drew1) | exact HB.out)) hb); clear HB; have HB := n0_; clear n0_; (try clear hb); (try clear hb2); (try clear hk); (try clear hi)) | ((with_reducible refine gate_callee (f := 12) rfl ?_); refine goesL_ (some 6) rfl rfl Try.func12 (by kernel_rfl) rfl #[.agg #[.bool true, .int .u8 4, .int .u32 0, .int .u16 1, .string t130], .int .u8 0] rfl (by (try simp only [List.map_toArray, List.map_cons, List.map_nil]); first | done | rfl | (simp only [List.length_drop, List.length_take]; rfl)) ?_; (with_reducible refine (ccm_Close.calls k true 4 0 1 t130 0 t131 t132 _ A2.out).mono ?_); rintro e w10 ⟨rfl, hb⟩; refine ⟨_, rfl, ?_⟩; have n0_ := Aside0.mk (below_step (by repeat (first | (with_reducible first | exact HB.out | apply below_alloc | apply pw_below_drewN | apply below_drew1) | exact HB.out)) hb); clear HB; have HB := n0_; clear n0_; (try clear hb); (try clear hb2); (try clear hk); (try clear hi)) | ((with_reducible refine gate_callee (f := 38) rfl ?_); refine goesL_ (some 9) rfl rfl Try.func38 (by kernel_rfl) rfl #[] rfl (by (try simp only [List.map_toArray, List.map_cons, List.map_nil]); first | done | rfl | (simp only [List.length_drop, List.length_take]; rfl)) ?_; (with_reducible refine (carousellaw04_Awake.calls  true _ A3.out).mono ?_); rintro e w11 ⟨rfl, hb⟩; refine ⟨_, rfl, ?_⟩; have n0_ := Aside0.mk (below_step (by repeat (first | (with_reducible first | exact HB.out | apply below_alloc | apply pw_below_drewN | apply below_drew1) | exact HB.out)) hb); clear HB; have HB := n0_; clear n0_; (try clear hb); (try clear hb2); (try clear hk); (try clear hi); have p8 : 0 ≤ (2 : Int) := (by omega); have q8 : 2 < t131.size := (by have : (2 : Int) < (t131.size : Int) := of_decide_eq_true (by first | (with_reducible assumption) | assumption); omega); have hx8 : ∀ h : 2 < t131.size, ((t131[2]'h).toNat : Int) = bt t131 2 := bt_at t131 2; clear p8; have qi8 : (2 < (t131.size : Int)) = True := eq_true (of_decide_eq_true (by first | (with_reducible assumption) | assumption)); replace q8 := eq_true q8))
     go_ret
     exact ⟨by first | rfl | (simp [errW_none, errW_some] <;> rfl) | (simp [*, errW_none, errW_some] <;> rfl), by repeat (first | (with_reducible first | exact HB.out | apply below_alloc | apply pw_below_drewN | apply below_drew1) | exact HB.out)⟩
    ·
     rw [if_neg c7] at H
     exact absurd H (by simp)
   ·
    rw [if_neg c6] at H
    have c6b0 : ((t131.size : Int) == 75) = false := beq_eq_false_iff_ne.mpr c6
    have c6b1 : ((t131.size : Int) != 75) = true := bne_iff_ne.mpr c6
    cases (Option.some.inj H).trans hT
  ·
   rw [if_neg c5] at H
   have c5b0 : (t132 == 0) = false := beq_eq_false_iff_ne.mpr c5
   have c5b1 : (t132 != 0) = true := bne_iff_ne.mpr c5
   cases (Option.some.inj H).trans hT
 ·
  replace c4 := Bool.eq_false_iff.mpr c4
  subst c4
  have H1 : (some false) = some r := by rw [if_neg (show ¬ (false = true) by decide)] at H; exact H
  clear H
  have H := H1
  clear H1
  cases (Option.some.inj H).trans hT

/-! ### watch_Watch_message: function 56 -/
def watch_Watch_message.f (a0_0 : Int) (a0_1 : Int) (a0_2 : Int) (a0_3 : ByteArray) (a0_4 : Int) (a0_5 : Int) (a0_6 : Int) (a0_7 : Int) (a0_8 : Bool) (a0_9 : Bool) : Option (Bool × Int × Int × Int × ByteArray) := some (a0_8, a0_2, (a0_7) % 4294967296, a0_1, a0_3)
set_option maxHeartbeats 8000000 in
set_option maxRecDepth 100000 in
theorem watch_Watch_message.calls (a0_0 : Int) (a0_1 : Int) (a0_2 : Int) (a0_3 : ByteArray) (a0_4 : Int) (a0_5 : Int) (a0_6 : Int) (a0_7 : Int) (a0_8 : Bool) (a0_9 : Bool) (r1 : Bool) (r2 : Int) (r3 : Int) (r4 : Int) (r5 : ByteArray) (w : World) (h : watch_Watch_message.f a0_0 a0_1 a0_2 a0_3 a0_4 a0_5 a0_6 a0_7 a0_8 a0_9 = some (r1, r2, r3, r4, r5)) :
  Calls Try.prog 56 #[.agg #[.int .u8 a0_0, .int .u16 a0_1, .int .u8 a0_2, .string a0_3, .int .i64 a0_4, .int .i64 a0_5, .int .i64 a0_6, .int .u64 a0_7, .bool a0_8, .bool a0_9]] w fun e w' => e = .returned (.agg #[.bool r1, .int .u8 r2, .int .u32 r3, .int .u16 r4, .string r5]) ∧ Below w.heap.size w w' := by
 have hu59 := Try.underlying59
 have hu26 := Try.underlying26
 have HB := Aside0.mk (Below.refl w.heap.size w)
 have H : (some (a0_8, a0_2, (a0_7) % 4294967296, a0_1, a0_3)) = some (r1, r2, r3, r4, r5) := h
 clear h
 simp only [Option.some.injEq, Prod.mk.injEq] at H
 obtain ⟨rfl, rfl, rfl, rfl, rfl⟩ := H
 go_enter Try.func56, Try.ntmps56
 go_wp2_with (first | ((with_reducible refine gate_dst (N := 1) rfl ?_); refine box_event ?hg (N := 1) ?hd (cs := #[.int .u8 a0_0, .int .u16 a0_1, .int .u8 a0_2, .string a0_3, .int .i64 a0_4, .int .i64 a0_5, .int .i64 a0_6, .int .u64 a0_7, .bool a0_8, .bool a0_9]) (t := 59) ?hr ?_; (case hd => rfl); (case hg => rfl); (case hr => first | (go_simp; done) | (go_simp; rfl)); intro gb134 hg w2 hbox hb; have n0_ := Aside0.mk (below_step (by repeat (first | (with_reducible first | exact HB.out | apply below_alloc | apply pw_below_drewN | apply below_drew1) | exact HB.out)) hb); have n1_ := Aside0.mk (hbox); have n2_ := Aside0.mk ((by rw [hg]; exact (below_size (by repeat (first | (with_reducible first | exact HB.out | apply below_alloc | apply pw_below_drewN | apply below_drew1) | exact HB.out))) : w.heap.size ≤ gb134)); have n3_ := Aside0.mk ((by rw [hg]; exact (below_size (by repeat (first | (with_reducible first | exact HB.out | apply below_alloc | apply pw_below_drewN | apply below_drew1) | exact HB.out))) : w.heap.size ≤ gb134)); clear HB; have HB := n0_; have BK134 := n1_; have GW134 := n2_; have GE134 := n3_; clear n0_ n1_ n2_ n3_; clear hb hbox hg) | ((with_reducible refine gate_dst (N := 2) rfl ?_); refine box_event ?hg (N := 2) ?hd (cs := #[.bool false, .int .u8 0, .int .u32 0, .int .u16 0, .string (⟨#[]⟩ : ByteArray)]) (t := 26) ?hr ?_; (case hd => rfl); (case hg => rfl); (case hr => first | (go_simp; done) | (go_simp; rfl)); intro gb135 hg w3 hbox hb; have n0_ := Aside0.mk (blk_below (g := gb134) (o := .cells #[.int .u8 a0_0, .int .u16 a0_1, .int .u8 a0_2, .string a0_3, .int .i64 a0_4, .int .i64 a0_5, .int .i64 a0_6, .int .u64 a0_7, .bool a0_8, .bool a0_9] 59 (0, 0)) (by (with_reducible repeat (first | refine blk_drewN ?_ _ | refine blk_drew ?_ | refine blk_alloc ?_ _)); exact BK134.out) hb); have n1_ := Aside0.mk (below_step (by repeat (first | (with_reducible first | exact HB.out | apply below_alloc | apply pw_below_drewN | apply below_drew1 | refine below_set ?_ GE134.out) | exact HB.out)) hb); have n2_ := Aside0.mk (hbox); have n3_ := Aside0.mk ((by rw [hg]; exact (below_size (by repeat (first | (with_reducible first | exact HB.out | apply below_alloc | apply pw_below_drewN | apply below_drew1 | refine below_set ?_ GE134.out) | exact HB.out))) : w.heap.size ≤ gb135)); have n4_ := Aside0.mk ((by rw [hg]; exact (below_size (by repeat (first | (with_reducible first | exact HB.out | apply below_alloc | apply pw_below_drewN | apply below_drew1 | refine below_set ?_ GE134.out) | exact HB.out))) : w.heap.size ≤ gb135)); have n5_ := Aside0.mk ((by rw [hg]; exact Nat.ne_of_lt (blk_lt (g := gb134) (o := .cells #[.int .u8 a0_0, .int .u16 a0_1, .int .u8 a0_2, .string a0_3, .int .i64 a0_4, .int .i64 a0_5, .int .i64 a0_6, .int .u64 a0_7, .bool a0_8, .bool a0_9] 59 (0, 0)) (by (with_reducible repeat (first | refine blk_drewN ?_ _ | refine blk_drew ?_ | refine blk_alloc ?_ _)); exact BK134.out)) : gb134 ≠ gb135)); have n6_ := Aside0.mk ((by rw [hg]; exact Nat.ne_of_gt (blk_lt (g := gb134) (o := .cells #[.int .u8 a0_0, .int .u16 a0_1, .int .u8 a0_2, .string a0_3, .int .i64 a0_4, .int .i64 a0_5, .int .i64 a0_6, .int .u64 a0_7, .bool a0_8, .bool a0_9] 59 (0, 0)) (by (with_reducible repeat (first | refine blk_drewN ?_ _ | refine blk_drew ?_ | refine blk_alloc ?_ _)); exact BK134.out)) : gb135 ≠ gb134)); clear BK134; clear HB; have BK134 := n0_; have HB := n1_; have BK135 := n2_; have GW135 := n3_; have GE135 := n4_; have NB134_135 := n5_; have NB135_134 := n6_; clear n0_ n1_ n2_ n3_ n4_ n5_ n6_; clear hb hbox hg; have hnb4 := NB134_135.out; have hnc4 := NB135_134.out; have hcz5_0 : w3.cell? ⟨gb134, 0, none⟩ = some (.int .u8 a0_0) := (blk_cell BK134.out 0).trans rfl; have hcz5_1 : w3.cell? ⟨gb134, 1, none⟩ = some (.int .u16 a0_1) := (blk_cell BK134.out 1).trans rfl; have hcz5_2 : w3.cell? ⟨gb134, 2, none⟩ = some (.int .u8 a0_2) := (blk_cell BK134.out 2).trans rfl; have hcz5_3 : w3.cell? ⟨gb134, 3, none⟩ = some (.string a0_3) := (blk_cell BK134.out 3).trans rfl; have hcz5_4 : w3.cell? ⟨gb134, 4, none⟩ = some (.int .i64 a0_4) := (blk_cell BK134.out 4).trans rfl; have hcz5_5 : w3.cell? ⟨gb134, 5, none⟩ = some (.int .i64 a0_5) := (blk_cell BK134.out 5).trans rfl; have hcz5_6 : w3.cell? ⟨gb134, 6, none⟩ = some (.int .i64 a0_6) := (blk_cell BK134.out 6).trans rfl; have hcz5_7 : w3.cell? ⟨gb134, 7, none⟩ = some (.int .u64 a0_7) := (blk_cell BK134.out 7).trans rfl; have hcz5_8 : w3.cell? ⟨gb134, 8, none⟩ = some (.bool a0_8) := (blk_cell BK134.out 8).trans rfl; have hcz5_9 : w3.cell? ⟨gb134, 9, none⟩ = some (.bool a0_9) := (blk_cell BK134.out 9).trans rfl; have hfz5_0 := blk_frozen BK134.out 0; have hfz5_1 := blk_frozen BK134.out 1; have hfz5_2 := blk_frozen BK134.out 2; have hfz5_3 := blk_frozen BK134.out 3; have hfz5_4 := blk_frozen BK134.out 4; have hfz5_5 := blk_frozen BK134.out 5; have hfz5_6 := blk_frozen BK134.out 6; have hfz5_7 := blk_frozen BK134.out 7; have hfz5_8 := blk_frozen BK134.out 8; have hfz5_9 := blk_frozen BK134.out 9; have hcz6_0 : w3.cell? ⟨gb135, 0, none⟩ = some (.bool false) := (blk_cell BK135.out 0).trans rfl; have hcz6_1 : w3.cell? ⟨gb135, 1, none⟩ = some (.int .u8 0) := (blk_cell BK135.out 1).trans rfl; have hcz6_2 : w3.cell? ⟨gb135, 2, none⟩ = some (.int .u32 0) := (blk_cell BK135.out 2).trans rfl; have hcz6_3 : w3.cell? ⟨gb135, 3, none⟩ = some (.int .u16 0) := (blk_cell BK135.out 3).trans rfl; have hcz6_4 : w3.cell? ⟨gb135, 4, none⟩ = some (.string (⟨#[]⟩ : ByteArray)) := (blk_cell BK135.out 4).trans rfl; have hfz6_0 := blk_frozen BK135.out 0; have hfz6_1 := blk_frozen BK135.out 1; have hfz6_2 := blk_frozen BK135.out 2; have hfz6_3 := blk_frozen BK135.out 3; have hfz6_4 := blk_frozen BK135.out 4))
 refine bodyPost_ret (results_cell_row rfl _ _ gb135 26 #[.bool a0_8, .int .u8 a0_2, .int .u32 ((a0_7) % 4294967296), .int .u16 a0_1, .string a0_3] (0, 0) _ rfl (by (with_reducible repeat (first | refine blk_drewN ?_ _ | refine blk_drew ?_ | refine blk_alloc ?_ _)); refine blk_put (cs := #[.bool a0_8, .int .u8 a0_2, .int .u32 ((a0_7) % 4294967296), .int .u16 a0_1, .string (⟨#[]⟩ : ByteArray)]) ?_ 4 _ rfl; (with_reducible repeat (first | refine blk_drewN ?_ _ | refine blk_drew ?_ | refine blk_alloc ?_ _)); refine blk_put (cs := #[.bool a0_8, .int .u8 a0_2, .int .u32 ((a0_7) % 4294967296), .int .u16 0, .string (⟨#[]⟩ : ByteArray)]) ?_ 3 _ rfl; (with_reducible repeat (first | refine blk_drewN ?_ _ | refine blk_drew ?_ | refine blk_alloc ?_ _)); refine blk_put (cs := #[.bool a0_8, .int .u8 a0_2, .int .u32 0, .int .u16 0, .string (⟨#[]⟩ : ByteArray)]) ?_ 2 _ rfl; (with_reducible repeat (first | refine blk_drewN ?_ _ | refine blk_drew ?_ | refine blk_alloc ?_ _)); refine blk_put (cs := #[.bool a0_8, .int .u8 0, .int .u32 0, .int .u16 0, .string (⟨#[]⟩ : ByteArray)]) ?_ 1 _ rfl; (with_reducible repeat (first | refine blk_drewN ?_ _ | refine blk_drew ?_ | refine blk_alloc ?_ _)); refine blk_put (cs := #[.bool false, .int .u8 0, .int .u32 0, .int .u16 0, .string (⟨#[]⟩ : ByteArray)]) ?_ 0 _ rfl; (with_reducible repeat (first | refine blk_drewN ?_ _ | refine blk_drew ?_ | refine blk_alloc ?_ _)); exact BK135.out) Try.underlying26 rfl (by kernel_rfl)) rfl ?_
 exact ⟨by first | rfl | (simp [errW_none, errW_some] <;> rfl) | (simp [*, errW_none, errW_some] <;> rfl), by repeat (first | (with_reducible first | exact HB.out | apply below_alloc | apply pw_below_drewN | apply below_drew1 | refine below_set ?_ GE134.out | refine below_set ?_ GE135.out) | exact HB.out)⟩

/-! ### watch_New: function 31 -/
def watch_New.j0 : Nat → Bool → Int → Int → Int → ByteArray → Int → Int → Int → Int → Bool → Bool → Option (Int × Int × Int × ByteArray × Int × Int × Int × Int × Bool × Bool × Int)
  | 0, _, _, _, _, _, _, _, _, _, _, _ => none
  | k + 1, x49, x138000, x138001, x138002, x138003, x138004, x138005, x138006, x138007, x138008, x138009 => if x49 = true then (some (0, 0, 0, (⟨#[]⟩ : ByteArray), 0, 0, 0, 0, false, false, 4)) else (some (x138000, x138001, x138002, x138003, x138004, x138005, x138006, x138007, x138008, x138009, 0))
def watch_New.f (k : Nat) (a0 : Int) (a1 : Int) (a2 : Int) (a3 : ByteArray) (a4 : Int) (a5 : Int) : Option (Int × Int × Int × ByteArray × Int × Int × Int × Int × Bool × Bool × Int) := (watch_Watch_message.f a0 a1 a2 a3 a4 a5 a5 0 false false).bind fun bt138 => ((ccm_Close.f k bt138.1 bt138.2.1 bt138.2.2.1 bt138.2.2.2.1 bt138.2.2.2.2 a0).bind fun bt143 => (if bt143.2 = 0 then (if a4 < 1 then (watch_New.j0 k true a0 a1 a2 a3 a4 a5 a5 0 false false) else (if a4 > 1048576 then (watch_New.j0 k true a0 a1 a2 a3 a4 a5 a5 0 false false) else (if a5 < 0 then (watch_New.j0 k true a0 a1 a2 a3 a4 a5 a5 0 false false) else (watch_New.j0 k (decide (a5 > 1099511627776)) a0 a1 a2 a3 a4 a5 a5 0 false false)))) else (some (0, 0, 0, (⟨#[]⟩ : ByteArray), 0, 0, 0, 0, false, false, bt143.2))))
theorem watch_New.mono_l : ∀ k, (∀ y0 y1 y2 y3 y4 y5 y6 y7 y8 y9 y10, LeO (watch_New.j0 k y0 y1 y2 y3 y4 y5 y6 y7 y8 y9 y10) (watch_New.j0 (k + 1) y0 y1 y2 y3 y4 y5 y6 y7 y8 y9 y10))
 | 0 => fun _ _ _ _ _ _ _ _ _ _ _ r h => by simp [watch_New.j0] at h
 | k + 1 => by
  have ih0 := watch_New.mono_l k
  ·
   intro y0 y1 y2 y3 y4 y5 y6 y7 y8 y9 y10
   unfold watch_New.j0
   repeat' first
   | (with_reducible exact ih0 _ _ _ _ _ _ _ _ _ _ _)
   | (with_reducible exact ccm_Close.mono _ _ _ _ _ _ _)
   | (with_reducible exact LeO.refl _)
   | (with_reducible exact LeO.none _)
   | (with_reducible refine LeO.ite ?_ ?_)
   | (with_reducible refine LeO.bind ?_ (fun _ => ?_))
   | exact ih0 _ _ _ _ _ _ _ _ _ _ _
   | exact ccm_Close.mono _ _ _ _ _ _ _
   | exact LeO.none _
   | refine LeO.ite ?_ ?_
   | refine LeO.bind ?_ (fun _ => ?_)
theorem watch_New.mono : ∀ a0 a1 a2 a3 a4 a5 k, LeO (watch_New.f k a0 a1 a2 a3 a4 a5) (watch_New.f (k + 1) a0 a1 a2 a3 a4 a5) := by
 intro a0 a1 a2 a3 a4 a5 k
 have ih0 := watch_New.mono_l k
 unfold watch_New.f
 repeat' first
   | (with_reducible exact ih0 _ _ _ _ _ _ _ _ _ _ _)
   | (with_reducible exact ccm_Close.mono _ _ _ _ _ _ _)
   | (with_reducible exact LeO.refl _)
   | (with_reducible exact LeO.none _)
   | (with_reducible refine LeO.ite ?_ ?_)
   | (with_reducible refine LeO.bind ?_ (fun _ => ?_))
   | exact ih0 _ _ _ _ _ _ _ _ _ _ _
   | exact ccm_Close.mono _ _ _ _ _ _ _
   | exact LeO.none _
   | refine LeO.ite ?_ ?_
   | refine LeO.bind ?_ (fun _ => ?_)
set_option maxHeartbeats 8000000 in
set_option maxRecDepth 100000 in
theorem watch_New.calls (k : Nat) (a0 : Int) (a1 : Int) (a2 : Int) (a3 : ByteArray) (a4 : Int) (a5 : Int) (r1 : Int) (r2 : Int) (r3 : Int) (r4 : ByteArray) (r5 : Int) (r6 : Int) (r7 : Int) (r8 : Int) (r9 : Bool) (r10 : Bool) (r11 : Int) (w : World) (h : watch_New.f k a0 a1 a2 a3 a4 a5 = some (r1, r2, r3, r4, r5, r6, r7, r8, r9, r10, r11)) :
  Calls Try.prog 31 #[.int .u8 a0, .int .u16 a1, .int .u8 a2, .string a3, .int .i64 a4, .int .i64 a5] w fun e w' => e = .returned (.tuple #[.agg #[.int .u8 r1, .int .u16 r2, .int .u8 r3, .string r4, .int .i64 r5, .int .i64 r6, .int .i64 r7, .int .u64 r8, .bool r9, .bool r10], .int .i64 r11]) ∧ Below w.heap.size w w' := by
 have hu59 := Try.underlying59
 have HB := Aside0.mk (Below.refl w.heap.size w)
 have H : ((watch_Watch_message.f a0 a1 a2 a3 a4 a5 a5 0 false false).bind fun bt138 => ((ccm_Close.f k bt138.1 bt138.2.1 bt138.2.2.1 bt138.2.2.2.1 bt138.2.2.2.2 a0).bind fun bt143 => (if bt143.2 = 0 then (if a4 < 1 then (watch_New.j0 k true a0 a1 a2 a3 a4 a5 a5 0 false false) else (if a4 > 1048576 then (watch_New.j0 k true a0 a1 a2 a3 a4 a5 a5 0 false false) else (if a5 < 0 then (watch_New.j0 k true a0 a1 a2 a3 a4 a5 a5 0 false false) else (watch_New.j0 k (decide (a5 > 1099511627776)) a0 a1 a2 a3 a4 a5 a5 0 false false)))) else (some (0, 0, 0, (⟨#[]⟩ : ByteArray), 0, 0, 0, 0, false, false, bt143.2))))) = some (r1, r2, r3, r4, r5, r6, r7, r8, r9, r10, r11) := h
 clear h
 replace H := Option.bind_eq_some_iff.mp H
 obtain ⟨⟨t138, t139, t140, t141, t142⟩, A70, H⟩ := H
 try dsimp only at H
 have A7 := Aside0.mk A70
 clear A70
 replace H := Option.bind_eq_some_iff.mp H
 obtain ⟨⟨t143, t144⟩, A80, H⟩ := H
 try dsimp only at H
 have A8 := Aside0.mk A80
 clear A80
 by_cases c9 : t144 = 0
 ·
  rw [if_pos c9] at H
  have c9b0 : (t144 == 0) = true := beq_iff_eq.mpr c9
  have c9b1 : (t144 != 0) = false := bne_eq_false_iff_eq.mpr c9
  clear c9
  have HC10 := Aside0.mk H
  clear H
  go_enter Try.func31, Try.ntmps31
  go_upto_region 5 with (first | ((with_reducible refine gate_dst (N := 12) rfl ?_); refine box_event ?hg (N := 12) ?hd (cs := #[.int .u8 0, .int .u16 0, .int .u8 0, .string (⟨#[]⟩ : ByteArray), .int .i64 0, .int .i64 0, .int .i64 0, .int .u64 0, .bool false, .bool false]) (t := 59) ?hr ?_; (case hd => rfl); (case hg => rfl); (case hr => first | (go_simp; done) | (go_simp; rfl)); intro gb136 hg w11 hbox hb; have n0_ := Aside0.mk (below_step (by repeat (first | (with_reducible first | exact HB.out | apply below_alloc | apply pw_below_drewN | apply below_drew1) | exact HB.out)) hb); have n1_ := Aside0.mk (hbox); have n2_ := Aside0.mk ((by rw [hg]; exact (below_size (by repeat (first | (with_reducible first | exact HB.out | apply below_alloc | apply pw_below_drewN | apply below_drew1) | exact HB.out))) : w.heap.size ≤ gb136)); have n3_ := Aside0.mk ((by rw [hg]; exact (below_size (by repeat (first | (with_reducible first | exact HB.out | apply below_alloc | apply pw_below_drewN | apply below_drew1) | exact HB.out))) : w.heap.size ≤ gb136)); clear HB; have HB := n0_; have BK136 := n1_; have GW136 := n2_; have GE136 := n3_; clear n0_ n1_ n2_ n3_; clear hb hbox hg) | ((with_reducible refine gate_dst (N := 14) rfl ?_); refine box_event ?hg (N := 14) ?hd (cs := #[.int .u8 0, .int .u16 0, .int .u8 0, .string (⟨#[]⟩ : ByteArray), .int .i64 0, .int .i64 0, .int .i64 0, .int .u64 0, .bool false, .bool false]) (t := 59) ?hr ?_; (case hd => rfl); (case hg => rfl); (case hr => first | (go_simp; done) | (go_simp; rfl)); intro gb137 hg w12 hbox hb; have n0_ := Aside0.mk (blk_below (g := gb136) (o := .cells #[.int .u8 0, .int .u16 0, .int .u8 0, .string (⟨#[]⟩ : ByteArray), .int .i64 0, .int .i64 0, .int .i64 0, .int .u64 0, .bool false, .bool false] 59 (0, 0)) (by (with_reducible repeat (first | refine blk_drewN ?_ _ | refine blk_drew ?_ | refine blk_alloc ?_ _)); exact BK136.out) hb); have n1_ := Aside0.mk (below_step (by repeat (first | (with_reducible first | exact HB.out | apply below_alloc | apply pw_below_drewN | apply below_drew1 | refine below_set ?_ GE136.out) | exact HB.out)) hb); have n2_ := Aside0.mk (hbox); have n3_ := Aside0.mk ((by rw [hg]; exact (below_size (by repeat (first | (with_reducible first | exact HB.out | apply below_alloc | apply pw_below_drewN | apply below_drew1 | refine below_set ?_ GE136.out) | exact HB.out))) : w.heap.size ≤ gb137)); have n4_ := Aside0.mk ((by rw [hg]; exact (below_size (by repeat (first | (with_reducible first | exact HB.out | apply below_alloc | apply pw_below_drewN | apply below_drew1 | refine below_set ?_ GE136.out) | exact HB.out))) : w.heap.size ≤ gb137)); have n5_ := Aside0.mk ((by rw [hg]; exact Nat.ne_of_lt (blk_lt (g := gb136) (o := .cells #[.int .u8 0, .int .u16 0, .int .u8 0, .string (⟨#[]⟩ : ByteArray), .int .i64 0, .int .i64 0, .int .i64 0, .int .u64 0, .bool false, .bool false] 59 (0, 0)) (by (with_reducible repeat (first | refine blk_drewN ?_ _ | refine blk_drew ?_ | refine blk_alloc ?_ _)); exact BK136.out)) : gb136 ≠ gb137)); have n6_ := Aside0.mk ((by rw [hg]; exact Nat.ne_of_gt (blk_lt (g := gb136) (o := .cells #[.int .u8 0, .int .u16 0, .int .u8 0, .string (⟨#[]⟩ : ByteArray), .int .i64 0, .int .i64 0, .int .i64 0, .int .u64 0, .bool false, .bool false] 59 (0, 0)) (by (with_reducible repeat (first | refine blk_drewN ?_ _ | refine blk_drew ?_ | refine blk_alloc ?_ _)); exact BK136.out)) : gb137 ≠ gb136)); clear BK136; clear HB; have BK136 := n0_; have HB := n1_; have BK137 := n2_; have GW137 := n3_; have GE137 := n4_; have NB136_137 := n5_; have NB137_136 := n6_; clear n0_ n1_ n2_ n3_ n4_ n5_ n6_; clear hb hbox hg; have hnb13 := NB137_136.out; have hnc13 := NB136_137.out; have hcz14_0 : w12.cell? ⟨gb137, 0, none⟩ = some (.int .u8 0) := (blk_cell BK137.out 0).trans rfl; have hcz14_1 : w12.cell? ⟨gb137, 1, none⟩ = some (.int .u16 0) := (blk_cell BK137.out 1).trans rfl; have hcz14_2 : w12.cell? ⟨gb137, 2, none⟩ = some (.int .u8 0) := (blk_cell BK137.out 2).trans rfl; have hcz14_3 : w12.cell? ⟨gb137, 3, none⟩ = some (.string (⟨#[]⟩ : ByteArray)) := (blk_cell BK137.out 3).trans rfl; have hcz14_4 : w12.cell? ⟨gb137, 4, none⟩ = some (.int .i64 0) := (blk_cell BK137.out 4).trans rfl; have hcz14_5 : w12.cell? ⟨gb137, 5, none⟩ = some (.int .i64 0) := (blk_cell BK137.out 5).trans rfl; have hcz14_6 : w12.cell? ⟨gb137, 6, none⟩ = some (.int .i64 0) := (blk_cell BK137.out 6).trans rfl; have hcz14_7 : w12.cell? ⟨gb137, 7, none⟩ = some (.int .u64 0) := (blk_cell BK137.out 7).trans rfl; have hcz14_8 : w12.cell? ⟨gb137, 8, none⟩ = some (.bool false) := (blk_cell BK137.out 8).trans rfl; have hcz14_9 : w12.cell? ⟨gb137, 9, none⟩ = some (.bool false) := (blk_cell BK137.out 9).trans rfl; have hfz14_0 := blk_frozen BK137.out 0; have hfz14_1 := blk_frozen BK137.out 1; have hfz14_2 := blk_frozen BK137.out 2; have hfz14_3 := blk_frozen BK137.out 3; have hfz14_4 := blk_frozen BK137.out 4; have hfz14_5 := blk_frozen BK137.out 5; have hfz14_6 := blk_frozen BK137.out 6; have hfz14_7 := blk_frozen BK137.out 7; have hfz14_8 := blk_frozen BK137.out 8; have hfz14_9 := blk_frozen BK137.out 9) | ((with_reducible refine gate_callee (f := 56) rfl ?_); refine goesL_ (some 27) rfl rfl Try.func56 (by kernel_rfl) rfl #[.agg #[.int .u8 a0, .int .u16 a1, .int .u8 a2, .string a3, .int .i64 a4, .int .i64 a5, .int .i64 a5, .int .u64 0, .bool false, .bool false]] rfl (by (try simp only [List.map_toArray, List.map_cons, List.map_nil]); first | done | rfl | (simp only [List.length_drop, List.length_take]; rfl)) ?_; (with_reducible refine (watch_Watch_message.calls a0 a1 a2 a3 a4 a5 a5 0 false false t138 t139 t140 t141 t142 _ A7.out).mono ?_); rintro e w15 ⟨rfl, hb⟩; refine ⟨_, rfl, ?_⟩; have n0_ := Aside0.mk (blk_below (g := gb136) (o := .cells #[.int .u8 0, .int .u16 0, .int .u8 0, .string (⟨#[]⟩ : ByteArray), .int .i64 0, .int .i64 0, .int .i64 0, .int .u64 0, .bool false, .bool false] 59 (0, 0)) (by (with_reducible repeat (first | refine blk_drewN ?_ _ | refine blk_drew ?_ | refine blk_alloc ?_ _)); refine blk_far ?_ NB136_137.out _; (with_reducible repeat (first | refine blk_drewN ?_ _ | refine blk_drew ?_ | refine blk_alloc ?_ _)); refine blk_far ?_ NB136_137.out _; (with_reducible repeat (first | refine blk_drewN ?_ _ | refine blk_drew ?_ | refine blk_alloc ?_ _)); refine blk_far ?_ NB136_137.out _; (with_reducible repeat (first | refine blk_drewN ?_ _ | refine blk_drew ?_ | refine blk_alloc ?_ _)); refine blk_far ?_ NB136_137.out _; (with_reducible repeat (first | refine blk_drewN ?_ _ | refine blk_drew ?_ | refine blk_alloc ?_ _)); refine blk_far ?_ NB136_137.out _; (with_reducible repeat (first | refine blk_drewN ?_ _ | refine blk_drew ?_ | refine blk_alloc ?_ _)); refine blk_far ?_ NB136_137.out _; (with_reducible repeat (first | refine blk_drewN ?_ _ | refine blk_drew ?_ | refine blk_alloc ?_ _)); refine blk_far ?_ NB136_137.out _; (with_reducible repeat (first | refine blk_drewN ?_ _ | refine blk_drew ?_ | refine blk_alloc ?_ _)); refine blk_far ?_ NB136_137.out _; (with_reducible repeat (first | refine blk_drewN ?_ _ | refine blk_drew ?_ | refine blk_alloc ?_ _)); refine blk_far ?_ NB136_137.out _; (with_reducible repeat (first | refine blk_drewN ?_ _ | refine blk_drew ?_ | refine blk_alloc ?_ _)); refine blk_far ?_ NB136_137.out _; (with_reducible repeat (first | refine blk_drewN ?_ _ | refine blk_drew ?_ | refine blk_alloc ?_ _)); exact BK136.out) hb); have n1_ := Aside0.mk (blk_below (g := gb137) (o := .cells #[.int .u8 a0, .int .u16 a1, .int .u8 a2, .string a3, .int .i64 a4, .int .i64 a5, .int .i64 a5, .int .u64 0, .bool false, .bool false] 59 (0, 0)) (by (with_reducible repeat (first | refine blk_drewN ?_ _ | refine blk_drew ?_ | refine blk_alloc ?_ _)); refine blk_put (cs := #[.int .u8 a0, .int .u16 a1, .int .u8 a2, .string a3, .int .i64 a4, .int .i64 a5, .int .i64 a5, .int .u64 0, .bool false, .bool false]) ?_ 9 _ rfl; (with_reducible repeat (first | refine blk_drewN ?_ _ | refine blk_drew ?_ | refine blk_alloc ?_ _)); refine blk_put (cs := #[.int .u8 a0, .int .u16 a1, .int .u8 a2, .string a3, .int .i64 a4, .int .i64 a5, .int .i64 a5, .int .u64 0, .bool false, .bool false]) ?_ 8 _ rfl; (with_reducible repeat (first | refine blk_drewN ?_ _ | refine blk_drew ?_ | refine blk_alloc ?_ _)); refine blk_put (cs := #[.int .u8 a0, .int .u16 a1, .int .u8 a2, .string a3, .int .i64 a4, .int .i64 a5, .int .i64 a5, .int .u64 0, .bool false, .bool false]) ?_ 7 _ rfl; (with_reducible repeat (first | refine blk_drewN ?_ _ | refine blk_drew ?_ | refine blk_alloc ?_ _)); refine blk_put (cs := #[.int .u8 a0, .int .u16 a1, .int .u8 a2, .string a3, .int .i64 a4, .int .i64 a5, .int .i64 0, .int .u64 0, .bool false, .bool false]) ?_ 6 _ rfl; (with_reducible repeat (first | refine blk_drewN ?_ _ | refine blk_drew ?_ | refine blk_alloc ?_ _)); refine blk_put (cs := #[.int .u8 a0, .int .u16 a1, .int .u8 a2, .string a3, .int .i64 a4, .int .i64 0, .int .i64 0, .int .u64 0, .bool false, .bool false]) ?_ 5 _ rfl; (with_reducible repeat (first | refine blk_drewN ?_ _ | refine blk_drew ?_ | refine blk_alloc ?_ _)); refine blk_put (cs := #[.int .u8 a0, .int .u16 a1, .int .u8 a2, .string a3, .int .i64 0, .int .i64 0, .int .i64 0, .int .u64 0, .bool false, .bool false]) ?_ 4 _ rfl; (with_reducible repeat (first | refine blk_drewN ?_ _ | refine blk_drew ?_ | refine blk_alloc ?_ _)); refine blk_put (cs := #[.int .u8 a0, .int .u16 a1, .int .u8 a2, .string (⟨#[]⟩ : ByteArray), .int .i64 0, .int .i64 0, .int .i64 0, .int .u64 0, .bool false, .bool false]) ?_ 3 _ rfl; (with_reducible repeat (first | refine blk_drewN ?_ _ | refine blk_drew ?_ | refine blk_alloc ?_ _)); refine blk_put (cs := #[.int .u8 a0, .int .u16 a1, .int .u8 0, .string (⟨#[]⟩ : ByteArray), .int .i64 0, .int .i64 0, .int .i64 0, .int .u64 0, .bool false, .bool false]) ?_ 2 _ rfl; (with_reducible repeat (first | refine blk_drewN ?_ _ | refine blk_drew ?_ | refine blk_alloc ?_ _)); refine blk_put (cs := #[.int .u8 a0, .int .u16 0, .int .u8 0, .string (⟨#[]⟩ : ByteArray), .int .i64 0, .int .i64 0, .int .i64 0, .int .u64 0, .bool false, .bool false]) ?_ 1 _ rfl; (with_reducible repeat (first | refine blk_drewN ?_ _ | refine blk_drew ?_ | refine blk_alloc ?_ _)); refine blk_put (cs := #[.int .u8 0, .int .u16 0, .int .u8 0, .string (⟨#[]⟩ : ByteArray), .int .i64 0, .int .i64 0, .int .i64 0, .int .u64 0, .bool false, .bool false]) ?_ 0 _ rfl; (with_reducible repeat (first | refine blk_drewN ?_ _ | refine blk_drew ?_ | refine blk_alloc ?_ _)); exact BK137.out) hb); have n2_ := Aside0.mk (below_step (by repeat (first | (with_reducible first | exact HB.out | apply below_alloc | apply pw_below_drewN | apply below_drew1 | refine below_set ?_ GE136.out | refine below_set ?_ GE137.out) | exact HB.out)) hb); clear BK136; clear BK137; clear HB; have BK136 := n0_; have BK137 := n1_; have HB := n2_; clear n0_ n1_ n2_; (try clear hb); (try clear hb2); (try clear hk); (try clear hi)) | ((with_reducible refine gate_callee (f := 12) rfl ?_); refine goesL_ (some 29) rfl rfl Try.func12 (by kernel_rfl) rfl #[.agg #[.bool t138, .int .u8 t139, .int .u32 t140, .int .u16 t141, .string t142], .int .u8 a0] rfl (by (try simp only [List.map_toArray, List.map_cons, List.map_nil]); first | done | rfl | (simp only [List.length_drop, List.length_take]; rfl)) ?_; (with_reducible refine (ccm_Close.calls k t138 t139 t140 t141 t142 a0 t143 t144 _ A8.out).mono ?_); rintro e w16 ⟨rfl, hb⟩; refine ⟨_, rfl, ?_⟩; have n0_ := Aside0.mk (blk_below (g := gb136) (o := .cells #[.int .u8 0, .int .u16 0, .int .u8 0, .string (⟨#[]⟩ : ByteArray), .int .i64 0, .int .i64 0, .int .i64 0, .int .u64 0, .bool false, .bool false] 59 (0, 0)) (by (with_reducible repeat (first | refine blk_drewN ?_ _ | refine blk_drew ?_ | refine blk_alloc ?_ _)); exact BK136.out) hb); have n1_ := Aside0.mk (blk_below (g := gb137) (o := .cells #[.int .u8 a0, .int .u16 a1, .int .u8 a2, .string a3, .int .i64 a4, .int .i64 a5, .int .i64 a5, .int .u64 0, .bool false, .bool false] 59 (0, 0)) (by (with_reducible repeat (first | refine blk_drewN ?_ _ | refine blk_drew ?_ | refine blk_alloc ?_ _)); exact BK137.out) hb); have n2_ := Aside0.mk (below_step (by repeat (first | (with_reducible first | exact HB.out | apply below_alloc | apply pw_below_drewN | apply below_drew1 | refine below_set ?_ GE136.out | refine below_set ?_ GE137.out) | exact HB.out)) hb); clear BK136; clear BK137; clear HB; have BK136 := n0_; have BK137 := n1_; have HB := n2_; clear n0_ n1_ n2_; (try clear hb); (try clear hb2); (try clear hk); (try clear hi)))
  (try simp only [Act.put, List.setIfInBounds_toArray, List.set_cons_zero, List.set_cons_succ])
  go_cut [49] (fun v49 wc => ∃ (kq : Nat) (x49_9 : Bool), v49 = .bool x49_9 ∧ Aside0 (watch_New.j0 kq x49_9 a0 a1 a2 a3 a4 a5 a5 0 false false = some (r1, r2, r3, r4, r5, r6, r7, r8, r9, r10, r11)) ∧ Aside0 (kq ≤ k) ∧ Aside0 (wc.heap[gb136]? = some (.cells #[.int .u8 0, .int .u16 0, .int .u8 0, .string (⟨#[]⟩ : ByteArray), .int .i64 0, .int .i64 0, .int .i64 0, .int .u64 0, .bool false, .bool false] 59 (0, 0))) ∧ Aside0 (wc.heap[gb137]? = some (.cells #[.int .u8 a0, .int .u16 a1, .int .u8 a2, .string a3, .int .i64 a4, .int .i64 a5, .int .i64 a5, .int .u64 0, .bool false, .bool false] 59 (0, 0))) ∧ Aside0 (Below w.heap.size w wc))
  case first =>
   have H := HC10.out
   clear HC10
   by_cases c17 : a4 < 1
   ·
    rw [if_pos c17] at H
    have c17b0 : decide (a4 < 1) = true := decide_eq_true c17
    clear c17
    (first | rw [c17b0] | (simp only [i64_w, i32_w]; rw [c17b0]) | skip)
    have H' := Aside0.mk H
    clear H
    go_wp2
    go_meet
    case rel => exact ⟨_, (true), (by first | rfl | (simp; done) | (simp [*]; done)), H', ⟨by first | omega | exact Nat.le_refl _⟩, ⟨by (with_reducible repeat (first | refine blk_drewN ?_ _ | refine blk_drew ?_ | refine blk_alloc ?_ _)); exact BK136.out⟩, ⟨by (with_reducible repeat (first | refine blk_drewN ?_ _ | refine blk_drew ?_ | refine blk_alloc ?_ _)); exact BK137.out⟩, ⟨by repeat (first | (with_reducible first | exact HB.out | apply below_alloc | apply pw_below_drewN | apply below_drew1 | refine below_set ?_ GE136.out | refine below_set ?_ GE137.out) | exact HB.out)⟩⟩
   ·
    rw [if_neg c17] at H
    have c17b0 : decide (a4 < 1) = false := decide_eq_false c17
    clear c17
    (first | rw [c17b0] | (simp only [i64_w, i32_w]; rw [c17b0]) | skip)
    by_cases c18 : a4 > 1048576
    ·
     rw [if_pos c18] at H
     have c18b0 : decide (1048576 < a4) = true := decide_eq_true c18
     clear c18
     have H' := Aside0.mk H
     clear H
     go_wp2
     go_meet
     case rel => exact ⟨_, (true), (by first | rfl | (simp; done) | (simp [*]; done)), H', ⟨by first | omega | exact Nat.le_refl _⟩, ⟨by (with_reducible repeat (first | refine blk_drewN ?_ _ | refine blk_drew ?_ | refine blk_alloc ?_ _)); exact BK136.out⟩, ⟨by (with_reducible repeat (first | refine blk_drewN ?_ _ | refine blk_drew ?_ | refine blk_alloc ?_ _)); exact BK137.out⟩, ⟨by repeat (first | (with_reducible first | exact HB.out | apply below_alloc | apply pw_below_drewN | apply below_drew1 | refine below_set ?_ GE136.out | refine below_set ?_ GE137.out) | exact HB.out)⟩⟩
    ·
     rw [if_neg c18] at H
     have c18b0 : decide (1048576 < a4) = false := decide_eq_false c18
     clear c18
     by_cases c19 : a5 < 0
     ·
      rw [if_pos c19] at H
      have c19b0 : decide (a5 < 0) = true := decide_eq_true c19
      clear c19
      have H' := Aside0.mk H
      clear H
      go_wp2
      go_meet
      case rel => exact ⟨_, (true), (by first | rfl | (simp; done) | (simp [*]; done)), H', ⟨by first | omega | exact Nat.le_refl _⟩, ⟨by (with_reducible repeat (first | refine blk_drewN ?_ _ | refine blk_drew ?_ | refine blk_alloc ?_ _)); exact BK136.out⟩, ⟨by (with_reducible repeat (first | refine blk_drewN ?_ _ | refine blk_drew ?_ | refine blk_alloc ?_ _)); exact BK137.out⟩, ⟨by repeat (first | (with_reducible first | exact HB.out | apply below_alloc | apply pw_below_drewN | apply below_drew1 | refine below_set ?_ GE136.out | refine below_set ?_ GE137.out) | exact HB.out)⟩⟩
     ·
      rw [if_neg c19] at H
      have c19b0 : decide (a5 < 0) = false := decide_eq_false c19
      clear c19
      have H' := Aside0.mk H
      clear H
      go_wp2
      go_meet
      case rel => exact ⟨_, (decide (a5 > 1099511627776)), (by first | rfl | (simp; done) | (simp [*]; done)), H', ⟨by first | omega | exact Nat.le_refl _⟩, ⟨by (with_reducible repeat (first | refine blk_drewN ?_ _ | refine blk_drew ?_ | refine blk_alloc ?_ _)); exact BK136.out⟩, ⟨by (with_reducible repeat (first | refine blk_drewN ?_ _ | refine blk_drew ?_ | refine blk_alloc ?_ _)); exact BK137.out⟩, ⟨by repeat (first | (with_reducible first | exact HB.out | apply below_alloc | apply pw_below_drewN | apply below_drew1 | refine below_set ?_ GE136.out | refine below_set ?_ GE137.out) | exact HB.out)⟩⟩
  case rest =>
   clear HC10
   try clear c1
   try clear p2
   try clear c3
   try clear c5
   try clear c9
   try clear c9b0
   try clear c9b1
   try clear c12
   try clear c13
   try clear c17
   try clear c17b0
   try clear c18
   try clear c18b0
   try clear c19
   try clear c19b0
   try clear hcz14_0
   try clear hcz14_1
   try clear hcz14_2
   try clear hcz14_3
   try clear hcz14_4
   try clear hcz14_5
   try clear hcz14_6
   try clear hcz14_7
   try clear hcz14_8
   try clear hcz14_9
   try clear hfz14_0
   try clear hfz14_1
   try clear hfz14_2
   try clear hfz14_3
   try clear hfz14_4
   try clear hfz14_5
   try clear hfz14_6
   try clear hfz14_7
   try clear hfz14_8
   try clear hfz14_9
   obtain ⟨kq, x49_9, rfl, HA, HJ9, BK136, BK137, HB⟩ := hcut
   cases kq with
   | zero => exact absurd HA.out (by simp [watch_New.j0])
   | succ kj9 =>
    have H := HA.out
    clear HA
    simp only [watch_New.j0] at H
    by_cases c20 : x49_9 = true
    ·
     subst c20
     have H1 : (some (0, 0, 0, (⟨#[]⟩ : ByteArray), 0, 0, 0, 0, false, false, 4)) = some (r1, r2, r3, r4, r5, r6, r7, r8, r9, r10, r11) := by rw [if_pos rfl] at H; exact H
     clear H
     have H := H1
     clear H1
     simp only [Option.some.injEq, Prod.mk.injEq] at H
     obtain ⟨rfl, rfl, rfl, rfl, rfl, rfl, rfl, rfl, rfl, rfl, rfl⟩ := H
     have hnb21 := NB136_137.out
     have hnc21 := NB137_136.out
     have hcz22_0 : wc.cell? ⟨gb136, 0, none⟩ = some (.int .u8 0) := (blk_cell BK136.out 0).trans rfl
     have hcz22_1 : wc.cell? ⟨gb136, 1, none⟩ = some (.int .u16 0) := (blk_cell BK136.out 1).trans rfl
     have hcz22_2 : wc.cell? ⟨gb136, 2, none⟩ = some (.int .u8 0) := (blk_cell BK136.out 2).trans rfl
     have hcz22_3 : wc.cell? ⟨gb136, 3, none⟩ = some (.string (⟨#[]⟩ : ByteArray)) := (blk_cell BK136.out 3).trans rfl
     have hcz22_4 : wc.cell? ⟨gb136, 4, none⟩ = some (.int .i64 0) := (blk_cell BK136.out 4).trans rfl
     have hcz22_5 : wc.cell? ⟨gb136, 5, none⟩ = some (.int .i64 0) := (blk_cell BK136.out 5).trans rfl
     have hcz22_6 : wc.cell? ⟨gb136, 6, none⟩ = some (.int .i64 0) := (blk_cell BK136.out 6).trans rfl
     have hcz22_7 : wc.cell? ⟨gb136, 7, none⟩ = some (.int .u64 0) := (blk_cell BK136.out 7).trans rfl
     have hcz22_8 : wc.cell? ⟨gb136, 8, none⟩ = some (.bool false) := (blk_cell BK136.out 8).trans rfl
     have hcz22_9 : wc.cell? ⟨gb136, 9, none⟩ = some (.bool false) := (blk_cell BK136.out 9).trans rfl
     have hfz22_0 := blk_frozen BK136.out 0
     have hfz22_1 := blk_frozen BK136.out 1
     have hfz22_2 := blk_frozen BK136.out 2
     have hfz22_3 := blk_frozen BK136.out 3
     have hfz22_4 := blk_frozen BK136.out 4
     have hfz22_5 := blk_frozen BK136.out 5
     have hfz22_6 := blk_frozen BK136.out 6
     have hfz22_7 := blk_frozen BK136.out 7
     have hfz22_8 := blk_frozen BK136.out 8
     have hfz22_9 := blk_frozen BK136.out 9
     go_wp2
     refine bodyPost_ret (results_ct rfl _ _ gb136 59 #[.int .u8 0, .int .u16 0, .int .u8 0, .string (⟨#[]⟩ : ByteArray), .int .i64 0, .int .i64 0, .int .i64 0, .int .u64 0, .bool false, .bool false] (0, 0) _ rfl (by (with_reducible repeat (first | refine blk_drewN ?_ _ | refine blk_drew ?_ | refine blk_alloc ?_ _)); refine blk_put (cs := #[.int .u8 0, .int .u16 0, .int .u8 0, .string (⟨#[]⟩ : ByteArray), .int .i64 0, .int .i64 0, .int .i64 0, .int .u64 0, .bool false, .bool false]) ?_ 9 _ rfl; (with_reducible repeat (first | refine blk_drewN ?_ _ | refine blk_drew ?_ | refine blk_alloc ?_ _)); refine blk_put (cs := #[.int .u8 0, .int .u16 0, .int .u8 0, .string (⟨#[]⟩ : ByteArray), .int .i64 0, .int .i64 0, .int .i64 0, .int .u64 0, .bool false, .bool false]) ?_ 8 _ rfl; (with_reducible repeat (first | refine blk_drewN ?_ _ | refine blk_drew ?_ | refine blk_alloc ?_ _)); refine blk_put (cs := #[.int .u8 0, .int .u16 0, .int .u8 0, .string (⟨#[]⟩ : ByteArray), .int .i64 0, .int .i64 0, .int .i64 0, .int .u64 0, .bool false, .bool false]) ?_ 7 _ rfl; (with_reducible repeat (first | refine blk_drewN ?_ _ | refine blk_drew ?_ | refine blk_alloc ?_ _)); refine blk_put (cs := #[.int .u8 0, .int .u16 0, .int .u8 0, .string (⟨#[]⟩ : ByteArray), .int .i64 0, .int .i64 0, .int .i64 0, .int .u64 0, .bool false, .bool false]) ?_ 6 _ rfl; (with_reducible repeat (first | refine blk_drewN ?_ _ | refine blk_drew ?_ | refine blk_alloc ?_ _)); refine blk_put (cs := #[.int .u8 0, .int .u16 0, .int .u8 0, .string (⟨#[]⟩ : ByteArray), .int .i64 0, .int .i64 0, .int .i64 0, .int .u64 0, .bool false, .bool false]) ?_ 5 _ rfl; (with_reducible repeat (first | refine blk_drewN ?_ _ | refine blk_drew ?_ | refine blk_alloc ?_ _)); refine blk_put (cs := #[.int .u8 0, .int .u16 0, .int .u8 0, .string (⟨#[]⟩ : ByteArray), .int .i64 0, .int .i64 0, .int .i64 0, .int .u64 0, .bool false, .bool false]) ?_ 4 _ rfl; (with_reducible repeat (first | refine blk_drewN ?_ _ | refine blk_drew ?_ | refine blk_alloc ?_ _)); refine blk_put (cs := #[.int .u8 0, .int .u16 0, .int .u8 0, .string (⟨#[]⟩ : ByteArray), .int .i64 0, .int .i64 0, .int .i64 0, .int .u64 0, .bool false, .bool false]) ?_ 3 _ rfl; (with_reducible repeat (first | refine blk_drewN ?_ _ | refine blk_drew ?_ | refine blk_alloc ?_ _)); refine blk_put (cs := #[.int .u8 0, .int .u16 0, .int .u8 0, .string (⟨#[]⟩ : ByteArray), .int .i64 0, .int .i64 0, .int .i64 0, .int .u64 0, .bool false, .bool false]) ?_ 2 _ rfl; (with_reducible repeat (first | refine blk_drewN ?_ _ | refine blk_drew ?_ | refine blk_alloc ?_ _)); refine blk_put (cs := #[.int .u8 0, .int .u16 0, .int .u8 0, .string (⟨#[]⟩ : ByteArray), .int .i64 0, .int .i64 0, .int .i64 0, .int .u64 0, .bool false, .bool false]) ?_ 1 _ rfl; (with_reducible repeat (first | refine blk_drewN ?_ _ | refine blk_drew ?_ | refine blk_alloc ?_ _)); refine blk_put (cs := #[.int .u8 0, .int .u16 0, .int .u8 0, .string (⟨#[]⟩ : ByteArray), .int .i64 0, .int .i64 0, .int .i64 0, .int .u64 0, .bool false, .bool false]) ?_ 0 _ rfl; (with_reducible repeat (first | refine blk_drewN ?_ _ | refine blk_drew ?_ | refine blk_alloc ?_ _)); exact BK136.out) Try.underlying59 rfl (by kernel_rfl)) rfl ?_
     exact ⟨by first | rfl | (simp [errW_none, errW_some] <;> rfl) | (simp [*, errW_none, errW_some] <;> rfl), by repeat (first | (with_reducible first | exact HB.out | apply below_alloc | apply pw_below_drewN | apply below_drew1 | refine below_set ?_ GE136.out | refine below_set ?_ GE137.out) | exact HB.out)⟩
    ·
     replace c20 := Bool.eq_false_iff.mpr c20
     subst c20
     have H1 : (some (a0, a1, a2, a3, a4, a5, a5, 0, false, false, 0)) = some (r1, r2, r3, r4, r5, r6, r7, r8, r9, r10, r11) := by rw [if_neg (show ¬ (false = true) by decide)] at H; exact H
     clear H
     have H := H1
     clear H1
     simp only [Option.some.injEq, Prod.mk.injEq] at H
     obtain ⟨rfl, rfl, rfl, rfl, rfl, rfl, rfl, rfl, rfl, rfl, rfl⟩ := H
     have hnb23 := NB137_136.out
     have hnc23 := NB136_137.out
     have hcz24_0 : wc.cell? ⟨gb137, 0, none⟩ = some (.int .u8 a0) := (blk_cell BK137.out 0).trans rfl
     have hcz24_1 : wc.cell? ⟨gb137, 1, none⟩ = some (.int .u16 a1) := (blk_cell BK137.out 1).trans rfl
     have hcz24_2 : wc.cell? ⟨gb137, 2, none⟩ = some (.int .u8 a2) := (blk_cell BK137.out 2).trans rfl
     have hcz24_3 : wc.cell? ⟨gb137, 3, none⟩ = some (.string a3) := (blk_cell BK137.out 3).trans rfl
     have hcz24_4 : wc.cell? ⟨gb137, 4, none⟩ = some (.int .i64 a4) := (blk_cell BK137.out 4).trans rfl
     have hcz24_5 : wc.cell? ⟨gb137, 5, none⟩ = some (.int .i64 a5) := (blk_cell BK137.out 5).trans rfl
     have hcz24_6 : wc.cell? ⟨gb137, 6, none⟩ = some (.int .i64 a5) := (blk_cell BK137.out 6).trans rfl
     have hcz24_7 : wc.cell? ⟨gb137, 7, none⟩ = some (.int .u64 0) := (blk_cell BK137.out 7).trans rfl
     have hcz24_8 : wc.cell? ⟨gb137, 8, none⟩ = some (.bool false) := (blk_cell BK137.out 8).trans rfl
     have hcz24_9 : wc.cell? ⟨gb137, 9, none⟩ = some (.bool false) := (blk_cell BK137.out 9).trans rfl
     have hfz24_0 := blk_frozen BK137.out 0
     have hfz24_1 := blk_frozen BK137.out 1
     have hfz24_2 := blk_frozen BK137.out 2
     have hfz24_3 := blk_frozen BK137.out 3
     have hfz24_4 := blk_frozen BK137.out 4
     have hfz24_5 := blk_frozen BK137.out 5
     have hfz24_6 := blk_frozen BK137.out 6
     have hfz24_7 := blk_frozen BK137.out 7
     have hfz24_8 := blk_frozen BK137.out 8
     have hfz24_9 := blk_frozen BK137.out 9
     have hcz25_0 : wc.cell? ⟨gb136, 0, none⟩ = some (.int .u8 0) := (blk_cell BK136.out 0).trans rfl
     have hcz25_1 : wc.cell? ⟨gb136, 1, none⟩ = some (.int .u16 0) := (blk_cell BK136.out 1).trans rfl
     have hcz25_2 : wc.cell? ⟨gb136, 2, none⟩ = some (.int .u8 0) := (blk_cell BK136.out 2).trans rfl
     have hcz25_3 : wc.cell? ⟨gb136, 3, none⟩ = some (.string (⟨#[]⟩ : ByteArray)) := (blk_cell BK136.out 3).trans rfl
     have hcz25_4 : wc.cell? ⟨gb136, 4, none⟩ = some (.int .i64 0) := (blk_cell BK136.out 4).trans rfl
     have hcz25_5 : wc.cell? ⟨gb136, 5, none⟩ = some (.int .i64 0) := (blk_cell BK136.out 5).trans rfl
     have hcz25_6 : wc.cell? ⟨gb136, 6, none⟩ = some (.int .i64 0) := (blk_cell BK136.out 6).trans rfl
     have hcz25_7 : wc.cell? ⟨gb136, 7, none⟩ = some (.int .u64 0) := (blk_cell BK136.out 7).trans rfl
     have hcz25_8 : wc.cell? ⟨gb136, 8, none⟩ = some (.bool false) := (blk_cell BK136.out 8).trans rfl
     have hcz25_9 : wc.cell? ⟨gb136, 9, none⟩ = some (.bool false) := (blk_cell BK136.out 9).trans rfl
     have hfz25_0 := blk_frozen BK136.out 0
     have hfz25_1 := blk_frozen BK136.out 1
     have hfz25_2 := blk_frozen BK136.out 2
     have hfz25_3 := blk_frozen BK136.out 3
     have hfz25_4 := blk_frozen BK136.out 4
     have hfz25_5 := blk_frozen BK136.out 5
     have hfz25_6 := blk_frozen BK136.out 6
     have hfz25_7 := blk_frozen BK136.out 7
     have hfz25_8 := blk_frozen BK136.out 8
     have hfz25_9 := blk_frozen BK136.out 9
     go_wp2
     refine bodyPost_ret (results_ct rfl _ _ gb136 59 #[.int .u8 a0, .int .u16 a1, .int .u8 a2, .string a3, .int .i64 a4, .int .i64 a5, .int .i64 a5, .int .u64 0, .bool false, .bool false] (0, 0) _ rfl (by (with_reducible repeat (first | refine blk_drewN ?_ _ | refine blk_drew ?_ | refine blk_alloc ?_ _)); refine blk_put (cs := #[.int .u8 a0, .int .u16 a1, .int .u8 a2, .string a3, .int .i64 a4, .int .i64 a5, .int .i64 a5, .int .u64 0, .bool false, .bool false]) ?_ 9 _ rfl; (with_reducible repeat (first | refine blk_drewN ?_ _ | refine blk_drew ?_ | refine blk_alloc ?_ _)); refine blk_put (cs := #[.int .u8 a0, .int .u16 a1, .int .u8 a2, .string a3, .int .i64 a4, .int .i64 a5, .int .i64 a5, .int .u64 0, .bool false, .bool false]) ?_ 8 _ rfl; (with_reducible repeat (first | refine blk_drewN ?_ _ | refine blk_drew ?_ | refine blk_alloc ?_ _)); refine blk_put (cs := #[.int .u8 a0, .int .u16 a1, .int .u8 a2, .string a3, .int .i64 a4, .int .i64 a5, .int .i64 a5, .int .u64 0, .bool false, .bool false]) ?_ 7 _ rfl; (with_reducible repeat (first | refine blk_drewN ?_ _ | refine blk_drew ?_ | refine blk_alloc ?_ _)); refine blk_put (cs := #[.int .u8 a0, .int .u16 a1, .int .u8 a2, .string a3, .int .i64 a4, .int .i64 a5, .int .i64 0, .int .u64 0, .bool false, .bool false]) ?_ 6 _ rfl; (with_reducible repeat (first | refine blk_drewN ?_ _ | refine blk_drew ?_ | refine blk_alloc ?_ _)); refine blk_put (cs := #[.int .u8 a0, .int .u16 a1, .int .u8 a2, .string a3, .int .i64 a4, .int .i64 0, .int .i64 0, .int .u64 0, .bool false, .bool false]) ?_ 5 _ rfl; (with_reducible repeat (first | refine blk_drewN ?_ _ | refine blk_drew ?_ | refine blk_alloc ?_ _)); refine blk_put (cs := #[.int .u8 a0, .int .u16 a1, .int .u8 a2, .string a3, .int .i64 0, .int .i64 0, .int .i64 0, .int .u64 0, .bool false, .bool false]) ?_ 4 _ rfl; (with_reducible repeat (first | refine blk_drewN ?_ _ | refine blk_drew ?_ | refine blk_alloc ?_ _)); refine blk_put (cs := #[.int .u8 a0, .int .u16 a1, .int .u8 a2, .string (⟨#[]⟩ : ByteArray), .int .i64 0, .int .i64 0, .int .i64 0, .int .u64 0, .bool false, .bool false]) ?_ 3 _ rfl; (with_reducible repeat (first | refine blk_drewN ?_ _ | refine blk_drew ?_ | refine blk_alloc ?_ _)); refine blk_put (cs := #[.int .u8 a0, .int .u16 a1, .int .u8 0, .string (⟨#[]⟩ : ByteArray), .int .i64 0, .int .i64 0, .int .i64 0, .int .u64 0, .bool false, .bool false]) ?_ 2 _ rfl; (with_reducible repeat (first | refine blk_drewN ?_ _ | refine blk_drew ?_ | refine blk_alloc ?_ _)); refine blk_put (cs := #[.int .u8 a0, .int .u16 0, .int .u8 0, .string (⟨#[]⟩ : ByteArray), .int .i64 0, .int .i64 0, .int .i64 0, .int .u64 0, .bool false, .bool false]) ?_ 1 _ rfl; (with_reducible repeat (first | refine blk_drewN ?_ _ | refine blk_drew ?_ | refine blk_alloc ?_ _)); refine blk_put (cs := #[.int .u8 0, .int .u16 0, .int .u8 0, .string (⟨#[]⟩ : ByteArray), .int .i64 0, .int .i64 0, .int .i64 0, .int .u64 0, .bool false, .bool false]) ?_ 0 _ rfl; (with_reducible repeat (first | refine blk_drewN ?_ _ | refine blk_drew ?_ | refine blk_alloc ?_ _)); exact BK136.out) Try.underlying59 rfl (by kernel_rfl)) rfl ?_
     exact ⟨by first | rfl | (simp [errW_none, errW_some] <;> rfl) | (simp [*, errW_none, errW_some] <;> rfl), by repeat (first | (with_reducible first | exact HB.out | apply below_alloc | apply pw_below_drewN | apply below_drew1 | refine below_set ?_ GE136.out | refine below_set ?_ GE137.out) | exact HB.out)⟩
 ·
  rw [if_neg c9] at H
  have c9b0 : (t144 == 0) = false := beq_eq_false_iff_ne.mpr c9
  have c9b1 : (t144 != 0) = true := bne_iff_ne.mpr c9
  simp only [Option.some.injEq, Prod.mk.injEq] at H
  obtain ⟨rfl, rfl, rfl, rfl, rfl, rfl, rfl, rfl, rfl, rfl, rfl⟩ := H
  go_enter Try.func31, Try.ntmps31
  go_wp2_with (first | ((with_reducible refine gate_dst (N := 12) rfl ?_); refine box_event ?hg (N := 12) ?hd (cs := #[.int .u8 0, .int .u16 0, .int .u8 0, .string (⟨#[]⟩ : ByteArray), .int .i64 0, .int .i64 0, .int .i64 0, .int .u64 0, .bool false, .bool false]) (t := 59) ?hr ?_; (case hd => rfl); (case hg => rfl); (case hr => first | (go_simp; done) | (go_simp; rfl)); intro gb136 hg w26 hbox hb; have n0_ := Aside0.mk (below_step (by repeat (first | (with_reducible first | exact HB.out | apply below_alloc | apply pw_below_drewN | apply below_drew1) | exact HB.out)) hb); have n1_ := Aside0.mk (hbox); have n2_ := Aside0.mk ((by rw [hg]; exact (below_size (by repeat (first | (with_reducible first | exact HB.out | apply below_alloc | apply pw_below_drewN | apply below_drew1) | exact HB.out))) : w.heap.size ≤ gb136)); have n3_ := Aside0.mk ((by rw [hg]; exact (below_size (by repeat (first | (with_reducible first | exact HB.out | apply below_alloc | apply pw_below_drewN | apply below_drew1) | exact HB.out))) : w.heap.size ≤ gb136)); clear HB; have HB := n0_; have BK136 := n1_; have GW136 := n2_; have GE136 := n3_; clear n0_ n1_ n2_ n3_; clear hb hbox hg) | ((with_reducible refine gate_dst (N := 14) rfl ?_); refine box_event ?hg (N := 14) ?hd (cs := #[.int .u8 0, .int .u16 0, .int .u8 0, .string (⟨#[]⟩ : ByteArray), .int .i64 0, .int .i64 0, .int .i64 0, .int .u64 0, .bool false, .bool false]) (t := 59) ?hr ?_; (case hd => rfl); (case hg => rfl); (case hr => first | (go_simp; done) | (go_simp; rfl)); intro gb137 hg w27 hbox hb; have n0_ := Aside0.mk (blk_below (g := gb136) (o := .cells #[.int .u8 0, .int .u16 0, .int .u8 0, .string (⟨#[]⟩ : ByteArray), .int .i64 0, .int .i64 0, .int .i64 0, .int .u64 0, .bool false, .bool false] 59 (0, 0)) (by (with_reducible repeat (first | refine blk_drewN ?_ _ | refine blk_drew ?_ | refine blk_alloc ?_ _)); exact BK136.out) hb); have n1_ := Aside0.mk (below_step (by repeat (first | (with_reducible first | exact HB.out | apply below_alloc | apply pw_below_drewN | apply below_drew1 | refine below_set ?_ GE136.out) | exact HB.out)) hb); have n2_ := Aside0.mk (hbox); have n3_ := Aside0.mk ((by rw [hg]; exact (below_size (by repeat (first | (with_reducible first | exact HB.out | apply below_alloc | apply pw_below_drewN | apply below_drew1 | refine below_set ?_ GE136.out) | exact HB.out))) : w.heap.size ≤ gb137)); have n4_ := Aside0.mk ((by rw [hg]; exact (below_size (by repeat (first | (with_reducible first | exact HB.out | apply below_alloc | apply pw_below_drewN | apply below_drew1 | refine below_set ?_ GE136.out) | exact HB.out))) : w.heap.size ≤ gb137)); have n5_ := Aside0.mk ((by rw [hg]; exact Nat.ne_of_lt (blk_lt (g := gb136) (o := .cells #[.int .u8 0, .int .u16 0, .int .u8 0, .string (⟨#[]⟩ : ByteArray), .int .i64 0, .int .i64 0, .int .i64 0, .int .u64 0, .bool false, .bool false] 59 (0, 0)) (by (with_reducible repeat (first | refine blk_drewN ?_ _ | refine blk_drew ?_ | refine blk_alloc ?_ _)); exact BK136.out)) : gb136 ≠ gb137)); have n6_ := Aside0.mk ((by rw [hg]; exact Nat.ne_of_gt (blk_lt (g := gb136) (o := .cells #[.int .u8 0, .int .u16 0, .int .u8 0, .string (⟨#[]⟩ : ByteArray), .int .i64 0, .int .i64 0, .int .i64 0, .int .u64 0, .bool false, .bool false] 59 (0, 0)) (by (with_reducible repeat (first | refine blk_drewN ?_ _ | refine blk_drew ?_ | refine blk_alloc ?_ _)); exact BK136.out)) : gb137 ≠ gb136)); clear BK136; clear HB; have BK136 := n0_; have HB := n1_; have BK137 := n2_; have GW137 := n3_; have GE137 := n4_; have NB136_137 := n5_; have NB137_136 := n6_; clear n0_ n1_ n2_ n3_ n4_ n5_ n6_; clear hb hbox hg; have hnb28 := NB137_136.out; have hnc28 := NB136_137.out; have hcz29_0 : w27.cell? ⟨gb137, 0, none⟩ = some (.int .u8 0) := (blk_cell BK137.out 0).trans rfl; have hcz29_1 : w27.cell? ⟨gb137, 1, none⟩ = some (.int .u16 0) := (blk_cell BK137.out 1).trans rfl; have hcz29_2 : w27.cell? ⟨gb137, 2, none⟩ = some (.int .u8 0) := (blk_cell BK137.out 2).trans rfl; have hcz29_3 : w27.cell? ⟨gb137, 3, none⟩ = some (.string (⟨#[]⟩ : ByteArray)) := (blk_cell BK137.out 3).trans rfl; have hcz29_4 : w27.cell? ⟨gb137, 4, none⟩ = some (.int .i64 0) := (blk_cell BK137.out 4).trans rfl; have hcz29_5 : w27.cell? ⟨gb137, 5, none⟩ = some (.int .i64 0) := (blk_cell BK137.out 5).trans rfl; have hcz29_6 : w27.cell? ⟨gb137, 6, none⟩ = some (.int .i64 0) := (blk_cell BK137.out 6).trans rfl; have hcz29_7 : w27.cell? ⟨gb137, 7, none⟩ = some (.int .u64 0) := (blk_cell BK137.out 7).trans rfl; have hcz29_8 : w27.cell? ⟨gb137, 8, none⟩ = some (.bool false) := (blk_cell BK137.out 8).trans rfl; have hcz29_9 : w27.cell? ⟨gb137, 9, none⟩ = some (.bool false) := (blk_cell BK137.out 9).trans rfl; have hfz29_0 := blk_frozen BK137.out 0; have hfz29_1 := blk_frozen BK137.out 1; have hfz29_2 := blk_frozen BK137.out 2; have hfz29_3 := blk_frozen BK137.out 3; have hfz29_4 := blk_frozen BK137.out 4; have hfz29_5 := blk_frozen BK137.out 5; have hfz29_6 := blk_frozen BK137.out 6; have hfz29_7 := blk_frozen BK137.out 7; have hfz29_8 := blk_frozen BK137.out 8; have hfz29_9 := blk_frozen BK137.out 9) | ((with_reducible refine gate_callee (f := 56) rfl ?_); refine goesL_ (some 27) rfl rfl Try.func56 (by kernel_rfl) rfl #[.agg #[.int .u8 a0, .int .u16 a1, .int .u8 a2, .string a3, .int .i64 a4, .int .i64 a5, .int .i64 a5, .int .u64 0, .bool false, .bool false]] rfl (by (try simp only [List.map_toArray, List.map_cons, List.map_nil]); first | done | rfl | (simp only [List.length_drop, List.length_take]; rfl)) ?_; (with_reducible refine (watch_Watch_message.calls a0 a1 a2 a3 a4 a5 a5 0 false false t138 t139 t140 t141 t142 _ A7.out).mono ?_); rintro e w30 ⟨rfl, hb⟩; refine ⟨_, rfl, ?_⟩; have n0_ := Aside0.mk (blk_below (g := gb136) (o := .cells #[.int .u8 0, .int .u16 0, .int .u8 0, .string (⟨#[]⟩ : ByteArray), .int .i64 0, .int .i64 0, .int .i64 0, .int .u64 0, .bool false, .bool false] 59 (0, 0)) (by (with_reducible repeat (first | refine blk_drewN ?_ _ | refine blk_drew ?_ | refine blk_alloc ?_ _)); refine blk_far ?_ NB136_137.out _; (with_reducible repeat (first | refine blk_drewN ?_ _ | refine blk_drew ?_ | refine blk_alloc ?_ _)); refine blk_far ?_ NB136_137.out _; (with_reducible repeat (first | refine blk_drewN ?_ _ | refine blk_drew ?_ | refine blk_alloc ?_ _)); refine blk_far ?_ NB136_137.out _; (with_reducible repeat (first | refine blk_drewN ?_ _ | refine blk_drew ?_ | refine blk_alloc ?_ _)); refine blk_far ?_ NB136_137.out _; (with_reducible repeat (first | refine blk_drewN ?_ _ | refine blk_drew ?_ | refine blk_alloc ?_ _)); refine blk_far ?_ NB136_137.out _; (with_reducible repeat (first | refine blk_drewN ?_ _ | refine blk_drew ?_ | refine blk_alloc ?_ _)); refine blk_far ?_ NB136_137.out _; (with_reducible repeat (first | refine blk_drewN ?_ _ | refine blk_drew ?_ | refine blk_alloc ?_ _)); refine blk_far ?_ NB136_137.out _; (with_reducible repeat (first | refine blk_drewN ?_ _ | refine blk_drew ?_ | refine blk_alloc ?_ _)); refine blk_far ?_ NB136_137.out _; (with_reducible repeat (first | refine blk_drewN ?_ _ | refine blk_drew ?_ | refine blk_alloc ?_ _)); refine blk_far ?_ NB136_137.out _; (with_reducible repeat (first | refine blk_drewN ?_ _ | refine blk_drew ?_ | refine blk_alloc ?_ _)); refine blk_far ?_ NB136_137.out _; (with_reducible repeat (first | refine blk_drewN ?_ _ | refine blk_drew ?_ | refine blk_alloc ?_ _)); exact BK136.out) hb); have n1_ := Aside0.mk (blk_below (g := gb137) (o := .cells #[.int .u8 a0, .int .u16 a1, .int .u8 a2, .string a3, .int .i64 a4, .int .i64 a5, .int .i64 a5, .int .u64 0, .bool false, .bool false] 59 (0, 0)) (by (with_reducible repeat (first | refine blk_drewN ?_ _ | refine blk_drew ?_ | refine blk_alloc ?_ _)); refine blk_put (cs := #[.int .u8 a0, .int .u16 a1, .int .u8 a2, .string a3, .int .i64 a4, .int .i64 a5, .int .i64 a5, .int .u64 0, .bool false, .bool false]) ?_ 9 _ rfl; (with_reducible repeat (first | refine blk_drewN ?_ _ | refine blk_drew ?_ | refine blk_alloc ?_ _)); refine blk_put (cs := #[.int .u8 a0, .int .u16 a1, .int .u8 a2, .string a3, .int .i64 a4, .int .i64 a5, .int .i64 a5, .int .u64 0, .bool false, .bool false]) ?_ 8 _ rfl; (with_reducible repeat (first | refine blk_drewN ?_ _ | refine blk_drew ?_ | refine blk_alloc ?_ _)); refine blk_put (cs := #[.int .u8 a0, .int .u16 a1, .int .u8 a2, .string a3, .int .i64 a4, .int .i64 a5, .int .i64 a5, .int .u64 0, .bool false, .bool false]) ?_ 7 _ rfl; (with_reducible repeat (first | refine blk_drewN ?_ _ | refine blk_drew ?_ | refine blk_alloc ?_ _)); refine blk_put (cs := #[.int .u8 a0, .int .u16 a1, .int .u8 a2, .string a3, .int .i64 a4, .int .i64 a5, .int .i64 0, .int .u64 0, .bool false, .bool false]) ?_ 6 _ rfl; (with_reducible repeat (first | refine blk_drewN ?_ _ | refine blk_drew ?_ | refine blk_alloc ?_ _)); refine blk_put (cs := #[.int .u8 a0, .int .u16 a1, .int .u8 a2, .string a3, .int .i64 a4, .int .i64 0, .int .i64 0, .int .u64 0, .bool false, .bool false]) ?_ 5 _ rfl; (with_reducible repeat (first | refine blk_drewN ?_ _ | refine blk_drew ?_ | refine blk_alloc ?_ _)); refine blk_put (cs := #[.int .u8 a0, .int .u16 a1, .int .u8 a2, .string a3, .int .i64 0, .int .i64 0, .int .i64 0, .int .u64 0, .bool false, .bool false]) ?_ 4 _ rfl; (with_reducible repeat (first | refine blk_drewN ?_ _ | refine blk_drew ?_ | refine blk_alloc ?_ _)); refine blk_put (cs := #[.int .u8 a0, .int .u16 a1, .int .u8 a2, .string (⟨#[]⟩ : ByteArray), .int .i64 0, .int .i64 0, .int .i64 0, .int .u64 0, .bool false, .bool false]) ?_ 3 _ rfl; (with_reducible repeat (first | refine blk_drewN ?_ _ | refine blk_drew ?_ | refine blk_alloc ?_ _)); refine blk_put (cs := #[.int .u8 a0, .int .u16 a1, .int .u8 0, .string (⟨#[]⟩ : ByteArray), .int .i64 0, .int .i64 0, .int .i64 0, .int .u64 0, .bool false, .bool false]) ?_ 2 _ rfl; (with_reducible repeat (first | refine blk_drewN ?_ _ | refine blk_drew ?_ | refine blk_alloc ?_ _)); refine blk_put (cs := #[.int .u8 a0, .int .u16 0, .int .u8 0, .string (⟨#[]⟩ : ByteArray), .int .i64 0, .int .i64 0, .int .i64 0, .int .u64 0, .bool false, .bool false]) ?_ 1 _ rfl; (with_reducible repeat (first | refine blk_drewN ?_ _ | refine blk_drew ?_ | refine blk_alloc ?_ _)); refine blk_put (cs := #[.int .u8 0, .int .u16 0, .int .u8 0, .string (⟨#[]⟩ : ByteArray), .int .i64 0, .int .i64 0, .int .i64 0, .int .u64 0, .bool false, .bool false]) ?_ 0 _ rfl; (with_reducible repeat (first | refine blk_drewN ?_ _ | refine blk_drew ?_ | refine blk_alloc ?_ _)); exact BK137.out) hb); have n2_ := Aside0.mk (below_step (by repeat (first | (with_reducible first | exact HB.out | apply below_alloc | apply pw_below_drewN | apply below_drew1 | refine below_set ?_ GE136.out | refine below_set ?_ GE137.out) | exact HB.out)) hb); clear BK136; clear BK137; clear HB; have BK136 := n0_; have BK137 := n1_; have HB := n2_; clear n0_ n1_ n2_; (try clear hb); (try clear hb2); (try clear hk); (try clear hi)) | ((with_reducible refine gate_callee (f := 12) rfl ?_); refine goesL_ (some 29) rfl rfl Try.func12 (by kernel_rfl) rfl #[.agg #[.bool t138, .int .u8 t139, .int .u32 t140, .int .u16 t141, .string t142], .int .u8 a0] rfl (by (try simp only [List.map_toArray, List.map_cons, List.map_nil]); first | done | rfl | (simp only [List.length_drop, List.length_take]; rfl)) ?_; (with_reducible refine (ccm_Close.calls k t138 t139 t140 t141 t142 a0 t143 t144 _ A8.out).mono ?_); rintro e w31 ⟨rfl, hb⟩; refine ⟨_, rfl, ?_⟩; have n0_ := Aside0.mk (blk_below (g := gb136) (o := .cells #[.int .u8 0, .int .u16 0, .int .u8 0, .string (⟨#[]⟩ : ByteArray), .int .i64 0, .int .i64 0, .int .i64 0, .int .u64 0, .bool false, .bool false] 59 (0, 0)) (by (with_reducible repeat (first | refine blk_drewN ?_ _ | refine blk_drew ?_ | refine blk_alloc ?_ _)); exact BK136.out) hb); have n1_ := Aside0.mk (blk_below (g := gb137) (o := .cells #[.int .u8 a0, .int .u16 a1, .int .u8 a2, .string a3, .int .i64 a4, .int .i64 a5, .int .i64 a5, .int .u64 0, .bool false, .bool false] 59 (0, 0)) (by (with_reducible repeat (first | refine blk_drewN ?_ _ | refine blk_drew ?_ | refine blk_alloc ?_ _)); exact BK137.out) hb); have n2_ := Aside0.mk (below_step (by repeat (first | (with_reducible first | exact HB.out | apply below_alloc | apply pw_below_drewN | apply below_drew1 | refine below_set ?_ GE136.out | refine below_set ?_ GE137.out) | exact HB.out)) hb); clear BK136; clear BK137; clear HB; have BK136 := n0_; have BK137 := n1_; have HB := n2_; clear n0_ n1_ n2_; (try clear hb); (try clear hb2); (try clear hk); (try clear hi); have hcz32_0 : w31.cell? ⟨gb136, 0, none⟩ = some (.int .u8 0) := (blk_cell BK136.out 0).trans rfl; have hcz32_1 : w31.cell? ⟨gb136, 1, none⟩ = some (.int .u16 0) := (blk_cell BK136.out 1).trans rfl; have hcz32_2 : w31.cell? ⟨gb136, 2, none⟩ = some (.int .u8 0) := (blk_cell BK136.out 2).trans rfl; have hcz32_3 : w31.cell? ⟨gb136, 3, none⟩ = some (.string (⟨#[]⟩ : ByteArray)) := (blk_cell BK136.out 3).trans rfl; have hcz32_4 : w31.cell? ⟨gb136, 4, none⟩ = some (.int .i64 0) := (blk_cell BK136.out 4).trans rfl; have hcz32_5 : w31.cell? ⟨gb136, 5, none⟩ = some (.int .i64 0) := (blk_cell BK136.out 5).trans rfl; have hcz32_6 : w31.cell? ⟨gb136, 6, none⟩ = some (.int .i64 0) := (blk_cell BK136.out 6).trans rfl; have hcz32_7 : w31.cell? ⟨gb136, 7, none⟩ = some (.int .u64 0) := (blk_cell BK136.out 7).trans rfl; have hcz32_8 : w31.cell? ⟨gb136, 8, none⟩ = some (.bool false) := (blk_cell BK136.out 8).trans rfl; have hcz32_9 : w31.cell? ⟨gb136, 9, none⟩ = some (.bool false) := (blk_cell BK136.out 9).trans rfl; have hfz32_0 := blk_frozen BK136.out 0; have hfz32_1 := blk_frozen BK136.out 1; have hfz32_2 := blk_frozen BK136.out 2; have hfz32_3 := blk_frozen BK136.out 3; have hfz32_4 := blk_frozen BK136.out 4; have hfz32_5 := blk_frozen BK136.out 5; have hfz32_6 := blk_frozen BK136.out 6; have hfz32_7 := blk_frozen BK136.out 7; have hfz32_8 := blk_frozen BK136.out 8; have hfz32_9 := blk_frozen BK136.out 9))
  refine bodyPost_ret (results_ct rfl _ _ gb136 59 #[.int .u8 0, .int .u16 0, .int .u8 0, .string (⟨#[]⟩ : ByteArray), .int .i64 0, .int .i64 0, .int .i64 0, .int .u64 0, .bool false, .bool false] (0, 0) _ rfl (by (with_reducible repeat (first | refine blk_drewN ?_ _ | refine blk_drew ?_ | refine blk_alloc ?_ _)); refine blk_put (cs := #[.int .u8 0, .int .u16 0, .int .u8 0, .string (⟨#[]⟩ : ByteArray), .int .i64 0, .int .i64 0, .int .i64 0, .int .u64 0, .bool false, .bool false]) ?_ 9 _ rfl; (with_reducible repeat (first | refine blk_drewN ?_ _ | refine blk_drew ?_ | refine blk_alloc ?_ _)); refine blk_put (cs := #[.int .u8 0, .int .u16 0, .int .u8 0, .string (⟨#[]⟩ : ByteArray), .int .i64 0, .int .i64 0, .int .i64 0, .int .u64 0, .bool false, .bool false]) ?_ 8 _ rfl; (with_reducible repeat (first | refine blk_drewN ?_ _ | refine blk_drew ?_ | refine blk_alloc ?_ _)); refine blk_put (cs := #[.int .u8 0, .int .u16 0, .int .u8 0, .string (⟨#[]⟩ : ByteArray), .int .i64 0, .int .i64 0, .int .i64 0, .int .u64 0, .bool false, .bool false]) ?_ 7 _ rfl; (with_reducible repeat (first | refine blk_drewN ?_ _ | refine blk_drew ?_ | refine blk_alloc ?_ _)); refine blk_put (cs := #[.int .u8 0, .int .u16 0, .int .u8 0, .string (⟨#[]⟩ : ByteArray), .int .i64 0, .int .i64 0, .int .i64 0, .int .u64 0, .bool false, .bool false]) ?_ 6 _ rfl; (with_reducible repeat (first | refine blk_drewN ?_ _ | refine blk_drew ?_ | refine blk_alloc ?_ _)); refine blk_put (cs := #[.int .u8 0, .int .u16 0, .int .u8 0, .string (⟨#[]⟩ : ByteArray), .int .i64 0, .int .i64 0, .int .i64 0, .int .u64 0, .bool false, .bool false]) ?_ 5 _ rfl; (with_reducible repeat (first | refine blk_drewN ?_ _ | refine blk_drew ?_ | refine blk_alloc ?_ _)); refine blk_put (cs := #[.int .u8 0, .int .u16 0, .int .u8 0, .string (⟨#[]⟩ : ByteArray), .int .i64 0, .int .i64 0, .int .i64 0, .int .u64 0, .bool false, .bool false]) ?_ 4 _ rfl; (with_reducible repeat (first | refine blk_drewN ?_ _ | refine blk_drew ?_ | refine blk_alloc ?_ _)); refine blk_put (cs := #[.int .u8 0, .int .u16 0, .int .u8 0, .string (⟨#[]⟩ : ByteArray), .int .i64 0, .int .i64 0, .int .i64 0, .int .u64 0, .bool false, .bool false]) ?_ 3 _ rfl; (with_reducible repeat (first | refine blk_drewN ?_ _ | refine blk_drew ?_ | refine blk_alloc ?_ _)); refine blk_put (cs := #[.int .u8 0, .int .u16 0, .int .u8 0, .string (⟨#[]⟩ : ByteArray), .int .i64 0, .int .i64 0, .int .i64 0, .int .u64 0, .bool false, .bool false]) ?_ 2 _ rfl; (with_reducible repeat (first | refine blk_drewN ?_ _ | refine blk_drew ?_ | refine blk_alloc ?_ _)); refine blk_put (cs := #[.int .u8 0, .int .u16 0, .int .u8 0, .string (⟨#[]⟩ : ByteArray), .int .i64 0, .int .i64 0, .int .i64 0, .int .u64 0, .bool false, .bool false]) ?_ 1 _ rfl; (with_reducible repeat (first | refine blk_drewN ?_ _ | refine blk_drew ?_ | refine blk_alloc ?_ _)); refine blk_put (cs := #[.int .u8 0, .int .u16 0, .int .u8 0, .string (⟨#[]⟩ : ByteArray), .int .i64 0, .int .i64 0, .int .i64 0, .int .u64 0, .bool false, .bool false]) ?_ 0 _ rfl; (with_reducible repeat (first | refine blk_drewN ?_ _ | refine blk_drew ?_ | refine blk_alloc ?_ _)); exact BK136.out) Try.underlying59 rfl (by kernel_rfl)) rfl ?_
  exact ⟨by first | rfl | (simp [errW_none, errW_some] <;> rfl) | (simp [*, errW_none, errW_some] <;> rfl), by repeat (first | (with_reducible first | exact HB.out | apply below_alloc | apply pw_below_drewN | apply below_drew1 | refine below_set ?_ GE136.out | refine below_set ?_ GE137.out) | exact HB.out)⟩

/-! ### watch_Watch_Tick: function 35 -/
def watch_Watch_Tick.j0 : Nat → Int → ByteArray → Int → Int → Int → ByteArray → Int → Int → Int → Int → Bool → Bool → Option (Int × Int × Int × ByteArray × Int × Int × Int × Int × Bool × Bool × ByteArray)
  | 0, _, _, _, _, _, _, _, _, _, _, _, _ => none
  | k + 1, x1, x6, x146000, x146001, x146002, x146003, x146004, x146005, x146006, x146007, x146008, x146009 => if (wrap64 (2 * (wrap64 (x1 - x146005)))) > (wrap64 (7 * x146004)) then (some (x146000, x146001, x146002, x146003, x146004, x146005, x146006, x146007, true, x146009, x6)) else (some (x146000, x146001, x146002, x146003, x146004, x146005, x146006, x146007, x146008, x146009, x6))
def watch_Watch_Tick.f (k : Nat) (a0_0 : Int) (a0_1 : Int) (a0_2 : Int) (a0_3 : ByteArray) (a0_4 : Int) (a0_5 : Int) (a0_6 : Int) (a0_7 : Int) (a0_8 : Bool) (a0_9 : Bool) (a1 : Int) : Option (Int × Int × Int × ByteArray × Int × Int × Int × Int × Bool × Bool × ByteArray) := if a1 ≥ a0_6 then ((watch_Watch_message.f a0_0 a0_1 a0_2 a0_3 a0_4 a0_5 a0_6 a0_7 a0_8 a0_9).bind fun bt147 => ((ccm_Close.f k bt147.1 bt147.2.1 bt147.2.2.1 bt147.2.2.2.1 bt147.2.2.2.2 a0_0).bind fun bt152 => (watch_Watch_Tick.j0 k a1 bt152.1 a0_0 a0_1 a0_2 a0_3 a0_4 a0_5 (wrap64 (a1 + a0_4)) (IntKind.u64.wrap (a0_7 + 1)) a0_8 a0_9))) else (watch_Watch_Tick.j0 k a1 (⟨#[]⟩ : ByteArray) a0_0 a0_1 a0_2 a0_3 a0_4 a0_5 a0_6 a0_7 a0_8 a0_9)
theorem watch_Watch_Tick.mono_l : ∀ k, (∀ y0 y1 y2 y3 y4 y5 y6 y7 y8 y9 y10 y11, LeO (watch_Watch_Tick.j0 k y0 y1 y2 y3 y4 y5 y6 y7 y8 y9 y10 y11) (watch_Watch_Tick.j0 (k + 1) y0 y1 y2 y3 y4 y5 y6 y7 y8 y9 y10 y11))
 | 0 => fun _ _ _ _ _ _ _ _ _ _ _ _ r h => by simp [watch_Watch_Tick.j0] at h
 | k + 1 => by
  have ih0 := watch_Watch_Tick.mono_l k
  ·
   intro y0 y1 y2 y3 y4 y5 y6 y7 y8 y9 y10 y11
   unfold watch_Watch_Tick.j0
   repeat' first
   | (with_reducible exact ih0 _ _ _ _ _ _ _ _ _ _ _ _)
   | (with_reducible exact ccm_Close.mono _ _ _ _ _ _ _)
   | (with_reducible exact LeO.refl _)
   | (with_reducible exact LeO.none _)
   | (with_reducible refine LeO.ite ?_ ?_)
   | (with_reducible refine LeO.bind ?_ (fun _ => ?_))
   | exact ih0 _ _ _ _ _ _ _ _ _ _ _ _
   | exact ccm_Close.mono _ _ _ _ _ _ _
   | exact LeO.none _
   | refine LeO.ite ?_ ?_
   | refine LeO.bind ?_ (fun _ => ?_)
theorem watch_Watch_Tick.mono : ∀ a0 a1 a2 a3 a4 a5 a6 a7 a8 a9 a10 k, LeO (watch_Watch_Tick.f k a0 a1 a2 a3 a4 a5 a6 a7 a8 a9 a10) (watch_Watch_Tick.f (k + 1) a0 a1 a2 a3 a4 a5 a6 a7 a8 a9 a10) := by
 intro a0 a1 a2 a3 a4 a5 a6 a7 a8 a9 a10 k
 have ih0 := watch_Watch_Tick.mono_l k
 unfold watch_Watch_Tick.f
 repeat' first
   | (with_reducible exact ih0 _ _ _ _ _ _ _ _ _ _ _ _)
   | (with_reducible exact ccm_Close.mono _ _ _ _ _ _ _)
   | (with_reducible exact LeO.refl _)
   | (with_reducible exact LeO.none _)
   | (with_reducible refine LeO.ite ?_ ?_)
   | (with_reducible refine LeO.bind ?_ (fun _ => ?_))
   | exact ih0 _ _ _ _ _ _ _ _ _ _ _ _
   | exact ccm_Close.mono _ _ _ _ _ _ _
   | exact LeO.none _
   | refine LeO.ite ?_ ?_
   | refine LeO.bind ?_ (fun _ => ?_)
def watch_Watch_Tick.T3 : Bool × List (List Nat × List Nat) := (true, [([], []), ([0], [0]), ([], []), ([2], [2]), ([1, 3, 1], [1, 3]), ([4], [4]), ([5], [5]), ([5], [5]), ([6, 4, 0, 1, 2, 3, 4, 5, 6], [6])])
def watch_Watch_Tick.B3 : List Nat := [0, 1, 0, 4, 15, 31, 63, 63, 127]
theorem watch_Watch_Tick.tab3 : rtab .any (opsOf Try.f35 3) = watch_Watch_Tick.T3 := by kernel_rfl
theorem watch_Watch_Tick.bits3 : waitsOk watch_Watch_Tick.T3.2 watch_Watch_Tick.B3 = true := by kernel_rfl
set_option maxHeartbeats 8000000 in
set_option maxRecDepth 100000 in
theorem watch_Watch_Tick.calls (k : Nat) (a0_0 : Int) (a0_1 : Int) (a0_2 : Int) (a0_3 : ByteArray) (a0_4 : Int) (a0_5 : Int) (a0_6 : Int) (a0_7 : Int) (a0_8 : Bool) (a0_9 : Bool) (a1 : Int) (r1 : Int) (r2 : Int) (r3 : Int) (r4 : ByteArray) (r5 : Int) (r6 : Int) (r7 : Int) (r8 : Int) (r9 : Bool) (r10 : Bool) (r11 : ByteArray) (w : World) (h : watch_Watch_Tick.f k a0_0 a0_1 a0_2 a0_3 a0_4 a0_5 a0_6 a0_7 a0_8 a0_9 a1 = some (r1, r2, r3, r4, r5, r6, r7, r8, r9, r10, r11)) :
  Calls Try.prog 35 #[.agg #[.int .u8 a0_0, .int .u16 a0_1, .int .u8 a0_2, .string a0_3, .int .i64 a0_4, .int .i64 a0_5, .int .i64 a0_6, .int .u64 a0_7, .bool a0_8, .bool a0_9], .int .i64 a1] w fun e w' => e = .returned (.tuple #[.agg #[.int .u8 r1, .int .u16 r2, .int .u8 r3, .string r4, .int .i64 r5, .int .i64 r6, .int .i64 r7, .int .u64 r8, .bool r9, .bool r10], .string r11]) ∧ Below w.heap.size w w' := by
 have hu59 := Try.underlying59
 have HB := Aside0.mk (Below.refl w.heap.size w)
 have H : (if a1 ≥ a0_6 then ((watch_Watch_message.f a0_0 a0_1 a0_2 a0_3 a0_4 a0_5 a0_6 a0_7 a0_8 a0_9).bind fun bt147 => ((ccm_Close.f k bt147.1 bt147.2.1 bt147.2.2.1 bt147.2.2.2.1 bt147.2.2.2.2 a0_0).bind fun bt152 => (watch_Watch_Tick.j0 k a1 bt152.1 a0_0 a0_1 a0_2 a0_3 a0_4 a0_5 (wrap64 (a1 + a0_4)) (IntKind.u64.wrap (a0_7 + 1)) a0_8 a0_9))) else (watch_Watch_Tick.j0 k a1 (⟨#[]⟩ : ByteArray) a0_0 a0_1 a0_2 a0_3 a0_4 a0_5 a0_6 a0_7 a0_8 a0_9)) = some (r1, r2, r3, r4, r5, r6, r7, r8, r9, r10, r11) := h
 clear h
 have HC3 := Aside0.mk H
 clear H
 go_enter Try.func35, Try.ntmps35
 go_upto_if 10 with (first | ((with_reducible refine gate_dst (N := 2) rfl ?_); refine box_event ?hg (N := 2) ?hd (cs := #[.int .u8 a0_0, .int .u16 a0_1, .int .u8 a0_2, .string a0_3, .int .i64 a0_4, .int .i64 a0_5, .int .i64 a0_6, .int .u64 a0_7, .bool a0_8, .bool a0_9]) (t := 59) ?hr ?_; (case hd => rfl); (case hg => rfl); (case hr => first | (go_simp; done) | (go_simp; rfl)); intro gb145 hg w4 hbox hb; have n0_ := Aside0.mk (below_step (by repeat (first | (with_reducible first | exact HB.out | apply below_alloc | apply pw_below_drewN | apply below_drew1) | exact HB.out)) hb); have n1_ := Aside0.mk (hbox); have n2_ := Aside0.mk ((by rw [hg]; exact (below_size (by repeat (first | (with_reducible first | exact HB.out | apply below_alloc | apply pw_below_drewN | apply below_drew1) | exact HB.out))) : w.heap.size ≤ gb145)); have n3_ := Aside0.mk ((by rw [hg]; exact (below_size (by repeat (first | (with_reducible first | exact HB.out | apply below_alloc | apply pw_below_drewN | apply below_drew1) | exact HB.out))) : w.heap.size ≤ gb145)); clear HB; have HB := n0_; have BK145 := n1_; have GW145 := n2_; have GE145 := n3_; clear n0_ n1_ n2_ n3_; clear hb hbox hg) | ((with_reducible refine gate_dst (N := 4) rfl ?_); refine box_event ?hg (N := 4) ?hd (cs := #[.int .u8 0, .int .u16 0, .int .u8 0, .string (⟨#[]⟩ : ByteArray), .int .i64 0, .int .i64 0, .int .i64 0, .int .u64 0, .bool false, .bool false]) (t := 59) ?hr ?_; (case hd => rfl); (case hg => rfl); (case hr => first | (go_simp; done) | (go_simp; rfl)); intro gb146 hg w5 hbox hb; have n0_ := Aside0.mk (blk_below (g := gb145) (o := .cells #[.int .u8 a0_0, .int .u16 a0_1, .int .u8 a0_2, .string a0_3, .int .i64 a0_4, .int .i64 a0_5, .int .i64 a0_6, .int .u64 a0_7, .bool a0_8, .bool a0_9] 59 (0, 0)) (by (with_reducible repeat (first | refine blk_drewN ?_ _ | refine blk_drew ?_ | refine blk_alloc ?_ _)); exact BK145.out) hb); have n1_ := Aside0.mk (below_step (by repeat (first | (with_reducible first | exact HB.out | apply below_alloc | apply pw_below_drewN | apply below_drew1 | refine below_set ?_ GE145.out) | exact HB.out)) hb); have n2_ := Aside0.mk (hbox); have n3_ := Aside0.mk ((by rw [hg]; exact (below_size (by repeat (first | (with_reducible first | exact HB.out | apply below_alloc | apply pw_below_drewN | apply below_drew1 | refine below_set ?_ GE145.out) | exact HB.out))) : w.heap.size ≤ gb146)); have n4_ := Aside0.mk ((by rw [hg]; exact (below_size (by repeat (first | (with_reducible first | exact HB.out | apply below_alloc | apply pw_below_drewN | apply below_drew1 | refine below_set ?_ GE145.out) | exact HB.out))) : w.heap.size ≤ gb146)); have n5_ := Aside0.mk ((by rw [hg]; exact Nat.ne_of_lt (blk_lt (g := gb145) (o := .cells #[.int .u8 a0_0, .int .u16 a0_1, .int .u8 a0_2, .string a0_3, .int .i64 a0_4, .int .i64 a0_5, .int .i64 a0_6, .int .u64 a0_7, .bool a0_8, .bool a0_9] 59 (0, 0)) (by (with_reducible repeat (first | refine blk_drewN ?_ _ | refine blk_drew ?_ | refine blk_alloc ?_ _)); exact BK145.out)) : gb145 ≠ gb146)); have n6_ := Aside0.mk ((by rw [hg]; exact Nat.ne_of_gt (blk_lt (g := gb145) (o := .cells #[.int .u8 a0_0, .int .u16 a0_1, .int .u8 a0_2, .string a0_3, .int .i64 a0_4, .int .i64 a0_5, .int .i64 a0_6, .int .u64 a0_7, .bool a0_8, .bool a0_9] 59 (0, 0)) (by (with_reducible repeat (first | refine blk_drewN ?_ _ | refine blk_drew ?_ | refine blk_alloc ?_ _)); exact BK145.out)) : gb146 ≠ gb145)); clear BK145; clear HB; have BK145 := n0_; have HB := n1_; have BK146 := n2_; have GW146 := n3_; have GE146 := n4_; have NB145_146 := n5_; have NB146_145 := n6_; clear n0_ n1_ n2_ n3_ n4_ n5_ n6_; clear hb hbox hg; have hnb6 := NB145_146.out; have hnc6 := NB146_145.out; have hcz7_0 : w5.cell? ⟨gb145, 0, none⟩ = some (.int .u8 a0_0) := (blk_cell BK145.out 0).trans rfl; have hcz7_1 : w5.cell? ⟨gb145, 1, none⟩ = some (.int .u16 a0_1) := (blk_cell BK145.out 1).trans rfl; have hcz7_2 : w5.cell? ⟨gb145, 2, none⟩ = some (.int .u8 a0_2) := (blk_cell BK145.out 2).trans rfl; have hcz7_3 : w5.cell? ⟨gb145, 3, none⟩ = some (.string a0_3) := (blk_cell BK145.out 3).trans rfl; have hcz7_4 : w5.cell? ⟨gb145, 4, none⟩ = some (.int .i64 a0_4) := (blk_cell BK145.out 4).trans rfl; have hcz7_5 : w5.cell? ⟨gb145, 5, none⟩ = some (.int .i64 a0_5) := (blk_cell BK145.out 5).trans rfl; have hcz7_6 : w5.cell? ⟨gb145, 6, none⟩ = some (.int .i64 a0_6) := (blk_cell BK145.out 6).trans rfl; have hcz7_7 : w5.cell? ⟨gb145, 7, none⟩ = some (.int .u64 a0_7) := (blk_cell BK145.out 7).trans rfl; have hcz7_8 : w5.cell? ⟨gb145, 8, none⟩ = some (.bool a0_8) := (blk_cell BK145.out 8).trans rfl; have hcz7_9 : w5.cell? ⟨gb145, 9, none⟩ = some (.bool a0_9) := (blk_cell BK145.out 9).trans rfl; have hfz7_0 := blk_frozen BK145.out 0; have hfz7_1 := blk_frozen BK145.out 1; have hfz7_2 := blk_frozen BK145.out 2; have hfz7_3 := blk_frozen BK145.out 3; have hfz7_4 := blk_frozen BK145.out 4; have hfz7_5 := blk_frozen BK145.out 5; have hfz7_6 := blk_frozen BK145.out 6; have hfz7_7 := blk_frozen BK145.out 7; have hfz7_8 := blk_frozen BK145.out 8; have hfz7_9 := blk_frozen BK145.out 9))
 (try simp only [Act.put, List.setIfInBounds_toArray, List.set_cons_zero, List.set_cons_succ])
 go_cut [6] (fun v6 wc => ∃ (kq : Nat) (x6_2 : ByteArray) (x146006_2 : Int) (x146007_2 : Int), v6 = .string x6_2 ∧ Aside0 (watch_Watch_Tick.j0 kq a1 x6_2 a0_0 a0_1 a0_2 a0_3 a0_4 a0_5 x146006_2 x146007_2 a0_8 a0_9 = some (r1, r2, r3, r4, r5, r6, r7, r8, r9, r10, r11)) ∧ Aside0 (kq ≤ k) ∧ Aside0 (wc.heap[gb145]? = some (.cells #[.int .u8 a0_0, .int .u16 a0_1, .int .u8 a0_2, .string a0_3, .int .i64 a0_4, .int .i64 a0_5, .int .i64 x146006_2, .int .u64 x146007_2, .bool a0_8, .bool a0_9] 59 (0, 0))) ∧ Aside0 (wc.heap[gb146]? = some (.cells #[.int .u8 0, .int .u16 0, .int .u8 0, .string (⟨#[]⟩ : ByteArray), .int .i64 0, .int .i64 0, .int .i64 0, .int .u64 0, .bool false, .bool false] 59 (0, 0))) ∧ Aside0 (Below w.heap.size w wc))
 case first =>
  have H := HC3.out
  clear HC3
  by_cases c8 : a1 ≥ a0_6
  ·
   rw [if_pos c8] at H
   have c8b0 : decide (a0_6 ≤ a1) = true := decide_eq_true c8
   clear c8
   (first | rw [c8b0] | (simp only [i64_w, i32_w]; rw [c8b0]) | skip)
   replace H := Option.bind_eq_some_iff.mp H
   obtain ⟨⟨t147, t148, t149, t150, t151⟩, A90, H⟩ := H
   try dsimp only at H
   have A9 := Aside0.mk A90
   clear A90
   replace H := Option.bind_eq_some_iff.mp H
   obtain ⟨⟨t152, t153⟩, A100, H⟩ := H
   try dsimp only at H
   have A10 := Aside0.mk A100
   clear A100
   have H' := Aside0.mk H
   clear H
   try go_wp2
   have n0_ := Aside0.mk (blk_drew BK145.out)
   have n1_ := Aside0.mk (blk_drew BK146.out)
   have n2_ := Aside0.mk (below_drew1 HB.out)
   clear BK145
   clear BK146
   clear HB
   have BK145 := n0_
   have BK146 := n1_
   have HB := n2_
   clear n0_ n1_ n2_
   refine start_ (n := 9) (S := fun w' => w'.cell? ⟨gb145, 0, none⟩ = some (.int .u8 a0_0) ∧ w'.cell? ⟨gb145, 1, none⟩ = some (.int .u16 a0_1) ∧ w'.cell? ⟨gb145, 2, none⟩ = some (.int .u8 a0_2) ∧ w'.cell? ⟨gb145, 3, none⟩ = some (.string a0_3) ∧ w'.cell? ⟨gb145, 4, none⟩ = some (.int .i64 a0_4) ∧ w'.cell? ⟨gb145, 5, none⟩ = some (.int .i64 a0_5) ∧ w'.cell? ⟨gb145, 6, none⟩ = some (.int .i64 a0_6) ∧ w'.cell? ⟨gb145, 7, none⟩ = some (.int .u64 a0_7) ∧ w'.cell? ⟨gb145, 8, none⟩ = some (.bool a0_8) ∧ w'.cell? ⟨gb145, 9, none⟩ = some (.bool a0_9)) (ds := []) #[false, false, false, false, false, false, false, false, false] (by kernel_rfl) rfl rfl ⟨(blk_cell BK145.out 0).trans rfl, (blk_cell BK145.out 1).trans rfl, (blk_cell BK145.out 2).trans rfl, (blk_cell BK145.out 3).trans rfl, (blk_cell BK145.out 4).trans rfl, (blk_cell BK145.out 5).trans rfl, (blk_cell BK145.out 6).trans rfl, (blk_cell BK145.out 7).trans rfl, (blk_cell BK145.out 8).trans rfl, (blk_cell BK145.out 9).trans rfl⟩ (fun hHeld => ?_); refine with_tabW watch_Watch_Tick.tab3 watch_Watch_Tick.bits3 (fun HT_ HW_ => ?_)
   generalize w5.drew = w11 at BK145 BK146 HB hHeld ⊢
   refine pure_ (i := 2) (N := some 14) (v := ?_) (a' := ?_) #[false, false, true, false, false, false, false, false, false] rfl rfl (any_of HT_.out (by kernel_rfl)) (fun _ _ _ h => h) (Or.inl ⟨by rfl, ?_⟩) ?_ ?_
   rotate_left
   ·
    intro w'
    go_simp
    with_reducible rfl
   rotate_left
   ·
    simp only [Act.put, List.setIfInBounds_toArray, List.set_cons_zero, List.set_cons_succ, i64_w, i32_w]
    rfl
   refine take_ (i := 0) (N := some 12) (v := ?_) (a' := ?_) #[true, false, true, false, false, false, false, false, false] rfl rfl (take_ofW HT_.out HW_.out (by kernel_rfl)) (fun _ _ _ h => h) (Or.inl ⟨by rfl, ?_⟩) hHeld ?_ ?_
   rotate_left
   ·
    rintro w' ⟨s0, s1, s2, s3, s4, s5, s6, s7, s8, s9⟩
    go_simp
    with_reducible rfl
   rotate_left
   ·
    simp only [Act.put, List.setIfInBounds_toArray, List.set_cons_zero, List.set_cons_succ, i64_w, i32_w]
    rfl
   refine take_ (i := 3) (N := some 15) (v := ?_) (a' := ?_) #[true, false, true, true, false, false, false, false, false] rfl rfl (take_ofW HT_.out HW_.out (by kernel_rfl)) (fun _ _ _ h => h) (Or.inl ⟨by rfl, ?_⟩) hHeld ?_ ?_
   rotate_left
   ·
    rintro w' ⟨s0, s1, s2, s3, s4, s5, s6, s7, s8, s9⟩
    go_simp
    with_reducible rfl
   rotate_left
   ·
    simp only [Act.put, List.setIfInBounds_toArray, List.set_cons_zero, List.set_cons_succ, i64_w, i32_w]
    rfl
   refine one_ (i := 1) (N := some 13) #[true, true, true, true, false, false, false, false, false] rfl rfl (one_of HT_.out (by kernel_rfl)) (by decide) (fun K hK => ?_)
   refine goes_ Try.func56 (by kernel_rfl) rfl #[.agg #[.int .u8 a0_0, .int .u16 a0_1, .int .u8 a0_2, .string a0_3, .int .i64 a0_4, .int .i64 a0_5, .int .i64 a0_6, .int .u64 a0_7, .bool a0_8, .bool a0_9]] (by rfl) rfl rfl (by (try simp only [List.map_toArray, List.map_cons, List.map_nil]); first | done | rfl | (simp only [List.length_drop, List.length_take]; rfl)) ?_
   with_reducible refine (watch_Watch_message.calls a0_0 a0_1 a0_2 a0_3 a0_4 a0_5 a0_6 a0_7 a0_8 a0_9 t147 t148 t149 t150 t151 _ A9.out).mono ?_
   rintro e w12 ⟨rfl, hb⟩
   refine ⟨_, rfl, ?_⟩
   have n0_ := Aside0.mk (blk_below (g := gb145) (o := .cells #[.int .u8 a0_0, .int .u16 a0_1, .int .u8 a0_2, .string a0_3, .int .i64 a0_4, .int .i64 a0_5, .int .i64 a0_6, .int .u64 a0_7, .bool a0_8, .bool a0_9] 59 (0, 0)) (by (with_reducible repeat (first | refine blk_drewN ?_ _ | refine blk_drew ?_ | refine blk_alloc ?_ _)); exact BK145.out) hb)
   have n1_ := Aside0.mk (blk_below (g := gb146) (o := .cells #[.int .u8 0, .int .u16 0, .int .u8 0, .string (⟨#[]⟩ : ByteArray), .int .i64 0, .int .i64 0, .int .i64 0, .int .u64 0, .bool false, .bool false] 59 (0, 0)) (by (with_reducible repeat (first | refine blk_drewN ?_ _ | refine blk_drew ?_ | refine blk_alloc ?_ _)); exact BK146.out) hb)
   have n2_ := Aside0.mk (below_step (by repeat (first | (with_reducible first | exact HB.out | apply below_alloc | apply pw_below_drewN | apply below_drew1 | refine below_set ?_ GE145.out | refine below_set ?_ GE146.out) | exact HB.out)) hb)
   clear BK145
   clear BK146
   clear HB
   have BK145 := n0_
   have BK146 := n1_
   have HB := n2_
   clear n0_ n1_ n2_
   (try clear hb)
   (try clear hb2)
   (try clear hk)
   (try clear hi)
   refine hK.out _ _ ⟨(blk_cell BK145.out 0).trans rfl, (blk_cell BK145.out 1).trans rfl, (blk_cell BK145.out 2).trans rfl, (blk_cell BK145.out 3).trans rfl, (blk_cell BK145.out 4).trans rfl, (blk_cell BK145.out 5).trans rfl, (blk_cell BK145.out 6).trans rfl, (blk_cell BK145.out 7).trans rfl, (blk_cell BK145.out 8).trans rfl, (blk_cell BK145.out 9).trans rfl⟩ (fun hHeld => ?_)
   clear hK K
   refine norm_ (a' := ?_) ?_ ?_
   rotate_left
   ·
    show Act.put _ (some 13) _ = _
    simp only [Act.put, List.setIfInBounds_toArray, List.set_cons_zero, List.set_cons_succ, i64_w, i32_w]
    rfl
   refine one_ (i := 4) (N := some 16) #[true, true, true, true, true, false, false, false, false] rfl rfl (one_of HT_.out (by kernel_rfl)) (by decide) (fun K hK => ?_)
   refine goes_ Try.func12 (by kernel_rfl) rfl #[.agg #[.bool t147, .int .u8 t148, .int .u32 t149, .int .u16 t150, .string t151], .int .u8 a0_0] (by rfl) rfl rfl (by (try simp only [List.map_toArray, List.map_cons, List.map_nil]); first | done | rfl | (simp only [List.length_drop, List.length_take]; rfl)) ?_
   with_reducible refine (ccm_Close.calls k t147 t148 t149 t150 t151 a0_0 t152 t153 _ A10.out).mono ?_
   rintro e w13 ⟨rfl, hb⟩
   refine ⟨_, rfl, ?_⟩
   have n0_ := Aside0.mk (blk_below (g := gb145) (o := .cells #[.int .u8 a0_0, .int .u16 a0_1, .int .u8 a0_2, .string a0_3, .int .i64 a0_4, .int .i64 a0_5, .int .i64 a0_6, .int .u64 a0_7, .bool a0_8, .bool a0_9] 59 (0, 0)) (by (with_reducible repeat (first | refine blk_drewN ?_ _ | refine blk_drew ?_ | refine blk_alloc ?_ _)); exact BK145.out) hb)
   have n1_ := Aside0.mk (blk_below (g := gb146) (o := .cells #[.int .u8 0, .int .u16 0, .int .u8 0, .string (⟨#[]⟩ : ByteArray), .int .i64 0, .int .i64 0, .int .i64 0, .int .u64 0, .bool false, .bool false] 59 (0, 0)) (by (with_reducible repeat (first | refine blk_drewN ?_ _ | refine blk_drew ?_ | refine blk_alloc ?_ _)); exact BK146.out) hb)
   have n2_ := Aside0.mk (below_step (by repeat (first | (with_reducible first | exact HB.out | apply below_alloc | apply pw_below_drewN | apply below_drew1 | refine below_set ?_ GE145.out | refine below_set ?_ GE146.out) | exact HB.out)) hb)
   clear BK145
   clear BK146
   clear HB
   have BK145 := n0_
   have BK146 := n1_
   have HB := n2_
   clear n0_ n1_ n2_
   (try clear hb)
   (try clear hb2)
   (try clear hk)
   (try clear hi)
   refine hK.out _ _ ⟨(blk_cell BK145.out 0).trans rfl, (blk_cell BK145.out 1).trans rfl, (blk_cell BK145.out 2).trans rfl, (blk_cell BK145.out 3).trans rfl, (blk_cell BK145.out 4).trans rfl, (blk_cell BK145.out 5).trans rfl, (blk_cell BK145.out 6).trans rfl, (blk_cell BK145.out 7).trans rfl, (blk_cell BK145.out 8).trans rfl, (blk_cell BK145.out 9).trans rfl⟩ (fun hHeld => ?_)
   clear hK K
   refine norm_ (a' := ?_) ?_ ?_
   rotate_left
   ·
    show Act.put _ (some 16) _ = _
    simp only [Act.put, List.setIfInBounds_toArray, List.set_cons_zero, List.set_cons_succ, i64_w, i32_w]
    rfl
   refine pure_ (i := 5) (N := some 11) (v := ?_) (a' := ?_) #[true, true, true, true, true, true, false, false, false] rfl rfl (any_of HT_.out (by kernel_rfl)) (fun _ _ _ h => h) (Or.inl ⟨by rfl, ?_⟩) ?_ ?_
   rotate_left
   ·
    intro w'
    go_simp
    with_reducible rfl
   rotate_left
   ·
    simp only [Act.put, List.setIfInBounds_toArray, List.set_cons_zero, List.set_cons_succ, i64_w, i32_w]
    rfl
   refine pure_ (i := 6) (N := some 17) (v := ?_) (a' := ?_) #[true, true, true, true, true, true, true, false, false] rfl rfl (any_of HT_.out (by kernel_rfl)) (fun _ _ _ h => h) (Or.inl ⟨by rfl, ?_⟩) ?_ ?_
   rotate_left
   ·
    intro w'
    go_simp
    with_reducible rfl
   rotate_left
   ·
    simp only [Act.put, List.setIfInBounds_toArray, List.set_cons_zero, List.set_cons_succ, i64_w, i32_w]
    rfl
   refine pure_ (i := 7) (N := some 18) (v := ?_) (a' := ?_) #[true, true, true, true, true, true, true, true, false] rfl rfl (any_of HT_.out (by kernel_rfl)) (fun _ _ _ h => h) (Or.inl ⟨by rfl, ?_⟩) ?_ ?_
   rotate_left
   ·
    intro w'
    go_simp
    with_reducible rfl
   rotate_left
   ·
    simp only [Act.put, List.setIfInBounds_toArray, List.set_cons_zero, List.set_cons_succ, i64_w, i32_w]
    rfl
   refine pure_ (i := 8) (N := some 6) (v := ?_) (a' := ?_) #[true, true, true, true, true, true, true, true, true] rfl rfl (any_of HT_.out (by kernel_rfl)) (fun _ _ _ h => h) (Or.inl ⟨by rfl, ?_⟩) ?_ ?_
   rotate_left
   ·
    intro w'
    go_simp
    with_reducible rfl
   rotate_left
   ·
    simp only [Act.put, List.setIfInBounds_toArray, List.set_cons_zero, List.set_cons_succ, i64_w, i32_w]
    rfl
   refine done_ (done_of HT_.out (by kernel_rfl)) ?_
   have hnb14 := NB145_146.out
   have hnc14 := NB146_145.out
   have hcz15_0 : w13.cell? ⟨gb145, 0, none⟩ = some (.int .u8 a0_0) := (blk_cell BK145.out 0).trans rfl
   have hcz15_1 : w13.cell? ⟨gb145, 1, none⟩ = some (.int .u16 a0_1) := (blk_cell BK145.out 1).trans rfl
   have hcz15_2 : w13.cell? ⟨gb145, 2, none⟩ = some (.int .u8 a0_2) := (blk_cell BK145.out 2).trans rfl
   have hcz15_3 : w13.cell? ⟨gb145, 3, none⟩ = some (.string a0_3) := (blk_cell BK145.out 3).trans rfl
   have hcz15_4 : w13.cell? ⟨gb145, 4, none⟩ = some (.int .i64 a0_4) := (blk_cell BK145.out 4).trans rfl
   have hcz15_5 : w13.cell? ⟨gb145, 5, none⟩ = some (.int .i64 a0_5) := (blk_cell BK145.out 5).trans rfl
   have hcz15_6 : w13.cell? ⟨gb145, 6, none⟩ = some (.int .i64 a0_6) := (blk_cell BK145.out 6).trans rfl
   have hcz15_7 : w13.cell? ⟨gb145, 7, none⟩ = some (.int .u64 a0_7) := (blk_cell BK145.out 7).trans rfl
   have hcz15_8 : w13.cell? ⟨gb145, 8, none⟩ = some (.bool a0_8) := (blk_cell BK145.out 8).trans rfl
   have hcz15_9 : w13.cell? ⟨gb145, 9, none⟩ = some (.bool a0_9) := (blk_cell BK145.out 9).trans rfl
   have hfz15_0 := blk_frozen BK145.out 0
   have hfz15_1 := blk_frozen BK145.out 1
   have hfz15_2 := blk_frozen BK145.out 2
   have hfz15_3 := blk_frozen BK145.out 3
   have hfz15_4 := blk_frozen BK145.out 4
   have hfz15_5 := blk_frozen BK145.out 5
   have hfz15_6 := blk_frozen BK145.out 6
   have hfz15_7 := blk_frozen BK145.out 7
   have hfz15_8 := blk_frozen BK145.out 8
   have hfz15_9 := blk_frozen BK145.out 9
   try go_wp2
   go_meet
   case rel => exact ⟨_, (t152), (wrap64 (a1 + a0_4)), (IntKind.u64.wrap (a0_7 + 1)), (by first | rfl | (simp; done) | (simp [*]; done)), H', ⟨by first | omega | exact Nat.le_refl _⟩, ⟨by (with_reducible repeat (first | refine blk_drewN ?_ _ | refine blk_drew ?_ | refine blk_alloc ?_ _)); refine blk_put (cs := #[.int .u8 a0_0, .int .u16 a0_1, .int .u8 a0_2, .string a0_3, .int .i64 a0_4, .int .i64 a0_5, .int .i64 a0_6, .int .u64 (IntKind.u64.wrap (a0_7 + 1)), .bool a0_8, .bool a0_9]) ?_ 6 _ rfl; (with_reducible repeat (first | refine blk_drewN ?_ _ | refine blk_drew ?_ | refine blk_alloc ?_ _)); refine blk_put (cs := #[.int .u8 a0_0, .int .u16 a0_1, .int .u8 a0_2, .string a0_3, .int .i64 a0_4, .int .i64 a0_5, .int .i64 a0_6, .int .u64 a0_7, .bool a0_8, .bool a0_9]) ?_ 7 _ rfl; (with_reducible repeat (first | refine blk_drewN ?_ _ | refine blk_drew ?_ | refine blk_alloc ?_ _)); exact BK145.out⟩, ⟨by (with_reducible repeat (first | refine blk_drewN ?_ _ | refine blk_drew ?_ | refine blk_alloc ?_ _)); refine blk_far ?_ NB146_145.out _; (with_reducible repeat (first | refine blk_drewN ?_ _ | refine blk_drew ?_ | refine blk_alloc ?_ _)); refine blk_far ?_ NB146_145.out _; (with_reducible repeat (first | refine blk_drewN ?_ _ | refine blk_drew ?_ | refine blk_alloc ?_ _)); exact BK146.out⟩, ⟨by repeat (first | (with_reducible first | exact HB.out | apply below_alloc | apply pw_below_drewN | apply below_drew1 | refine below_set ?_ GE145.out | refine below_set ?_ GE146.out) | exact HB.out)⟩⟩
  ·
   rw [if_neg c8] at H
   have c8b0 : decide (a0_6 ≤ a1) = false := decide_eq_false c8
   clear c8
   (first | rw [c8b0] | (simp only [i64_w, i32_w]; rw [c8b0]) | skip)
   have H' := Aside0.mk H
   clear H
   go_wp2
   go_meet
   case rel => exact ⟨_, ((⟨#[]⟩ : ByteArray)), (a0_6), (a0_7), (by first | rfl | (simp; done) | (simp [*]; done)), H', ⟨by first | omega | exact Nat.le_refl _⟩, ⟨by (with_reducible repeat (first | refine blk_drewN ?_ _ | refine blk_drew ?_ | refine blk_alloc ?_ _)); exact BK145.out⟩, ⟨by (with_reducible repeat (first | refine blk_drewN ?_ _ | refine blk_drew ?_ | refine blk_alloc ?_ _)); exact BK146.out⟩, ⟨by repeat (first | (with_reducible first | exact HB.out | apply below_alloc | apply pw_below_drewN | apply below_drew1 | refine below_set ?_ GE145.out | refine below_set ?_ GE146.out) | exact HB.out)⟩⟩
 case rest =>
  clear HC3
  try clear c1
  try clear p2
  try clear c3
  try clear c5
  try clear c6
  try clear p6
  try clear c8
  try clear c8b0
  try clear c12
  try clear c14
  try clear hcz15_0
  try clear hcz15_1
  try clear hcz15_2
  try clear hcz15_3
  try clear hcz15_4
  try clear hcz15_5
  try clear hcz15_6
  try clear hcz15_7
  try clear hcz15_8
  try clear hcz15_9
  try clear hcz7_0
  try clear hcz7_1
  try clear hcz7_2
  try clear hcz7_3
  try clear hcz7_4
  try clear hcz7_5
  try clear hcz7_6
  try clear hcz7_7
  try clear hcz7_8
  try clear hcz7_9
  try clear hfz15_0
  try clear hfz15_1
  try clear hfz15_2
  try clear hfz15_3
  try clear hfz15_4
  try clear hfz15_5
  try clear hfz15_6
  try clear hfz15_7
  try clear hfz15_8
  try clear hfz15_9
  try clear hfz7_0
  try clear hfz7_1
  try clear hfz7_2
  try clear hfz7_3
  try clear hfz7_4
  try clear hfz7_5
  try clear hfz7_6
  try clear hfz7_7
  try clear hfz7_8
  try clear hfz7_9
  obtain ⟨kq, x6_2, x146006_2, x146007_2, rfl, HA, HJ2, BK145, BK146, HB⟩ := hcut
  cases kq with
  | zero => exact absurd HA.out (by simp [watch_Watch_Tick.j0])
  | succ kj2 =>
   have H := HA.out
   clear HA
   simp only [watch_Watch_Tick.j0] at H
   by_cases c16 : (wrap64 (2 * (wrap64 (a1 - a0_5)))) > (wrap64 (7 * a0_4))
   ·
    rw [if_pos c16] at H
    have c16b0 : decide ((wrap64 (7 * a0_4)) < (wrap64 (2 * (wrap64 (a1 - a0_5))))) = true := decide_eq_true c16
    clear c16
    simp only [Option.some.injEq, Prod.mk.injEq] at H
    obtain ⟨rfl, rfl, rfl, rfl, rfl, rfl, rfl, rfl, rfl, rfl, rfl⟩ := H
    have hnb17 := NB145_146.out
    have hnc17 := NB146_145.out
    have hcz18_0 : wc.cell? ⟨gb145, 0, none⟩ = some (.int .u8 a0_0) := (blk_cell BK145.out 0).trans rfl
    have hcz18_1 : wc.cell? ⟨gb145, 1, none⟩ = some (.int .u16 a0_1) := (blk_cell BK145.out 1).trans rfl
    have hcz18_2 : wc.cell? ⟨gb145, 2, none⟩ = some (.int .u8 a0_2) := (blk_cell BK145.out 2).trans rfl
    have hcz18_3 : wc.cell? ⟨gb145, 3, none⟩ = some (.string a0_3) := (blk_cell BK145.out 3).trans rfl
    have hcz18_4 : wc.cell? ⟨gb145, 4, none⟩ = some (.int .i64 a0_4) := (blk_cell BK145.out 4).trans rfl
    have hcz18_5 : wc.cell? ⟨gb145, 5, none⟩ = some (.int .i64 a0_5) := (blk_cell BK145.out 5).trans rfl
    have hcz18_6 : wc.cell? ⟨gb145, 6, none⟩ = some (.int .i64 x146006_2) := (blk_cell BK145.out 6).trans rfl
    have hcz18_7 : wc.cell? ⟨gb145, 7, none⟩ = some (.int .u64 x146007_2) := (blk_cell BK145.out 7).trans rfl
    have hcz18_8 : wc.cell? ⟨gb145, 8, none⟩ = some (.bool a0_8) := (blk_cell BK145.out 8).trans rfl
    have hcz18_9 : wc.cell? ⟨gb145, 9, none⟩ = some (.bool a0_9) := (blk_cell BK145.out 9).trans rfl
    have hfz18_0 := blk_frozen BK145.out 0
    have hfz18_1 := blk_frozen BK145.out 1
    have hfz18_2 := blk_frozen BK145.out 2
    have hfz18_3 := blk_frozen BK145.out 3
    have hfz18_4 := blk_frozen BK145.out 4
    have hfz18_5 := blk_frozen BK145.out 5
    have hfz18_6 := blk_frozen BK145.out 6
    have hfz18_7 := blk_frozen BK145.out 7
    have hfz18_8 := blk_frozen BK145.out 8
    have hfz18_9 := blk_frozen BK145.out 9
    have hcz19_0 : wc.cell? ⟨gb146, 0, none⟩ = some (.int .u8 0) := (blk_cell BK146.out 0).trans rfl
    have hcz19_1 : wc.cell? ⟨gb146, 1, none⟩ = some (.int .u16 0) := (blk_cell BK146.out 1).trans rfl
    have hcz19_2 : wc.cell? ⟨gb146, 2, none⟩ = some (.int .u8 0) := (blk_cell BK146.out 2).trans rfl
    have hcz19_3 : wc.cell? ⟨gb146, 3, none⟩ = some (.string (⟨#[]⟩ : ByteArray)) := (blk_cell BK146.out 3).trans rfl
    have hcz19_4 : wc.cell? ⟨gb146, 4, none⟩ = some (.int .i64 0) := (blk_cell BK146.out 4).trans rfl
    have hcz19_5 : wc.cell? ⟨gb146, 5, none⟩ = some (.int .i64 0) := (blk_cell BK146.out 5).trans rfl
    have hcz19_6 : wc.cell? ⟨gb146, 6, none⟩ = some (.int .i64 0) := (blk_cell BK146.out 6).trans rfl
    have hcz19_7 : wc.cell? ⟨gb146, 7, none⟩ = some (.int .u64 0) := (blk_cell BK146.out 7).trans rfl
    have hcz19_8 : wc.cell? ⟨gb146, 8, none⟩ = some (.bool false) := (blk_cell BK146.out 8).trans rfl
    have hcz19_9 : wc.cell? ⟨gb146, 9, none⟩ = some (.bool false) := (blk_cell BK146.out 9).trans rfl
    have hfz19_0 := blk_frozen BK146.out 0
    have hfz19_1 := blk_frozen BK146.out 1
    have hfz19_2 := blk_frozen BK146.out 2
    have hfz19_3 := blk_frozen BK146.out 3
    have hfz19_4 := blk_frozen BK146.out 4
    have hfz19_5 := blk_frozen BK146.out 5
    have hfz19_6 := blk_frozen BK146.out 6
    have hfz19_7 := blk_frozen BK146.out 7
    have hfz19_8 := blk_frozen BK146.out 8
    have hfz19_9 := blk_frozen BK146.out 9
    go_wp2
    refine bodyPost_ret (results_ct rfl _ _ gb146 59 #[.int .u8 a0_0, .int .u16 a0_1, .int .u8 a0_2, .string a0_3, .int .i64 a0_4, .int .i64 a0_5, .int .i64 x146006_2, .int .u64 x146007_2, .bool true, .bool a0_9] (0, 0) _ rfl (by (with_reducible repeat (first | refine blk_drewN ?_ _ | refine blk_drew ?_ | refine blk_alloc ?_ _)); refine blk_put (cs := #[.int .u8 a0_0, .int .u16 a0_1, .int .u8 a0_2, .string a0_3, .int .i64 a0_4, .int .i64 a0_5, .int .i64 x146006_2, .int .u64 x146007_2, .bool true, .bool false]) ?_ 9 _ rfl; (with_reducible repeat (first | refine blk_drewN ?_ _ | refine blk_drew ?_ | refine blk_alloc ?_ _)); refine blk_put (cs := #[.int .u8 a0_0, .int .u16 a0_1, .int .u8 a0_2, .string a0_3, .int .i64 a0_4, .int .i64 a0_5, .int .i64 x146006_2, .int .u64 x146007_2, .bool false, .bool false]) ?_ 8 _ rfl; (with_reducible repeat (first | refine blk_drewN ?_ _ | refine blk_drew ?_ | refine blk_alloc ?_ _)); refine blk_put (cs := #[.int .u8 a0_0, .int .u16 a0_1, .int .u8 a0_2, .string a0_3, .int .i64 a0_4, .int .i64 a0_5, .int .i64 x146006_2, .int .u64 0, .bool false, .bool false]) ?_ 7 _ rfl; (with_reducible repeat (first | refine blk_drewN ?_ _ | refine blk_drew ?_ | refine blk_alloc ?_ _)); refine blk_put (cs := #[.int .u8 a0_0, .int .u16 a0_1, .int .u8 a0_2, .string a0_3, .int .i64 a0_4, .int .i64 a0_5, .int .i64 0, .int .u64 0, .bool false, .bool false]) ?_ 6 _ rfl; (with_reducible repeat (first | refine blk_drewN ?_ _ | refine blk_drew ?_ | refine blk_alloc ?_ _)); refine blk_put (cs := #[.int .u8 a0_0, .int .u16 a0_1, .int .u8 a0_2, .string a0_3, .int .i64 a0_4, .int .i64 0, .int .i64 0, .int .u64 0, .bool false, .bool false]) ?_ 5 _ rfl; (with_reducible repeat (first | refine blk_drewN ?_ _ | refine blk_drew ?_ | refine blk_alloc ?_ _)); refine blk_put (cs := #[.int .u8 a0_0, .int .u16 a0_1, .int .u8 a0_2, .string a0_3, .int .i64 0, .int .i64 0, .int .i64 0, .int .u64 0, .bool false, .bool false]) ?_ 4 _ rfl; (with_reducible repeat (first | refine blk_drewN ?_ _ | refine blk_drew ?_ | refine blk_alloc ?_ _)); refine blk_put (cs := #[.int .u8 a0_0, .int .u16 a0_1, .int .u8 a0_2, .string (⟨#[]⟩ : ByteArray), .int .i64 0, .int .i64 0, .int .i64 0, .int .u64 0, .bool false, .bool false]) ?_ 3 _ rfl; (with_reducible repeat (first | refine blk_drewN ?_ _ | refine blk_drew ?_ | refine blk_alloc ?_ _)); refine blk_put (cs := #[.int .u8 a0_0, .int .u16 a0_1, .int .u8 0, .string (⟨#[]⟩ : ByteArray), .int .i64 0, .int .i64 0, .int .i64 0, .int .u64 0, .bool false, .bool false]) ?_ 2 _ rfl; (with_reducible repeat (first | refine blk_drewN ?_ _ | refine blk_drew ?_ | refine blk_alloc ?_ _)); refine blk_put (cs := #[.int .u8 a0_0, .int .u16 0, .int .u8 0, .string (⟨#[]⟩ : ByteArray), .int .i64 0, .int .i64 0, .int .i64 0, .int .u64 0, .bool false, .bool false]) ?_ 1 _ rfl; (with_reducible repeat (first | refine blk_drewN ?_ _ | refine blk_drew ?_ | refine blk_alloc ?_ _)); refine blk_put (cs := #[.int .u8 0, .int .u16 0, .int .u8 0, .string (⟨#[]⟩ : ByteArray), .int .i64 0, .int .i64 0, .int .i64 0, .int .u64 0, .bool false, .bool false]) ?_ 0 _ rfl; (with_reducible repeat (first | refine blk_drewN ?_ _ | refine blk_drew ?_ | refine blk_alloc ?_ _)); refine blk_far ?_ NB146_145.out _; (with_reducible repeat (first | refine blk_drewN ?_ _ | refine blk_drew ?_ | refine blk_alloc ?_ _)); exact BK146.out) Try.underlying59 rfl (by kernel_rfl)) rfl ?_
    exact ⟨by first | rfl | (simp [errW_none, errW_some] <;> rfl) | (simp [*, errW_none, errW_some] <;> rfl), by repeat (first | (with_reducible first | exact HB.out | apply below_alloc | apply pw_below_drewN | apply below_drew1 | refine below_set ?_ GE145.out | refine below_set ?_ GE146.out) | exact HB.out)⟩
   ·
    rw [if_neg c16] at H
    have c16b0 : decide ((wrap64 (7 * a0_4)) < (wrap64 (2 * (wrap64 (a1 - a0_5))))) = false := decide_eq_false c16
    clear c16
    simp only [Option.some.injEq, Prod.mk.injEq] at H
    obtain ⟨rfl, rfl, rfl, rfl, rfl, rfl, rfl, rfl, rfl, rfl, rfl⟩ := H
    have hnb20 := NB145_146.out
    have hnc20 := NB146_145.out
    have hcz21_0 : wc.cell? ⟨gb145, 0, none⟩ = some (.int .u8 a0_0) := (blk_cell BK145.out 0).trans rfl
    have hcz21_1 : wc.cell? ⟨gb145, 1, none⟩ = some (.int .u16 a0_1) := (blk_cell BK145.out 1).trans rfl
    have hcz21_2 : wc.cell? ⟨gb145, 2, none⟩ = some (.int .u8 a0_2) := (blk_cell BK145.out 2).trans rfl
    have hcz21_3 : wc.cell? ⟨gb145, 3, none⟩ = some (.string a0_3) := (blk_cell BK145.out 3).trans rfl
    have hcz21_4 : wc.cell? ⟨gb145, 4, none⟩ = some (.int .i64 a0_4) := (blk_cell BK145.out 4).trans rfl
    have hcz21_5 : wc.cell? ⟨gb145, 5, none⟩ = some (.int .i64 a0_5) := (blk_cell BK145.out 5).trans rfl
    have hcz21_6 : wc.cell? ⟨gb145, 6, none⟩ = some (.int .i64 x146006_2) := (blk_cell BK145.out 6).trans rfl
    have hcz21_7 : wc.cell? ⟨gb145, 7, none⟩ = some (.int .u64 x146007_2) := (blk_cell BK145.out 7).trans rfl
    have hcz21_8 : wc.cell? ⟨gb145, 8, none⟩ = some (.bool a0_8) := (blk_cell BK145.out 8).trans rfl
    have hcz21_9 : wc.cell? ⟨gb145, 9, none⟩ = some (.bool a0_9) := (blk_cell BK145.out 9).trans rfl
    have hfz21_0 := blk_frozen BK145.out 0
    have hfz21_1 := blk_frozen BK145.out 1
    have hfz21_2 := blk_frozen BK145.out 2
    have hfz21_3 := blk_frozen BK145.out 3
    have hfz21_4 := blk_frozen BK145.out 4
    have hfz21_5 := blk_frozen BK145.out 5
    have hfz21_6 := blk_frozen BK145.out 6
    have hfz21_7 := blk_frozen BK145.out 7
    have hfz21_8 := blk_frozen BK145.out 8
    have hfz21_9 := blk_frozen BK145.out 9
    have hcz22_0 : wc.cell? ⟨gb146, 0, none⟩ = some (.int .u8 0) := (blk_cell BK146.out 0).trans rfl
    have hcz22_1 : wc.cell? ⟨gb146, 1, none⟩ = some (.int .u16 0) := (blk_cell BK146.out 1).trans rfl
    have hcz22_2 : wc.cell? ⟨gb146, 2, none⟩ = some (.int .u8 0) := (blk_cell BK146.out 2).trans rfl
    have hcz22_3 : wc.cell? ⟨gb146, 3, none⟩ = some (.string (⟨#[]⟩ : ByteArray)) := (blk_cell BK146.out 3).trans rfl
    have hcz22_4 : wc.cell? ⟨gb146, 4, none⟩ = some (.int .i64 0) := (blk_cell BK146.out 4).trans rfl
    have hcz22_5 : wc.cell? ⟨gb146, 5, none⟩ = some (.int .i64 0) := (blk_cell BK146.out 5).trans rfl
    have hcz22_6 : wc.cell? ⟨gb146, 6, none⟩ = some (.int .i64 0) := (blk_cell BK146.out 6).trans rfl
    have hcz22_7 : wc.cell? ⟨gb146, 7, none⟩ = some (.int .u64 0) := (blk_cell BK146.out 7).trans rfl
    have hcz22_8 : wc.cell? ⟨gb146, 8, none⟩ = some (.bool false) := (blk_cell BK146.out 8).trans rfl
    have hcz22_9 : wc.cell? ⟨gb146, 9, none⟩ = some (.bool false) := (blk_cell BK146.out 9).trans rfl
    have hfz22_0 := blk_frozen BK146.out 0
    have hfz22_1 := blk_frozen BK146.out 1
    have hfz22_2 := blk_frozen BK146.out 2
    have hfz22_3 := blk_frozen BK146.out 3
    have hfz22_4 := blk_frozen BK146.out 4
    have hfz22_5 := blk_frozen BK146.out 5
    have hfz22_6 := blk_frozen BK146.out 6
    have hfz22_7 := blk_frozen BK146.out 7
    have hfz22_8 := blk_frozen BK146.out 8
    have hfz22_9 := blk_frozen BK146.out 9
    go_wp2
    refine bodyPost_ret (results_ct rfl _ _ gb146 59 #[.int .u8 a0_0, .int .u16 a0_1, .int .u8 a0_2, .string a0_3, .int .i64 a0_4, .int .i64 a0_5, .int .i64 x146006_2, .int .u64 x146007_2, .bool a0_8, .bool a0_9] (0, 0) _ rfl (by (with_reducible repeat (first | refine blk_drewN ?_ _ | refine blk_drew ?_ | refine blk_alloc ?_ _)); refine blk_put (cs := #[.int .u8 a0_0, .int .u16 a0_1, .int .u8 a0_2, .string a0_3, .int .i64 a0_4, .int .i64 a0_5, .int .i64 x146006_2, .int .u64 x146007_2, .bool a0_8, .bool false]) ?_ 9 _ rfl; (with_reducible repeat (first | refine blk_drewN ?_ _ | refine blk_drew ?_ | refine blk_alloc ?_ _)); refine blk_put (cs := #[.int .u8 a0_0, .int .u16 a0_1, .int .u8 a0_2, .string a0_3, .int .i64 a0_4, .int .i64 a0_5, .int .i64 x146006_2, .int .u64 x146007_2, .bool false, .bool false]) ?_ 8 _ rfl; (with_reducible repeat (first | refine blk_drewN ?_ _ | refine blk_drew ?_ | refine blk_alloc ?_ _)); refine blk_put (cs := #[.int .u8 a0_0, .int .u16 a0_1, .int .u8 a0_2, .string a0_3, .int .i64 a0_4, .int .i64 a0_5, .int .i64 x146006_2, .int .u64 0, .bool false, .bool false]) ?_ 7 _ rfl; (with_reducible repeat (first | refine blk_drewN ?_ _ | refine blk_drew ?_ | refine blk_alloc ?_ _)); refine blk_put (cs := #[.int .u8 a0_0, .int .u16 a0_1, .int .u8 a0_2, .string a0_3, .int .i64 a0_4, .int .i64 a0_5, .int .i64 0, .int .u64 0, .bool false, .bool false]) ?_ 6 _ rfl; (with_reducible repeat (first | refine blk_drewN ?_ _ | refine blk_drew ?_ | refine blk_alloc ?_ _)); refine blk_put (cs := #[.int .u8 a0_0, .int .u16 a0_1, .int .u8 a0_2, .string a0_3, .int .i64 a0_4, .int .i64 0, .int .i64 0, .int .u64 0, .bool false, .bool false]) ?_ 5 _ rfl; (with_reducible repeat (first | refine blk_drewN ?_ _ | refine blk_drew ?_ | refine blk_alloc ?_ _)); refine blk_put (cs := #[.int .u8 a0_0, .int .u16 a0_1, .int .u8 a0_2, .string a0_3, .int .i64 0, .int .i64 0, .int .i64 0, .int .u64 0, .bool false, .bool false]) ?_ 4 _ rfl; (with_reducible repeat (first | refine blk_drewN ?_ _ | refine blk_drew ?_ | refine blk_alloc ?_ _)); refine blk_put (cs := #[.int .u8 a0_0, .int .u16 a0_1, .int .u8 a0_2, .string (⟨#[]⟩ : ByteArray), .int .i64 0, .int .i64 0, .int .i64 0, .int .u64 0, .bool false, .bool false]) ?_ 3 _ rfl; (with_reducible repeat (first | refine blk_drewN ?_ _ | refine blk_drew ?_ | refine blk_alloc ?_ _)); refine blk_put (cs := #[.int .u8 a0_0, .int .u16 a0_1, .int .u8 0, .string (⟨#[]⟩ : ByteArray), .int .i64 0, .int .i64 0, .int .i64 0, .int .u64 0, .bool false, .bool false]) ?_ 2 _ rfl; (with_reducible repeat (first | refine blk_drewN ?_ _ | refine blk_drew ?_ | refine blk_alloc ?_ _)); refine blk_put (cs := #[.int .u8 a0_0, .int .u16 0, .int .u8 0, .string (⟨#[]⟩ : ByteArray), .int .i64 0, .int .i64 0, .int .i64 0, .int .u64 0, .bool false, .bool false]) ?_ 1 _ rfl; (with_reducible repeat (first | refine blk_drewN ?_ _ | refine blk_drew ?_ | refine blk_alloc ?_ _)); refine blk_put (cs := #[.int .u8 0, .int .u16 0, .int .u8 0, .string (⟨#[]⟩ : ByteArray), .int .i64 0, .int .i64 0, .int .i64 0, .int .u64 0, .bool false, .bool false]) ?_ 0 _ rfl; (with_reducible repeat (first | refine blk_drewN ?_ _ | refine blk_drew ?_ | refine blk_alloc ?_ _)); exact BK146.out) Try.underlying59 rfl (by kernel_rfl)) rfl ?_
    exact ⟨by first | rfl | (simp [errW_none, errW_some] <;> rfl) | (simp [*, errW_none, errW_some] <;> rfl), by repeat (first | (with_reducible first | exact HB.out | apply below_alloc | apply pw_below_drewN | apply below_drew1 | refine below_set ?_ GE145.out | refine below_set ?_ GE146.out) | exact HB.out)⟩

end Go.Proofs.Ytmdaaphjndjakag.PWatchLoses
