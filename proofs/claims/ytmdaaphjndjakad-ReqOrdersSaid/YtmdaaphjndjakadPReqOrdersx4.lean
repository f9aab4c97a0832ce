-- Written by a program of this work, after the translation.
import Derived.Test.YtmdaaphjndjakadPReqOrdersx0
import Derived.Test.YtmdaaphjndjakadPReqOrdersx1
import Derived.Test.YtmdaaphjndjakadPReqOrdersx2
import Derived.Test.YtmdaaphjndjakadPReqOrdersx3
namespace Go.Proofs.Ytmdaaphjndjakad.PReqOrders
open Go.RowKit Go.Proofs.YtmdaaphjndjakadW.PrintWords Go.Proofs.YtmdaaphjndjakadW.PrintLast Go.Proofs.YtmdaaphjndjakadW.PrintMore
attribute [local go_sem] max2_int min2_int max_two min_two max_three min_three max_four min_four   -- for this text's walks alone
set_option linter.unusedVariables false
set_option linter.unusedSimpArgs false

/-! ### carousellaw04_Awake: function 44 -/
def carousellaw04_Awake.f  : Option (Bool) := (oam_Close.f 7 1 40 0 0 (⟨#[]⟩ : ByteArray)).bind fun bt162 => ((carousellaw01_Awake.f).bind fun t164 => (if t164 = true then (if bt162.2 = 0 then (some (bt162.1.toList == ([225, 40, 0, 0, 0] : List UInt8))) else (some false)) else (some false)))
set_option maxHeartbeats 8000000 in
set_option maxRecDepth 100000 in
theorem carousellaw04_Awake.calls  (r : Bool) (w : World) (h : carousellaw04_Awake.f  = some r) :
  Calls Try.prog 44 #[] w fun e w' => e = .returned (.bool r) ∧ Below w.heap.size w w' := by
 have hT : r = true := by
  have h1_ : carousellaw04_Awake.f = some true := by decide +kernel
  rw [h1_] at h
  exact (Option.some.inj h).symm
 have hu86 := Try.underlying86
 have HB := Aside0.mk (Below.refl w.heap.size w)
 have H : ((oam_Close.f 7 1 40 0 0 (⟨#[]⟩ : ByteArray)).bind fun bt162 => ((carousellaw01_Awake.f).bind fun t164 => (if t164 = true then (if bt162.2 = 0 then (some (bt162.1.toList == ([225, 40, 0, 0, 0] : List UInt8))) else (some false)) else (some false)))) = some r := h
 clear h
 replace H := Option.bind_eq_some_iff.mp H
 obtain ⟨⟨t162, t163⟩, A10, H⟩ := H
 try dsimp only at H
 have A1 := Aside0.mk A10
 clear A10
 replace H := Option.bind_eq_some_iff.mp H
 obtain ⟨t164, A20, H⟩ := H
 try dsimp only at H
 have A2 := Aside0.mk A20
 clear A20
 by_cases c3 : t164 = true
 ·
  subst c3
  have H1 : (if t163 = 0 then (some (t162.toList == ([225, 40, 0, 0, 0] : List UInt8))) else (some false)) = some r := by rw [if_pos rfl] at H; exact H
  clear H
  have H := H1
  clear H1
  by_cases c4 : t163 = 0
  ·
   rw [if_pos c4] at H
   have c4b0 : (t163 == 0) = true := beq_iff_eq.mpr c4
   have c4b1 : (t163 != 0) = false := bne_eq_false_iff_eq.mpr c4
   clear c4
   obtain rfl := Option.some.inj H
   go_enter Try.func44, Try.ntmps44
   go_wp2_with (first | ((with_reducible refine gate_callee (f := 41) rfl ?_); refine goesL_ (some 5) rfl rfl Try.func41 (by kernel_rfl) rfl #[.agg #[.int .u8 7, .int .u8 1, .int .u8 40, .int .u8 0, .int .u8 0], .string (⟨#[]⟩ : ByteArray)] rfl (by (try simp only [List.map_toArray, List.map_cons, List.map_nil]); first | done | rfl | (simp only [List.length_drop, List.length_take]; rfl)) ?_; (with_reducible refine (oam_Close.calls 7 1 40 0 0 (⟨#[]⟩ : ByteArray) t162 t163 _ A1.out).mono ?_); rintro e w5 ⟨rfl, hb⟩; refine ⟨_, rfl, ?_⟩; have n0_ := Aside0.mk (below_step (by repeat (first | (with_reducible first | exact HB.out | apply below_alloc | apply pw_below_drewN | apply below_drew1) | exact HB.out)) hb); clear HB; have HB := n0_; clear n0_; (try clear hb); (try clear hb2); (try clear hk); (try clear hi)) | ((with_reducible refine gate_callee (f := 33) rfl ?_); refine goesL_ (some 8) rfl rfl Try.func33 (by kernel_rfl) rfl #[] rfl (by (try simp only [List.map_toArray, List.map_cons, List.map_nil]); first | done | rfl | (simp only [List.length_drop, List.length_take]; rfl)) ?_; (with_reducible refine (carousellaw01_Awake.calls  true _ A2.out).mono ?_); rintro e w6 ⟨rfl, hb⟩; refine ⟨_, rfl, ?_⟩; have n0_ := Aside0.mk (below_step (by repeat (first | (with_reducible first | exact HB.out | apply below_alloc | apply pw_below_drewN | apply below_drew1) | exact HB.out)) hb); clear HB; have HB := n0_; clear n0_; (try clear hb); (try clear hb2); (try clear hk); (try clear hi)))
   go_ret
   exact ⟨by first | rfl | (simp [errW_none, errW_some] <;> rfl) | (simp [*, errW_none, errW_some] <;> rfl), by repeat (first | (with_reducible first | exact HB.out | apply below_alloc | apply pw_below_drewN | apply below_drew1) | exact HB.out)⟩
  ·
   rw [if_neg c4] at H
   have c4b0 : (t163 == 0) = false := beq_eq_false_iff_ne.mpr c4
   have c4b1 : (t163 != 0) = true := bne_iff_ne.mpr c4
   cases (Option.some.inj H).trans hT
 ·
  replace c3 := Bool.eq_false_iff.mpr c3
  subst c3
  have H1 : (some false) = some r := by rw [if_neg (show ¬ (false = true) by decide)] at H; exact H
  clear H
  have H := H1
  clear H1
  cases (Option.some.inj H).trans hT

/-! ### carousellaw05_Awake: function 17 -/
def carousellaw05_Awake.f (k : Nat)  : Option (Bool) := (raps_Close.f k 0 true false false 2 7).bind fun bt165 => ((carousellaw02_Awake.f k).bind fun t167 => (if t167 = true then ((carousellaw04_Awake.f).bind fun t168 => (if t168 = true then (if bt165.2 = 0 then (if (bt165.1.size : Int) = 37 then (if 0 ≤ 12 then (if 12 ≤ (bt165.1.size : Int) then (some ((bt165.1.extract 0 12).toList == ([225, 40, 0, 32, 0, 128, 0, 0, 0, 0, 0, 2] : List UInt8))) else (none)) else (none)) else (some false)) else (some false)) else (some false))) else (some false)))
theorem carousellaw05_Awake.mono : ∀ k, LeO (carousellaw05_Awake.f k ) (carousellaw05_Awake.f (k + 1) ) := by
 intro  k
 unfold carousellaw05_Awake.f
 repeat' first
   | (with_reducible exact carousellaw02_Awake.mono _)
   | (with_reducible exact raps_Close.mono _ _ _ _ _ _ _)
   | (with_reducible exact LeO.refl _)
   | (with_reducible exact LeO.none _)
   | (with_reducible refine LeO.ite ?_ ?_)
   | (with_reducible refine LeO.bind ?_ (fun _ => ?_))
   | exact carousellaw02_Awake.mono _
   | exact raps_Close.mono _ _ _ _ _ _ _
   | exact LeO.none _
   | refine LeO.ite ?_ ?_
   | refine LeO.bind ?_ (fun _ => ?_)
set_option maxHeartbeats 8000000 in
set_option maxRecDepth 100000 in
theorem carousellaw05_Awake.calls (k : Nat)  (r : Bool) (w : World) (h : carousellaw05_Awake.f k  = some r) :
  Calls Try.prog 17 #[] w fun e w' => e = .returned (.bool r) ∧ Below w.heap.size w w' := by
 have hT : r = true := by
  obtain ⟨K_, hK_⟩ := (Ev.of carousellaw05_Awake.mono (k := 60) (by decide +kernel) : Ev (fun k => carousellaw05_Awake.f k) true)
  have h1_ := at_rounds carousellaw05_Awake.mono (Nat.le_max_left k K_) h
  exact (Option.some.inj ((hK_ _ (Nat.le_max_right k K_)).symm.trans h1_)).symm
 have hu34 := Try.underlying34
 have HB := Aside0.mk (Below.refl w.heap.size w)
 have H : ((raps_Close.f k 0 true false false 2 7).bind fun bt165 => ((carousellaw02_Awake.f k).bind fun t167 => (if t167 = true then ((carousellaw04_Awake.f).bind fun t168 => (if t168 = true then (if bt165.2 = 0 then (if (bt165.1.size : Int) = 37 then (if 0 ≤ 12 then (if 12 ≤ (bt165.1.size : Int) then (some ((bt165.1.extract 0 12).toList == ([225, 40, 0, 32, 0, 128, 0, 0, 0, 0, 0, 2] : List UInt8))) else (none)) else (none)) else (some false)) else (some false)) else (some false))) else (some false)))) = some r := h
 clear h
 replace H := Option.bind_eq_some_iff.mp H
 obtain ⟨⟨t165, t166⟩, A10, H⟩ := H
 try dsimp only at H
 have A1 := Aside0.mk A10
 clear A10
 replace H := Option.bind_eq_some_iff.mp H
 obtain ⟨t167, A20, H⟩ := H
 try dsimp only at H
 have A2 := Aside0.mk A20
 clear A20
 by_cases c3 : t167 = true
 ·
  subst c3
  have H1 : ((carousellaw04_Awake.f).bind fun t168 => (if t168 = true then (if t166 = 0 then (if (t165.size : Int) = 37 then (if 0 ≤ 12 then (if 12 ≤ (t165.size : Int) then (some ((t165.extract 0 12).toList == ([225, 40, 0, 32, 0, 128, 0, 0, 0, 0, 0, 2] : List UInt8))) else (none)) else (none)) else (some false)) else (some false)) else (some false))) = some r := by rw [if_pos rfl] at H; exact H
  clear H
  have H := H1
  clear H1
  replace H := Option.bind_eq_some_iff.mp H
  obtain ⟨t168, A40, H⟩ := H
  try dsimp only at H
  have A4 := Aside0.mk A40
  clear A40
  by_cases c5 : t168 = true
  ·
   subst c5
   have H1 : (if t166 = 0 then (if (t165.size : Int) = 37 then (if 0 ≤ 12 then (if 12 ≤ (t165.size : Int) then (some ((t165.extract 0 12).toList == ([225, 40, 0, 32, 0, 128, 0, 0, 0, 0, 0, 2] : List UInt8))) else (none)) else (none)) else (some false)) else (some false)) = some r := by rw [if_pos rfl] at H; exact H
   clear H
   have H := H1
   clear H1
   by_cases c6 : t166 = 0
   ·
    rw [if_pos c6] at H
    have c6b0 : (t166 == 0) = true := beq_iff_eq.mpr c6
    have c6b1 : (t166 != 0) = false := bne_eq_false_iff_eq.mpr c6
    clear c6
    by_cases c7 : (t165.size : Int) = 37
    ·
     rw [if_pos c7] at H
     have c7b0 : ((t165.size : Int) == 37) = true := beq_iff_eq.mpr c7
     have c7b1 : ((t165.size : Int) != 37) = false := bne_eq_false_iff_eq.mpr c7
     clear c7
     by_cases c8 : 0 ≤ 12
     ·
      rw [if_pos c8] at H
      have c8b0 := eq_true c8
      have c8b1 : decide (0 ≤ 12) = true := decide_eq_true c8
      clear c8
      by_cases c9 : 12 ≤ (t165.size : Int)
      ·
       rw [if_pos c9] at H
       have c9b0 := eq_true c9
       have c9b1 : decide (12 ≤ (t165.size : Int)) = true := decide_eq_true c9
       clear c9
       obtain rfl := Option.some.inj H
       go_enter Try.func17, Try.ntmps17
       go_wp2_with (first | ((with_reducible refine gate_callee (f := 14) rfl ?_); refine goesL_ (some 5) rfl rfl Try.func14 (by kernel_rfl) rfl #[.agg #[.int .u8 0, .bool true, .bool false, .bool false, .int .u64 2], .int .u8 7] rfl (by (try simp only [List.map_toArray, List.map_cons, List.map_nil]); first | done | rfl | (simp only [List.length_drop, List.length_take]; rfl)) ?_; (with_reducible refine (raps_Close.calls k 0 true false false 2 7 t165 t166 _ A1.out).mono ?_); rintro e w10 ⟨rfl, hb⟩; refine ⟨_, rfl, ?_⟩; have n0_ := Aside0.mk (below_step (by repeat (first | (with_reducible first | exact HB.out | apply below_alloc | apply pw_below_drewN | apply below_drew1) | exact HB.out)) hb); clear HB; have HB := n0_; clear n0_; (try clear hb); (try clear hb2); (try clear hk); (try clear hi)) | ((with_reducible refine gate_callee (f := 9) rfl ?_); refine goesL_ (some 8) rfl rfl Try.func9 (by kernel_rfl) rfl #[] rfl (by (try simp only [List.map_toArray, List.map_cons, List.map_nil]); first | done | rfl | (simp only [List.length_drop, List.length_take]; rfl)) ?_; (with_reducible refine (carousellaw02_Awake.calls k  true _ A2.out).mono ?_); rintro e w11 ⟨rfl, hb⟩; refine ⟨_, rfl, ?_⟩; have n0_ := Aside0.mk (below_step (by repeat (first | (with_reducible first | exact HB.out | apply below_alloc | apply pw_below_drewN | apply below_drew1) | exact HB.out)) hb); clear HB; have HB := n0_; clear n0_; (try clear hb); (try clear hb2); (try clear hk); (try clear hi)) | (go_at_call 44; (with_reducible refine (carousellaw04_Awake.calls  true _ A4.out).mono ?_); rintro e w12 ⟨rfl, hb⟩; have n0_ := Aside0.mk (below_step (by repeat (first | (with_reducible first | exact HB.out | apply below_alloc | apply pw_below_drewN | apply below_drew1) | exact HB.out)) hb); clear HB; have HB := n0_; clear n0_; (try clear hb); (try clear hb2); (try clear hk); (try clear hi)))
       go_ret
       exact ⟨by first | rfl | (simp [errW_none, errW_some] <;> rfl) | (simp [*, errW_none, errW_some] <;> rfl), by repeat (first | (with_reducible first | exact HB.out | apply below_alloc | apply pw_below_drewN | apply below_drew1) | exact HB.out)⟩
      ·
       rw [if_neg c9] at H
       exact absurd H (by simp)
     ·
      rw [if_neg c8] at H
      exact absurd H (by simp)
    ·
     rw [if_neg c7] at H
     have c7b0 : ((t165.size : Int) == 37) = false := beq_eq_false_iff_ne.mpr c7
     have c7b1 : ((t165.size : Int) != 37) = true := bne_iff_ne.mpr c7
     cases (Option.some.inj H).trans hT
   ·
    rw [if_neg c6] at H
    have c6b0 : (t166 == 0) = false := beq_eq_false_iff_ne.mpr c6
    have c6b1 : (t166 != 0) = true := bne_iff_ne.mpr c6
    cases (Option.some.inj H).trans hT
  ·
   replace c5 := Bool.eq_false_iff.mpr c5
   subst c5
   have H1 : (some false) = some r := by rw [if_neg (show ¬ (false = true) by decide)] at H; exact H
   clear H
   have H := H1
   clear H1
   cases (Option.some.inj H).trans hT
 ·
  replace c3 := Bool.eq_false_iff.mpr c3
  subst c3
  have H1 : (some false) = some r := by rw [if_neg (show ¬ (false = true) by decide)] at H; exact H
  clear H
  have H := H1
  clear H1
  cases (Option.some.inj H).trans hT

/-! ### req_Best: function 24 -/
def req_Best.l0 : Nat → Int → List Int → Int → Int → Option (Int)
  | 0, _, _, _, _ => none
  | k + 1, x3, x6, x7, x8 => if x8 < x7 then (if 0 ≤ x8 then (if x8 < (x6.length : Int) then ((req_Kind_Above.f (rd x6 x8) x3).bind fun t170 => (if t170 = true then (req_Best.l0 k (rd x6 x8) x6 x7 (wrap64 (x8 + 1))) else (req_Best.l0 k x3 x6 x7 (wrap64 (x8 + 1))))) else (none)) else (none)) else (some x3)
def req_Best.f (k : Nat) (l0 : List Int) : Option (Int) := req_Best.l0 k 14 l0 (l0.length : Int) 0
theorem req_Best.mono_l : ∀ k, (∀ y0 y1 y2 y3, LeO (req_Best.l0 k y0 y1 y2 y3) (req_Best.l0 (k + 1) y0 y1 y2 y3))
 | 0 => fun _ _ _ _ r h => by simp [req_Best.l0] at h
 | k + 1 => by
  have ih0 := req_Best.mono_l k
  ·
   intro y0 y1 y2 y3
   unfold req_Best.l0
   repeat' first
   | (with_reducible exact ih0 _ _ _ _)
   | (with_reducible exact LeO.refl _)
   | (with_reducible exact LeO.none _)
   | (with_reducible refine LeO.ite ?_ ?_)
   | (with_reducible refine LeO.bind ?_ (fun _ => ?_))
   | exact ih0 _ _ _ _
   | exact LeO.none _
   | refine LeO.ite ?_ ?_
   | refine LeO.bind ?_ (fun _ => ?_)
theorem req_Best.mono : ∀ a0 k, LeO (req_Best.f k a0) (req_Best.f (k + 1) a0) := by
 intro a0 k
 have ih0 := req_Best.mono_l k
 unfold req_Best.f
 repeat' first
   | (with_reducible exact ih0 _ _ _ _)
   | (with_reducible exact LeO.refl _)
   | (with_reducible exact LeO.none _)
   | (with_reducible refine LeO.ite ?_ ?_)
   | (with_reducible refine LeO.bind ?_ (fun _ => ?_))
   | exact ih0 _ _ _ _
   | exact LeO.none _
   | refine LeO.ite ?_ ?_
   | refine LeO.bind ?_ (fun _ => ?_)
set_option maxHeartbeats 8000000 in
set_option maxRecDepth 100000 in
theorem req_Best.calls (k : Nat) (A0 : Option Addr) (c0 : Nat) (l0 : List Int) (r : Int) (w : World) (hr0 : Kd.C (Kd.int .i64) w A0 l0.length l0) (hc0 : l0.length ≤ c0) (h : req_Best.f k l0 = some r) :
  Calls Try.prog 24 #[.slice A0 l0.length c0] w fun e w' => e = .returned (.int .i64 r) ∧ Drawn0 w w' := by
 have HR0 := Aside0.mk hr0
 have HC0 := Aside0.mk hc0
 clear hr0 hc0
 have H : (req_Best.l0 k 14 l0 (l0.length : Int) 0) = some r := h
 clear h
 have H' := Aside0.mk H
 clear H
 go_enter Try.func24, Try.ntmps24
 go_wp2
 go_loopg [3, 8] k (fun kq v3 v8 w' => ∃ (x3_1 : Int) (x8_1 : Int), v3 = .int .i64 x3_1 ∧ v8 = .int .i64 x8_1 ∧ Aside0 (req_Best.l0 kq x3_1 l0 (l0.length : Int) x8_1 = some r) ∧ Aside0 (kq ≤ k) ∧ Drawn0 w w')
 case atStart => exact ⟨(14), (0), (by first | rfl | (simp; done) | (simp [*]; done)), (by first | rfl | (simp; done) | (simp [*]; done)), H', ⟨Nat.le_refl _⟩, by repeat (first | exact Drawn0.refl _ | apply Drawn0.step)⟩
 case round =>
  clear H'
  obtain ⟨x3_1, x8_1, rfl, rfl, HA, HK1, ⟨m1, rfl⟩⟩ := hrel
  cases gk with
  | zero => exact absurd HA.out (by simp [req_Best.l0])
  | succ k1 =>
   have H := HA.out
   clear HA
   simp only [req_Best.l0] at H
   by_cases c2 : x8_1 < (l0.length : Int)
   ·
    rw [if_pos c2] at H
    have c2b0 : decide (x8_1 < (l0.length : Int)) = true := decide_eq_true c2
    clear c2
    by_cases c3 : 0 ≤ x8_1
    ·
     rw [if_pos c3] at H
     have c3b0 : decide (0 ≤ x8_1) = true := decide_eq_true c3
     clear c3
     by_cases c4 : x8_1 < (l0.length : Int)
     ·
      rw [if_pos c4] at H
      have c4b0 : decide (x8_1 < (l0.length : Int)) = true := decide_eq_true c4
      clear c4
      replace H := Option.bind_eq_some_iff.mp H
      obtain ⟨t170, A50, H⟩ := H
      try dsimp only at H
      have A5 := Aside0.mk A50
      clear A50
      by_cases c6 : t170 = true
      ·
       subst c6
       have H1 : (req_Best.l0 k1 (rd l0 x8_1) l0 (l0.length : Int) (wrap64 (x8_1 + 1))) = some r := by rw [if_pos rfl] at H; exact H
       clear H
       have H := H1
       clear H1
       have H' := Aside0.mk H
       clear H
       have p169 : 0 ≤ (x8_1 : Int) := of_decide_eq_true (by first | (with_reducible assumption) | assumption)
       have q169 : x8_1 < (l0.length : Int) := of_decide_eq_true (by first | (with_reducible assumption) | assumption)
       obtain ⟨ad169, e169, hx169_0⟩ := Kd.at_int HR0.out x8_1 p169 q169
       cases e169
       replace p169 := eq_true p169
       replace q169 := eq_true q169
       go_wp2_with (first | ((with_reducible refine gate_callee (f := 22) rfl ?_); refine goesL_ (some 14) rfl rfl Try.func22 (by kernel_rfl) rfl #[.int .i64 (rd l0 x8_1), .int .i64 x3_1] rfl (by (try simp only [List.map_toArray, List.map_cons, List.map_nil]); first | done | rfl | (simp only [List.length_drop, List.length_take]; rfl)) ?_; (with_reducible refine (req_Kind_Above.calls (rd l0 x8_1) x3_1 true _ A5.out).mono ?_); rintro e w' ⟨rfl, ⟨nd, rfl⟩⟩; refine ⟨_, rfl, ?_⟩))
       go_roundg k1
       case measure => have := HK1.out; omega
       case rel => exact ⟨(rd l0 x8_1), (wrap64 (x8_1 + 1)), (by first | rfl | (simp; done) | (simp [*]; done)), (by first | rfl | (simp; done) | (simp [*]; done)), H', ⟨by have := HK1.out; omega⟩, by repeat (first | exact Drawn0.refl _ | apply Drawn0.step)⟩
      ·
       replace c6 := Bool.eq_false_iff.mpr c6
       subst c6
       have H1 : (req_Best.l0 k1 x3_1 l0 (l0.length : Int) (wrap64 (x8_1 + 1))) = some r := by rw [if_neg (show ¬ (false = true) by decide)] at H; exact H
       clear H
       have H := H1
       clear H1
       have H' := Aside0.mk H
       clear H
       have p169 : 0 ≤ (x8_1 : Int) := of_decide_eq_true (by first | (with_reducible assumption) | assumption)
       have q169 : x8_1 < (l0.length : Int) := of_decide_eq_true (by first | (with_reducible assumption) | assumption)
       obtain ⟨ad169, e169, hx169_0⟩ := Kd.at_int HR0.out x8_1 p169 q169
       cases e169
       replace p169 := eq_true p169
       replace q169 := eq_true q169
       go_wp2_with (first | ((with_reducible refine gate_callee (f := 22) rfl ?_); refine goesL_ (some 14) rfl rfl Try.func22 (by kernel_rfl) rfl #[.int .i64 (rd l0 x8_1), .int .i64 x3_1] rfl (by (try simp only [List.map_toArray, List.map_cons, List.map_nil]); first | done | rfl | (simp only [List.length_drop, List.length_take]; rfl)) ?_; (with_reducible refine (req_Kind_Above.calls (rd l0 x8_1) x3_1 false _ A5.out).mono ?_); rintro e w' ⟨rfl, ⟨nd, rfl⟩⟩; refine ⟨_, rfl, ?_⟩))
       go_roundg k1
       case measure => have := HK1.out; omega
       case rel => exact ⟨(x3_1), (wrap64 (x8_1 + 1)), (by first | rfl | (simp; done) | (simp [*]; done)), (by first | rfl | (simp; done) | (simp [*]; done)), H', ⟨by have := HK1.out; omega⟩, by repeat (first | exact Drawn0.refl _ | apply Drawn0.step)⟩
     ·
      rw [if_neg c4] at H
      exact absurd H (by simp)
    ·
     rw [if_neg c3] at H
     exact absurd H (by simp)
   ·
    rw [if_neg c2] at H
    have c2b0 : decide (x8_1 < (l0.length : Int)) = false := decide_eq_false c2
    clear c2
    obtain rfl := Option.some.inj H
    go_wp2
    go_ret
    exact ⟨by first | rfl | (simp; done) | (simp [*]; done), by repeat (first | exact Drawn0.refl _ | apply Drawn0.step)⟩

/-! ### req_Kind_String: function 47 (given: its walk is in another text) -/

def req_Kind_String.word (n : Int) : ByteArray :=
  if n = 0 then (⟨#[99, 108, 101, 97, 114]⟩ : ByteArray) else
  if n = 1 then (⟨#[102, 115]⟩ : ByteArray) else
  if n = 2 then (⟨#[114, 101, 109, 111, 116, 101, 45, 102, 115]⟩ : ByteArray) else
  if n = 3 then (⟨#[115, 102]⟩ : ByteArray) else
  if n = 4 then (⟨#[99, 108, 101, 97, 114, 45, 115, 102]⟩ : ByteArray) else
  if n = 5 then (⟨#[114, 101, 109, 111, 116, 101, 45, 115, 102]⟩ : ByteArray) else
  if n = 6 then (⟨#[114, 101, 109, 111, 116, 101, 45, 109, 115]⟩ : ByteArray) else
  if n = 7 then (⟨#[109, 115]⟩ : ByteArray) else
  if n = 8 then (⟨#[114, 101, 115, 116, 45, 111, 118, 101, 114]⟩ : ByteArray) else
  if n = 9 then (⟨#[114, 101, 115, 116, 45, 114, 117, 110, 115]⟩ : ByteArray) else
  if n = 10 then (⟨#[98, 108, 111, 99, 107, 45, 111, 118, 101, 114]⟩ : ByteArray) else
  if n = 11 then (⟨#[98, 108, 111, 99, 107, 45, 114, 117, 110, 115]⟩ : ByteArray) else
  if n = 12 then (⟨#[114, 101, 109, 111, 116, 101, 45, 105, 100, 108, 101]⟩ : ByteArray) else
  if n = 13 then (⟨#[114, 101, 109, 111, 116, 101, 45, 110, 111, 110, 101]⟩ : ByteArray) else
  (⟨#[110, 111, 110, 101]⟩ : ByteArray)
def req_Kind_String.f (a0 : Int) : Option (ByteArray) := some (req_Kind_String.word a0)
def req_Kind_String.arr : Array Value := #[.string (⟨#[99, 108, 101, 97, 114]⟩ : ByteArray), .string (⟨#[102, 115]⟩ : ByteArray), .string (⟨#[114, 101, 109, 111, 116, 101, 45, 102, 115]⟩ : ByteArray), .string (⟨#[115, 102]⟩ : ByteArray), .string (⟨#[99, 108, 101, 97, 114, 45, 115, 102]⟩ : ByteArray), .string (⟨#[114, 101, 109, 111, 116, 101, 45, 115, 102]⟩ : ByteArray), .string (⟨#[114, 101, 109, 111, 116, 101, 45, 109, 115]⟩ : ByteArray), .string (⟨#[109, 115]⟩ : ByteArray), .string (⟨#[114, 101, 115, 116, 45, 111, 118, 101, 114]⟩ : ByteArray), .string (⟨#[114, 101, 115, 116, 45, 114, 117, 110, 115]⟩ : ByteArray), .string (⟨#[98, 108, 111, 99, 107, 45, 111, 118, 101, 114]⟩ : ByteArray), .string (⟨#[98, 108, 111, 99, 107, 45, 114, 117, 110, 115]⟩ : ByteArray), .string (⟨#[114, 101, 109, 111, 116, 101, 45, 105, 100, 108, 101]⟩ : ByteArray), .string (⟨#[114, 101, 109, 111, 116, 101, 45, 110, 111, 110, 101]⟩ : ByteArray)]
set_option maxHeartbeats 4000000 in
set_option maxRecDepth 100000 in
theorem req_Kind_String.c0 (w : World) : Calls Try.prog 47 #[.int .i64 0] w fun e w' => e = .returned (.string (⟨#[99, 108, 101, 97, 114]⟩ : ByteArray)) ∧ Below w.heap.size w w' := by
 have huA := Try.underlying104
 go_enter Try.func47, Try.ntmps47
 go_wp2_with (go_at_call 46; refine (req_Kind_May.calls 0 true _ rfl).mono ?_; rintro e' w1 ⟨rfl, hw⟩; have hBW := ((Below.refl w.heap.size w).alloc (Nat.le_refl _) _).trans (hw.below.mono (by simp)); obtain ⟨⟨n, rfl⟩⟩ := hw; have hB := blk_drewN (blk_new w (.cells #[.string (⟨#[99, 108, 101, 97, 114]⟩ : ByteArray), .string (⟨#[102, 115]⟩ : ByteArray), .string (⟨#[114, 101, 109, 111, 116, 101, 45, 102, 115]⟩ : ByteArray), .string (⟨#[115, 102]⟩ : ByteArray), .string (⟨#[99, 108, 101, 97, 114, 45, 115, 102]⟩ : ByteArray), .string (⟨#[114, 101, 109, 111, 116, 101, 45, 115, 102]⟩ : ByteArray), .string (⟨#[114, 101, 109, 111, 116, 101, 45, 109, 115]⟩ : ByteArray), .string (⟨#[109, 115]⟩ : ByteArray), .string (⟨#[114, 101, 115, 116, 45, 111, 118, 101, 114]⟩ : ByteArray), .string (⟨#[114, 101, 115, 116, 45, 114, 117, 110, 115]⟩ : ByteArray), .string (⟨#[98, 108, 111, 99, 107, 45, 111, 118, 101, 114]⟩ : ByteArray), .string (⟨#[98, 108, 111, 99, 107, 45, 114, 117, 110, 115]⟩ : ByteArray), .string (⟨#[114, 101, 109, 111, 116, 101, 45, 105, 100, 108, 101]⟩ : ByteArray), .string (⟨#[114, 101, 109, 111, 116, 101, 45, 110, 111, 110, 101]⟩ : ByteArray)] 104)) n; have hz := (blk_cell hB 0).trans rfl)
 exact bodyPost_ret (v := .string (⟨#[99, 108, 101, 97, 114]⟩ : ByteArray)) (by simp [results, Try.results47, go_sem]) rfl ⟨rfl, hBW⟩
set_option maxHeartbeats 4000000 in
set_option maxRecDepth 100000 in
theorem req_Kind_String.c1 (w : World) : Calls Try.prog 47 #[.int .i64 1] w fun e w' => e = .returned (.string (⟨#[102, 115]⟩ : ByteArray)) ∧ Below w.heap.size w w' := by
 have huA := Try.underlying104
 go_enter Try.func47, Try.ntmps47
 go_wp2_with (go_at_call 46; refine (req_Kind_May.calls 1 true _ rfl).mono ?_; rintro e' w1 ⟨rfl, hw⟩; have hBW := ((Below.refl w.heap.size w).alloc (Nat.le_refl _) _).trans (hw.below.mono (by simp)); obtain ⟨⟨n, rfl⟩⟩ := hw; have hB := blk_drewN (blk_new w (.cells #[.string (⟨#[99, 108, 101, 97, 114]⟩ : ByteArray), .string (⟨#[102, 115]⟩ : ByteArray), .string (⟨#[114, 101, 109, 111, 116, 101, 45, 102, 115]⟩ : ByteArray), .string (⟨#[115, 102]⟩ : ByteArray), .string (⟨#[99, 108, 101, 97, 114, 45, 115, 102]⟩ : ByteArray), .string (⟨#[114, 101, 109, 111, 116, 101, 45, 115, 102]⟩ : ByteArray), .string (⟨#[114, 101, 109, 111, 116, 101, 45, 109, 115]⟩ : ByteArray), .string (⟨#[109, 115]⟩ : ByteArray), .string (⟨#[114, 101, 115, 116, 45, 111, 118, 101, 114]⟩ : ByteArray), .string (⟨#[114, 101, 115, 116, 45, 114, 117, 110, 115]⟩ : ByteArray), .string (⟨#[98, 108, 111, 99, 107, 45, 111, 118, 101, 114]⟩ : ByteArray), .string (⟨#[98, 108, 111, 99, 107, 45, 114, 117, 110, 115]⟩ : ByteArray), .string (⟨#[114, 101, 109, 111, 116, 101, 45, 105, 100, 108, 101]⟩ : ByteArray), .string (⟨#[114, 101, 109, 111, 116, 101, 45, 110, 111, 110, 101]⟩ : ByteArray)] 104)) n; have hz := (blk_cell hB 1).trans rfl)
 exact bodyPost_ret (v := .string (⟨#[102, 115]⟩ : ByteArray)) (by simp [results, Try.results47, go_sem]) rfl ⟨rfl, hBW⟩
set_option maxHeartbeats 4000000 in
set_option maxRecDepth 100000 in
theorem req_Kind_String.c2 (w : World) : Calls Try.prog 47 #[.int .i64 2] w fun e w' => e = .returned (.string (⟨#[114, 101, 109, 111, 116, 101, 45, 102, 115]⟩ : ByteArray)) ∧ Below w.heap.size w w' := by
 have huA := Try.underlying104
 go_enter Try.func47, Try.ntmps47
 go_wp2_with (go_at_call 46; refine (req_Kind_May.calls 2 true _ rfl).mono ?_; rintro e' w1 ⟨rfl, hw⟩; have hBW := ((Below.refl w.heap.size w).alloc (Nat.le_refl _) _).trans (hw.below.mono (by simp)); obtain ⟨⟨n, rfl⟩⟩ := hw; have hB := blk_drewN (blk_new w (.cells #[.string (⟨#[99, 108, 101, 97, 114]⟩ : ByteArray), .string (⟨#[102, 115]⟩ : ByteArray), .string (⟨#[114, 101, 109, 111, 116, 101, 45, 102, 115]⟩ : ByteArray), .string (⟨#[115, 102]⟩ : ByteArray), .string (⟨#[99, 108, 101, 97, 114, 45, 115, 102]⟩ : ByteArray), .string (⟨#[114, 101, 109, 111, 116, 101, 45, 115, 102]⟩ : ByteArray), .string (⟨#[114, 101, 109, 111, 116, 101, 45, 109, 115]⟩ : ByteArray), .string (⟨#[109, 115]⟩ : ByteArray), .string (⟨#[114, 101, 115, 116, 45, 111, 118, 101, 114]⟩ : ByteArray), .string (⟨#[114, 101, 115, 116, 45, 114, 117, 110, 115]⟩ : ByteArray), .string (⟨#[98, 108, 111, 99, 107, 45, 111, 118, 101, 114]⟩ : ByteArray), .string (⟨#[98, 108, 111, 99, 107, 45, 114, 117, 110, 115]⟩ : ByteArray), .string (⟨#[114, 101, 109, 111, 116, 101, 45, 105, 100, 108, 101]⟩ : ByteArray), .string (⟨#[114, 101, 109, 111, 116, 101, 45, 110, 111, 110, 101]⟩ : ByteArray)] 104)) n; have hz := (blk_cell hB 2).trans rfl)
 exact bodyPost_ret (v := .string (⟨#[114, 101, 109, 111, 116, 101, 45, 102, 115]⟩ : ByteArray)) (by simp [results, Try.results47, go_sem]) rfl ⟨rfl, hBW⟩
set_option maxHeartbeats 4000000 in
set_option maxRecDepth 100000 in
theorem req_Kind_String.c3 (w : World) : Calls Try.prog 47 #[.int .i64 3] w fun e w' => e = .returned (.string (⟨#[115, 102]⟩ : ByteArray)) ∧ Below w.heap.size w w' := by
 have huA := Try.underlying104
 go_enter Try.func47, Try.ntmps47
 go_wp2_with (go_at_call 46; refine (req_Kind_May.calls 3 true _ rfl).mono ?_; rintro e' w1 ⟨rfl, hw⟩; have hBW := ((Below.refl w.heap.size w).alloc (Nat.le_refl _) _).trans (hw.below.mono (by simp)); obtain ⟨⟨n, rfl⟩⟩ := hw; have hB := blk_drewN (blk_new w (.cells #[.string (⟨#[99, 108, 101, 97, 114]⟩ : ByteArray), .string (⟨#[102, 115]⟩ : ByteArray), .string (⟨#[114, 101, 109, 111, 116, 101, 45, 102, 115]⟩ : ByteArray), .string (⟨#[115, 102]⟩ : ByteArray), .string (⟨#[99, 108, 101, 97, 114, 45, 115, 102]⟩ : ByteArray), .string (⟨#[114, 101, 109, 111, 116, 101, 45, 115, 102]⟩ : ByteArray), .string (⟨#[114, 101, 109, 111, 116, 101, 45, 109, 115]⟩ : ByteArray), .string (⟨#[109, 115]⟩ : ByteArray), .string (⟨#[114, 101, 115, 116, 45, 111, 118, 101, 114]⟩ : ByteArray), .string (⟨#[114, 101, 115, 116, 45, 114, 117, 110, 115]⟩ : ByteArray), .string (⟨#[98, 108, 111, 99, 107, 45, 111, 118, 101, 114]⟩ : ByteArray), .string (⟨#[98, 108, 111, 99, 107, 45, 114, 117, 110, 115]⟩ : ByteArray), .string (⟨#[114, 101, 109, 111, 116, 101, 45, 105, 100, 108, 101]⟩ : ByteArray), .string (⟨#[114, 101, 109, 111, 116, 101, 45, 110, 111, 110, 101]⟩ : ByteArray)] 104)) n; have hz := (blk_cell hB 3).trans rfl)
 exact bodyPost_ret (v := .string (⟨#[115, 102]⟩ : ByteArray)) (by simp [results, Try.results47, go_sem]) rfl ⟨rfl, hBW⟩
set_option maxHeartbeats 4000000 in
set_option maxRecDepth 100000 in
theorem req_Kind_String.c4 (w : World) : Calls Try.prog 47 #[.int .i64 4] w fun e w' => e = .returned (.string (⟨#[99, 108, 101, 97, 114, 45, 115, 102]⟩ : ByteArray)) ∧ Below w.heap.size w w' := by
 have huA := Try.underlying104
 go_enter Try.func47, Try.ntmps47
 go_wp2_with (go_at_call 46; refine (req_Kind_May.calls 4 true _ rfl).mono ?_; rintro e' w1 ⟨rfl, hw⟩; have hBW := ((Below.refl w.heap.size w).alloc (Nat.le_refl _) _).trans (hw.below.mono (by simp)); obtain ⟨⟨n, rfl⟩⟩ := hw; have hB := blk_drewN (blk_new w (.cells #[.string (⟨#[99, 108, 101, 97, 114]⟩ : ByteArray), .string (⟨#[102, 115]⟩ : ByteArray), .string (⟨#[114, 101, 109, 111, 116, 101, 45, 102, 115]⟩ : ByteArray), .string (⟨#[115, 102]⟩ : ByteArray), .string (⟨#[99, 108, 101, 97, 114, 45, 115, 102]⟩ : ByteArray), .string (⟨#[114, 101, 109, 111, 116, 101, 45, 115, 102]⟩ : ByteArray), .string (⟨#[114, 101, 109, 111, 116, 101, 45, 109, 115]⟩ : ByteArray), .string (⟨#[109, 115]⟩ : ByteArray), .string (⟨#[114, 101, 115, 116, 45, 111, 118, 101, 114]⟩ : ByteArray), .string (⟨#[114, 101, 115, 116, 45, 114, 117, 110, 115]⟩ : ByteArray), .string (⟨#[98, 108, 111, 99, 107, 45, 111, 118, 101, 114]⟩ : ByteArray), .string (⟨#[98, 108, 111, 99, 107, 45, 114, 117, 110, 115]⟩ : ByteArray), .string (⟨#[114, 101, 109, 111, 116, 101, 45, 105, 100, 108, 101]⟩ : ByteArray), .string (⟨#[114, 101, 109, 111, 116, 101, 45, 110, 111, 110, 101]⟩ : ByteArray)] 104)) n; have hz := (blk_cell hB 4).trans rfl)
 exact bodyPost_ret (v := .string (⟨#[99, 108, 101, 97, 114, 45, 115, 102]⟩ : ByteArray)) (by simp [results, Try.results47, go_sem]) rfl ⟨rfl, hBW⟩
set_option maxHeartbeats 4000000 in
set_option maxRecDepth 100000 in
theorem req_Kind_String.c5 (w : World) : Calls Try.prog 47 #[.int .i64 5] w fun e w' => e = .returned (.string (⟨#[114, 101, 109, 111, 116, 101, 45, 115, 102]⟩ : ByteArray)) ∧ Below w.heap.size w w' := by
 have huA := Try.underlying104
 go_enter Try.func47, Try.ntmps47
 go_wp2_with (go_at_call 46; refine (req_Kind_May.calls 5 true _ rfl).mono ?_; rintro e' w1 ⟨rfl, hw⟩; have hBW := ((Below.refl w.heap.size w).alloc (Nat.le_refl _) _).trans (hw.below.mono (by simp)); obtain ⟨⟨n, rfl⟩⟩ := hw; have hB := blk_drewN (blk_new w (.cells #[.string (⟨#[99, 108, 101, 97, 114]⟩ : ByteArray), .string (⟨#[102, 115]⟩ : ByteArray), .string (⟨#[114, 101, 109, 111, 116, 101, 45, 102, 115]⟩ : ByteArray), .string (⟨#[115, 102]⟩ : ByteArray), .string (⟨#[99, 108, 101, 97, 114, 45, 115, 102]⟩ : ByteArray), .string (⟨#[114, 101, 109, 111, 116, 101, 45, 115, 102]⟩ : ByteArray), .string (⟨#[114, 101, 109, 111, 116, 101, 45, 109, 115]⟩ : ByteArray), .string (⟨#[109, 115]⟩ : ByteArray), .string (⟨#[114, 101, 115, 116, 45, 111, 118, 101, 114]⟩ : ByteArray), .string (⟨#[114, 101, 115, 116, 45, 114, 117, 110, 115]⟩ : ByteArray), .string (⟨#[98, 108, 111, 99, 107, 45, 111, 118, 101, 114]⟩ : ByteArray), .string (⟨#[98, 108, 111, 99, 107, 45, 114, 117, 110, 115]⟩ : ByteArray), .string (⟨#[114, 101, 109, 111, 116, 101, 45, 105, 100, 108, 101]⟩ : ByteArray), .string (⟨#[114, 101, 109, 111, 116, 101, 45, 110, 111, 110, 101]⟩ : ByteArray)] 104)) n; have hz := (blk_cell hB 5).trans rfl)
 exact bodyPost_ret (v := .string (⟨#[114, 101, 109, 111, 116, 101, 45, 115, 102]⟩ : ByteArray)) (by simp [results, Try.results47, go_sem]) rfl ⟨rfl, hBW⟩
set_option maxHeartbeats 4000000 in
set_option maxRecDepth 100000 in
theorem req_Kind_String.c6 (w : World) : Calls Try.prog 47 #[.int .i64 6] w fun e w' => e = .returned (.string (⟨#[114, 101, 109, 111, 116, 101, 45, 109, 115]⟩ : ByteArray)) ∧ Below w.heap.size w w' := by
 have huA := Try.underlying104
 go_enter Try.func47, Try.ntmps47
 go_wp2_with (go_at_call 46; refine (req_Kind_May.calls 6 true _ rfl).mono ?_; rintro e' w1 ⟨rfl, hw⟩; have hBW := ((Below.refl w.heap.size w).alloc (Nat.le_refl _) _).trans (hw.below.mono (by simp)); obtain ⟨⟨n, rfl⟩⟩ := hw; have hB := blk_drewN (blk_new w (.cells #[.string (⟨#[99, 108, 101, 97, 114]⟩ : ByteArray), .string (⟨#[102, 115]⟩ : ByteArray), .string (⟨#[114, 101, 109, 111, 116, 101, 45, 102, 115]⟩ : ByteArray), .string (⟨#[115, 102]⟩ : ByteArray), .string (⟨#[99, 108, 101, 97, 114, 45, 115, 102]⟩ : ByteArray), .string (⟨#[114, 101, 109, 111, 116, 101, 45, 115, 102]⟩ : ByteArray), .string (⟨#[114, 101, 109, 111, 116, 101, 45, 109, 115]⟩ : ByteArray), .string (⟨#[109, 115]⟩ : ByteArray), .string (⟨#[114, 101, 115, 116, 45, 111, 118, 101, 114]⟩ : ByteArray), .string (⟨#[114, 101, 115, 116, 45, 114, 117, 110, 115]⟩ : ByteArray), .string (⟨#[98, 108, 111, 99, 107, 45, 111, 118, 101, 114]⟩ : ByteArray), .string (⟨#[98, 108, 111, 99, 107, 45, 114, 117, 110, 115]⟩ : ByteArray), .string (⟨#[114, 101, 109, 111, 116, 101, 45, 105, 100, 108, 101]⟩ : ByteArray), .string (⟨#[114, 101, 109, 111, 116, 101, 45, 110, 111, 110, 101]⟩ : ByteArray)] 104)) n; have hz := (blk_cell hB 6).trans rfl)
 exact bodyPost_ret (v := .string (⟨#[114, 101, 109, 111, 116, 101, 45, 109, 115]⟩ : ByteArray)) (by simp [results, Try.results47, go_sem]) rfl ⟨rfl, hBW⟩
set_option maxHeartbeats 4000000 in
set_option maxRecDepth 100000 in
theorem req_Kind_String.c7 (w : World) : Calls Try.prog 47 #[.int .i64 7] w fun e w' => e = .returned (.string (⟨#[109, 115]⟩ : ByteArray)) ∧ Below w.heap.size w w' := by
 have huA := Try.underlying104
 go_enter Try.func47, Try.ntmps47
 go_wp2_with (go_at_call 46; refine (req_Kind_May.calls 7 true _ rfl).mono ?_; rintro e' w1 ⟨rfl, hw⟩; have hBW := ((Below.refl w.heap.size w).alloc (Nat.le_refl _) _).trans (hw.below.mono (by simp)); obtain ⟨⟨n, rfl⟩⟩ := hw; have hB := blk_drewN (blk_new w (.cells #[.string (⟨#[99, 108, 101, 97, 114]⟩ : ByteArray), .string (⟨#[102, 115]⟩ : ByteArray), .string (⟨#[114, 101, 109, 111, 116, 101, 45, 102, 115]⟩ : ByteArray), .string (⟨#[115, 102]⟩ : ByteArray), .string (⟨#[99, 108, 101, 97, 114, 45, 115, 102]⟩ : ByteArray), .string (⟨#[114, 101, 109, 111, 116, 101, 45, 115, 102]⟩ : ByteArray), .string (⟨#[114, 101, 109, 111, 116, 101, 45, 109, 115]⟩ : ByteArray), .string (⟨#[109, 115]⟩ : ByteArray), .string (⟨#[114, 101, 115, 116, 45, 111, 118, 101, 114]⟩ : ByteArray), .string (⟨#[114, 101, 115, 116, 45, 114, 117, 110, 115]⟩ : ByteArray), .string (⟨#[98, 108, 111, 99, 107, 45, 111, 118, 101, 114]⟩ : ByteArray), .string (⟨#[98, 108, 111, 99, 107, 45, 114, 117, 110, 115]⟩ : ByteArray), .string (⟨#[114, 101, 109, 111, 116, 101, 45, 105, 100, 108, 101]⟩ : ByteArray), .string (⟨#[114, 101, 109, 111, 116, 101, 45, 110, 111, 110, 101]⟩ : ByteArray)] 104)) n; have hz := (blk_cell hB 7).trans rfl)
 exact bodyPost_ret (v := .string (⟨#[109, 115]⟩ : ByteArray)) (by simp [results, Try.results47, go_sem]) rfl ⟨rfl, hBW⟩
set_option maxHeartbeats 4000000 in
set_option maxRecDepth 100000 in
theorem req_Kind_String.c8 (w : World) : Calls Try.prog 47 #[.int .i64 8] w fun e w' => e = .returned (.string (⟨#[114, 101, 115, 116, 45, 111, 118, 101, 114]⟩ : ByteArray)) ∧ Below w.heap.size w w' := by
 have huA := Try.underlying104
 go_enter Try.func47, Try.ntmps47
 go_wp2_with (go_at_call 46; refine (req_Kind_May.calls 8 true _ rfl).mono ?_; rintro e' w1 ⟨rfl, hw⟩; have hBW := ((Below.refl w.heap.size w).alloc (Nat.le_refl _) _).trans (hw.below.mono (by simp)); obtain ⟨⟨n, rfl⟩⟩ := hw; have hB := blk_drewN (blk_new w (.cells #[.string (⟨#[99, 108, 101, 97, 114]⟩ : ByteArray), .string (⟨#[102, 115]⟩ : ByteArray), .string (⟨#[114, 101, 109, 111, 116, 101, 45, 102, 115]⟩ : ByteArray), .string (⟨#[115, 102]⟩ : ByteArray), .string (⟨#[99, 108, 101, 97, 114, 45, 115, 102]⟩ : ByteArray), .string (⟨#[114, 101, 109, 111, 116, 101, 45, 115, 102]⟩ : ByteArray), .string (⟨#[114, 101, 109, 111, 116, 101, 45, 109, 115]⟩ : ByteArray), .string (⟨#[109, 115]⟩ : ByteArray), .string (⟨#[114, 101, 115, 116, 45, 111, 118, 101, 114]⟩ : ByteArray), .string (⟨#[114, 101, 115, 116, 45, 114, 117, 110, 115]⟩ : ByteArray), .string (⟨#[98, 108, 111, 99, 107, 45, 111, 118, 101, 114]⟩ : ByteArray), .string (⟨#[98, 108, 111, 99, 107, 45, 114, 117, 110, 115]⟩ : ByteArray), .string (⟨#[114, 101, 109, 111, 116, 101, 45, 105, 100, 108, 101]⟩ : ByteArray), .string (⟨#[114, 101, 109, 111, 116, 101, 45, 110, 111, 110, 101]⟩ : ByteArray)] 104)) n; have hz := (blk_cell hB 8).trans rfl)
 exact bodyPost_ret (v := .string (⟨#[114, 101, 115, 116, 45, 111, 118, 101, 114]⟩ : ByteArray)) (by simp [results, Try.results47, go_sem]) rfl ⟨rfl, hBW⟩
set_option maxHeartbeats 4000000 in
set_option maxRecDepth 100000 in
theorem req_Kind_String.c9 (w : World) : Calls Try.prog 47 #[.int .i64 9] w fun e w' => e = .returned (.string (⟨#[114, 101, 115, 116, 45, 114, 117, 110, 115]⟩ : ByteArray)) ∧ Below w.heap.size w w' := by
 have huA := Try.underlying104
 go_enter Try.func47, Try.ntmps47
 go_wp2_with (go_at_call 46; refine (req_Kind_May.calls 9 true _ rfl).mono ?_; rintro e' w1 ⟨rfl, hw⟩; have hBW := ((Below.refl w.heap.size w).alloc (Nat.le_refl _) _).trans (hw.below.mono (by simp)); obtain ⟨⟨n, rfl⟩⟩ := hw; have hB := blk_drewN (blk_new w (.cells #[.string (⟨#[99, 108, 101, 97, 114]⟩ : ByteArray), .string (⟨#[102, 115]⟩ : ByteArray), .string (⟨#[114, 101, 109, 111, 116, 101, 45, 102, 115]⟩ : ByteArray), .string (⟨#[115, 102]⟩ : ByteArray), .string (⟨#[99, 108, 101, 97, 114, 45, 115, 102]⟩ : ByteArray), .string (⟨#[114, 101, 109, 111, 116, 101, 45, 115, 102]⟩ : ByteArray), .string (⟨#[114, 101, 109, 111, 116, 101, 45, 109, 115]⟩ : ByteArray), .string (⟨#[109, 115]⟩ : ByteArray), .string (⟨#[114, 101, 115, 116, 45, 111, 118, 101, 114]⟩ : ByteArray), .string (⟨#[114, 101, 115, 116, 45, 114, 117, 110, 115]⟩ : ByteArray), .string (⟨#[98, 108, 111, 99, 107, 45, 111, 118, 101, 114]⟩ : ByteArray), .string (⟨#[98, 108, 111, 99, 107, 45, 114, 117, 110, 115]⟩ : ByteArray), .string (⟨#[114, 101, 109, 111, 116, 101, 45, 105, 100, 108, 101]⟩ : ByteArray), .string (⟨#[114, 101, 109, 111, 116, 101, 45, 110, 111, 110, 101]⟩ : ByteArray)] 104)) n; have hz := (blk_cell hB 9).trans rfl)
 exact bodyPost_ret (v := .string (⟨#[114, 101, 115, 116, 45, 114, 117, 110, 115]⟩ : ByteArray)) (by simp [results, Try.results47, go_sem]) rfl ⟨rfl, hBW⟩
set_option maxHeartbeats 4000000 in
set_option maxRecDepth 100000 in
theorem req_Kind_String.c10 (w : World) : Calls Try.prog 47 #[.int .i64 10] w fun e w' => e = .returned (.string (⟨#[98, 108, 111, 99, 107, 45, 111, 118, 101, 114]⟩ : ByteArray)) ∧ Below w.heap.size w w' := by
 have huA := Try.underlying104
 go_enter Try.func47, Try.ntmps47
 go_wp2_with (go_at_call 46; refine (req_Kind_May.calls 10 true _ rfl).mono ?_; rintro e' w1 ⟨rfl, hw⟩; have hBW := ((Below.refl w.heap.size w).alloc (Nat.le_refl _) _).trans (hw.below.mono (by simp)); obtain ⟨⟨n, rfl⟩⟩ := hw; have hB := blk_drewN (blk_new w (.cells #[.string (⟨#[99, 108, 101, 97, 114]⟩ : ByteArray), .string (⟨#[102, 115]⟩ : ByteArray), .string (⟨#[114, 101, 109, 111, 116, 101, 45, 102, 115]⟩ : ByteArray), .string (⟨#[115, 102]⟩ : ByteArray), .string (⟨#[99, 108, 101, 97, 114, 45, 115, 102]⟩ : ByteArray), .string (⟨#[114, 101, 109, 111, 116, 101, 45, 115, 102]⟩ : ByteArray), .string (⟨#[114, 101, 109, 111, 116, 101, 45, 109, 115]⟩ : ByteArray), .string (⟨#[109, 115]⟩ : ByteArray), .string (⟨#[114, 101, 115, 116, 45, 111, 118, 101, 114]⟩ : ByteArray), .string (⟨#[114, 101, 115, 116, 45, 114, 117, 110, 115]⟩ : ByteArray), .string (⟨#[98, 108, 111, 99, 107, 45, 111, 118, 101, 114]⟩ : ByteArray), .string (⟨#[98, 108, 111, 99, 107, 45, 114, 117, 110, 115]⟩ : ByteArray), .string (⟨#[114, 101, 109, 111, 116, 101, 45, 105, 100, 108, 101]⟩ : ByteArray), .string (⟨#[114, 101, 109, 111, 116, 101, 45, 110, 111, 110, 101]⟩ : ByteArray)] 104)) n; have hz := (blk_cell hB 10).trans rfl)
 exact bodyPost_ret (v := .string (⟨#[98, 108, 111, 99, 107, 45, 111, 118, 101, 114]⟩ : ByteArray)) (by simp [results, Try.results47, go_sem]) rfl ⟨rfl, hBW⟩
set_option maxHeartbeats 4000000 in
set_option maxRecDepth 100000 in
theorem req_Kind_String.c11 (w : World) : Calls Try.prog 47 #[.int .i64 11] w fun e w' => e = .returned (.string (⟨#[98, 108, 111, 99, 107, 45, 114, 117, 110, 115]⟩ : ByteArray)) ∧ Below w.heap.size w w' := by
 have huA := Try.underlying104
 go_enter Try.func47, Try.ntmps47
 go_wp2_with (go_at_call 46; refine (req_Kind_May.calls 11 true _ rfl).mono ?_; rintro e' w1 ⟨rfl, hw⟩; have hBW := ((Below.refl w.heap.size w).alloc (Nat.le_refl _) _).trans (hw.below.mono (by simp)); obtain ⟨⟨n, rfl⟩⟩ := hw; have hB := blk_drewN (blk_new w (.cells #[.string (⟨#[99, 108, 101, 97, 114]⟩ : ByteArray), .string (⟨#[102, 115]⟩ : ByteArray), .string (⟨#[114, 101, 109, 111, 116, 101, 45, 102, 115]⟩ : ByteArray), .string (⟨#[115, 102]⟩ : ByteArray), .string (⟨#[99, 108, 101, 97, 114, 45, 115, 102]⟩ : ByteArray), .string (⟨#[114, 101, 109, 111, 116, 101, 45, 115, 102]⟩ : ByteArray), .string (⟨#[114, 101, 109, 111, 116, 101, 45, 109, 115]⟩ : ByteArray), .string (⟨#[109, 115]⟩ : ByteArray), .string (⟨#[114, 101, 115, 116, 45, 111, 118, 101, 114]⟩ : ByteArray), .string (⟨#[114, 101, 115, 116, 45, 114, 117, 110, 115]⟩ : ByteArray), .string (⟨#[98, 108, 111, 99, 107, 45, 111, 118, 101, 114]⟩ : ByteArray), .string (⟨#[98, 108, 111, 99, 107, 45, 114, 117, 110, 115]⟩ : ByteArray), .string (⟨#[114, 101, 109, 111, 116, 101, 45, 105, 100, 108, 101]⟩ : ByteArray), .string (⟨#[114, 101, 109, 111, 116, 101, 45, 110, 111, 110, 101]⟩ : ByteArray)] 104)) n; have hz := (blk_cell hB 11).trans rfl)
 exact bodyPost_ret (v := .string (⟨#[98, 108, 111, 99, 107, 45, 114, 117, 110, 115]⟩ : ByteArray)) (by simp [results, Try.results47, go_sem]) rfl ⟨rfl, hBW⟩
set_option maxHeartbeats 4000000 in
set_option maxRecDepth 100000 in
theorem req_Kind_String.c12 (w : World) : Calls Try.prog 47 #[.int .i64 12] w fun e w' => e = .returned (.string (⟨#[114, 101, 109, 111, 116, 101, 45, 105, 100, 108, 101]⟩ : ByteArray)) ∧ Below w.heap.size w w' := by
 have huA := Try.underlying104
 go_enter Try.func47, Try.ntmps47
 go_wp2_with (go_at_call 46; refine (req_Kind_May.calls 12 true _ rfl).mono ?_; rintro e' w1 ⟨rfl, hw⟩; have hBW := ((Below.refl w.heap.size w).alloc (Nat.le_refl _) _).trans (hw.below.mono (by simp)); obtain ⟨⟨n, rfl⟩⟩ := hw; have hB := blk_drewN (blk_new w (.cells #[.string (⟨#[99, 108, 101, 97, 114]⟩ : ByteArray), .string (⟨#[102, 115]⟩ : ByteArray), .string (⟨#[114, 101, 109, 111, 116, 101, 45, 102, 115]⟩ : ByteArray), .string (⟨#[115, 102]⟩ : ByteArray), .string (⟨#[99, 108, 101, 97, 114, 45, 115, 102]⟩ : ByteArray), .string (⟨#[114, 101, 109, 111, 116, 101, 45, 115, 102]⟩ : ByteArray), .string (⟨#[114, 101, 109, 111, 116, 101, 45, 109, 115]⟩ : ByteArray), .string (⟨#[109, 115]⟩ : ByteArray), .string (⟨#[114, 101, 115, 116, 45, 111, 118, 101, 114]⟩ : ByteArray), .string (⟨#[114, 101, 115, 116, 45, 114, 117, 110, 115]⟩ : ByteArray), .string (⟨#[98, 108, 111, 99, 107, 45, 111, 118, 101, 114]⟩ : ByteArray), .string (⟨#[98, 108, 111, 99, 107, 45, 114, 117, 110, 115]⟩ : ByteArray), .string (⟨#[114, 101, 109, 111, 116, 101, 45, 105, 100, 108, 101]⟩ : ByteArray), .string (⟨#[114, 101, 109, 111, 116, 101, 45, 110, 111, 110, 101]⟩ : ByteArray)] 104)) n; have hz := (blk_cell hB 12).trans rfl)
 exact bodyPost_ret (v := .string (⟨#[114, 101, 109, 111, 116, 101, 45, 105, 100, 108, 101]⟩ : ByteArray)) (by simp [results, Try.results47, go_sem]) rfl ⟨rfl, hBW⟩
set_option maxHeartbeats 4000000 in
set_option maxRecDepth 100000 in
theorem req_Kind_String.c13 (w : World) : Calls Try.prog 47 #[.int .i64 13] w fun e w' => e = .returned (.string (⟨#[114, 101, 109, 111, 116, 101, 45, 110, 111, 110, 101]⟩ : ByteArray)) ∧ Below w.heap.size w w' := by
 have huA := Try.underlying104
 go_enter Try.func47, Try.ntmps47
 go_wp2_with (go_at_call 46; refine (req_Kind_May.calls 13 true _ rfl).mono ?_; rintro e' w1 ⟨rfl, hw⟩; have hBW := ((Below.refl w.heap.size w).alloc (Nat.le_refl _) _).trans (hw.below.mono (by simp)); obtain ⟨⟨n, rfl⟩⟩ := hw; have hB := blk_drewN (blk_new w (.cells #[.string (⟨#[99, 108, 101, 97, 114]⟩ : ByteArray), .string (⟨#[102, 115]⟩ : ByteArray), .string (⟨#[114, 101, 109, 111, 116, 101, 45, 102, 115]⟩ : ByteArray), .string (⟨#[115, 102]⟩ : ByteArray), .string (⟨#[99, 108, 101, 97, 114, 45, 115, 102]⟩ : ByteArray), .string (⟨#[114, 101, 109, 111, 116, 101, 45, 115, 102]⟩ : ByteArray), .string (⟨#[114, 101, 109, 111, 116, 101, 45, 109, 115]⟩ : ByteArray), .string (⟨#[109, 115]⟩ : ByteArray), .string (⟨#[114, 101, 115, 116, 45, 111, 118, 101, 114]⟩ : ByteArray), .string (⟨#[114, 101, 115, 116, 45, 114, 117, 110, 115]⟩ : ByteArray), .string (⟨#[98, 108, 111, 99, 107, 45, 111, 118, 101, 114]⟩ : ByteArray), .string (⟨#[98, 108, 111, 99, 107, 45, 114, 117, 110, 115]⟩ : ByteArray), .string (⟨#[114, 101, 109, 111, 116, 101, 45, 105, 100, 108, 101]⟩ : ByteArray), .string (⟨#[114, 101, 109, 111, 116, 101, 45, 110, 111, 110, 101]⟩ : ByteArray)] 104)) n; have hz := (blk_cell hB 13).trans rfl)
 exact bodyPost_ret (v := .string (⟨#[114, 101, 109, 111, 116, 101, 45, 110, 111, 110, 101]⟩ : ByteArray)) (by simp [results, Try.results47, go_sem]) rfl ⟨rfl, hBW⟩
set_option maxHeartbeats 4000000 in
set_option maxRecDepth 100000 in
theorem req_Kind_String.no (a0 : Int) (h : ¬ (0 ≤ a0 ∧ a0 ≤ 13)) (w : World) : Calls Try.prog 47 #[.int .i64 a0] w fun e w' => e = .returned (.string (⟨#[110, 111, 110, 101]⟩ : ByteArray)) ∧ Below w.heap.size w w' := by
 have huA := Try.underlying104
 go_enter Try.func47, Try.ntmps47
 go_wp2_with (go_at_call 46; refine (req_Kind_May.calls a0 false _ (by unfold req_Kind_May.f; split <;> simp <;> omega)).mono ?_; rintro e' w1 ⟨rfl, hw⟩; have hBW := ((Below.refl w.heap.size w).alloc (Nat.le_refl _) _).trans (hw.below.mono (by simp)); obtain ⟨⟨n, rfl⟩⟩ := hw; have hB := blk_drewN (blk_new w (.cells #[.string (⟨#[99, 108, 101, 97, 114]⟩ : ByteArray), .string (⟨#[102, 115]⟩ : ByteArray), .string (⟨#[114, 101, 109, 111, 116, 101, 45, 102, 115]⟩ : ByteArray), .string (⟨#[115, 102]⟩ : ByteArray), .string (⟨#[99, 108, 101, 97, 114, 45, 115, 102]⟩ : ByteArray), .string (⟨#[114, 101, 109, 111, 116, 101, 45, 115, 102]⟩ : ByteArray), .string (⟨#[114, 101, 109, 111, 116, 101, 45, 109, 115]⟩ : ByteArray), .string (⟨#[109, 115]⟩ : ByteArray), .string (⟨#[114, 101, 115, 116, 45, 111, 118, 101, 114]⟩ : ByteArray), .string (⟨#[114, 101, 115, 116, 45, 114, 117, 110, 115]⟩ : ByteArray), .string (⟨#[98, 108, 111, 99, 107, 45, 111, 118, 101, 114]⟩ : ByteArray), .string (⟨#[98, 108, 111, 99, 107, 45, 114, 117, 110, 115]⟩ : ByteArray), .string (⟨#[114, 101, 109, 111, 116, 101, 45, 105, 100, 108, 101]⟩ : ByteArray), .string (⟨#[114, 101, 109, 111, 116, 101, 45, 110, 111, 110, 101]⟩ : ByteArray)] 104)) n)
 exact bodyPost_ret (v := .string (⟨#[110, 111, 110, 101]⟩ : ByteArray)) (by simp [results, Try.results47, go_sem]) rfl ⟨rfl, hBW⟩
theorem req_Kind_String.calls (a0 : Int) (r : ByteArray) (w : World) (h : req_Kind_String.f a0 = some r) :
  Calls Try.prog 47 #[.int .i64 a0] w fun e w' => e = .returned (.string r) ∧ Below w.heap.size w w' := by
 obtain rfl := Option.some.inj h
 clear h
 by_cases c0 : a0 = 0
 ·
  subst c0; exact req_Kind_String.c0 w
 by_cases c1 : a0 = 1
 ·
  subst c1; exact req_Kind_String.c1 w
 by_cases c2 : a0 = 2
 ·
  subst c2; exact req_Kind_String.c2 w
 by_cases c3 : a0 = 3
 ·
  subst c3; exact req_Kind_String.c3 w
 by_cases c4 : a0 = 4
 ·
  subst c4; exact req_Kind_String.c4 w
 by_cases c5 : a0 = 5
 ·
  subst c5; exact req_Kind_String.c5 w
 by_cases c6 : a0 = 6
 ·
  subst c6; exact req_Kind_String.c6 w
 by_cases c7 : a0 = 7
 ·
  subst c7; exact req_Kind_String.c7 w
 by_cases c8 : a0 = 8
 ·
  subst c8; exact req_Kind_String.c8 w
 by_cases c9 : a0 = 9
 ·
  subst c9; exact req_Kind_String.c9 w
 by_cases c10 : a0 = 10
 ·
  subst c10; exact req_Kind_String.c10 w
 by_cases c11 : a0 = 11
 ·
  subst c11; exact req_Kind_String.c11 w
 by_cases c12 : a0 = 12
 ·
  subst c12; exact req_Kind_String.c12 w
 by_cases c13 : a0 = 13
 ·
  subst c13; exact req_Kind_String.c13 w
 unfold req_Kind_String.word
 rw [if_neg c0, if_neg c1, if_neg c2, if_neg c3, if_neg c4, if_neg c5, if_neg c6, if_neg c7, if_neg c8, if_neg c9, if_neg c10, if_neg c11, if_neg c12, if_neg c13]
 exact req_Kind_String.no a0 (by omega) w


/-! ### carousellaw12_Awake: function 23 -/
def carousellaw12_Awake.f (k : Nat)  : Option (Bool) := (carousellaw05_Awake.f k).bind fun t171 => (if t171 = true then ((req_Kind_Above.f 1 2).bind fun t172 => (if t172 = true then ((req_Best.f k (([3, 7] : List Int))).bind fun t176 => (if t176 = 3 then ((req_Kind_String.f 12).bind fun t177 => (some (t177.toList == ([114, 101, 109, 111, 116, 101, 45, 105, 100, 108, 101] : List UInt8)))) else (some false))) else (some false))) else (some false))
theorem carousellaw12_Awake.mono : ∀ k, LeO (carousellaw12_Awake.f k ) (carousellaw12_Awake.f (k + 1) ) := by
 intro  k
 unfold carousellaw12_Awake.f
 repeat' first
   | (with_reducible exact carousellaw05_Awake.mono _)
   | (with_reducible exact req_Best.mono _ _)
   | (with_reducible exact LeO.refl _)
   | (with_reducible exact LeO.none _)
   | (with_reducible refine LeO.ite ?_ ?_)
   | (with_reducible refine LeO.bind ?_ (fun _ => ?_))
   | exact carousellaw05_Awake.mono _
   | exact req_Best.mono _ _
   | exact LeO.none _
   | refine LeO.ite ?_ ?_
   | refine LeO.bind ?_ (fun _ => ?_)
set_option maxHeartbeats 8000000 in
set_option maxRecDepth 100000 in
theorem carousellaw12_Awake.calls (k : Nat)  (r : Bool) (w : World) (h : carousellaw12_Awake.f k  = some r) :
  Calls Try.prog 23 #[] w fun e w' => e = .returned (.bool r) ∧ Below w.heap.size w w' := by
 have hT : r = true := by
  obtain ⟨K_, hK_⟩ := (Ev.of carousellaw12_Awake.mono (k := 60) (by decide +kernel) : Ev (fun k => carousellaw12_Awake.f k) true)
  have h1_ := at_rounds carousellaw12_Awake.mono (Nat.le_max_left k K_) h
  exact (Option.some.inj ((hK_ _ (Nat.le_max_right k K_)).symm.trans h1_)).symm
 have HB := Aside0.mk (Below.refl w.heap.size w)
 have H : ((carousellaw05_Awake.f k).bind fun t171 => (if t171 = true then ((req_Kind_Above.f 1 2).bind fun t172 => (if t172 = true then ((req_Best.f k (([3, 7] : List Int))).bind fun t176 => (if t176 = 3 then ((req_Kind_String.f 12).bind fun t177 => (some (t177.toList == ([114, 101, 109, 111, 116, 101, 45, 105, 100, 108, 101] : List UInt8)))) else (some false))) else (some false))) else (some false))) = some r := h
 clear h
 replace H := Option.bind_eq_some_iff.mp H
 obtain ⟨t171, A10, H⟩ := H
 try dsimp only at H
 have A1 := Aside0.mk A10
 clear A10
 by_cases c2 : t171 = true
 ·
  subst c2
  have H1 : ((req_Kind_Above.f 1 2).bind fun t172 => (if t172 = true then ((req_Best.f k (([3, 7] : List Int))).bind fun t176 => (if t176 = 3 then ((req_Kind_String.f 12).bind fun t177 => (some (t177.toList == ([114, 101, 109, 111, 116, 101, 45, 105, 100, 108, 101] : List UInt8)))) else (some false))) else (some false))) = some r := by rw [if_pos rfl] at H; exact H
  clear H
  have H := H1
  clear H1
  replace H := Option.bind_eq_some_iff.mp H
  obtain ⟨t172, A30, H⟩ := H
  try dsimp only at H
  have A3 := Aside0.mk A30
  clear A30
  by_cases c4 : t172 = true
  ·
   subst c4
   have H1 : ((req_Best.f k (([3, 7] : List Int))).bind fun t176 => (if t176 = 3 then ((req_Kind_String.f 12).bind fun t177 => (some (t177.toList == ([114, 101, 109, 111, 116, 101, 45, 105, 100, 108, 101] : List UInt8)))) else (some false))) = some r := by rw [if_pos rfl] at H; exact H
   clear H
   have H := H1
   clear H1
   obtain ⟨y173, hy173⟩ : ∃ y_ : List Int, y_ = (([3, 7] : List Int)) := ⟨_, rfl⟩
   replace H : ((req_Best.f k y173).bind fun t176 => (if t176 = 3 then ((req_Kind_String.f 12).bind fun t177 => (some (t177.toList == ([114, 101, 109, 111, 116, 101, 45, 105, 100, 108, 101] : List UInt8)))) else (some false))) = some r := by first | (rw [hy173]; with_reducible exact H) | (have H2_ := (Option.bind_some _ _).symm.trans H; rw [hy173]; with_reducible exact H2_) | (have H2_ := (Option.bind_some _ _).symm.trans H; with_reducible exact H2_) | with_reducible exact H | (rw [hy173]; exact H) | exact H
   have Ny173 := Aside0.mk hy173
   clear hy173
   replace H := Option.bind_eq_some_iff.mp H
   obtain ⟨t176, A50, H⟩ := H
   try dsimp only at H
   have A5 := Aside0.mk A50
   clear A50
   by_cases c6 : t176 = 3
   ·
    rw [if_pos c6] at H
    have c6b0 : (t176 == 3) = true := beq_iff_eq.mpr c6
    have c6b1 : (t176 != 3) = false := bne_eq_false_iff_eq.mpr c6
    clear c6
    replace H := Option.bind_eq_some_iff.mp H
    obtain ⟨t177, A70, H⟩ := H
    try dsimp only at H
    have A7 := Aside0.mk A70
    clear A70
    obtain rfl := Option.some.inj H
    go_enter Try.func23, Try.ntmps23
    go_wp2_with (first | ((with_reducible refine gate_callee (f := 17) rfl ?_); refine goesL_ (some 1) rfl rfl Try.func17 (by kernel_rfl) rfl #[] rfl (by (try simp only [List.map_toArray, List.map_cons, List.map_nil]); first | done | rfl | (simp only [List.length_drop, List.length_take]; rfl)) ?_; (with_reducible refine (carousellaw05_Awake.calls k  true _ A1.out).mono ?_); rintro e w8 ⟨rfl, hb⟩; refine ⟨_, rfl, ?_⟩; have n0_ := Aside0.mk (below_step (by repeat (first | (with_reducible first | exact HB.out | apply below_alloc | apply pw_below_drewN | apply below_drew1) | exact HB.out)) hb); clear HB; have HB := n0_; clear n0_; (try clear hb); (try clear hb2); (try clear hk); (try clear hi)) | (go_at_call 22; (with_reducible refine (req_Kind_Above.calls 1 2 true _ A3.out).mono ?_); rintro e w' ⟨rfl, ⟨nd, rfl⟩⟩) | ((with_reducible refine gate_dst (N := 6) rfl ?_); (try (refine gate_guard (by rfl) ?_; dsimp only)); refine Kd.R_lit (Kd.int .i64) _ 61 ?hg (N := 6) ?hd (xs := ([3, 7] : List Int)) (inner := [.int .i64 3, .int .i64 7]) (ok := fun _ => True) (okp := fun _ => True) ?hr ?hp (fun _ hk => hk) trivial (Below.refl _ _) (Nat.le_refl _) (by simp) ?_; (case hd => rfl); (case hg => rfl); (case hr => first | (go_simp; done) | (go_simp; rfl)); (case hp => exact (Reps.one (show Kd.M (Kd.int .i64) _ _ _ 3 [.int .i64 3] from rfl) (Reps.one (show Kd.M (Kd.int .i64) _ _ _ 7 [.int .i64 7] from rfl) (Reps.none _ _)))); intro v174 w9 ho10 hb hg_ hnew_; clear hg_ hnew_; (first | rw [← Ny173.out] at ho10 | (simp only [Int.reduceToNat] at ho10; rw [← Ny173.out] at ho10)); have n0_ := Aside0.mk (Kd.R_lower ho10 (below_size (by repeat (first | (with_reducible first | exact HB.out | apply below_alloc | apply pw_below_drewN | apply below_drew1) | exact HB.out)))); have n1_ := Aside0.mk (below_step (by repeat (first | (with_reducible first | exact HB.out | apply below_alloc | apply pw_below_drewN | apply below_drew1) | exact HB.out)) hb); clear HB; have HO175 := n0_; have HB := n1_; clear n0_ n1_; clear hb ho10; obtain ⟨Ao11, co11, eo11⟩ := Kd.R_slice HO175.out; subst eo11) | (go_at_call 24; (with_reducible refine (req_Best.calls k _ _ y173 t176 _ ?side1 ?side2 A5.out).mono ?_); (case side1 => repeat (first | exact (Kd.R_reads' HO175.out).2.2 | (with_reducible refine Kd.C_alloc ?_ _) | (with_reducible refine Kd.C_drewN ?_ _) | (with_reducible refine Kd.C_drew ?_))); (case side2 => exact (Kd.R_reads' HO175.out).2.1); rintro e w' ⟨rfl, ⟨nd, rfl⟩⟩) | (go_at_call 47; (with_reducible refine (req_Kind_String.calls 12 t177 _ A7.out).mono ?_); rintro e w12 ⟨rfl, hb⟩; have n0_ := Aside0.mk (Kd.R_below (by (with_reducible repeat (first | apply Kd.R_alloc | apply Kd.R_drewN | apply Kd.R_drew)); exact HO175.out) hb); have n1_ := Aside0.mk (below_step (by repeat (first | (with_reducible first | exact HB.out | apply below_alloc | apply pw_below_drewN | apply below_drew1) | exact HB.out)) hb); clear HO175; clear HB; have HO175 := n0_; have HB := n1_; clear n0_ n1_; (try clear hb); (try clear hb2); (try clear hk); (try clear hi)))
    go_ret
    exact ⟨by first | rfl | (simp [errW_none, errW_some] <;> rfl) | (simp [*, errW_none, errW_some] <;> rfl), by repeat (first | (with_reducible first | exact HB.out | apply below_alloc | apply pw_below_drewN | apply below_drew1) | exact HB.out)⟩
   ·
    rw [if_neg c6] at H
    have c6b0 : (t176 == 3) = false := beq_eq_false_iff_ne.mpr c6
    have c6b1 : (t176 != 3) = true := bne_iff_ne.mpr c6
    cases (Option.some.inj H).trans hT
  ·
   replace c4 := Bool.eq_false_iff.mpr c4
   subst c4
   have H1 : (some false) = some r := by rw [if_neg (show ¬ (false = true) by decide)] at H; exact H
   clear H
   have H := H1
   clear H1
   cases (Option.some.inj H).trans hT
 ·
  replace c2 := Bool.eq_false_iff.mpr c2
  subst c2
  have H1 : (some false) = some r := by rw [if_neg (show ¬ (false = true) by decide)] at H; exact H
  clear H
  have H := H1
  clear H1
  cases (Option.some.inj H).trans hT

end Go.Proofs.Ytmdaaphjndjakad.PReqOrders
