-- Written by a program of this work, after the translation.
import Derived.Test.YtapicoienpbdfaaPPlanTellsx0
import Derived.Test.YtapicoienpbdfaaPPlanTellsx8
namespace Go.Proofs.Ytapicoienpbdfaa.PPlanTells
open Go.RowKit Go.Proofs.YtapicoienpbdfaaW.PrintWords Go.Proofs.YtapicoienpbdfaaW.PrintLast Go.Proofs.YtapicoienpbdfaaW.PrintMore
attribute [local go_sem] max2_int min2_int max_two min_two max_three min_three max_four min_four   -- for this text's walks alone
set_option linter.unusedVariables false
set_option linter.unusedSimpArgs false

/-! ### mac_Parse: function 51 -/
mutual
def mac_Parse.l0 : Nat → ByteArray → Int → Int → Int → Option (Int × Int)
  | 0, _, _, _, _ => none
  | k + 1, x0, x4, x11, x12 => if x12 < x11 then (if 0 ≤ x12 then (if x12 < (x0.size : Int) then ((strings_IndexByte.f (⟨#[48, 49, 50, 51, 52, 53, 54, 55, 56, 57, 97, 98, 99, 100, 101, 102]⟩ : ByteArray) (bt x0 x12)).bind fun t134 => (if (Int.tmod x12 3) = 2 then (mac_Parse.j1 k x0 x4 x12 t134 x11 x12 ((bt x0 x12) == 58)) else (mac_Parse.j1 k x0 x4 x12 t134 x11 x12 false))) else (none)) else (none)) else (some (x4, 0))
def mac_Parse.j1 : Nat → ByteArray → Int → Int → Int → Int → Int → Bool → Option (Int × Int)
  | 0, _, _, _, _, _, _, _ => none
  | k + 1, x0, x4, x5, x6, x11, x12, x19 => if x19 = true then (mac_Parse.l0 k x0 x4 x11 (wrap64 (x12 + 1))) else (if (Int.tmod x5 3) < 2 then (if x6 ≥ 0 then (mac_Parse.l0 k x0 (Go.bits .or .u64 (IntKind.u64.wrap (x4 * 16)) (IntKind.u64.wrap (x6))) x11 (wrap64 (x12 + 1))) else (some (0, 3))) else (some (0, 3)))
end
def mac_Parse.f (k : Nat) (a0 : ByteArray) : Option (Int × Int) := if (a0.size : Int) = 17 then (mac_Parse.l0 k a0 0 (a0.size : Int) 0) else (some (0, 3))
theorem mac_Parse.mono_l : ∀ k, (∀ y0 y1 y2 y3, LeO (mac_Parse.l0 k y0 y1 y2 y3) (mac_Parse.l0 (k + 1) y0 y1 y2 y3)) ∧ (∀ y0 y1 y2 y3 y4 y5 y6, LeO (mac_Parse.j1 k y0 y1 y2 y3 y4 y5 y6) (mac_Parse.j1 (k + 1) y0 y1 y2 y3 y4 y5 y6))
 | 0 => ⟨fun _ _ _ _ r h => by simp [mac_Parse.l0] at h, fun _ _ _ _ _ _ _ r h => by simp [mac_Parse.j1] at h⟩
 | k + 1 => by
  obtain ⟨ih0, ih1⟩ := mac_Parse.mono_l k
  refine ⟨?_, ?_⟩
  ·
   intro y0 y1 y2 y3
   unfold mac_Parse.l0
   repeat' first
   | (with_reducible exact ih0 _ _ _ _)
   | (with_reducible exact ih1 _ _ _ _ _ _ _)
   | (with_reducible exact LeO.refl _)
   | (with_reducible exact LeO.none _)
   | (with_reducible refine LeO.ite ?_ ?_)
   | (with_reducible refine LeO.bind ?_ (fun _ => ?_))
   | exact ih0 _ _ _ _
   | exact ih1 _ _ _ _ _ _ _
   | exact LeO.none _
   | refine LeO.ite ?_ ?_
   | refine LeO.bind ?_ (fun _ => ?_)
  intro y0 y1 y2 y3 y4 y5 y6
  unfold mac_Parse.j1
  repeat' first
  | (with_reducible exact ih0 _ _ _ _)
  | (with_reducible exact ih1 _ _ _ _ _ _ _)
  | (with_reducible exact LeO.refl _)
  | (with_reducible exact LeO.none _)
  | (with_reducible refine LeO.ite ?_ ?_)
  | (with_reducible refine LeO.bind ?_ (fun _ => ?_))
  | exact ih0 _ _ _ _
  | exact ih1 _ _ _ _ _ _ _
  | exact LeO.none _
  | refine LeO.ite ?_ ?_
  | refine LeO.bind ?_ (fun _ => ?_)
theorem mac_Parse.mono : ∀ a0 k, LeO (mac_Parse.f k a0) (mac_Parse.f (k + 1) a0) := by
 intro a0 k;obtain ⟨ih0,ih1⟩:=mac_Parse.mono_l k;unfold mac_Parse.f
 repeat' first
  | (with_reducible exact ih0 _ _ _ _)
  | (with_reducible exact ih1 _ _ _ _ _ _ _)
  | (with_reducible exact LeO.refl _)
  | (with_reducible exact LeO.none _)
  | (with_reducible refine LeO.ite ?_ ?_)
  | (with_reducible refine LeO.bind ?_ (fun _ => ?_))
  | exact ih0 _ _ _ _
  | exact ih1 _ _ _ _ _ _ _
  | exact LeO.none _
  | refine LeO.ite ?_ ?_
  | refine LeO.bind ?_ (fun _ => ?_)
set_option maxHeartbeats 8000000 in
set_option maxRecDepth 100000 in
theorem mac_Parse.calls (k : Nat) (a0 : ByteArray) (r1 : Int) (r2 : Int) (w : World) (h : mac_Parse.f k a0 = some (r1, r2)) :
  Calls Try.prog 51 #[.string a0] w fun e w' => e = .returned (.tuple #[.int .u64 r1, .int .i64 r2]) ∧ Drawn0 w w' := by
 have H : (if (a0.size : Int) = 17 then (mac_Parse.l0 k a0 0 (a0.size : Int) 0) else (some (0,3))) = some (r1,r2):=h;clear h;by_cases c2 : (a0.size : Int) = 17
 ·
  rw [if_pos c2] at H;have c2b0 : ((a0.size : Int) == 17) = true:=beq_iff_eq.mpr c2;have c2b1 : ((a0.size : Int) != 17) = false:=bne_eq_false_iff_eq.mpr c2;clear c2;have H':=zM H;clear H;go_enter Try.func51,Try.ntmps51
  go_wp2;go_loopg [4,12] k (fun kq v4 v12 w' => ∃ (x4_1 : Int) (x12_1 : Int),v4 = .int .u64 x4_1 ∧ v12 = .int .i64 x12_1 ∧ Aside0 (mac_Parse.l0 kq a0 x4_1 (a0.size : Int) x12_1 = some (r1,r2)) ∧ Aside0 (kq ≤ k) ∧ Drawn0 w w')
  case atStart => exact ⟨(0),(0),(by first|rfl|(simp;done)|(simp [*];done)),(by first|rfl|(simp;done)|(simp [*];done)),H',⟨Nat.le_refl _⟩,by repeat (first|exact Drawn0.refl _|apply Drawn0.step)⟩
  case round =>
   clear H';try clear c2
   try clear c2b0
   try clear c2b1
   try clear p2
   obtain ⟨x4_1,x12_1,rfl,rfl,HA,HK1,⟨m1,rfl⟩⟩:=hrel;cases gk with
  | zero => exact absurd HA.out (by simp [mac_Parse.l0])
  | succ k1 =>
    have H:=HA.out;clear HA;simp only [mac_Parse.l0] at H;by_cases c3 : x12_1 < (a0.size : Int)
    ·
     rw [if_pos c3] at H;have c3b0 : decide (x12_1 < (a0.size : Int)) = true:=dT c3;clear c3;by_cases c4 : 0 ≤ x12_1
     ·
      rw [if_pos c4] at H;have c4b0 : decide (0 ≤ x12_1) = true:=dT c4;clear c4;by_cases c5 : x12_1 < (a0.size : Int)
      ·
       rw [if_pos c5] at H;have c5b0 : decide (x12_1 < (a0.size : Int)) = true:=dT c5;clear c5;replace H:=Option.bind_eq_some_iff.mp H;obtain ⟨z00,A70,H⟩:=H;try dsimp only at H
       have A7:=zM A70;clear A70;have HC8:=zM H;clear H;have p6 : 0 ≤ (x12_1 : Int):=of_decide_eq_true (by first|(with_reducible assumption)|assumption);have q6 : x12_1 < (a0.size : Int):=of_decide_eq_true (by first|(with_reducible assumption)|assumption);have hx6:=bt_at a0 x12_1;replace p6:=eq_true p6;replace q6:=eq_true q6;go_upto_region 9 with (first|((with_reducible refine gate_callee (f:=68) rfl ?_);refine goesL_ (some 18) rfl rfl Try.func68 (by kernel_rfl) rfl #[.string (⟨#[48,49,50,51,52,53,54,55,56,57,97,98,99,100,101,102]⟩ : ByteArray),.int .u8 (bt a0 x12_1)] rfl (by (try simp only [List.map_toArray,List.map_cons,List.map_nil]);first|done|rfl|(simp only [List.length_drop,List.length_take];rfl)) ?_;(with_reducible refine (strings_IndexByte.calls (⟨#[48,49,50,51,52,53,54,55,56,57,97,98,99,100,101,102]⟩ : ByteArray) (bt a0 x12_1) z00 _ A7.out).mono ?_);rintro e w' ⟨rfl,⟨nd,rfl⟩⟩;refine ⟨_,rfl,?_⟩))
       (try simp only [Act.put,sA,sB,sC])
       go_cut [19] (fun v19 wc => ∃ (kq : Nat) (x19_7 : Bool),v19 = .bool x19_7 ∧ Aside0 (mac_Parse.j1 kq a0 x4_1 x12_1 z00 (a0.size : Int) x12_1 x19_7 = some (r1,r2)) ∧ Aside0 (kq ≤ k1) ∧ Drawn0 w wc)
       case first =>
        have H:=HC8.out;clear HC8;by_cases c9 : (Int.tmod x12_1 3) = 2
        ·
         rw [if_pos c9] at H;have c9b0 : ((Int.tmod x12_1 3) == 2) = true:=beq_iff_eq.mpr c9;have c9b1 : ((Int.tmod x12_1 3) != 2) = false:=bne_eq_false_iff_eq.mpr c9;clear c9;(first|rw [c9b0]|(simp only [i64_w,i32_w];rw [c9b0])|skip)
         have H':=zM H;clear H;have p10 : 0 ≤ (x12_1 : Int):=of_decide_eq_true (by first|(with_reducible assumption)|assumption);have q10 : x12_1 < (a0.size : Int):=of_decide_eq_true (by first|(with_reducible assumption)|assumption);have z01:=bt_at a0 x12_1;replace p10:=eq_true p10;replace q10:=eq_true q10;go_wp2;go_meet
         case rel => exact ⟨_,(((bt a0 x12_1) == 58)),(by first|rfl|(simp;done)|(simp [*];done)),H',⟨by have:=HK1.out;first|omega|exact Nat.le_refl _⟩,by repeat (first|exact Drawn0.refl _|apply Drawn0.step)⟩
        rw [if_neg c9] at H;have c9b0 : ((Int.tmod x12_1 3) == 2) = false:=beq_eq_false_iff_ne.mpr c9;have c9b1 : ((Int.tmod x12_1 3) != 2) = true:=bne_iff_ne.mpr c9;(first|rw [c9b0]|(simp only [i64_w,i32_w];rw [c9b0])|skip)
        have H':=zM H;clear H;go_wp2;go_meet
        case rel => exact ⟨_,(false),(by first|rfl|(simp;done)|(simp [*];done)),H',⟨by have:=HK1.out;first|omega|exact Nat.le_refl _⟩,by repeat (first|exact Drawn0.refl _|apply Drawn0.step)⟩
       case rest =>
        clear HC8;try clear p1
        try clear q1
        try clear hx1
        try clear c2
        try clear c2b0
        try clear c2b1
        try clear p2
        try clear c3
        try clear c3b0
        try clear c4
        try clear c4b0
        try clear c5
        try clear c5b0
        try clear c6
        try clear p6
        try clear q6
        try clear hx6
        try clear c9
        try clear c9b0
        try clear c9b1
        try clear p10
        try clear q10
        try clear z01
        try clear p10
        try clear p2
        try clear p6
        try clear q10
        try clear q6
        obtain ⟨kq,x19_7,rfl,HA,HJ7,⟨mc7,rfl⟩⟩:=hcut;cases kq with
       | zero => exact absurd HA.out (by simp [mac_Parse.j1])
       | succ kj7 =>
         have H:=HA.out;clear HA;simp only [mac_Parse.j1] at H;by_cases c11 : x19_7 = true
         ·
          subst c11;have H1 : (mac_Parse.l0 kj7 a0 x4_1 (a0.size : Int) (wrap64 (x12_1 + 1))) = some (r1,r2):=by rw [if_pos rfl] at H;exact H
          clear H;have H:=H1;clear H1;have H':=zM H;clear H;go_wp2;go_roundg kj7
          case measure => have:=HK1.out;have:=HJ7.out;omega
          case rel => exact ⟨(x4_1),(wrap64 (x12_1 + 1)),(by first|rfl|(simp;done)|(simp [*];done)),(by first|rfl|(simp;done)|(simp [*];done)),H',⟨by have:=HK1.out;have:=HJ7.out;omega⟩,by repeat (first|exact Drawn0.refl _|apply Drawn0.step)⟩
         replace c11:=Bool.eq_false_iff.mpr c11;subst c11;have H1 : (if (Int.tmod x12_1 3) < 2 then (if z00 ≥ 0 then (mac_Parse.l0 kj7 a0 (Go.bits .or .u64 (IntKind.u64.wrap (x4_1 * 16)) (IntKind.u64.wrap (z00))) (a0.size : Int) (wrap64 (x12_1 + 1))) else (some (0,3))) else (some (0,3))) = some (r1,r2):=by rw [if_neg (show ¬ (false = true) by decide)] at H;exact H
         clear H;have H:=H1;clear H1;by_cases c12 : (Int.tmod x12_1 3) < 2
         ·
          rw [if_pos c12] at H;have c12b0 : decide ((Int.tmod x12_1 3) < 2) = true:=dT c12;clear c12;by_cases c13 : z00 ≥ 0
          ·
           rw [if_pos c13] at H;have c13b0 : decide (0 ≤ z00) = true:=dT c13;clear c13;have H':=zM H;clear H;go_wp2;go_roundg kj7
           case measure => have:=HK1.out;have:=HJ7.out;omega
           case rel => exact ⟨(Go.bits .or .u64 (IntKind.u64.wrap (x4_1 * 16)) (IntKind.u64.wrap (z00))),(wrap64 (x12_1 + 1)),(by first|rfl|(simp;done)|(simp [*];done)),(by first|rfl|(simp;done)|(simp [*];done)),H',⟨by have:=HK1.out;have:=HJ7.out;omega⟩,by repeat (first|exact Drawn0.refl _|apply Drawn0.step)⟩
          rw [if_neg c13] at H;have c13b0 : decide (0 ≤ z00) = false:=dF c13;clear c13;simp only [Option.some.injEq,Prod.mk.injEq] at H;obtain ⟨rfl,rfl⟩:=H;go_wp2;go_ret2
          exact ⟨by first|rfl|(simp;done)|(simp [*];done),by repeat (first|exact Drawn0.refl _|apply Drawn0.step)⟩
         rw [if_neg c12] at H;have c12b0 : decide ((Int.tmod x12_1 3) < 2) = false:=dF c12;clear c12;simp only [Option.some.injEq,Prod.mk.injEq] at H;obtain ⟨rfl,rfl⟩:=H;go_wp2;go_ret2
         exact ⟨by first|rfl|(simp;done)|(simp [*];done),by repeat (first|exact Drawn0.refl _|apply Drawn0.step)⟩
      rw [if_neg c5] at H;exact absurd H (by simp)
     rw [if_neg c4] at H;exact absurd H (by simp)
    rw [if_neg c3] at H;have c3b0 : decide (x12_1 < (a0.size : Int)) = false:=dF c3;clear c3;simp only [Option.some.injEq,Prod.mk.injEq] at H;obtain ⟨rfl,rfl⟩:=H;go_wp2;go_ret2
    exact ⟨by first|rfl|(simp;done)|(simp [*];done),by repeat (first|exact Drawn0.refl _|apply Drawn0.step)⟩
 rw [if_neg c2] at H;have c2b0 : ((a0.size : Int) == 17) = false:=beq_eq_false_iff_ne.mpr c2;have c2b1 : ((a0.size : Int) != 17) = true:=bne_iff_ne.mpr c2;simp only [Option.some.injEq,Prod.mk.injEq] at H;obtain ⟨rfl,rfl⟩:=H;go_enter Try.func51,Try.ntmps51
 go_wp2;go_ret2
 exact ⟨by first|rfl|(simp;done)|(simp [*];done),by repeat (first|exact Drawn0.refl _|apply Drawn0.step)⟩

/-! ### field_may: function 69 -/
def field_may.f (a0 : Int) : Option (Bool) := if a0 ≥ 1 then (some (decide (a0 ≤ 64))) else (some false)
set_option maxHeartbeats 8000000 in
set_option maxRecDepth 100000 in
theorem field_may.calls (a0 : Int) (r : Bool) (w : World) (h : field_may.f a0 = some r) :
  Calls Try.prog 69 #[.int .i64 a0] w fun e w' => e = .returned (.bool r) ∧ Drawn0 w w' := by
 have H : (if a0 ≥ 1 then (some (decide (a0 ≤ 64))) else (some false)) = some r:=h;clear h;by_cases c2 : a0 ≥ 1
 ·
  rw [if_pos c2] at H;have c2b0 : decide (1 ≤ a0) = true:=dT c2;clear c2;obtain rfl:=Option.some.inj H;go_enter Try.func69,Try.ntmps69
  go_wp2;go_ret;exact ⟨by first|rfl|(simp;done)|(simp [*];done),by repeat (first|exact Drawn0.refl _|apply Drawn0.step)⟩
 rw [if_neg c2] at H;have c2b0 : decide (1 ≤ a0) = false:=dF c2;clear c2;obtain rfl:=Option.some.inj H;go_enter Try.func69,Try.ntmps69
 go_wp2;go_ret;exact ⟨by first|rfl|(simp;done)|(simp [*];done),by repeat (first|exact Drawn0.refl _|apply Drawn0.step)⟩

-- NOT PRINTED: function 70 (field_writer_bit)

/-! ### field_Pack: function 55 (given: its walk is in another text) -/

def field_Pack.f (l0 : List S100) : Option (ByteArray × Int) := Gv.pack (l0.map fun x => (x.f0, x.f1))
theorem field_Pack.calls (A0 : Option Addr) (c0 : Nat) (l0 : List S100) (r1 : ByteArray) (r2 : Int) (w : World) (hr0 : Kd.C k100 w A0 l0.length l0) (hc0 : l0.length ≤ c0) (h : field_Pack.f l0 = some (r1, r2)) :
  Calls Try.prog 55 #[.slice A0 l0.length c0] w fun e w' => e = .returned (.tuple #[.string r1, .int .i64 r2]) ∧ Below w.heap.size w w' := by
 have hp:=Gv.pack_calls A0 c0 (l0.map fun x : S100 => (x.f0,x.f1)) w (fun i hi => by
  rw [List.length_map] at hi;obtain ⟨ad,e,h1,h2⟩:=at_T100 hr0 (i : Int) (by omega) (by omega);refine ⟨ad,e,?_,?_⟩
  ·
   rw [Int.toNat_natCast] at h1;rw [h1];simp [rd_T100,List.getD_eq_getElem?_getD,List.getElem?_eq_getElem hi]
  rw [Int.toNat_natCast] at h2;rw [h2];simp [rd_T100,List.getD_eq_getElem?_getD,List.getElem?_eq_getElem hi]) (by rw [List.length_map];exact hc0) r1 r2 h
 rw [List.length_map] at hp;exact hp


end Go.Proofs.Ytapicoienpbdfaa.PPlanTells
