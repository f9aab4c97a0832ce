-- Written by a program of this work, after the translation.
import Derived.Test.YtapicoienpbdfaaPWatchPlaysx0
import Derived.Test.YtapicoienpbdfaaPWatchPlaysx4
namespace Go.Proofs.Ytapicoienpbdfaa.PWatchPlays
open Go.RowKit Go.Proofs.YtapicoienpbdfaaW.PrintWords Go.Proofs.YtapicoienpbdfaaW.PrintLast Go.Proofs.YtapicoienpbdfaaW.PrintMore
attribute [local go_sem] max2_int min2_int max_two min_two max_three min_three max_four min_four   -- for this text's walks alone
set_option linter.unusedVariables false
set_option linter.unusedSimpArgs false

/-! ### carouselref01_Split: function 73 -/
mutual
def carouselref01_Split.l0 : Nat → ByteArray → List Int → Int → Int → Option (List Int × ByteArray × Int)
  | 0, _, _, _, _ => none
  | k + 1, x0, x1, x7, x8 => if x8 < (x1.length : Int) then (if 0 ≤ x8 then (if (rd x1 x8) < 1 then (some (([] : List Int), (⟨#[]⟩ : ByteArray), 4)) else (if (rd x1 x8) > 64 then (some (([] : List Int), (⟨#[]⟩ : ByteArray), 4)) else (carouselref01_Split.l0 k x0 x1 (wrap64 (x7 + (rd x1 x8))) (wrap64 (x8 + 1))))) else (none)) else (if (Int.tmod x7 8) = 0 then (if (wrap64 (Int.tdiv x7 8)) > (x0.size : Int) then (some (([] : List Int), (⟨#[]⟩ : ByteArray), 1)) else (carouselref01_Split.l1 k x0 x1 x7 ([] : List Int) 0)) else (some (([] : List Int), (⟨#[]⟩ : ByteArray), 3)))
def carouselref01_Split.l1 : Nat → ByteArray → List Int → Int → List Int → Int → Option (List Int × ByteArray × Int)
  | 0, _, _, _, _, _ => none
  | k + 1, x0, x1, x7, x9, x10 => if x10 < (wrap64 (Int.tdiv x7 8)) then (if 0 ≤ x10 then (if x10 < (x0.size : Int) then ((carouselref01_bits.f k (IntKind.u64.wrap (bt x0 x10)) 8).bind fun bt281 => (if x9.length + bt281.1.length < 17592186044416 then (carouselref01_Split.l1 k x0 x1 x7 (x9 ++ bt281.1) (wrap64 (x10 + 1))) else (none))) else (none)) else (none)) else (carouselref01_Split.l2 k x0 x1 x7 x9 ([] : List Int) 0 0)
def carouselref01_Split.l2 : Nat → ByteArray → List Int → Int → List Int → List Int → Int → Int → Option (List Int × ByteArray × Int)
  | 0, _, _, _, _, _, _, _ => none
  | k + 1, x0, x1, x7, x9, x13, x14, x15 => if x15 < (x1.length : Int) then (carouselref01_Split.l3 k x0 x1 x7 x9 x13 x14 x15 0 0) else (if 0 ≤ (wrap64 (Int.tdiv x7 8)) then (if (wrap64 (Int.tdiv x7 8)) ≤ (x0.size : Int) then (some (x13, x0.extract ((wrap64 (Int.tdiv x7 8)) : Int).toNat x0.size, 0)) else (none)) else (none))
def carouselref01_Split.l3 : Nat → ByteArray → List Int → Int → List Int → List Int → Int → Int → Int → Int → Option (List Int × ByteArray × Int)
  | 0, _, _, _, _, _, _, _, _, _ => none
  | k + 1, x0, x1, x7, x9, x13, x14, x15, x16, x17 => if 0 ≤ x15 then (if x15 < (x1.length : Int) then (if x17 < (rd x1 x15) then (if 0 ≤ (wrap64 (x14 + x17)) then (if (wrap64 (x14 + x17)) < (x9.length : Int) then (carouselref01_Split.l3 k x0 x1 x7 x9 x13 x14 x15 (IntKind.u64.wrap ((IntKind.u64.wrap (x16 * 2)) + (IntKind.u64.wrap (rd x9 (wrap64 (x14 + x17)))))) (wrap64 (x17 + 1))) else (none)) else (none)) else (if x13.length < 17592186044416 then (carouselref01_Split.l2 k x0 x1 x7 x9 (x13 ++ [x16]) (wrap64 (x14 + (rd x1 x15))) (wrap64 (x15 + 1))) else (none))) else (none)) else (none)
end
def carouselref01_Split.f (k : Nat) (a0 : ByteArray) (l1 : List Int) : Option (List Int × ByteArray × Int) := carouselref01_Split.l0 k a0 l1 0 0
theorem carouselref01_Split.mono_l : ∀ k, (∀ y0 y1 y2 y3, LeO (carouselref01_Split.l0 k y0 y1 y2 y3) (carouselref01_Split.l0 (k + 1) y0 y1 y2 y3)) ∧ (∀ y0 y1 y2 y3 y4, LeO (carouselref01_Split.l1 k y0 y1 y2 y3 y4) (carouselref01_Split.l1 (k + 1) y0 y1 y2 y3 y4)) ∧ (∀ y0 y1 y2 y3 y4 y5 y6, LeO (carouselref01_Split.l2 k y0 y1 y2 y3 y4 y5 y6) (carouselref01_Split.l2 (k + 1) y0 y1 y2 y3 y4 y5 y6)) ∧ (∀ y0 y1 y2 y3 y4 y5 y6 y7 y8, LeO (carouselref01_Split.l3 k y0 y1 y2 y3 y4 y5 y6 y7 y8) (carouselref01_Split.l3 (k + 1) y0 y1 y2 y3 y4 y5 y6 y7 y8))
 | 0 => ⟨fun _ _ _ _ r h => by simp [carouselref01_Split.l0] at h, fun _ _ _ _ _ r h => by simp [carouselref01_Split.l1] at h, fun _ _ _ _ _ _ _ r h => by simp [carouselref01_Split.l2] at h, fun _ _ _ _ _ _ _ _ _ r h => by simp [carouselref01_Split.l3] at h⟩
 | k + 1 => by
  obtain ⟨ih0, ih1, ih2, ih3⟩ := carouselref01_Split.mono_l k
  refine ⟨?_, ?_, ?_, ?_⟩
  ·
   intro y0 y1 y2 y3
   unfold carouselref01_Split.l0
   repeat' first
   | (with_reducible exact ih0 _ _ _ _)
   | (with_reducible exact ih1 _ _ _ _ _)
   | (with_reducible exact ih2 _ _ _ _ _ _ _)
   | (with_reducible exact ih3 _ _ _ _ _ _ _ _ _)
   | (with_reducible exact carouselref01_bits.mono _ _ _)
   | (with_reducible exact LeO.refl _)
   | (with_reducible exact LeO.none _)
   | (with_reducible refine LeO.ite ?_ ?_)
   | (with_reducible refine LeO.bind ?_ (fun _ => ?_))
   | exact ih0 _ _ _ _
   | exact ih1 _ _ _ _ _
   | exact ih2 _ _ _ _ _ _ _
   | exact ih3 _ _ _ _ _ _ _ _ _
   | exact carouselref01_bits.mono _ _ _
   | exact LeO.none _
   | refine LeO.ite ?_ ?_
   | refine LeO.bind ?_ (fun _ => ?_)
  ·
   intro y0 y1 y2 y3 y4
   unfold carouselref01_Split.l1
   repeat' first
   | (with_reducible exact ih0 _ _ _ _)
   | (with_reducible exact ih1 _ _ _ _ _)
   | (with_reducible exact ih2 _ _ _ _ _ _ _)
   | (with_reducible exact ih3 _ _ _ _ _ _ _ _ _)
   | (with_reducible exact carouselref01_bits.mono _ _ _)
   | (with_reducible exact LeO.refl _)
   | (with_reducible exact LeO.none _)
   | (with_reducible refine LeO.ite ?_ ?_)
   | (with_reducible refine LeO.bind ?_ (fun _ => ?_))
   | exact ih0 _ _ _ _
   | exact ih1 _ _ _ _ _
   | exact ih2 _ _ _ _ _ _ _
   | exact ih3 _ _ _ _ _ _ _ _ _
   | exact carouselref01_bits.mono _ _ _
   | exact LeO.none _
   | refine LeO.ite ?_ ?_
   | refine LeO.bind ?_ (fun _ => ?_)
  ·
   intro y0 y1 y2 y3 y4 y5 y6
   unfold carouselref01_Split.l2
   repeat' first
   | (with_reducible exact ih0 _ _ _ _)
   | (with_reducible exact ih1 _ _ _ _ _)
   | (with_reducible exact ih2 _ _ _ _ _ _ _)
   | (with_reducible exact ih3 _ _ _ _ _ _ _ _ _)
   | (with_reducible exact carouselref01_bits.mono _ _ _)
   | (with_reducible exact LeO.refl _)
   | (with_reducible exact LeO.none _)
   | (with_reducible refine LeO.ite ?_ ?_)
   | (with_reducible refine LeO.bind ?_ (fun _ => ?_))
   | exact ih0 _ _ _ _
   | exact ih1 _ _ _ _ _
   | exact ih2 _ _ _ _ _ _ _
   | exact ih3 _ _ _ _ _ _ _ _ _
   | exact carouselref01_bits.mono _ _ _
   | exact LeO.none _
   | refine LeO.ite ?_ ?_
   | refine LeO.bind ?_ (fun _ => ?_)
  intro y0 y1 y2 y3 y4 y5 y6 y7 y8
  unfold carouselref01_Split.l3
  repeat' first
  | (with_reducible exact ih0 _ _ _ _)
  | (with_reducible exact ih1 _ _ _ _ _)
  | (with_reducible exact ih2 _ _ _ _ _ _ _)
  | (with_reducible exact ih3 _ _ _ _ _ _ _ _ _)
  | (with_reducible exact carouselref01_bits.mono _ _ _)
  | (with_reducible exact LeO.refl _)
  | (with_reducible exact LeO.none _)
  | (with_reducible refine LeO.ite ?_ ?_)
  | (with_reducible refine LeO.bind ?_ (fun _ => ?_))
  | exact ih0 _ _ _ _
  | exact ih1 _ _ _ _ _
  | exact ih2 _ _ _ _ _ _ _
  | exact ih3 _ _ _ _ _ _ _ _ _
  | exact carouselref01_bits.mono _ _ _
  | exact LeO.none _
  | refine LeO.ite ?_ ?_
  | refine LeO.bind ?_ (fun _ => ?_)
theorem carouselref01_Split.mono : ∀ a0 a1 k, LeO (carouselref01_Split.f k a0 a1) (carouselref01_Split.f (k + 1) a0 a1) := by
 intro a0 a1 k;obtain ⟨ih0,ih1,ih2,ih3⟩:=carouselref01_Split.mono_l k;unfold carouselref01_Split.f
 repeat' first
  | (with_reducible exact ih0 _ _ _ _)
  | (with_reducible exact ih1 _ _ _ _ _)
  | (with_reducible exact ih2 _ _ _ _ _ _ _)
  | (with_reducible exact ih3 _ _ _ _ _ _ _ _ _)
  | (with_reducible exact carouselref01_bits.mono _ _ _)
  | (with_reducible exact LeO.refl _)
  | (with_reducible exact LeO.none _)
  | (with_reducible refine LeO.ite ?_ ?_)
  | (with_reducible refine LeO.bind ?_ (fun _ => ?_))
  | exact ih0 _ _ _ _
  | exact ih1 _ _ _ _ _
  | exact ih2 _ _ _ _ _ _ _
  | exact ih3 _ _ _ _ _ _ _ _ _
  | exact carouselref01_bits.mono _ _ _
  | exact LeO.none _
  | refine LeO.ite ?_ ?_
  | refine LeO.bind ?_ (fun _ => ?_)
set_option maxHeartbeats 8000000 in
set_option maxRecDepth 100000 in
theorem carouselref01_Split.calls (k : Nat) (a0 : ByteArray) (A1 : Option Addr) (c1 : Nat) (l1 : List Int) (r1 : List Int) (r2 : ByteArray) (r3 : Int) (w : World) (hr1 : Kd.C (Kd.int .i64) w A1 l1.length l1) (hc1 : l1.length ≤ c1) (h : carouselref01_Split.f k a0 l1 = some (r1, r2, r3)) :
  Calls Try.prog 73 #[.string a0, .slice A1 l1.length c1] w fun e w' => ∃ v0_ : Value, e = .returned (.tuple #[v0_, .string r2, .int .i64 r3]) ∧ Kd.R (Kd.int .u64) 33 w' w.heap.size (fun _ => True) v0_ r1 ∧ Below w.heap.size w w' := by
 have HR1:=zM hr1;have HC1:=zM hc1;clear hr1 hc1;have HB:=zM (Below.refl w.heap.size w);have H : (carouselref01_Split.l0 k a0 l1 0 0) = some (r1,r2,r3):=h;clear h;have H':=zM H;clear H;go_enter Try.func73,Try.ntmps73
 go_wp2;repeat (go_quiet (fail);try go_wp2)
 go_loopg [7,8] k (fun kq v7 v8 w' => ∃ (x7_1 : Int) (x8_1 : Int),v7 = .int .i64 x7_1 ∧ v8 = .int .i64 x8_1 ∧ Aside0 (carouselref01_Split.l0 kq a0 l1 x7_1 x8_1 = some (r1,r2,r3)) ∧ Aside0 (kq ≤ k) ∧ Aside0 (Below w.heap.size w w'))
 case atStart => exact ⟨(0),(0),(by first|rfl|(simp;done)|(simp [*];done)),(by first|rfl|(simp;done)|(simp [*];done)),H',⟨Nat.le_refl _⟩,⟨by repeat first|(with_reducible first|exact HB.out|apply yA|apply yN|apply yD)|exact HB.out⟩⟩
 case round =>
  clear H';try clear c1
  try clear p2
  obtain ⟨x7_1,x8_1,rfl,rfl,HA,HK1,HB⟩:=hrel;cases gk with
 | zero => exact absurd HA.out (by simp [carouselref01_Split.l0])
 | succ k1 =>
   have H:=HA.out;clear HA;simp only [carouselref01_Split.l0] at H;by_cases c3 : x8_1 < (l1.length : Int)
   ·
    rw [if_pos c3] at H;have c3b0 : decide (x8_1 < (l1.length : Int)) = true:=dT c3;clear c3;by_cases c4 : 0 ≤ x8_1
    ·
     rw [if_pos c4] at H;have c4b0 : decide (0 ≤ x8_1) = true:=dT c4;clear c4;by_cases c5 : (rd l1 x8_1) < 1
     ·
      rw [if_pos c5] at H;have c5b0 : decide ((rd l1 x8_1) < 1) = true:=dT c5;clear c5;simp only [Option.some.injEq,Prod.mk.injEq] at H;obtain ⟨rfl,rfl,rfl⟩:=H;have p278 : 0 ≤ (x8_1 : Int):=of_decide_eq_true (by first|(with_reducible assumption)|assumption);have q278 : x8_1 < (l1.length : Int):=of_decide_eq_true (by first|(with_reducible assumption)|assumption);obtain ⟨ad278,e278,z00⟩:=Kd.at_int HR1.out x8_1 p278 q278;cases e278;replace z00:=(HB.out.cell (World.block_lt_of_cell? w _ z00)).trans z00;replace p278:=eq_true p278;replace q278:=eq_true q278;go_wp2;repeat (go_quiet (fail);try go_wp2)
      go_ret3
      exact ⟨_,by first|rfl|(simp [errW_none,errW_some] <;> rfl)|(simp [*,errW_none,errW_some] <;> rfl),by first|exact Kd.R_nil _ _ _ _ _|exact Kd.N_nil _ _ _ _ _|exact Kd.V_nil _ _ _ _ _|exact Kd.Q_nil _ _ _ _ _|exact Kd.S_nil _ _ _ _ _,by repeat first|(with_reducible first|exact HB.out|apply yA|apply yN|apply yD)|exact HB.out⟩
     rw [if_neg c5] at H;have c5b0 : decide ((rd l1 x8_1) < 1) = false:=dF c5;clear c5;by_cases c6 : (rd l1 x8_1) > 64
     ·
      rw [if_pos c6] at H;have c6b0 : decide (64 < (rd l1 x8_1)) = true:=dT c6;clear c6;simp only [Option.some.injEq,Prod.mk.injEq] at H;obtain ⟨rfl,rfl,rfl⟩:=H;have p278 : 0 ≤ (x8_1 : Int):=of_decide_eq_true (by first|(with_reducible assumption)|assumption);have q278 : x8_1 < (l1.length : Int):=of_decide_eq_true (by first|(with_reducible assumption)|assumption);obtain ⟨ad278,e278,z00⟩:=Kd.at_int HR1.out x8_1 p278 q278;cases e278;replace z00:=(HB.out.cell (World.block_lt_of_cell? w _ z00)).trans z00;replace p278:=eq_true p278;replace q278:=eq_true q278;have p279 : 0 ≤ (x8_1 : Int):=of_decide_eq_true (by first|(with_reducible assumption)|assumption);have q279 : x8_1 < (l1.length : Int):=of_decide_eq_true (by first|(with_reducible assumption)|assumption);obtain ⟨ad279,e279,z01⟩:=Kd.at_int HR1.out x8_1 p279 q279;obtain rfl : ad278 = ad279:=(by injection e279)
      replace z01:=(HB.out.cell (World.block_lt_of_cell? w _ z01)).trans z01;replace p279:=eq_true p279;replace q279:=eq_true q279;go_wp2;repeat (go_quiet (fail);try go_wp2)
      go_ret3
      exact ⟨_,by first|rfl|(simp [errW_none,errW_some] <;> rfl)|(simp [*,errW_none,errW_some] <;> rfl),by first|exact Kd.R_nil _ _ _ _ _|exact Kd.N_nil _ _ _ _ _|exact Kd.V_nil _ _ _ _ _|exact Kd.Q_nil _ _ _ _ _|exact Kd.S_nil _ _ _ _ _,by repeat first|(with_reducible first|exact HB.out|apply yA|apply yN|apply yD)|exact HB.out⟩
     rw [if_neg c6] at H;have c6b0 : decide (64 < (rd l1 x8_1)) = false:=dF c6;clear c6;have H':=zM H;clear H;have p278 : 0 ≤ (x8_1 : Int):=of_decide_eq_true (by first|(with_reducible assumption)|assumption);have q278 : x8_1 < (l1.length : Int):=of_decide_eq_true (by first|(with_reducible assumption)|assumption);obtain ⟨ad278,e278,z00⟩:=Kd.at_int HR1.out x8_1 p278 q278;cases e278;replace z00:=(HB.out.cell (World.block_lt_of_cell? w _ z00)).trans z00;replace p278:=eq_true p278;replace q278:=eq_true q278;have p279 : 0 ≤ (x8_1 : Int):=of_decide_eq_true (by first|(with_reducible assumption)|assumption);have q279 : x8_1 < (l1.length : Int):=of_decide_eq_true (by first|(with_reducible assumption)|assumption);obtain ⟨ad279,e279,z01⟩:=Kd.at_int HR1.out x8_1 p279 q279;obtain rfl : ad278 = ad279:=(by injection e279)
     replace z01:=(HB.out.cell (World.block_lt_of_cell? w _ z01)).trans z01;replace p279:=eq_true p279;replace q279:=eq_true q279;have p280 : 0 ≤ (x8_1 : Int):=of_decide_eq_true (by first|(with_reducible assumption)|assumption);have q280 : x8_1 < (l1.length : Int):=of_decide_eq_true (by first|(with_reducible assumption)|assumption);obtain ⟨ad280,e280,z04⟩:=Kd.at_int HR1.out x8_1 p280 q280;obtain rfl : ad278 = ad280:=(by injection e280)
     replace z04:=(HB.out.cell (World.block_lt_of_cell? w _ z04)).trans z04;replace p280:=eq_true p280;replace q280:=eq_true q280;go_wp2;repeat (go_quiet (fail);try go_wp2)
     go_roundg k1
     case measure => have:=HK1.out;omega
     case rel => exact ⟨(wrap64 (x7_1 + (rd l1 x8_1))),(wrap64 (x8_1 + 1)),(by first|rfl|(simp;done)|(simp [*];done)),(by first|rfl|(simp;done)|(simp [*];done)),H',⟨by have:=HK1.out;omega⟩,⟨by repeat first|(with_reducible first|exact HB.out|apply yA|apply yN|apply yD)|exact HB.out⟩⟩
    rw [if_neg c4] at H;exact absurd H (by simp)
   rw [if_neg c3] at H;have c3b0 : decide (x8_1 < (l1.length : Int)) = false:=dF c3;clear c3;by_cases c7 : (Int.tmod x7_1 8) = 0
   ·
    rw [if_pos c7] at H;have c7b0 : ((Int.tmod x7_1 8) == 0) = true:=beq_iff_eq.mpr c7;have c7b1 : ((Int.tmod x7_1 8) != 0) = false:=bne_eq_false_iff_eq.mpr c7;clear c7;by_cases c8 : (wrap64 (Int.tdiv x7_1 8)) > (a0.size : Int)
    ·
     rw [if_pos c8] at H;have c8b0 : decide ((a0.size : Int) < (wrap64 (Int.tdiv x7_1 8))) = true:=dT c8;clear c8;simp only [Option.some.injEq,Prod.mk.injEq] at H;obtain ⟨rfl,rfl,rfl⟩:=H;go_wp2;repeat (go_quiet (fail);try go_wp2)
     go_ret3
     exact ⟨_,by first|rfl|(simp [errW_none,errW_some] <;> rfl)|(simp [*,errW_none,errW_some] <;> rfl),by first|exact Kd.R_nil _ _ _ _ _|exact Kd.N_nil _ _ _ _ _|exact Kd.V_nil _ _ _ _ _|exact Kd.Q_nil _ _ _ _ _|exact Kd.S_nil _ _ _ _ _,by repeat first|(with_reducible first|exact HB.out|apply yA|apply yN|apply yD)|exact HB.out⟩
    rw [if_neg c8] at H;have c8b0 : decide ((a0.size : Int) < (wrap64 (Int.tdiv x7_1 8))) = false:=dF c8;clear c8;have H':=zM H;clear H;go_wp2;repeat (go_quiet (fail);try go_wp2)
    go_loopg [9,10] k1 (fun kq v9 v10 w' => ∃ (x9_2 : List Int) (x10_2 : Int),v10 = .int .i64 x10_2 ∧ Aside0 (carouselref01_Split.l1 kq a0 l1 x7_1 x9_2 x10_2 = some (r1,r2,r3)) ∧ Aside0 (kq ≤ k1) ∧ Aside0 (Kd.R (Kd.int .i64) 3 w' w.heap.size (fun _ => True) v9 x9_2) ∧ Aside0 (Below w.heap.size w w'))
    case atStart => exact ⟨(([] : List Int)),(0),(by first|rfl|(simp;done)|(simp [*];done)),H',⟨Nat.le_refl _⟩,⟨by first|exact Kd.R_nil _ _ _ _ _|exact Kd.N_nil _ _ _ _ _|exact Kd.V_nil _ _ _ _ _|exact Kd.Q_nil _ _ _ _ _|exact Kd.S_nil _ _ _ _ _⟩,⟨by repeat first|(with_reducible first|exact HB.out|apply yA|apply yN|apply yD)|exact HB.out⟩⟩
    case round =>
     clear H';try clear c1
     try clear p2
     try clear q2
     try clear hx2
     try clear c3
     try clear c3b0
     try clear c4
     try clear c4b0
     try clear c5
     try clear c5b0
     try clear c6
     try clear c6b0
     try clear p6
     try clear c7
     try clear c7b0
     try clear c7b1
     try clear c8
     try clear c8b0
     try clear z00
     try clear z01
     try clear z04
     try clear p2
     try clear p278
     try clear p279
     try clear p280
     try clear q278
     try clear q279
     try clear q280
     obtain ⟨x9_2,x10_2,rfl,HA,HK2,HO_9,HB⟩:=hrel;cases gk with
    | zero => exact absurd HA.out (by simp [carouselref01_Split.l1])
    | succ k2 =>
      have H:=HA.out;clear HA;simp only [carouselref01_Split.l1] at H;by_cases c9 : x10_2 < (wrap64 (Int.tdiv x7_1 8))
      ·
       rw [if_pos c9] at H;have c9b0 : decide (x10_2 < (wrap64 (Int.tdiv x7_1 8))) = true:=dT c9;clear c9;by_cases c10 : 0 ≤ x10_2
       ·
        rw [if_pos c10] at H;have c10b0 : decide (0 ≤ x10_2) = true:=dT c10;clear c10;by_cases c11 : x10_2 < (a0.size : Int)
        ·
         rw [if_pos c11] at H;have c11b0 : decide (x10_2 < (a0.size : Int)) = true:=dT c11;clear c11;replace H:=Option.bind_eq_some_iff.mp H;obtain ⟨⟨z06,z09⟩,A130,H⟩:=H;try dsimp only at H
         have A13:=zM A130;clear A130;by_cases c14 : x9_2.length + z06.length < 17592186044416
         ·
          rw [if_pos c14] at H;have LMc14:=zM c14;clear c14;obtain ⟨y285,hy285⟩ : ∃ y_ : List Int,y_ = (x9_2 ++ z06):=⟨_,rfl⟩
          replace H : (carouselref01_Split.l1 k2 a0 l1 x7_1 y285 (wrap64 (x10_2 + 1))) = some (r1,r2,r3):=by first|(rw [hy285];with_reducible exact H)|(have H2_:=(Option.bind_some _ _).symm.trans H;rw [hy285];with_reducible exact H2_)|(have H2_:=(Option.bind_some _ _).symm.trans H;with_reducible exact H2_)|with_reducible exact H|(rw [hy285];exact H)|exact H
          have Ny285:=zM hy285;clear hy285;have H':=zM H;clear H;have p12 : 0 ≤ (x10_2 : Int):=of_decide_eq_true (by first|(with_reducible assumption)|assumption);have q12 : x10_2 < (a0.size : Int):=of_decide_eq_true (by first|(with_reducible assumption)|assumption);have z0b:=bt_at a0 x10_2;replace p12:=eq_true p12;replace q12:=eq_true q12;go_wp2_with (first|(go_at_call 81;(with_reducible refine (carouselref01_bits.calls k2 (IntKind.u64.wrap (bt a0 x10_2)) 8 z06 z09 _ A13.out).mono ?_);rintro e w15 ⟨v283,rfl,ho0,hb⟩;have n0_:=zM (Kd.R_elder' (by (with_reducible repeat (first|apply Kd.R_alloc|apply Kd.R_drewN|apply Kd.R_drew));exact HO_9.out) (Kd.R_base ho0) hb);have n1_:=zM (Kd.R_lower (Kd.R_new' ho0 (Kd.R_lt (by (with_reducible repeat (first|apply Kd.R_alloc|apply Kd.R_drewN|apply Kd.R_drew));exact HO_9.out))) (yZ (by repeat first|(with_reducible first|exact HB.out|apply yA|apply yN|apply yD)|exact HB.out)));have n2_:=zM (yT (by repeat first|(with_reducible first|exact HB.out|apply yA|apply yN|apply yD)|exact HB.out) hb);clear HO_9;clear HB;have HO_9:=n0_;have z02:=n1_;have HB:=n2_;clear n0_ n1_ n2_;(try clear hb);(try clear hb2);(try clear hk);(try clear hi);(try clear ho0);obtain ⟨Ao17,co17,eo17⟩:=Kd.R_slice z02.out;subst eo17)|((with_reducible refine gate_builtin (b:=.append) (xs:=#[.tmp 64,.tmp 65]) rfl ?_);at_builtin;refine Kd.R_append_rows (Kd.int .i64) (w0:=w) w.heap.size rfl (.tmp 64) (.tmp 65) 120 3 (.int .i64 0) 8 rfl Try.underlying120 info3 rfl (by decide) (by omega) u9 x9_2 z06 _ _ _ (fun k_ => some k_ ≠ (.slice Ao17 z06.length co17 : Value).ownBlock) (fun _ => False) rfl rfl ?aO ?aR (fun _ _ h => h) (fun _ h => h.elim) ?aF ?aB ?aS ?aL ?_;(case aR => repeat (first|exact (Kd.R_reads' z02.out).2.2|(with_reducible refine Kd.C_alloc ?_ _)|(with_reducible refine Kd.C_drewN ?_ _)|(with_reducible refine Kd.C_drew ?_)));(case aB => exact (by repeat first|(with_reducible first|exact HB.out|apply yA|apply yN|apply yD)|exact HB.out));(case aF => exact (fun k_ hk => Kd.fresh' (Kd.R_lt (by (with_reducible repeat (first|apply Kd.R_alloc|apply Kd.R_drewN|apply Kd.R_drew));exact z02.out)) k_ hk));(case aO => exact (by (with_reducible repeat (first|apply Kd.R_alloc|apply Kd.R_drewN|apply Kd.R_drew));exact Kd.R_mono HO_9.out (fun _ hk => hk.2)));(case aS => exact (yZ (by repeat first|(with_reducible first|exact HB.out|apply yA|apply yN|apply yD)|exact HB.out)));(case aL => have:=LMc14.out;omega);intro v286 w16 ho hb hg hat;rw [← Ny285.out] at ho;have n0_:=zM (Kd.R_after (ok:=(fun _ => True)) (by (with_reducible repeat (first|apply Kd.R_alloc|apply Kd.R_drewN|apply Kd.R_drew));exact z02.out) hg hat);have n1_:=zM (hb);have n2_:=zM (ho);clear z02;clear HB;clear HO_9;have z02:=n0_;have HB:=n1_;have z07:=n2_;clear n0_ n1_ n2_;clear ho hb hg hat))
          repeat (go_quiet (first|(go_at_call 81;(with_reducible refine (carouselref01_bits.calls k2 (IntKind.u64.wrap (bt a0 x10_2)) 8 z06 z09 _ A13.out).mono ?_);rintro e w15 ⟨v283,rfl,ho0,hb⟩;have n0_:=zM (Kd.R_elder' (by (with_reducible repeat (first|apply Kd.R_alloc|apply Kd.R_drewN|apply Kd.R_drew));exact HO_9.out) (Kd.R_base ho0) hb);have n1_:=zM (Kd.R_lower (Kd.R_new' ho0 (Kd.R_lt (by (with_reducible repeat (first|apply Kd.R_alloc|apply Kd.R_drewN|apply Kd.R_drew));exact HO_9.out))) (yZ (by repeat first|(with_reducible first|exact HB.out|apply yA|apply yN|apply yD)|exact HB.out)));have n2_:=zM (yT (by repeat first|(with_reducible first|exact HB.out|apply yA|apply yN|apply yD)|exact HB.out) hb);clear HO_9;clear HB;have HO_9:=n0_;have z02:=n1_;have HB:=n2_;clear n0_ n1_ n2_;(try clear hb);(try clear hb2);(try clear hk);(try clear hi);(try clear ho0);obtain ⟨Ao17,co17,eo17⟩:=Kd.R_slice z02.out;subst eo17)|((with_reducible refine gate_builtin (b:=.append) (xs:=#[.tmp 64,.tmp 65]) rfl ?_);at_builtin;refine Kd.R_append_rows (Kd.int .i64) (w0:=w) w.heap.size rfl (.tmp 64) (.tmp 65) 120 3 (.int .i64 0) 8 rfl Try.underlying120 info3 rfl (by decide) (by omega) u9 x9_2 z06 _ _ _ (fun k_ => some k_ ≠ (.slice Ao17 z06.length co17 : Value).ownBlock) (fun _ => False) rfl rfl ?aO ?aR (fun _ _ h => h) (fun _ h => h.elim) ?aF ?aB ?aS ?aL ?_;(case aR => repeat (first|exact (Kd.R_reads' z02.out).2.2|(with_reducible refine Kd.C_alloc ?_ _)|(with_reducible refine Kd.C_drewN ?_ _)|(with_reducible refine Kd.C_drew ?_)));(case aB => exact (by repeat first|(with_reducible first|exact HB.out|apply yA|apply yN|apply yD)|exact HB.out));(case aF => exact (fun k_ hk => Kd.fresh' (Kd.R_lt (by (with_reducible repeat (first|apply Kd.R_alloc|apply Kd.R_drewN|apply Kd.R_drew));exact z02.out)) k_ hk));(case aO => exact (by (with_reducible repeat (first|apply Kd.R_alloc|apply Kd.R_drewN|apply Kd.R_drew));exact Kd.R_mono HO_9.out (fun _ hk => hk.2)));(case aS => exact (yZ (by repeat first|(with_reducible first|exact HB.out|apply yA|apply yN|apply yD)|exact HB.out)));(case aL => have:=LMc14.out;omega);intro v286 w16 ho hb hg hat;rw [← Ny285.out] at ho;have n0_:=zM (Kd.R_after (ok:=(fun _ => True)) (by (with_reducible repeat (first|apply Kd.R_alloc|apply Kd.R_drewN|apply Kd.R_drew));exact z02.out) hg hat);have n1_:=zM (hb);have n2_:=zM (ho);clear z02;clear HB;clear HO_9;have z02:=n0_;have HB:=n1_;have z07:=n2_;clear n0_ n1_ n2_;clear ho hb hg hat));try go_wp2_with (first|(go_at_call 81;(with_reducible refine (carouselref01_bits.calls k2 (IntKind.u64.wrap (bt a0 x10_2)) 8 z06 z09 _ A13.out).mono ?_);rintro e w15 ⟨v283,rfl,ho0,hb⟩;have n0_:=zM (Kd.R_elder' (by (with_reducible repeat (first|apply Kd.R_alloc|apply Kd.R_drewN|apply Kd.R_drew));exact HO_9.out) (Kd.R_base ho0) hb);have n1_:=zM (Kd.R_lower (Kd.R_new' ho0 (Kd.R_lt (by (with_reducible repeat (first|apply Kd.R_alloc|apply Kd.R_drewN|apply Kd.R_drew));exact HO_9.out))) (yZ (by repeat first|(with_reducible first|exact HB.out|apply yA|apply yN|apply yD)|exact HB.out)));have n2_:=zM (yT (by repeat first|(with_reducible first|exact HB.out|apply yA|apply yN|apply yD)|exact HB.out) hb);clear HO_9;clear HB;have HO_9:=n0_;have z02:=n1_;have HB:=n2_;clear n0_ n1_ n2_;(try clear hb);(try clear hb2);(try clear hk);(try clear hi);(try clear ho0);obtain ⟨Ao17,co17,eo17⟩:=Kd.R_slice z02.out;subst eo17)|((with_reducible refine gate_builtin (b:=.append) (xs:=#[.tmp 64,.tmp 65]) rfl ?_);at_builtin;refine Kd.R_append_rows (Kd.int .i64) (w0:=w) w.heap.size rfl (.tmp 64) (.tmp 65) 120 3 (.int .i64 0) 8 rfl Try.underlying120 info3 rfl (by decide) (by omega) u9 x9_2 z06 _ _ _ (fun k_ => some k_ ≠ (.slice Ao17 z06.length co17 : Value).ownBlock) (fun _ => False) rfl rfl ?aO ?aR (fun _ _ h => h) (fun _ h => h.elim) ?aF ?aB ?aS ?aL ?_;(case aR => repeat (first|exact (Kd.R_reads' z02.out).2.2|(with_reducible refine Kd.C_alloc ?_ _)|(with_reducible refine Kd.C_drewN ?_ _)|(with_reducible refine Kd.C_drew ?_)));(case aB => exact (by repeat first|(with_reducible first|exact HB.out|apply yA|apply yN|apply yD)|exact HB.out));(case aF => exact (fun k_ hk => Kd.fresh' (Kd.R_lt (by (with_reducible repeat (first|apply Kd.R_alloc|apply Kd.R_drewN|apply Kd.R_drew));exact z02.out)) k_ hk));(case aO => exact (by (with_reducible repeat (first|apply Kd.R_alloc|apply Kd.R_drewN|apply Kd.R_drew));exact Kd.R_mono HO_9.out (fun _ hk => hk.2)));(case aS => exact (yZ (by repeat first|(with_reducible first|exact HB.out|apply yA|apply yN|apply yD)|exact HB.out)));(case aL => have:=LMc14.out;omega);intro v286 w16 ho hb hg hat;rw [← Ny285.out] at ho;have n0_:=zM (Kd.R_after (ok:=(fun _ => True)) (by (with_reducible repeat (first|apply Kd.R_alloc|apply Kd.R_drewN|apply Kd.R_drew));exact z02.out) hg hat);have n1_:=zM (hb);have n2_:=zM (ho);clear z02;clear HB;clear HO_9;have z02:=n0_;have HB:=n1_;have z07:=n2_;clear n0_ n1_ n2_;clear ho hb hg hat)))
          go_roundg k2
          case measure => have:=HK1.out;have:=HK2.out;omega
          case rel => exact ⟨(y285),(wrap64 (x10_2 + 1)),(by first|rfl|(simp;done)|(simp [*];done)),H',⟨by have:=HK1.out;have:=HK2.out;omega⟩,⟨by (with_reducible repeat (first|apply Kd.R_alloc|apply Kd.R_drewN|apply Kd.R_drew));exact Kd.R_mono z07.out (fun _ hk => trivial)⟩,⟨by repeat first|(with_reducible first|exact HB.out|apply yA|apply yN|apply yD)|exact HB.out⟩⟩
         rw [if_neg c14] at H;exact absurd H (by simp)
        rw [if_neg c11] at H;exact absurd H (by simp)
       rw [if_neg c10] at H;exact absurd H (by simp)
      rw [if_neg c9] at H;have c9b0 : decide (x10_2 < (wrap64 (Int.tdiv x7_1 8))) = false:=dF c9;clear c9;have H':=zM H;clear H;go_wp2;repeat (go_quiet (fail);try go_wp2)
      go_loopg [13,14,15] k2 (fun kq v13 v14 v15 w' => ∃ (x13_3 : List Int) (x14_3 : Int) (x15_3 : Int),v14 = .int .i64 x14_3 ∧ v15 = .int .i64 x15_3 ∧ Aside0 (carouselref01_Split.l2 kq a0 l1 x7_1 x9_2 x13_3 x14_3 x15_3 = some (r1,r2,r3)) ∧ Aside0 (kq ≤ k2) ∧ Aside0 (Kd.R (Kd.int .i64) 3 w' w.heap.size (fun _ => True) u9 x9_2) ∧ Aside0 (Kd.R (Kd.int .u64) 33 w' w.heap.size (fun _ => True) v13 x13_3) ∧ Aside0 (Below w.heap.size w w'))
      case atStart => exact ⟨(([] : List Int)),(0),(0),(by first|rfl|(simp;done)|(simp [*];done)),(by first|rfl|(simp;done)|(simp [*];done)),H',⟨Nat.le_refl _⟩,⟨by (with_reducible repeat (first|apply Kd.R_alloc|apply Kd.R_drewN|apply Kd.R_drew));exact HO_9.out⟩,⟨by first|exact Kd.R_nil _ _ _ _ _|exact Kd.N_nil _ _ _ _ _|exact Kd.V_nil _ _ _ _ _|exact Kd.Q_nil _ _ _ _ _|exact Kd.S_nil _ _ _ _ _⟩,⟨by repeat first|(with_reducible first|exact HB.out|apply yA|apply yN|apply yD)|exact HB.out⟩⟩
      case round =>
       clear H';try clear c1
       try clear p1
       try clear q1
       try clear hx1
       try clear p2
       try clear q2
       try clear hx2
       try clear c3
       try clear c3b0
       try clear c4
       try clear c4b0
       try clear c5
       try clear c5b0
       try clear c6
       try clear c6b0
       try clear p6
       try clear c7
       try clear c7b0
       try clear c7b1
       try clear c8
       try clear c8b0
       try clear c9
       try clear c9b0
       try clear c10
       try clear c10b0
       try clear c11
       try clear c11b0
       try clear p12
       try clear q12
       try clear z0b
       try clear c14
       try clear z00
       try clear z01
       try clear z04
       try clear p12
       try clear p2
       try clear p278
       try clear p279
       try clear p280
       try clear p6
       try clear q12
       try clear q2
       try clear q278
       try clear q279
       try clear q280
       obtain ⟨x13_3,x14_3,x15_3,rfl,rfl,HA,HK3,HO_9,HO_13,HB⟩:=hrel;cases gk with
      | zero => exact absurd HA.out (by simp [carouselref01_Split.l2])
      | succ k3 =>
        have H:=HA.out;clear HA;simp only [carouselref01_Split.l2] at H;by_cases c18 : x15_3 < (l1.length : Int)
        ·
         rw [if_pos c18] at H;have c18b0 : decide (x15_3 < (l1.length : Int)) = true:=dT c18;clear c18;have H':=zM H;clear H;go_wp2;repeat (go_quiet (fail);try go_wp2)
         go_loopg [16,17] k3 (fun kq v16 v17 w' => ∃ (x16_4 : Int) (x17_4 : Int),v16 = .int .u64 x16_4 ∧ v17 = .int .i64 x17_4 ∧ Aside0 (carouselref01_Split.l3 kq a0 l1 x7_1 x9_2 x13_3 x14_3 x15_3 x16_4 x17_4 = some (r1,r2,r3)) ∧ Aside0 (kq ≤ k3) ∧ Aside0 (Kd.R (Kd.int .i64) 3 w' w.heap.size (fun _ => True) u9 x9_2) ∧ Aside0 (Kd.R (Kd.int .u64) 33 w' w.heap.size (fun _ => True) u13 x13_3) ∧ Aside0 (Below w.heap.size w w'))
         case atStart => exact ⟨(0),(0),(by first|rfl|(simp;done)|(simp [*];done)),(by first|rfl|(simp;done)|(simp [*];done)),H',⟨Nat.le_refl _⟩,⟨by (with_reducible repeat (first|apply Kd.R_alloc|apply Kd.R_drewN|apply Kd.R_drew));exact HO_9.out⟩,⟨by (with_reducible repeat (first|apply Kd.R_alloc|apply Kd.R_drewN|apply Kd.R_drew));exact HO_13.out⟩,⟨by repeat first|(with_reducible first|exact HB.out|apply yA|apply yN|apply yD)|exact HB.out⟩⟩
         case round =>
          clear H';try clear c1
          try clear p1
          try clear q1
          try clear hx1
          try clear p2
          try clear q2
          try clear hx2
          try clear c3
          try clear c3b0
          try clear c4
          try clear c4b0
          try clear c5
          try clear c5b0
          try clear c6
          try clear c6b0
          try clear p6
          try clear c7
          try clear c7b0
          try clear c7b1
          try clear c8
          try clear c8b0
          try clear c9
          try clear c9b0
          try clear c10
          try clear c10b0
          try clear c11
          try clear c11b0
          try clear p12
          try clear q12
          try clear z0b
          try clear c14
          try clear c18
          try clear c18b0
          try clear z00
          try clear z01
          try clear z04
          try clear p1
          try clear p12
          try clear p2
          try clear p278
          try clear p279
          try clear p280
          try clear p6
          try clear q1
          try clear q12
          try clear q2
          try clear q278
          try clear q279
          try clear q280
          obtain ⟨x16_4,x17_4,rfl,rfl,HA,HK4,HO_9,HO_13,HB⟩:=hrel;cases gk with
         | zero => exact absurd HA.out (by simp [carouselref01_Split.l3])
         | succ k4 =>
           have H:=HA.out;clear HA;simp only [carouselref01_Split.l3] at H;by_cases c19 : 0 ≤ x15_3
           ·
            rw [if_pos c19] at H;have c19b0 : decide (0 ≤ x15_3) = true:=dT c19;clear c19;by_cases c20 : x15_3 < (l1.length : Int)
            ·
             rw [if_pos c20] at H;have c20b0 : decide (x15_3 < (l1.length : Int)) = true:=dT c20;clear c20;by_cases c21 : x17_4 < (rd l1 x15_3)
             ·
              rw [if_pos c21] at H;have c21b0 : decide (x17_4 < (rd l1 x15_3)) = true:=dT c21;clear c21;obtain ⟨ji22,hji22⟩ : ∃ j_ : Int,(wrap64 (x14_3 + x17_4)) = j_:=⟨_,rfl⟩
              replace H : (if 0 ≤ (ji22) then (if (ji22) < (x9_2.length : Int) then (carouselref01_Split.l3 k4 a0 l1 x7_1 x9_2 x13_3 x14_3 x15_3 (IntKind.u64.wrap ((IntKind.u64.wrap (x16_4 * 2)) + (IntKind.u64.wrap (rd x9_2 (ji22))))) (wrap64 (x17_4 + 1))) else (none)) else (none)) = some (r1,r2,r3):=by first|(rw [hji22] at H;exact H)|(simp only [hji22] at H ⊢;exact H)
              have hji22w : (IntKind.i64.wrap (x14_3 + x17_4)) = ji22:=(i64_w _).trans hji22;by_cases c23 : 0 ≤ (ji22)
              ·
               rw [if_pos c23] at H;have c23b0 : decide (0 ≤ (ji22)) = true:=dT c23;clear c23;by_cases c24 : (ji22) < (x9_2.length : Int)
               ·
                rw [if_pos c24] at H;have c24b0 : decide ((ji22) < (x9_2.length : Int)) = true:=dT c24;clear c24;have H':=zM H;clear H;have p288 : 0 ≤ (x15_3 : Int):=of_decide_eq_true (by first|(with_reducible assumption)|assumption);have q288 : x15_3 < (l1.length : Int):=of_decide_eq_true (by first|(with_reducible assumption)|assumption);obtain ⟨ad288,e288,z03⟩:=Kd.at_int HR1.out x15_3 p288 q288;cases e288;replace z03:=(HB.out.cell (World.block_lt_of_cell? w _ z03)).trans z03;replace p288:=eq_true p288;replace q288:=eq_true q288;obtain ⟨Ao25,co25,eo25⟩:=Kd.R_slice HO_9.out;subst eo25;have p289 : 0 ≤ ((ji22) : Int):=of_decide_eq_true (by first|(with_reducible assumption)|assumption);have q289 : (ji22) < (x9_2.length : Int):=of_decide_eq_true (by first|(with_reducible assumption)|assumption);obtain ⟨ad289,e289,z0a⟩:=Kd.at_int (Kd.R_reads' HO_9.out).2.2 (ji22) p289 q289;cases e289;replace p289:=eq_true p289;replace q289:=eq_true q289;go_wp2;repeat (go_quiet (fail);try go_wp2)
                go_roundg k4
                case measure => have:=HK1.out;have:=HK2.out;have:=HK3.out;have:=HK4.out;omega
                case rel => exact ⟨(IntKind.u64.wrap ((IntKind.u64.wrap (x16_4 * 2)) + (IntKind.u64.wrap (rd x9_2 (ji22))))),(wrap64 (x17_4 + 1)),(by first|rfl|(simp;done)|(simp only [← hji22] <;> (first|rfl|simp))|(simp [*];done)),(by first|rfl|(simp;done)|(simp [*];done)),H',⟨by have:=HK1.out;have:=HK2.out;have:=HK3.out;have:=HK4.out;omega⟩,⟨by (with_reducible repeat (first|apply Kd.R_alloc|apply Kd.R_drewN|apply Kd.R_drew));exact HO_9.out⟩,⟨by (with_reducible repeat (first|apply Kd.R_alloc|apply Kd.R_drewN|apply Kd.R_drew));exact HO_13.out⟩,⟨by repeat first|(with_reducible first|exact HB.out|apply yA|apply yN|apply yD)|exact HB.out⟩⟩
               rw [if_neg c24] at H;exact absurd H (by simp)
              rw [if_neg c23] at H;exact absurd H (by simp)
             rw [if_neg c21] at H;have c21b0 : decide (x17_4 < (rd l1 x15_3)) = false:=dF c21;clear c21;by_cases c26 : x13_3.length < 17592186044416
             ·
              rw [if_pos c26] at H;have LMc26:=zM c26;clear c26;obtain ⟨y291,hy291⟩ : ∃ y_ : List Int,y_ = (x13_3 ++ [x16_4]):=⟨_,rfl⟩
              replace H : (carouselref01_Split.l2 k4 a0 l1 x7_1 x9_2 y291 (wrap64 (x14_3 + (rd l1 x15_3))) (wrap64 (x15_3 + 1))) = some (r1,r2,r3):=by first|(rw [hy291];with_reducible exact H)|(have H2_:=(Option.bind_some _ _).symm.trans H;rw [hy291];with_reducible exact H2_)|(have H2_:=(Option.bind_some _ _).symm.trans H;with_reducible exact H2_)|with_reducible exact H|(rw [hy291];exact H)|exact H
              have Ny291:=zM hy291;clear hy291;have H':=zM H;clear H;have p288 : 0 ≤ (x15_3 : Int):=of_decide_eq_true (by first|(with_reducible assumption)|assumption);have q288 : x15_3 < (l1.length : Int):=of_decide_eq_true (by first|(with_reducible assumption)|assumption);obtain ⟨ad288,e288,z03⟩:=Kd.at_int HR1.out x15_3 p288 q288;cases e288;replace z03:=(HB.out.cell (World.block_lt_of_cell? w _ z03)).trans z03;replace p288:=eq_true p288;replace q288:=eq_true q288;have p290 : 0 ≤ (x15_3 : Int):=of_decide_eq_true (by first|(with_reducible assumption)|assumption);have q290 : x15_3 < (l1.length : Int):=of_decide_eq_true (by first|(with_reducible assumption)|assumption);obtain ⟨ad290,e290,z05⟩:=Kd.at_int HR1.out x15_3 p290 q290;obtain rfl : ad288 = ad290:=(by injection e290)
              replace z05:=(HB.out.cell (World.block_lt_of_cell? w _ z05)).trans z05;replace p290:=eq_true p290;replace q290:=eq_true q290;go_wp2_with (first|((with_reducible refine gate_builtin (b:=.append) (xs:=#[.tmp 97,.tmp 99]) rfl ?_);at_builtin;refine Kd.R_append (Kd.int .u64) (w0:=w) w.heap.size rfl (.tmp 97) (.tmp 99) 88 33 (.int .u64 0) 8 rfl Try.underlying88 info33 rfl (by decide) (by omega) u13 x13_3 x16_4 [.int .u64 x16_4] (fun _ => True) (fun _ => False) rfl rfl ?aP (fun _ hk => hk.elim) ?aF ?aO ?aB ?aS ?aL ?_;(case aP => exact rfl);(case aB => exact (by repeat first|(with_reducible first|exact HB.out|apply yA|apply yN|apply yD)|exact HB.out));(case aF => exact (fun _ _ => trivial));(case aO => exact (by (with_reducible repeat (first|apply Kd.R_alloc|apply Kd.R_drewN|apply Kd.R_drew));exact HO_13.out));(case aS => exact (yZ (by repeat first|(with_reducible first|exact HB.out|apply yA|apply yN|apply yD)|exact HB.out)));(case aL => have:=LMc26.out;omega);intro v292 w27 ho hb hg hat;rw [← Ny291.out] at ho;have n0_:=zM (Kd.R_over' (by (with_reducible repeat (first|apply Kd.R_alloc|apply Kd.R_drewN|apply Kd.R_drew));exact HO_9.out) (Kd.R_typed (by (with_reducible repeat (first|apply Kd.R_alloc|apply Kd.R_drewN|apply Kd.R_drew));exact HO_13.out)) (by decide) hg);have n1_:=zM (hb);have n2_:=zM (ho);clear HO_9;clear HB;clear HO_13;have HO_9:=n0_;have HB:=n1_;have z08:=n2_;clear n0_ n1_ n2_;clear ho hb hg hat))
              repeat (go_quiet (first|((with_reducible refine gate_builtin (b:=.append) (xs:=#[.tmp 97,.tmp 99]) rfl ?_);at_builtin;refine Kd.R_append (Kd.int .u64) (w0:=w) w.heap.size rfl (.tmp 97) (.tmp 99) 88 33 (.int .u64 0) 8 rfl Try.underlying88 info33 rfl (by decide) (by omega) u13 x13_3 x16_4 [.int .u64 x16_4] (fun _ => True) (fun _ => False) rfl rfl ?aP (fun _ hk => hk.elim) ?aF ?aO ?aB ?aS ?aL ?_;(case aP => exact rfl);(case aB => exact (by repeat first|(with_reducible first|exact HB.out|apply yA|apply yN|apply yD)|exact HB.out));(case aF => exact (fun _ _ => trivial));(case aO => exact (by (with_reducible repeat (first|apply Kd.R_alloc|apply Kd.R_drewN|apply Kd.R_drew));exact HO_13.out));(case aS => exact (yZ (by repeat first|(with_reducible first|exact HB.out|apply yA|apply yN|apply yD)|exact HB.out)));(case aL => have:=LMc26.out;omega);intro v292 w27 ho hb hg hat;rw [← Ny291.out] at ho;have n0_:=zM (Kd.R_over' (by (with_reducible repeat (first|apply Kd.R_alloc|apply Kd.R_drewN|apply Kd.R_drew));exact HO_9.out) (Kd.R_typed (by (with_reducible repeat (first|apply Kd.R_alloc|apply Kd.R_drewN|apply Kd.R_drew));exact HO_13.out)) (by decide) hg);have n1_:=zM (hb);have n2_:=zM (ho);clear HO_9;clear HB;clear HO_13;have HO_9:=n0_;have HB:=n1_;have z08:=n2_;clear n0_ n1_ n2_;clear ho hb hg hat));try go_wp2_with (first|((with_reducible refine gate_builtin (b:=.append) (xs:=#[.tmp 97,.tmp 99]) rfl ?_);at_builtin;refine Kd.R_append (Kd.int .u64) (w0:=w) w.heap.size rfl (.tmp 97) (.tmp 99) 88 33 (.int .u64 0) 8 rfl Try.underlying88 info33 rfl (by decide) (by omega) u13 x13_3 x16_4 [.int .u64 x16_4] (fun _ => True) (fun _ => False) rfl rfl ?aP (fun _ hk => hk.elim) ?aF ?aO ?aB ?aS ?aL ?_;(case aP => exact rfl);(case aB => exact (by repeat first|(with_reducible first|exact HB.out|apply yA|apply yN|apply yD)|exact HB.out));(case aF => exact (fun _ _ => trivial));(case aO => exact (by (with_reducible repeat (first|apply Kd.R_alloc|apply Kd.R_drewN|apply Kd.R_drew));exact HO_13.out));(case aS => exact (yZ (by repeat first|(with_reducible first|exact HB.out|apply yA|apply yN|apply yD)|exact HB.out)));(case aL => have:=LMc26.out;omega);intro v292 w27 ho hb hg hat;rw [← Ny291.out] at ho;have n0_:=zM (Kd.R_over' (by (with_reducible repeat (first|apply Kd.R_alloc|apply Kd.R_drewN|apply Kd.R_drew));exact HO_9.out) (Kd.R_typed (by (with_reducible repeat (first|apply Kd.R_alloc|apply Kd.R_drewN|apply Kd.R_drew));exact HO_13.out)) (by decide) hg);have n1_:=zM (hb);have n2_:=zM (ho);clear HO_9;clear HB;clear HO_13;have HO_9:=n0_;have HB:=n1_;have z08:=n2_;clear n0_ n1_ n2_;clear ho hb hg hat)))
              go_roundg k4
              case measure => have:=HK1.out;have:=HK2.out;have:=HK3.out;have:=HK4.out;omega
              case rel => exact ⟨(y291),(wrap64 (x14_3 + (rd l1 x15_3))),(wrap64 (x15_3 + 1)),(by first|rfl|(simp;done)|(simp [*];done)),(by first|rfl|(simp;done)|(simp [*];done)),H',⟨by have:=HK1.out;have:=HK2.out;have:=HK3.out;have:=HK4.out;omega⟩,⟨by (with_reducible repeat (first|apply Kd.R_alloc|apply Kd.R_drewN|apply Kd.R_drew));exact HO_9.out⟩,⟨by (with_reducible repeat (first|apply Kd.R_alloc|apply Kd.R_drewN|apply Kd.R_drew));exact z08.out⟩,⟨by repeat first|(with_reducible first|exact HB.out|apply yA|apply yN|apply yD)|exact HB.out⟩⟩
             rw [if_neg c26] at H;exact absurd H (by simp)
            rw [if_neg c20] at H;exact absurd H (by simp)
           rw [if_neg c19] at H;exact absurd H (by simp)
        rw [if_neg c18] at H;have c18b0 : decide (x15_3 < (l1.length : Int)) = false:=dF c18;clear c18;obtain ⟨ji28,hji28⟩ : ∃ j_ : Int,(wrap64 (Int.tdiv x7_1 8)) = j_:=⟨_,rfl⟩
        replace H : (if 0 ≤ (ji28) then (if (ji28) ≤ (a0.size : Int) then (some (x13_3,a0.extract ((ji28) : Int).toNat a0.size,0)) else (none)) else (none)) = some (r1,r2,r3):=by first|(rw [hji28] at H;exact H)|(simp only [hji28] at H ⊢;exact H)
        (try rw [hji28] at c8b0)
        (try rw [hji28] at c9b0)
        have hji28w : (IntKind.i64.wrap (Int.tdiv x7_1 8)) = ji28:=(i64_w _).trans hji28;by_cases c29 : 0 ≤ (ji28)
        ·
         rw [if_pos c29] at H;have c29b0:=eq_true c29;have c29b1 : decide (0 ≤ (ji28)) = true:=dT c29;clear c29;by_cases c30 : (ji28) ≤ (a0.size : Int)
         ·
          rw [if_pos c30] at H;have c30b0:=eq_true c30;have c30b1 : decide ((ji28) ≤ (a0.size : Int)) = true:=dT c30;clear c30;simp only [Option.some.injEq,Prod.mk.injEq] at H;obtain ⟨rfl,rfl,rfl⟩:=H;go_wp2;repeat (go_quiet (fail);try go_wp2)
          go_ret3
          exact ⟨_,by first|rfl|(simp [errW_none,errW_some] <;> rfl)|(simp only [← hji28];first|rfl|(simp [errW_none,errW_some] <;> rfl))|(simp [*,errW_none,errW_some] <;> rfl),by (with_reducible repeat (first|apply Kd.R_alloc|apply Kd.R_drewN|apply Kd.R_drew));exact HO_13.out,by repeat first|(with_reducible first|exact HB.out|apply yA|apply yN|apply yD)|exact HB.out⟩
         rw [if_neg c30] at H;exact absurd H (by simp)
        rw [if_neg c29] at H;exact absurd H (by simp)
   rw [if_neg c7] at H;have c7b0 : ((Int.tmod x7_1 8) == 0) = false:=beq_eq_false_iff_ne.mpr c7;have c7b1 : ((Int.tmod x7_1 8) != 0) = true:=bne_iff_ne.mpr c7;simp only [Option.some.injEq,Prod.mk.injEq] at H;obtain ⟨rfl,rfl,rfl⟩:=H;go_wp2;repeat (go_quiet (fail);try go_wp2)
   go_ret3
   exact ⟨_,by first|rfl|(simp [errW_none,errW_some] <;> rfl)|(simp [*,errW_none,errW_some] <;> rfl),by first|exact Kd.R_nil _ _ _ _ _|exact Kd.N_nil _ _ _ _ _|exact Kd.V_nil _ _ _ _ _|exact Kd.Q_nil _ _ _ _ _|exact Kd.S_nil _ _ _ _ _,by repeat first|(with_reducible first|exact HB.out|apply yA|apply yN|apply yD)|exact HB.out⟩

/-! ### carouselref01_Get: function 60 -/
def carouselref01_Get.f (k : Nat) (a0 : ByteArray) (a1 : Int) (a2 : Int) : Option (Int) := if 0 ≤ a1 then (if a1 ≤ (a0.size : Int) then ((carouselref01_Split.f k (a0.extract (a1 : Int).toNat a0.size) (([wrap64 (8 * a2)] : List Int))).bind fun bt297 => (if 0 < (bt297.1.length : Int) then (some (rd bt297.1 0)) else (none))) else (none)) else (none)
theorem carouselref01_Get.mono : ∀ a0 a1 a2 k, LeO (carouselref01_Get.f k a0 a1 a2) (carouselref01_Get.f (k + 1) a0 a1 a2) := by
 intro a0 a1 a2 k;unfold carouselref01_Get.f
 repeat' first
  | (with_reducible exact carouselref01_Split.mono _ _ _)
  | (with_reducible exact LeO.refl _)
  | (with_reducible exact LeO.none _)
  | (with_reducible refine LeO.ite ?_ ?_)
  | (with_reducible refine LeO.bind ?_ (fun _ => ?_))
  | exact carouselref01_Split.mono _ _ _
  | exact LeO.none _
  | refine LeO.ite ?_ ?_
  | refine LeO.bind ?_ (fun _ => ?_)
set_option maxHeartbeats 8000000 in
set_option maxRecDepth 100000 in
theorem carouselref01_Get.calls (k : Nat) (a0 : ByteArray) (a1 : Int) (a2 : Int) (r : Int) (w : World) (h : carouselref01_Get.f k a0 a1 a2 = some r) :
  Calls Try.prog 60 #[.string a0, .int .i64 a1, .int .i64 a2] w fun e w' => e = .returned (.int .u64 r) ∧ Below w.heap.size w w' := by
 have HB:=zM (Below.refl w.heap.size w);have H : (if 0 ≤ a1 then (if a1 ≤ (a0.size : Int) then ((carouselref01_Split.f k (a0.extract (a1 : Int).toNat a0.size) (([wrap64 (8 * a2)] : List Int))).bind fun bt297 => (if 0 < (bt297.1.length : Int) then (some (rd bt297.1 0)) else (none))) else (none)) else (none)) = some r:=h;clear h;by_cases c4 : 0 ≤ a1
 ·
  rw [if_pos c4] at H;have c4b0:=eq_true c4;have c4b1 : decide (0 ≤ a1) = true:=dT c4;clear c4;by_cases c5 : a1 ≤ (a0.size : Int)
  ·
   rw [if_pos c5] at H;have c5b0:=eq_true c5;have c5b1 : decide (a1 ≤ (a0.size : Int)) = true:=dT c5;clear c5;obtain ⟨y294,hy294⟩ : ∃ y_ : List Int,y_ = (([wrap64 (8 * a2)] : List Int)):=⟨_,rfl⟩
   replace H : ((carouselref01_Split.f k (a0.extract (a1 : Int).toNat a0.size) y294).bind fun bt297 => (if 0 < (bt297.1.length : Int) then (some (rd bt297.1 0)) else (none))) = some r:=by first|(rw [hy294];with_reducible exact H)|(have H2_:=(Option.bind_some _ _).symm.trans H;rw [hy294];with_reducible exact H2_)|(have H2_:=(Option.bind_some _ _).symm.trans H;with_reducible exact H2_)|with_reducible exact H|(rw [hy294];exact H)|exact H
   have Ny294:=zM hy294;clear hy294;replace H:=Option.bind_eq_some_iff.mp H;obtain ⟨⟨z02,z04,z05⟩,A60,H⟩:=H;try dsimp only at H
   have A6:=zM A60;clear A60;by_cases c7 : 0 < (z02.length : Int)
   ·
    rw [if_pos c7] at H;have c7b0 : decide (0 < (z02.length : Int)) = true:=dT c7;have c7b1 : decide (0 < z02.length) = true:=dT (by omega);clear c7;obtain rfl:=Option.some.inj H;go_enter Try.func60,Try.ntmps60
    go_wp2_with (first|((with_reducible refine gate_dst (N:=16) rfl ?_);refine Kd.R_lit (Kd.int .i64) _ 3 ?hg (N:=16) ?hd (xs:=([wrap64 (8 * a2)] : List Int)) (inner:=[.int .i64 (wrap64 (8 * a2))]) (ok:=fun _ => True) (okp:=fun _ => True) ?hr ?hp (fun _ hk => hk) trivial (Below.refl _ _) (Nat.le_refl _) (by simp) ?_;(case hd => rfl);(case hg => rfl);(case hr => first|(go_simp;done)|(go_simp;rfl));(case hp => exact (Reps.one (show Kd.M (Kd.int .i64) _ _ _ (wrap64 (8 * a2)) [.int .i64 (wrap64 (8 * a2))] from rfl) (Reps.none _ _)));intro v295 w8 ho9 hb hg_ hnew_;clear hg_ hnew_;(first|rw [← Ny294.out] at ho9|(simp only [Int.reduceToNat] at ho9;rw [← Ny294.out] at ho9));have n0_:=zM (Kd.R_lower ho9 (yZ (by repeat first|(with_reducible first|exact HB.out|apply yA|apply yN|apply yD)|exact HB.out)));have n1_:=zM (yT (by repeat first|(with_reducible first|exact HB.out|apply yA|apply yN|apply yD)|exact HB.out) hb);clear HB;have z00:=n0_;have HB:=n1_;clear n0_ n1_;clear hb ho9;obtain ⟨Ao10,co10,eo10⟩:=Kd.R_slice z00.out;subst eo10)|((with_reducible refine gate_callee (f:=73) rfl ?_);refine goesL_ (some 17) rfl rfl Try.func73 (by kernel_rfl) rfl #[.string (a0.extract (a1 : Int).toNat a0.size),.slice Ao10 y294.length co10] rfl (by (try simp only [List.map_toArray,List.map_cons,List.map_nil]);first|done|rfl|(simp only [List.length_drop,List.length_take];rfl)) ?_;(with_reducible refine (carouselref01_Split.calls k (a0.extract (a1 : Int).toNat a0.size) _ _ y294 z02 z04 z05 _ ?side1 ?side2 A6.out).mono ?_);(case side1 => repeat (first|exact (Kd.R_reads' z00.out).2.2|(with_reducible refine Kd.C_alloc ?_ _)|(with_reducible refine Kd.C_drewN ?_ _)|(with_reducible refine Kd.C_drew ?_)));(case side2 => exact (Kd.R_reads' z00.out).2.1);rintro e w11 ⟨v300,rfl,ho0,hb⟩;refine ⟨_,rfl,?_⟩;have n0_:=zM (Kd.R_below (by (with_reducible repeat (first|apply Kd.R_alloc|apply Kd.R_drewN|apply Kd.R_drew));exact z00.out) hb);have n1_:=zM (Kd.R_lower ho0 (yZ (by repeat first|(with_reducible first|exact HB.out|apply yA|apply yN|apply yD)|exact HB.out)));have n2_:=zM (yT (by repeat first|(with_reducible first|exact HB.out|apply yA|apply yN|apply yD)|exact HB.out) hb);clear z00;clear HB;have z00:=n0_;have z03:=n1_;have HB:=n2_;clear n0_ n1_ n2_;(try clear hb);(try clear hb2);(try clear hk);(try clear hi);(try clear ho0);obtain ⟨Ao12,co12,eo12⟩:=Kd.R_slice z03.out;subst eo12;have p302 : 0 ≤ (0 : Int):=(by omega);have q302 : 0 < (z02.length : Int):=of_decide_eq_true (by first|(with_reducible assumption)|assumption);obtain ⟨ad302,e302,z01⟩:=Kd.at_int (Kd.R_reads' z03.out).2.2 0 p302 q302;cases e302;have qi302 : (0 < z02.length) = True:=eq_true (by omega);(try rw [show ((0 : Int)).toNat = 0 from rfl] at z01);(try rw [Addr.add_zero'] at z01);replace p302:=eq_true p302;replace q302:=eq_true q302))
    go_ret;exact ⟨by first|rfl|(simp [errW_none,errW_some] <;> rfl)|(simp [*,errW_none,errW_some] <;> rfl),by repeat first|(with_reducible first|exact HB.out|apply yA|apply yN|apply yD)|exact HB.out⟩
   rw [if_neg c7] at H;exact absurd H (by simp)
  rw [if_neg c5] at H;exact absurd H (by simp)
 rw [if_neg c4] at H;exact absurd H (by simp)

end Go.Proofs.Ytapicoienpbdfaa.PWatchPlays
