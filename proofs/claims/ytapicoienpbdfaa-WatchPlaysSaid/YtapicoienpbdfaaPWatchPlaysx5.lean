-- Written by a program of this work, after the translation.
import Derived.Test.YtapicoienpbdfaaPWatchPlaysx0
import Derived.Test.YtapicoienpbdfaaPWatchPlaysx4
namespace Go.Proofs.Ytapicoienpbdfaa.PWatchPlays
open Go.RowKit Go.Proofs.YtapicoienpbdfaaW.PrintWords Go.Proofs.YtapicoienpbdfaaW.PrintLast Go.Proofs.YtapicoienpbdfaaW.PrintMore
attribute [local go_sem] max2_int min2_int max_two min_two max_three min_three max_four min_four   -- for this text's walks alone
set_option linter.unusedVariables false
set_option linter.unusedSimpArgs false

/-! ### carouselref01_Pack: function 80 -/
mutual
def carouselref01_Pack.l0 : Nat → List (S139) → List Int → Int → Option (ByteArray × Int)
  | 0, _, _, _ => none
  | k + 1, x0, x4, x5 => if x5 < (x0.length : Int) then (if 0 ≤ x5 then (if ((rd_T139 x0 x5).f0) < 1 then (carouselref01_Pack.j1 k x0 x4 x5 true) else (carouselref01_Pack.j1 k x0 x4 x5 (decide (((rd_T139 x0 x5).f0) > 64)))) else (none)) else (if ((x4.length : Int) % 8) = 0 then (carouselref01_Pack.l1 k x4 ([] : List Int) 0) else (some ((⟨#[]⟩ : ByteArray), 3)))
def carouselref01_Pack.j1 : Nat → List (S139) → List Int → Int → Bool → Option (ByteArray × Int)
  | 0, _, _, _, _ => none
  | k + 1, x0, x4, x5, x31 => if x31 = true then (some ((⟨#[]⟩ : ByteArray), 4)) else (if 0 ≤ x5 then (if x5 < (x0.length : Int) then ((carouselref01_bits.f k ((rd_T139 x0 x5).f1) ((rd_T139 x0 x5).f0)).bind fun bt204 => (if bt204.2 = true then (if x4.length + bt204.1.length < 17592186044416 then (carouselref01_Pack.l0 k x0 (x4 ++ bt204.1) (wrap64 (x5 + 1))) else (none)) else (some ((⟨#[]⟩ : ByteArray), 4)))) else (none)) else (none))
def carouselref01_Pack.l1 : Nat → List Int → List Int → Int → Option (ByteArray × Int)
  | 0, _, _, _ => none
  | k + 1, x4, x8, x9 => if x9 < (x4.length : Int) then (carouselref01_Pack.l2 k x4 x8 x9 0 0) else (some (strOfNums x8, 0))
def carouselref01_Pack.l2 : Nat → List Int → List Int → Int → Int → Int → Option (ByteArray × Int)
  | 0, _, _, _, _, _ => none
  | k + 1, x4, x8, x9, x10, x11 => if x11 < 8 then (if 0 ≤ (wrap64 (x9 + x11)) then (if (wrap64 (x9 + x11)) < (x4.length : Int) then (carouselref01_Pack.l2 k x4 x8 x9 (wrap64 ((wrap64 (x10 * 2)) + (rd x4 (wrap64 (x9 + x11))))) (wrap64 (x11 + 1))) else (none)) else (none)) else (if x8.length < 140737488355328 then (carouselref01_Pack.l1 k x4 (x8 ++ [(x10) % 256]) (wrap64 (x9 + 8))) else (none))
end
def carouselref01_Pack.f (k : Nat) (l0 : List (S139)) : Option (ByteArray × Int) := carouselref01_Pack.l0 k l0 ([] : List Int) 0
theorem carouselref01_Pack.mono_l : ∀ k, (∀ y0 y1 y2, LeO (carouselref01_Pack.l0 k y0 y1 y2) (carouselref01_Pack.l0 (k + 1) y0 y1 y2)) ∧ (∀ y0 y1 y2 y3, LeO (carouselref01_Pack.j1 k y0 y1 y2 y3) (carouselref01_Pack.j1 (k + 1) y0 y1 y2 y3)) ∧ (∀ y0 y1 y2, LeO (carouselref01_Pack.l1 k y0 y1 y2) (carouselref01_Pack.l1 (k + 1) y0 y1 y2)) ∧ (∀ y0 y1 y2 y3 y4, LeO (carouselref01_Pack.l2 k y0 y1 y2 y3 y4) (carouselref01_Pack.l2 (k + 1) y0 y1 y2 y3 y4))
 | 0 => ⟨fun _ _ _ r h => by simp [carouselref01_Pack.l0] at h, fun _ _ _ _ r h => by simp [carouselref01_Pack.j1] at h, fun _ _ _ r h => by simp [carouselref01_Pack.l1] at h, fun _ _ _ _ _ r h => by simp [carouselref01_Pack.l2] at h⟩
 | k + 1 => by
  obtain ⟨ih0, ih1, ih2, ih3⟩ := carouselref01_Pack.mono_l k
  refine ⟨?_, ?_, ?_, ?_⟩
  ·
   intro y0 y1 y2
   unfold carouselref01_Pack.l0
   repeat' first
   | (with_reducible exact ih0 _ _ _)
   | (with_reducible exact ih1 _ _ _ _)
   | (with_reducible exact ih2 _ _ _)
   | (with_reducible exact ih3 _ _ _ _ _)
   | (with_reducible exact carouselref01_bits.mono _ _ _)
   | (with_reducible exact LeO.refl _)
   | (with_reducible exact LeO.none _)
   | (with_reducible refine LeO.ite ?_ ?_)
   | (with_reducible refine LeO.bind ?_ (fun _ => ?_))
   | exact ih0 _ _ _
   | exact ih1 _ _ _ _
   | exact ih2 _ _ _
   | exact ih3 _ _ _ _ _
   | exact carouselref01_bits.mono _ _ _
   | exact LeO.none _
   | refine LeO.ite ?_ ?_
   | refine LeO.bind ?_ (fun _ => ?_)
  ·
   intro y0 y1 y2 y3
   unfold carouselref01_Pack.j1
   repeat' first
   | (with_reducible exact ih0 _ _ _)
   | (with_reducible exact ih1 _ _ _ _)
   | (with_reducible exact ih2 _ _ _)
   | (with_reducible exact ih3 _ _ _ _ _)
   | (with_reducible exact carouselref01_bits.mono _ _ _)
   | (with_reducible exact LeO.refl _)
   | (with_reducible exact LeO.none _)
   | (with_reducible refine LeO.ite ?_ ?_)
   | (with_reducible refine LeO.bind ?_ (fun _ => ?_))
   | exact ih0 _ _ _
   | exact ih1 _ _ _ _
   | exact ih2 _ _ _
   | exact ih3 _ _ _ _ _
   | exact carouselref01_bits.mono _ _ _
   | exact LeO.none _
   | refine LeO.ite ?_ ?_
   | refine LeO.bind ?_ (fun _ => ?_)
  ·
   intro y0 y1 y2
   unfold carouselref01_Pack.l1
   repeat' first
   | (with_reducible exact ih0 _ _ _)
   | (with_reducible exact ih1 _ _ _ _)
   | (with_reducible exact ih2 _ _ _)
   | (with_reducible exact ih3 _ _ _ _ _)
   | (with_reducible exact carouselref01_bits.mono _ _ _)
   | (with_reducible exact LeO.refl _)
   | (with_reducible exact LeO.none _)
   | (with_reducible refine LeO.ite ?_ ?_)
   | (with_reducible refine LeO.bind ?_ (fun _ => ?_))
   | exact ih0 _ _ _
   | exact ih1 _ _ _ _
   | exact ih2 _ _ _
   | exact ih3 _ _ _ _ _
   | exact carouselref01_bits.mono _ _ _
   | exact LeO.none _
   | refine LeO.ite ?_ ?_
   | refine LeO.bind ?_ (fun _ => ?_)
  intro y0 y1 y2 y3 y4
  unfold carouselref01_Pack.l2
  repeat' first
  | (with_reducible exact ih0 _ _ _)
  | (with_reducible exact ih1 _ _ _ _)
  | (with_reducible exact ih2 _ _ _)
  | (with_reducible exact ih3 _ _ _ _ _)
  | (with_reducible exact carouselref01_bits.mono _ _ _)
  | (with_reducible exact LeO.refl _)
  | (with_reducible exact LeO.none _)
  | (with_reducible refine LeO.ite ?_ ?_)
  | (with_reducible refine LeO.bind ?_ (fun _ => ?_))
  | exact ih0 _ _ _
  | exact ih1 _ _ _ _
  | exact ih2 _ _ _
  | exact ih3 _ _ _ _ _
  | exact carouselref01_bits.mono _ _ _
  | exact LeO.none _
  | refine LeO.ite ?_ ?_
  | refine LeO.bind ?_ (fun _ => ?_)
theorem carouselref01_Pack.mono : ∀ a0 k, LeO (carouselref01_Pack.f k a0) (carouselref01_Pack.f (k + 1) a0) := by
 intro a0 k;obtain ⟨ih0,ih1,ih2,ih3⟩:=carouselref01_Pack.mono_l k;unfold carouselref01_Pack.f
 repeat' first
  | (with_reducible exact ih0 _ _ _)
  | (with_reducible exact ih1 _ _ _ _)
  | (with_reducible exact ih2 _ _ _)
  | (with_reducible exact ih3 _ _ _ _ _)
  | (with_reducible exact carouselref01_bits.mono _ _ _)
  | (with_reducible exact LeO.refl _)
  | (with_reducible exact LeO.none _)
  | (with_reducible refine LeO.ite ?_ ?_)
  | (with_reducible refine LeO.bind ?_ (fun _ => ?_))
  | exact ih0 _ _ _
  | exact ih1 _ _ _ _
  | exact ih2 _ _ _
  | exact ih3 _ _ _ _ _
  | exact carouselref01_bits.mono _ _ _
  | exact LeO.none _
  | refine LeO.ite ?_ ?_
  | refine LeO.bind ?_ (fun _ => ?_)
def carouselref01_Pack.T7 : Bool × List (List Nat × List Nat) := (true, [([], []), ([], []), ([0, 1], [0, 1]), ([2], [2]), ([3], [3]), ([], []), ([], []), ([5, 6], [5, 6]), ([7], [7]), ([8], [8]), ([4, 9], [4, 9]), ([10], [10]), ([11], [11]), ([11], [11]), ([12, 10, 0, 1, 2, 3, 4, 5, 6, 7, 8, 9, 10, 11, 12], [12]), ([13, 14, 0, 1, 2, 3, 4, 5, 6, 7, 8, 9, 10, 11, 12, 13, 14], [13])])
def carouselref01_Pack.B7 : List Nat := [0, 0, 3, 7, 15, 0, 0, 96, 224, 480, 1023, 2047, 4095, 4095, 8191, 32767]
theorem carouselref01_Pack.tab7 : rtab .any (opsOf Try.f80 7) = carouselref01_Pack.T7 := by kernel_rfl
theorem carouselref01_Pack.bits7 : waitsOk carouselref01_Pack.T7.2 carouselref01_Pack.B7 = true := by kernel_rfl
set_option maxHeartbeats 8000000 in
set_option maxRecDepth 100000 in
theorem carouselref01_Pack.calls (k : Nat) (A0 : Option Addr) (c0 : Nat) (l0 : List (S139)) (r1 : ByteArray) (r2 : Int) (w : World) (hr0 : Kd.C k139 w A0 l0.length l0) (hc0 : l0.length ≤ c0) (h : carouselref01_Pack.f k l0 = some (r1, r2)) :
  Calls Try.prog 80 #[.slice A0 l0.length c0] w fun e w' => e = .returned (.tuple #[.string r1, .int .i64 r2]) ∧ Below w.heap.size w w' := by
 have HR0:=zM hr0;have HC0:=zM hc0;clear hr0 hc0;have HB:=zM (Below.refl w.heap.size w);have H : (carouselref01_Pack.l0 k l0 ([] : List Int) 0) = some (r1,r2):=h;clear h;have H':=zM H;clear H;go_enter Try.func80,Try.ntmps80
 go_wp2;go_loopg [4,5] k (fun kq v4 v5 w' => ∃ (x4_1 : List Int) (x5_1 : Int),v5 = .int .i64 x5_1 ∧ Aside0 (carouselref01_Pack.l0 kq l0 x4_1 x5_1 = some (r1,r2)) ∧ Aside0 (kq ≤ k) ∧ Aside0 (Kd.R (Kd.int .i64) 3 w' w.heap.size (fun _ => True) v4 x4_1) ∧ Aside0 (Below w.heap.size w w'))
 case atStart => exact ⟨(([] : List Int)),(0),(by first|rfl|(simp;done)|(simp [*];done)),H',⟨Nat.le_refl _⟩,⟨by first|exact Kd.R_nil _ _ _ _ _|exact Kd.N_nil _ _ _ _ _|exact Kd.V_nil _ _ _ _ _|exact Kd.Q_nil _ _ _ _ _|exact Kd.S_nil _ _ _ _ _⟩,⟨by repeat first|(with_reducible first|exact HB.out|apply yA|apply yN|apply yD)|exact HB.out⟩⟩
 case round =>
  clear H';obtain ⟨x4_1,x5_1,rfl,HA,HK1,HO_4,HB⟩:=hrel;cases gk with
 | zero => exact absurd HA.out (by simp [carouselref01_Pack.l0])
 | succ k1 =>
   have H:=HA.out;clear HA;simp only [carouselref01_Pack.l0] at H;by_cases c2 : x5_1 < (l0.length : Int)
   ·
    rw [if_pos c2] at H;have c2b0 : decide (x5_1 < (l0.length : Int)) = true:=dT c2;clear c2;have HC3:=zM H;clear H;go_upto_region 5 with (fail)
    go_cut [31] (fun v31 wc => ∃ (kq : Nat) (x31_2 : Bool),v31 = .bool x31_2 ∧ Aside0 (carouselref01_Pack.j1 kq l0 x4_1 x5_1 x31_2 = some (r1,r2)) ∧ Aside0 (kq ≤ k1) ∧ Aside0 (Kd.R (Kd.int .i64) 3 wc w.heap.size (fun _ => True) u4 x4_1) ∧ Aside0 (Below w.heap.size w wc))
    case first =>
     have H:=HC3.out;clear HC3;by_cases c4 : 0 ≤ x5_1
     ·
      rw [if_pos c4] at H;have c4b0 : decide (0 ≤ x5_1) = true:=dT c4;clear c4;(first|rw [c4b0]|(simp only [i64_w,i32_w];rw [c4b0])|skip)
      by_cases c5 : ((rd_T139 l0 x5_1).f0) < 1
      ·
       rw [if_pos c5] at H;have c5b0 : decide (((rd_T139 l0 x5_1).f0) < 1) = true:=dT c5;clear c5;have H':=zM H;clear H;have p200 : 0 ≤ (x5_1 : Int):=of_decide_eq_true (by first|(with_reducible assumption)|assumption);have q200 : x5_1 < (l0.length : Int):=of_decide_eq_true (by first|(with_reducible assumption)|assumption);obtain ⟨ad200,e200,z04,z05⟩:=at_T139 HR0.out x5_1 p200 q200;cases e200;replace z04:=(HB.out.cell (World.block_lt_of_cell? w _ z04)).trans z04;replace z05:=(HB.out.cell (World.block_lt_of_cell? w _ z05)).trans z05;replace p200:=eq_true p200;replace q200:=eq_true q200;go_wp2;go_meet
       case rel => exact ⟨_,(true),(by first|rfl|(simp;done)|(simp [*];done)),H',⟨by have:=HK1.out;first|omega|exact Nat.le_refl _⟩,⟨by (with_reducible repeat (first|apply Kd.R_alloc|apply Kd.R_drewN|apply Kd.R_drew));exact HO_4.out⟩,⟨by repeat first|(with_reducible first|exact HB.out|apply yA|apply yN|apply yD)|exact HB.out⟩⟩
      rw [if_neg c5] at H;have c5b0 : decide (((rd_T139 l0 x5_1).f0) < 1) = false:=dF c5;clear c5;have H':=zM H;clear H;have p200 : 0 ≤ (x5_1 : Int):=of_decide_eq_true (by first|(with_reducible assumption)|assumption);have q200 : x5_1 < (l0.length : Int):=of_decide_eq_true (by first|(with_reducible assumption)|assumption);obtain ⟨ad200,e200,z04,z05⟩:=at_T139 HR0.out x5_1 p200 q200;cases e200;replace z04:=(HB.out.cell (World.block_lt_of_cell? w _ z04)).trans z04;replace z05:=(HB.out.cell (World.block_lt_of_cell? w _ z05)).trans z05;replace p200:=eq_true p200;replace q200:=eq_true q200;have p201 : 0 ≤ (x5_1 : Int):=of_decide_eq_true (by first|(with_reducible assumption)|assumption);have q201 : x5_1 < (l0.length : Int):=of_decide_eq_true (by first|(with_reducible assumption)|assumption);obtain ⟨ad201,e201,z06,z07⟩:=at_T139 HR0.out x5_1 p201 q201;obtain rfl : ad200 = ad201:=(by injection e201)
      replace z06:=(HB.out.cell (World.block_lt_of_cell? w _ z06)).trans z06;replace z07:=(HB.out.cell (World.block_lt_of_cell? w _ z07)).trans z07;replace p201:=eq_true p201;replace q201:=eq_true q201;go_wp2;go_meet
      case rel => exact ⟨_,(decide (((rd_T139 l0 x5_1).f0) > 64)),(by first|rfl|(simp;done)|(simp [*];done)),H',⟨by have:=HK1.out;first|omega|exact Nat.le_refl _⟩,⟨by (with_reducible repeat (first|apply Kd.R_alloc|apply Kd.R_drewN|apply Kd.R_drew));exact HO_4.out⟩,⟨by repeat first|(with_reducible first|exact HB.out|apply yA|apply yN|apply yD)|exact HB.out⟩⟩
     rw [if_neg c4] at H;exact absurd H (by simp)
    case rest =>
     clear HC3;try clear c2
     try clear c2b0
     try clear p2
     try clear q2
     try clear hx2
     try clear c4
     try clear c4b0
     try clear c5
     try clear c5b0
     try clear z04
     try clear z05
     try clear z06
     try clear z07
     try clear p200
     try clear p201
     try clear q200
     try clear q201
     obtain ⟨kq,x31_2,rfl,HA,HJ2,HO_4,HB⟩:=hcut;cases kq with
    | zero => exact absurd HA.out (by simp [carouselref01_Pack.j1])
    | succ kj2 =>
      have H:=HA.out;clear HA;simp only [carouselref01_Pack.j1] at H;by_cases c6 : x31_2 = true
      ·
       subst c6;have H1 : (some ((⟨#[]⟩ : ByteArray),4)) = some (r1,r2):=by rw [if_pos rfl] at H;exact H
       clear H;have H:=H1;clear H1;simp only [Option.some.injEq,Prod.mk.injEq] at H;obtain ⟨rfl,rfl⟩:=H;go_wp2;go_ret2
       exact ⟨by first|rfl|(simp [errW_none,errW_some] <;> rfl)|(simp [*,errW_none,errW_some] <;> rfl),by repeat first|(with_reducible first|exact HB.out|apply yA|apply yN|apply yD)|exact HB.out⟩
      replace c6:=Bool.eq_false_iff.mpr c6;subst c6;have H1 : (if 0 ≤ x5_1 then (if x5_1 < (l0.length : Int) then ((carouselref01_bits.f kj2 ((rd_T139 l0 x5_1).f1) ((rd_T139 l0 x5_1).f0)).bind fun bt204 => (if bt204.2 = true then (if x4_1.length + bt204.1.length < 17592186044416 then (carouselref01_Pack.l0 kj2 l0 (x4_1 ++ bt204.1) (wrap64 (x5_1 + 1))) else (none)) else (some ((⟨#[]⟩ : ByteArray),4)))) else (none)) else (none)) = some (r1,r2):=by rw [if_neg (show ¬ (false = true) by decide)] at H;exact H
      clear H;have H:=H1;clear H1;by_cases c7 : 0 ≤ x5_1
      ·
       rw [if_pos c7] at H;have c7b0 : decide (0 ≤ x5_1) = true:=dT c7;clear c7;by_cases c8 : x5_1 < (l0.length : Int)
       ·
        rw [if_pos c8] at H;have c8b0 : decide (x5_1 < (l0.length : Int)) = true:=dT c8;clear c8;replace H:=Option.bind_eq_some_iff.mp H;obtain ⟨⟨z09,z0d⟩,A90,H⟩:=H;try dsimp only at H
        have A9:=zM A90;clear A90;by_cases c10 : z0d = true
        ·
         subst c10;have H1 : (if x4_1.length + z09.length < 17592186044416 then (carouselref01_Pack.l0 kj2 l0 (x4_1 ++ z09) (wrap64 (x5_1 + 1))) else (none)) = some (r1,r2):=by rw [if_pos rfl] at H;exact H
         clear H;have H:=H1;clear H1;by_cases c11 : x4_1.length + z09.length < 17592186044416
         ·
          rw [if_pos c11] at H;have LMc11:=zM c11;clear c11;obtain ⟨y208,hy208⟩ : ∃ y_ : List Int,y_ = (x4_1 ++ z09):=⟨_,rfl⟩
          replace H : (carouselref01_Pack.l0 kj2 l0 y208 (wrap64 (x5_1 + 1))) = some (r1,r2):=by first|(rw [hy208];with_reducible exact H)|(have H2_:=(Option.bind_some _ _).symm.trans H;rw [hy208];with_reducible exact H2_)|(have H2_:=(Option.bind_some _ _).symm.trans H;with_reducible exact H2_)|with_reducible exact H|(rw [hy208];exact H)|exact H
          have Ny208:=zM hy208;clear hy208;have H':=zM H;clear H;try go_wp2
          have n0_:=zM (Kd.R_drew HO_4.out);have n1_:=zM (yD HB.out);clear HO_4;clear HB;have HO_4:=n0_;have HB:=n1_;clear n0_ n1_;have p202 : 0 ≤ (x5_1 : Int):=of_decide_eq_true (by first|(with_reducible assumption)|assumption);have q202 : x5_1 < (l0.length : Int):=of_decide_eq_true (by first|(with_reducible assumption)|assumption);obtain ⟨ad202,e202,z00,z01⟩:=at_T139 HR0.out x5_1 p202 q202;have hw202_1:=z01;have hw202_0:=z00;cases e202;replace z00:=(HB.out.cell (World.block_lt_of_cell? w _ z00)).trans z00;replace z01:=(HB.out.cell (World.block_lt_of_cell? w _ z01)).trans z01;replace p202:=eq_true p202;replace q202:=eq_true q202;have p203 : 0 ≤ (x5_1 : Int):=of_decide_eq_true (by first|(with_reducible assumption)|assumption);have q203 : x5_1 < (l0.length : Int):=of_decide_eq_true (by first|(with_reducible assumption)|assumption);obtain ⟨ad203,e203,z02,z03⟩:=at_T139 HR0.out x5_1 p203 q203;have hw203_1:=z03;have hw203_0:=z02;obtain rfl : ad202 = ad203:=(by injection e203)
          replace z02:=(HB.out.cell (World.block_lt_of_cell? w _ z02)).trans z02;replace z03:=(HB.out.cell (World.block_lt_of_cell? w _ z03)).trans z03;replace p203:=eq_true p203;replace q203:=eq_true q203;refine start_ (n:=16) (S:=fun w' => w'.cell? (ad202.add ((x5_1).toNat * 2)) = some (.int .i64 ((rd_T139 l0 x5_1).f0)) ∧ w'.cell? ⟨(ad202.add ((x5_1).toNat * 2)).block,(ad202.add ((x5_1).toNat * 2)).off + 1,none⟩ = some (.int .u64 ((rd_T139 l0 x5_1).f1)) ∧ w'.cell? (ad202.add ((x5_1).toNat * 2)) = some (.int .i64 ((rd_T139 l0 x5_1).f0)) ∧ w'.cell? ⟨(ad202.add ((x5_1).toNat * 2)).block,(ad202.add ((x5_1).toNat * 2)).off + 1,none⟩ = some (.int .u64 ((rd_T139 l0 x5_1).f1))) (ds:=[]) #[false,false,false,false,false,false,false,false,false,false,false,false,false,false,false,false] (by kernel_rfl) rfl rfl ⟨((HB.out.cell (World.block_lt_of_cell? w _ hw202_0)).trans hw202_0),((HB.out.cell (World.block_lt_of_cell? w _ hw202_1)).trans hw202_1),((HB.out.cell (World.block_lt_of_cell? w _ hw203_0)).trans hw203_0),((HB.out.cell (World.block_lt_of_cell? w _ hw203_1)).trans hw203_1)⟩ (fun hHeld => ?_);refine with_tabW carouselref01_Pack.tab7 carouselref01_Pack.bits7 (fun HT_ HW_ => ?_);generalize wc.drew = w12 at HO_4 HB z00 z01 z02 z03 hHeld ⊢
          refine pure_ (i:=0) (N:=some 33) (v:=?_) (a':=?_) #[true,false,false,false,false,false,false,false,false,false,false,false,false,false,false,false] rfl rfl (any_of HT_.out (by kernel_rfl)) (fun _ _ _ h => h) (Or.inl ⟨by rfl,?_⟩) ?_ ?_;rotate_left
          ·
           intro w';go_simp;with_reducible rfl
          rotate_left
          ·
           simp only [Act.put,sA,sB,sC,i64_w,i32_w];rfl
          refine pure_ (i:=1) (N:=some 34) (v:=?_) (a':=?_) #[true,true,false,false,false,false,false,false,false,false,false,false,false,false,false,false] rfl rfl (any_of HT_.out (by kernel_rfl)) (fun _ _ _ h => h) (Or.inl ⟨by rfl,?_⟩) ?_ ?_;rotate_left
          ·
           intro w';go_simp;with_reducible rfl
          rotate_left
          ·
           simp only [Act.put,sA,sB,sC,i64_w,i32_w];rfl
          refine pure_ (i:=2) (N:=some 35) (v:=?_) (a':=?_) #[true,true,true,false,false,false,false,false,false,false,false,false,false,false,false,false] rfl rfl (any_of HT_.out (by kernel_rfl)) (fun _ _ _ h => h) (Or.inl ⟨by rfl,?_⟩) ?_ ?_;rotate_left
          ·
           intro w';go_simp;with_reducible rfl
          rotate_left
          ·
           simp only [Act.put,sA,sB,sC,i64_w,i32_w];rfl
          refine pure_ (i:=3) (N:=some 36) (v:=?_) (a':=?_) #[true,true,true,true,false,false,false,false,false,false,false,false,false,false,false,false] rfl rfl (any_of HT_.out (by kernel_rfl)) (fun _ _ _ h => h) (Or.inl ⟨by rfl,?_⟩) ?_ ?_;rotate_left
          ·
           intro w';go_simp;with_reducible rfl
          rotate_left
          ·
           simp only [Act.put,sA,sB,sC,i64_w,i32_w];rfl
          refine pure_ (i:=5) (N:=some 38) (v:=?_) (a':=?_) #[true,true,true,true,false,true,false,false,false,false,false,false,false,false,false,false] rfl rfl (any_of HT_.out (by kernel_rfl)) (fun _ _ _ h => h) (Or.inl ⟨by rfl,?_⟩) ?_ ?_;rotate_left
          ·
           intro w';go_simp;with_reducible rfl
          rotate_left
          ·
           simp only [Act.put,sA,sB,sC,i64_w,i32_w];rfl
          refine pure_ (i:=6) (N:=some 39) (v:=?_) (a':=?_) #[true,true,true,true,false,true,true,false,false,false,false,false,false,false,false,false] rfl rfl (any_of HT_.out (by kernel_rfl)) (fun _ _ _ h => h) (Or.inl ⟨by rfl,?_⟩) ?_ ?_;rotate_left
          ·
           intro w';go_simp;with_reducible rfl
          rotate_left
          ·
           simp only [Act.put,sA,sB,sC,i64_w,i32_w];rfl
          refine pure_ (i:=7) (N:=some 40) (v:=?_) (a':=?_) #[true,true,true,true,false,true,true,true,false,false,false,false,false,false,false,false] rfl rfl (any_of HT_.out (by kernel_rfl)) (fun _ _ _ h => h) (Or.inl ⟨by rfl,?_⟩) ?_ ?_;rotate_left
          ·
           intro w';go_simp;with_reducible rfl
          rotate_left
          ·
           simp only [Act.put,sA,sB,sC,i64_w,i32_w];rfl
          refine pure_ (i:=8) (N:=some 41) (v:=?_) (a':=?_) #[true,true,true,true,false,true,true,true,true,false,false,false,false,false,false,false] rfl rfl (any_of HT_.out (by kernel_rfl)) (fun _ _ _ h => h) (Or.inl ⟨by rfl,?_⟩) ?_ ?_;rotate_left
          ·
           intro w';go_simp;with_reducible rfl
          rotate_left
          ·
           simp only [Act.put,sA,sB,sC,i64_w,i32_w];rfl
          refine take_ (i:=4) (N:=some 37) (v:=?_) (a':=?_) #[true,true,true,true,true,true,true,true,true,false,false,false,false,false,false,false] rfl rfl (take_ofW HT_.out HW_.out (by kernel_rfl)) (fun _ _ _ h => h) (Or.inl ⟨by rfl,?_⟩) hHeld ?_ ?_;rotate_left
          ·
           rintro w' ⟨s0,s1,s2,s3⟩
           go_simp;with_reducible rfl
          rotate_left
          ·
           simp only [Act.put,sA,sB,sC,i64_w,i32_w];rfl
          refine take_ (i:=9) (N:=some 42) (v:=?_) (a':=?_) #[true,true,true,true,true,true,true,true,true,true,false,false,false,false,false,false] rfl rfl (take_ofW HT_.out HW_.out (by kernel_rfl)) (fun _ _ _ h => h) (Or.inl ⟨by rfl,?_⟩) hHeld ?_ ?_;rotate_left
          ·
           rintro w' ⟨s0,s1,s2,s3⟩
           go_simp;with_reducible rfl
          rotate_left
          ·
           simp only [Act.put,sA,sB,sC,i64_w,i32_w];rfl
          refine one_ (i:=10) (N:=some 43) #[true,true,true,true,true,true,true,true,true,true,true,false,false,false,false,false] rfl rfl (one_of HT_.out (by kernel_rfl)) (by decide) (fun K hK => ?_);refine goes_ Try.func81 (by kernel_rfl) rfl #[.int .u64 ((rd_T139 l0 x5_1).f1),.int .i64 ((rd_T139 l0 x5_1).f0)] (by rfl) rfl rfl (by (try simp only [List.map_toArray,List.map_cons,List.map_nil]);first|done|rfl|(simp only [List.length_drop,List.length_take];rfl)) ?_;with_reducible refine (carouselref01_bits.calls kj2 ((rd_T139 l0 x5_1).f1) ((rd_T139 l0 x5_1).f0) z09 true _ A9.out).mono ?_
          rintro e w13 ⟨v206,rfl,ho0,hb⟩
          refine ⟨_,rfl,?_⟩;have n0_:=zM (Kd.R_elder' (by (with_reducible repeat (first|apply Kd.R_alloc|apply Kd.R_drewN|apply Kd.R_drew));exact HO_4.out) (Kd.R_base ho0) hb);have n1_:=zM (Kd.R_lower (Kd.R_new' ho0 (Kd.R_lt (by (with_reducible repeat (first|apply Kd.R_alloc|apply Kd.R_drewN|apply Kd.R_drew));exact HO_4.out))) (yZ (by repeat first|(with_reducible first|exact HB.out|apply yA|apply yN|apply yD)|exact HB.out)));have n2_:=zM (yT (by repeat first|(with_reducible first|exact HB.out|apply yA|apply yN|apply yD)|exact HB.out) hb);clear HO_4;clear HB;have HO_4:=n0_;have z08:=n1_;have HB:=n2_;clear n0_ n1_ n2_;(try clear hb)
          (try clear hb2)
          (try clear hk)
          (try clear hi)
          (try clear ho0)
          refine hK.out _ _ ⟨((HB.out.cell (World.block_lt_of_cell? w _ hw202_0)).trans hw202_0),((HB.out.cell (World.block_lt_of_cell? w _ hw202_1)).trans hw202_1),((HB.out.cell (World.block_lt_of_cell? w _ hw203_0)).trans hw203_0),((HB.out.cell (World.block_lt_of_cell? w _ hw203_1)).trans hw203_1)⟩ (fun hHeld => ?_);clear hK K;refine norm_ (a':=?_) ?_ ?_;rotate_left
          ·
           show Act.put _ (some 43) _ = _
           simp only [Act.put,sA,sB,sC,i64_w,i32_w];rfl
          refine pure_ (i:=11) (N:=some 32) (v:=?_) (a':=?_) #[true,true,true,true,true,true,true,true,true,true,true,true,false,false,false,false] rfl rfl (any_of HT_.out (by kernel_rfl)) (fun _ _ _ h => h) (Or.inl ⟨by rfl,?_⟩) ?_ ?_;rotate_left
          ·
           intro w';go_simp;with_reducible rfl
          rotate_left
          ·
           simp only [Act.put,sA,sB,sC,i64_w,i32_w];rfl
          refine pure_ (i:=12) (N:=some 44) (v:=?_) (a':=?_) #[true,true,true,true,true,true,true,true,true,true,true,true,true,false,false,false] rfl rfl (any_of HT_.out (by kernel_rfl)) (fun _ _ _ h => h) (Or.inl ⟨by rfl,?_⟩) ?_ ?_;rotate_left
          ·
           intro w';go_simp;with_reducible rfl
          rotate_left
          ·
           simp only [Act.put,sA,sB,sC,i64_w,i32_w];rfl
          refine pure_ (i:=13) (N:=some 45) (v:=?_) (a':=?_) #[true,true,true,true,true,true,true,true,true,true,true,true,true,true,false,false] rfl rfl (any_of HT_.out (by kernel_rfl)) (fun _ _ _ h => h) (Or.inl ⟨by rfl,?_⟩) ?_ ?_;rotate_left
          ·
           intro w';go_simp;with_reducible rfl
          rotate_left
          ·
           simp only [Act.put,sA,sB,sC,i64_w,i32_w];rfl
          refine pure_ (i:=14) (N:=some 6) (v:=?_) (a':=?_) #[true,true,true,true,true,true,true,true,true,true,true,true,true,true,true,false] rfl rfl (any_of HT_.out (by kernel_rfl)) (fun _ _ _ h => h) (Or.inl ⟨by rfl,?_⟩) ?_ ?_;rotate_left
          ·
           intro w';go_simp;with_reducible rfl
          rotate_left
          ·
           simp only [Act.put,sA,sB,sC,i64_w,i32_w];rfl
          refine pure_ (i:=15) (N:=some 7) (v:=?_) (a':=?_) #[true,true,true,true,true,true,true,true,true,true,true,true,true,true,true,true] rfl rfl (any_of HT_.out (by kernel_rfl)) (fun _ _ _ h => h) (Or.inl ⟨by rfl,?_⟩) ?_ ?_;rotate_left
          ·
           intro w';go_simp;with_reducible rfl
          rotate_left
          ·
           simp only [Act.put,sA,sB,sC,i64_w,i32_w];rfl
          refine done_ (done_of HT_.out (by kernel_rfl)) ?_;obtain ⟨Ao15,co15,eo15⟩:=Kd.R_slice z08.out;subst eo15;try go_wp2_with (first|((with_reducible refine gate_builtin (b:=.append) (xs:=#[.tmp 48,.tmp 49]) rfl ?_);at_builtin;refine Kd.R_append_rows (Kd.int .i64) (w0:=w) w.heap.size rfl (.tmp 48) (.tmp 49) 120 3 (.int .i64 0) 8 rfl Try.underlying120 info3 rfl (by decide) (by omega) u4 x4_1 z09 _ _ _ (fun k_ => some k_ ≠ (.slice Ao15 z09.length co15 : Value).ownBlock) (fun _ => False) rfl rfl ?aO ?aR (fun _ _ h => h) (fun _ h => h.elim) ?aF ?aB ?aS ?aL ?_;(case aR => repeat (first|exact (Kd.R_reads' z08.out).2.2|(with_reducible refine Kd.C_alloc ?_ _)|(with_reducible refine Kd.C_drewN ?_ _)|(with_reducible refine Kd.C_drew ?_)));(case aB => exact (by repeat first|(with_reducible first|exact HB.out|apply yA|apply yN|apply yD)|exact HB.out));(case aF => exact (fun k_ hk => Kd.fresh' (Kd.R_lt (by (with_reducible repeat (first|apply Kd.R_alloc|apply Kd.R_drewN|apply Kd.R_drew));exact z08.out)) k_ hk));(case aO => exact (by (with_reducible repeat (first|apply Kd.R_alloc|apply Kd.R_drewN|apply Kd.R_drew));exact Kd.R_mono HO_4.out (fun _ hk => hk.2)));(case aS => exact (yZ (by repeat first|(with_reducible first|exact HB.out|apply yA|apply yN|apply yD)|exact HB.out)));(case aL => have:=LMc11.out;omega);intro v209 w14 ho hb hg hat;rw [← Ny208.out] at ho;have n0_:=zM (Kd.R_after (ok:=(fun _ => True)) (by (with_reducible repeat (first|apply Kd.R_alloc|apply Kd.R_drewN|apply Kd.R_drew));exact z08.out) hg hat);have n1_:=zM (hb);have n2_:=zM (ho);clear z08;clear HB;clear HO_4;have z08:=n0_;have HB:=n1_;have z0a:=n2_;clear n0_ n1_ n2_;clear ho hb hg hat))
          go_roundg kj2
          case measure => have:=HK1.out;have:=HJ2.out;omega
          case rel => exact ⟨(y208),(wrap64 (x5_1 + 1)),(by first|rfl|(simp;done)|(simp [*];done)),H',⟨by have:=HK1.out;have:=HJ2.out;omega⟩,⟨by (with_reducible repeat (first|apply Kd.R_alloc|apply Kd.R_drewN|apply Kd.R_drew));exact Kd.R_mono z0a.out (fun _ hk => trivial)⟩,⟨by repeat first|(with_reducible first|exact HB.out|apply yA|apply yN|apply yD)|exact HB.out⟩⟩
         rw [if_neg c11] at H;exact absurd H (by simp)
        replace c10:=Bool.eq_false_iff.mpr c10;subst c10;have H1 : (some ((⟨#[]⟩ : ByteArray),4)) = some (r1,r2):=by rw [if_neg (show ¬ (false = true) by decide)] at H;exact H
        clear H;have H:=H1;clear H1;simp only [Option.some.injEq,Prod.mk.injEq] at H;obtain ⟨rfl,rfl⟩:=H;try go_wp2
        have n0_:=zM (Kd.R_drew HO_4.out);have n1_:=zM (yD HB.out);clear HO_4;clear HB;have HO_4:=n0_;have HB:=n1_;clear n0_ n1_;have p202 : 0 ≤ (x5_1 : Int):=of_decide_eq_true (by first|(with_reducible assumption)|assumption);have q202 : x5_1 < (l0.length : Int):=of_decide_eq_true (by first|(with_reducible assumption)|assumption);obtain ⟨ad202,e202,z00,z01⟩:=at_T139 HR0.out x5_1 p202 q202;have hw202_1:=z01;have hw202_0:=z00;cases e202;replace z00:=(HB.out.cell (World.block_lt_of_cell? w _ z00)).trans z00;replace z01:=(HB.out.cell (World.block_lt_of_cell? w _ z01)).trans z01;replace p202:=eq_true p202;replace q202:=eq_true q202;have p203 : 0 ≤ (x5_1 : Int):=of_decide_eq_true (by first|(with_reducible assumption)|assumption);have q203 : x5_1 < (l0.length : Int):=of_decide_eq_true (by first|(with_reducible assumption)|assumption);obtain ⟨ad203,e203,z02,z03⟩:=at_T139 HR0.out x5_1 p203 q203;have hw203_1:=z03;have hw203_0:=z02;obtain rfl : ad202 = ad203:=(by injection e203)
        replace z02:=(HB.out.cell (World.block_lt_of_cell? w _ z02)).trans z02;replace z03:=(HB.out.cell (World.block_lt_of_cell? w _ z03)).trans z03;replace p203:=eq_true p203;replace q203:=eq_true q203;refine start_ (n:=16) (S:=fun w' => w'.cell? (ad202.add ((x5_1).toNat * 2)) = some (.int .i64 ((rd_T139 l0 x5_1).f0)) ∧ w'.cell? ⟨(ad202.add ((x5_1).toNat * 2)).block,(ad202.add ((x5_1).toNat * 2)).off + 1,none⟩ = some (.int .u64 ((rd_T139 l0 x5_1).f1)) ∧ w'.cell? (ad202.add ((x5_1).toNat * 2)) = some (.int .i64 ((rd_T139 l0 x5_1).f0)) ∧ w'.cell? ⟨(ad202.add ((x5_1).toNat * 2)).block,(ad202.add ((x5_1).toNat * 2)).off + 1,none⟩ = some (.int .u64 ((rd_T139 l0 x5_1).f1))) (ds:=[]) #[false,false,false,false,false,false,false,false,false,false,false,false,false,false,false,false] (by kernel_rfl) rfl rfl ⟨((HB.out.cell (World.block_lt_of_cell? w _ hw202_0)).trans hw202_0),((HB.out.cell (World.block_lt_of_cell? w _ hw202_1)).trans hw202_1),((HB.out.cell (World.block_lt_of_cell? w _ hw203_0)).trans hw203_0),((HB.out.cell (World.block_lt_of_cell? w _ hw203_1)).trans hw203_1)⟩ (fun hHeld => ?_);refine with_tabW carouselref01_Pack.tab7 carouselref01_Pack.bits7 (fun HT_ HW_ => ?_);generalize wc.drew = w16 at HO_4 HB z00 z01 z02 z03 hHeld ⊢
        refine pure_ (i:=0) (N:=some 33) (v:=?_) (a':=?_) #[true,false,false,false,false,false,false,false,false,false,false,false,false,false,false,false] rfl rfl (any_of HT_.out (by kernel_rfl)) (fun _ _ _ h => h) (Or.inl ⟨by rfl,?_⟩) ?_ ?_;rotate_left
        ·
         intro w';go_simp;with_reducible rfl
        rotate_left
        ·
         simp only [Act.put,sA,sB,sC,i64_w,i32_w];rfl
        refine pure_ (i:=1) (N:=some 34) (v:=?_) (a':=?_) #[true,true,false,false,false,false,false,false,false,false,false,false,false,false,false,false] rfl rfl (any_of HT_.out (by kernel_rfl)) (fun _ _ _ h => h) (Or.inl ⟨by rfl,?_⟩) ?_ ?_;rotate_left
        ·
         intro w';go_simp;with_reducible rfl
        rotate_left
        ·
         simp only [Act.put,sA,sB,sC,i64_w,i32_w];rfl
        refine pure_ (i:=2) (N:=some 35) (v:=?_) (a':=?_) #[true,true,true,false,false,false,false,false,false,false,false,false,false,false,false,false] rfl rfl (any_of HT_.out (by kernel_rfl)) (fun _ _ _ h => h) (Or.inl ⟨by rfl,?_⟩) ?_ ?_;rotate_left
        ·
         intro w';go_simp;with_reducible rfl
        rotate_left
        ·
         simp only [Act.put,sA,sB,sC,i64_w,i32_w];rfl
        refine pure_ (i:=3) (N:=some 36) (v:=?_) (a':=?_) #[true,true,true,true,false,false,false,false,false,false,false,false,false,false,false,false] rfl rfl (any_of HT_.out (by kernel_rfl)) (fun _ _ _ h => h) (Or.inl ⟨by rfl,?_⟩) ?_ ?_;rotate_left
        ·
         intro w';go_simp;with_reducible rfl
        rotate_left
        ·
         simp only [Act.put,sA,sB,sC,i64_w,i32_w];rfl
        refine pure_ (i:=5) (N:=some 38) (v:=?_) (a':=?_) #[true,true,true,true,false,true,false,false,false,false,false,false,false,false,false,false] rfl rfl (any_of HT_.out (by kernel_rfl)) (fun _ _ _ h => h) (Or.inl ⟨by rfl,?_⟩) ?_ ?_;rotate_left
        ·
         intro w';go_simp;with_reducible rfl
        rotate_left
        ·
         simp only [Act.put,sA,sB,sC,i64_w,i32_w];rfl
        refine pure_ (i:=6) (N:=some 39) (v:=?_) (a':=?_) #[true,true,true,true,false,true,true,false,false,false,false,false,false,false,false,false] rfl rfl (any_of HT_.out (by kernel_rfl)) (fun _ _ _ h => h) (Or.inl ⟨by rfl,?_⟩) ?_ ?_;rotate_left
        ·
         intro w';go_simp;with_reducible rfl
        rotate_left
        ·
         simp only [Act.put,sA,sB,sC,i64_w,i32_w];rfl
        refine pure_ (i:=7) (N:=some 40) (v:=?_) (a':=?_) #[true,true,true,true,false,true,true,true,false,false,false,false,false,false,false,false] rfl rfl (any_of HT_.out (by kernel_rfl)) (fun _ _ _ h => h) (Or.inl ⟨by rfl,?_⟩) ?_ ?_;rotate_left
        ·
         intro w';go_simp;with_reducible rfl
        rotate_left
        ·
         simp only [Act.put,sA,sB,sC,i64_w,i32_w];rfl
        refine pure_ (i:=8) (N:=some 41) (v:=?_) (a':=?_) #[true,true,true,true,false,true,true,true,true,false,false,false,false,false,false,false] rfl rfl (any_of HT_.out (by kernel_rfl)) (fun _ _ _ h => h) (Or.inl ⟨by rfl,?_⟩) ?_ ?_;rotate_left
        ·
         intro w';go_simp;with_reducible rfl
        rotate_left
        ·
         simp only [Act.put,sA,sB,sC,i64_w,i32_w];rfl
        refine take_ (i:=4) (N:=some 37) (v:=?_) (a':=?_) #[true,true,true,true,true,true,true,true,true,false,false,false,false,false,false,false] rfl rfl (take_ofW HT_.out HW_.out (by kernel_rfl)) (fun _ _ _ h => h) (Or.inl ⟨by rfl,?_⟩) hHeld ?_ ?_;rotate_left
        ·
         rintro w' ⟨s0,s1,s2,s3⟩
         go_simp;with_reducible rfl
        rotate_left
        ·
         simp only [Act.put,sA,sB,sC,i64_w,i32_w];rfl
        refine take_ (i:=9) (N:=some 42) (v:=?_) (a':=?_) #[true,true,true,true,true,true,true,true,true,true,false,false,false,false,false,false] rfl rfl (take_ofW HT_.out HW_.out (by kernel_rfl)) (fun _ _ _ h => h) (Or.inl ⟨by rfl,?_⟩) hHeld ?_ ?_;rotate_left
        ·
         rintro w' ⟨s0,s1,s2,s3⟩
         go_simp;with_reducible rfl
        rotate_left
        ·
         simp only [Act.put,sA,sB,sC,i64_w,i32_w];rfl
        refine one_ (i:=10) (N:=some 43) #[true,true,true,true,true,true,true,true,true,true,true,false,false,false,false,false] rfl rfl (one_of HT_.out (by kernel_rfl)) (by decide) (fun K hK => ?_);refine goes_ Try.func81 (by kernel_rfl) rfl #[.int .u64 ((rd_T139 l0 x5_1).f1),.int .i64 ((rd_T139 l0 x5_1).f0)] (by rfl) rfl rfl (by (try simp only [List.map_toArray,List.map_cons,List.map_nil]);first|done|rfl|(simp only [List.length_drop,List.length_take];rfl)) ?_;with_reducible refine (carouselref01_bits.calls kj2 ((rd_T139 l0 x5_1).f1) ((rd_T139 l0 x5_1).f0) z09 false _ A9.out).mono ?_
        rintro e w17 ⟨v206,rfl,ho0,hb⟩
        refine ⟨_,rfl,?_⟩;have n0_:=zM (Kd.R_elder' (by (with_reducible repeat (first|apply Kd.R_alloc|apply Kd.R_drewN|apply Kd.R_drew));exact HO_4.out) (Kd.R_base ho0) hb);have n1_:=zM (Kd.R_lower (Kd.R_new' ho0 (Kd.R_lt (by (with_reducible repeat (first|apply Kd.R_alloc|apply Kd.R_drewN|apply Kd.R_drew));exact HO_4.out))) (yZ (by repeat first|(with_reducible first|exact HB.out|apply yA|apply yN|apply yD)|exact HB.out)));have n2_:=zM (yT (by repeat first|(with_reducible first|exact HB.out|apply yA|apply yN|apply yD)|exact HB.out) hb);clear HO_4;clear HB;have HO_4:=n0_;have z08:=n1_;have HB:=n2_;clear n0_ n1_ n2_;(try clear hb)
        (try clear hb2)
        (try clear hk)
        (try clear hi)
        (try clear ho0)
        refine hK.out _ _ ⟨((HB.out.cell (World.block_lt_of_cell? w _ hw202_0)).trans hw202_0),((HB.out.cell (World.block_lt_of_cell? w _ hw202_1)).trans hw202_1),((HB.out.cell (World.block_lt_of_cell? w _ hw203_0)).trans hw203_0),((HB.out.cell (World.block_lt_of_cell? w _ hw203_1)).trans hw203_1)⟩ (fun hHeld => ?_);clear hK K;refine norm_ (a':=?_) ?_ ?_;rotate_left
        ·
         show Act.put _ (some 43) _ = _
         simp only [Act.put,sA,sB,sC,i64_w,i32_w];rfl
        refine pure_ (i:=11) (N:=some 32) (v:=?_) (a':=?_) #[true,true,true,true,true,true,true,true,true,true,true,true,false,false,false,false] rfl rfl (any_of HT_.out (by kernel_rfl)) (fun _ _ _ h => h) (Or.inl ⟨by rfl,?_⟩) ?_ ?_;rotate_left
        ·
         intro w';go_simp;with_reducible rfl
        rotate_left
        ·
         simp only [Act.put,sA,sB,sC,i64_w,i32_w];rfl
        refine pure_ (i:=12) (N:=some 44) (v:=?_) (a':=?_) #[true,true,true,true,true,true,true,true,true,true,true,true,true,false,false,false] rfl rfl (any_of HT_.out (by kernel_rfl)) (fun _ _ _ h => h) (Or.inl ⟨by rfl,?_⟩) ?_ ?_;rotate_left
        ·
         intro w';go_simp;with_reducible rfl
        rotate_left
        ·
         simp only [Act.put,sA,sB,sC,i64_w,i32_w];rfl
        refine pure_ (i:=13) (N:=some 45) (v:=?_) (a':=?_) #[true,true,true,true,true,true,true,true,true,true,true,true,true,true,false,false] rfl rfl (any_of HT_.out (by kernel_rfl)) (fun _ _ _ h => h) (Or.inl ⟨by rfl,?_⟩) ?_ ?_;rotate_left
        ·
         intro w';go_simp;with_reducible rfl
        rotate_left
        ·
         simp only [Act.put,sA,sB,sC,i64_w,i32_w];rfl
        refine pure_ (i:=14) (N:=some 6) (v:=?_) (a':=?_) #[true,true,true,true,true,true,true,true,true,true,true,true,true,true,true,false] rfl rfl (any_of HT_.out (by kernel_rfl)) (fun _ _ _ h => h) (Or.inl ⟨by rfl,?_⟩) ?_ ?_;rotate_left
        ·
         intro w';go_simp;with_reducible rfl
        rotate_left
        ·
         simp only [Act.put,sA,sB,sC,i64_w,i32_w];rfl
        refine pure_ (i:=15) (N:=some 7) (v:=?_) (a':=?_) #[true,true,true,true,true,true,true,true,true,true,true,true,true,true,true,true] rfl rfl (any_of HT_.out (by kernel_rfl)) (fun _ _ _ h => h) (Or.inl ⟨by rfl,?_⟩) ?_ ?_;rotate_left
        ·
         intro w';go_simp;with_reducible rfl
        rotate_left
        ·
         simp only [Act.put,sA,sB,sC,i64_w,i32_w];rfl
        refine done_ (done_of HT_.out (by kernel_rfl)) ?_;try go_wp2
        go_ret2
        exact ⟨by first|rfl|(simp [errW_none,errW_some] <;> rfl)|(simp [*,errW_none,errW_some] <;> rfl),by repeat first|(with_reducible first|exact HB.out|apply yA|apply yN|apply yD)|exact HB.out⟩
       rw [if_neg c8] at H;exact absurd H (by simp)
      rw [if_neg c7] at H;exact absurd H (by simp)
   rw [if_neg c2] at H;have c2b0 : decide (x5_1 < (l0.length : Int)) = false:=dF c2;clear c2;by_cases c18 : ((x4_1.length : Int) % 8) = 0
   ·
    rw [if_pos c18] at H;have c18b0 : (((x4_1.length : Int) % 8) == 0) = true:=beq_iff_eq.mpr c18;have c18b1 : (((x4_1.length : Int) % 8) != 0) = false:=bne_eq_false_iff_eq.mpr c18;clear c18;have H':=zM H;clear H;obtain ⟨Ao19,co19,eo19⟩:=Kd.R_slice HO_4.out;subst eo19;go_wp2;go_loopg [8,9] k1 (fun kq v8 v9 w' => ∃ (x8_2 : List Int) (x9_2 : Int),v9 = .int .i64 x9_2 ∧ Aside0 (carouselref01_Pack.l1 kq x4_1 x8_2 x9_2 = some (r1,r2)) ∧ Aside0 (kq ≤ k1) ∧ Aside0 (Kd.R (Kd.int .i64) 3 w' w.heap.size (fun _ => True) (.slice Ao19 x4_1.length co19) x4_1) ∧ Aside0 (Kd.R (Kd.int .u8) 5 w' w.heap.size (fun _ => True) v8 x8_2) ∧ Aside0 (Below w.heap.size w w'))
    case atStart => exact ⟨(([] : List Int)),(0),(by first|rfl|(simp;done)|(simp [*];done)),H',⟨Nat.le_refl _⟩,⟨by (with_reducible repeat (first|apply Kd.R_alloc|apply Kd.R_drewN|apply Kd.R_drew));exact HO_4.out⟩,⟨by first|exact Kd.R_nil _ _ _ _ _|exact Kd.N_nil _ _ _ _ _|exact Kd.V_nil _ _ _ _ _|exact Kd.Q_nil _ _ _ _ _|exact Kd.S_nil _ _ _ _ _⟩,⟨by repeat first|(with_reducible first|exact HB.out|apply yA|apply yN|apply yD)|exact HB.out⟩⟩
    case round =>
     clear H';try clear c1
     try clear c2
     try clear c2b0
     try clear p2
     try clear q2
     try clear hx2
     try clear c4
     try clear c4b0
     try clear c5
     try clear c5b0
     try clear c6
     try clear p6
     try clear c7
     try clear c7b0
     try clear c8
     try clear c8b0
     try clear c10
     try clear c11
     try clear c18
     try clear c18b0
     try clear c18b1
     try clear z04
     try clear z05
     try clear z06
     try clear z07
     try clear z00
     try clear z01
     try clear z02
     try clear z03
     try clear p2
     try clear p200
     try clear p201
     try clear p202
     try clear p203
     try clear q2
     try clear q200
     try clear q201
     try clear q202
     try clear q203
     obtain ⟨x8_2,x9_2,rfl,HA,HK2,HO_4,HO_8,HB⟩:=hrel;cases gk with
    | zero => exact absurd HA.out (by simp [carouselref01_Pack.l1])
    | succ k2 =>
      have H:=HA.out;clear HA;simp only [carouselref01_Pack.l1] at H;by_cases c20 : x9_2 < (x4_1.length : Int)
      ·
       rw [if_pos c20] at H;have c20b0 : decide (x9_2 < (x4_1.length : Int)) = true:=dT c20;clear c20;have H':=zM H;clear H;go_wp2;go_loopg [10,11] k2 (fun kq v10 v11 w' => ∃ (x10_3 : Int) (x11_3 : Int),v10 = .int .i64 x10_3 ∧ v11 = .int .i64 x11_3 ∧ Aside0 (carouselref01_Pack.l2 kq x4_1 x8_2 x9_2 x10_3 x11_3 = some (r1,r2)) ∧ Aside0 (kq ≤ k2) ∧ Aside0 (Kd.R (Kd.int .i64) 3 w' w.heap.size (fun _ => True) (.slice Ao19 x4_1.length co19) x4_1) ∧ Aside0 (Kd.R (Kd.int .u8) 5 w' w.heap.size (fun _ => True) u8 x8_2) ∧ Aside0 (Below w.heap.size w w'))
       case atStart => exact ⟨(0),(0),(by first|rfl|(simp;done)|(simp [*];done)),(by first|rfl|(simp;done)|(simp [*];done)),H',⟨Nat.le_refl _⟩,⟨by (with_reducible repeat (first|apply Kd.R_alloc|apply Kd.R_drewN|apply Kd.R_drew));exact HO_4.out⟩,⟨by (with_reducible repeat (first|apply Kd.R_alloc|apply Kd.R_drewN|apply Kd.R_drew));exact HO_8.out⟩,⟨by repeat first|(with_reducible first|exact HB.out|apply yA|apply yN|apply yD)|exact HB.out⟩⟩
       case round =>
        clear H';try clear c1
        try clear c2
        try clear c2b0
        try clear p2
        try clear q2
        try clear hx2
        try clear c4
        try clear c4b0
        try clear c5
        try clear c5b0
        try clear c6
        try clear p6
        try clear c7
        try clear c7b0
        try clear c8
        try clear c8b0
        try clear c10
        try clear c11
        try clear c18
        try clear c18b0
        try clear c18b1
        try clear c20
        try clear c20b0
        try clear p20
        try clear q20
        try clear z0e
        try clear z04
        try clear z05
        try clear z06
        try clear z07
        try clear z00
        try clear z01
        try clear z02
        try clear z03
        try clear p2
        try clear p200
        try clear p201
        try clear p202
        try clear p203
        try clear p6
        try clear q2
        try clear q200
        try clear q201
        try clear q202
        try clear q203
        obtain ⟨x10_3,x11_3,rfl,rfl,HA,HK3,HO_4,HO_8,HB⟩:=hrel;cases gk with
       | zero => exact absurd HA.out (by simp [carouselref01_Pack.l2])
       | succ k3 =>
         have H:=HA.out;clear HA;simp only [carouselref01_Pack.l2] at H;by_cases c21 : x11_3 < 8
         ·
          rw [if_pos c21] at H;have c21b0 : decide (x11_3 < 8) = true:=dT c21;clear c21;obtain ⟨ji22,hji22⟩ : ∃ j_ : Int,(wrap64 (x9_2 + x11_3)) = j_:=⟨_,rfl⟩
          replace H : (if 0 ≤ (ji22) then (if (ji22) < (x4_1.length : Int) then (carouselref01_Pack.l2 k3 x4_1 x8_2 x9_2 (wrap64 ((wrap64 (x10_3 * 2)) + (rd x4_1 (ji22)))) (wrap64 (x11_3 + 1))) else (none)) else (none)) = some (r1,r2):=by first|(rw [hji22] at H;exact H)|(simp only [hji22] at H ⊢;exact H)
          have hji22w : (IntKind.i64.wrap (x9_2 + x11_3)) = ji22:=(i64_w _).trans hji22;by_cases c23 : 0 ≤ (ji22)
          ·
           rw [if_pos c23] at H;have c23b0 : decide (0 ≤ (ji22)) = true:=dT c23;clear c23;by_cases c24 : (ji22) < (x4_1.length : Int)
           ·
            rw [if_pos c24] at H;have c24b0 : decide ((ji22) < (x4_1.length : Int)) = true:=dT c24;clear c24;have H':=zM H;clear H;have p211 : 0 ≤ ((ji22) : Int):=of_decide_eq_true (by first|(with_reducible assumption)|assumption);have q211 : (ji22) < (x4_1.length : Int):=of_decide_eq_true (by first|(with_reducible assumption)|assumption);obtain ⟨ad211,e211,z0b⟩:=Kd.at_int (Kd.R_reads' HO_4.out).2.2 (ji22) p211 q211;cases e211;replace p211:=eq_true p211;replace q211:=eq_true q211;go_wp2;go_roundg k3
            case measure => have:=HK1.out;have:=HK2.out;have:=HK3.out;omega
            case rel => exact ⟨(wrap64 ((wrap64 (x10_3 * 2)) + (rd x4_1 (ji22)))),(wrap64 (x11_3 + 1)),(by first|rfl|(simp;done)|(simp only [← hji22] <;> (first|rfl|simp))|(simp [*];done)),(by first|rfl|(simp;done)|(simp [*];done)),H',⟨by have:=HK1.out;have:=HK2.out;have:=HK3.out;omega⟩,⟨by (with_reducible repeat (first|apply Kd.R_alloc|apply Kd.R_drewN|apply Kd.R_drew));exact HO_4.out⟩,⟨by (with_reducible repeat (first|apply Kd.R_alloc|apply Kd.R_drewN|apply Kd.R_drew));exact HO_8.out⟩,⟨by repeat first|(with_reducible first|exact HB.out|apply yA|apply yN|apply yD)|exact HB.out⟩⟩
           rw [if_neg c24] at H;exact absurd H (by simp)
          rw [if_neg c23] at H;exact absurd H (by simp)
         rw [if_neg c21] at H;have c21b0 : decide (x11_3 < 8) = false:=dF c21;clear c21;by_cases c25 : x8_2.length < 140737488355328
         ·
          rw [if_pos c25] at H;have LMc25:=zM c25;clear c25;obtain ⟨y212,hy212⟩ : ∃ y_ : List Int,y_ = (x8_2 ++ [(x10_3) % 256]):=⟨_,rfl⟩
          replace H : (carouselref01_Pack.l1 k3 x4_1 y212 (wrap64 (x9_2 + 8))) = some (r1,r2):=by first|(rw [hy212];with_reducible exact H)|(have H2_:=(Option.bind_some _ _).symm.trans H;rw [hy212];with_reducible exact H2_)|(have H2_:=(Option.bind_some _ _).symm.trans H;with_reducible exact H2_)|with_reducible exact H|(rw [hy212];exact H)|exact H
          have Ny212:=zM hy212;clear hy212;have H':=zM H;clear H;go_wp2_with (first|((with_reducible refine gate_builtin (b:=.append) (xs:=#[.tmp 74,.tmp 77]) rfl ?_);at_builtin;refine Kd.R_append (Kd.int .u8) (w0:=w) w.heap.size rfl (.tmp 74) (.tmp 77) 73 5 (.int .u8 0) 1 rfl Try.underlying73 info5 rfl (by decide) (by omega) u8 x8_2 ((x10_3) % 256) [.int .u8 ((x10_3) % 256)] (fun _ => True) (fun _ => False) rfl rfl ?aP (fun _ hk => hk.elim) ?aF ?aO ?aB ?aS ?aL ?_;(case aP => exact rfl);(case aB => exact (by repeat first|(with_reducible first|exact HB.out|apply yA|apply yN|apply yD)|exact HB.out));(case aF => exact (fun _ _ => trivial));(case aO => exact (by (with_reducible repeat (first|apply Kd.R_alloc|apply Kd.R_drewN|apply Kd.R_drew));exact HO_8.out));(case aS => exact (yZ (by repeat first|(with_reducible first|exact HB.out|apply yA|apply yN|apply yD)|exact HB.out)));(case aL => have:=LMc25.out;omega);intro v213 w26 ho hb hg hat;rw [← Ny212.out] at ho;have n0_:=zM (Kd.R_over' (by (with_reducible repeat (first|apply Kd.R_alloc|apply Kd.R_drewN|apply Kd.R_drew));exact HO_4.out) (Kd.R_typed (by (with_reducible repeat (first|apply Kd.R_alloc|apply Kd.R_drewN|apply Kd.R_drew));exact HO_8.out)) (by decide) hg);have n1_:=zM (hb);have n2_:=zM (ho);clear HO_4;clear HB;clear HO_8;have HO_4:=n0_;have HB:=n1_;have z0c:=n2_;clear n0_ n1_ n2_;clear ho hb hg hat))
          go_roundg k3
          case measure => have:=HK1.out;have:=HK2.out;have:=HK3.out;omega
          case rel => exact ⟨(y212),(wrap64 (x9_2 + 8)),(by first|rfl|(simp;done)|(simp [*];done)),H',⟨by have:=HK1.out;have:=HK2.out;have:=HK3.out;omega⟩,⟨by (with_reducible repeat (first|apply Kd.R_alloc|apply Kd.R_drewN|apply Kd.R_drew));exact HO_4.out⟩,⟨by (with_reducible repeat (first|apply Kd.R_alloc|apply Kd.R_drewN|apply Kd.R_drew));exact z0c.out⟩,⟨by repeat first|(with_reducible first|exact HB.out|apply yA|apply yN|apply yD)|exact HB.out⟩⟩
         rw [if_neg c25] at H;exact absurd H (by simp)
      rw [if_neg c20] at H;have c20b0 : decide (x9_2 < (x4_1.length : Int)) = false:=dF c20;clear c20;simp only [Option.some.injEq,Prod.mk.injEq] at H;obtain ⟨rfl,rfl⟩:=H;have hcv27:=own_string (P:=Try.prog) Try.underlying73 Try.underlying5 Try.underlying9 (Kd.own_of_R HO_8.out);go_wp2;go_ret2
      exact ⟨by first|rfl|(simp [errW_none,errW_some] <;> rfl)|(simp [*,errW_none,errW_some] <;> rfl),by repeat first|(with_reducible first|exact HB.out|apply yA|apply yN|apply yD)|exact HB.out⟩
   rw [if_neg c18] at H;have c18b0 : (((x4_1.length : Int) % 8) == 0) = false:=beq_eq_false_iff_ne.mpr c18;have c18b1 : (((x4_1.length : Int) % 8) != 0) = true:=bne_iff_ne.mpr c18;simp only [Option.some.injEq,Prod.mk.injEq] at H;obtain ⟨rfl,rfl⟩:=H;obtain ⟨Ao28,co28,eo28⟩:=Kd.R_slice HO_4.out;subst eo28;go_wp2;go_ret2
   exact ⟨by first|rfl|(simp [errW_none,errW_some] <;> rfl)|(simp [*,errW_none,errW_some] <;> rfl),by repeat first|(with_reducible first|exact HB.out|apply yA|apply yN|apply yD)|exact HB.out⟩

/-! ### carouselref01_Put: function 72 -/
def carouselref01_Put.f (k : Nat) (a0 : Int) (a1 : Int) : Option (ByteArray) := (carouselref01_Pack.f k (([(⟨wrap64 (8 * a1), a0⟩ : S139)] : List (S139)))).bind fun bt218 => (some bt218.1)
theorem carouselref01_Put.mono : ∀ a0 a1 k, LeO (carouselref01_Put.f k a0 a1) (carouselref01_Put.f (k + 1) a0 a1) := by
 intro a0 a1 k;unfold carouselref01_Put.f
 repeat' first
  | (with_reducible exact carouselref01_Pack.mono _ _)
  | (with_reducible exact LeO.refl _)
  | (with_reducible exact LeO.none _)
  | (with_reducible refine LeO.ite ?_ ?_)
  | (with_reducible refine LeO.bind ?_ (fun _ => ?_))
  | exact carouselref01_Pack.mono _ _
  | exact LeO.none _
  | refine LeO.ite ?_ ?_
  | refine LeO.bind ?_ (fun _ => ?_)
set_option maxHeartbeats 8000000 in
set_option maxRecDepth 100000 in
theorem carouselref01_Put.calls (k : Nat) (a0 : Int) (a1 : Int) (r : ByteArray) (w : World) (h : carouselref01_Put.f k a0 a1 = some r) :
  Calls Try.prog 72 #[.int .u64 a0, .int .i64 a1] w fun e w' => e = .returned (.string r) ∧ Below w.heap.size w w' := by
 have hu139:=Try.underlying139;have HB:=zM (Below.refl w.heap.size w);have H : ((carouselref01_Pack.f k (([(⟨wrap64 (8 * a1),a0⟩ : S139)] : List (S139)))).bind fun bt218 => (some bt218.1)) = some r:=h;clear h;obtain ⟨y215,hy215⟩ : ∃ y_ : List (S139),y_ = (([(⟨wrap64 (8 * a1),a0⟩ : S139)] : List (S139))):=⟨_,rfl⟩
 replace H : ((carouselref01_Pack.f k y215).bind fun bt218 => (some bt218.1)) = some r:=by first|(rw [hy215];with_reducible exact H)|(have H2_:=(Option.bind_some _ _).symm.trans H;rw [hy215];with_reducible exact H2_)|(have H2_:=(Option.bind_some _ _).symm.trans H;with_reducible exact H2_)|with_reducible exact H|(rw [hy215];exact H)|exact H
 have Ny215:=zM hy215;clear hy215;replace H:=Option.bind_eq_some_iff.mp H;obtain ⟨⟨z01,z02⟩,A30,H⟩:=H;replace H : (some z01) = some r:=H;have A3:=zM A30;clear A30;obtain rfl:=Option.some.inj H;go_enter Try.func72,Try.ntmps72
 go_wp2_with (first|((with_reducible refine gate_dst (N:=12) rfl ?_);refine Kd.R_lit k139 _ 139 ?hg (N:=12) ?hd (xs:=([(⟨wrap64 (8 * a1),a0⟩ : S139)] : List (S139))) (inner:=[.int .i64 (wrap64 (8 * a1)),.int .u64 a0]) (ok:=fun _ => True) (okp:=fun _ => True) ?hr ?hp (fun _ hk => hk) trivial (Below.refl _ _) (Nat.le_refl _) (by simp) ?_;(case hd => rfl);(case hg => rfl);(case hr => first|(go_simp;done)|(go_simp;rfl));(case hp => exact (Reps.c2 (show Kd.M k139 _ _ _ (⟨wrap64 (8 * a1),a0⟩ : S139) [.int .i64 (wrap64 (8 * a1)),.int .u64 a0] from (k139_mkM _ _ _ (⟨wrap64 (8 * a1),a0⟩ : S139) )) (Reps.none _ _)));intro v216 w4 ho5 hb hg_ hnew_;clear hg_ hnew_;(first|rw [← Ny215.out] at ho5|(simp only [Int.reduceToNat] at ho5;rw [← Ny215.out] at ho5));have n0_:=zM (Kd.R_lower ho5 (yZ (by repeat first|(with_reducible first|exact HB.out|apply yA|apply yN|apply yD)|exact HB.out)));have n1_:=zM (yT (by repeat first|(with_reducible first|exact HB.out|apply yA|apply yN|apply yD)|exact HB.out) hb);clear HB;have z00:=n0_;have HB:=n1_;clear n0_ n1_;clear hb ho5;obtain ⟨Ao6,co6,eo6⟩:=Kd.R_slice z00.out;subst eo6)|((with_reducible refine gate_callee (f:=80) rfl ?_);refine goesL_ (some 13) rfl rfl Try.func80 (by kernel_rfl) rfl #[.slice Ao6 y215.length co6] rfl (by (try simp only [List.map_toArray,List.map_cons,List.map_nil]);first|done|rfl|(simp only [List.length_drop,List.length_take];rfl)) ?_;(with_reducible refine (carouselref01_Pack.calls k _ _ y215 z01 z02 _ ?side1 ?side2 A3.out).mono ?_);(case side1 => repeat (first|exact (Kd.R_reads' z00.out).2.2|(with_reducible refine Kd.C_alloc ?_ _)|(with_reducible refine Kd.C_drewN ?_ _)|(with_reducible refine Kd.C_drew ?_)));(case side2 => exact (Kd.R_reads' z00.out).2.1);rintro e w7 ⟨rfl,hb⟩;refine ⟨_,rfl,?_⟩;have n0_:=zM (Kd.R_below (by (with_reducible repeat (first|apply Kd.R_alloc|apply Kd.R_drewN|apply Kd.R_drew));exact z00.out) hb);have n1_:=zM (yT (by repeat first|(with_reducible first|exact HB.out|apply yA|apply yN|apply yD)|exact HB.out) hb);clear z00;clear HB;have z00:=n0_;have HB:=n1_;clear n0_ n1_;(try clear hb);(try clear hb2);(try clear hk);(try clear hi)))
 go_ret;exact ⟨by first|rfl|(simp [errW_none,errW_some] <;> rfl)|(simp [*,errW_none,errW_some] <;> rfl),by repeat first|(with_reducible first|exact HB.out|apply yA|apply yN|apply yD)|exact HB.out⟩

end Go.Proofs.Ytapicoienpbdfaa.PWatchPlays
