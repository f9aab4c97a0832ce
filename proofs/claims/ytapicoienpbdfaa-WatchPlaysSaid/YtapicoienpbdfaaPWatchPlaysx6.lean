-- Written by a program of this work, after the translation.
import Derived.Test.YtapicoienpbdfaaPWatchPlaysx0
import Derived.Test.YtapicoienpbdfaaPWatchPlaysx4
import Derived.Test.YtapicoienpbdfaaPWatchPlaysx5
namespace Go.Proofs.Ytapicoienpbdfaa.PWatchPlays
open Go.RowKit Go.Proofs.YtapicoienpbdfaaW.PrintWords Go.Proofs.YtapicoienpbdfaaW.PrintLast Go.Proofs.YtapicoienpbdfaaW.PrintMore
attribute [local go_sem] max2_int min2_int max_two min_two max_three min_three max_four min_four   -- for this text's walks alone
set_option linter.unusedVariables false
set_option linter.unusedSimpArgs false

/-! ### carouselref06_Close: function 57 -/
mutual
def carouselref06_Close.j0 : Nat → Int → Bool → Bool → Int → Int → Int → ByteArray → Option (ByteArray × Int)
  | 0, _, _, _, _, _, _, _ => none
  | k + 1, x1, x28, x221000, x221001, x221002, x221003, x221004 => if x28 = true then (some ((⟨#[]⟩ : ByteArray), 4)) else (if (x221004.size : Int) = 48 then (if x221000 = true then (carouselref06_Close.j1 k x1 ((x221001 + 128) % 256) x221000 x221001 x221002 x221003 x221004) else (carouselref06_Close.j1 k x1 x221001 x221000 x221001 x221002 x221003 x221004)) else (some ((⟨#[]⟩ : ByteArray), 3)))
def carouselref06_Close.j1 : Nat → Int → Int → Bool → Int → Int → Int → ByteArray → Option (ByteArray × Int)
  | 0, _, _, _, _, _, _, _ => none
  | k + 1, x1, x6, x221000, x221001, x221002, x221003, x221004 => (carouselref01_Put.f k (IntKind.u64.wrap (x221002)) 4).bind fun t221 => ((carouselref01_Put.f k (IntKind.u64.wrap (x221003)) 2).bind fun t222 => (if t221.size + t222.size ≤ 9223372036854775807 then (if t221.size + t222.size + x221004.size ≤ 9223372036854775807 then (if 16 ≤ 281474976710656 then ((some (List.replicate 16 0 : List Int)).bind fun y223 => (if t221.size + t222.size + x221004.size + (strOfNums y223).size ≤ 9223372036854775807 then ((carouselref04_Close.f k x1 0 1 x6 70 (((t221 ++ t222) ++ x221004) ++ (strOfNums y223))).bind fun bt226 => (some (bt226.1, bt226.2))) else (none))) else (none)) else (none)) else (none)))
end
def carouselref06_Close.f (k : Nat) (a0_0 : Bool) (a0_1 : Int) (a0_2 : Int) (a0_3 : Int) (a0_4 : ByteArray) (a1 : Int) : Option (ByteArray × Int) := if a1 > 7 then (carouselref06_Close.j0 k a1 true a0_0 a0_1 a0_2 a0_3 a0_4) else (if a0_1 = 0 then (carouselref06_Close.j0 k a1 true a0_0 a0_1 a0_2 a0_3 a0_4) else (if a0_1 > 7 then (carouselref06_Close.j0 k a1 true a0_0 a0_1 a0_2 a0_3 a0_4) else (if a0_3 = 0 then (carouselref06_Close.j0 k a1 true a0_0 a0_1 a0_2 a0_3 a0_4) else (carouselref06_Close.j0 k a1 (decide (a0_3 > 8191)) a0_0 a0_1 a0_2 a0_3 a0_4))))
theorem carouselref06_Close.mono_l : ∀ k, (∀ y0 y1 y2 y3 y4 y5 y6, LeO (carouselref06_Close.j0 k y0 y1 y2 y3 y4 y5 y6) (carouselref06_Close.j0 (k + 1) y0 y1 y2 y3 y4 y5 y6)) ∧ (∀ y0 y1 y2 y3 y4 y5 y6, LeO (carouselref06_Close.j1 k y0 y1 y2 y3 y4 y5 y6) (carouselref06_Close.j1 (k + 1) y0 y1 y2 y3 y4 y5 y6))
 | 0 => ⟨fun _ _ _ _ _ _ _ r h => by simp [carouselref06_Close.j0] at h, fun _ _ _ _ _ _ _ r h => by simp [carouselref06_Close.j1] at h⟩
 | k + 1 => by
  obtain ⟨ih0, ih1⟩ := carouselref06_Close.mono_l k
  refine ⟨?_, ?_⟩
  ·
   intro y0 y1 y2 y3 y4 y5 y6
   unfold carouselref06_Close.j0
   repeat' first
   | (with_reducible exact ih0 _ _ _ _ _ _ _)
   | (with_reducible exact ih1 _ _ _ _ _ _ _)
   | (with_reducible exact carouselref01_Put.mono _ _ _)
   | (with_reducible exact carouselref04_Close.mono _ _ _ _ _ _ _)
   | (with_reducible exact LeO.refl _)
   | (with_reducible exact LeO.none _)
   | (with_reducible refine LeO.ite ?_ ?_)
   | (with_reducible refine LeO.bind ?_ (fun _ => ?_))
   | exact ih0 _ _ _ _ _ _ _
   | exact ih1 _ _ _ _ _ _ _
   | exact carouselref01_Put.mono _ _ _
   | exact carouselref04_Close.mono _ _ _ _ _ _ _
   | exact LeO.none _
   | refine LeO.ite ?_ ?_
   | refine LeO.bind ?_ (fun _ => ?_)
  intro y0 y1 y2 y3 y4 y5 y6
  unfold carouselref06_Close.j1
  repeat' first
  | (with_reducible exact ih0 _ _ _ _ _ _ _)
  | (with_reducible exact ih1 _ _ _ _ _ _ _)
  | (with_reducible exact carouselref01_Put.mono _ _ _)
  | (with_reducible exact carouselref04_Close.mono _ _ _ _ _ _ _)
  | (with_reducible exact LeO.refl _)
  | (with_reducible exact LeO.none _)
  | (with_reducible refine LeO.ite ?_ ?_)
  | (with_reducible refine LeO.bind ?_ (fun _ => ?_))
  | exact ih0 _ _ _ _ _ _ _
  | exact ih1 _ _ _ _ _ _ _
  | exact carouselref01_Put.mono _ _ _
  | exact carouselref04_Close.mono _ _ _ _ _ _ _
  | exact LeO.none _
  | refine LeO.ite ?_ ?_
  | refine LeO.bind ?_ (fun _ => ?_)
theorem carouselref06_Close.mono : ∀ a0 a1 a2 a3 a4 a5 k, LeO (carouselref06_Close.f k a0 a1 a2 a3 a4 a5) (carouselref06_Close.f (k + 1) a0 a1 a2 a3 a4 a5) := by
 intro a0 a1 a2 a3 a4 a5 k;obtain ⟨ih0,ih1⟩:=carouselref06_Close.mono_l k;unfold carouselref06_Close.f
 repeat' first
  | (with_reducible exact ih0 _ _ _ _ _ _ _)
  | (with_reducible exact ih1 _ _ _ _ _ _ _)
  | (with_reducible exact carouselref01_Put.mono _ _ _)
  | (with_reducible exact carouselref04_Close.mono _ _ _ _ _ _ _)
  | (with_reducible exact LeO.refl _)
  | (with_reducible exact LeO.none _)
  | (with_reducible refine LeO.ite ?_ ?_)
  | (with_reducible refine LeO.bind ?_ (fun _ => ?_))
  | exact ih0 _ _ _ _ _ _ _
  | exact ih1 _ _ _ _ _ _ _
  | exact carouselref01_Put.mono _ _ _
  | exact carouselref04_Close.mono _ _ _ _ _ _ _
  | exact LeO.none _
  | refine LeO.ite ?_ ?_
  | refine LeO.bind ?_ (fun _ => ?_)
def carouselref06_Close.T8 : Bool × List (List Nat × List Nat) := (true, [([], []), ([], []), ([0, 1], [0, 1]), ([], []), ([3], [3]), ([4], [4]), ([5], [5]), ([], []), ([7], [7]), ([8], [8]), ([9, 6], [9]), ([6, 10], [6, 10]), ([], []), ([12], [12]), ([11, 13], [11, 13]), ([], []), ([15], [15]), ([14, 16], [14, 16]), ([2, 17, 10], [2, 17]), ([18], [18]), ([18], [18]), ([19, 18, 0, 1, 2, 3, 4, 5, 6, 7, 8, 9, 10, 11, 12, 13, 14, 15, 16, 17, 18, 19, 20], [19]), ([20, 21, 0, 1, 2, 3, 4, 5, 6, 7, 8, 9, 10, 11, 12, 13, 14, 15, 16, 17, 18, 19, 20, 21], [20])])
def carouselref06_Close.B8 : List Nat := [0, 0, 3, 0, 8, 24, 56, 0, 128, 384, 1016, 2040, 0, 4096, 16376, 0, 32768, 131064, 262143, 524287, 524287, 2097151, 4194303]
theorem carouselref06_Close.tab8 : rtab .any (opsOf Try.f57 8) = carouselref06_Close.T8 := by kernel_rfl
theorem carouselref06_Close.bits8 : waitsOk carouselref06_Close.T8.2 carouselref06_Close.B8 = true := by kernel_rfl
set_option maxHeartbeats 8000000 in
set_option maxRecDepth 100000 in
theorem carouselref06_Close.calls (k : Nat) (a0_0 : Bool) (a0_1 : Int) (a0_2 : Int) (a0_3 : Int) (a0_4 : ByteArray) (a1 : Int) (r1 : ByteArray) (r2 : Int) (w : World) (h : carouselref06_Close.f k a0_0 a0_1 a0_2 a0_3 a0_4 a1 = some (r1, r2)) :
  Calls Try.prog 57 #[.agg #[.bool a0_0, .int .u8 a0_1, .int .u32 a0_2, .int .u16 a0_3, .string a0_4], .int .u8 a1] w fun e w' => e = .returned (.tuple #[.string r1, .int .i64 r2]) ∧ Below w.heap.size w w' := by
 have hu79:=Try.underlying79;have hu103:=Try.underlying103;have HB:=zM (Below.refl w.heap.size w);have H : (if a1 > 7 then (carouselref06_Close.j0 k a1 true a0_0 a0_1 a0_2 a0_3 a0_4) else (if a0_1 = 0 then (carouselref06_Close.j0 k a1 true a0_0 a0_1 a0_2 a0_3 a0_4) else (if a0_1 > 7 then (carouselref06_Close.j0 k a1 true a0_0 a0_1 a0_2 a0_3 a0_4) else (if a0_3 = 0 then (carouselref06_Close.j0 k a1 true a0_0 a0_1 a0_2 a0_3 a0_4) else (carouselref06_Close.j0 k a1 (decide (a0_3 > 8191)) a0_0 a0_1 a0_2 a0_3 a0_4))))) = some (r1,r2):=h;clear h;have HC3:=zM H;clear H;go_enter Try.func57,Try.ntmps57
 go_upto_region 1 with (first|((with_reducible refine gate_dst (N:=2) rfl ?_);refine box_event ?hg (N:=2) ?hd (cs:=#[.bool a0_0,.int .u8 a0_1,.int .u32 a0_2,.int .u16 a0_3,.string a0_4]) (t:=79) ?hr ?_;(case hd => rfl);(case hg => rfl);(case hr => first|(go_simp;done)|(go_simp;rfl));intro z01 hg w4 hbox hb;have n0_:=zM (yT (by repeat first|(with_reducible first|exact HB.out|apply yA|apply yN|apply yD)|exact HB.out) hb);have n1_:=zM (hbox);have n2_:=zM ((by rw [hg];exact (yZ (by repeat first|(with_reducible first|exact HB.out|apply yA|apply yN|apply yD)|exact HB.out)) : w.heap.size ≤ z01));have n3_:=zM ((by rw [hg];exact (yZ (by repeat first|(with_reducible first|exact HB.out|apply yA|apply yN|apply yD)|exact HB.out)) : w.heap.size ≤ z01));clear HB;have HB:=n0_;have z00:=n1_;have z1x:=n2_;have z03:=n3_;clear n0_ n1_ n2_ n3_;clear hb hbox hg))
 (try simp only [Act.put,sA,sB,sC])
 go_cut [28] (fun v28 wc => ∃ (kq : Nat) (x28_2 : Bool),v28 = .bool x28_2 ∧ Aside0 (carouselref06_Close.j0 kq a1 x28_2 a0_0 a0_1 a0_2 a0_3 a0_4 = some (r1,r2)) ∧ Aside0 (kq ≤ k) ∧ Aside0 (wc.heap[z01]? = some (.cells #[.bool a0_0,.int .u8 a0_1,.int .u32 a0_2,.int .u16 a0_3,.string a0_4] 79 (0,0))) ∧ Aside0 (Below w.heap.size w wc))
 case first =>
  have H:=HC3.out;clear HC3;by_cases c5 : a1 > 7
  ·
   rw [if_pos c5] at H;have c5b0 : decide (7 < a1) = true:=dT c5;clear c5;(first|rw [c5b0]|(simp only [i64_w,i32_w];rw [c5b0])|skip)
   have H':=zM H;clear H;go_wp2;go_meet
   case rel => exact ⟨_,(true),(by first|rfl|(simp;done)|(simp [*];done)),H',⟨by first|omega|exact Nat.le_refl _⟩,⟨by (with_reducible repeat first|apply zN|apply zD|apply zA);exact z00.out⟩,⟨by repeat first|(with_reducible first|exact HB.out|apply yA|apply yN|apply yD|refine yS ?_ z03.out)|exact HB.out⟩⟩
  rw [if_neg c5] at H;have c5b0 : decide (7 < a1) = false:=dF c5;clear c5;(first|rw [c5b0]|(simp only [i64_w,i32_w];rw [c5b0])|skip)
  by_cases c6 : a0_1 = 0
  ·
   rw [if_pos c6] at H;have c6b0 : (a0_1 == 0) = true:=beq_iff_eq.mpr c6;have c6b1 : (a0_1 != 0) = false:=bne_eq_false_iff_eq.mpr c6;clear c6;have H':=zM H;clear H;obtain ⟨z0q,z0r,z0s,z0t,z0u,z0v,z0w,z0x,z0y,z0z⟩:=kc5 z00.out;go_wp2;go_meet
   case rel => exact ⟨_,(true),(by first|rfl|(simp;done)|(simp [*];done)),H',⟨by first|omega|exact Nat.le_refl _⟩,⟨by (with_reducible repeat first|apply zN|apply zD|apply zA);exact z00.out⟩,⟨by repeat first|(with_reducible first|exact HB.out|apply yA|apply yN|apply yD|refine yS ?_ z03.out)|exact HB.out⟩⟩
  rw [if_neg c6] at H;have c6b0 : (a0_1 == 0) = false:=beq_eq_false_iff_ne.mpr c6;have c6b1 : (a0_1 != 0) = true:=bne_iff_ne.mpr c6;by_cases c8 : a0_1 > 7
  ·
   rw [if_pos c8] at H;have c8b0 : decide (7 < a0_1) = true:=dT c8;clear c8;have H':=zM H;clear H;obtain ⟨z10,z11,z12,z13,z14,z15,z16,z17,z18,z19⟩:=kc5 z00.out;go_wp2;go_meet
   case rel => exact ⟨_,(true),(by first|rfl|(simp;done)|(simp [*];done)),H',⟨by first|omega|exact Nat.le_refl _⟩,⟨by (with_reducible repeat first|apply zN|apply zD|apply zA);exact z00.out⟩,⟨by repeat first|(with_reducible first|exact HB.out|apply yA|apply yN|apply yD|refine yS ?_ z03.out)|exact HB.out⟩⟩
  rw [if_neg c8] at H;have c8b0 : decide (7 < a0_1) = false:=dF c8;clear c8;by_cases c10 : a0_3 = 0
  ·
   rw [if_pos c10] at H;have c10b0 : (a0_3 == 0) = true:=beq_iff_eq.mpr c10;have c10b1 : (a0_3 != 0) = false:=bne_eq_false_iff_eq.mpr c10;clear c10;have H':=zM H;clear H;obtain ⟨z06,z07,z08,z09,z0a,z0b,z0c,z0d,z0e,z0f⟩:=kc5 z00.out;go_wp2;go_meet
   case rel => exact ⟨_,(true),(by first|rfl|(simp;done)|(simp [*];done)),H',⟨by first|omega|exact Nat.le_refl _⟩,⟨by (with_reducible repeat first|apply zN|apply zD|apply zA);exact z00.out⟩,⟨by repeat first|(with_reducible first|exact HB.out|apply yA|apply yN|apply yD|refine yS ?_ z03.out)|exact HB.out⟩⟩
  rw [if_neg c10] at H;have c10b0 : (a0_3 == 0) = false:=beq_eq_false_iff_ne.mpr c10;have c10b1 : (a0_3 != 0) = true:=bne_iff_ne.mpr c10;have H':=zM H;clear H;obtain ⟨z0g,z0h,z0i,z0j,z0k,z0l,z0m,z0n,z0o,z0p⟩:=kc5 z00.out;go_wp2;go_meet
  case rel => exact ⟨_,(decide (a0_3 > 8191)),(by first|rfl|(simp;done)|(simp [*];done)),H',⟨by first|omega|exact Nat.le_refl _⟩,⟨by (with_reducible repeat first|apply zN|apply zD|apply zA);exact z00.out⟩,⟨by repeat first|(with_reducible first|exact HB.out|apply yA|apply yN|apply yD|refine yS ?_ z03.out)|exact HB.out⟩⟩
 case rest =>
  clear HC3;try clear c1
  try clear p2
  try clear c5
  try clear c5b0
  try clear c6
  try clear c6b0
  try clear c6b1
  try clear c8
  try clear c8b0
  try clear c10
  try clear c10b0
  try clear c10b1
  try clear z06
  try clear z07
  try clear z08
  try clear z09
  try clear z0a
  try clear z0g
  try clear z0h
  try clear z0i
  try clear z0j
  try clear z0k
  try clear z0q
  try clear z0r
  try clear z0s
  try clear z0t
  try clear z0u
  try clear z10
  try clear z11
  try clear z12
  try clear z13
  try clear z14
  try clear z0b
  try clear z0c
  try clear z0d
  try clear z0e
  try clear z0f
  try clear z0l
  try clear z0m
  try clear z0n
  try clear z0o
  try clear z0p
  try clear z0v
  try clear z0w
  try clear z0x
  try clear z0y
  try clear z0z
  try clear z15
  try clear z16
  try clear z17
  try clear z18
  try clear z19
  obtain ⟨kq,x28_2,rfl,HA,HJ2,z00,HB⟩:=hcut;cases kq with
 | zero => exact absurd HA.out (by simp [carouselref06_Close.j0])
 | succ kj2 =>
   have H:=HA.out;clear HA;simp only [carouselref06_Close.j0] at H;by_cases c13 : x28_2 = true
   ·
    subst c13;have H1 : (some ((⟨#[]⟩ : ByteArray),4)) = some (r1,r2):=by rw [if_pos rfl] at H;exact H
    clear H;have H:=H1;clear H1;simp only [Option.some.injEq,Prod.mk.injEq] at H;obtain ⟨rfl,rfl⟩:=H;go_wp2;go_ret2
    exact ⟨by first|rfl|(simp [errW_none,errW_some] <;> rfl)|(simp [*,errW_none,errW_some] <;> rfl),by repeat first|(with_reducible first|exact HB.out|apply yA|apply yN|apply yD|refine yS ?_ z03.out)|exact HB.out⟩
   replace c13:=Bool.eq_false_iff.mpr c13;subst c13;have H1 : (if (a0_4.size : Int) = 48 then (if a0_0 = true then (carouselref06_Close.j1 kj2 a1 ((a0_1 + 128) % 256) a0_0 a0_1 a0_2 a0_3 a0_4) else (carouselref06_Close.j1 kj2 a1 a0_1 a0_0 a0_1 a0_2 a0_3 a0_4)) else (some ((⟨#[]⟩ : ByteArray),3))) = some (r1,r2):=by rw [if_neg (show ¬ (false = true) by decide)] at H;exact H
   clear H;have H:=H1;clear H1;by_cases c14 : (a0_4.size : Int) = 48
   ·
    rw [if_pos c14] at H;have c14b0 : ((a0_4.size : Int) == 48) = true:=beq_iff_eq.mpr c14;have c14b1 : ((a0_4.size : Int) != 48) = false:=bne_eq_false_iff_eq.mpr c14;clear c14;have z1k:=zM H;clear H;obtain ⟨z1a,z1b,z1c,z1d,z1e,z1f,z1g,z1h,z1i,z1j⟩:=kc5 z00.out;go_upto_if 36 with (fail)
    go_cut [6] (fun v6 wc => ∃ (kq : Nat) (x6_14 : Int),v6 = .int .u8 x6_14 ∧ Aside0 (carouselref06_Close.j1 kq a1 x6_14 a0_0 a0_1 a0_2 a0_3 a0_4 = some (r1,r2)) ∧ Aside0 (kq ≤ kj2) ∧ Aside0 (wc.heap[z01]? = some (.cells #[.bool a0_0,.int .u8 a0_1,.int .u32 a0_2,.int .u16 a0_3,.string a0_4] 79 (0,0))) ∧ Aside0 (Below w.heap.size w wc))
    case first =>
     have H:=z1k.out;clear z1k;by_cases c17 : a0_0 = true
     ·
      subst c17;have H1 : (carouselref06_Close.j1 kj2 a1 ((a0_1 + 128) % 256) true a0_1 a0_2 a0_3 a0_4) = some (r1,r2):=by rw [if_pos rfl] at H;exact H
      clear H;have H:=H1;clear H1;have H':=zM H;clear H;go_wp2;go_meet
      case rel => exact ⟨_,((a0_1 + 128) % 256),(by first|rfl|(simp;done)|(simp [*];done)),H',⟨by have:=HJ2.out;first|omega|exact Nat.le_refl _⟩,⟨by (with_reducible repeat first|apply zN|apply zD|apply zA);exact z00.out⟩,⟨by repeat first|(with_reducible first|exact HB.out|apply yA|apply yN|apply yD|refine yS ?_ z03.out)|exact HB.out⟩⟩
     replace c17:=Bool.eq_false_iff.mpr c17;subst c17;have H1 : (carouselref06_Close.j1 kj2 a1 a0_1 false a0_1 a0_2 a0_3 a0_4) = some (r1,r2):=by rw [if_neg (show ¬ (false = true) by decide)] at H;exact H
     clear H;have H:=H1;clear H1;have H':=zM H;clear H;go_wp2;go_meet
     case rel => exact ⟨_,(a0_1),(by first|rfl|(simp;done)|(simp [*];done)),H',⟨by have:=HJ2.out;first|omega|exact Nat.le_refl _⟩,⟨by (with_reducible repeat first|apply zN|apply zD|apply zA);exact z00.out⟩,⟨by repeat first|(with_reducible first|exact HB.out|apply yA|apply yN|apply yD|refine yS ?_ z03.out)|exact HB.out⟩⟩
    case rest =>
     clear z1k;try clear c1
     try clear p2
     try clear c5
     try clear c5b0
     try clear c6
     try clear c6b0
     try clear c6b1
     try clear c8
     try clear c8b0
     try clear c10
     try clear c10b0
     try clear c10b1
     try clear c13
     try clear c14
     try clear c14b0
     try clear c14b1
     try clear c17
     try clear z06
     try clear z07
     try clear z08
     try clear z09
     try clear z0a
     try clear z0g
     try clear z0h
     try clear z0i
     try clear z0j
     try clear z0k
     try clear z1a
     try clear z1b
     try clear z1c
     try clear z1d
     try clear z1e
     try clear z0q
     try clear z0r
     try clear z0s
     try clear z0t
     try clear z0u
     try clear z10
     try clear z11
     try clear z12
     try clear z13
     try clear z14
     try clear z0b
     try clear z0c
     try clear z0d
     try clear z0e
     try clear z0f
     try clear z0l
     try clear z0m
     try clear z0n
     try clear z0o
     try clear z0p
     try clear z1f
     try clear z1g
     try clear z1h
     try clear z1i
     try clear z1j
     try clear z0v
     try clear z0w
     try clear z0x
     try clear z0y
     try clear z0z
     try clear z15
     try clear z16
     try clear z17
     try clear z18
     try clear z19
     try clear p2
     obtain ⟨kq,x6_14,rfl,HA,HJ14,z00,HB⟩:=hcut;cases kq with
    | zero => exact absurd HA.out (by simp [carouselref06_Close.j1])
    | succ kj14 =>
      have H:=HA.out;clear HA;simp only [carouselref06_Close.j1] at H;replace H:=Option.bind_eq_some_iff.mp H;obtain ⟨z04,A180,H⟩:=H;try dsimp only at H
      have A18:=zM A180;clear A180;replace H:=Option.bind_eq_some_iff.mp H;obtain ⟨z05,A190,H⟩:=H;try dsimp only at H
      have A19:=zM A190;clear A190;by_cases c20 : z04.size + z05.size ≤ 9223372036854775807
      ·
       rw [if_pos c20] at H;have c20b0:=eq_true c20;have c20b1 : decide (z04.size + z05.size ≤ 9223372036854775807) = true:=dT c20;try have c20b2 : (9223372036854775807 < z04.size + z05.size) = False:=eq_false (Nat.not_lt.2 c20)
       by_cases c21 : z04.size + z05.size + a0_4.size ≤ 9223372036854775807
       ·
        rw [if_pos c21] at H;have c21b0:=eq_true c21;have c21b1 : decide (z04.size + z05.size + a0_4.size ≤ 9223372036854775807) = true:=dT c21;try have c21b2 : (9223372036854775807 < z04.size + z05.size + a0_4.size) = False:=eq_false (Nat.not_lt.2 c21)
        by_cases c22 : 16 ≤ 281474976710656
        ·
         rw [if_pos c22] at H;have c22b0:=eq_true c22;have c22b1 : decide (16 ≤ 281474976710656) = true:=dT c22;clear c22;obtain ⟨y223,hy223⟩ : ∃ y_ : List Int,y_ = (List.replicate 16 0):=⟨_,rfl⟩
         replace H : (if z04.size + z05.size + a0_4.size + (strOfNums y223).size ≤ 9223372036854775807 then ((carouselref04_Close.f kj14 a1 0 1 x6_14 70 (((z04 ++ z05) ++ a0_4) ++ (strOfNums y223))).bind fun bt226 => (some (bt226.1,bt226.2))) else (none)) = some (r1,r2):=by first|(rw [hy223];with_reducible exact H)|(have H2_:=(Option.bind_some _ _).symm.trans H;rw [hy223];with_reducible exact H2_)|(have H2_:=(Option.bind_some _ _).symm.trans H;with_reducible exact H2_)|with_reducible exact H|(rw [hy223];exact H)|exact H
         have Ny223:=zM hy223;clear hy223;by_cases c23 : z04.size + z05.size + a0_4.size + (strOfNums y223).size ≤ 9223372036854775807
         ·
          rw [if_pos c23] at H;have c23b0:=eq_true c23;have c23b1 : decide (z04.size + z05.size + a0_4.size + (strOfNums y223).size ≤ 9223372036854775807) = true:=dT c23;try have c23b2 : (9223372036854775807 < z04.size + z05.size + a0_4.size + (strOfNums y223).size) = False:=eq_false (Nat.not_lt.2 c23)
          replace H:=Option.bind_eq_some_iff.mp H;obtain ⟨⟨z1v,z1w⟩,A240,H⟩:=H;replace H : (some (z1v,z1w)) = some (r1,r2):=H;have A24:=zM A240;clear A240;simp only [Option.some.injEq,Prod.mk.injEq] at H;obtain ⟨rfl,rfl⟩:=H;try go_wp2
          have n0_:=zM (zD z00.out);have n1_:=zM (yD HB.out);clear z00;clear HB;have z00:=n0_;have HB:=n1_;clear n0_ n1_;refine start_ (n:=23) (S:=fun w' => w'.cell? ⟨z01,0,none⟩ = some (.bool a0_0) ∧ w'.cell? ⟨z01,1,none⟩ = some (.int .u8 a0_1) ∧ w'.cell? ⟨z01,2,none⟩ = some (.int .u32 a0_2) ∧ w'.cell? ⟨z01,3,none⟩ = some (.int .u16 a0_3) ∧ w'.cell? ⟨z01,4,none⟩ = some (.string a0_4)) (ds:=[]) #[false,false,false,false,false,false,false,false,false,false,false,false,false,false,false,false,false,false,false,false,false,false,false] (by kernel_rfl) rfl rfl ⟨(zC z00.out 0).trans rfl,(zC z00.out 1).trans rfl,(zC z00.out 2).trans rfl,(zC z00.out 3).trans rfl,(zC z00.out 4).trans rfl⟩ (fun hHeld => ?_);refine with_tabW carouselref06_Close.tab8 carouselref06_Close.bits8 (fun HT_ HW_ => ?_);generalize wc.drew = w25 at z00 HB hHeld ⊢
          refine pure_ (i:=0) (N:=some 39) (v:=?_) (a':=?_) #[true,false,false,false,false,false,false,false,false,false,false,false,false,false,false,false,false,false,false,false,false,false,false] rfl rfl (any_of HT_.out (by kernel_rfl)) (fun _ _ _ h => h) (Or.inl ⟨by rfl,?_⟩) ?_ ?_;rotate_left
          ·
           intro w';go_simp;with_reducible rfl
          rotate_left
          ·
           simp only [Act.put,sA,sB,sC,i64_w,i32_w];rfl
          refine pure_ (i:=1) (N:=some 40) (v:=?_) (a':=?_) #[true,true,false,false,false,false,false,false,false,false,false,false,false,false,false,false,false,false,false,false,false,false,false] rfl rfl (any_of HT_.out (by kernel_rfl)) (fun _ _ _ h => h) (Or.inl ⟨by rfl,?_⟩) ?_ ?_;rotate_left
          ·
           intro w';go_simp;with_reducible rfl
          rotate_left
          ·
           simp only [Act.put,sA,sB,sC,i64_w,i32_w];rfl
          refine pure_ (i:=2) (N:=some 41) (v:=?_) (a':=?_) #[true,true,true,false,false,false,false,false,false,false,false,false,false,false,false,false,false,false,false,false,false,false,false] rfl rfl (any_of HT_.out (by kernel_rfl)) (fun _ _ _ h => h) (Or.inl ⟨by rfl,?_⟩) ?_ ?_;rotate_left
          ·
           intro w';go_simp;with_reducible rfl
          rotate_left
          ·
           simp only [Act.put,sA,sB,sC,i64_w,i32_w];rfl
          refine pure_ (i:=3) (N:=some 42) (v:=?_) (a':=?_) #[true,true,true,true,false,false,false,false,false,false,false,false,false,false,false,false,false,false,false,false,false,false,false] rfl rfl (any_of HT_.out (by kernel_rfl)) (fun _ _ _ h => h) (Or.inl ⟨by rfl,?_⟩) ?_ ?_;rotate_left
          ·
           intro w';go_simp;with_reducible rfl
          rotate_left
          ·
           simp only [Act.put,sA,sB,sC,i64_w,i32_w];rfl
          refine pure_ (i:=7) (N:=some 46) (v:=?_) (a':=?_) #[true,true,true,true,false,false,false,true,false,false,false,false,false,false,false,false,false,false,false,false,false,false,false] rfl rfl (any_of HT_.out (by kernel_rfl)) (fun _ _ _ h => h) (Or.inl ⟨by rfl,?_⟩) ?_ ?_;rotate_left
          ·
           intro w';go_simp;with_reducible rfl
          rotate_left
          ·
           simp only [Act.put,sA,sB,sC,i64_w,i32_w];rfl
          refine pure_ (i:=12) (N:=some 51) (v:=?_) (a':=?_) #[true,true,true,true,false,false,false,true,false,false,false,false,true,false,false,false,false,false,false,false,false,false,false] rfl rfl (any_of HT_.out (by kernel_rfl)) (fun _ _ _ h => h) (Or.inl ⟨by rfl,?_⟩) ?_ ?_;rotate_left
          ·
           intro w';go_simp;with_reducible rfl
          rotate_left
          ·
           simp only [Act.put,sA,sB,sC,i64_w,i32_w];rfl
          refine take_ (i:=4) (N:=some 43) (v:=?_) (a':=?_) #[true,true,true,true,true,false,false,true,false,false,false,false,true,false,false,false,false,false,false,false,false,false,false] rfl rfl (take_ofW HT_.out HW_.out (by kernel_rfl)) (fun _ _ _ h => h) (Or.inl ⟨by rfl,?_⟩) hHeld ?_ ?_;rotate_left
          ·
           rintro w' ⟨s0,s1,s2,s3,s4⟩
           go_simp;with_reducible rfl
          rotate_left
          ·
           simp only [Act.put,sA,sB,sC,i64_w,i32_w];rfl
          refine pure_ (i:=5) (N:=some 44) (v:=?_) (a':=?_) #[true,true,true,true,true,true,false,true,false,false,false,false,true,false,false,false,false,false,false,false,false,false,false] rfl rfl (any_of HT_.out (by kernel_rfl)) (fun _ _ _ h => h) (Or.inl ⟨by rfl,?_⟩) ?_ ?_;rotate_left
          ·
           intro w';go_simp;with_reducible rfl
          rotate_left
          ·
           simp only [Act.put,sA,sB,sC,i64_w,i32_w];rfl
          refine take_ (i:=8) (N:=some 47) (v:=?_) (a':=?_) #[true,true,true,true,true,true,false,true,true,false,false,false,true,false,false,false,false,false,false,false,false,false,false] rfl rfl (take_ofW HT_.out HW_.out (by kernel_rfl)) (fun _ _ _ h => h) (Or.inl ⟨by rfl,?_⟩) hHeld ?_ ?_;rotate_left
          ·
           rintro w' ⟨s0,s1,s2,s3,s4⟩
           go_simp;with_reducible rfl
          rotate_left
          ·
           simp only [Act.put,sA,sB,sC,i64_w,i32_w];rfl
          refine pure_ (i:=9) (N:=some 48) (v:=?_) (a':=?_) #[true,true,true,true,true,true,false,true,true,true,false,false,true,false,false,false,false,false,false,false,false,false,false] rfl rfl (any_of HT_.out (by kernel_rfl)) (fun _ _ _ h => h) (Or.inl ⟨by rfl,?_⟩) ?_ ?_;rotate_left
          ·
           intro w';go_simp;with_reducible rfl
          rotate_left
          ·
           simp only [Act.put,sA,sB,sC,i64_w,i32_w];rfl
          refine take_ (i:=13) (N:=some 52) (v:=?_) (a':=?_) #[true,true,true,true,true,true,false,true,true,true,false,false,true,true,false,false,false,false,false,false,false,false,false] rfl rfl (take_ofW HT_.out HW_.out (by kernel_rfl)) (fun _ _ _ h => h) (Or.inl ⟨by rfl,?_⟩) hHeld ?_ ?_;rotate_left
          ·
           rintro w' ⟨s0,s1,s2,s3,s4⟩
           go_simp;with_reducible rfl
          rotate_left
          ·
           simp only [Act.put,sA,sB,sC,i64_w,i32_w];rfl
          refine join_ (σ:=Value) 6 #[true,true,true,true,true,true,true,true,true,true,true,true,true,true,true,true,true,false,false,false,false,false,false] (fun s_ => [(45,.string z04),(49,.string z05),(54,s_),(55,.string (strOfNums y223)),(50,.string (z04 ++ z05)),(53,.string ((z04 ++ z05) ++ a0_4))]) (fun s_ w' => (w'.cell? ⟨z01,0,none⟩ = some (.bool a0_0) ∧ w'.cell? ⟨z01,1,none⟩ = some (.int .u8 a0_1) ∧ w'.cell? ⟨z01,2,none⟩ = some (.int .u32 a0_2) ∧ w'.cell? ⟨z01,3,none⟩ = some (.int .u16 a0_3) ∧ w'.cell? ⟨z01,4,none⟩ = some (.string a0_4)) ∧ (Kd.R (Kd.int .u8) 5 w' w.heap.size (fun _ => True) s_ y223) ∧ (w'.heap[z01]? = some (.cells #[.bool a0_0,.int .u8 a0_1,.int .u32 a0_2,.int .u16 a0_3,.string a0_4] 79 (0,0))) ∧ (Below w.heap.size w w')) ?_ ?_;rotate_left
          ·
           intro hJ6_10_15_16;refine join_ (σ:=Value) 7 #[true,true,true,true,true,true,true,true,true,true,true,true,true,true,true,true,false,false,false,false,false,false,false] (fun s_ => [(45,.string z04),(49,.string z05),(54,s_),(50,.string (z04 ++ z05)),(53,.string ((z04 ++ z05) ++ a0_4))]) (fun s_ w' => (w'.cell? ⟨z01,0,none⟩ = some (.bool a0_0) ∧ w'.cell? ⟨z01,1,none⟩ = some (.int .u8 a0_1) ∧ w'.cell? ⟨z01,2,none⟩ = some (.int .u32 a0_2) ∧ w'.cell? ⟨z01,3,none⟩ = some (.int .u16 a0_3) ∧ w'.cell? ⟨z01,4,none⟩ = some (.string a0_4)) ∧ (Kd.R (Kd.int .u8) 5 w' w.heap.size (fun _ => True) s_ y223) ∧ (w'.heap[z01]? = some (.cells #[.bool a0_0,.int .u8 a0_1,.int .u32 a0_2,.int .u16 a0_3,.string a0_4] 79 (0,0))) ∧ (Below w.heap.size w w')) ?_ ?_;rotate_left
           ·
            intro hJ6_10_15;refine join_ (σ:=Value) 9 #[true,true,true,true,true,true,true,true,true,true,false,false,true,true,false,true,true,false,false,false,false,false,false] (fun s_ => [(45,.string z04),(54,s_),(55,.string (strOfNums y223))]) (fun s_ w' => (w'.cell? ⟨z01,0,none⟩ = some (.bool a0_0) ∧ w'.cell? ⟨z01,1,none⟩ = some (.int .u8 a0_1) ∧ w'.cell? ⟨z01,2,none⟩ = some (.int .u32 a0_2) ∧ w'.cell? ⟨z01,3,none⟩ = some (.int .u16 a0_3) ∧ w'.cell? ⟨z01,4,none⟩ = some (.string a0_4)) ∧ (Kd.R (Kd.int .u8) 5 w' w.heap.size (fun _ => True) s_ y223) ∧ (w'.heap[z01]? = some (.cells #[.bool a0_0,.int .u8 a0_1,.int .u32 a0_2,.int .u16 a0_3,.string a0_4] 79 (0,0))) ∧ (Below w.heap.size w w')) ?_ ?_;rotate_left
            ·
             intro hJ6_15_16;refine join_ (σ:=Unit) 8 #[true,true,true,true,true,true,true,true,true,true,true,true,true,true,true,false,false,false,false,false,false,false,false] (fun s_ => [(45,.string z04),(49,.string z05),(50,.string (z04 ++ z05)),(53,.string ((z04 ++ z05) ++ a0_4))]) (fun s_ w' => (w'.cell? ⟨z01,0,none⟩ = some (.bool a0_0) ∧ w'.cell? ⟨z01,1,none⟩ = some (.int .u8 a0_1) ∧ w'.cell? ⟨z01,2,none⟩ = some (.int .u32 a0_2) ∧ w'.cell? ⟨z01,3,none⟩ = some (.int .u16 a0_3) ∧ w'.cell? ⟨z01,4,none⟩ = some (.string a0_4)) ∧ (w'.heap[z01]? = some (.cells #[.bool a0_0,.int .u8 a0_1,.int .u32 a0_2,.int .u16 a0_3,.string a0_4] 79 (0,0))) ∧ (Below w.heap.size w w')) ?_ ?_;rotate_left
             ·
              intro hJ6_10;refine join_ (σ:=Value) 10 #[true,true,true,true,true,true,true,true,true,true,false,false,true,true,false,true,false,false,false,false,false,false,false] (fun s_ => [(45,.string z04),(54,s_)]) (fun s_ w' => (w'.cell? ⟨z01,0,none⟩ = some (.bool a0_0) ∧ w'.cell? ⟨z01,1,none⟩ = some (.int .u8 a0_1) ∧ w'.cell? ⟨z01,2,none⟩ = some (.int .u32 a0_2) ∧ w'.cell? ⟨z01,3,none⟩ = some (.int .u16 a0_3) ∧ w'.cell? ⟨z01,4,none⟩ = some (.string a0_4)) ∧ (Kd.R (Kd.int .u8) 5 w' w.heap.size (fun _ => True) s_ y223) ∧ (w'.heap[z01]? = some (.cells #[.bool a0_0,.int .u8 a0_1,.int .u32 a0_2,.int .u16 a0_3,.string a0_4] 79 (0,0))) ∧ (Below w.heap.size w w')) ?_ ?_;rotate_left
              ·
               intro hJ6_15;refine join_ (σ:=Value) 10 #[true,true,true,true,true,true,false,true,true,true,false,false,true,true,false,true,true,false,false,false,false,false,false] (fun s_ => [(54,s_),(55,.string (strOfNums y223))]) (fun s_ w' => (w'.cell? ⟨z01,0,none⟩ = some (.bool a0_0) ∧ w'.cell? ⟨z01,1,none⟩ = some (.int .u8 a0_1) ∧ w'.cell? ⟨z01,2,none⟩ = some (.int .u32 a0_2) ∧ w'.cell? ⟨z01,3,none⟩ = some (.int .u16 a0_3) ∧ w'.cell? ⟨z01,4,none⟩ = some (.string a0_4)) ∧ (Kd.R (Kd.int .u8) 5 w' w.heap.size (fun _ => True) s_ y223) ∧ (w'.heap[z01]? = some (.cells #[.bool a0_0,.int .u8 a0_1,.int .u32 a0_2,.int .u16 a0_3,.string a0_4] 79 (0,0))) ∧ (Below w.heap.size w w')) ?_ ?_;rotate_left
               ·
                intro hJ15_16;refine join_ (σ:=Unit) 11 #[true,true,true,true,true,true,true,true,true,true,false,false,true,true,false,false,false,false,false,false,false,false,false] (fun s_ => [(45,.string z04)]) (fun s_ w' => (w'.cell? ⟨z01,0,none⟩ = some (.bool a0_0) ∧ w'.cell? ⟨z01,1,none⟩ = some (.int .u8 a0_1) ∧ w'.cell? ⟨z01,2,none⟩ = some (.int .u32 a0_2) ∧ w'.cell? ⟨z01,3,none⟩ = some (.int .u16 a0_3) ∧ w'.cell? ⟨z01,4,none⟩ = some (.string a0_4)) ∧ (w'.heap[z01]? = some (.cells #[.bool a0_0,.int .u8 a0_1,.int .u32 a0_2,.int .u16 a0_3,.string a0_4] 79 (0,0))) ∧ (Below w.heap.size w w')) ?_ ?_;rotate_left
                ·
                 intro hJ6;refine join_ (σ:=Value) 11 #[true,true,true,true,true,true,false,true,true,true,false,false,true,true,false,true,false,false,false,false,false,false,false] (fun s_ => [(54,s_)]) (fun s_ w' => (w'.cell? ⟨z01,0,none⟩ = some (.bool a0_0) ∧ w'.cell? ⟨z01,1,none⟩ = some (.int .u8 a0_1) ∧ w'.cell? ⟨z01,2,none⟩ = some (.int .u32 a0_2) ∧ w'.cell? ⟨z01,3,none⟩ = some (.int .u16 a0_3) ∧ w'.cell? ⟨z01,4,none⟩ = some (.string a0_4)) ∧ (Kd.R (Kd.int .u8) 5 w' w.heap.size (fun _ => True) s_ y223) ∧ (w'.heap[z01]? = some (.cells #[.bool a0_0,.int .u8 a0_1,.int .u32 a0_2,.int .u16 a0_3,.string a0_4] 79 (0,0))) ∧ (Below w.heap.size w w')) ?_ ?_;rotate_left
                 ·
                  intro hJ15;refine two_ (i:=6) (j:=15) (Ni:=some 45) (Nj:=some 54) #[true,true,true,true,true,true,true,true,true,true,false,false,true,true,false,false,false,false,false,false,false,false,false] #[true,true,true,true,true,true,false,true,true,true,false,false,true,true,false,true,false,false,false,false,false,false,false] rfl rfl rfl rfl (two_of HT_.out (by kernel_rfl)) (by decide) (by decide) (fun K hK => ?_) (fun K hK => ?_)
                  ·
                   skip
                   refine goes_ Try.func72 (by kernel_rfl) rfl #[.int .u64 (IntKind.u64.wrap (a0_2)),.int .i64 4] (by rfl) rfl rfl (by (try simp only [List.map_toArray,List.map_cons,List.map_nil]);first|done|rfl|(simp only [List.length_drop,List.length_take];rfl)) ?_;with_reducible refine (carouselref01_Put.calls kj14 (IntKind.u64.wrap (a0_2)) 4 z04 _ A18.out).mono ?_
                   rintro e w26 ⟨rfl,hb⟩
                   refine ⟨_,rfl,?_⟩;have n0_:=zM (zB (g:=z01) (o:=.cells #[.bool a0_0,.int .u8 a0_1,.int .u32 a0_2,.int .u16 a0_3,.string a0_4] 79 (0,0)) (by (with_reducible repeat first|apply zN|apply zD|apply zA);exact z00.out) hb);have n1_:=zM (yT (by repeat first|(with_reducible first|exact HB.out|apply yA|apply yN|apply yD|refine yS ?_ z03.out)|exact HB.out) hb);clear z00;clear HB;have z00:=n0_;have HB:=n1_;clear n0_ n1_;(try clear hb)
                   (try clear hb2)
                   (try clear hk)
                   (try clear hi)
                   refine hK.out _ _ ⟨(zC z00.out 0).trans rfl,(zC z00.out 1).trans rfl,(zC z00.out 2).trans rfl,(zC z00.out 3).trans rfl,(zC z00.out 4).trans rfl⟩ (fun hHeld => ?_);clear hK K;refine norm_ (a':=?_) ?_ ?_;rotate_left
                   ·
                    show Act.put _ (some 45) _ = _
                    simp only [Act.put,sA,sB,sC,i64_w,i32_w];rfl
                   exact norm_ (by first|(simp only [putAll,Act.put,sA,sB,sC];done)|(simp only [putAll,Act.put,sA,sB,sC];rfl)) (hJ6 () _ ⟨hHeld,(by (with_reducible repeat first|apply zN|apply zD|apply zA);exact z00.out),(by repeat first|(with_reducible first|exact HB.out|apply yA|apply yN|apply yD|refine yS ?_ z03.out)|exact HB.out)⟩)
                  skip
                  refine Kd.R_make_step (Kd.int .u8) _ 5 (by rfl) (N:=54) rfl 73 _ _ rfl 16 rfl rfl Try.underlying73 (.int .u8 0) 1 info5 rfl (by decide) (by omega) 0 (ok:=fun _ => True) (okp:=fun _ => True) rfl (fun _ hk => hk) trivial (by omega) (by omega) (Below.refl _ _) (Nat.le_refl _) ?_;intro v224 w26 ho27 hb hg_ hnew_;clear hg_ hnew_;(first|rw [← Ny223.out] at ho27|(simp only [Int.reduceToNat] at ho27;rw [← Ny223.out] at ho27))
                  have n0_:=zM (Kd.R_lower ho27 (yZ (by repeat first|(with_reducible first|exact HB.out|apply yA|apply yN|apply yD|refine yS ?_ z03.out)|exact HB.out)));have n1_:=zM (zB (g:=z01) (o:=.cells #[.bool a0_0,.int .u8 a0_1,.int .u32 a0_2,.int .u16 a0_3,.string a0_4] 79 (0,0)) (by (with_reducible repeat first|apply zN|apply zD|apply zA);exact z00.out) hb);have n2_:=zM (yT (by repeat first|(with_reducible first|exact HB.out|apply yA|apply yN|apply yD|refine yS ?_ z03.out)|exact HB.out) hb);clear z00;clear HB;have z02:=n0_;have z00:=n1_;have HB:=n2_;clear n0_ n1_ n2_;clear hb ho27;refine hK.out _ _ ⟨(zC z00.out 0).trans rfl,(zC z00.out 1).trans rfl,(zC z00.out 2).trans rfl,(zC z00.out 3).trans rfl,(zC z00.out 4).trans rfl⟩ (fun hHeld => ?_);clear hK K;refine norm_ (a':=?_) ?_ ?_;rotate_left
                  ·
                   show Act.put _ (some 54) _ = _
                   simp only [Act.put,sA,sB,sC,i64_w,i32_w];rfl
                  exact norm_ (by first|(simp only [putAll,Act.put,sA,sB,sC];done)|(simp only [putAll,Act.put,sA,sB,sC];rfl)) (hJ15 (v224) _ ⟨hHeld,(by (with_reducible repeat (first|apply Kd.R_alloc|apply Kd.R_drewN|apply Kd.R_drew));exact z02.out),(by (with_reducible repeat first|apply zN|apply zD|apply zA);exact z00.out),(by repeat first|(with_reducible first|exact HB.out|apply yA|apply yN|apply yD|refine yS ?_ z03.out)|exact HB.out)⟩)
                 skip
                 rintro v224 w28 ⟨hS_,h0_,h1_,h2_⟩
                 have n0_ : Aside0 (Kd.R (Kd.int .u8) 5 w28 w.heap.size (fun _ => True) v224 y223):=⟨h0_⟩
                 have n1_ : Aside0 (w28.heap[z01]? = some (.cells #[.bool a0_0,.int .u8 a0_1,.int .u32 a0_2,.int .u16 a0_3,.string a0_4] 79 (0,0))):=⟨h1_⟩
                 have n2_ : Aside0 (Below w.heap.size w w28):=⟨h2_⟩
                 clear z00;clear HB;clear h0_ h1_ h2_;have z02:=n0_;have z00:=n1_;have HB:=n2_;clear n0_ n1_ n2_;have hHeld : w28.cell? ⟨z01,0,none⟩ = some (.bool a0_0) ∧ w28.cell? ⟨z01,1,none⟩ = some (.int .u8 a0_1) ∧ w28.cell? ⟨z01,2,none⟩ = some (.int .u32 a0_2) ∧ w28.cell? ⟨z01,3,none⟩ = some (.int .u16 a0_3) ∧ w28.cell? ⟨z01,4,none⟩ = some (.string a0_4):=hS_;refine norm_ (a':=?_) ?_ ?_;rotate_left
                 ·
                  simp only [putAll,Act.put,sA,sB,sC];rfl
                 refine two_ (i:=6) (j:=16) (Ni:=some 45) (Nj:=some 55) #[true,true,true,true,true,true,true,true,true,true,false,false,true,true,false,true,false,false,false,false,false,false,false] #[true,true,true,true,true,true,false,true,true,true,false,false,true,true,false,true,true,false,false,false,false,false,false] rfl rfl rfl rfl (two_of HT_.out (by kernel_rfl)) (by decide) (by decide) (fun K hK => ?_) (fun K hK => ?_)
                 ·
                  skip
                  refine goes_ Try.func72 (by kernel_rfl) rfl #[.int .u64 (IntKind.u64.wrap (a0_2)),.int .i64 4] (by rfl) rfl rfl (by (try simp only [List.map_toArray,List.map_cons,List.map_nil]);first|done|rfl|(simp only [List.length_drop,List.length_take];rfl)) ?_;with_reducible refine (carouselref01_Put.calls kj14 (IntKind.u64.wrap (a0_2)) 4 z04 _ A18.out).mono ?_
                  rintro e w29 ⟨rfl,hb⟩
                  refine ⟨_,rfl,?_⟩;have n0_:=zM (Kd.R_below (by (with_reducible repeat (first|apply Kd.R_alloc|apply Kd.R_drewN|apply Kd.R_drew));exact z02.out) hb);have n1_:=zM (zB (g:=z01) (o:=.cells #[.bool a0_0,.int .u8 a0_1,.int .u32 a0_2,.int .u16 a0_3,.string a0_4] 79 (0,0)) (by (with_reducible repeat first|apply zN|apply zD|apply zA);exact z00.out) hb);have n2_:=zM (yT (by repeat first|(with_reducible first|exact HB.out|apply yA|apply yN|apply yD|refine yS ?_ z03.out)|exact HB.out) hb);clear z02;clear z00;clear HB;have z02:=n0_;have z00:=n1_;have HB:=n2_;clear n0_ n1_ n2_;(try clear hb)
                  (try clear hb2)
                  (try clear hk)
                  (try clear hi)
                  refine hK.out _ _ ⟨(zC z00.out 0).trans rfl,(zC z00.out 1).trans rfl,(zC z00.out 2).trans rfl,(zC z00.out 3).trans rfl,(zC z00.out 4).trans rfl⟩ (fun hHeld => ?_);clear hK K;refine norm_ (a':=?_) ?_ ?_;rotate_left
                  ·
                   show Act.put _ (some 45) _ = _
                   simp only [Act.put,sA,sB,sC,i64_w,i32_w];rfl
                  exact norm_ (by first|(simp only [putAll,Act.put,sA,sB,sC];done)|(simp only [putAll,Act.put,sA,sB,sC];rfl)) (hJ6_15 (v224) _ ⟨hHeld,(by (with_reducible repeat (first|apply Kd.R_alloc|apply Kd.R_drewN|apply Kd.R_drew));exact z02.out),(by (with_reducible repeat first|apply zN|apply zD|apply zA);exact z00.out),(by repeat first|(with_reducible first|exact HB.out|apply yA|apply yN|apply yD|refine yS ?_ z03.out)|exact HB.out)⟩)
                 skip
                 have hcv29:=own_string (P:=Try.prog) Try.underlying73 Try.underlying5 Try.underlying9 (Kd.own_of_R z02.out);refine value_ (w1:=?_) (v:=?_) (by rfl) rfl ?_ ?_;rotate_left 2
                 ·
                  go_simp;constructor
                  ·
                   rfl
                  rfl
                 clear hcv29;refine hK.out _ _ ⟨(zC z00.out 0).trans rfl,(zC z00.out 1).trans rfl,(zC z00.out 2).trans rfl,(zC z00.out 3).trans rfl,(zC z00.out 4).trans rfl⟩ (fun hHeld => ?_);clear hK K;refine norm_ (a':=?_) ?_ ?_;rotate_left
                 ·
                  show Act.put _ (some 55) _ = _
                  simp only [Act.put,sA,sB,sC,i64_w,i32_w];rfl
                 exact norm_ (by first|(simp only [putAll,Act.put,sA,sB,sC];done)|(simp only [putAll,Act.put,sA,sB,sC];rfl)) (hJ15_16 (v224) _ ⟨hHeld,(by (with_reducible repeat (first|apply Kd.R_alloc|apply Kd.R_drewN|apply Kd.R_drew));exact z02.out),(by (with_reducible repeat first|apply zN|apply zD|apply zA);exact z00.out),(by repeat first|(with_reducible first|exact HB.out|apply yA|apply yN|apply yD|refine yS ?_ z03.out)|exact HB.out)⟩)
                skip
                rintro _ w27 ⟨hS_,h0_,h1_⟩
                have n0_ : Aside0 (w27.heap[z01]? = some (.cells #[.bool a0_0,.int .u8 a0_1,.int .u32 a0_2,.int .u16 a0_3,.string a0_4] 79 (0,0))):=⟨h0_⟩
                have n1_ : Aside0 (Below w.heap.size w w27):=⟨h1_⟩
                clear z00;clear HB;clear h0_ h1_;have z00:=n0_;have HB:=n1_;clear n0_ n1_;have hHeld : w27.cell? ⟨z01,0,none⟩ = some (.bool a0_0) ∧ w27.cell? ⟨z01,1,none⟩ = some (.int .u8 a0_1) ∧ w27.cell? ⟨z01,2,none⟩ = some (.int .u32 a0_2) ∧ w27.cell? ⟨z01,3,none⟩ = some (.int .u16 a0_3) ∧ w27.cell? ⟨z01,4,none⟩ = some (.string a0_4):=hS_;refine norm_ (a':=?_) ?_ ?_;rotate_left
                ·
                 simp only [putAll,Act.put,sA,sB,sC];rfl
                refine two_ (i:=10) (j:=15) (Ni:=some 49) (Nj:=some 54) #[true,true,true,true,true,true,true,true,true,true,true,false,true,true,false,false,false,false,false,false,false,false,false] #[true,true,true,true,true,true,true,true,true,true,false,false,true,true,false,true,false,false,false,false,false,false,false] rfl rfl rfl rfl (two_of HT_.out (by kernel_rfl)) (by decide) (by decide) (fun K hK => ?_) (fun K hK => ?_)
                ·
                 skip
                 refine goes_ Try.func72 (by kernel_rfl) rfl #[.int .u64 (IntKind.u64.wrap (a0_3)),.int .i64 2] (by rfl) rfl rfl (by (try simp only [List.map_toArray,List.map_cons,List.map_nil]);first|done|rfl|(simp only [List.length_drop,List.length_take];rfl)) ?_;with_reducible refine (carouselref01_Put.calls kj14 (IntKind.u64.wrap (a0_3)) 2 z05 _ A19.out).mono ?_
                 rintro e w28 ⟨rfl,hb⟩
                 refine ⟨_,rfl,?_⟩;have n0_:=zM (zB (g:=z01) (o:=.cells #[.bool a0_0,.int .u8 a0_1,.int .u32 a0_2,.int .u16 a0_3,.string a0_4] 79 (0,0)) (by (with_reducible repeat first|apply zN|apply zD|apply zA);exact z00.out) hb);have n1_:=zM (yT (by repeat first|(with_reducible first|exact HB.out|apply yA|apply yN|apply yD|refine yS ?_ z03.out)|exact HB.out) hb);clear z00;clear HB;have z00:=n0_;have HB:=n1_;clear n0_ n1_;(try clear hb)
                 (try clear hb2)
                 (try clear hk)
                 (try clear hi)
                 refine hK.out _ _ ⟨(zC z00.out 0).trans rfl,(zC z00.out 1).trans rfl,(zC z00.out 2).trans rfl,(zC z00.out 3).trans rfl,(zC z00.out 4).trans rfl⟩ (fun hHeld => ?_);clear hK K;refine norm_ (a':=?_) ?_ ?_;rotate_left
                 ·
                  show Act.put _ (some 49) _ = _
                  simp only [Act.put,sA,sB,sC,i64_w,i32_w];rfl
                 refine pure_ (i:=11) (N:=some 50) (v:=?_) (a':=?_) #[true,true,true,true,true,true,true,true,true,true,true,true,true,true,false,false,false,false,false,false,false,false,false] rfl rfl (any_of HT_.out (by kernel_rfl)) (fun _ _ _ h => h) (Or.inl ⟨by rfl,?_⟩) ?_ ?_;rotate_left
                 ·
                  intro w';go_simp;with_reducible rfl
                 rotate_left
                 ·
                  simp only [Act.put,sA,sB,sC,i64_w,i32_w];rfl
                 refine pure_ (i:=14) (N:=some 53) (v:=?_) (a':=?_) #[true,true,true,true,true,true,true,true,true,true,true,true,true,true,true,false,false,false,false,false,false,false,false] rfl rfl (any_of HT_.out (by kernel_rfl)) (fun _ _ _ h => h) (Or.inl ⟨by rfl,?_⟩) ?_ ?_;rotate_left
                 ·
                  intro w';go_simp;with_reducible rfl
                 rotate_left
                 ·
                  simp only [Act.put,sA,sB,sC,i64_w,i32_w];rfl
                 exact norm_ (by first|(simp only [putAll,Act.put,sA,sB,sC];done)|(simp only [putAll,Act.put,sA,sB,sC];rfl)) (hJ6_10 () _ ⟨hHeld,(by (with_reducible repeat first|apply zN|apply zD|apply zA);exact z00.out),(by repeat first|(with_reducible first|exact HB.out|apply yA|apply yN|apply yD|refine yS ?_ z03.out)|exact HB.out)⟩)
                skip
                refine Kd.R_make_step (Kd.int .u8) _ 5 (by rfl) (N:=54) rfl 73 _ _ rfl 16 rfl rfl Try.underlying73 (.int .u8 0) 1 info5 rfl (by decide) (by omega) 0 (ok:=fun _ => True) (okp:=fun _ => True) rfl (fun _ hk => hk) trivial (by omega) (by omega) (Below.refl _ _) (Nat.le_refl _) ?_;intro v224 w28 ho29 hb hg_ hnew_;clear hg_ hnew_;(first|rw [← Ny223.out] at ho29|(simp only [Int.reduceToNat] at ho29;rw [← Ny223.out] at ho29))
                have n0_:=zM (Kd.R_lower ho29 (yZ (by repeat first|(with_reducible first|exact HB.out|apply yA|apply yN|apply yD|refine yS ?_ z03.out)|exact HB.out)));have n1_:=zM (zB (g:=z01) (o:=.cells #[.bool a0_0,.int .u8 a0_1,.int .u32 a0_2,.int .u16 a0_3,.string a0_4] 79 (0,0)) (by (with_reducible repeat first|apply zN|apply zD|apply zA);exact z00.out) hb);have n2_:=zM (yT (by repeat first|(with_reducible first|exact HB.out|apply yA|apply yN|apply yD|refine yS ?_ z03.out)|exact HB.out) hb);clear z00;clear HB;have z02:=n0_;have z00:=n1_;have HB:=n2_;clear n0_ n1_ n2_;clear hb ho29;refine hK.out _ _ ⟨(zC z00.out 0).trans rfl,(zC z00.out 1).trans rfl,(zC z00.out 2).trans rfl,(zC z00.out 3).trans rfl,(zC z00.out 4).trans rfl⟩ (fun hHeld => ?_);clear hK K;refine norm_ (a':=?_) ?_ ?_;rotate_left
                ·
                 show Act.put _ (some 54) _ = _
                 simp only [Act.put,sA,sB,sC,i64_w,i32_w];rfl
                exact norm_ (by first|(simp only [putAll,Act.put,sA,sB,sC];done)|(simp only [putAll,Act.put,sA,sB,sC];rfl)) (hJ6_15 (v224) _ ⟨hHeld,(by (with_reducible repeat (first|apply Kd.R_alloc|apply Kd.R_drewN|apply Kd.R_drew));exact z02.out),(by (with_reducible repeat first|apply zN|apply zD|apply zA);exact z00.out),(by repeat first|(with_reducible first|exact HB.out|apply yA|apply yN|apply yD|refine yS ?_ z03.out)|exact HB.out)⟩)
               skip
               rintro v224 w29 ⟨hS_,h0_,h1_,h2_⟩
               have n0_ : Aside0 (Kd.R (Kd.int .u8) 5 w29 w.heap.size (fun _ => True) v224 y223):=⟨h0_⟩
               have n1_ : Aside0 (w29.heap[z01]? = some (.cells #[.bool a0_0,.int .u8 a0_1,.int .u32 a0_2,.int .u16 a0_3,.string a0_4] 79 (0,0))):=⟨h1_⟩
               have n2_ : Aside0 (Below w.heap.size w w29):=⟨h2_⟩
               clear z00;clear HB;clear h0_ h1_ h2_;have z02:=n0_;have z00:=n1_;have HB:=n2_;clear n0_ n1_ n2_;have hHeld : w29.cell? ⟨z01,0,none⟩ = some (.bool a0_0) ∧ w29.cell? ⟨z01,1,none⟩ = some (.int .u8 a0_1) ∧ w29.cell? ⟨z01,2,none⟩ = some (.int .u32 a0_2) ∧ w29.cell? ⟨z01,3,none⟩ = some (.int .u16 a0_3) ∧ w29.cell? ⟨z01,4,none⟩ = some (.string a0_4):=hS_;refine norm_ (a':=?_) ?_ ?_;rotate_left
               ·
                simp only [putAll,Act.put,sA,sB,sC];rfl
               refine one_ (i:=6) (N:=some 45) #[true,true,true,true,true,true,true,true,true,true,false,false,true,true,false,true,true,false,false,false,false,false,false] rfl rfl (one_of HT_.out (by kernel_rfl)) (by decide) (fun K hK => ?_);refine goes_ Try.func72 (by kernel_rfl) rfl #[.int .u64 (IntKind.u64.wrap (a0_2)),.int .i64 4] (by rfl) rfl rfl (by (try simp only [List.map_toArray,List.map_cons,List.map_nil]);first|done|rfl|(simp only [List.length_drop,List.length_take];rfl)) ?_;with_reducible refine (carouselref01_Put.calls kj14 (IntKind.u64.wrap (a0_2)) 4 z04 _ A18.out).mono ?_
               rintro e w30 ⟨rfl,hb⟩
               refine ⟨_,rfl,?_⟩;have n0_:=zM (Kd.R_below (by (with_reducible repeat (first|apply Kd.R_alloc|apply Kd.R_drewN|apply Kd.R_drew));exact z02.out) hb);have n1_:=zM (zB (g:=z01) (o:=.cells #[.bool a0_0,.int .u8 a0_1,.int .u32 a0_2,.int .u16 a0_3,.string a0_4] 79 (0,0)) (by (with_reducible repeat first|apply zN|apply zD|apply zA);exact z00.out) hb);have n2_:=zM (yT (by repeat first|(with_reducible first|exact HB.out|apply yA|apply yN|apply yD|refine yS ?_ z03.out)|exact HB.out) hb);clear z02;clear z00;clear HB;have z02:=n0_;have z00:=n1_;have HB:=n2_;clear n0_ n1_ n2_;(try clear hb)
               (try clear hb2)
               (try clear hk)
               (try clear hi)
               refine hK.out _ _ ⟨(zC z00.out 0).trans rfl,(zC z00.out 1).trans rfl,(zC z00.out 2).trans rfl,(zC z00.out 3).trans rfl,(zC z00.out 4).trans rfl⟩ (fun hHeld => ?_);clear hK K;refine norm_ (a':=?_) ?_ ?_;rotate_left
               ·
                show Act.put _ (some 45) _ = _
                simp only [Act.put,sA,sB,sC,i64_w,i32_w];rfl
               exact norm_ (by first|(simp only [putAll,Act.put,sA,sB,sC];done)|(simp only [putAll,Act.put,sA,sB,sC];rfl)) (hJ6_15_16 (v224) _ ⟨hHeld,(by (with_reducible repeat (first|apply Kd.R_alloc|apply Kd.R_drewN|apply Kd.R_drew));exact z02.out),(by (with_reducible repeat first|apply zN|apply zD|apply zA);exact z00.out),(by repeat first|(with_reducible first|exact HB.out|apply yA|apply yN|apply yD|refine yS ?_ z03.out)|exact HB.out)⟩)
              skip
              rintro v224 w29 ⟨hS_,h0_,h1_,h2_⟩
              have n0_ : Aside0 (Kd.R (Kd.int .u8) 5 w29 w.heap.size (fun _ => True) v224 y223):=⟨h0_⟩
              have n1_ : Aside0 (w29.heap[z01]? = some (.cells #[.bool a0_0,.int .u8 a0_1,.int .u32 a0_2,.int .u16 a0_3,.string a0_4] 79 (0,0))):=⟨h1_⟩
              have n2_ : Aside0 (Below w.heap.size w w29):=⟨h2_⟩
              clear z00;clear HB;clear h0_ h1_ h2_;have z02:=n0_;have z00:=n1_;have HB:=n2_;clear n0_ n1_ n2_;have hHeld : w29.cell? ⟨z01,0,none⟩ = some (.bool a0_0) ∧ w29.cell? ⟨z01,1,none⟩ = some (.int .u8 a0_1) ∧ w29.cell? ⟨z01,2,none⟩ = some (.int .u32 a0_2) ∧ w29.cell? ⟨z01,3,none⟩ = some (.int .u16 a0_3) ∧ w29.cell? ⟨z01,4,none⟩ = some (.string a0_4):=hS_;refine norm_ (a':=?_) ?_ ?_;rotate_left
              ·
               simp only [putAll,Act.put,sA,sB,sC];rfl
              refine two_ (i:=10) (j:=16) (Ni:=some 49) (Nj:=some 55) #[true,true,true,true,true,true,true,true,true,true,true,false,true,true,false,true,false,false,false,false,false,false,false] #[true,true,true,true,true,true,true,true,true,true,false,false,true,true,false,true,true,false,false,false,false,false,false] rfl rfl rfl rfl (two_of HT_.out (by kernel_rfl)) (by decide) (by decide) (fun K hK => ?_) (fun K hK => ?_)
              ·
               skip
               refine goes_ Try.func72 (by kernel_rfl) rfl #[.int .u64 (IntKind.u64.wrap (a0_3)),.int .i64 2] (by rfl) rfl rfl (by (try simp only [List.map_toArray,List.map_cons,List.map_nil]);first|done|rfl|(simp only [List.length_drop,List.length_take];rfl)) ?_;with_reducible refine (carouselref01_Put.calls kj14 (IntKind.u64.wrap (a0_3)) 2 z05 _ A19.out).mono ?_
               rintro e w30 ⟨rfl,hb⟩
               refine ⟨_,rfl,?_⟩;have n0_:=zM (Kd.R_below (by (with_reducible repeat (first|apply Kd.R_alloc|apply Kd.R_drewN|apply Kd.R_drew));exact z02.out) hb);have n1_:=zM (zB (g:=z01) (o:=.cells #[.bool a0_0,.int .u8 a0_1,.int .u32 a0_2,.int .u16 a0_3,.string a0_4] 79 (0,0)) (by (with_reducible repeat first|apply zN|apply zD|apply zA);exact z00.out) hb);have n2_:=zM (yT (by repeat first|(with_reducible first|exact HB.out|apply yA|apply yN|apply yD|refine yS ?_ z03.out)|exact HB.out) hb);clear z02;clear z00;clear HB;have z02:=n0_;have z00:=n1_;have HB:=n2_;clear n0_ n1_ n2_;(try clear hb)
               (try clear hb2)
               (try clear hk)
               (try clear hi)
               refine hK.out _ _ ⟨(zC z00.out 0).trans rfl,(zC z00.out 1).trans rfl,(zC z00.out 2).trans rfl,(zC z00.out 3).trans rfl,(zC z00.out 4).trans rfl⟩ (fun hHeld => ?_);clear hK K;refine norm_ (a':=?_) ?_ ?_;rotate_left
               ·
                show Act.put _ (some 49) _ = _
                simp only [Act.put,sA,sB,sC,i64_w,i32_w];rfl
               refine pure_ (i:=11) (N:=some 50) (v:=?_) (a':=?_) #[true,true,true,true,true,true,true,true,true,true,true,true,true,true,false,true,false,false,false,false,false,false,false] rfl rfl (any_of HT_.out (by kernel_rfl)) (fun _ _ _ h => h) (Or.inl ⟨by rfl,?_⟩) ?_ ?_;rotate_left
               ·
                intro w';go_simp;with_reducible rfl
               rotate_left
               ·
                simp only [Act.put,sA,sB,sC,i64_w,i32_w];rfl
               refine pure_ (i:=14) (N:=some 53) (v:=?_) (a':=?_) #[true,true,true,true,true,true,true,true,true,true,true,true,true,true,true,true,false,false,false,false,false,false,false] rfl rfl (any_of HT_.out (by kernel_rfl)) (fun _ _ _ h => h) (Or.inl ⟨by rfl,?_⟩) ?_ ?_;rotate_left
               ·
                intro w';go_simp;with_reducible rfl
               rotate_left
               ·
                simp only [Act.put,sA,sB,sC,i64_w,i32_w];rfl
               exact norm_ (by first|(simp only [putAll,Act.put,sA,sB,sC];done)|(simp only [putAll,Act.put,sA,sB,sC];rfl)) (hJ6_10_15 (v224) _ ⟨hHeld,(by (with_reducible repeat (first|apply Kd.R_alloc|apply Kd.R_drewN|apply Kd.R_drew));exact z02.out),(by (with_reducible repeat first|apply zN|apply zD|apply zA);exact z00.out),(by repeat first|(with_reducible first|exact HB.out|apply yA|apply yN|apply yD|refine yS ?_ z03.out)|exact HB.out)⟩)
              skip
              have hcv30:=own_string (P:=Try.prog) Try.underlying73 Try.underlying5 Try.underlying9 (Kd.own_of_R z02.out);refine value_ (w1:=?_) (v:=?_) (by rfl) rfl ?_ ?_;rotate_left 2
              ·
               go_simp;constructor
               ·
                rfl
               rfl
              clear hcv30;refine hK.out _ _ ⟨(zC z00.out 0).trans rfl,(zC z00.out 1).trans rfl,(zC z00.out 2).trans rfl,(zC z00.out 3).trans rfl,(zC z00.out 4).trans rfl⟩ (fun hHeld => ?_);clear hK K;refine norm_ (a':=?_) ?_ ?_;rotate_left
              ·
               show Act.put _ (some 55) _ = _
               simp only [Act.put,sA,sB,sC,i64_w,i32_w];rfl
              exact norm_ (by first|(simp only [putAll,Act.put,sA,sB,sC];done)|(simp only [putAll,Act.put,sA,sB,sC];rfl)) (hJ6_15_16 (v224) _ ⟨hHeld,(by (with_reducible repeat (first|apply Kd.R_alloc|apply Kd.R_drewN|apply Kd.R_drew));exact z02.out),(by (with_reducible repeat first|apply zN|apply zD|apply zA);exact z00.out),(by repeat first|(with_reducible first|exact HB.out|apply yA|apply yN|apply yD|refine yS ?_ z03.out)|exact HB.out)⟩)
             skip
             rintro _ w28 ⟨hS_,h0_,h1_⟩
             have n0_ : Aside0 (w28.heap[z01]? = some (.cells #[.bool a0_0,.int .u8 a0_1,.int .u32 a0_2,.int .u16 a0_3,.string a0_4] 79 (0,0))):=⟨h0_⟩
             have n1_ : Aside0 (Below w.heap.size w w28):=⟨h1_⟩
             clear z00;clear HB;clear h0_ h1_;have z00:=n0_;have HB:=n1_;clear n0_ n1_;have hHeld : w28.cell? ⟨z01,0,none⟩ = some (.bool a0_0) ∧ w28.cell? ⟨z01,1,none⟩ = some (.int .u8 a0_1) ∧ w28.cell? ⟨z01,2,none⟩ = some (.int .u32 a0_2) ∧ w28.cell? ⟨z01,3,none⟩ = some (.int .u16 a0_3) ∧ w28.cell? ⟨z01,4,none⟩ = some (.string a0_4):=hS_;refine norm_ (a':=?_) ?_ ?_;rotate_left
             ·
              simp only [putAll,Act.put,sA,sB,sC];rfl
             refine one_ (i:=15) (N:=some 54) #[true,true,true,true,true,true,true,true,true,true,true,true,true,true,true,true,false,false,false,false,false,false,false] rfl rfl (one_of HT_.out (by kernel_rfl)) (by decide) (fun K hK => ?_);refine Kd.R_make_step (Kd.int .u8) _ 5 (by rfl) (N:=54) rfl 73 _ _ rfl 16 rfl rfl Try.underlying73 (.int .u8 0) 1 info5 rfl (by decide) (by omega) 0 (ok:=fun _ => True) (okp:=fun _ => True) rfl (fun _ hk => hk) trivial (by omega) (by omega) (Below.refl _ _) (Nat.le_refl _) ?_;intro v224 w29 ho30 hb hg_ hnew_;clear hg_ hnew_;(first|rw [← Ny223.out] at ho30|(simp only [Int.reduceToNat] at ho30;rw [← Ny223.out] at ho30))
             have n0_:=zM (Kd.R_lower ho30 (yZ (by repeat first|(with_reducible first|exact HB.out|apply yA|apply yN|apply yD|refine yS ?_ z03.out)|exact HB.out)));have n1_:=zM (zB (g:=z01) (o:=.cells #[.bool a0_0,.int .u8 a0_1,.int .u32 a0_2,.int .u16 a0_3,.string a0_4] 79 (0,0)) (by (with_reducible repeat first|apply zN|apply zD|apply zA);exact z00.out) hb);have n2_:=zM (yT (by repeat first|(with_reducible first|exact HB.out|apply yA|apply yN|apply yD|refine yS ?_ z03.out)|exact HB.out) hb);clear z00;clear HB;have z02:=n0_;have z00:=n1_;have HB:=n2_;clear n0_ n1_ n2_;clear hb ho30;refine hK.out _ _ ⟨(zC z00.out 0).trans rfl,(zC z00.out 1).trans rfl,(zC z00.out 2).trans rfl,(zC z00.out 3).trans rfl,(zC z00.out 4).trans rfl⟩ (fun hHeld => ?_);clear hK K;refine norm_ (a':=?_) ?_ ?_;rotate_left
             ·
              show Act.put _ (some 54) _ = _
              simp only [Act.put,sA,sB,sC,i64_w,i32_w];rfl
             exact norm_ (by first|(simp only [putAll,Act.put,sA,sB,sC];done)|(simp only [putAll,Act.put,sA,sB,sC];rfl)) (hJ6_10_15 (v224) _ ⟨hHeld,(by (with_reducible repeat (first|apply Kd.R_alloc|apply Kd.R_drewN|apply Kd.R_drew));exact z02.out),(by (with_reducible repeat first|apply zN|apply zD|apply zA);exact z00.out),(by repeat first|(with_reducible first|exact HB.out|apply yA|apply yN|apply yD|refine yS ?_ z03.out)|exact HB.out)⟩)
            skip
            rintro v224 w30 ⟨hS_,h0_,h1_,h2_⟩
            have n0_ : Aside0 (Kd.R (Kd.int .u8) 5 w30 w.heap.size (fun _ => True) v224 y223):=⟨h0_⟩
            have n1_ : Aside0 (w30.heap[z01]? = some (.cells #[.bool a0_0,.int .u8 a0_1,.int .u32 a0_2,.int .u16 a0_3,.string a0_4] 79 (0,0))):=⟨h1_⟩
            have n2_ : Aside0 (Below w.heap.size w w30):=⟨h2_⟩
            clear z00;clear HB;clear h0_ h1_ h2_;have z02:=n0_;have z00:=n1_;have HB:=n2_;clear n0_ n1_ n2_;have hHeld : w30.cell? ⟨z01,0,none⟩ = some (.bool a0_0) ∧ w30.cell? ⟨z01,1,none⟩ = some (.int .u8 a0_1) ∧ w30.cell? ⟨z01,2,none⟩ = some (.int .u32 a0_2) ∧ w30.cell? ⟨z01,3,none⟩ = some (.int .u16 a0_3) ∧ w30.cell? ⟨z01,4,none⟩ = some (.string a0_4):=hS_;refine norm_ (a':=?_) ?_ ?_;rotate_left
            ·
             simp only [putAll,Act.put,sA,sB,sC];rfl
            refine one_ (i:=10) (N:=some 49) #[true,true,true,true,true,true,true,true,true,true,true,false,true,true,false,true,true,false,false,false,false,false,false] rfl rfl (one_of HT_.out (by kernel_rfl)) (by decide) (fun K hK => ?_);refine goes_ Try.func72 (by kernel_rfl) rfl #[.int .u64 (IntKind.u64.wrap (a0_3)),.int .i64 2] (by rfl) rfl rfl (by (try simp only [List.map_toArray,List.map_cons,List.map_nil]);first|done|rfl|(simp only [List.length_drop,List.length_take];rfl)) ?_;with_reducible refine (carouselref01_Put.calls kj14 (IntKind.u64.wrap (a0_3)) 2 z05 _ A19.out).mono ?_
            rintro e w31 ⟨rfl,hb⟩
            refine ⟨_,rfl,?_⟩;have n0_:=zM (Kd.R_below (by (with_reducible repeat (first|apply Kd.R_alloc|apply Kd.R_drewN|apply Kd.R_drew));exact z02.out) hb);have n1_:=zM (zB (g:=z01) (o:=.cells #[.bool a0_0,.int .u8 a0_1,.int .u32 a0_2,.int .u16 a0_3,.string a0_4] 79 (0,0)) (by (with_reducible repeat first|apply zN|apply zD|apply zA);exact z00.out) hb);have n2_:=zM (yT (by repeat first|(with_reducible first|exact HB.out|apply yA|apply yN|apply yD|refine yS ?_ z03.out)|exact HB.out) hb);clear z02;clear z00;clear HB;have z02:=n0_;have z00:=n1_;have HB:=n2_;clear n0_ n1_ n2_;(try clear hb)
            (try clear hb2)
            (try clear hk)
            (try clear hi)
            refine hK.out _ _ ⟨(zC z00.out 0).trans rfl,(zC z00.out 1).trans rfl,(zC z00.out 2).trans rfl,(zC z00.out 3).trans rfl,(zC z00.out 4).trans rfl⟩ (fun hHeld => ?_);clear hK K;refine norm_ (a':=?_) ?_ ?_;rotate_left
            ·
             show Act.put _ (some 49) _ = _
             simp only [Act.put,sA,sB,sC,i64_w,i32_w];rfl
            refine pure_ (i:=11) (N:=some 50) (v:=?_) (a':=?_) #[true,true,true,true,true,true,true,true,true,true,true,true,true,true,false,true,true,false,false,false,false,false,false] rfl rfl (any_of HT_.out (by kernel_rfl)) (fun _ _ _ h => h) (Or.inl ⟨by rfl,?_⟩) ?_ ?_;rotate_left
            ·
             intro w';go_simp;with_reducible rfl
            rotate_left
            ·
             simp only [Act.put,sA,sB,sC,i64_w,i32_w];rfl
            refine pure_ (i:=14) (N:=some 53) (v:=?_) (a':=?_) #[true,true,true,true,true,true,true,true,true,true,true,true,true,true,true,true,true,false,false,false,false,false,false] rfl rfl (any_of HT_.out (by kernel_rfl)) (fun _ _ _ h => h) (Or.inl ⟨by rfl,?_⟩) ?_ ?_;rotate_left
            ·
             intro w';go_simp;with_reducible rfl
            rotate_left
            ·
             simp only [Act.put,sA,sB,sC,i64_w,i32_w];rfl
            exact norm_ (by first|(simp only [putAll,Act.put,sA,sB,sC];done)|(simp only [putAll,Act.put,sA,sB,sC];rfl)) (hJ6_10_15_16 (v224) _ ⟨hHeld,(by (with_reducible repeat (first|apply Kd.R_alloc|apply Kd.R_drewN|apply Kd.R_drew));exact z02.out),(by (with_reducible repeat first|apply zN|apply zD|apply zA);exact z00.out),(by repeat first|(with_reducible first|exact HB.out|apply yA|apply yN|apply yD|refine yS ?_ z03.out)|exact HB.out)⟩)
           skip
           rintro v224 w30 ⟨hS_,h0_,h1_,h2_⟩
           have n0_ : Aside0 (Kd.R (Kd.int .u8) 5 w30 w.heap.size (fun _ => True) v224 y223):=⟨h0_⟩
           have n1_ : Aside0 (w30.heap[z01]? = some (.cells #[.bool a0_0,.int .u8 a0_1,.int .u32 a0_2,.int .u16 a0_3,.string a0_4] 79 (0,0))):=⟨h1_⟩
           have n2_ : Aside0 (Below w.heap.size w w30):=⟨h2_⟩
           clear z00;clear HB;clear h0_ h1_ h2_;have z02:=n0_;have z00:=n1_;have HB:=n2_;clear n0_ n1_ n2_;have hHeld : w30.cell? ⟨z01,0,none⟩ = some (.bool a0_0) ∧ w30.cell? ⟨z01,1,none⟩ = some (.int .u8 a0_1) ∧ w30.cell? ⟨z01,2,none⟩ = some (.int .u32 a0_2) ∧ w30.cell? ⟨z01,3,none⟩ = some (.int .u16 a0_3) ∧ w30.cell? ⟨z01,4,none⟩ = some (.string a0_4):=hS_;refine norm_ (a':=?_) ?_ ?_;rotate_left
           ·
            simp only [putAll,Act.put,sA,sB,sC];rfl
           refine one_ (i:=16) (N:=some 55) #[true,true,true,true,true,true,true,true,true,true,true,true,true,true,true,true,true,false,false,false,false,false,false] rfl rfl (one_of HT_.out (by kernel_rfl)) (by decide) (fun K hK => ?_);have hcv31:=own_string (P:=Try.prog) Try.underlying73 Try.underlying5 Try.underlying9 (Kd.own_of_R z02.out);refine value_ (w1:=?_) (v:=?_) (by rfl) rfl ?_ ?_;rotate_left 2
           ·
            go_simp;constructor
            ·
             rfl
            rfl
           clear hcv31;refine hK.out _ _ ⟨(zC z00.out 0).trans rfl,(zC z00.out 1).trans rfl,(zC z00.out 2).trans rfl,(zC z00.out 3).trans rfl,(zC z00.out 4).trans rfl⟩ (fun hHeld => ?_);clear hK K;refine norm_ (a':=?_) ?_ ?_;rotate_left
           ·
            show Act.put _ (some 55) _ = _
            simp only [Act.put,sA,sB,sC,i64_w,i32_w];rfl
           exact norm_ (by first|(simp only [putAll,Act.put,sA,sB,sC];done)|(simp only [putAll,Act.put,sA,sB,sC];rfl)) (hJ6_10_15_16 (v224) _ ⟨hHeld,(by (with_reducible repeat (first|apply Kd.R_alloc|apply Kd.R_drewN|apply Kd.R_drew));exact z02.out),(by (with_reducible repeat first|apply zN|apply zD|apply zA);exact z00.out),(by repeat first|(with_reducible first|exact HB.out|apply yA|apply yN|apply yD|refine yS ?_ z03.out)|exact HB.out)⟩)
          rintro v224 w31 ⟨hS_,h0_,h1_,h2_⟩
          have n0_ : Aside0 (Kd.R (Kd.int .u8) 5 w31 w.heap.size (fun _ => True) v224 y223):=⟨h0_⟩
          have n1_ : Aside0 (w31.heap[z01]? = some (.cells #[.bool a0_0,.int .u8 a0_1,.int .u32 a0_2,.int .u16 a0_3,.string a0_4] 79 (0,0))):=⟨h1_⟩
          have n2_ : Aside0 (Below w.heap.size w w31):=⟨h2_⟩
          clear z00;clear HB;clear h0_ h1_ h2_;have z02:=n0_;have z00:=n1_;have HB:=n2_;clear n0_ n1_ n2_;have hHeld : w31.cell? ⟨z01,0,none⟩ = some (.bool a0_0) ∧ w31.cell? ⟨z01,1,none⟩ = some (.int .u8 a0_1) ∧ w31.cell? ⟨z01,2,none⟩ = some (.int .u32 a0_2) ∧ w31.cell? ⟨z01,3,none⟩ = some (.int .u16 a0_3) ∧ w31.cell? ⟨z01,4,none⟩ = some (.string a0_4):=hS_;refine norm_ (a':=?_) ?_ ?_;rotate_left
          ·
           simp only [putAll,Act.put,sA,sB,sC];rfl
          refine pure_ (i:=17) (N:=some 56) (v:=?_) (a':=?_) #[true,true,true,true,true,true,true,true,true,true,true,true,true,true,true,true,true,true,false,false,false,false,false] rfl rfl (any_of HT_.out (by kernel_rfl)) (fun _ _ _ h => h) (Or.inl ⟨by rfl,?_⟩) ?_ ?_;rotate_left
          ·
           intro w';go_simp;with_reducible rfl
          rotate_left
          ·
           simp only [Act.put,sA,sB,sC,i64_w,i32_w];rfl
          refine one_ (i:=18) (N:=some 57) #[true,true,true,true,true,true,true,true,true,true,true,true,true,true,true,true,true,true,true,false,false,false,false] rfl rfl (one_of HT_.out (by kernel_rfl)) (by decide) (fun K hK => ?_);refine goes_ Try.func71 (by kernel_rfl) rfl #[.agg #[.int .u8 a1,.int .u8 0,.int .u8 1,.int .u8 x6_14,.int .u8 70],.string (((z04 ++ z05) ++ a0_4) ++ (strOfNums y223))] (by rfl) rfl rfl (by (try simp only [List.map_toArray,List.map_cons,List.map_nil]);first|done|rfl|(simp only [List.length_drop,List.length_take];rfl)) ?_;with_reducible refine (carouselref04_Close.calls kj14 a1 0 1 x6_14 70 (((z04 ++ z05) ++ a0_4) ++ (strOfNums y223)) z1v z1w _ A24.out).mono ?_
          rintro e w32 ⟨rfl,hb⟩
          refine ⟨_,rfl,?_⟩;have n0_:=zM (Kd.R_below (by (with_reducible repeat (first|apply Kd.R_alloc|apply Kd.R_drewN|apply Kd.R_drew));exact z02.out) hb);have n1_:=zM (zB (g:=z01) (o:=.cells #[.bool a0_0,.int .u8 a0_1,.int .u32 a0_2,.int .u16 a0_3,.string a0_4] 79 (0,0)) (by (with_reducible repeat first|apply zN|apply zD|apply zA);exact z00.out) hb);have n2_:=zM (yT (by repeat first|(with_reducible first|exact HB.out|apply yA|apply yN|apply yD|refine yS ?_ z03.out)|exact HB.out) hb);clear z02;clear z00;clear HB;have z02:=n0_;have z00:=n1_;have HB:=n2_;clear n0_ n1_ n2_;(try clear hb)
          (try clear hb2)
          (try clear hk)
          (try clear hi)
          refine hK.out _ _ ⟨(zC z00.out 0).trans rfl,(zC z00.out 1).trans rfl,(zC z00.out 2).trans rfl,(zC z00.out 3).trans rfl,(zC z00.out 4).trans rfl⟩ (fun hHeld => ?_);clear hK K;refine norm_ (a':=?_) ?_ ?_;rotate_left
          ·
           show Act.put _ (some 57) _ = _
           simp only [Act.put,sA,sB,sC,i64_w,i32_w];rfl
          refine pure_ (i:=19) (N:=some 58) (v:=?_) (a':=?_) #[true,true,true,true,true,true,true,true,true,true,true,true,true,true,true,true,true,true,true,true,false,false,false] rfl rfl (any_of HT_.out (by kernel_rfl)) (fun _ _ _ h => h) (Or.inl ⟨by rfl,?_⟩) ?_ ?_;rotate_left
          ·
           intro w';go_simp;with_reducible rfl
          rotate_left
          ·
           simp only [Act.put,sA,sB,sC,i64_w,i32_w];rfl
          refine pure_ (i:=20) (N:=some 59) (v:=?_) (a':=?_) #[true,true,true,true,true,true,true,true,true,true,true,true,true,true,true,true,true,true,true,true,true,false,false] rfl rfl (any_of HT_.out (by kernel_rfl)) (fun _ _ _ h => h) (Or.inl ⟨by rfl,?_⟩) ?_ ?_;rotate_left
          ·
           intro w';go_simp;with_reducible rfl
          rotate_left
          ·
           simp only [Act.put,sA,sB,sC,i64_w,i32_w];rfl
          refine pure_ (i:=21) (N:=some 4) (v:=?_) (a':=?_) #[true,true,true,true,true,true,true,true,true,true,true,true,true,true,true,true,true,true,true,true,true,true,false] rfl rfl (any_of HT_.out (by kernel_rfl)) (fun _ _ _ h => h) (Or.inl ⟨by rfl,?_⟩) ?_ ?_;rotate_left
          ·
           intro w';go_simp;with_reducible rfl
          rotate_left
          ·
           simp only [Act.put,sA,sB,sC,i64_w,i32_w];rfl
          refine pure_ (i:=22) (N:=some 5) (v:=?_) (a':=?_) #[true,true,true,true,true,true,true,true,true,true,true,true,true,true,true,true,true,true,true,true,true,true,true] rfl rfl (any_of HT_.out (by kernel_rfl)) (fun _ _ _ h => h) (Or.inl ⟨by rfl,?_⟩) ?_ ?_;rotate_left
          ·
           intro w';go_simp;with_reducible rfl
          rotate_left
          ·
           simp only [Act.put,sA,sB,sC,i64_w,i32_w];rfl
          refine done_ (done_of HT_.out (by kernel_rfl)) ?_;try go_wp2
          go_ret2
          exact ⟨by first|rfl|(simp [errW_none,errW_some] <;> rfl)|(simp [*,errW_none,errW_some] <;> rfl),by repeat first|(with_reducible first|exact HB.out|apply yA|apply yN|apply yD|refine yS ?_ z03.out)|exact HB.out⟩
         rw [if_neg c23] at H;exact absurd H (by simp)
        rw [if_neg c22] at H;exact absurd H (by simp)
       rw [if_neg c21] at H;exact absurd H (by simp)
      rw [if_neg c20] at H;exact absurd H (by simp)
   rw [if_neg c14] at H;have c14b0 : ((a0_4.size : Int) == 48) = false:=beq_eq_false_iff_ne.mpr c14;have c14b1 : ((a0_4.size : Int) != 48) = true:=bne_iff_ne.mpr c14;simp only [Option.some.injEq,Prod.mk.injEq] at H;obtain ⟨rfl,rfl⟩:=H;obtain ⟨z1l,z1m,z1n,z1o,z1p,z1q,z1r,z1s,z1t,z1u⟩:=kc5 z00.out;go_wp2;go_ret2
   exact ⟨by first|rfl|(simp [errW_none,errW_some] <;> rfl)|(simp [*,errW_none,errW_some] <;> rfl),by repeat first|(with_reducible first|exact HB.out|apply yA|apply yN|apply yD|refine yS ?_ z03.out)|exact HB.out⟩

end Go.Proofs.Ytapicoienpbdfaa.PWatchPlays
