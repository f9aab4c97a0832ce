-- Written by a program of this work, after the translation.
import Derived.Test.YtapicoienpbdfaaPPlanTellsx0
import Derived.Test.YtapicoienpbdfaaPPlanTellsx9
import Derived.Test.YtapicoienpbdfaaPPlanTellsx10
import Derived.Test.YtapicoienpbdfaaPPlanTellsx11
import Derived.Test.YtapicoienpbdfaaPPlanTellsx12
namespace Go.Proofs.Ytapicoienpbdfaa.PPlanTells
open Go.RowKit Go.Proofs.YtapicoienpbdfaaW.PrintWords Go.Proofs.YtapicoienpbdfaaW.PrintLast Go.Proofs.YtapicoienpbdfaaW.PrintMore
attribute [local go_sem] max2_int min2_int max_two min_two max_three min_three max_four min_four   -- for this text's walks alone
set_option linter.unusedVariables false
set_option linter.unusedSimpArgs false

/-! ### ccm_Close: function 38 -/
def ccm_Close.j0 : Nat → Int → ByteArray → Int → Bool → Int → Int → Int → ByteArray → Option (ByteArray × Int)
  | 0, _, _, _, _, _, _, _, _ => none
  | k + 1, x1, x7, x9, x163000, x163001, x163002, x163003, x163004 => if x7.size + x163004.size ≤ 9223372036854775807 then ((strings_Repeat.f (⟨#[0]⟩ : ByteArray) 16).bind fun t169 => (if x7.size + x163004.size + t169.size ≤ 9223372036854775807 then ((oam_Close.f x1 0 1 x9 70 ((x7 ++ x163004) ++ t169)).bind fun bt170 => (some (bt170.1, bt170.2))) else (none))) else (none)
def ccm_Close.f (k : Nat) (a0_0 : Bool) (a0_1 : Int) (a0_2 : Int) (a0_3 : Int) (a0_4 : ByteArray) (a1 : Int) : Option (ByteArray × Int) := if a1 > 7 then (some ((⟨#[]⟩ : ByteArray), 4)) else ((ccm_Msg_wrong.f k a0_0 a0_1 a0_2 a0_3 a0_4).bind fun t163 => (if t163 = 0 then ((field_Pack.f (([(⟨32, IntKind.u64.wrap (a0_2)⟩ : S100), (⟨16, IntKind.u64.wrap (a0_3)⟩ : S100)] : List (S100)))).bind fun bt167 => (if bt167.2 = 0 then (if a0_0 = true then (ccm_Close.j0 k a1 bt167.1 (Go.bits .or .u8 a0_1 128) a0_0 a0_1 a0_2 a0_3 a0_4) else (ccm_Close.j0 k a1 bt167.1 a0_1 a0_0 a0_1 a0_2 a0_3 a0_4)) else (some ((⟨#[]⟩ : ByteArray), bt167.2)))) else (some ((⟨#[]⟩ : ByteArray), t163))))
theorem ccm_Close.mono_l : ∀ k, (∀ y0 y1 y2 y3 y4 y5 y6 y7, LeO (ccm_Close.j0 k y0 y1 y2 y3 y4 y5 y6 y7) (ccm_Close.j0 (k + 1) y0 y1 y2 y3 y4 y5 y6 y7))
 | 0 => fun _ _ _ _ _ _ _ _ r h => by simp [ccm_Close.j0] at h
 | k + 1 => by
  have ih0 := ccm_Close.mono_l k
  intro y0 y1 y2 y3 y4 y5 y6 y7
  unfold ccm_Close.j0
  repeat' first
  | (with_reducible exact ih0 _ _ _ _ _ _ _ _)
  | (with_reducible exact ccm_Msg_wrong.mono _ _ _ _ _ _)
  | (with_reducible exact LeO.refl _)
  | (with_reducible exact LeO.none _)
  | (with_reducible refine LeO.ite ?_ ?_)
  | (with_reducible refine LeO.bind ?_ (fun _ => ?_))
  | exact ih0 _ _ _ _ _ _ _ _
  | exact ccm_Msg_wrong.mono _ _ _ _ _ _
  | exact LeO.none _
  | refine LeO.ite ?_ ?_
  | refine LeO.bind ?_ (fun _ => ?_)
theorem ccm_Close.mono : ∀ a0 a1 a2 a3 a4 a5 k, LeO (ccm_Close.f k a0 a1 a2 a3 a4 a5) (ccm_Close.f (k + 1) a0 a1 a2 a3 a4 a5) := by
 intro a0 a1 a2 a3 a4 a5 k;have ih0:=ccm_Close.mono_l k;unfold ccm_Close.f
 repeat' first
  | (with_reducible exact ih0 _ _ _ _ _ _ _ _)
  | (with_reducible exact ccm_Msg_wrong.mono _ _ _ _ _ _)
  | (with_reducible exact LeO.refl _)
  | (with_reducible exact LeO.none _)
  | (with_reducible refine LeO.ite ?_ ?_)
  | (with_reducible refine LeO.bind ?_ (fun _ => ?_))
  | exact ih0 _ _ _ _ _ _ _ _
  | exact ccm_Msg_wrong.mono _ _ _ _ _ _
  | exact LeO.none _
  | refine LeO.ite ?_ ?_
  | refine LeO.bind ?_ (fun _ => ?_)
def ccm_Close.T12 : Bool × List (List Nat × List Nat) := (true, [([], []), ([], []), ([0, 1], [0, 1]), ([], []), ([], []), ([4], [4]), ([3, 5], [3, 5]), ([], []), ([6, 7], [6, 7]), ([2, 8, 7], [2, 8]), ([9], [9]), ([9], [9]), ([10, 9, 0, 1, 2, 3, 4, 5, 6, 7, 8, 9, 10, 11], [10]), ([11, 12, 0, 1, 2, 3, 4, 5, 6, 7, 8, 9, 10, 11, 12], [11])])
def ccm_Close.B12 : List Nat := [0, 0, 3, 0, 0, 16, 56, 0, 248, 511, 1023, 1023, 4095, 8191]
theorem ccm_Close.tab12 : rtab .any (opsOf Try.f38 12) = ccm_Close.T12 := by kernel_rfl
theorem ccm_Close.bits12 : waitsOk ccm_Close.T12.2 ccm_Close.B12 = true := by kernel_rfl
set_option maxHeartbeats 8000000 in
set_option maxRecDepth 100000 in
theorem ccm_Close.calls (k : Nat) (a0_0 : Bool) (a0_1 : Int) (a0_2 : Int) (a0_3 : Int) (a0_4 : ByteArray) (a1 : Int) (r1 : ByteArray) (r2 : Int) (w : World) (h : ccm_Close.f k a0_0 a0_1 a0_2 a0_3 a0_4 a1 = some (r1, r2)) :
  Calls Try.prog 38 #[.agg #[.bool a0_0, .int .u8 a0_1, .int .u32 a0_2, .int .u16 a0_3, .string a0_4], .int .u8 a1] w fun e w' => e = .returned (.tuple #[.string r1, .int .i64 r2]) ∧ Below w.heap.size w w' := by
 have hu62:=Try.underlying62;have hu100:=Try.underlying100;have hu84:=Try.underlying84;have HB:=zM (Below.refl w.heap.size w);have H : (if a1 > 7 then (some ((⟨#[]⟩ : ByteArray),4)) else ((ccm_Msg_wrong.f k a0_0 a0_1 a0_2 a0_3 a0_4).bind fun z05 => (if z05 = 0 then ((field_Pack.f (([(⟨32,IntKind.u64.wrap (a0_2)⟩ : S100),(⟨16,IntKind.u64.wrap (a0_3)⟩ : S100)] : List (S100)))).bind fun bt167 => (if bt167.2 = 0 then (if a0_0 = true then (ccm_Close.j0 k a1 bt167.1 (Go.bits .or .u8 a0_1 128) a0_0 a0_1 a0_2 a0_3 a0_4) else (ccm_Close.j0 k a1 bt167.1 a0_1 a0_0 a0_1 a0_2 a0_3 a0_4)) else (some ((⟨#[]⟩ : ByteArray),bt167.2)))) else (some ((⟨#[]⟩ : ByteArray),z05))))) = some (r1,r2):=h;clear h;by_cases c3 : a1 > 7
 ·
  rw [if_pos c3] at H;have c3b0 : decide (7 < a1) = true:=dT c3;clear c3;simp only [Option.some.injEq,Prod.mk.injEq] at H;obtain ⟨rfl,rfl⟩:=H;go_enter Try.func38,Try.ntmps38
  go_wp2_with (first|((with_reducible refine gate_dst (N:=2) rfl ?_);refine box_event ?hg (N:=2) ?hd (cs:=#[.bool a0_0,.int .u8 a0_1,.int .u32 a0_2,.int .u16 a0_3,.string a0_4]) (t:=62) ?hr ?_;(case hd => rfl);(case hg => rfl);(case hr => first|(go_simp;done)|(go_simp;rfl));intro z01 hg w4 hbox hb;have n0_:=zM (yT (by repeat first|(with_reducible first|exact HB.out|apply yA|apply yN|apply yD)|exact HB.out) hb);have n1_:=zM (hbox);have n2_:=zM ((by rw [hg];exact (yZ (by repeat first|(with_reducible first|exact HB.out|apply yA|apply yN|apply yD)|exact HB.out)) : w.heap.size ≤ z01));have n3_:=zM ((by rw [hg];exact (yZ (by repeat first|(with_reducible first|exact HB.out|apply yA|apply yN|apply yD)|exact HB.out)) : w.heap.size ≤ z01));clear HB;have HB:=n0_;have z00:=n1_;have z06:=n2_;have z02:=n3_;clear n0_ n1_ n2_ n3_;clear hb hbox hg))
  go_ret2
  exact ⟨by first|rfl|(simp [errW_none,errW_some] <;> rfl)|(simp [*,errW_none,errW_some] <;> rfl),by repeat first|(with_reducible first|exact HB.out|apply yA|apply yN|apply yD|refine yS ?_ z02.out)|exact HB.out⟩
 rw [if_neg c3] at H;have c3b0 : decide (7 < a1) = false:=dF c3;clear c3;replace H:=Option.bind_eq_some_iff.mp H;obtain ⟨z05,A50,H⟩:=H;try dsimp only at H
 have A5:=zM A50;clear A50;by_cases c6 : z05 = 0
 ·
  rw [if_pos c6] at H;have c6b0 : (z05 == 0) = true:=beq_iff_eq.mpr c6;have c6b1 : (z05 != 0) = false:=bne_eq_false_iff_eq.mpr c6;clear c6;obtain ⟨y164,hy164⟩ : ∃ y_ : List (S100),y_ = (([(⟨32,IntKind.u64.wrap (a0_2)⟩ : S100),(⟨16,IntKind.u64.wrap (a0_3)⟩ : S100)] : List (S100))):=⟨_,rfl⟩
  replace H : ((field_Pack.f y164).bind fun bt167 => (if bt167.2 = 0 then (if a0_0 = true then (ccm_Close.j0 k a1 bt167.1 (Go.bits .or .u8 a0_1 128) a0_0 a0_1 a0_2 a0_3 a0_4) else (ccm_Close.j0 k a1 bt167.1 a0_1 a0_0 a0_1 a0_2 a0_3 a0_4)) else (some ((⟨#[]⟩ : ByteArray),bt167.2)))) = some (r1,r2):=by first|(rw [hy164];with_reducible exact H)|(have H2_:=(Option.bind_some _ _).symm.trans H;rw [hy164];with_reducible exact H2_)|(have H2_:=(Option.bind_some _ _).symm.trans H;with_reducible exact H2_)|with_reducible exact H|(rw [hy164];exact H)|exact H
  have Ny164:=zM hy164;clear hy164;replace H:=Option.bind_eq_some_iff.mp H;obtain ⟨⟨z04,z07⟩,A70,H⟩:=H;try dsimp only at H
  have A7:=zM A70;clear A70;by_cases c8 : z07 = 0
  ·
   rw [if_pos c8] at H;have c8b0 : (z07 == 0) = true:=beq_iff_eq.mpr c8;have c8b1 : (z07 != 0) = false:=bne_eq_false_iff_eq.mpr c8;clear c8;have HC9:=zM H;clear H;go_enter Try.func38,Try.ntmps38
   go_upto_if 36 with (first|((with_reducible refine gate_dst (N:=2) rfl ?_);refine box_event ?hg (N:=2) ?hd (cs:=#[.bool a0_0,.int .u8 a0_1,.int .u32 a0_2,.int .u16 a0_3,.string a0_4]) (t:=62) ?hr ?_;(case hd => rfl);(case hg => rfl);(case hr => first|(go_simp;done)|(go_simp;rfl));intro z01 hg w10 hbox hb;have n0_:=zM (yT (by repeat first|(with_reducible first|exact HB.out|apply yA|apply yN|apply yD)|exact HB.out) hb);have n1_:=zM (hbox);have n2_:=zM ((by rw [hg];exact (yZ (by repeat first|(with_reducible first|exact HB.out|apply yA|apply yN|apply yD)|exact HB.out)) : w.heap.size ≤ z01));have n3_:=zM ((by rw [hg];exact (yZ (by repeat first|(with_reducible first|exact HB.out|apply yA|apply yN|apply yD)|exact HB.out)) : w.heap.size ≤ z01));clear HB;have HB:=n0_;have z00:=n1_;have z06:=n2_;have z02:=n3_;clear n0_ n1_ n2_ n3_;clear hb hbox hg;obtain ⟨z08,z09,z0a,z0b,z0c,z0d,z0e,z0f,z0g,z0h⟩:=kc5 z00.out)|((with_reducible refine gate_callee (f:=47) rfl ?_);refine goesL_ (some 13) rfl rfl Try.func47 (by kernel_rfl) rfl #[.agg #[.bool a0_0,.int .u8 a0_1,.int .u32 a0_2,.int .u16 a0_3,.string a0_4]] rfl (by (try simp only [List.map_toArray,List.map_cons,List.map_nil]);first|done|rfl|(simp only [List.length_drop,List.length_take];rfl)) ?_;(with_reducible refine (ccm_Msg_wrong.calls k a0_0 a0_1 a0_2 a0_3 a0_4 z05 _ A5.out).mono ?_);rintro e w12 ⟨rfl,hb⟩;refine ⟨_,rfl,?_⟩;have n0_:=zM (zB (g:=z01) (o:=.cells #[.bool a0_0,.int .u8 a0_1,.int .u32 a0_2,.int .u16 a0_3,.string a0_4] 62 (0,0)) (by (with_reducible repeat first|apply zN|apply zD|apply zA);exact z00.out) hb);have n1_:=zM (yT (by repeat first|(with_reducible first|exact HB.out|apply yA|apply yN|apply yD|refine yS ?_ z02.out)|exact HB.out) hb);clear z00;clear HB;have z00:=n0_;have HB:=n1_;clear n0_ n1_;(try clear hb);(try clear hb2);(try clear hk);(try clear hi);obtain ⟨z0i,z0j,z0k,z0l,z0m,z0n,z0o,z0p,z0q,z0r⟩:=kc5 z00.out)|((with_reducible refine gate_dst (N:=26) rfl ?_);refine Kd.R_lit k100 _ 100 ?hg (N:=26) ?hd (xs:=([(⟨32,IntKind.u64.wrap (a0_2)⟩ : S100),(⟨16,IntKind.u64.wrap (a0_3)⟩ : S100)] : List (S100))) (inner:=[.int .i64 32,.int .u64 (IntKind.u64.wrap (a0_2)),.int .i64 16,.int .u64 (IntKind.u64.wrap (a0_3))]) (ok:=fun _ => True) (okp:=fun _ => True) ?hr ?hp (fun _ hk => hk) trivial (Below.refl _ _) (Nat.le_refl _) (by simp) ?_;(case hd => rfl);(case hg => rfl);(case hr => first|(go_simp;done)|(go_simp;rfl));(case hp => exact (Reps.c2 (show Kd.M k100 _ _ _ (⟨32,IntKind.u64.wrap (a0_2)⟩ : S100) [.int .i64 32,.int .u64 (IntKind.u64.wrap (a0_2))] from (k100_mkM _ _ _ (⟨32,IntKind.u64.wrap (a0_2)⟩ : S100) )) (Reps.c2 (show Kd.M k100 _ _ _ (⟨16,IntKind.u64.wrap (a0_3)⟩ : S100) [.int .i64 16,.int .u64 (IntKind.u64.wrap (a0_3))] from (k100_mkM _ _ _ (⟨16,IntKind.u64.wrap (a0_3)⟩ : S100) )) (Reps.none _ _))));intro v165 w14 ho15 hb hg_ hnew_;clear hg_ hnew_;(first|rw [← Ny164.out] at ho15|(simp only [Int.reduceToNat] at ho15;rw [← Ny164.out] at ho15));have n0_:=zM (Kd.R_lower ho15 (yZ (by repeat first|(with_reducible first|exact HB.out|apply yA|apply yN|apply yD|refine yS ?_ z02.out)|exact HB.out)));have n1_:=zM (zB (g:=z01) (o:=.cells #[.bool a0_0,.int .u8 a0_1,.int .u32 a0_2,.int .u16 a0_3,.string a0_4] 62 (0,0)) (by (with_reducible repeat first|apply zN|apply zD|apply zA);exact z00.out) hb);have n2_:=zM (yT (by repeat first|(with_reducible first|exact HB.out|apply yA|apply yN|apply yD|refine yS ?_ z02.out)|exact HB.out) hb);clear z00;clear HB;have z03:=n0_;have z00:=n1_;have HB:=n2_;clear n0_ n1_ n2_;clear hb ho15;obtain ⟨Ao16,co16,eo16⟩:=Kd.R_slice z03.out;subst eo16)|((with_reducible refine gate_callee (f:=55) rfl ?_);refine goesL_ (some 27) rfl rfl Try.func55 (by kernel_rfl) rfl #[.slice Ao16 y164.length co16] rfl (by (try simp only [List.map_toArray,List.map_cons,List.map_nil]);first|done|rfl|(simp only [List.length_drop,List.length_take];rfl)) ?_;(with_reducible refine (field_Pack.calls _ _ y164 z04 z07 _ ?side1 ?side2 A7.out).mono ?_);(case side1 => repeat (first|exact (Kd.R_reads' z03.out).2.2|(with_reducible refine Kd.C_alloc ?_ _)|(with_reducible refine Kd.C_drewN ?_ _)|(with_reducible refine Kd.C_drew ?_)));(case side2 => exact (Kd.R_reads' z03.out).2.1);rintro e w17 ⟨rfl,hb⟩;refine ⟨_,rfl,?_⟩;have n0_:=zM (Kd.R_below (by (with_reducible repeat (first|apply Kd.R_alloc|apply Kd.R_drewN|apply Kd.R_drew));exact z03.out) hb);have n1_:=zM (zB (g:=z01) (o:=.cells #[.bool a0_0,.int .u8 a0_1,.int .u32 a0_2,.int .u16 a0_3,.string a0_4] 62 (0,0)) (by (with_reducible repeat first|apply zN|apply zD|apply zA);exact z00.out) hb);have n2_:=zM (yT (by repeat first|(with_reducible first|exact HB.out|apply yA|apply yN|apply yD|refine yS ?_ z02.out)|exact HB.out) hb);clear z03;clear z00;clear HB;have z03:=n0_;have z00:=n1_;have HB:=n2_;clear n0_ n1_ n2_;(try clear hb);(try clear hb2);(try clear hk);(try clear hi);obtain ⟨z0s,z0t,z0u,z0v,z0w,z0x,z0y,z0z,z10,z11⟩:=kc5 z00.out))
   (try simp only [Act.put,sA,sB,sC])
   go_cut [9] (fun v9 wc => ∃ (kq : Nat) (x9_8 : Int),v9 = .int .u8 x9_8 ∧ Aside0 (ccm_Close.j0 kq a1 z04 x9_8 a0_0 a0_1 a0_2 a0_3 a0_4 = some (r1,r2)) ∧ Aside0 (kq ≤ k) ∧ Aside0 (wc.heap[z01]? = some (.cells #[.bool a0_0,.int .u8 a0_1,.int .u32 a0_2,.int .u16 a0_3,.string a0_4] 62 (0,0))) ∧ Aside0 (Below w.heap.size w wc))
   case first =>
    have H:=HC9.out;clear HC9;by_cases c19 : a0_0 = true
    ·
     subst c19;have H1 : (ccm_Close.j0 k a1 z04 (Go.bits .or .u8 a0_1 128) true a0_1 a0_2 a0_3 a0_4) = some (r1,r2):=by rw [if_pos rfl] at H;exact H
     clear H;have H:=H1;clear H1;have H':=zM H;clear H;go_wp2;go_meet
     case rel => exact ⟨_,(Go.bits .or .u8 a0_1 128),(by first|rfl|(simp;done)|(simp [*];done)),H',⟨by first|omega|exact Nat.le_refl _⟩,⟨by (with_reducible repeat first|apply zN|apply zD|apply zA);exact z00.out⟩,⟨by repeat first|(with_reducible first|exact HB.out|apply yA|apply yN|apply yD|refine yS ?_ z02.out)|exact HB.out⟩⟩
    replace c19:=Bool.eq_false_iff.mpr c19;subst c19;have H1 : (ccm_Close.j0 k a1 z04 a0_1 false a0_1 a0_2 a0_3 a0_4) = some (r1,r2):=by rw [if_neg (show ¬ (false = true) by decide)] at H;exact H
    clear H;have H:=H1;clear H1;have H':=zM H;clear H;go_wp2;go_meet
    case rel => exact ⟨_,(a0_1),(by first|rfl|(simp;done)|(simp [*];done)),H',⟨by first|omega|exact Nat.le_refl _⟩,⟨by (with_reducible repeat first|apply zN|apply zD|apply zA);exact z00.out⟩,⟨by repeat first|(with_reducible first|exact HB.out|apply yA|apply yN|apply yD|refine yS ?_ z02.out)|exact HB.out⟩⟩
   case rest =>
    clear HC9;try clear c1
    try clear c2
    try clear p2
    try clear c3
    try clear c3b0
    try clear c4
    try clear c5
    try clear c6
    try clear c6b0
    try clear c6b1
    try clear c8
    try clear c8b0
    try clear c8b1
    try clear c19
    try clear z08
    try clear z09
    try clear z0a
    try clear z0b
    try clear z0c
    try clear z0i
    try clear z0j
    try clear z0k
    try clear z0l
    try clear z0m
    try clear z0s
    try clear z0t
    try clear z0u
    try clear z0v
    try clear z0w
    try clear z0d
    try clear z0e
    try clear z0f
    try clear z0g
    try clear z0h
    try clear z0n
    try clear z0o
    try clear z0p
    try clear z0q
    try clear z0r
    try clear z0x
    try clear z0y
    try clear z0z
    try clear z10
    try clear z11
    obtain ⟨kq,x9_8,rfl,HA,HJ8,z00,HB⟩:=hcut;cases kq with
   | zero => exact absurd HA.out (by simp [ccm_Close.j0])
   | succ kj8 =>
     have H:=HA.out;clear HA;simp only [ccm_Close.j0] at H;by_cases c20 : z04.size + a0_4.size ≤ 9223372036854775807
     ·
      rw [if_pos c20] at H;have c20b0:=eq_true c20;have c20b1 : decide (z04.size + a0_4.size ≤ 9223372036854775807) = true:=dT c20;try have c20b2 : (9223372036854775807 < z04.size + a0_4.size) = False:=eq_false (Nat.not_lt.2 c20)
      replace H:=Option.bind_eq_some_iff.mp H;obtain ⟨z12,A210,H⟩:=H;try dsimp only at H
      have A21:=zM A210;clear A210;by_cases c22 : z04.size + a0_4.size + z12.size ≤ 9223372036854775807
      ·
       rw [if_pos c22] at H;have c22b0:=eq_true c22;have c22b1 : decide (z04.size + a0_4.size + z12.size ≤ 9223372036854775807) = true:=dT c22;try have c22b2 : (9223372036854775807 < z04.size + a0_4.size + z12.size) = False:=eq_false (Nat.not_lt.2 c22)
       replace H:=Option.bind_eq_some_iff.mp H;obtain ⟨⟨z1x,z1y⟩,A230,H⟩:=H;replace H : (some (z1x,z1y)) = some (r1,r2):=H;have A23:=zM A230;clear A230;simp only [Option.some.injEq,Prod.mk.injEq] at H;obtain ⟨rfl,rfl⟩:=H;try go_wp2
       have n0_:=zM (zD z00.out);have n1_:=zM (yD HB.out);clear z00;clear HB;have z00:=n0_;have HB:=n1_;clear n0_ n1_;refine start_ (n:=14) (S:=fun w' => w'.cell? ⟨z01,0,none⟩ = some (.bool a0_0) ∧ w'.cell? ⟨z01,1,none⟩ = some (.int .u8 a0_1) ∧ w'.cell? ⟨z01,2,none⟩ = some (.int .u32 a0_2) ∧ w'.cell? ⟨z01,3,none⟩ = some (.int .u16 a0_3) ∧ w'.cell? ⟨z01,4,none⟩ = some (.string a0_4)) (ds:=[]) #[false,false,false,false,false,false,false,false,false,false,false,false,false,false] (by kernel_rfl) rfl rfl ⟨(zC z00.out 0).trans rfl,(zC z00.out 1).trans rfl,(zC z00.out 2).trans rfl,(zC z00.out 3).trans rfl,(zC z00.out 4).trans rfl⟩ (fun hHeld => ?_);refine with_tabW ccm_Close.tab12 ccm_Close.bits12 (fun HT_ HW_ => ?_);generalize wc.drew = w24 at z00 HB hHeld ⊢
       refine pure_ (i:=0) (N:=some 39) (v:=?_) (a':=?_) #[true,false,false,false,false,false,false,false,false,false,false,false,false,false] rfl rfl (any_of HT_.out (by kernel_rfl)) (fun _ _ _ h => h) (Or.inl ⟨by rfl,?_⟩) ?_ ?_;rotate_left
       ·
        intro w';go_simp;with_reducible rfl
       rotate_left
       ·
        simp only [Act.put,sA,sB,sC,i64_w,i32_w];rfl
       refine pure_ (i:=1) (N:=some 40) (v:=?_) (a':=?_) #[true,true,false,false,false,false,false,false,false,false,false,false,false,false] rfl rfl (any_of HT_.out (by kernel_rfl)) (fun _ _ _ h => h) (Or.inl ⟨by rfl,?_⟩) ?_ ?_;rotate_left
       ·
        intro w';go_simp;with_reducible rfl
       rotate_left
       ·
        simp only [Act.put,sA,sB,sC,i64_w,i32_w];rfl
       refine pure_ (i:=2) (N:=some 41) (v:=?_) (a':=?_) #[true,true,true,false,false,false,false,false,false,false,false,false,false,false] rfl rfl (any_of HT_.out (by kernel_rfl)) (fun _ _ _ h => h) (Or.inl ⟨by rfl,?_⟩) ?_ ?_;rotate_left
       ·
        intro w';go_simp;with_reducible rfl
       rotate_left
       ·
        simp only [Act.put,sA,sB,sC,i64_w,i32_w];rfl
       refine pure_ (i:=3) (N:=some 42) (v:=?_) (a':=?_) #[true,true,true,true,false,false,false,false,false,false,false,false,false,false] rfl rfl (any_of HT_.out (by kernel_rfl)) (fun _ _ _ h => h) (Or.inl ⟨by rfl,?_⟩) ?_ ?_;rotate_left
       ·
        intro w';go_simp;with_reducible rfl
       rotate_left
       ·
        simp only [Act.put,sA,sB,sC,i64_w,i32_w];rfl
       refine pure_ (i:=4) (N:=some 43) (v:=?_) (a':=?_) #[true,true,true,true,true,false,false,false,false,false,false,false,false,false] rfl rfl (any_of HT_.out (by kernel_rfl)) (fun _ _ _ h => h) (Or.inl ⟨by rfl,?_⟩) ?_ ?_;rotate_left
       ·
        intro w';go_simp;with_reducible rfl
       rotate_left
       ·
        simp only [Act.put,sA,sB,sC,i64_w,i32_w];rfl
       refine take_ (i:=5) (N:=some 44) (v:=?_) (a':=?_) #[true,true,true,true,true,true,false,false,false,false,false,false,false,false] rfl rfl (take_ofW HT_.out HW_.out (by kernel_rfl)) (fun _ _ _ h => h) (Or.inl ⟨by rfl,?_⟩) hHeld ?_ ?_;rotate_left
       ·
        rintro w' ⟨s0,s1,s2,s3,s4⟩
        go_simp;with_reducible rfl
       rotate_left
       ·
        simp only [Act.put,sA,sB,sC,i64_w,i32_w];rfl
       refine pure_ (i:=6) (N:=some 45) (v:=?_) (a':=?_) #[true,true,true,true,true,true,true,false,false,false,false,false,false,false] rfl rfl (any_of HT_.out (by kernel_rfl)) (fun _ _ _ h => h) (Or.inl ⟨by rfl,?_⟩) ?_ ?_;rotate_left
       ·
        intro w';go_simp;with_reducible rfl
       rotate_left
       ·
        simp only [Act.put,sA,sB,sC,i64_w,i32_w];rfl
       refine one_ (i:=7) (N:=some 46) #[true,true,true,true,true,true,true,true,false,false,false,false,false,false] rfl rfl (one_of HT_.out (by kernel_rfl)) (by decide) (fun K hK => ?_);refine goes_ Try.func42 (by kernel_rfl) rfl #[.string (⟨#[0]⟩ : ByteArray),.int .i64 16] (by rfl) rfl rfl (by (try simp only [List.map_toArray,List.map_cons,List.map_nil]);first|done|rfl|(simp only [List.length_drop,List.length_take];rfl)) ?_;with_reducible refine (strings_Repeat.calls (⟨#[0]⟩ : ByteArray) 16 z12 _ A21.out).mono ?_
       rintro e w25 ⟨rfl,hb⟩
       refine ⟨_,rfl,?_⟩;have n0_:=zM (zB (g:=z01) (o:=.cells #[.bool a0_0,.int .u8 a0_1,.int .u32 a0_2,.int .u16 a0_3,.string a0_4] 62 (0,0)) (by (with_reducible repeat first|apply zN|apply zD|apply zA);exact z00.out) hb);have n1_:=zM (yT (by repeat first|(with_reducible first|exact HB.out|apply yA|apply yN|apply yD|refine yS ?_ z02.out)|exact HB.out) hb);clear z00;clear HB;have z00:=n0_;have HB:=n1_;clear n0_ n1_;(try clear hb)
       (try clear hb2)
       (try clear hk)
       (try clear hi)
       refine hK.out _ _ ⟨(zC z00.out 0).trans rfl,(zC z00.out 1).trans rfl,(zC z00.out 2).trans rfl,(zC z00.out 3).trans rfl,(zC z00.out 4).trans rfl⟩ (fun hHeld => ?_);clear hK K;refine norm_ (a':=?_) ?_ ?_;rotate_left
       ·
        show Act.put _ (some 46) _ = _
        simp only [Act.put,sA,sB,sC,i64_w,i32_w];rfl
       refine pure_ (i:=8) (N:=some 47) (v:=?_) (a':=?_) #[true,true,true,true,true,true,true,true,true,false,false,false,false,false] rfl rfl (any_of HT_.out (by kernel_rfl)) (fun _ _ _ h => h) (Or.inl ⟨by rfl,?_⟩) ?_ ?_;rotate_left
       ·
        intro w';go_simp;with_reducible rfl
       rotate_left
       ·
        simp only [Act.put,sA,sB,sC,i64_w,i32_w];rfl
       refine one_ (i:=9) (N:=some 48) #[true,true,true,true,true,true,true,true,true,true,false,false,false,false] rfl rfl (one_of HT_.out (by kernel_rfl)) (by decide) (fun K hK => ?_);refine goes_ Try.func56 (by kernel_rfl) rfl #[.agg #[.int .u8 a1,.int .u8 0,.int .u8 1,.int .u8 x9_8,.int .u8 70],.string ((z04 ++ a0_4) ++ z12)] (by rfl) rfl rfl (by (try simp only [List.map_toArray,List.map_cons,List.map_nil]);first|done|rfl|(simp only [List.length_drop,List.length_take];rfl)) ?_;with_reducible refine (oam_Close.calls a1 0 1 x9_8 70 ((z04 ++ a0_4) ++ z12) z1x z1y _ A23.out).mono ?_
       rintro e w26 ⟨rfl,hb⟩
       refine ⟨_,rfl,?_⟩;have n0_:=zM (zB (g:=z01) (o:=.cells #[.bool a0_0,.int .u8 a0_1,.int .u32 a0_2,.int .u16 a0_3,.string a0_4] 62 (0,0)) (by (with_reducible repeat first|apply zN|apply zD|apply zA);exact z00.out) hb);have n1_:=zM (yT (by repeat first|(with_reducible first|exact HB.out|apply yA|apply yN|apply yD|refine yS ?_ z02.out)|exact HB.out) hb);clear z00;clear HB;have z00:=n0_;have HB:=n1_;clear n0_ n1_;(try clear hb)
       (try clear hb2)
       (try clear hk)
       (try clear hi)
       refine hK.out _ _ ⟨(zC z00.out 0).trans rfl,(zC z00.out 1).trans rfl,(zC z00.out 2).trans rfl,(zC z00.out 3).trans rfl,(zC z00.out 4).trans rfl⟩ (fun hHeld => ?_);clear hK K;refine norm_ (a':=?_) ?_ ?_;rotate_left
       ·
        show Act.put _ (some 48) _ = _
        simp only [Act.put,sA,sB,sC,i64_w,i32_w];rfl
       refine pure_ (i:=10) (N:=some 49) (v:=?_) (a':=?_) #[true,true,true,true,true,true,true,true,true,true,true,false,false,false] rfl rfl (any_of HT_.out (by kernel_rfl)) (fun _ _ _ h => h) (Or.inl ⟨by rfl,?_⟩) ?_ ?_;rotate_left
       ·
        intro w';go_simp;with_reducible rfl
       rotate_left
       ·
        simp only [Act.put,sA,sB,sC,i64_w,i32_w];rfl
       refine pure_ (i:=11) (N:=some 50) (v:=?_) (a':=?_) #[true,true,true,true,true,true,true,true,true,true,true,true,false,false] rfl rfl (any_of HT_.out (by kernel_rfl)) (fun _ _ _ h => h) (Or.inl ⟨by rfl,?_⟩) ?_ ?_;rotate_left
       ·
        intro w';go_simp;with_reducible rfl
       rotate_left
       ·
        simp only [Act.put,sA,sB,sC,i64_w,i32_w];rfl
       refine pure_ (i:=12) (N:=some 4) (v:=?_) (a':=?_) #[true,true,true,true,true,true,true,true,true,true,true,true,true,false] rfl rfl (any_of HT_.out (by kernel_rfl)) (fun _ _ _ h => h) (Or.inl ⟨by rfl,?_⟩) ?_ ?_;rotate_left
       ·
        intro w';go_simp;with_reducible rfl
       rotate_left
       ·
        simp only [Act.put,sA,sB,sC,i64_w,i32_w];rfl
       refine pure_ (i:=13) (N:=some 5) (v:=?_) (a':=?_) #[true,true,true,true,true,true,true,true,true,true,true,true,true,true] rfl rfl (any_of HT_.out (by kernel_rfl)) (fun _ _ _ h => h) (Or.inl ⟨by rfl,?_⟩) ?_ ?_;rotate_left
       ·
        intro w';go_simp;with_reducible rfl
       rotate_left
       ·
        simp only [Act.put,sA,sB,sC,i64_w,i32_w];rfl
       refine done_ (done_of HT_.out (by kernel_rfl)) ?_;try go_wp2
       go_ret2
       exact ⟨by first|rfl|(simp [errW_none,errW_some] <;> rfl)|(simp [*,errW_none,errW_some] <;> rfl),by repeat first|(with_reducible first|exact HB.out|apply yA|apply yN|apply yD|refine yS ?_ z02.out)|exact HB.out⟩
      rw [if_neg c22] at H;exact absurd H (by simp)
     rw [if_neg c20] at H;exact absurd H (by simp)
  rw [if_neg c8] at H;have c8b0 : (z07 == 0) = false:=beq_eq_false_iff_ne.mpr c8;have c8b1 : (z07 != 0) = true:=bne_iff_ne.mpr c8;simp only [Option.some.injEq,Prod.mk.injEq] at H;obtain ⟨rfl,rfl⟩:=H;go_enter Try.func38,Try.ntmps38
  go_wp2_with (first|((with_reducible refine gate_dst (N:=2) rfl ?_);refine box_event ?hg (N:=2) ?hd (cs:=#[.bool a0_0,.int .u8 a0_1,.int .u32 a0_2,.int .u16 a0_3,.string a0_4]) (t:=62) ?hr ?_;(case hd => rfl);(case hg => rfl);(case hr => first|(go_simp;done)|(go_simp;rfl));intro z01 hg w27 hbox hb;have n0_:=zM (yT (by repeat first|(with_reducible first|exact HB.out|apply yA|apply yN|apply yD)|exact HB.out) hb);have n1_:=zM (hbox);have n2_:=zM ((by rw [hg];exact (yZ (by repeat first|(with_reducible first|exact HB.out|apply yA|apply yN|apply yD)|exact HB.out)) : w.heap.size ≤ z01));have n3_:=zM ((by rw [hg];exact (yZ (by repeat first|(with_reducible first|exact HB.out|apply yA|apply yN|apply yD)|exact HB.out)) : w.heap.size ≤ z01));clear HB;have HB:=n0_;have z00:=n1_;have z06:=n2_;have z02:=n3_;clear n0_ n1_ n2_ n3_;clear hb hbox hg;obtain ⟨z13,z14,z15,z16,z17,z18,z19,z1a,z1b,z1c⟩:=kc5 z00.out)|((with_reducible refine gate_callee (f:=47) rfl ?_);refine goesL_ (some 13) rfl rfl Try.func47 (by kernel_rfl) rfl #[.agg #[.bool a0_0,.int .u8 a0_1,.int .u32 a0_2,.int .u16 a0_3,.string a0_4]] rfl (by (try simp only [List.map_toArray,List.map_cons,List.map_nil]);first|done|rfl|(simp only [List.length_drop,List.length_take];rfl)) ?_;(with_reducible refine (ccm_Msg_wrong.calls k a0_0 a0_1 a0_2 a0_3 a0_4 z05 _ A5.out).mono ?_);rintro e w29 ⟨rfl,hb⟩;refine ⟨_,rfl,?_⟩;have n0_:=zM (zB (g:=z01) (o:=.cells #[.bool a0_0,.int .u8 a0_1,.int .u32 a0_2,.int .u16 a0_3,.string a0_4] 62 (0,0)) (by (with_reducible repeat first|apply zN|apply zD|apply zA);exact z00.out) hb);have n1_:=zM (yT (by repeat first|(with_reducible first|exact HB.out|apply yA|apply yN|apply yD|refine yS ?_ z02.out)|exact HB.out) hb);clear z00;clear HB;have z00:=n0_;have HB:=n1_;clear n0_ n1_;(try clear hb);(try clear hb2);(try clear hk);(try clear hi);obtain ⟨z1d,z1e,z1f,z1g,z1h,z1i,z1j,z1k,z1l,z1m⟩:=kc5 z00.out)|((with_reducible refine gate_dst (N:=26) rfl ?_);refine Kd.R_lit k100 _ 100 ?hg (N:=26) ?hd (xs:=([(⟨32,IntKind.u64.wrap (a0_2)⟩ : S100),(⟨16,IntKind.u64.wrap (a0_3)⟩ : S100)] : List (S100))) (inner:=[.int .i64 32,.int .u64 (IntKind.u64.wrap (a0_2)),.int .i64 16,.int .u64 (IntKind.u64.wrap (a0_3))]) (ok:=fun _ => True) (okp:=fun _ => True) ?hr ?hp (fun _ hk => hk) trivial (Below.refl _ _) (Nat.le_refl _) (by simp) ?_;(case hd => rfl);(case hg => rfl);(case hr => first|(go_simp;done)|(go_simp;rfl));(case hp => exact (Reps.c2 (show Kd.M k100 _ _ _ (⟨32,IntKind.u64.wrap (a0_2)⟩ : S100) [.int .i64 32,.int .u64 (IntKind.u64.wrap (a0_2))] from (k100_mkM _ _ _ (⟨32,IntKind.u64.wrap (a0_2)⟩ : S100) )) (Reps.c2 (show Kd.M k100 _ _ _ (⟨16,IntKind.u64.wrap (a0_3)⟩ : S100) [.int .i64 16,.int .u64 (IntKind.u64.wrap (a0_3))] from (k100_mkM _ _ _ (⟨16,IntKind.u64.wrap (a0_3)⟩ : S100) )) (Reps.none _ _))));intro v165 w31 ho32 hb hg_ hnew_;clear hg_ hnew_;(first|rw [← Ny164.out] at ho32|(simp only [Int.reduceToNat] at ho32;rw [← Ny164.out] at ho32));have n0_:=zM (Kd.R_lower ho32 (yZ (by repeat first|(with_reducible first|exact HB.out|apply yA|apply yN|apply yD|refine yS ?_ z02.out)|exact HB.out)));have n1_:=zM (zB (g:=z01) (o:=.cells #[.bool a0_0,.int .u8 a0_1,.int .u32 a0_2,.int .u16 a0_3,.string a0_4] 62 (0,0)) (by (with_reducible repeat first|apply zN|apply zD|apply zA);exact z00.out) hb);have n2_:=zM (yT (by repeat first|(with_reducible first|exact HB.out|apply yA|apply yN|apply yD|refine yS ?_ z02.out)|exact HB.out) hb);clear z00;clear HB;have z03:=n0_;have z00:=n1_;have HB:=n2_;clear n0_ n1_ n2_;clear hb ho32;obtain ⟨Ao33,co33,eo33⟩:=Kd.R_slice z03.out;subst eo33)|((with_reducible refine gate_callee (f:=55) rfl ?_);refine goesL_ (some 27) rfl rfl Try.func55 (by kernel_rfl) rfl #[.slice Ao33 y164.length co33] rfl (by (try simp only [List.map_toArray,List.map_cons,List.map_nil]);first|done|rfl|(simp only [List.length_drop,List.length_take];rfl)) ?_;(with_reducible refine (field_Pack.calls _ _ y164 z04 z07 _ ?side1 ?side2 A7.out).mono ?_);(case side1 => repeat (first|exact (Kd.R_reads' z03.out).2.2|(with_reducible refine Kd.C_alloc ?_ _)|(with_reducible refine Kd.C_drewN ?_ _)|(with_reducible refine Kd.C_drew ?_)));(case side2 => exact (Kd.R_reads' z03.out).2.1);rintro e w34 ⟨rfl,hb⟩;refine ⟨_,rfl,?_⟩;have n0_:=zM (Kd.R_below (by (with_reducible repeat (first|apply Kd.R_alloc|apply Kd.R_drewN|apply Kd.R_drew));exact z03.out) hb);have n1_:=zM (zB (g:=z01) (o:=.cells #[.bool a0_0,.int .u8 a0_1,.int .u32 a0_2,.int .u16 a0_3,.string a0_4] 62 (0,0)) (by (with_reducible repeat first|apply zN|apply zD|apply zA);exact z00.out) hb);have n2_:=zM (yT (by repeat first|(with_reducible first|exact HB.out|apply yA|apply yN|apply yD|refine yS ?_ z02.out)|exact HB.out) hb);clear z03;clear z00;clear HB;have z03:=n0_;have z00:=n1_;have HB:=n2_;clear n0_ n1_ n2_;(try clear hb);(try clear hb2);(try clear hk);(try clear hi)))
  go_ret2
  exact ⟨by first|rfl|(simp [errW_none,errW_some] <;> rfl)|(simp [*,errW_none,errW_some] <;> rfl),by repeat first|(with_reducible first|exact HB.out|apply yA|apply yN|apply yD|refine yS ?_ z02.out)|exact HB.out⟩
 rw [if_neg c6] at H;have c6b0 : (z05 == 0) = false:=beq_eq_false_iff_ne.mpr c6;have c6b1 : (z05 != 0) = true:=bne_iff_ne.mpr c6;simp only [Option.some.injEq,Prod.mk.injEq] at H;obtain ⟨rfl,rfl⟩:=H;go_enter Try.func38,Try.ntmps38
 go_wp2_with (first|((with_reducible refine gate_dst (N:=2) rfl ?_);refine box_event ?hg (N:=2) ?hd (cs:=#[.bool a0_0,.int .u8 a0_1,.int .u32 a0_2,.int .u16 a0_3,.string a0_4]) (t:=62) ?hr ?_;(case hd => rfl);(case hg => rfl);(case hr => first|(go_simp;done)|(go_simp;rfl));intro z01 hg w35 hbox hb;have n0_:=zM (yT (by repeat first|(with_reducible first|exact HB.out|apply yA|apply yN|apply yD)|exact HB.out) hb);have n1_:=zM (hbox);have n2_:=zM ((by rw [hg];exact (yZ (by repeat first|(with_reducible first|exact HB.out|apply yA|apply yN|apply yD)|exact HB.out)) : w.heap.size ≤ z01));have n3_:=zM ((by rw [hg];exact (yZ (by repeat first|(with_reducible first|exact HB.out|apply yA|apply yN|apply yD)|exact HB.out)) : w.heap.size ≤ z01));clear HB;have HB:=n0_;have z00:=n1_;have z06:=n2_;have z02:=n3_;clear n0_ n1_ n2_ n3_;clear hb hbox hg;obtain ⟨z1n,z1o,z1p,z1q,z1r,z1s,z1t,z1u,z1v,z1w⟩:=kc5 z00.out)|((with_reducible refine gate_callee (f:=47) rfl ?_);refine goesL_ (some 13) rfl rfl Try.func47 (by kernel_rfl) rfl #[.agg #[.bool a0_0,.int .u8 a0_1,.int .u32 a0_2,.int .u16 a0_3,.string a0_4]] rfl (by (try simp only [List.map_toArray,List.map_cons,List.map_nil]);first|done|rfl|(simp only [List.length_drop,List.length_take];rfl)) ?_;(with_reducible refine (ccm_Msg_wrong.calls k a0_0 a0_1 a0_2 a0_3 a0_4 z05 _ A5.out).mono ?_);rintro e w37 ⟨rfl,hb⟩;refine ⟨_,rfl,?_⟩;have n0_:=zM (zB (g:=z01) (o:=.cells #[.bool a0_0,.int .u8 a0_1,.int .u32 a0_2,.int .u16 a0_3,.string a0_4] 62 (0,0)) (by (with_reducible repeat first|apply zN|apply zD|apply zA);exact z00.out) hb);have n1_:=zM (yT (by repeat first|(with_reducible first|exact HB.out|apply yA|apply yN|apply yD|refine yS ?_ z02.out)|exact HB.out) hb);clear z00;clear HB;have z00:=n0_;have HB:=n1_;clear n0_ n1_;(try clear hb);(try clear hb2);(try clear hk);(try clear hi)))
 go_ret2
 exact ⟨by first|rfl|(simp [errW_none,errW_some] <;> rfl)|(simp [*,errW_none,errW_some] <;> rfl),by repeat first|(with_reducible first|exact HB.out|apply yA|apply yN|apply yD|refine yS ?_ z02.out)|exact HB.out⟩

end Go.Proofs.Ytapicoienpbdfaa.PPlanTells
