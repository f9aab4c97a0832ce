-- Written by a program of this work, after the translation.
import Derived.Test.YtapicoienpbdfaaPPlanTellsx0
import Derived.Test.YtapicoienpbdfaaPPlanTellsx8
import Derived.Test.YtapicoienpbdfaaPPlanTellsx9
namespace Go.Proofs.Ytapicoienpbdfaa.PPlanTells
open Go.RowKit Go.Proofs.YtapicoienpbdfaaW.PrintWords Go.Proofs.YtapicoienpbdfaaW.PrintLast Go.Proofs.YtapicoienpbdfaaW.PrintMore
attribute [local go_sem] max2_int min2_int max_two min_two max_three min_three max_four min_four   -- for this text's walks alone
set_option linter.unusedVariables false
set_option linter.unusedSimpArgs false

/-! ### carousellaw01_Awake: function 52 -/
def carousellaw01_Awake.f  : Option (Bool) := (field_Pack.f (([(⟨3, 5⟩ : S100), (⟨1, 0⟩ : S100), (⟨12, 100⟩ : S100)] : List (S100)))).bind fun bt138 => (if bt138.1.toList = ([160, 100] : List UInt8) then (some (bt138.2 == 0)) else (some false))
set_option maxHeartbeats 8000000 in
set_option maxRecDepth 100000 in
theorem carousellaw01_Awake.calls  (r : Bool) (w : World) (h : carousellaw01_Awake.f  = some r) :
  Calls Try.prog 52 #[] w fun e w' => e = .returned (.bool r) ∧ Below w.heap.size w w' := by
 have hT : r = true:=by
  have h1_ : carousellaw01_Awake.f = some true:=by decide +kernel
  rw [h1_] at h;exact (Option.some.inj h).symm
 have hu100:=Try.underlying100;have HB:=zM (Below.refl w.heap.size w);have H : ((field_Pack.f (([(⟨3,5⟩ : S100),(⟨1,0⟩ : S100),(⟨12,100⟩ : S100)] : List (S100)))).bind fun bt138 => (if bt138.1.toList = ([160,100] : List UInt8) then (some (bt138.2 == 0)) else (some false))) = some r:=h;clear h;obtain ⟨y135,hy135⟩ : ∃ y_ : List (S100),y_ = (([(⟨3,5⟩ : S100),(⟨1,0⟩ : S100),(⟨12,100⟩ : S100)] : List (S100))):=⟨_,rfl⟩
 replace H : ((field_Pack.f y135).bind fun bt138 => (if bt138.1.toList = ([160,100] : List UInt8) then (some (bt138.2 == 0)) else (some false))) = some r:=by first|(rw [hy135];with_reducible exact H)|(have H2_:=(Option.bind_some _ _).symm.trans H;rw [hy135];with_reducible exact H2_)|(have H2_:=(Option.bind_some _ _).symm.trans H;with_reducible exact H2_)|with_reducible exact H|(rw [hy135];exact H)|exact H
 have Ny135:=zM hy135;clear hy135;replace H:=Option.bind_eq_some_iff.mp H;obtain ⟨⟨z01,z02⟩,A10,H⟩:=H;try dsimp only at H
 have A1:=zM A10;clear A10;by_cases c2 : z01.toList = ([160,100] : List UInt8)
 ·
  rw [if_pos c2] at H;have c2b0 : (z01.toList == ([160,100] : List UInt8)) = true:=beq_iff_eq.mpr c2;have c2b1 : (z01.toList != ([160,100] : List UInt8)) = false:=bne_eq_false_iff_eq.mpr c2;clear c2;obtain rfl:=Option.some.inj H;go_enter Try.func52,Try.ntmps52
  go_wp2_with (first|((with_reducible refine gate_dst (N:=7) rfl ?_);refine Kd.R_lit k100 _ 100 ?hg (N:=7) ?hd (xs:=([(⟨3,5⟩ : S100),(⟨1,0⟩ : S100),(⟨12,100⟩ : S100)] : List (S100))) (inner:=[.int .i64 3,.int .u64 5,.int .i64 1,.int .u64 0,.int .i64 12,.int .u64 100]) (ok:=fun _ => True) (okp:=fun _ => True) ?hr ?hp (fun _ hk => hk) trivial (Below.refl _ _) (Nat.le_refl _) (by simp) ?_;(case hd => rfl);(case hg => rfl);(case hr => first|(go_simp;done)|(go_simp;rfl));(case hp => exact (Reps.c2 (show Kd.M k100 _ _ _ (⟨3,5⟩ : S100) [.int .i64 3,.int .u64 5] from (k100_mkM _ _ _ (⟨3,5⟩ : S100) )) (Reps.c2 (show Kd.M k100 _ _ _ (⟨1,0⟩ : S100) [.int .i64 1,.int .u64 0] from (k100_mkM _ _ _ (⟨1,0⟩ : S100) )) (Reps.c2 (show Kd.M k100 _ _ _ (⟨12,100⟩ : S100) [.int .i64 12,.int .u64 100] from (k100_mkM _ _ _ (⟨12,100⟩ : S100) )) (Reps.none _ _)))));intro v136 w3 ho4 hb hg_ hnew_;clear hg_ hnew_;(first|rw [← Ny135.out] at ho4|(simp only [Int.reduceToNat] at ho4;rw [← Ny135.out] at ho4));have n0_:=zM (Kd.R_lower ho4 (yZ (by repeat first|(with_reducible first|exact HB.out|apply yA|apply yN|apply yD)|exact HB.out)));have n1_:=zM (yT (by repeat first|(with_reducible first|exact HB.out|apply yA|apply yN|apply yD)|exact HB.out) hb);clear HB;have z00:=n0_;have HB:=n1_;clear n0_ n1_;clear hb ho4;obtain ⟨Ao5,co5,eo5⟩:=Kd.R_slice z00.out;subst eo5)|((with_reducible refine gate_callee (f:=55) rfl ?_);refine goesL_ (some 8) rfl rfl Try.func55 (by kernel_rfl) rfl #[.slice Ao5 y135.length co5] rfl (by (try simp only [List.map_toArray,List.map_cons,List.map_nil]);first|done|rfl|(simp only [List.length_drop,List.length_take];rfl)) ?_;(with_reducible refine (field_Pack.calls _ _ y135 z01 z02 _ ?side1 ?side2 A1.out).mono ?_);(case side1 => repeat (first|exact (Kd.R_reads' z00.out).2.2|(with_reducible refine Kd.C_alloc ?_ _)|(with_reducible refine Kd.C_drewN ?_ _)|(with_reducible refine Kd.C_drew ?_)));(case side2 => exact (Kd.R_reads' z00.out).2.1);rintro e w6 ⟨rfl,hb⟩;refine ⟨_,rfl,?_⟩;have n0_:=zM (Kd.R_below (by (with_reducible repeat (first|apply Kd.R_alloc|apply Kd.R_drewN|apply Kd.R_drew));exact z00.out) hb);have n1_:=zM (yT (by repeat first|(with_reducible first|exact HB.out|apply yA|apply yN|apply yD)|exact HB.out) hb);clear z00;clear HB;have z00:=n0_;have HB:=n1_;clear n0_ n1_;(try clear hb);(try clear hb2);(try clear hk);(try clear hi)))
  go_ret;exact ⟨by first|rfl|(simp [errW_none,errW_some] <;> rfl)|(simp [*,errW_none,errW_some] <;> rfl),by repeat first|(with_reducible first|exact HB.out|apply yA|apply yN|apply yD)|exact HB.out⟩
 rw [if_neg c2] at H;have c2b0 : (z01.toList == ([160,100] : List UInt8)) = false:=beq_eq_false_iff_ne.mpr c2;have c2b1 : (z01.toList != ([160,100] : List UInt8)) = true:=bne_iff_ne.mpr c2;cases (Option.some.inj H).trans hT

/-! ### mac_Addr_Bytes: function 53 -/
def mac_Addr_Bytes.f (a0 : Int) : Option (ByteArray) := (field_Pack.f (([(⟨48, a0⟩ : S100)] : List (S100)))).bind fun bt143 => (some bt143.1)
set_option maxHeartbeats 8000000 in
set_option maxRecDepth 100000 in
theorem mac_Addr_Bytes.calls (a0 : Int) (r : ByteArray) (w : World) (h : mac_Addr_Bytes.f a0 = some r) :
  Calls Try.prog 53 #[.int .u64 a0] w fun e w' => e = .returned (.string r) ∧ Below w.heap.size w w' := by
 have hu100:=Try.underlying100;have HB:=zM (Below.refl w.heap.size w);have H : ((field_Pack.f (([(⟨48,a0⟩ : S100)] : List (S100)))).bind fun bt143 => (some bt143.1)) = some r:=h;clear h;obtain ⟨y140,hy140⟩ : ∃ y_ : List (S100),y_ = (([(⟨48,a0⟩ : S100)] : List (S100))):=⟨_,rfl⟩
 replace H : ((field_Pack.f y140).bind fun bt143 => (some bt143.1)) = some r:=by first|(rw [hy140];with_reducible exact H)|(have H2_:=(Option.bind_some _ _).symm.trans H;rw [hy140];with_reducible exact H2_)|(have H2_:=(Option.bind_some _ _).symm.trans H;with_reducible exact H2_)|with_reducible exact H|(rw [hy140];exact H)|exact H
 have Ny140:=zM hy140;clear hy140;replace H:=Option.bind_eq_some_iff.mp H;obtain ⟨⟨z01,z02⟩,A20,H⟩:=H;replace H : (some z01) = some r:=H;have A2:=zM A20;clear A20;obtain rfl:=Option.some.inj H;go_enter Try.func53,Try.ntmps53
 go_wp2_with (first|((with_reducible refine gate_dst (N:=8) rfl ?_);refine Kd.R_lit k100 _ 100 ?hg (N:=8) ?hd (xs:=([(⟨48,a0⟩ : S100)] : List (S100))) (inner:=[.int .i64 48,.int .u64 a0]) (ok:=fun _ => True) (okp:=fun _ => True) ?hr ?hp (fun _ hk => hk) trivial (Below.refl _ _) (Nat.le_refl _) (by simp) ?_;(case hd => rfl);(case hg => rfl);(case hr => first|(go_simp;done)|(go_simp;rfl));(case hp => exact (Reps.c2 (show Kd.M k100 _ _ _ (⟨48,a0⟩ : S100) [.int .i64 48,.int .u64 a0] from (k100_mkM _ _ _ (⟨48,a0⟩ : S100) )) (Reps.none _ _)));intro v141 w3 ho4 hb hg_ hnew_;clear hg_ hnew_;(first|rw [← Ny140.out] at ho4|(simp only [Int.reduceToNat] at ho4;rw [← Ny140.out] at ho4));have n0_:=zM (Kd.R_lower ho4 (yZ (by repeat first|(with_reducible first|exact HB.out|apply yA|apply yN|apply yD)|exact HB.out)));have n1_:=zM (yT (by repeat first|(with_reducible first|exact HB.out|apply yA|apply yN|apply yD)|exact HB.out) hb);clear HB;have z00:=n0_;have HB:=n1_;clear n0_ n1_;clear hb ho4;obtain ⟨Ao5,co5,eo5⟩:=Kd.R_slice z00.out;subst eo5)|((with_reducible refine gate_callee (f:=55) rfl ?_);refine goesL_ (some 9) rfl rfl Try.func55 (by kernel_rfl) rfl #[.slice Ao5 y140.length co5] rfl (by (try simp only [List.map_toArray,List.map_cons,List.map_nil]);first|done|rfl|(simp only [List.length_drop,List.length_take];rfl)) ?_;(with_reducible refine (field_Pack.calls _ _ y140 z01 z02 _ ?side1 ?side2 A2.out).mono ?_);(case side1 => repeat (first|exact (Kd.R_reads' z00.out).2.2|(with_reducible refine Kd.C_alloc ?_ _)|(with_reducible refine Kd.C_drewN ?_ _)|(with_reducible refine Kd.C_drew ?_)));(case side2 => exact (Kd.R_reads' z00.out).2.1);rintro e w6 ⟨rfl,hb⟩;refine ⟨_,rfl,?_⟩;have n0_:=zM (Kd.R_below (by (with_reducible repeat (first|apply Kd.R_alloc|apply Kd.R_drewN|apply Kd.R_drew));exact z00.out) hb);have n1_:=zM (yT (by repeat first|(with_reducible first|exact HB.out|apply yA|apply yN|apply yD)|exact HB.out) hb);clear z00;clear HB;have z00:=n0_;have HB:=n1_;clear n0_ n1_;(try clear hb);(try clear hb2);(try clear hk);(try clear hi)))
 go_ret;exact ⟨by first|rfl|(simp [errW_none,errW_some] <;> rfl)|(simp [*,errW_none,errW_some] <;> rfl),by repeat first|(with_reducible first|exact HB.out|apply yA|apply yN|apply yD)|exact HB.out⟩

/-! ### carousellaw02_Awake: function 36 -/
def carousellaw02_Awake.f (k : Nat)  : Option (Bool) := (mac_Parse.f k (⟨#[48, 49, 58, 49, 57, 58, 97, 55, 58, 48, 48, 58, 48, 48, 58, 48, 49]⟩ : ByteArray)).bind fun bt145 => ((carousellaw01_Awake.f).bind fun t147 => (if t147 = true then (if bt145.2 = 0 then ((mac_Addr_Group.f bt145.1).bind fun t148 => (if t148 = true then ((mac_Addr_Bytes.f bt145.1).bind fun t149 => (if t149.toList = ([1, 25, 167, 0, 0, 1] : List UInt8) then ((mac_Addr_Group.f 2).bind fun t150 => (some (!t150))) else (some false))) else (some false))) else (some false)) else (some false)))
theorem carousellaw02_Awake.mono : ∀ k, LeO (carousellaw02_Awake.f k ) (carousellaw02_Awake.f (k + 1) ) := by
 intro  k;unfold carousellaw02_Awake.f
 repeat' first
  | (with_reducible exact mac_Parse.mono _ _)
  | (with_reducible exact LeO.refl _)
  | (with_reducible exact LeO.none _)
  | (with_reducible refine LeO.ite ?_ ?_)
  | (with_reducible refine LeO.bind ?_ (fun _ => ?_))
  | exact mac_Parse.mono _ _
  | exact LeO.none _
  | refine LeO.ite ?_ ?_
  | refine LeO.bind ?_ (fun _ => ?_)
set_option maxHeartbeats 8000000 in
set_option maxRecDepth 100000 in
theorem carousellaw02_Awake.calls (k : Nat)  (r : Bool) (w : World) (h : carousellaw02_Awake.f k  = some r) :
  Calls Try.prog 36 #[] w fun e w' => e = .returned (.bool r) ∧ Below w.heap.size w w' := by
 have hT : r = true:=by
  obtain ⟨K_,hK_⟩:=(Ev.of carousellaw02_Awake.mono (k:=60) (by decide +kernel) : Ev (fun k => carousellaw02_Awake.f k) true)
  have h1_:=at_rounds carousellaw02_Awake.mono (Nat.le_max_left k K_) h;exact (Option.some.inj ((hK_ _ (Nat.le_max_right k K_)).symm.trans h1_)).symm
 have HB:=zM (Below.refl w.heap.size w);have H : ((mac_Parse.f k (⟨#[48,49,58,49,57,58,97,55,58,48,48,58,48,48,58,48,49]⟩ : ByteArray)).bind fun bt145 => ((carousellaw01_Awake.f).bind fun z05 => (if z05 = true then (if bt145.2 = 0 then ((mac_Addr_Group.f bt145.1).bind fun z04 => (if z04 = true then ((mac_Addr_Bytes.f bt145.1).bind fun z00 => (if z00.toList = ([1,25,167,0,0,1] : List UInt8) then ((mac_Addr_Group.f 2).bind fun z01 => (some (!z01))) else (some false))) else (some false))) else (some false)) else (some false)))) = some r:=h;clear h;replace H:=Option.bind_eq_some_iff.mp H;obtain ⟨⟨z03,z02⟩,A10,H⟩:=H;try dsimp only at H
 have A1:=zM A10;clear A10;replace H:=Option.bind_eq_some_iff.mp H;obtain ⟨z05,A20,H⟩:=H;try dsimp only at H
 have A2:=zM A20;clear A20;by_cases c3 : z05 = true
 ·
  subst c3;have H1 : (if z02 = 0 then ((mac_Addr_Group.f z03).bind fun z04 => (if z04 = true then ((mac_Addr_Bytes.f z03).bind fun z00 => (if z00.toList = ([1,25,167,0,0,1] : List UInt8) then ((mac_Addr_Group.f 2).bind fun z01 => (some (!z01))) else (some false))) else (some false))) else (some false)) = some r:=by rw [if_pos rfl] at H;exact H
  clear H;have H:=H1;clear H1;by_cases c4 : z02 = 0
  ·
   rw [if_pos c4] at H;have c4b0 : (z02 == 0) = true:=beq_iff_eq.mpr c4;have c4b1 : (z02 != 0) = false:=bne_eq_false_iff_eq.mpr c4;clear c4;replace H:=Option.bind_eq_some_iff.mp H;obtain ⟨z04,A50,H⟩:=H;try dsimp only at H
   have A5:=zM A50;clear A50;by_cases c6 : z04 = true
   ·
    subst c6;have H1 : ((mac_Addr_Bytes.f z03).bind fun z00 => (if z00.toList = ([1,25,167,0,0,1] : List UInt8) then ((mac_Addr_Group.f 2).bind fun z01 => (some (!z01))) else (some false))) = some r:=by rw [if_pos rfl] at H;exact H
    clear H;have H:=H1;clear H1;replace H:=Option.bind_eq_some_iff.mp H;obtain ⟨z00,A70,H⟩:=H;try dsimp only at H
    have A7:=zM A70;clear A70;by_cases c8 : z00.toList = ([1,25,167,0,0,1] : List UInt8)
    ·
     rw [if_pos c8] at H;have c8b0 : (z00.toList == ([1,25,167,0,0,1] : List UInt8)) = true:=beq_iff_eq.mpr c8;have c8b1 : (z00.toList != ([1,25,167,0,0,1] : List UInt8)) = false:=bne_eq_false_iff_eq.mpr c8;clear c8;replace H:=Option.bind_eq_some_iff.mp H;obtain ⟨z01,A90,H⟩:=H;replace H : (some (!z01)) = some r:=H;have A9:=zM A90;clear A90;obtain rfl:=Option.some.inj H;go_enter Try.func36,Try.ntmps36
     go_wp2_with (first|((with_reducible refine gate_callee (f:=51) rfl ?_);refine goesL_ (some 4) rfl rfl Try.func51 (by kernel_rfl) rfl #[.string (⟨#[48,49,58,49,57,58,97,55,58,48,48,58,48,48,58,48,49]⟩ : ByteArray)] rfl (by (try simp only [List.map_toArray,List.map_cons,List.map_nil]);first|done|rfl|(simp only [List.length_drop,List.length_take];rfl)) ?_;(with_reducible refine (mac_Parse.calls k (⟨#[48,49,58,49,57,58,97,55,58,48,48,58,48,48,58,48,49]⟩ : ByteArray) z03 z02 _ A1.out).mono ?_);rintro e w' ⟨rfl,⟨nd,rfl⟩⟩;refine ⟨_,rfl,?_⟩)|((with_reducible refine gate_callee (f:=52) rfl ?_);refine goesL_ (some 7) rfl rfl Try.func52 (by kernel_rfl) rfl #[] rfl (by (try simp only [List.map_toArray,List.map_cons,List.map_nil]);first|done|rfl|(simp only [List.length_drop,List.length_take];rfl)) ?_;(with_reducible refine (carousellaw01_Awake.calls  true _ A2.out).mono ?_);rintro e w10 ⟨rfl,hb⟩;refine ⟨_,rfl,?_⟩;have n0_:=zM (yT (by repeat first|(with_reducible first|exact HB.out|apply yA|apply yN|apply yD)|exact HB.out) hb);clear HB;have HB:=n0_;clear n0_;(try clear hb);(try clear hb2);(try clear hk);(try clear hi))|(go_at_call 31;(with_reducible refine (mac_Addr_Group.calls z03 true _ A5.out).mono ?_);rintro e w' ⟨rfl,⟨nd,rfl⟩⟩)|(go_at_call 53;(with_reducible refine (mac_Addr_Bytes.calls z03 z00 _ A7.out).mono ?_);rintro e w11 ⟨rfl,hb⟩;have n0_:=zM (yT (by repeat first|(with_reducible first|exact HB.out|apply yA|apply yN|apply yD)|exact HB.out) hb);clear HB;have HB:=n0_;clear n0_;(try clear hb);(try clear hb2);(try clear hk);(try clear hi))|(go_at_call 31;(with_reducible refine (mac_Addr_Group.calls 2 z01 _ A9.out).mono ?_);rintro e w' ⟨rfl,⟨nd,rfl⟩⟩))
     go_ret;exact ⟨by first|rfl|(simp [errW_none,errW_some] <;> rfl)|(simp [*,errW_none,errW_some] <;> rfl),by repeat first|(with_reducible first|exact HB.out|apply yA|apply yN|apply yD)|exact HB.out⟩
    rw [if_neg c8] at H;have c8b0 : (z00.toList == ([1,25,167,0,0,1] : List UInt8)) = false:=beq_eq_false_iff_ne.mpr c8;have c8b1 : (z00.toList != ([1,25,167,0,0,1] : List UInt8)) = true:=bne_iff_ne.mpr c8;cases (Option.some.inj H).trans hT
   replace c6:=Bool.eq_false_iff.mpr c6;subst c6;have H1 : (some false) = some r:=by rw [if_neg (show ¬ (false = true) by decide)] at H;exact H
   clear H;have H:=H1;clear H1;cases (Option.some.inj H).trans hT
  rw [if_neg c4] at H;have c4b0 : (z02 == 0) = false:=beq_eq_false_iff_ne.mpr c4;have c4b1 : (z02 != 0) = true:=bne_iff_ne.mpr c4;cases (Option.some.inj H).trans hT
 replace c3:=Bool.eq_false_iff.mpr c3;subst c3;have H1 : (some false) = some r:=by rw [if_neg (show ¬ (false = true) by decide)] at H;exact H
 clear H;have H:=H1;clear H1;cases (Option.some.inj H).trans hT

/-! ### bits_Mul32: function 74 -/
def bits_Mul32.f (a0 : Int) (a1 : Int) : Option (Int × Int) := some (((IntKind.u64.wrap ((IntKind.u64.wrap (a0)) * (IntKind.u64.wrap (a1)))) / 4294967296) % 4294967296, (IntKind.u64.wrap ((IntKind.u64.wrap (a0)) * (IntKind.u64.wrap (a1)))) % 4294967296)
set_option maxHeartbeats 8000000 in
set_option maxRecDepth 100000 in
theorem bits_Mul32.calls (a0 : Int) (a1 : Int) (r1 : Int) (r2 : Int) (w : World) (h : bits_Mul32.f a0 a1 = some (r1, r2)) :
  Calls Try.prog 74 #[.int .u32 a0, .int .u32 a1] w fun e w' => e = .returned (.tuple #[.int .u32 r1, .int .u32 r2]) ∧ Drawn0 w w' := by
 have H : (some (((IntKind.u64.wrap ((IntKind.u64.wrap (a0)) * (IntKind.u64.wrap (a1)))) / 4294967296) % 4294967296,(IntKind.u64.wrap ((IntKind.u64.wrap (a0)) * (IntKind.u64.wrap (a1)))) % 4294967296)) = some (r1,r2):=h;clear h;simp only [Option.some.injEq,Prod.mk.injEq] at H;obtain ⟨rfl,rfl⟩:=H;go_enter Try.func74,Try.ntmps74
 go_wp2;go_ret2
 exact ⟨by first|rfl|(simp;done)|(simp [*];done),by repeat (first|exact Drawn0.refl _|apply Drawn0.step)⟩

/-! ### bits_Mul64: function 75 -/
def bits_Mul64.f (a0 : Int) (a1 : Int) : Option (Int × Int) := some (IntKind.u64.wrap ((IntKind.u64.wrap ((IntKind.u64.wrap ((a0 / 4294967296) * (a1 / 4294967296))) + ((IntKind.u64.wrap ((IntKind.u64.wrap ((a0 / 4294967296) * (Go.bits .and .u64 a1 4294967295))) + ((IntKind.u64.wrap ((Go.bits .and .u64 a0 4294967295) * (Go.bits .and .u64 a1 4294967295))) / 4294967296))) / 4294967296))) + ((IntKind.u64.wrap ((Go.bits .and .u64 (IntKind.u64.wrap ((IntKind.u64.wrap ((a0 / 4294967296) * (Go.bits .and .u64 a1 4294967295))) + ((IntKind.u64.wrap ((Go.bits .and .u64 a0 4294967295) * (Go.bits .and .u64 a1 4294967295))) / 4294967296))) 4294967295) + (IntKind.u64.wrap ((Go.bits .and .u64 a0 4294967295) * (a1 / 4294967296))))) / 4294967296)), IntKind.u64.wrap (a0 * a1))
set_option maxHeartbeats 8000000 in
set_option maxRecDepth 100000 in
theorem bits_Mul64.calls (a0 : Int) (a1 : Int) (r1 : Int) (r2 : Int) (w : World) (h : bits_Mul64.f a0 a1 = some (r1, r2)) :
  Calls Try.prog 75 #[.int .u64 a0, .int .u64 a1] w fun e w' => e = .returned (.tuple #[.int .u64 r1, .int .u64 r2]) ∧ Drawn0 w w' := by
 have H : (some (IntKind.u64.wrap ((IntKind.u64.wrap ((IntKind.u64.wrap ((a0 / 4294967296) * (a1 / 4294967296))) + ((IntKind.u64.wrap ((IntKind.u64.wrap ((a0 / 4294967296) * (Go.bits .and .u64 a1 4294967295))) + ((IntKind.u64.wrap ((Go.bits .and .u64 a0 4294967295) * (Go.bits .and .u64 a1 4294967295))) / 4294967296))) / 4294967296))) + ((IntKind.u64.wrap ((Go.bits .and .u64 (IntKind.u64.wrap ((IntKind.u64.wrap ((a0 / 4294967296) * (Go.bits .and .u64 a1 4294967295))) + ((IntKind.u64.wrap ((Go.bits .and .u64 a0 4294967295) * (Go.bits .and .u64 a1 4294967295))) / 4294967296))) 4294967295) + (IntKind.u64.wrap ((Go.bits .and .u64 a0 4294967295) * (a1 / 4294967296))))) / 4294967296)),IntKind.u64.wrap (a0 * a1))) = some (r1,r2):=h;clear h;simp only [Option.some.injEq,Prod.mk.injEq] at H;obtain ⟨rfl,rfl⟩:=H;go_enter Try.func75,Try.ntmps75
 go_wp2;go_ret2
 exact ⟨by first|rfl|(simp;done)|(simp [*];done),by repeat (first|exact Drawn0.refl _|apply Drawn0.step)⟩

/-! ### bits_Mul: function 61 -/
def bits_Mul.f (a0 : Int) (a1 : Int) : Option (Int × Int) := (bits_Mul64.f a0 a1).bind fun bt151 => (some (bt151.1, bt151.2))
set_option maxHeartbeats 8000000 in
set_option maxRecDepth 100000 in
theorem bits_Mul.calls (a0 : Int) (a1 : Int) (r1 : Int) (r2 : Int) (w : World) (h : bits_Mul.f a0 a1 = some (r1, r2)) :
  Calls Try.prog 61 #[.int .u64 a0, .int .u64 a1] w fun e w' => e = .returned (.tuple #[.int .u64 r1, .int .u64 r2]) ∧ Drawn0 w w' := by
 have H : ((bits_Mul64.f a0 a1).bind fun bt151 => (some (bt151.1,bt151.2))) = some (r1,r2):=h;clear h;replace H:=Option.bind_eq_some_iff.mp H;obtain ⟨⟨z00,z01⟩,A30,H⟩:=H;replace H : (some (z00,z01)) = some (r1,r2):=H;have A3:=zM A30;clear A30;simp only [Option.some.injEq,Prod.mk.injEq] at H;obtain ⟨rfl,rfl⟩:=H;go_enter Try.func61,Try.ntmps61
 go_wp2_with (first|((with_reducible refine gate_callee (f:=75) rfl ?_);refine goesL_ (some 25) rfl rfl Try.func75 (by kernel_rfl) rfl #[.int .u64 a0,.int .u64 a1] rfl (by (try simp only [List.map_toArray,List.map_cons,List.map_nil]);first|done|rfl|(simp only [List.length_drop,List.length_take];rfl)) ?_;(with_reducible refine (bits_Mul64.calls a0 a1 z00 z01 _ A3.out).mono ?_);rintro e w' ⟨rfl,⟨nd,rfl⟩⟩;refine ⟨_,rfl,?_⟩))
 go_ret2
 exact ⟨by first|rfl|(simp;done)|(simp [*];done),by repeat (first|exact Drawn0.refl _|apply Drawn0.step)⟩

/-! ### stringslite_HasPrefix: function 76 -/
def stringslite_HasPrefix.f (a0 : ByteArray) (a1 : ByteArray) : Option (Bool) := if (a0.size : Int) ≥ (a1.size : Int) then (if 0 ≤ (a1.size : Int) then (if (a1.size : Int) ≤ (a0.size : Int) then (some ((a0.extract 0 ((a1.size : Int) : Int).toNat).toList == a1.toList)) else (none)) else (none)) else (some false)
set_option maxHeartbeats 8000000 in
set_option maxRecDepth 100000 in
theorem stringslite_HasPrefix.calls (a0 : ByteArray) (a1 : ByteArray) (r : Bool) (w : World) (h : stringslite_HasPrefix.f a0 a1 = some r) :
  Calls Try.prog 76 #[.string a0, .string a1] w fun e w' => e = .returned (.bool r) ∧ Drawn0 w w' := by
 have H : (if (a0.size : Int) ≥ (a1.size : Int) then (if 0 ≤ (a1.size : Int) then (if (a1.size : Int) ≤ (a0.size : Int) then (some ((a0.extract 0 ((a1.size : Int) : Int).toNat).toList == a1.toList)) else (none)) else (none)) else (some false)) = some r:=h;clear h;by_cases c3 : (a0.size : Int) ≥ (a1.size : Int)
 ·
  rw [if_pos c3] at H;have c3b0 : decide ((a1.size : Int) ≤ (a0.size : Int)) = true:=dT c3;have c3b1 : decide (a1.size ≤ a0.size) = true:=dT (Int.ofNat_le.mp c3);clear c3;by_cases c4 : 0 ≤ (a1.size : Int)
  ·
   rw [if_pos c4] at H;have c4b0:=eq_true c4;have c4b1 : decide (0 ≤ (a1.size : Int)) = true:=dT c4;clear c4;by_cases c5 : (a1.size : Int) ≤ (a0.size : Int)
   ·
    rw [if_pos c5] at H;have c5b0:=eq_true c5;have c5b1 : decide ((a1.size : Int) ≤ (a0.size : Int)) = true:=dT c5;clear c5;obtain rfl:=Option.some.inj H;go_enter Try.func76,Try.ntmps76
    go_wp2;go_ret;exact ⟨by first|rfl|(simp;done)|(simp [*];done),by repeat (first|exact Drawn0.refl _|apply Drawn0.step)⟩
   rw [if_neg c5] at H;exact absurd H (by simp)
  rw [if_neg c4] at H;exact absurd H (by simp)
 rw [if_neg c3] at H;have c3b0 : decide ((a1.size : Int) ≤ (a0.size : Int)) = false:=dF c3;have c3b1 : decide (a1.size ≤ a0.size) = false:=dF (fun h => c3 (Int.ofNat_le.mpr h));clear c3;obtain rfl:=Option.some.inj H;go_enter Try.func76,Try.ntmps76
 go_wp2;go_ret;exact ⟨by first|rfl|(simp;done)|(simp [*];done),by repeat (first|exact Drawn0.refl _|apply Drawn0.step)⟩

/-! ### strings_HasPrefix: function 62 -/
def strings_HasPrefix.f (a0 : ByteArray) (a1 : ByteArray) : Option (Bool) := (stringslite_HasPrefix.f a0 a1).bind fun t153 => (some t153)
set_option maxHeartbeats 8000000 in
set_option maxRecDepth 100000 in
theorem strings_HasPrefix.calls (a0 : ByteArray) (a1 : ByteArray) (r : Bool) (w : World) (h : strings_HasPrefix.f a0 a1 = some r) :
  Calls Try.prog 62 #[.string a0, .string a1] w fun e w' => e = .returned (.bool r) ∧ Drawn0 w w' := by
 have H : ((stringslite_HasPrefix.f a0 a1).bind fun z00 => (some z00)) = some r:=h;clear h;replace H:=Option.bind_eq_some_iff.mp H;obtain ⟨z00,A30,H⟩:=H;replace H : (some z00) = some r:=H;have A3:=zM A30;clear A30;obtain rfl:=Option.some.inj H;go_enter Try.func62,Try.ntmps62
 go_wp2_with (first|((with_reducible refine gate_callee (f:=76) rfl ?_);refine goesL_ (some 7) rfl rfl Try.func76 (by kernel_rfl) rfl #[.string a0,.string a1] rfl (by (try simp only [List.map_toArray,List.map_cons,List.map_nil]);first|done|rfl|(simp only [List.length_drop,List.length_take];rfl)) ?_;(with_reducible refine (stringslite_HasPrefix.calls a0 a1 z00 _ A3.out).mono ?_);rintro e w' ⟨rfl,⟨nd,rfl⟩⟩;refine ⟨_,rfl,?_⟩))
 go_ret;exact ⟨by first|rfl|(simp;done)|(simp [*];done),by repeat (first|exact Drawn0.refl _|apply Drawn0.step)⟩

-- NOT PRINTED: function 82 (abi_NoEscape)

-- NOT PRINTED: function 77 (strings_Builder_copyCheck)

-- NOT PRINTED: function 83 (bytealg_MakeNoZero)

-- NOT PRINTED: function 78 (strings_Builder_grow)

-- NOT PRINTED: function 63 (strings_Builder_Grow)

-- NOT PRINTED: function 64 (strings_Builder_WriteString)

-- NOT PRINTED: function 65 (strings_Builder_Len)

-- NOT PRINTED: function 66 (strings_Builder_String)

/-! ### strings_Repeat: function 42 (given: its walk is in another text) -/

def strings_Repeat.f (a0 : ByteArray) (a1 : Int) : Option (ByteArray) := if 0 ≤ a1 ∧ a1 ≤ 100000 ∧ a0.size ≤ 100000 then some ⟨(Lib.repeatL a0.data.toList a1.toNat).toArray⟩ else none
theorem strings_Repeat.calls (a0 : ByteArray) (a1 : Int) (r : ByteArray) (w : World) (h : strings_Repeat.f a0 a1 = some r) :
  Calls Try.prog 42 #[.string a0, .int .i64 a1] w fun e w' => e = .returned (.string r) ∧ Below w.heap.size w w' := by
 unfold strings_Repeat.f at h;by_cases hc : 0 ≤ a1 ∧ a1 ≤ 100000 ∧ a0.size ≤ 100000
 ·
  rw [if_pos hc] at h;obtain rfl:=Option.some.inj h;obtain ⟨n,rfl⟩:=Int.eq_ofNat_of_zero_le hc.1;exact Gv.strings_Repeat a0 n w (by omega) (Nat.le_trans (Nat.mul_le_mul hc.2.2 (show n ≤ 100000 by omega)) (by decide))
 rw [if_neg hc] at h;cases h


end Go.Proofs.Ytapicoienpbdfaa.PPlanTells
