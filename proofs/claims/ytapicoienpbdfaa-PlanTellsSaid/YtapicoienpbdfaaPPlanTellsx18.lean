-- Written by a program of this work, after the translation.
import Derived.Test.YtapicoienpbdfaaPPlanTellsx0
import Derived.Test.YtapicoienpbdfaaPPlanTellsx11
namespace Go.Proofs.Ytapicoienpbdfaa.PPlanTells
open Go.RowKit Go.Proofs.YtapicoienpbdfaaW.PrintWords Go.Proofs.YtapicoienpbdfaaW.PrintLast Go.Proofs.YtapicoienpbdfaaW.PrintMore
attribute [local go_sem] max2_int min2_int max_two min_two max_three min_three max_four min_four   -- for this text's walks alone
set_option linter.unusedVariables false
set_option linter.unusedSimpArgs false

/-! ### plan_Plan_Group: function 19 -/
def plan_Plan_Group.f (a0_0 : Int) (a0_1 : Int) (a0_2 : Int) (a0_3 : Int) (a0_4 : Int) (a0_5 : Int) (a0_6 : Int) (a0_7 : Int) (a0_8 : Int) (a0_9 : Int) (a0_10 : Int) (a0_11 : Int) (a0_12 : Int) (a0_13 : Int) (a0_14 : Int) (a0_15 : Bool) : Option (ByteArray) := (ccm_Name.f (⟨#[99, 97, 114, 111, 117, 115, 101, 108]⟩ : ByteArray)).bind fun t214 => (some t214)
set_option maxHeartbeats 8000000 in
set_option maxRecDepth 100000 in
theorem plan_Plan_Group.calls (a0_0 : Int) (a0_1 : Int) (a0_2 : Int) (a0_3 : Int) (a0_4 : Int) (a0_5 : Int) (a0_6 : Int) (a0_7 : Int) (a0_8 : Int) (a0_9 : Int) (a0_10 : Int) (a0_11 : Int) (a0_12 : Int) (a0_13 : Int) (a0_14 : Int) (a0_15 : Bool) (r : ByteArray) (w : World) (h : plan_Plan_Group.f a0_0 a0_1 a0_2 a0_3 a0_4 a0_5 a0_6 a0_7 a0_8 a0_9 a0_10 a0_11 a0_12 a0_13 a0_14 a0_15 = some r) :
  Calls Try.prog 19 #[.agg #[.int .i64 a0_0, .int .i64 a0_1, .int .u8 a0_2, .int .u16 a0_3, .int .u16 a0_4, .int .i64 a0_5, .int .i64 a0_6, .int .i64 a0_7, .int .i64 a0_8, .int .i64 a0_9, .int .i64 a0_10, .int .i64 a0_11, .int .i64 a0_12, .int .i64 a0_13, .int .i64 a0_14, .bool a0_15]] w fun e w' => e = .returned (.string r) ∧ Below w.heap.size w w' := by
 have hu24:=Try.underlying24;have HB:=zM (Below.refl w.heap.size w);have H : ((ccm_Name.f (⟨#[99,97,114,111,117,115,101,108]⟩ : ByteArray)).bind fun z03 => (some z03)) = some r:=h;clear h;replace H:=Option.bind_eq_some_iff.mp H;obtain ⟨z03,A20,H⟩:=H;replace H : (some z03) = some r:=H;have A2:=zM A20;clear A20;obtain rfl:=Option.some.inj H;go_enter Try.func19,Try.ntmps19
 go_wp2_with (first|((with_reducible refine gate_dst (N:=1) rfl ?_);refine box_event ?hg (N:=1) ?hd (cs:=#[.int .i64 a0_0,.int .i64 a0_1,.int .u8 a0_2,.int .u16 a0_3,.int .u16 a0_4,.int .i64 a0_5,.int .i64 a0_6,.int .i64 a0_7,.int .i64 a0_8,.int .i64 a0_9,.int .i64 a0_10,.int .i64 a0_11,.int .i64 a0_12,.int .i64 a0_13,.int .i64 a0_14,.bool a0_15]) (t:=24) ?hr ?_;(case hd => rfl);(case hg => rfl);(case hr => first|(go_simp;done)|(go_simp;rfl));intro z00 hg w3 hbox hb;have n0_:=zM (yT (by repeat first|(with_reducible first|exact HB.out|apply yA|apply yN|apply yD)|exact HB.out) hb);have n1_:=zM (hbox);have n2_:=zM ((by rw [hg];exact (yZ (by repeat first|(with_reducible first|exact HB.out|apply yA|apply yN|apply yD)|exact HB.out)) : w.heap.size ≤ z00));have n3_:=zM ((by rw [hg];exact (yZ (by repeat first|(with_reducible first|exact HB.out|apply yA|apply yN|apply yD)|exact HB.out)) : w.heap.size ≤ z00));clear HB;have HB:=n0_;have z01:=n1_;have z04:=n2_;have z02:=n3_;clear n0_ n1_ n2_ n3_;clear hb hbox hg)|((with_reducible refine gate_callee (f:=28) rfl ?_);refine goesL_ (some 3) rfl rfl Try.func28 (by kernel_rfl) rfl #[.string (⟨#[99,97,114,111,117,115,101,108]⟩ : ByteArray)] rfl (by (try simp only [List.map_toArray,List.map_cons,List.map_nil]);first|done|rfl|(simp only [List.length_drop,List.length_take];rfl)) ?_;(with_reducible refine (ccm_Name.calls (⟨#[99,97,114,111,117,115,101,108]⟩ : ByteArray) z03 _ A2.out).mono ?_);rintro e w4 ⟨rfl,hb⟩;refine ⟨_,rfl,?_⟩;have n0_:=zM (zB (g:=z00) (o:=.cells #[.int .i64 a0_0,.int .i64 a0_1,.int .u8 a0_2,.int .u16 a0_3,.int .u16 a0_4,.int .i64 a0_5,.int .i64 a0_6,.int .i64 a0_7,.int .i64 a0_8,.int .i64 a0_9,.int .i64 a0_10,.int .i64 a0_11,.int .i64 a0_12,.int .i64 a0_13,.int .i64 a0_14,.bool a0_15] 24 (0,0)) (by (with_reducible repeat first|apply zN|apply zD|apply zA);exact z01.out) hb);have n1_:=zM (yT (by repeat first|(with_reducible first|exact HB.out|apply yA|apply yN|apply yD|refine yS ?_ z02.out)|exact HB.out) hb);clear z01;clear HB;have z01:=n0_;have HB:=n1_;clear n0_ n1_;(try clear hb);(try clear hb2);(try clear hk);(try clear hi)))
 go_ret;exact ⟨by first|rfl|(simp [errW_none,errW_some] <;> rfl)|(simp [*,errW_none,errW_some] <;> rfl),by repeat first|(with_reducible first|exact HB.out|apply yA|apply yN|apply yD|refine yS ?_ z02.out)|exact HB.out⟩

/-! ### carouselref16_Group: function 20 -/
def carouselref16_Group.f  : Option (ByteArray) := if 40 ≤ 281474976710656 then ((some (List.replicate 40 0 : List Int)).bind fun y215 => (if 8 + (strOfNums y215).size ≤ 9223372036854775807 then (some ((⟨#[99, 97, 114, 111, 117, 115, 101, 108]⟩ : ByteArray) ++ (strOfNums y215))) else (none))) else (none)
set_option maxHeartbeats 8000000 in
set_option maxRecDepth 100000 in
theorem carouselref16_Group.calls  (r : ByteArray) (w : World) (h : carouselref16_Group.f  = some r) :
  Calls Try.prog 20 #[] w fun e w' => e = .returned (.string r) ∧ Below w.heap.size w w' := by
 have HB:=zM (Below.refl w.heap.size w);have H : (if 40 ≤ 281474976710656 then ((some (List.replicate 40 0 : List Int)).bind fun y215 => (if 8 + (strOfNums y215).size ≤ 9223372036854775807 then (some ((⟨#[99,97,114,111,117,115,101,108]⟩ : ByteArray) ++ (strOfNums y215))) else (none))) else (none)) = some r:=h;clear h;by_cases c1 : 40 ≤ 281474976710656
 ·
  rw [if_pos c1] at H;have c1b0:=eq_true c1;have c1b1 : decide (40 ≤ 281474976710656) = true:=dT c1;clear c1;obtain ⟨y215,hy215⟩ : ∃ y_ : List Int,y_ = (List.replicate 40 0):=⟨_,rfl⟩
  replace H : (if 8 + (strOfNums y215).size ≤ 9223372036854775807 then (some ((⟨#[99,97,114,111,117,115,101,108]⟩ : ByteArray) ++ (strOfNums y215))) else (none)) = some r:=by first|(rw [hy215];with_reducible exact H)|(have H2_:=(Option.bind_some _ _).symm.trans H;rw [hy215];with_reducible exact H2_)|(have H2_:=(Option.bind_some _ _).symm.trans H;with_reducible exact H2_)|with_reducible exact H|(rw [hy215];exact H)|exact H
  have Ny215:=zM hy215;clear hy215;by_cases c2 : 8 + (strOfNums y215).size ≤ 9223372036854775807
  ·
   rw [if_pos c2] at H;have c2b0:=eq_true c2;have c2b1 : decide (8 + (strOfNums y215).size ≤ 9223372036854775807) = true:=dT c2;try have c2b2 : (9223372036854775807 < 8 + (strOfNums y215).size) = False:=eq_false (Nat.not_lt.2 c2)
   obtain rfl:=Option.some.inj H;go_enter Try.func20,Try.ntmps20
   go_wp2_with (first|((with_reducible refine gate_dst (N:=1) rfl ?_);refine Kd.R_make (Kd.int .u8) _ 5 rfl (N:=1) rfl 73 _ _ rfl 40 rfl rfl Try.underlying73 (.int .u8 0) 1 info5 rfl (by decide) (by omega) 0 (ok:=fun _ => True) (okp:=fun _ => True) rfl (fun _ hk => hk) trivial (by omega) (by omega) (Below.refl _ _) (Nat.le_refl _) ?_;intro v216 w3 ho4 hb hg_ hnew_;clear hg_ hnew_;(first|rw [← Ny215.out] at ho4|(simp only [Int.reduceToNat] at ho4;rw [← Ny215.out] at ho4));have n0_:=zM (Kd.R_lower ho4 (yZ (by repeat first|(with_reducible first|exact HB.out|apply yA|apply yN|apply yD)|exact HB.out)));have n1_:=zM (yT (by repeat first|(with_reducible first|exact HB.out|apply yA|apply yN|apply yD)|exact HB.out) hb);clear HB;have z00:=n0_;have HB:=n1_;clear n0_ n1_;clear hb ho4;have hcv5:=own_string (P:=Try.prog) Try.underlying73 Try.underlying5 Try.underlying9 (Kd.own_of_R z00.out)))
   go_ret;exact ⟨by first|rfl|(simp [errW_none,errW_some] <;> rfl)|(simp [*,errW_none,errW_some] <;> rfl),by repeat first|(with_reducible first|exact HB.out|apply yA|apply yN|apply yD)|exact HB.out⟩
  rw [if_neg c2] at H;exact absurd H (by simp)
 rw [if_neg c1] at H;exact absurd H (by simp)

end Go.Proofs.Ytapicoienpbdfaa.PPlanTells
