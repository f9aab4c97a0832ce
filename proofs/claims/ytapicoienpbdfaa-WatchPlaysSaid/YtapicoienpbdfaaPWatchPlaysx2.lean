-- Written by a program of this work, after the translation.
import Derived.Test.YtapicoienpbdfaaPWatchPlaysx0
namespace Go.Proofs.Ytapicoienpbdfaa.PWatchPlays
open Go.RowKit Go.Proofs.YtapicoienpbdfaaW.PrintWords Go.Proofs.YtapicoienpbdfaaW.PrintLast Go.Proofs.YtapicoienpbdfaaW.PrintMore
attribute [local go_sem] max2_int min2_int max_two min_two max_three min_three max_four min_four   -- for this text's walks alone
set_option linter.unusedVariables false
set_option linter.unusedSimpArgs false

/-! ### bits_Mul32: function 74 -/
def bits_Mul32.f (a0 : Int) (a1 : Int) : Option (Int × Int) := some (((IntKind.u64.wrap ((IntKind.u64.wrap (a0)) * (IntKind.u64.wrap (a1)))) / 4294967296) % 4294967296, (IntKind.u64.wrap ((IntKind.u64.wrap (a0)) * (IntKind.u64.wrap (a1)))) % 4294967296)
set_option maxHeartbeats 8000000 in
set_option maxRecDepth 100000 in
theorem bits_Mul32.calls (a0 : Int) (a1 : Int) (r1 : Int) (r2 : Int) (w : World) (h : bits_Mul32.f a0 a1 = some (r1, r2)) :
  Calls Try.prog 74 #[.int .u32 a0, .int .u32 a1] w fun e w' => e = .returned (.tuple #[.int .u32 r1, .int .u32 r2]) ∧ Drawn0 w w' := by
 have H : (some (((IntKind.u64.wrap ((IntKind.u64.wrap (a0)) * (IntKind.u64.wrap (a1)))) / 4294967296) % 4294967296,(IntKind.u64.wrap ((IntKind.u64.wrap (a0)) * (IntKind.u64.wrap (a1)))) % 4294967296)) = some (r1,r2):=h;clear h;simp only [Option.some.injEq,Prod.mk.injEq] at H;obtain ⟨rfl,rfl⟩:=H;go_enter Try.func74,Try.ntmps74
 go_wp2;go_ret2
 exact ⟨by first|rfl|(simp;done)|(simp [*];done),by repeat (first|exact Drawn0.refl _|apply Drawn0.step)⟩

/-! ### bits_Mul64: function 75 -/
def bits_Mul64.f (a0 : Int) (a1 : Int) : Option (Int × Int) := some (IntKind.u64.wrap ((IntKind.u64.wrap ((IntKind.u64.wrap ((a0 / 4294967296) * (a1 / 4294967296))) + ((IntKind.u64.wrap ((IntKind.u64.wrap ((a0 / 4294967296) * (Go.bits .and .u64 a1 4294967295))) + ((IntKind.u64.wrap ((Go.bits .and .u64 a0 4294967295) * (Go.bits .and .u64 a1 4294967295))) / 4294967296))) / 4294967296))) + ((IntKind.u64.wrap ((Go.bits .and .u64 (IntKind.u64.wrap ((IntKind.u64.wrap ((a0 / 4294967296) * (Go.bits .and .u64 a1 4294967295))) + ((IntKind.u64.wrap ((Go.bits .and .u64 a0 4294967295) * (Go.bits .and .u64 a1 4294967295))) / 4294967296))) 4294967295) + (IntKind.u64.wrap ((Go.bits .and .u64 a0 4294967295) * (a1 / 4294967296))))) / 4294967296)), IntKind.u64.wrap (a0 * a1))
set_option maxHeartbeats 8000000 in
set_option maxRecDepth 100000 in
theorem bits_Mul64.calls (a0 : Int) (a1 : Int) (r1 : Int) (r2 : Int) (w : World) (h : bits_Mul64.f a0 a1 = some (r1, r2)) :
  Calls Try.prog 75 #[.int .u64 a0, .int .u64 a1] w fun e w' => e = .returned (.tuple #[.int .u64 r1, .int .u64 r2]) ∧ Drawn0 w w' := by
 have H : (some (IntKind.u64.wrap ((IntKind.u64.wrap ((IntKind.u64.wrap ((a0 / 4294967296) * (a1 / 4294967296))) + ((IntKind.u64.wrap ((IntKind.u64.wrap ((a0 / 4294967296) * (Go.bits .and .u64 a1 4294967295))) + ((IntKind.u64.wrap ((Go.bits .and .u64 a0 4294967295) * (Go.bits .and .u64 a1 4294967295))) / 4294967296))) / 4294967296))) + ((IntKind.u64.wrap ((Go.bits .and .u64 (IntKind.u64.wrap ((IntKind.u64.wrap ((a0 / 4294967296) * (Go.bits .and .u64 a1 4294967295))) + ((IntKind.u64.wrap ((Go.bits .and .u64 a0 4294967295) * (Go.bits .and .u64 a1 4294967295))) / 4294967296))) 4294967295) + (IntKind.u64.wrap ((Go.bits .and .u64 a0 4294967295) * (a1 / 4294967296))))) / 4294967296)),IntKind.u64.wrap (a0 * a1))) = some (r1,r2):=h;clear h;simp only [Option.some.injEq,Prod.mk.injEq] at H;obtain ⟨rfl,rfl⟩:=H;go_enter Try.func75,Try.ntmps75
 go_wp2;go_ret2
 exact ⟨by first|rfl|(simp;done)|(simp [*];done),by repeat (first|exact Drawn0.refl _|apply Drawn0.step)⟩

/-! ### bits_Mul: function 61 -/
def bits_Mul.f (a0 : Int) (a1 : Int) : Option (Int × Int) := (bits_Mul64.f a0 a1).bind fun bt101 => (some (bt101.1, bt101.2))
set_option maxHeartbeats 8000000 in
set_option maxRecDepth 100000 in
theorem bits_Mul.calls (a0 : Int) (a1 : Int) (r1 : Int) (r2 : Int) (w : World) (h : bits_Mul.f a0 a1 = some (r1, r2)) :
  Calls Try.prog 61 #[.int .u64 a0, .int .u64 a1] w fun e w' => e = .returned (.tuple #[.int .u64 r1, .int .u64 r2]) ∧ Drawn0 w w' := by
 have H : ((bits_Mul64.f a0 a1).bind fun bt101 => (some (bt101.1,bt101.2))) = some (r1,r2):=h;clear h;replace H:=Option.bind_eq_some_iff.mp H;obtain ⟨⟨z00,z01⟩,A30,H⟩:=H;replace H : (some (z00,z01)) = some (r1,r2):=H;have A3:=zM A30;clear A30;simp only [Option.some.injEq,Prod.mk.injEq] at H;obtain ⟨rfl,rfl⟩:=H;go_enter Try.func61,Try.ntmps61
 go_wp2_with (first|((with_reducible refine gate_callee (f:=75) rfl ?_);refine goesL_ (some 25) rfl rfl Try.func75 (by kernel_rfl) rfl #[.int .u64 a0,.int .u64 a1] rfl (by (try simp only [List.map_toArray,List.map_cons,List.map_nil]);first|done|rfl|(simp only [List.length_drop,List.length_take];rfl)) ?_;(with_reducible refine (bits_Mul64.calls a0 a1 z00 z01 _ A3.out).mono ?_);rintro e w' ⟨rfl,⟨nd,rfl⟩⟩;refine ⟨_,rfl,?_⟩))
 go_ret2
 exact ⟨by first|rfl|(simp;done)|(simp [*];done),by repeat (first|exact Drawn0.refl _|apply Drawn0.step)⟩

/-! ### stringslite_HasPrefix: function 76 -/
def stringslite_HasPrefix.f (a0 : ByteArray) (a1 : ByteArray) : Option (Bool) := if (a0.size : Int) ≥ (a1.size : Int) then (if 0 ≤ (a1.size : Int) then (if (a1.size : Int) ≤ (a0.size : Int) then (some ((a0.extract 0 ((a1.size : Int) : Int).toNat).toList == a1.toList)) else (none)) else (none)) else (some false)
set_option maxHeartbeats 8000000 in
set_option maxRecDepth 100000 in
theorem stringslite_HasPrefix.calls (a0 : ByteArray) (a1 : ByteArray) (r : Bool) (w : World) (h : stringslite_HasPrefix.f a0 a1 = some r) :
  Calls Try.prog 76 #[.string a0, .string a1] w fun e w' => e = .returned (.bool r) ∧ Drawn0 w w' := by
 have H : (if (a0.size : Int) ≥ (a1.size : Int) then (if 0 ≤ (a1.size : Int) then (if (a1.size : Int) ≤ (a0.size : Int) then (some ((a0.extract 0 ((a1.size : Int) : Int).toNat).toList == a1.toList)) else (none)) else (none)) else (some false)) = some r:=h;clear h;by_cases c3 : (a0.size : Int) ≥ (a1.size : Int)
 ·
  rw [if_pos c3] at H;have c3b0 : decide ((a1.size : Int) ≤ (a0.size : Int)) = true:=dT c3;have c3b1 : decide (a1.size ≤ a0.size) = true:=dT (Int.ofNat_le.mp c3);clear c3;by_cases c4 : 0 ≤ (a1.size : Int)
  ·
   rw [if_pos c4] at H;have c4b0:=eq_true c4;have c4b1 : decide (0 ≤ (a1.size : Int)) = true:=dT c4;clear c4;by_cases c5 : (a1.size : Int) ≤ (a0.size : Int)
   ·
    rw [if_pos c5] at H;have c5b0:=eq_true c5;have c5b1 : decide ((a1.size : Int) ≤ (a0.size : Int)) = true:=dT c5;clear c5;obtain rfl:=Option.some.inj H;go_enter Try.func76,Try.ntmps76
    go_wp2;go_ret;exact ⟨by first|rfl|(simp;done)|(simp [*];done),by repeat (first|exact Drawn0.refl _|apply Drawn0.step)⟩
   rw [if_neg c5] at H;exact absurd H (by simp)
  rw [if_neg c4] at H;exact absurd H (by simp)
 rw [if_neg c3] at H;have c3b0 : decide ((a1.size : Int) ≤ (a0.size : Int)) = false:=dF c3;have c3b1 : decide (a1.size ≤ a0.size) = false:=dF (fun h => c3 (Int.ofNat_le.mpr h));clear c3;obtain rfl:=Option.some.inj H;go_enter Try.func76,Try.ntmps76
 go_wp2;go_ret;exact ⟨by first|rfl|(simp;done)|(simp [*];done),by repeat (first|exact Drawn0.refl _|apply Drawn0.step)⟩

/-! ### strings_HasPrefix: function 62 -/
def strings_HasPrefix.f (a0 : ByteArray) (a1 : ByteArray) : Option (Bool) := (stringslite_HasPrefix.f a0 a1).bind fun t103 => (some t103)
set_option maxHeartbeats 8000000 in
set_option maxRecDepth 100000 in
theorem strings_HasPrefix.calls (a0 : ByteArray) (a1 : ByteArray) (r : Bool) (w : World) (h : strings_HasPrefix.f a0 a1 = some r) :
  Calls Try.prog 62 #[.string a0, .string a1] w fun e w' => e = .returned (.bool r) ∧ Drawn0 w w' := by
 have H : ((stringslite_HasPrefix.f a0 a1).bind fun z00 => (some z00)) = some r:=h;clear h;replace H:=Option.bind_eq_some_iff.mp H;obtain ⟨z00,A30,H⟩:=H;replace H : (some z00) = some r:=H;have A3:=zM A30;clear A30;obtain rfl:=Option.some.inj H;go_enter Try.func62,Try.ntmps62
 go_wp2_with (first|((with_reducible refine gate_callee (f:=76) rfl ?_);refine goesL_ (some 7) rfl rfl Try.func76 (by kernel_rfl) rfl #[.string a0,.string a1] rfl (by (try simp only [List.map_toArray,List.map_cons,List.map_nil]);first|done|rfl|(simp only [List.length_drop,List.length_take];rfl)) ?_;(with_reducible refine (stringslite_HasPrefix.calls a0 a1 z00 _ A3.out).mono ?_);rintro e w' ⟨rfl,⟨nd,rfl⟩⟩;refine ⟨_,rfl,?_⟩))
 go_ret;exact ⟨by first|rfl|(simp;done)|(simp [*];done),by repeat (first|exact Drawn0.refl _|apply Drawn0.step)⟩

-- NOT PRINTED: function 82 (abi_NoEscape)

-- NOT PRINTED: function 77 (strings_Builder_copyCheck)

-- NOT PRINTED: function 83 (bytealg_MakeNoZero)

-- NOT PRINTED: function 78 (strings_Builder_grow)

-- NOT PRINTED: function 63 (strings_Builder_Grow)

-- NOT PRINTED: function 64 (strings_Builder_WriteString)

-- NOT PRINTED: function 65 (strings_Builder_Len)

-- NOT PRINTED: function 66 (strings_Builder_String)

/-! ### strings_Repeat: function 42 (given: its walk is in another text) -/

def strings_Repeat.f (a0 : ByteArray) (a1 : Int) : Option (ByteArray) := if 0 ≤ a1 ∧ a1 ≤ 100000 ∧ a0.size ≤ 100000 then some ⟨(Lib.repeatL a0.data.toList a1.toNat).toArray⟩ else none
theorem strings_Repeat.calls (a0 : ByteArray) (a1 : Int) (r : ByteArray) (w : World) (h : strings_Repeat.f a0 a1 = some r) :
  Calls Try.prog 42 #[.string a0, .int .i64 a1] w fun e w' => e = .returned (.string r) ∧ Below w.heap.size w w' := by
 unfold strings_Repeat.f at h;by_cases hc : 0 ≤ a1 ∧ a1 ≤ 100000 ∧ a0.size ≤ 100000
 ·
  rw [if_pos hc] at h;obtain rfl:=Option.some.inj h;obtain ⟨n,rfl⟩:=Int.eq_ofNat_of_zero_le hc.1;exact Gv.strings_Repeat a0 n w (by omega) (Nat.le_trans (Nat.mul_le_mul hc.2.2 (show n ≤ 100000 by omega)) (by decide))
 rw [if_neg hc] at h;cases h


/-! ### ccm_Msg_wrong: function 47 -/
def ccm_Msg_wrong.j0 : Nat → Bool → Bool → Int → Int → Int → ByteArray → Option (Int)
  | 0, _, _, _, _, _, _ => none
  | k + 1, x7, x105000, x105001, x105002, x105003, x105004 => if x7 = true then (some 4) else (if (x105004.size : Int) = 48 then (some 0) else (some 3))
def ccm_Msg_wrong.f (k : Nat) (a0_0 : Bool) (a0_1 : Int) (a0_2 : Int) (a0_3 : Int) (a0_4 : ByteArray) : Option (Int) := if a0_1 < 1 then (some 4) else (if a0_1 > 7 then (ccm_Msg_wrong.j0 k (decide (a0_1 > 7)) a0_0 a0_1 a0_2 a0_3 a0_4) else (if a0_3 < 1 then (ccm_Msg_wrong.j0 k (decide (a0_3 < 1)) a0_0 a0_1 a0_2 a0_3 a0_4) else (ccm_Msg_wrong.j0 k (decide (a0_3 > 8191)) a0_0 a0_1 a0_2 a0_3 a0_4)))
theorem ccm_Msg_wrong.mono_l : ∀ k, (∀ y0 y1 y2 y3 y4 y5, LeO (ccm_Msg_wrong.j0 k y0 y1 y2 y3 y4 y5) (ccm_Msg_wrong.j0 (k + 1) y0 y1 y2 y3 y4 y5))
 | 0 => fun _ _ _ _ _ _ r h => by simp [ccm_Msg_wrong.j0] at h
 | k + 1 => by
  have ih0 := ccm_Msg_wrong.mono_l k
  intro y0 y1 y2 y3 y4 y5
  unfold ccm_Msg_wrong.j0
  repeat' first
  | (with_reducible exact ih0 _ _ _ _ _ _)
  | (with_reducible exact LeO.refl _)
  | (with_reducible exact LeO.none _)
  | (with_reducible refine LeO.ite ?_ ?_)
  | (with_reducible refine LeO.bind ?_ (fun _ => ?_))
  | exact ih0 _ _ _ _ _ _
  | exact LeO.none _
  | refine LeO.ite ?_ ?_
  | refine LeO.bind ?_ (fun _ => ?_)
theorem ccm_Msg_wrong.mono : ∀ a0 a1 a2 a3 a4 k, LeO (ccm_Msg_wrong.f k a0 a1 a2 a3 a4) (ccm_Msg_wrong.f (k + 1) a0 a1 a2 a3 a4) := by
 intro a0 a1 a2 a3 a4 k;have ih0:=ccm_Msg_wrong.mono_l k;unfold ccm_Msg_wrong.f
 repeat' first
  | (with_reducible exact ih0 _ _ _ _ _ _)
  | (with_reducible exact LeO.refl _)
  | (with_reducible exact LeO.none _)
  | (with_reducible refine LeO.ite ?_ ?_)
  | (with_reducible refine LeO.bind ?_ (fun _ => ?_))
  | exact ih0 _ _ _ _ _ _
  | exact LeO.none _
  | refine LeO.ite ?_ ?_
  | refine LeO.bind ?_ (fun _ => ?_)
set_option maxHeartbeats 8000000 in
set_option maxRecDepth 100000 in
theorem ccm_Msg_wrong.calls (k : Nat) (a0_0 : Bool) (a0_1 : Int) (a0_2 : Int) (a0_3 : Int) (a0_4 : ByteArray) (r : Int) (w : World) (h : ccm_Msg_wrong.f k a0_0 a0_1 a0_2 a0_3 a0_4 = some r) :
  Calls Try.prog 47 #[.agg #[.bool a0_0, .int .u8 a0_1, .int .u32 a0_2, .int .u16 a0_3, .string a0_4]] w fun e w' => e = .returned (.int .i64 r) ∧ Below w.heap.size w w' := by
 have hu62:=Try.underlying62;have HB:=zM (Below.refl w.heap.size w);have H : (if a0_1 < 1 then (some 4) else (if a0_1 > 7 then (ccm_Msg_wrong.j0 k (decide (a0_1 > 7)) a0_0 a0_1 a0_2 a0_3 a0_4) else (if a0_3 < 1 then (ccm_Msg_wrong.j0 k (decide (a0_3 < 1)) a0_0 a0_1 a0_2 a0_3 a0_4) else (ccm_Msg_wrong.j0 k (decide (a0_3 > 8191)) a0_0 a0_1 a0_2 a0_3 a0_4)))) = some r:=h;clear h;by_cases c2 : a0_1 < 1
 ·
  rw [if_pos c2] at H;have c2b0 : decide (a0_1 < 1) = true:=dT c2;clear c2;obtain rfl:=Option.some.inj H;go_enter Try.func47,Try.ntmps47
  go_wp2_with (first|((with_reducible refine gate_dst (N:=1) rfl ?_);refine box_event ?hg (N:=1) ?hd (cs:=#[.bool a0_0,.int .u8 a0_1,.int .u32 a0_2,.int .u16 a0_3,.string a0_4]) (t:=62) ?hr ?_;(case hd => rfl);(case hg => rfl);(case hr => first|(go_simp;done)|(go_simp;rfl));intro z02 hg w3 hbox hb;have n0_:=zM (yT (by repeat first|(with_reducible first|exact HB.out|apply yA|apply yN|apply yD)|exact HB.out) hb);have n1_:=zM (hbox);have n2_:=zM ((by rw [hg];exact (yZ (by repeat first|(with_reducible first|exact HB.out|apply yA|apply yN|apply yD)|exact HB.out)) : w.heap.size ≤ z02));have n3_:=zM ((by rw [hg];exact (yZ (by repeat first|(with_reducible first|exact HB.out|apply yA|apply yN|apply yD)|exact HB.out)) : w.heap.size ≤ z02));clear HB;have HB:=n0_;have z00:=n1_;have z17:=n2_;have z01:=n3_;clear n0_ n1_ n2_ n3_;clear hb hbox hg;obtain ⟨z0n,z0o,z0p,z0q,z0r,z0s,z0t,z0u,z0v,z0w⟩:=kc5 z00.out))
  go_ret;exact ⟨by first|rfl|(simp [errW_none,errW_some] <;> rfl)|(simp [*,errW_none,errW_some] <;> rfl),by repeat first|(with_reducible first|exact HB.out|apply yA|apply yN|apply yD|refine yS ?_ z01.out)|exact HB.out⟩
 rw [if_neg c2] at H;have c2b0 : decide (a0_1 < 1) = false:=dF c2;clear c2;have HC5:=zM H;clear H;go_enter Try.func47,Try.ntmps47
 go_upto_if 7 with (first|((with_reducible refine gate_dst (N:=1) rfl ?_);refine box_event ?hg (N:=1) ?hd (cs:=#[.bool a0_0,.int .u8 a0_1,.int .u32 a0_2,.int .u16 a0_3,.string a0_4]) (t:=62) ?hr ?_;(case hd => rfl);(case hg => rfl);(case hr => first|(go_simp;done)|(go_simp;rfl));intro z02 hg w6 hbox hb;have n0_:=zM (yT (by repeat first|(with_reducible first|exact HB.out|apply yA|apply yN|apply yD)|exact HB.out) hb);have n1_:=zM (hbox);have n2_:=zM ((by rw [hg];exact (yZ (by repeat first|(with_reducible first|exact HB.out|apply yA|apply yN|apply yD)|exact HB.out)) : w.heap.size ≤ z02));have n3_:=zM ((by rw [hg];exact (yZ (by repeat first|(with_reducible first|exact HB.out|apply yA|apply yN|apply yD)|exact HB.out)) : w.heap.size ≤ z02));clear HB;have HB:=n0_;have z00:=n1_;have z17:=n2_;have z01:=n3_;clear n0_ n1_ n2_ n3_;clear hb hbox hg;obtain ⟨z0x,z0y,z0z,z10,z11,z12,z13,z14,z15,z16⟩:=kc5 z00.out))
 (try simp only [Act.put,sA,sB,sC])
 go_cut [7] (fun v7 wc => ∃ (kq : Nat) (x7_4 : Bool),v7 = .bool x7_4 ∧ Aside0 (ccm_Msg_wrong.j0 kq x7_4 a0_0 a0_1 a0_2 a0_3 a0_4 = some r) ∧ Aside0 (kq ≤ k) ∧ Aside0 (wc.heap[z02]? = some (.cells #[.bool a0_0,.int .u8 a0_1,.int .u32 a0_2,.int .u16 a0_3,.string a0_4] 62 (0,0))) ∧ Aside0 (Below w.heap.size w wc))
 case first =>
  have H:=HC5.out;clear HC5;by_cases c8 : a0_1 > 7
  ·
   rw [if_pos c8] at H;have c8b0 : decide (7 < a0_1) = true:=dT c8;clear c8;(first|rw [c8b0]|(simp only [i64_w,i32_w];rw [c8b0])|skip)
   have H':=zM H;clear H;go_wp2;go_meet
   case rel => exact ⟨_,(decide (a0_1 > 7)),(by first|rfl|(simp;done)|(simp [*];done)),H',⟨by first|omega|exact Nat.le_refl _⟩,⟨by (with_reducible repeat first|apply zN|apply zD|apply zA);exact z00.out⟩,⟨by repeat first|(with_reducible first|exact HB.out|apply yA|apply yN|apply yD|refine yS ?_ z01.out)|exact HB.out⟩⟩
  rw [if_neg c8] at H;have c8b0 : decide (7 < a0_1) = false:=dF c8;clear c8;(first|rw [c8b0]|(simp only [i64_w,i32_w];rw [c8b0])|skip)
  by_cases c9 : a0_3 < 1
  ·
   rw [if_pos c9] at H;have c9b0 : decide (a0_3 < 1) = true:=dT c9;clear c9;have H':=zM H;clear H;obtain ⟨z03,z04,z05,z06,z07,z08,z09,z0a,z0b,z0c⟩:=kc5 z00.out;go_wp2;go_meet
   case rel => exact ⟨_,(decide (a0_3 < 1)),(by first|rfl|(simp;done)|(simp [*];done)),H',⟨by first|omega|exact Nat.le_refl _⟩,⟨by (with_reducible repeat first|apply zN|apply zD|apply zA);exact z00.out⟩,⟨by repeat first|(with_reducible first|exact HB.out|apply yA|apply yN|apply yD|refine yS ?_ z01.out)|exact HB.out⟩⟩
  rw [if_neg c9] at H;have c9b0 : decide (a0_3 < 1) = false:=dF c9;clear c9;have H':=zM H;clear H;obtain ⟨z0d,z0e,z0f,z0g,z0h,z0i,z0j,z0k,z0l,z0m⟩:=kc5 z00.out;go_wp2;go_meet
  case rel => exact ⟨_,(decide (a0_3 > 8191)),(by first|rfl|(simp;done)|(simp [*];done)),H',⟨by first|omega|exact Nat.le_refl _⟩,⟨by (with_reducible repeat first|apply zN|apply zD|apply zA);exact z00.out⟩,⟨by repeat first|(with_reducible first|exact HB.out|apply yA|apply yN|apply yD|refine yS ?_ z01.out)|exact HB.out⟩⟩
 case rest =>
  clear HC5;try clear c2
  try clear c2b0
  try clear p2
  try clear c4
  try clear c8
  try clear c8b0
  try clear c9
  try clear c9b0
  try clear z03
  try clear z04
  try clear z05
  try clear z06
  try clear z07
  try clear z0d
  try clear z0e
  try clear z0f
  try clear z0g
  try clear z0h
  try clear z0n
  try clear z0o
  try clear z0p
  try clear z0q
  try clear z0r
  try clear z0x
  try clear z0y
  try clear z0z
  try clear z10
  try clear z11
  try clear z08
  try clear z09
  try clear z0a
  try clear z0b
  try clear z0c
  try clear z0i
  try clear z0j
  try clear z0k
  try clear z0l
  try clear z0m
  try clear z0s
  try clear z0t
  try clear z0u
  try clear z0v
  try clear z0w
  try clear z12
  try clear z13
  try clear z14
  try clear z15
  try clear z16
  obtain ⟨kq,x7_4,rfl,HA,HJ4,z00,HB⟩:=hcut;cases kq with
 | zero => exact absurd HA.out (by simp [ccm_Msg_wrong.j0])
 | succ kj4 =>
   have H:=HA.out;clear HA;simp only [ccm_Msg_wrong.j0] at H;by_cases c12 : x7_4 = true
   ·
    subst c12;have H1 : (some 4) = some r:=by rw [if_pos rfl] at H;exact H
    clear H;have H:=H1;clear H1;obtain rfl:=Option.some.inj H;go_wp2;go_ret;exact ⟨by first|rfl|(simp [errW_none,errW_some] <;> rfl)|(simp [*,errW_none,errW_some] <;> rfl),by repeat first|(with_reducible first|exact HB.out|apply yA|apply yN|apply yD|refine yS ?_ z01.out)|exact HB.out⟩
   replace c12:=Bool.eq_false_iff.mpr c12;subst c12;have H1 : (if (a0_4.size : Int) = 48 then (some 0) else (some 3)) = some r:=by rw [if_neg (show ¬ (false = true) by decide)] at H;exact H
   clear H;have H:=H1;clear H1;by_cases c13 : (a0_4.size : Int) = 48
   ·
    rw [if_pos c13] at H;have c13b0 : ((a0_4.size : Int) == 48) = true:=beq_iff_eq.mpr c13;have c13b1 : ((a0_4.size : Int) != 48) = false:=bne_eq_false_iff_eq.mpr c13;clear c13;obtain rfl:=Option.some.inj H;obtain ⟨z18,z19,z1a,z1b,z1c,z1d,z1e,z1f,z1g,z1h⟩:=kc5 z00.out;go_wp2;go_ret;exact ⟨by first|rfl|(simp [errW_none,errW_some] <;> rfl)|(simp [*,errW_none,errW_some] <;> rfl),by repeat first|(with_reducible first|exact HB.out|apply yA|apply yN|apply yD|refine yS ?_ z01.out)|exact HB.out⟩
   rw [if_neg c13] at H;have c13b0 : ((a0_4.size : Int) == 48) = false:=beq_eq_false_iff_ne.mpr c13;have c13b1 : ((a0_4.size : Int) != 48) = true:=bne_iff_ne.mpr c13;obtain rfl:=Option.some.inj H;obtain ⟨z1i,z1j,z1k,z1l,z1m,z1n,z1o,z1p,z1q,z1r⟩:=kc5 z00.out;go_wp2;go_ret;exact ⟨by first|rfl|(simp [errW_none,errW_some] <;> rfl)|(simp [*,errW_none,errW_some] <;> rfl),by repeat first|(with_reducible first|exact HB.out|apply yA|apply yN|apply yD|refine yS ?_ z01.out)|exact HB.out⟩

/-! ### field_may: function 69 -/
def field_may.f (a0 : Int) : Option (Bool) := if a0 ≥ 1 then (some (decide (a0 ≤ 64))) else (some false)
set_option maxHeartbeats 8000000 in
set_option maxRecDepth 100000 in
theorem field_may.calls (a0 : Int) (r : Bool) (w : World) (h : field_may.f a0 = some r) :
  Calls Try.prog 69 #[.int .i64 a0] w fun e w' => e = .returned (.bool r) ∧ Drawn0 w w' := by
 have H : (if a0 ≥ 1 then (some (decide (a0 ≤ 64))) else (some false)) = some r:=h;clear h;by_cases c2 : a0 ≥ 1
 ·
  rw [if_pos c2] at H;have c2b0 : decide (1 ≤ a0) = true:=dT c2;clear c2;obtain rfl:=Option.some.inj H;go_enter Try.func69,Try.ntmps69
  go_wp2;go_ret;exact ⟨by first|rfl|(simp;done)|(simp [*];done),by repeat (first|exact Drawn0.refl _|apply Drawn0.step)⟩
 rw [if_neg c2] at H;have c2b0 : decide (1 ≤ a0) = false:=dF c2;clear c2;obtain rfl:=Option.some.inj H;go_enter Try.func69,Try.ntmps69
 go_wp2;go_ret;exact ⟨by first|rfl|(simp;done)|(simp [*];done),by repeat (first|exact Drawn0.refl _|apply Drawn0.step)⟩

-- NOT PRINTED: function 70 (field_writer_bit)

/-! ### field_Pack: function 55 (given: its walk is in another text) -/

def field_Pack.f (l0 : List S100) : Option (ByteArray × Int) := Gv.pack (l0.map fun x => (x.f0, x.f1))
theorem field_Pack.calls (A0 : Option Addr) (c0 : Nat) (l0 : List S100) (r1 : ByteArray) (r2 : Int) (w : World) (hr0 : Kd.C k100 w A0 l0.length l0) (hc0 : l0.length ≤ c0) (h : field_Pack.f l0 = some (r1, r2)) :
  Calls Try.prog 55 #[.slice A0 l0.length c0] w fun e w' => e = .returned (.tuple #[.string r1, .int .i64 r2]) ∧ Below w.heap.size w w' := by
 have hp:=Gv.pack_calls A0 c0 (l0.map fun x : S100 => (x.f0,x.f1)) w (fun i hi => by
  rw [List.length_map] at hi;obtain ⟨ad,e,h1,h2⟩:=at_T100 hr0 (i : Int) (by omega) (by omega);refine ⟨ad,e,?_,?_⟩
  ·
   rw [Int.toNat_natCast] at h1;rw [h1];simp [rd_T100,List.getD_eq_getElem?_getD,List.getElem?_eq_getElem hi]
  rw [Int.toNat_natCast] at h2;rw [h2];simp [rd_T100,List.getD_eq_getElem?_getD,List.getElem?_eq_getElem hi]) (by rw [List.length_map];exact hc0) r1 r2 h
 rw [List.length_map] at hp;exact hp


/-! ### oam_Close: function 56 -/
def oam_Close.f (a0_0 : Int) (a0_1 : Int) (a0_2 : Int) (a0_3 : Int) (a0_4 : Int) (a1 : ByteArray) : Option (ByteArray × Int) := (field_Pack.f (([(⟨3, IntKind.u64.wrap (a0_0)⟩ : S100), (⟨5, IntKind.u64.wrap (a0_1)⟩ : S100), (⟨8, IntKind.u64.wrap (a0_2)⟩ : S100), (⟨8, IntKind.u64.wrap (a0_3)⟩ : S100), (⟨8, IntKind.u64.wrap (a0_4)⟩ : S100)] : List (S100)))).bind fun bt109 => (if bt109.2 = 0 then (if (a1.size : Int) = (wrap64 (a0_4)) then (if bt109.1.size + a1.size ≤ 9223372036854775807 then (if bt109.1.size + a1.size + 1 ≤ 9223372036854775807 then (some ((bt109.1 ++ a1) ++ (⟨#[0]⟩ : ByteArray), 0)) else (none)) else (none)) else (some ((⟨#[]⟩ : ByteArray), 3))) else (some ((⟨#[]⟩ : ByteArray), bt109.2)))
set_option maxHeartbeats 8000000 in
set_option maxRecDepth 100000 in
theorem oam_Close.calls (a0_0 : Int) (a0_1 : Int) (a0_2 : Int) (a0_3 : Int) (a0_4 : Int) (a1 : ByteArray) (r1 : ByteArray) (r2 : Int) (w : World) (h : oam_Close.f a0_0 a0_1 a0_2 a0_3 a0_4 a1 = some (r1, r2)) :
  Calls Try.prog 56 #[.agg #[.int .u8 a0_0, .int .u8 a0_1, .int .u8 a0_2, .int .u8 a0_3, .int .u8 a0_4], .string a1] w fun e w' => e = .returned (.tuple #[.string r1, .int .i64 r2]) ∧ Below w.heap.size w w' := by
 have hu84:=Try.underlying84;have hu100:=Try.underlying100;have HB:=zM (Below.refl w.heap.size w);have H : ((field_Pack.f (([(⟨3,IntKind.u64.wrap (a0_0)⟩ : S100),(⟨5,IntKind.u64.wrap (a0_1)⟩ : S100),(⟨8,IntKind.u64.wrap (a0_2)⟩ : S100),(⟨8,IntKind.u64.wrap (a0_3)⟩ : S100),(⟨8,IntKind.u64.wrap (a0_4)⟩ : S100)] : List (S100)))).bind fun bt109 => (if bt109.2 = 0 then (if (a1.size : Int) = (wrap64 (a0_4)) then (if bt109.1.size + a1.size ≤ 9223372036854775807 then (if bt109.1.size + a1.size + 1 ≤ 9223372036854775807 then (some ((bt109.1 ++ a1) ++ (⟨#[0]⟩ : ByteArray),0)) else (none)) else (none)) else (some ((⟨#[]⟩ : ByteArray),3))) else (some ((⟨#[]⟩ : ByteArray),bt109.2)))) = some (r1,r2):=h;clear h;obtain ⟨y106,hy106⟩ : ∃ y_ : List (S100),y_ = (([(⟨3,IntKind.u64.wrap (a0_0)⟩ : S100),(⟨5,IntKind.u64.wrap (a0_1)⟩ : S100),(⟨8,IntKind.u64.wrap (a0_2)⟩ : S100),(⟨8,IntKind.u64.wrap (a0_3)⟩ : S100),(⟨8,IntKind.u64.wrap (a0_4)⟩ : S100)] : List (S100))):=⟨_,rfl⟩
 replace H : ((field_Pack.f y106).bind fun bt109 => (if bt109.2 = 0 then (if (a1.size : Int) = (wrap64 (a0_4)) then (if bt109.1.size + a1.size ≤ 9223372036854775807 then (if bt109.1.size + a1.size + 1 ≤ 9223372036854775807 then (some ((bt109.1 ++ a1) ++ (⟨#[0]⟩ : ByteArray),0)) else (none)) else (none)) else (some ((⟨#[]⟩ : ByteArray),3))) else (some ((⟨#[]⟩ : ByteArray),bt109.2)))) = some (r1,r2):=by first|(rw [hy106];with_reducible exact H)|(have H2_:=(Option.bind_some _ _).symm.trans H;rw [hy106];with_reducible exact H2_)|(have H2_:=(Option.bind_some _ _).symm.trans H;with_reducible exact H2_)|with_reducible exact H|(rw [hy106];exact H)|exact H
 have Ny106:=zM hy106;clear hy106;replace H:=Option.bind_eq_some_iff.mp H;obtain ⟨⟨z04,z05⟩,A30,H⟩:=H;try dsimp only at H
 have A3:=zM A30;clear A30;by_cases c4 : z05 = 0
 ·
  rw [if_pos c4] at H;have c4b0 : (z05 == 0) = true:=beq_iff_eq.mpr c4;have c4b1 : (z05 != 0) = false:=bne_eq_false_iff_eq.mpr c4;clear c4;by_cases c5 : (a1.size : Int) = (wrap64 (a0_4))
  ·
   rw [if_pos c5] at H;have c5b0 : ((a1.size : Int) == (wrap64 (a0_4))) = true:=beq_iff_eq.mpr c5;have c5b1 : ((a1.size : Int) != (wrap64 (a0_4))) = false:=bne_eq_false_iff_eq.mpr c5;clear c5;by_cases c6 : z04.size + a1.size ≤ 9223372036854775807
   ·
    rw [if_pos c6] at H;have c6b0:=eq_true c6;have c6b1 : decide (z04.size + a1.size ≤ 9223372036854775807) = true:=dT c6;try have c6b2 : (9223372036854775807 < z04.size + a1.size) = False:=eq_false (Nat.not_lt.2 c6)
    by_cases c7 : z04.size + a1.size + 1 ≤ 9223372036854775807
    ·
     rw [if_pos c7] at H;have c7b0:=eq_true c7;have c7b1 : decide (z04.size + a1.size + 1 ≤ 9223372036854775807) = true:=dT c7;try have c7b2 : (9223372036854775807 < z04.size + a1.size + 1) = False:=eq_false (Nat.not_lt.2 c7)
     simp only [Option.some.injEq,Prod.mk.injEq] at H;obtain ⟨rfl,rfl⟩:=H;go_enter Try.func56,Try.ntmps56
     go_wp2_with (first|((with_reducible refine gate_dst (N:=2) rfl ?_);refine box_event ?hg (N:=2) ?hd (cs:=#[.int .u8 a0_0,.int .u8 a0_1,.int .u8 a0_2,.int .u8 a0_3,.int .u8 a0_4]) (t:=84) ?hr ?_;(case hd => rfl);(case hg => rfl);(case hr => first|(go_simp;done)|(go_simp;rfl));intro z02 hg w8 hbox hb;have n0_:=zM (yT (by repeat first|(with_reducible first|exact HB.out|apply yA|apply yN|apply yD)|exact HB.out) hb);have n1_:=zM (hbox);have n2_:=zM ((by rw [hg];exact (yZ (by repeat first|(with_reducible first|exact HB.out|apply yA|apply yN|apply yD)|exact HB.out)) : w.heap.size ≤ z02));have n3_:=zM ((by rw [hg];exact (yZ (by repeat first|(with_reducible first|exact HB.out|apply yA|apply yN|apply yD)|exact HB.out)) : w.heap.size ≤ z02));clear HB;have HB:=n0_;have z00:=n1_;have z06:=n2_;have z03:=n3_;clear n0_ n1_ n2_ n3_;clear hb hbox hg;obtain ⟨z1b,z1c,z1d,z1e,z1f,z1g,z1h,z1i,z1j,z1k⟩:=kc5 z00.out)|((with_reducible refine gate_dst (N:=29) rfl ?_);refine Kd.R_lit k100 _ 100 ?hg (N:=29) ?hd (xs:=([(⟨3,IntKind.u64.wrap (a0_0)⟩ : S100),(⟨5,IntKind.u64.wrap (a0_1)⟩ : S100),(⟨8,IntKind.u64.wrap (a0_2)⟩ : S100),(⟨8,IntKind.u64.wrap (a0_3)⟩ : S100),(⟨8,IntKind.u64.wrap (a0_4)⟩ : S100)] : List (S100))) (inner:=[.int .i64 3,.int .u64 (IntKind.u64.wrap (a0_0)),.int .i64 5,.int .u64 (IntKind.u64.wrap (a0_1)),.int .i64 8,.int .u64 (IntKind.u64.wrap (a0_2)),.int .i64 8,.int .u64 (IntKind.u64.wrap (a0_3)),.int .i64 8,.int .u64 (IntKind.u64.wrap (a0_4))]) (ok:=fun _ => True) (okp:=fun _ => True) ?hr ?hp (fun _ hk => hk) trivial (Below.refl _ _) (Nat.le_refl _) (by simp) ?_;(case hd => rfl);(case hg => rfl);(case hr => first|(go_simp;done)|(go_simp;rfl));(case hp => exact (Reps.c2 (show Kd.M k100 _ _ _ (⟨3,IntKind.u64.wrap (a0_0)⟩ : S100) [.int .i64 3,.int .u64 (IntKind.u64.wrap (a0_0))] from (k100_mkM _ _ _ (⟨3,IntKind.u64.wrap (a0_0)⟩ : S100) )) (Reps.c2 (show Kd.M k100 _ _ _ (⟨5,IntKind.u64.wrap (a0_1)⟩ : S100) [.int .i64 5,.int .u64 (IntKind.u64.wrap (a0_1))] from (k100_mkM _ _ _ (⟨5,IntKind.u64.wrap (a0_1)⟩ : S100) )) (Reps.c2 (show Kd.M k100 _ _ _ (⟨8,IntKind.u64.wrap (a0_2)⟩ : S100) [.int .i64 8,.int .u64 (IntKind.u64.wrap (a0_2))] from (k100_mkM _ _ _ (⟨8,IntKind.u64.wrap (a0_2)⟩ : S100) )) (Reps.c2 (show Kd.M k100 _ _ _ (⟨8,IntKind.u64.wrap (a0_3)⟩ : S100) [.int .i64 8,.int .u64 (IntKind.u64.wrap (a0_3))] from (k100_mkM _ _ _ (⟨8,IntKind.u64.wrap (a0_3)⟩ : S100) )) (Reps.c2 (show Kd.M k100 _ _ _ (⟨8,IntKind.u64.wrap (a0_4)⟩ : S100) [.int .i64 8,.int .u64 (IntKind.u64.wrap (a0_4))] from (k100_mkM _ _ _ (⟨8,IntKind.u64.wrap (a0_4)⟩ : S100) )) (Reps.none _ _)))))));intro v107 w10 ho11 hb hg_ hnew_;clear hg_ hnew_;(first|rw [← Ny106.out] at ho11|(simp only [Int.reduceToNat] at ho11;rw [← Ny106.out] at ho11));have n0_:=zM (Kd.R_lower ho11 (yZ (by repeat first|(with_reducible first|exact HB.out|apply yA|apply yN|apply yD|refine yS ?_ z03.out)|exact HB.out)));have n1_:=zM (zB (g:=z02) (o:=.cells #[.int .u8 a0_0,.int .u8 a0_1,.int .u8 a0_2,.int .u8 a0_3,.int .u8 a0_4] 84 (0,0)) (by (with_reducible repeat first|apply zN|apply zD|apply zA);exact z00.out) hb);have n2_:=zM (yT (by repeat first|(with_reducible first|exact HB.out|apply yA|apply yN|apply yD|refine yS ?_ z03.out)|exact HB.out) hb);clear z00;clear HB;have z01:=n0_;have z00:=n1_;have HB:=n2_;clear n0_ n1_ n2_;clear hb ho11;obtain ⟨Ao12,co12,eo12⟩:=Kd.R_slice z01.out;subst eo12)|((with_reducible refine gate_callee (f:=55) rfl ?_);refine goesL_ (some 30) rfl rfl Try.func55 (by kernel_rfl) rfl #[.slice Ao12 y106.length co12] rfl (by (try simp only [List.map_toArray,List.map_cons,List.map_nil]);first|done|rfl|(simp only [List.length_drop,List.length_take];rfl)) ?_;(with_reducible refine (field_Pack.calls _ _ y106 z04 z05 _ ?side1 ?side2 A3.out).mono ?_);(case side1 => repeat (first|exact (Kd.R_reads' z01.out).2.2|(with_reducible refine Kd.C_alloc ?_ _)|(with_reducible refine Kd.C_drewN ?_ _)|(with_reducible refine Kd.C_drew ?_)));(case side2 => exact (Kd.R_reads' z01.out).2.1);rintro e w13 ⟨rfl,hb⟩;refine ⟨_,rfl,?_⟩;have n0_:=zM (Kd.R_below (by (with_reducible repeat (first|apply Kd.R_alloc|apply Kd.R_drewN|apply Kd.R_drew));exact z01.out) hb);have n1_:=zM (zB (g:=z02) (o:=.cells #[.int .u8 a0_0,.int .u8 a0_1,.int .u8 a0_2,.int .u8 a0_3,.int .u8 a0_4] 84 (0,0)) (by (with_reducible repeat first|apply zN|apply zD|apply zA);exact z00.out) hb);have n2_:=zM (yT (by repeat first|(with_reducible first|exact HB.out|apply yA|apply yN|apply yD|refine yS ?_ z03.out)|exact HB.out) hb);clear z01;clear z00;clear HB;have z01:=n0_;have z00:=n1_;have HB:=n2_;clear n0_ n1_ n2_;(try clear hb);(try clear hb2);(try clear hk);(try clear hi);obtain ⟨z07,z08,z09,z0a,z0b,z0c,z0d,z0e,z0f,z0g⟩:=kc5 z00.out))
     go_ret2
     exact ⟨by first|rfl|(simp [errW_none,errW_some] <;> rfl)|(simp [*,errW_none,errW_some] <;> rfl),by repeat first|(with_reducible first|exact HB.out|apply yA|apply yN|apply yD|refine yS ?_ z03.out)|exact HB.out⟩
    rw [if_neg c7] at H;exact absurd H (by simp)
   rw [if_neg c6] at H;exact absurd H (by simp)
  rw [if_neg c5] at H;have c5b0 : ((a1.size : Int) == (wrap64 (a0_4))) = false:=beq_eq_false_iff_ne.mpr c5;have c5b1 : ((a1.size : Int) != (wrap64 (a0_4))) = true:=bne_iff_ne.mpr c5;simp only [Option.some.injEq,Prod.mk.injEq] at H;obtain ⟨rfl,rfl⟩:=H;go_enter Try.func56,Try.ntmps56
  go_wp2_with (first|((with_reducible refine gate_dst (N:=2) rfl ?_);refine box_event ?hg (N:=2) ?hd (cs:=#[.int .u8 a0_0,.int .u8 a0_1,.int .u8 a0_2,.int .u8 a0_3,.int .u8 a0_4]) (t:=84) ?hr ?_;(case hd => rfl);(case hg => rfl);(case hr => first|(go_simp;done)|(go_simp;rfl));intro z02 hg w15 hbox hb;have n0_:=zM (yT (by repeat first|(with_reducible first|exact HB.out|apply yA|apply yN|apply yD)|exact HB.out) hb);have n1_:=zM (hbox);have n2_:=zM ((by rw [hg];exact (yZ (by repeat first|(with_reducible first|exact HB.out|apply yA|apply yN|apply yD)|exact HB.out)) : w.heap.size ≤ z02));have n3_:=zM ((by rw [hg];exact (yZ (by repeat first|(with_reducible first|exact HB.out|apply yA|apply yN|apply yD)|exact HB.out)) : w.heap.size ≤ z02));clear HB;have HB:=n0_;have z00:=n1_;have z06:=n2_;have z03:=n3_;clear n0_ n1_ n2_ n3_;clear hb hbox hg;obtain ⟨z0h,z0i,z0j,z0k,z0l,z0m,z0n,z0o,z0p,z0q⟩:=kc5 z00.out)|((with_reducible refine gate_dst (N:=29) rfl ?_);refine Kd.R_lit k100 _ 100 ?hg (N:=29) ?hd (xs:=([(⟨3,IntKind.u64.wrap (a0_0)⟩ : S100),(⟨5,IntKind.u64.wrap (a0_1)⟩ : S100),(⟨8,IntKind.u64.wrap (a0_2)⟩ : S100),(⟨8,IntKind.u64.wrap (a0_3)⟩ : S100),(⟨8,IntKind.u64.wrap (a0_4)⟩ : S100)] : List (S100))) (inner:=[.int .i64 3,.int .u64 (IntKind.u64.wrap (a0_0)),.int .i64 5,.int .u64 (IntKind.u64.wrap (a0_1)),.int .i64 8,.int .u64 (IntKind.u64.wrap (a0_2)),.int .i64 8,.int .u64 (IntKind.u64.wrap (a0_3)),.int .i64 8,.int .u64 (IntKind.u64.wrap (a0_4))]) (ok:=fun _ => True) (okp:=fun _ => True) ?hr ?hp (fun _ hk => hk) trivial (Below.refl _ _) (Nat.le_refl _) (by simp) ?_;(case hd => rfl);(case hg => rfl);(case hr => first|(go_simp;done)|(go_simp;rfl));(case hp => exact (Reps.c2 (show Kd.M k100 _ _ _ (⟨3,IntKind.u64.wrap (a0_0)⟩ : S100) [.int .i64 3,.int .u64 (IntKind.u64.wrap (a0_0))] from (k100_mkM _ _ _ (⟨3,IntKind.u64.wrap (a0_0)⟩ : S100) )) (Reps.c2 (show Kd.M k100 _ _ _ (⟨5,IntKind.u64.wrap (a0_1)⟩ : S100) [.int .i64 5,.int .u64 (IntKind.u64.wrap (a0_1))] from (k100_mkM _ _ _ (⟨5,IntKind.u64.wrap (a0_1)⟩ : S100) )) (Reps.c2 (show Kd.M k100 _ _ _ (⟨8,IntKind.u64.wrap (a0_2)⟩ : S100) [.int .i64 8,.int .u64 (IntKind.u64.wrap (a0_2))] from (k100_mkM _ _ _ (⟨8,IntKind.u64.wrap (a0_2)⟩ : S100) )) (Reps.c2 (show Kd.M k100 _ _ _ (⟨8,IntKind.u64.wrap (a0_3)⟩ : S100) [.int .i64 8,.int .u64 (IntKind.u64.wrap (a0_3))] from (k100_mkM _ _ _ (⟨8,IntKind.u64.wrap (a0_3)⟩ : S100) )) (Reps.c2 (show Kd.M k100 _ _ _ (⟨8,IntKind.u64.wrap (a0_4)⟩ : S100) [.int .i64 8,.int .u64 (IntKind.u64.wrap (a0_4))] from (k100_mkM _ _ _ (⟨8,IntKind.u64.wrap (a0_4)⟩ : S100) )) (Reps.none _ _)))))));intro v107 w17 ho18 hb hg_ hnew_;clear hg_ hnew_;(first|rw [← Ny106.out] at ho18|(simp only [Int.reduceToNat] at ho18;rw [← Ny106.out] at ho18));have n0_:=zM (Kd.R_lower ho18 (yZ (by repeat first|(with_reducible first|exact HB.out|apply yA|apply yN|apply yD|refine yS ?_ z03.out)|exact HB.out)));have n1_:=zM (zB (g:=z02) (o:=.cells #[.int .u8 a0_0,.int .u8 a0_1,.int .u8 a0_2,.int .u8 a0_3,.int .u8 a0_4] 84 (0,0)) (by (with_reducible repeat first|apply zN|apply zD|apply zA);exact z00.out) hb);have n2_:=zM (yT (by repeat first|(with_reducible first|exact HB.out|apply yA|apply yN|apply yD|refine yS ?_ z03.out)|exact HB.out) hb);clear z00;clear HB;have z01:=n0_;have z00:=n1_;have HB:=n2_;clear n0_ n1_ n2_;clear hb ho18;obtain ⟨Ao19,co19,eo19⟩:=Kd.R_slice z01.out;subst eo19)|((with_reducible refine gate_callee (f:=55) rfl ?_);refine goesL_ (some 30) rfl rfl Try.func55 (by kernel_rfl) rfl #[.slice Ao19 y106.length co19] rfl (by (try simp only [List.map_toArray,List.map_cons,List.map_nil]);first|done|rfl|(simp only [List.length_drop,List.length_take];rfl)) ?_;(with_reducible refine (field_Pack.calls _ _ y106 z04 z05 _ ?side1 ?side2 A3.out).mono ?_);(case side1 => repeat (first|exact (Kd.R_reads' z01.out).2.2|(with_reducible refine Kd.C_alloc ?_ _)|(with_reducible refine Kd.C_drewN ?_ _)|(with_reducible refine Kd.C_drew ?_)));(case side2 => exact (Kd.R_reads' z01.out).2.1);rintro e w20 ⟨rfl,hb⟩;refine ⟨_,rfl,?_⟩;have n0_:=zM (Kd.R_below (by (with_reducible repeat (first|apply Kd.R_alloc|apply Kd.R_drewN|apply Kd.R_drew));exact z01.out) hb);have n1_:=zM (zB (g:=z02) (o:=.cells #[.int .u8 a0_0,.int .u8 a0_1,.int .u8 a0_2,.int .u8 a0_3,.int .u8 a0_4] 84 (0,0)) (by (with_reducible repeat first|apply zN|apply zD|apply zA);exact z00.out) hb);have n2_:=zM (yT (by repeat first|(with_reducible first|exact HB.out|apply yA|apply yN|apply yD|refine yS ?_ z03.out)|exact HB.out) hb);clear z01;clear z00;clear HB;have z01:=n0_;have z00:=n1_;have HB:=n2_;clear n0_ n1_ n2_;(try clear hb);(try clear hb2);(try clear hk);(try clear hi);obtain ⟨z0r,z0s,z0t,z0u,z0v,z0w,z0x,z0y,z0z,z10⟩:=kc5 z00.out))
  go_ret2
  exact ⟨by first|rfl|(simp [errW_none,errW_some] <;> rfl)|(simp [*,errW_none,errW_some] <;> rfl),by repeat first|(with_reducible first|exact HB.out|apply yA|apply yN|apply yD|refine yS ?_ z03.out)|exact HB.out⟩
 rw [if_neg c4] at H;have c4b0 : (z05 == 0) = false:=beq_eq_false_iff_ne.mpr c4;have c4b1 : (z05 != 0) = true:=bne_iff_ne.mpr c4;simp only [Option.some.injEq,Prod.mk.injEq] at H;obtain ⟨rfl,rfl⟩:=H;go_enter Try.func56,Try.ntmps56
 go_wp2_with (first|((with_reducible refine gate_dst (N:=2) rfl ?_);refine box_event ?hg (N:=2) ?hd (cs:=#[.int .u8 a0_0,.int .u8 a0_1,.int .u8 a0_2,.int .u8 a0_3,.int .u8 a0_4]) (t:=84) ?hr ?_;(case hd => rfl);(case hg => rfl);(case hr => first|(go_simp;done)|(go_simp;rfl));intro z02 hg w22 hbox hb;have n0_:=zM (yT (by repeat first|(with_reducible first|exact HB.out|apply yA|apply yN|apply yD)|exact HB.out) hb);have n1_:=zM (hbox);have n2_:=zM ((by rw [hg];exact (yZ (by repeat first|(with_reducible first|exact HB.out|apply yA|apply yN|apply yD)|exact HB.out)) : w.heap.size ≤ z02));have n3_:=zM ((by rw [hg];exact (yZ (by repeat first|(with_reducible first|exact HB.out|apply yA|apply yN|apply yD)|exact HB.out)) : w.heap.size ≤ z02));clear HB;have HB:=n0_;have z00:=n1_;have z06:=n2_;have z03:=n3_;clear n0_ n1_ n2_ n3_;clear hb hbox hg;obtain ⟨z11,z12,z13,z14,z15,z16,z17,z18,z19,z1a⟩:=kc5 z00.out)|((with_reducible refine gate_dst (N:=29) rfl ?_);refine Kd.R_lit k100 _ 100 ?hg (N:=29) ?hd (xs:=([(⟨3,IntKind.u64.wrap (a0_0)⟩ : S100),(⟨5,IntKind.u64.wrap (a0_1)⟩ : S100),(⟨8,IntKind.u64.wrap (a0_2)⟩ : S100),(⟨8,IntKind.u64.wrap (a0_3)⟩ : S100),(⟨8,IntKind.u64.wrap (a0_4)⟩ : S100)] : List (S100))) (inner:=[.int .i64 3,.int .u64 (IntKind.u64.wrap (a0_0)),.int .i64 5,.int .u64 (IntKind.u64.wrap (a0_1)),.int .i64 8,.int .u64 (IntKind.u64.wrap (a0_2)),.int .i64 8,.int .u64 (IntKind.u64.wrap (a0_3)),.int .i64 8,.int .u64 (IntKind.u64.wrap (a0_4))]) (ok:=fun _ => True) (okp:=fun _ => True) ?hr ?hp (fun _ hk => hk) trivial (Below.refl _ _) (Nat.le_refl _) (by simp) ?_;(case hd => rfl);(case hg => rfl);(case hr => first|(go_simp;done)|(go_simp;rfl));(case hp => exact (Reps.c2 (show Kd.M k100 _ _ _ (⟨3,IntKind.u64.wrap (a0_0)⟩ : S100) [.int .i64 3,.int .u64 (IntKind.u64.wrap (a0_0))] from (k100_mkM _ _ _ (⟨3,IntKind.u64.wrap (a0_0)⟩ : S100) )) (Reps.c2 (show Kd.M k100 _ _ _ (⟨5,IntKind.u64.wrap (a0_1)⟩ : S100) [.int .i64 5,.int .u64 (IntKind.u64.wrap (a0_1))] from (k100_mkM _ _ _ (⟨5,IntKind.u64.wrap (a0_1)⟩ : S100) )) (Reps.c2 (show Kd.M k100 _ _ _ (⟨8,IntKind.u64.wrap (a0_2)⟩ : S100) [.int .i64 8,.int .u64 (IntKind.u64.wrap (a0_2))] from (k100_mkM _ _ _ (⟨8,IntKind.u64.wrap (a0_2)⟩ : S100) )) (Reps.c2 (show Kd.M k100 _ _ _ (⟨8,IntKind.u64.wrap (a0_3)⟩ : S100) [.int .i64 8,.int .u64 (IntKind.u64.wrap (a0_3))] from (k100_mkM _ _ _ (⟨8,IntKind.u64.wrap (a0_3)⟩ : S100) )) (Reps.c2 (show Kd.M k100 _ _ _ (⟨8,IntKind.u64.wrap (a0_4)⟩ : S100) [.int .i64 8,.int .u64 (IntKind.u64.wrap (a0_4))] from (k100_mkM _ _ _ (⟨8,IntKind.u64.wrap (a0_4)⟩ : S100) )) (Reps.none _ _)))))));intro v107 w24 ho25 hb hg_ hnew_;clear hg_ hnew_;(first|rw [← Ny106.out] at ho25|(simp only [Int.reduceToNat] at ho25;rw [← Ny106.out] at ho25));have n0_:=zM (Kd.R_lower ho25 (yZ (by repeat first|(with_reducible first|exact HB.out|apply yA|apply yN|apply yD|refine yS ?_ z03.out)|exact HB.out)));have n1_:=zM (zB (g:=z02) (o:=.cells #[.int .u8 a0_0,.int .u8 a0_1,.int .u8 a0_2,.int .u8 a0_3,.int .u8 a0_4] 84 (0,0)) (by (with_reducible repeat first|apply zN|apply zD|apply zA);exact z00.out) hb);have n2_:=zM (yT (by repeat first|(with_reducible first|exact HB.out|apply yA|apply yN|apply yD|refine yS ?_ z03.out)|exact HB.out) hb);clear z00;clear HB;have z01:=n0_;have z00:=n1_;have HB:=n2_;clear n0_ n1_ n2_;clear hb ho25;obtain ⟨Ao26,co26,eo26⟩:=Kd.R_slice z01.out;subst eo26)|((with_reducible refine gate_callee (f:=55) rfl ?_);refine goesL_ (some 30) rfl rfl Try.func55 (by kernel_rfl) rfl #[.slice Ao26 y106.length co26] rfl (by (try simp only [List.map_toArray,List.map_cons,List.map_nil]);first|done|rfl|(simp only [List.length_drop,List.length_take];rfl)) ?_;(with_reducible refine (field_Pack.calls _ _ y106 z04 z05 _ ?side1 ?side2 A3.out).mono ?_);(case side1 => repeat (first|exact (Kd.R_reads' z01.out).2.2|(with_reducible refine Kd.C_alloc ?_ _)|(with_reducible refine Kd.C_drewN ?_ _)|(with_reducible refine Kd.C_drew ?_)));(case side2 => exact (Kd.R_reads' z01.out).2.1);rintro e w27 ⟨rfl,hb⟩;refine ⟨_,rfl,?_⟩;have n0_:=zM (Kd.R_below (by (with_reducible repeat (first|apply Kd.R_alloc|apply Kd.R_drewN|apply Kd.R_drew));exact z01.out) hb);have n1_:=zM (zB (g:=z02) (o:=.cells #[.int .u8 a0_0,.int .u8 a0_1,.int .u8 a0_2,.int .u8 a0_3,.int .u8 a0_4] 84 (0,0)) (by (with_reducible repeat first|apply zN|apply zD|apply zA);exact z00.out) hb);have n2_:=zM (yT (by repeat first|(with_reducible first|exact HB.out|apply yA|apply yN|apply yD|refine yS ?_ z03.out)|exact HB.out) hb);clear z01;clear z00;clear HB;have z01:=n0_;have z00:=n1_;have HB:=n2_;clear n0_ n1_ n2_;(try clear hb);(try clear hb2);(try clear hk);(try clear hi)))
 go_ret2
 exact ⟨by first|rfl|(simp [errW_none,errW_some] <;> rfl)|(simp [*,errW_none,errW_some] <;> rfl),by repeat first|(with_reducible first|exact HB.out|apply yA|apply yN|apply yD|refine yS ?_ z03.out)|exact HB.out⟩

/-! ### ccm_Close: function 38 -/
def ccm_Close.j0 : Nat → Int → ByteArray → Int → Bool → Int → Int → Int → ByteArray → Option (ByteArray × Int)
  | 0, _, _, _, _, _, _, _, _ => none
  | k + 1, x1, x7, x9, x112000, x112001, x112002, x112003, x112004 => if x7.size + x112004.size ≤ 9223372036854775807 then ((strings_Repeat.f (⟨#[0]⟩ : ByteArray) 16).bind fun t118 => (if x7.size + x112004.size + t118.size ≤ 9223372036854775807 then ((oam_Close.f x1 0 1 x9 70 ((x7 ++ x112004) ++ t118)).bind fun bt119 => (some (bt119.1, bt119.2))) else (none))) else (none)
def ccm_Close.f (k : Nat) (a0_0 : Bool) (a0_1 : Int) (a0_2 : Int) (a0_3 : Int) (a0_4 : ByteArray) (a1 : Int) : Option (ByteArray × Int) := if a1 > 7 then (some ((⟨#[]⟩ : ByteArray), 4)) else ((ccm_Msg_wrong.f k a0_0 a0_1 a0_2 a0_3 a0_4).bind fun t112 => (if t112 = 0 then ((field_Pack.f (([(⟨32, IntKind.u64.wrap (a0_2)⟩ : S100), (⟨16, IntKind.u64.wrap (a0_3)⟩ : S100)] : List (S100)))).bind fun bt116 => (if bt116.2 = 0 then (if a0_0 = true then (ccm_Close.j0 k a1 bt116.1 (Go.bits .or .u8 a0_1 128) a0_0 a0_1 a0_2 a0_3 a0_4) else (ccm_Close.j0 k a1 bt116.1 a0_1 a0_0 a0_1 a0_2 a0_3 a0_4)) else (some ((⟨#[]⟩ : ByteArray), bt116.2)))) else (some ((⟨#[]⟩ : ByteArray), t112))))
theorem ccm_Close.mono_l : ∀ k, (∀ y0 y1 y2 y3 y4 y5 y6 y7, LeO (ccm_Close.j0 k y0 y1 y2 y3 y4 y5 y6 y7) (ccm_Close.j0 (k + 1) y0 y1 y2 y3 y4 y5 y6 y7))
 | 0 => fun _ _ _ _ _ _ _ _ r h => by simp [ccm_Close.j0] at h
 | k + 1 => by
  have ih0 := ccm_Close.mono_l k
  intro y0 y1 y2 y3 y4 y5 y6 y7
  unfold ccm_Close.j0
  repeat' first
  | (with_reducible exact ih0 _ _ _ _ _ _ _ _)
  | (with_reducible exact ccm_Msg_wrong.mono _ _ _ _ _ _)
  | (with_reducible exact LeO.refl _)
  | (with_reducible exact LeO.none _)
  | (with_reducible refine LeO.ite ?_ ?_)
  | (with_reducible refine LeO.bind ?_ (fun _ => ?_))
  | exact ih0 _ _ _ _ _ _ _ _
  | exact ccm_Msg_wrong.mono _ _ _ _ _ _
  | exact LeO.none _
  | refine LeO.ite ?_ ?_
  | refine LeO.bind ?_ (fun _ => ?_)
theorem ccm_Close.mono : ∀ a0 a1 a2 a3 a4 a5 k, LeO (ccm_Close.f k a0 a1 a2 a3 a4 a5) (ccm_Close.f (k + 1) a0 a1 a2 a3 a4 a5) := by
 intro a0 a1 a2 a3 a4 a5 k;have ih0:=ccm_Close.mono_l k;unfold ccm_Close.f
 repeat' first
  | (with_reducible exact ih0 _ _ _ _ _ _ _ _)
  | (with_reducible exact ccm_Msg_wrong.mono _ _ _ _ _ _)
  | (with_reducible exact LeO.refl _)
  | (with_reducible exact LeO.none _)
  | (with_reducible refine LeO.ite ?_ ?_)
  | (with_reducible refine LeO.bind ?_ (fun _ => ?_))
  | exact ih0 _ _ _ _ _ _ _ _
  | exact ccm_Msg_wrong.mono _ _ _ _ _ _
  | exact LeO.none _
  | refine LeO.ite ?_ ?_
  | refine LeO.bind ?_ (fun _ => ?_)
def ccm_Close.T12 : Bool × List (List Nat × List Nat) := (true, [([], []), ([], []), ([0, 1], [0, 1]), ([], []), ([], []), ([4], [4]), ([3, 5], [3, 5]), ([], []), ([6, 7], [6, 7]), ([2, 8, 7], [2, 8]), ([9], [9]), ([9], [9]), ([10, 9, 0, 1, 2, 3, 4, 5, 6, 7, 8, 9, 10, 11], [10]), ([11, 12, 0, 1, 2, 3, 4, 5, 6, 7, 8, 9, 10, 11, 12], [11])])
def ccm_Close.B12 : List Nat := [0, 0, 3, 0, 0, 16, 56, 0, 248, 511, 1023, 1023, 4095, 8191]
theorem ccm_Close.tab12 : rtab .any (opsOf Try.f38 12) = ccm_Close.T12 := by kernel_rfl
theorem ccm_Close.bits12 : waitsOk ccm_Close.T12.2 ccm_Close.B12 = true := by kernel_rfl
set_option maxHeartbeats 8000000 in
set_option maxRecDepth 100000 in
theorem ccm_Close.calls (k : Nat) (a0_0 : Bool) (a0_1 : Int) (a0_2 : Int) (a0_3 : Int) (a0_4 : ByteArray) (a1 : Int) (r1 : ByteArray) (r2 : Int) (w : World) (h : ccm_Close.f k a0_0 a0_1 a0_2 a0_3 a0_4 a1 = some (r1, r2)) :
  Calls Try.prog 38 #[.agg #[.bool a0_0, .int .u8 a0_1, .int .u32 a0_2, .int .u16 a0_3, .string a0_4], .int .u8 a1] w fun e w' => e = .returned (.tuple #[.string r1, .int .i64 r2]) ∧ Below w.heap.size w w' := by
 have hu62:=Try.underlying62;have hu100:=Try.underlying100;have hu84:=Try.underlying84;have HB:=zM (Below.refl w.heap.size w);have H : (if a1 > 7 then (some ((⟨#[]⟩ : ByteArray),4)) else ((ccm_Msg_wrong.f k a0_0 a0_1 a0_2 a0_3 a0_4).bind fun z05 => (if z05 = 0 then ((field_Pack.f (([(⟨32,IntKind.u64.wrap (a0_2)⟩ : S100),(⟨16,IntKind.u64.wrap (a0_3)⟩ : S100)] : List (S100)))).bind fun bt116 => (if bt116.2 = 0 then (if a0_0 = true then (ccm_Close.j0 k a1 bt116.1 (Go.bits .or .u8 a0_1 128) a0_0 a0_1 a0_2 a0_3 a0_4) else (ccm_Close.j0 k a1 bt116.1 a0_1 a0_0 a0_1 a0_2 a0_3 a0_4)) else (some ((⟨#[]⟩ : ByteArray),bt116.2)))) else (some ((⟨#[]⟩ : ByteArray),z05))))) = some (r1,r2):=h;clear h;by_cases c3 : a1 > 7
 ·
  rw [if_pos c3] at H;have c3b0 : decide (7 < a1) = true:=dT c3;clear c3;simp only [Option.some.injEq,Prod.mk.injEq] at H;obtain ⟨rfl,rfl⟩:=H;go_enter Try.func38,Try.ntmps38
  go_wp2_with (first|((with_reducible refine gate_dst (N:=2) rfl ?_);refine box_event ?hg (N:=2) ?hd (cs:=#[.bool a0_0,.int .u8 a0_1,.int .u32 a0_2,.int .u16 a0_3,.string a0_4]) (t:=62) ?hr ?_;(case hd => rfl);(case hg => rfl);(case hr => first|(go_simp;done)|(go_simp;rfl));intro z01 hg w4 hbox hb;have n0_:=zM (yT (by repeat first|(with_reducible first|exact HB.out|apply yA|apply yN|apply yD)|exact HB.out) hb);have n1_:=zM (hbox);have n2_:=zM ((by rw [hg];exact (yZ (by repeat first|(with_reducible first|exact HB.out|apply yA|apply yN|apply yD)|exact HB.out)) : w.heap.size ≤ z01));have n3_:=zM ((by rw [hg];exact (yZ (by repeat first|(with_reducible first|exact HB.out|apply yA|apply yN|apply yD)|exact HB.out)) : w.heap.size ≤ z01));clear HB;have HB:=n0_;have z00:=n1_;have z06:=n2_;have z02:=n3_;clear n0_ n1_ n2_ n3_;clear hb hbox hg))
  go_ret2
  exact ⟨by first|rfl|(simp [errW_none,errW_some] <;> rfl)|(simp [*,errW_none,errW_some] <;> rfl),by repeat first|(with_reducible first|exact HB.out|apply yA|apply yN|apply yD|refine yS ?_ z02.out)|exact HB.out⟩
 rw [if_neg c3] at H;have c3b0 : decide (7 < a1) = false:=dF c3;clear c3;replace H:=Option.bind_eq_some_iff.mp H;obtain ⟨z05,A50,H⟩:=H;try dsimp only at H
 have A5:=zM A50;clear A50;by_cases c6 : z05 = 0
 ·
  rw [if_pos c6] at H;have c6b0 : (z05 == 0) = true:=beq_iff_eq.mpr c6;have c6b1 : (z05 != 0) = false:=bne_eq_false_iff_eq.mpr c6;clear c6;obtain ⟨y113,hy113⟩ : ∃ y_ : List (S100),y_ = (([(⟨32,IntKind.u64.wrap (a0_2)⟩ : S100),(⟨16,IntKind.u64.wrap (a0_3)⟩ : S100)] : List (S100))):=⟨_,rfl⟩
  replace H : ((field_Pack.f y113).bind fun bt116 => (if bt116.2 = 0 then (if a0_0 = true then (ccm_Close.j0 k a1 bt116.1 (Go.bits .or .u8 a0_1 128) a0_0 a0_1 a0_2 a0_3 a0_4) else (ccm_Close.j0 k a1 bt116.1 a0_1 a0_0 a0_1 a0_2 a0_3 a0_4)) else (some ((⟨#[]⟩ : ByteArray),bt116.2)))) = some (r1,r2):=by first|(rw [hy113];with_reducible exact H)|(have H2_:=(Option.bind_some _ _).symm.trans H;rw [hy113];with_reducible exact H2_)|(have H2_:=(Option.bind_some _ _).symm.trans H;with_reducible exact H2_)|with_reducible exact H|(rw [hy113];exact H)|exact H
  have Ny113:=zM hy113;clear hy113;replace H:=Option.bind_eq_some_iff.mp H;obtain ⟨⟨z04,z07⟩,A70,H⟩:=H;try dsimp only at H
  have A7:=zM A70;clear A70;by_cases c8 : z07 = 0
  ·
   rw [if_pos c8] at H;have c8b0 : (z07 == 0) = true:=beq_iff_eq.mpr c8;have c8b1 : (z07 != 0) = false:=bne_eq_false_iff_eq.mpr c8;clear c8;have HC9:=zM H;clear H;go_enter Try.func38,Try.ntmps38
   go_upto_if 36 with (first|((with_reducible refine gate_dst (N:=2) rfl ?_);refine box_event ?hg (N:=2) ?hd (cs:=#[.bool a0_0,.int .u8 a0_1,.int .u32 a0_2,.int .u16 a0_3,.string a0_4]) (t:=62) ?hr ?_;(case hd => rfl);(case hg => rfl);(case hr => first|(go_simp;done)|(go_simp;rfl));intro z01 hg w10 hbox hb;have n0_:=zM (yT (by repeat first|(with_reducible first|exact HB.out|apply yA|apply yN|apply yD)|exact HB.out) hb);have n1_:=zM (hbox);have n2_:=zM ((by rw [hg];exact (yZ (by repeat first|(with_reducible first|exact HB.out|apply yA|apply yN|apply yD)|exact HB.out)) : w.heap.size ≤ z01));have n3_:=zM ((by rw [hg];exact (yZ (by repeat first|(with_reducible first|exact HB.out|apply yA|apply yN|apply yD)|exact HB.out)) : w.heap.size ≤ z01));clear HB;have HB:=n0_;have z00:=n1_;have z06:=n2_;have z02:=n3_;clear n0_ n1_ n2_ n3_;clear hb hbox hg;obtain ⟨z08,z09,z0a,z0b,z0c,z0d,z0e,z0f,z0g,z0h⟩:=kc5 z00.out)|((with_reducible refine gate_callee (f:=47) rfl ?_);refine goesL_ (some 13) rfl rfl Try.func47 (by kernel_rfl) rfl #[.agg #[.bool a0_0,.int .u8 a0_1,.int .u32 a0_2,.int .u16 a0_3,.string a0_4]] rfl (by (try simp only [List.map_toArray,List.map_cons,List.map_nil]);first|done|rfl|(simp only [List.length_drop,List.length_take];rfl)) ?_;(with_reducible refine (ccm_Msg_wrong.calls k a0_0 a0_1 a0_2 a0_3 a0_4 z05 _ A5.out).mono ?_);rintro e w12 ⟨rfl,hb⟩;refine ⟨_,rfl,?_⟩;have n0_:=zM (zB (g:=z01) (o:=.cells #[.bool a0_0,.int .u8 a0_1,.int .u32 a0_2,.int .u16 a0_3,.string a0_4] 62 (0,0)) (by (with_reducible repeat first|apply zN|apply zD|apply zA);exact z00.out) hb);have n1_:=zM (yT (by repeat first|(with_reducible first|exact HB.out|apply yA|apply yN|apply yD|refine yS ?_ z02.out)|exact HB.out) hb);clear z00;clear HB;have z00:=n0_;have HB:=n1_;clear n0_ n1_;(try clear hb);(try clear hb2);(try clear hk);(try clear hi);obtain ⟨z0i,z0j,z0k,z0l,z0m,z0n,z0o,z0p,z0q,z0r⟩:=kc5 z00.out)|((with_reducible refine gate_dst (N:=26) rfl ?_);refine Kd.R_lit k100 _ 100 ?hg (N:=26) ?hd (xs:=([(⟨32,IntKind.u64.wrap (a0_2)⟩ : S100),(⟨16,IntKind.u64.wrap (a0_3)⟩ : S100)] : List (S100))) (inner:=[.int .i64 32,.int .u64 (IntKind.u64.wrap (a0_2)),.int .i64 16,.int .u64 (IntKind.u64.wrap (a0_3))]) (ok:=fun _ => True) (okp:=fun _ => True) ?hr ?hp (fun _ hk => hk) trivial (Below.refl _ _) (Nat.le_refl _) (by simp) ?_;(case hd => rfl);(case hg => rfl);(case hr => first|(go_simp;done)|(go_simp;rfl));(case hp => exact (Reps.c2 (show Kd.M k100 _ _ _ (⟨32,IntKind.u64.wrap (a0_2)⟩ : S100) [.int .i64 32,.int .u64 (IntKind.u64.wrap (a0_2))] from (k100_mkM _ _ _ (⟨32,IntKind.u64.wrap (a0_2)⟩ : S100) )) (Reps.c2 (show Kd.M k100 _ _ _ (⟨16,IntKind.u64.wrap (a0_3)⟩ : S100) [.int .i64 16,.int .u64 (IntKind.u64.wrap (a0_3))] from (k100_mkM _ _ _ (⟨16,IntKind.u64.wrap (a0_3)⟩ : S100) )) (Reps.none _ _))));intro v114 w14 ho15 hb hg_ hnew_;clear hg_ hnew_;(first|rw [← Ny113.out] at ho15|(simp only [Int.reduceToNat] at ho15;rw [← Ny113.out] at ho15));have n0_:=zM (Kd.R_lower ho15 (yZ (by repeat first|(with_reducible first|exact HB.out|apply yA|apply yN|apply yD|refine yS ?_ z02.out)|exact HB.out)));have n1_:=zM (zB (g:=z01) (o:=.cells #[.bool a0_0,.int .u8 a0_1,.int .u32 a0_2,.int .u16 a0_3,.string a0_4] 62 (0,0)) (by (with_reducible repeat first|apply zN|apply zD|apply zA);exact z00.out) hb);have n2_:=zM (yT (by repeat first|(with_reducible first|exact HB.out|apply yA|apply yN|apply yD|refine yS ?_ z02.out)|exact HB.out) hb);clear z00;clear HB;have z03:=n0_;have z00:=n1_;have HB:=n2_;clear n0_ n1_ n2_;clear hb ho15;obtain ⟨Ao16,co16,eo16⟩:=Kd.R_slice z03.out;subst eo16)|((with_reducible refine gate_callee (f:=55) rfl ?_);refine goesL_ (some 27) rfl rfl Try.func55 (by kernel_rfl) rfl #[.slice Ao16 y113.length co16] rfl (by (try simp only [List.map_toArray,List.map_cons,List.map_nil]);first|done|rfl|(simp only [List.length_drop,List.length_take];rfl)) ?_;(with_reducible refine (field_Pack.calls _ _ y113 z04 z07 _ ?side1 ?side2 A7.out).mono ?_);(case side1 => repeat (first|exact (Kd.R_reads' z03.out).2.2|(with_reducible refine Kd.C_alloc ?_ _)|(with_reducible refine Kd.C_drewN ?_ _)|(with_reducible refine Kd.C_drew ?_)));(case side2 => exact (Kd.R_reads' z03.out).2.1);rintro e w17 ⟨rfl,hb⟩;refine ⟨_,rfl,?_⟩;have n0_:=zM (Kd.R_below (by (with_reducible repeat (first|apply Kd.R_alloc|apply Kd.R_drewN|apply Kd.R_drew));exact z03.out) hb);have n1_:=zM (zB (g:=z01) (o:=.cells #[.bool a0_0,.int .u8 a0_1,.int .u32 a0_2,.int .u16 a0_3,.string a0_4] 62 (0,0)) (by (with_reducible repeat first|apply zN|apply zD|apply zA);exact z00.out) hb);have n2_:=zM (yT (by repeat first|(with_reducible first|exact HB.out|apply yA|apply yN|apply yD|refine yS ?_ z02.out)|exact HB.out) hb);clear z03;clear z00;clear HB;have z03:=n0_;have z00:=n1_;have HB:=n2_;clear n0_ n1_ n2_;(try clear hb);(try clear hb2);(try clear hk);(try clear hi);obtain ⟨z0s,z0t,z0u,z0v,z0w,z0x,z0y,z0z,z10,z11⟩:=kc5 z00.out))
   (try simp only [Act.put,sA,sB,sC])
   go_cut [9] (fun v9 wc => ∃ (kq : Nat) (x9_8 : Int),v9 = .int .u8 x9_8 ∧ Aside0 (ccm_Close.j0 kq a1 z04 x9_8 a0_0 a0_1 a0_2 a0_3 a0_4 = some (r1,r2)) ∧ Aside0 (kq ≤ k) ∧ Aside0 (wc.heap[z01]? = some (.cells #[.bool a0_0,.int .u8 a0_1,.int .u32 a0_2,.int .u16 a0_3,.string a0_4] 62 (0,0))) ∧ Aside0 (Below w.heap.size w wc))
   case first =>
    have H:=HC9.out;clear HC9;by_cases c19 : a0_0 = true
    ·
     subst c19;have H1 : (ccm_Close.j0 k a1 z04 (Go.bits .or .u8 a0_1 128) true a0_1 a0_2 a0_3 a0_4) = some (r1,r2):=by rw [if_pos rfl] at H;exact H
     clear H;have H:=H1;clear H1;have H':=zM H;clear H;go_wp2;go_meet
     case rel => exact ⟨_,(Go.bits .or .u8 a0_1 128),(by first|rfl|(simp;done)|(simp [*];done)),H',⟨by first|omega|exact Nat.le_refl _⟩,⟨by (with_reducible repeat first|apply zN|apply zD|apply zA);exact z00.out⟩,⟨by repeat first|(with_reducible first|exact HB.out|apply yA|apply yN|apply yD|refine yS ?_ z02.out)|exact HB.out⟩⟩
    replace c19:=Bool.eq_false_iff.mpr c19;subst c19;have H1 : (ccm_Close.j0 k a1 z04 a0_1 false a0_1 a0_2 a0_3 a0_4) = some (r1,r2):=by rw [if_neg (show ¬ (false = true) by decide)] at H;exact H
    clear H;have H:=H1;clear H1;have H':=zM H;clear H;go_wp2;go_meet
    case rel => exact ⟨_,(a0_1),(by first|rfl|(simp;done)|(simp [*];done)),H',⟨by first|omega|exact Nat.le_refl _⟩,⟨by (with_reducible repeat first|apply zN|apply zD|apply zA);exact z00.out⟩,⟨by repeat first|(with_reducible first|exact HB.out|apply yA|apply yN|apply yD|refine yS ?_ z02.out)|exact HB.out⟩⟩
   case rest =>
    clear HC9;try clear c1
    try clear c2
    try clear p2
    try clear c3
    try clear c3b0
    try clear c4
    try clear c5
    try clear c6
    try clear c6b0
    try clear c6b1
    try clear c8
    try clear c8b0
    try clear c8b1
    try clear c19
    try clear z08
    try clear z09
    try clear z0a
    try clear z0b
    try clear z0c
    try clear z0i
    try clear z0j
    try clear z0k
    try clear z0l
    try clear z0m
    try clear z0s
    try clear z0t
    try clear z0u
    try clear z0v
    try clear z0w
    try clear z0d
    try clear z0e
    try clear z0f
    try clear z0g
    try clear z0h
    try clear z0n
    try clear z0o
    try clear z0p
    try clear z0q
    try clear z0r
    try clear z0x
    try clear z0y
    try clear z0z
    try clear z10
    try clear z11
    obtain ⟨kq,x9_8,rfl,HA,HJ8,z00,HB⟩:=hcut;cases kq with
   | zero => exact absurd HA.out (by simp [ccm_Close.j0])
   | succ kj8 =>
     have H:=HA.out;clear HA;simp only [ccm_Close.j0] at H;by_cases c20 : z04.size + a0_4.size ≤ 9223372036854775807
     ·
      rw [if_pos c20] at H;have c20b0:=eq_true c20;have c20b1 : decide (z04.size + a0_4.size ≤ 9223372036854775807) = true:=dT c20;try have c20b2 : (9223372036854775807 < z04.size + a0_4.size) = False:=eq_false (Nat.not_lt.2 c20)
      replace H:=Option.bind_eq_some_iff.mp H;obtain ⟨z12,A210,H⟩:=H;try dsimp only at H
      have A21:=zM A210;clear A210;by_cases c22 : z04.size + a0_4.size + z12.size ≤ 9223372036854775807
      ·
       rw [if_pos c22] at H;have c22b0:=eq_true c22;have c22b1 : decide (z04.size + a0_4.size + z12.size ≤ 9223372036854775807) = true:=dT c22;try have c22b2 : (9223372036854775807 < z04.size + a0_4.size + z12.size) = False:=eq_false (Nat.not_lt.2 c22)
       replace H:=Option.bind_eq_some_iff.mp H;obtain ⟨⟨z1x,z1y⟩,A230,H⟩:=H;replace H : (some (z1x,z1y)) = some (r1,r2):=H;have A23:=zM A230;clear A230;simp only [Option.some.injEq,Prod.mk.injEq] at H;obtain ⟨rfl,rfl⟩:=H;try go_wp2
       have n0_:=zM (zD z00.out);have n1_:=zM (yD HB.out);clear z00;clear HB;have z00:=n0_;have HB:=n1_;clear n0_ n1_;refine start_ (n:=14) (S:=fun w' => w'.cell? ⟨z01,0,none⟩ = some (.bool a0_0) ∧ w'.cell? ⟨z01,1,none⟩ = some (.int .u8 a0_1) ∧ w'.cell? ⟨z01,2,none⟩ = some (.int .u32 a0_2) ∧ w'.cell? ⟨z01,3,none⟩ = some (.int .u16 a0_3) ∧ w'.cell? ⟨z01,4,none⟩ = some (.string a0_4)) (ds:=[]) #[false,false,false,false,false,false,false,false,false,false,false,false,false,false] (by kernel_rfl) rfl rfl ⟨(zC z00.out 0).trans rfl,(zC z00.out 1).trans rfl,(zC z00.out 2).trans rfl,(zC z00.out 3).trans rfl,(zC z00.out 4).trans rfl⟩ (fun hHeld => ?_);refine with_tabW ccm_Close.tab12 ccm_Close.bits12 (fun HT_ HW_ => ?_);generalize wc.drew = w24 at z00 HB hHeld ⊢
       refine pure_ (i:=0) (N:=some 39) (v:=?_) (a':=?_) #[true,false,false,false,false,false,false,false,false,false,false,false,false,false] rfl rfl (any_of HT_.out (by kernel_rfl)) (fun _ _ _ h => h) (Or.inl ⟨by rfl,?_⟩) ?_ ?_;rotate_left
       ·
        intro w';go_simp;with_reducible rfl
       rotate_left
       ·
        simp only [Act.put,sA,sB,sC,i64_w,i32_w];rfl
       refine pure_ (i:=1) (N:=some 40) (v:=?_) (a':=?_) #[true,true,false,false,false,false,false,false,false,false,false,false,false,false] rfl rfl (any_of HT_.out (by kernel_rfl)) (fun _ _ _ h => h) (Or.inl ⟨by rfl,?_⟩) ?_ ?_;rotate_left
       ·
        intro w';go_simp;with_reducible rfl
       rotate_left
       ·
        simp only [Act.put,sA,sB,sC,i64_w,i32_w];rfl
       refine pure_ (i:=2) (N:=some 41) (v:=?_) (a':=?_) #[true,true,true,false,false,false,false,false,false,false,false,false,false,false] rfl rfl (any_of HT_.out (by kernel_rfl)) (fun _ _ _ h => h) (Or.inl ⟨by rfl,?_⟩) ?_ ?_;rotate_left
       ·
        intro w';go_simp;with_reducible rfl
       rotate_left
       ·
        simp only [Act.put,sA,sB,sC,i64_w,i32_w];rfl
       refine pure_ (i:=3) (N:=some 42) (v:=?_) (a':=?_) #[true,true,true,true,false,false,false,false,false,false,false,false,false,false] rfl rfl (any_of HT_.out (by kernel_rfl)) (fun _ _ _ h => h) (Or.inl ⟨by rfl,?_⟩) ?_ ?_;rotate_left
       ·
        intro w';go_simp;with_reducible rfl
       rotate_left
       ·
        simp only [Act.put,sA,sB,sC,i64_w,i32_w];rfl
       refine pure_ (i:=4) (N:=some 43) (v:=?_) (a':=?_) #[true,true,true,true,true,false,false,false,false,false,false,false,false,false] rfl rfl (any_of HT_.out (by kernel_rfl)) (fun _ _ _ h => h) (Or.inl ⟨by rfl,?_⟩) ?_ ?_;rotate_left
       ·
        intro w';go_simp;with_reducible rfl
       rotate_left
       ·
        simp only [Act.put,sA,sB,sC,i64_w,i32_w];rfl
       refine take_ (i:=5) (N:=some 44) (v:=?_) (a':=?_) #[true,true,true,true,true,true,false,false,false,false,false,false,false,false] rfl rfl (take_ofW HT_.out HW_.out (by kernel_rfl)) (fun _ _ _ h => h) (Or.inl ⟨by rfl,?_⟩) hHeld ?_ ?_;rotate_left
       ·
        rintro w' ⟨s0,s1,s2,s3,s4⟩
        go_simp;with_reducible rfl
       rotate_left
       ·
        simp only [Act.put,sA,sB,sC,i64_w,i32_w];rfl
       refine pure_ (i:=6) (N:=some 45) (v:=?_) (a':=?_) #[true,true,true,true,true,true,true,false,false,false,false,false,false,false] rfl rfl (any_of HT_.out (by kernel_rfl)) (fun _ _ _ h => h) (Or.inl ⟨by rfl,?_⟩) ?_ ?_;rotate_left
       ·
        intro w';go_simp;with_reducible rfl
       rotate_left
       ·
        simp only [Act.put,sA,sB,sC,i64_w,i32_w];rfl
       refine one_ (i:=7) (N:=some 46) #[true,true,true,true,true,true,true,true,false,false,false,false,false,false] rfl rfl (one_of HT_.out (by kernel_rfl)) (by decide) (fun K hK => ?_);refine goes_ Try.func42 (by kernel_rfl) rfl #[.string (⟨#[0]⟩ : ByteArray),.int .i64 16] (by rfl) rfl rfl (by (try simp only [List.map_toArray,List.map_cons,List.map_nil]);first|done|rfl|(simp only [List.length_drop,List.length_take];rfl)) ?_;with_reducible refine (strings_Repeat.calls (⟨#[0]⟩ : ByteArray) 16 z12 _ A21.out).mono ?_
       rintro e w25 ⟨rfl,hb⟩
       refine ⟨_,rfl,?_⟩;have n0_:=zM (zB (g:=z01) (o:=.cells #[.bool a0_0,.int .u8 a0_1,.int .u32 a0_2,.int .u16 a0_3,.string a0_4] 62 (0,0)) (by (with_reducible repeat first|apply zN|apply zD|apply zA);exact z00.out) hb);have n1_:=zM (yT (by repeat first|(with_reducible first|exact HB.out|apply yA|apply yN|apply yD|refine yS ?_ z02.out)|exact HB.out) hb);clear z00;clear HB;have z00:=n0_;have HB:=n1_;clear n0_ n1_;(try clear hb)
       (try clear hb2)
       (try clear hk)
       (try clear hi)
       refine hK.out _ _ ⟨(zC z00.out 0).trans rfl,(zC z00.out 1).trans rfl,(zC z00.out 2).trans rfl,(zC z00.out 3).trans rfl,(zC z00.out 4).trans rfl⟩ (fun hHeld => ?_);clear hK K;refine norm_ (a':=?_) ?_ ?_;rotate_left
       ·
        show Act.put _ (some 46) _ = _
        simp only [Act.put,sA,sB,sC,i64_w,i32_w];rfl
       refine pure_ (i:=8) (N:=some 47) (v:=?_) (a':=?_) #[true,true,true,true,true,true,true,true,true,false,false,false,false,false] rfl rfl (any_of HT_.out (by kernel_rfl)) (fun _ _ _ h => h) (Or.inl ⟨by rfl,?_⟩) ?_ ?_;rotate_left
       ·
        intro w';go_simp;with_reducible rfl
       rotate_left
       ·
        simp only [Act.put,sA,sB,sC,i64_w,i32_w];rfl
       refine one_ (i:=9) (N:=some 48) #[true,true,true,true,true,true,true,true,true,true,false,false,false,false] rfl rfl (one_of HT_.out (by kernel_rfl)) (by decide) (fun K hK => ?_);refine goes_ Try.func56 (by kernel_rfl) rfl #[.agg #[.int .u8 a1,.int .u8 0,.int .u8 1,.int .u8 x9_8,.int .u8 70],.string ((z04 ++ a0_4) ++ z12)] (by rfl) rfl rfl (by (try simp only [List.map_toArray,List.map_cons,List.map_nil]);first|done|rfl|(simp only [List.length_drop,List.length_take];rfl)) ?_;with_reducible refine (oam_Close.calls a1 0 1 x9_8 70 ((z04 ++ a0_4) ++ z12) z1x z1y _ A23.out).mono ?_
       rintro e w26 ⟨rfl,hb⟩
       refine ⟨_,rfl,?_⟩;have n0_:=zM (zB (g:=z01) (o:=.cells #[.bool a0_0,.int .u8 a0_1,.int .u32 a0_2,.int .u16 a0_3,.string a0_4] 62 (0,0)) (by (with_reducible repeat first|apply zN|apply zD|apply zA);exact z00.out) hb);have n1_:=zM (yT (by repeat first|(with_reducible first|exact HB.out|apply yA|apply yN|apply yD|refine yS ?_ z02.out)|exact HB.out) hb);clear z00;clear HB;have z00:=n0_;have HB:=n1_;clear n0_ n1_;(try clear hb)
       (try clear hb2)
       (try clear hk)
       (try clear hi)
       refine hK.out _ _ ⟨(zC z00.out 0).trans rfl,(zC z00.out 1).trans rfl,(zC z00.out 2).trans rfl,(zC z00.out 3).trans rfl,(zC z00.out 4).trans rfl⟩ (fun hHeld => ?_);clear hK K;refine norm_ (a':=?_) ?_ ?_;rotate_left
       ·
        show Act.put _ (some 48) _ = _
        simp only [Act.put,sA,sB,sC,i64_w,i32_w];rfl
       refine pure_ (i:=10) (N:=some 49) (v:=?_) (a':=?_) #[true,true,true,true,true,true,true,true,true,true,true,false,false,false] rfl rfl (any_of HT_.out (by kernel_rfl)) (fun _ _ _ h => h) (Or.inl ⟨by rfl,?_⟩) ?_ ?_;rotate_left
       ·
        intro w';go_simp;with_reducible rfl
       rotate_left
       ·
        simp only [Act.put,sA,sB,sC,i64_w,i32_w];rfl
       refine pure_ (i:=11) (N:=some 50) (v:=?_) (a':=?_) #[true,true,true,true,true,true,true,true,true,true,true,true,false,false] rfl rfl (any_of HT_.out (by kernel_rfl)) (fun _ _ _ h => h) (Or.inl ⟨by rfl,?_⟩) ?_ ?_;rotate_left
       ·
        intro w';go_simp;with_reducible rfl
       rotate_left
       ·
        simp only [Act.put,sA,sB,sC,i64_w,i32_w];rfl
       refine pure_ (i:=12) (N:=some 4) (v:=?_) (a':=?_) #[true,true,true,true,true,true,true,true,true,true,true,true,true,false] rfl rfl (any_of HT_.out (by kernel_rfl)) (fun _ _ _ h => h) (Or.inl ⟨by rfl,?_⟩) ?_ ?_;rotate_left
       ·
        intro w';go_simp;with_reducible rfl
       rotate_left
       ·
        simp only [Act.put,sA,sB,sC,i64_w,i32_w];rfl
       refine pure_ (i:=13) (N:=some 5) (v:=?_) (a':=?_) #[true,true,true,true,true,true,true,true,true,true,true,true,true,true] rfl rfl (any_of HT_.out (by kernel_rfl)) (fun _ _ _ h => h) (Or.inl ⟨by rfl,?_⟩) ?_ ?_;rotate_left
       ·
        intro w';go_simp;with_reducible rfl
       rotate_left
       ·
        simp only [Act.put,sA,sB,sC,i64_w,i32_w];rfl
       refine done_ (done_of HT_.out (by kernel_rfl)) ?_;try go_wp2
       go_ret2
       exact ⟨by first|rfl|(simp [errW_none,errW_some] <;> rfl)|(simp [*,errW_none,errW_some] <;> rfl),by repeat first|(with_reducible first|exact HB.out|apply yA|apply yN|apply yD|refine yS ?_ z02.out)|exact HB.out⟩
      rw [if_neg c22] at H;exact absurd H (by simp)
     rw [if_neg c20] at H;exact absurd H (by simp)
  rw [if_neg c8] at H;have c8b0 : (z07 == 0) = false:=beq_eq_false_iff_ne.mpr c8;have c8b1 : (z07 != 0) = true:=bne_iff_ne.mpr c8;simp only [Option.some.injEq,Prod.mk.injEq] at H;obtain ⟨rfl,rfl⟩:=H;go_enter Try.func38,Try.ntmps38
  go_wp2_with (first|((with_reducible refine gate_dst (N:=2) rfl ?_);refine box_event ?hg (N:=2) ?hd (cs:=#[.bool a0_0,.int .u8 a0_1,.int .u32 a0_2,.int .u16 a0_3,.string a0_4]) (t:=62) ?hr ?_;(case hd => rfl);(case hg => rfl);(case hr => first|(go_simp;done)|(go_simp;rfl));intro z01 hg w27 hbox hb;have n0_:=zM (yT (by repeat first|(with_reducible first|exact HB.out|apply yA|apply yN|apply yD)|exact HB.out) hb);have n1_:=zM (hbox);have n2_:=zM ((by rw [hg];exact (yZ (by repeat first|(with_reducible first|exact HB.out|apply yA|apply yN|apply yD)|exact HB.out)) : w.heap.size ≤ z01));have n3_:=zM ((by rw [hg];exact (yZ (by repeat first|(with_reducible first|exact HB.out|apply yA|apply yN|apply yD)|exact HB.out)) : w.heap.size ≤ z01));clear HB;have HB:=n0_;have z00:=n1_;have z06:=n2_;have z02:=n3_;clear n0_ n1_ n2_ n3_;clear hb hbox hg;obtain ⟨z13,z14,z15,z16,z17,z18,z19,z1a,z1b,z1c⟩:=kc5 z00.out)|((with_reducible refine gate_callee (f:=47) rfl ?_);refine goesL_ (some 13) rfl rfl Try.func47 (by kernel_rfl) rfl #[.agg #[.bool a0_0,.int .u8 a0_1,.int .u32 a0_2,.int .u16 a0_3,.string a0_4]] rfl (by (try simp only [List.map_toArray,List.map_cons,List.map_nil]);first|done|rfl|(simp only [List.length_drop,List.length_take];rfl)) ?_;(with_reducible refine (ccm_Msg_wrong.calls k a0_0 a0_1 a0_2 a0_3 a0_4 z05 _ A5.out).mono ?_);rintro e w29 ⟨rfl,hb⟩;refine ⟨_,rfl,?_⟩;have n0_:=zM (zB (g:=z01) (o:=.cells #[.bool a0_0,.int .u8 a0_1,.int .u32 a0_2,.int .u16 a0_3,.string a0_4] 62 (0,0)) (by (with_reducible repeat first|apply zN|apply zD|apply zA);exact z00.out) hb);have n1_:=zM (yT (by repeat first|(with_reducible first|exact HB.out|apply yA|apply yN|apply yD|refine yS ?_ z02.out)|exact HB.out) hb);clear z00;clear HB;have z00:=n0_;have HB:=n1_;clear n0_ n1_;(try clear hb);(try clear hb2);(try clear hk);(try clear hi);obtain ⟨z1d,z1e,z1f,z1g,z1h,z1i,z1j,z1k,z1l,z1m⟩:=kc5 z00.out)|((with_reducible refine gate_dst (N:=26) rfl ?_);refine Kd.R_lit k100 _ 100 ?hg (N:=26) ?hd (xs:=([(⟨32,IntKind.u64.wrap (a0_2)⟩ : S100),(⟨16,IntKind.u64.wrap (a0_3)⟩ : S100)] : List (S100))) (inner:=[.int .i64 32,.int .u64 (IntKind.u64.wrap (a0_2)),.int .i64 16,.int .u64 (IntKind.u64.wrap (a0_3))]) (ok:=fun _ => True) (okp:=fun _ => True) ?hr ?hp (fun _ hk => hk) trivial (Below.refl _ _) (Nat.le_refl _) (by simp) ?_;(case hd => rfl);(case hg => rfl);(case hr => first|(go_simp;done)|(go_simp;rfl));(case hp => exact (Reps.c2 (show Kd.M k100 _ _ _ (⟨32,IntKind.u64.wrap (a0_2)⟩ : S100) [.int .i64 32,.int .u64 (IntKind.u64.wrap (a0_2))] from (k100_mkM _ _ _ (⟨32,IntKind.u64.wrap (a0_2)⟩ : S100) )) (Reps.c2 (show Kd.M k100 _ _ _ (⟨16,IntKind.u64.wrap (a0_3)⟩ : S100) [.int .i64 16,.int .u64 (IntKind.u64.wrap (a0_3))] from (k100_mkM _ _ _ (⟨16,IntKind.u64.wrap (a0_3)⟩ : S100) )) (Reps.none _ _))));intro v114 w31 ho32 hb hg_ hnew_;clear hg_ hnew_;(first|rw [← Ny113.out] at ho32|(simp only [Int.reduceToNat] at ho32;rw [← Ny113.out] at ho32));have n0_:=zM (Kd.R_lower ho32 (yZ (by repeat first|(with_reducible first|exact HB.out|apply yA|apply yN|apply yD|refine yS ?_ z02.out)|exact HB.out)));have n1_:=zM (zB (g:=z01) (o:=.cells #[.bool a0_0,.int .u8 a0_1,.int .u32 a0_2,.int .u16 a0_3,.string a0_4] 62 (0,0)) (by (with_reducible repeat first|apply zN|apply zD|apply zA);exact z00.out) hb);have n2_:=zM (yT (by repeat first|(with_reducible first|exact HB.out|apply yA|apply yN|apply yD|refine yS ?_ z02.out)|exact HB.out) hb);clear z00;clear HB;have z03:=n0_;have z00:=n1_;have HB:=n2_;clear n0_ n1_ n2_;clear hb ho32;obtain ⟨Ao33,co33,eo33⟩:=Kd.R_slice z03.out;subst eo33)|((with_reducible refine gate_callee (f:=55) rfl ?_);refine goesL_ (some 27) rfl rfl Try.func55 (by kernel_rfl) rfl #[.slice Ao33 y113.length co33] rfl (by (try simp only [List.map_toArray,List.map_cons,List.map_nil]);first|done|rfl|(simp only [List.length_drop,List.length_take];rfl)) ?_;(with_reducible refine (field_Pack.calls _ _ y113 z04 z07 _ ?side1 ?side2 A7.out).mono ?_);(case side1 => repeat (first|exact (Kd.R_reads' z03.out).2.2|(with_reducible refine Kd.C_alloc ?_ _)|(with_reducible refine Kd.C_drewN ?_ _)|(with_reducible refine Kd.C_drew ?_)));(case side2 => exact (Kd.R_reads' z03.out).2.1);rintro e w34 ⟨rfl,hb⟩;refine ⟨_,rfl,?_⟩;have n0_:=zM (Kd.R_below (by (with_reducible repeat (first|apply Kd.R_alloc|apply Kd.R_drewN|apply Kd.R_drew));exact z03.out) hb);have n1_:=zM (zB (g:=z01) (o:=.cells #[.bool a0_0,.int .u8 a0_1,.int .u32 a0_2,.int .u16 a0_3,.string a0_4] 62 (0,0)) (by (with_reducible repeat first|apply zN|apply zD|apply zA);exact z00.out) hb);have n2_:=zM (yT (by repeat first|(with_reducible first|exact HB.out|apply yA|apply yN|apply yD|refine yS ?_ z02.out)|exact HB.out) hb);clear z03;clear z00;clear HB;have z03:=n0_;have z00:=n1_;have HB:=n2_;clear n0_ n1_ n2_;(try clear hb);(try clear hb2);(try clear hk);(try clear hi)))
  go_ret2
  exact ⟨by first|rfl|(simp [errW_none,errW_some] <;> rfl)|(simp [*,errW_none,errW_some] <;> rfl),by repeat first|(with_reducible first|exact HB.out|apply yA|apply yN|apply yD|refine yS ?_ z02.out)|exact HB.out⟩
 rw [if_neg c6] at H;have c6b0 : (z05 == 0) = false:=beq_eq_false_iff_ne.mpr c6;have c6b1 : (z05 != 0) = true:=bne_iff_ne.mpr c6;simp only [Option.some.injEq,Prod.mk.injEq] at H;obtain ⟨rfl,rfl⟩:=H;go_enter Try.func38,Try.ntmps38
 go_wp2_with (first|((with_reducible refine gate_dst (N:=2) rfl ?_);refine box_event ?hg (N:=2) ?hd (cs:=#[.bool a0_0,.int .u8 a0_1,.int .u32 a0_2,.int .u16 a0_3,.string a0_4]) (t:=62) ?hr ?_;(case hd => rfl);(case hg => rfl);(case hr => first|(go_simp;done)|(go_simp;rfl));intro z01 hg w35 hbox hb;have n0_:=zM (yT (by repeat first|(with_reducible first|exact HB.out|apply yA|apply yN|apply yD)|exact HB.out) hb);have n1_:=zM (hbox);have n2_:=zM ((by rw [hg];exact (yZ (by repeat first|(with_reducible first|exact HB.out|apply yA|apply yN|apply yD)|exact HB.out)) : w.heap.size ≤ z01));have n3_:=zM ((by rw [hg];exact (yZ (by repeat first|(with_reducible first|exact HB.out|apply yA|apply yN|apply yD)|exact HB.out)) : w.heap.size ≤ z01));clear HB;have HB:=n0_;have z00:=n1_;have z06:=n2_;have z02:=n3_;clear n0_ n1_ n2_ n3_;clear hb hbox hg;obtain ⟨z1n,z1o,z1p,z1q,z1r,z1s,z1t,z1u,z1v,z1w⟩:=kc5 z00.out)|((with_reducible refine gate_callee (f:=47) rfl ?_);refine goesL_ (some 13) rfl rfl Try.func47 (by kernel_rfl) rfl #[.agg #[.bool a0_0,.int .u8 a0_1,.int .u32 a0_2,.int .u16 a0_3,.string a0_4]] rfl (by (try simp only [List.map_toArray,List.map_cons,List.map_nil]);first|done|rfl|(simp only [List.length_drop,List.length_take];rfl)) ?_;(with_reducible refine (ccm_Msg_wrong.calls k a0_0 a0_1 a0_2 a0_3 a0_4 z05 _ A5.out).mono ?_);rintro e w37 ⟨rfl,hb⟩;refine ⟨_,rfl,?_⟩;have n0_:=zM (zB (g:=z01) (o:=.cells #[.bool a0_0,.int .u8 a0_1,.int .u32 a0_2,.int .u16 a0_3,.string a0_4] 62 (0,0)) (by (with_reducible repeat first|apply zN|apply zD|apply zA);exact z00.out) hb);have n1_:=zM (yT (by repeat first|(with_reducible first|exact HB.out|apply yA|apply yN|apply yD|refine yS ?_ z02.out)|exact HB.out) hb);clear z00;clear HB;have z00:=n0_;have HB:=n1_;clear n0_ n1_;(try clear hb);(try clear hb2);(try clear hk);(try clear hi)))
 go_ret2
 exact ⟨by first|rfl|(simp [errW_none,errW_some] <;> rfl)|(simp [*,errW_none,errW_some] <;> rfl),by repeat first|(with_reducible first|exact HB.out|apply yA|apply yN|apply yD|refine yS ?_ z02.out)|exact HB.out⟩

/-! ### watch_Watch_message: function 39 -/
def watch_Watch_message.f (a0_0 : Int) (a0_1 : Int) (a0_2 : Int) (a0_3 : ByteArray) (a0_4 : Int) (a0_5 : Int) (a0_6 : Int) (a0_7 : Int) (a0_8 : Bool) (a0_9 : Bool) : Option (Bool × Int × Int × Int × ByteArray) := some (a0_8, a0_2, (a0_7) % 4294967296, a0_1, a0_3)
set_option maxHeartbeats 8000000 in
set_option maxRecDepth 100000 in
theorem watch_Watch_message.calls (a0_0 : Int) (a0_1 : Int) (a0_2 : Int) (a0_3 : ByteArray) (a0_4 : Int) (a0_5 : Int) (a0_6 : Int) (a0_7 : Int) (a0_8 : Bool) (a0_9 : Bool) (r1 : Bool) (r2 : Int) (r3 : Int) (r4 : Int) (r5 : ByteArray) (w : World) (h : watch_Watch_message.f a0_0 a0_1 a0_2 a0_3 a0_4 a0_5 a0_6 a0_7 a0_8 a0_9 = some (r1, r2, r3, r4, r5)) :
  Calls Try.prog 39 #[.agg #[.int .u8 a0_0, .int .u16 a0_1, .int .u8 a0_2, .string a0_3, .int .i64 a0_4, .int .i64 a0_5, .int .i64 a0_6, .int .u64 a0_7, .bool a0_8, .bool a0_9]] w fun e w' => e = .returned (.agg #[.bool r1, .int .u8 r2, .int .u32 r3, .int .u16 r4, .string r5]) ∧ Below w.heap.size w w' := by
 have hu42:=Try.underlying42;have hu62:=Try.underlying62;have HB:=zM (Below.refl w.heap.size w);have H : (some (a0_8,a0_2,(a0_7) % 4294967296,a0_1,a0_3)) = some (r1,r2,r3,r4,r5):=h;clear h;simp only [Option.some.injEq,Prod.mk.injEq] at H;obtain ⟨rfl,rfl,rfl,rfl,rfl⟩:=H;go_enter Try.func39,Try.ntmps39
 go_wp2_with (first|((with_reducible refine gate_dst (N:=1) rfl ?_);refine box_event ?hg (N:=1) ?hd (cs:=#[.int .u8 a0_0,.int .u16 a0_1,.int .u8 a0_2,.string a0_3,.int .i64 a0_4,.int .i64 a0_5,.int .i64 a0_6,.int .u64 a0_7,.bool a0_8,.bool a0_9]) (t:=42) ?hr ?_;(case hd => rfl);(case hg => rfl);(case hr => first|(go_simp;done)|(go_simp;rfl));intro z00 hg w2 hbox hb;have n0_:=zM (yT (by repeat first|(with_reducible first|exact HB.out|apply yA|apply yN|apply yD)|exact HB.out) hb);have n1_:=zM (hbox);have n2_:=zM ((by rw [hg];exact (yZ (by repeat first|(with_reducible first|exact HB.out|apply yA|apply yN|apply yD)|exact HB.out)) : w.heap.size ≤ z00));have n3_:=zM ((by rw [hg];exact (yZ (by repeat first|(with_reducible first|exact HB.out|apply yA|apply yN|apply yD)|exact HB.out)) : w.heap.size ≤ z00));clear HB;have HB:=n0_;have z01:=n1_;have z12:=n2_;have z05:=n3_;clear n0_ n1_ n2_ n3_;clear hb hbox hg)|((with_reducible refine gate_dst (N:=2) rfl ?_);refine box_event ?hg (N:=2) ?hd (cs:=#[.bool false,.int .u8 0,.int .u32 0,.int .u16 0,.string (⟨#[]⟩ : ByteArray)]) (t:=62) ?hr ?_;(case hd => rfl);(case hg => rfl);(case hr => first|(go_simp;done)|(go_simp;rfl));intro z02 hg w3 hbox hb;have n0_:=zM (zB (g:=z00) (o:=.cells #[.int .u8 a0_0,.int .u16 a0_1,.int .u8 a0_2,.string a0_3,.int .i64 a0_4,.int .i64 a0_5,.int .i64 a0_6,.int .u64 a0_7,.bool a0_8,.bool a0_9] 42 (0,0)) (by (with_reducible repeat first|apply zN|apply zD|apply zA);exact z01.out) hb);have n1_:=zM (yT (by repeat first|(with_reducible first|exact HB.out|apply yA|apply yN|apply yD|refine yS ?_ z05.out)|exact HB.out) hb);have n2_:=zM (hbox);have n3_:=zM ((by rw [hg];exact (yZ (by repeat first|(with_reducible first|exact HB.out|apply yA|apply yN|apply yD|refine yS ?_ z05.out)|exact HB.out)) : w.heap.size ≤ z02));have n4_:=zM ((by rw [hg];exact (yZ (by repeat first|(with_reducible first|exact HB.out|apply yA|apply yN|apply yD|refine yS ?_ z05.out)|exact HB.out)) : w.heap.size ≤ z02));have n5_:=zM ((by rw [hg];exact Nat.ne_of_lt (blk_lt (g:=z00) (o:=.cells #[.int .u8 a0_0,.int .u16 a0_1,.int .u8 a0_2,.string a0_3,.int .i64 a0_4,.int .i64 a0_5,.int .i64 a0_6,.int .u64 a0_7,.bool a0_8,.bool a0_9] 42 (0,0)) (by (with_reducible repeat first|apply zN|apply zD|apply zA);exact z01.out)) : z00 ≠ z02));have n6_:=zM ((by rw [hg];exact Nat.ne_of_gt (blk_lt (g:=z00) (o:=.cells #[.int .u8 a0_0,.int .u16 a0_1,.int .u8 a0_2,.string a0_3,.int .i64 a0_4,.int .i64 a0_5,.int .i64 a0_6,.int .u64 a0_7,.bool a0_8,.bool a0_9] 42 (0,0)) (by (with_reducible repeat first|apply zN|apply zD|apply zA);exact z01.out)) : z02 ≠ z00));clear z01;clear HB;have z01:=n0_;have HB:=n1_;have z06:=n2_;have z13:=n3_;have z07:=n4_;have z03:=n5_;have z04:=n6_;clear n0_ n1_ n2_ n3_ n4_ n5_ n6_;clear hb hbox hg;have z14:=z03.out;have z15:=z04.out;obtain ⟨z08,z09,z0a,z0b,z0c,z0d,z0e,z0f,z0g,z0h,z0i,z0j,z0k,z0l,z0m,z0n,z0o,z0p,z0q,z0r⟩:=kc10 z01.out;obtain ⟨z0s,z0t,z0u,z0v,z0w,z0x,z0y,z0z,z10,z11⟩:=kc5 z06.out))
 refine zE (results_cell_row rfl _ _ z02 62 #[.bool a0_8,.int .u8 a0_2,.int .u32 ((a0_7) % 4294967296),.int .u16 a0_1,.string a0_3] (0,0) _ rfl (by (with_reducible repeat first|apply zN|apply zD|apply zA);refine zP (cs:=#[.bool a0_8,.int .u8 a0_2,.int .u32 ((a0_7) % 4294967296),.int .u16 a0_1,.string (⟨#[]⟩ : ByteArray)]) ?_ 4 _ rfl;(with_reducible repeat first|apply zN|apply zD|apply zA);refine zP (cs:=#[.bool a0_8,.int .u8 a0_2,.int .u32 ((a0_7) % 4294967296),.int .u16 0,.string (⟨#[]⟩ : ByteArray)]) ?_ 3 _ rfl;(with_reducible repeat first|apply zN|apply zD|apply zA);refine zP (cs:=#[.bool a0_8,.int .u8 a0_2,.int .u32 0,.int .u16 0,.string (⟨#[]⟩ : ByteArray)]) ?_ 2 _ rfl;(with_reducible repeat first|apply zN|apply zD|apply zA);refine zP (cs:=#[.bool a0_8,.int .u8 0,.int .u32 0,.int .u16 0,.string (⟨#[]⟩ : ByteArray)]) ?_ 1 _ rfl;(with_reducible repeat first|apply zN|apply zD|apply zA);refine zP (cs:=#[.bool false,.int .u8 0,.int .u32 0,.int .u16 0,.string (⟨#[]⟩ : ByteArray)]) ?_ 0 _ rfl;(with_reducible repeat first|apply zN|apply zD|apply zA);exact z06.out) Try.underlying62 rfl (by kernel_rfl)) rfl ?_;exact ⟨by first|rfl|(simp [errW_none,errW_some] <;> rfl)|(simp [*,errW_none,errW_some] <;> rfl),by repeat (first|(with_reducible first|exact HB.out|apply yA|apply yN|apply yD|refine yS ?_ z05.out|refine yS ?_ z07.out)|exact HB.out)⟩

end Go.Proofs.Ytapicoienpbdfaa.PWatchPlays
