-- Written by a program of this work, after the translation.
import Derived.Test.YtapicoienpbdfaaPWatchPlaysx0
import Derived.Test.YtapicoienpbdfaaPWatchPlaysx7
namespace Go.Proofs.Ytapicoienpbdfaa.PWatchPlays
open Go.RowKit Go.Proofs.YtapicoienpbdfaaW.PrintWords Go.Proofs.YtapicoienpbdfaaW.PrintLast Go.Proofs.YtapicoienpbdfaaW.PrintMore
attribute [local go_sem] max2_int min2_int max_two min_two max_three min_three max_four min_four   -- for this text's walks alone
set_option linter.unusedVariables false
set_option linter.unusedSimpArgs false

/-! ### oam_Open: function 43 (given: its walk is in another text) -/

theorem oam_Open.bodyPost_W {P : Program} {f : Func} {Q : Ending → World → Prop} {ex : Exit} {a : Act} {W : World} (h : ∀ W', W' = W → bodyPost P f Q ex a W') : bodyPost P f Q ex a W := h W rfl
def oam_Open.f (k : Nat) (a0 : ByteArray) : Option (Int × Int × Int × Int × Int × ByteArray × Int) := (field_Split.f k a0 (([3, 5, 8, 8, 8] : List Int))).bind fun b =>
  if b.2.2 = 0 then (if b.1.length = 5 then (if (b.2.1.size : Int) < (rd b.1 4) % 256 + 1 then (some (0, 0, 0, 0, 0, (⟨#[]⟩ : ByteArray), 1)) else
    (if (bt b.2.1 ((rd b.1 4) % 256)) = 0 then (some ((rd b.1 0) % 256, (rd b.1 1) % 256, (rd b.1 2) % 256, (rd b.1 3) % 256, (rd b.1 4) % 256, b.2.1.extract 0 (((rd b.1 4) % 256) : Int).toNat, 0)) else (some (0, 0, 0, 0, 0, (⟨#[]⟩ : ByteArray), 3)))) else none) else (some (0, 0, 0, 0, 0, (⟨#[]⟩ : ByteArray), b.2.2))
theorem oam_Open.mono : ∀ a0 k, LeO (oam_Open.f k a0) (oam_Open.f (k + 1) a0) := by
 intro a0 k;unfold oam_Open.f
 repeat' first
  | (with_reducible exact field_Split.mono _ _ _)
  | (with_reducible exact LeO.refl _)
  | (with_reducible exact LeO.none _)
  | (with_reducible refine LeO.ite ?_ ?_)
  | (with_reducible refine LeO.bind ?_ (fun _ => ?_))
theorem oam_Open.lit5 (w : World) (o : Obj) : Kd.C (Kd.int .i64) ((w.alloc o).alloc (.cells #[.int .i64 3, .int .i64 5, .int .i64 8, .int .i64 8, .int .i64 8] 3)) (some ⟨w.heap.size + 1, 0, none⟩) 5 [3, 5, 8, 8, 8] := by
 have hb : ((w.alloc o).alloc (.cells #[.int .i64 3,.int .i64 5,.int .i64 8,.int .i64 8,.int .i64 8] 3)).heap[w.heap.size + 1]? = some (.cells #[.int .i64 3,.int .i64 5,.int .i64 8,.int .i64 8,.int .i64 8] 3 (0,0)):=by
  have:=heap_alloc_new (w.alloc o) (.cells #[.int .i64 3,.int .i64 5,.int .i64 8,.int .i64 8,.int .i64 8] 3);rwa [World.size_alloc] at this
 refine ⟨rfl,by decide,fun _ => ⟨_,rfl,fun j p hj => ⟨[.int .i64 p],rfl,rfl,fun i u hu => ?_⟩⟩⟩;have hj5 : j < 5:=(List.getElem?_eq_some_iff.1 hj).1
 have hi : i = 0:=by
  have:=(List.getElem?_eq_some_iff.1 hu).1;simpa using this
 subst hi
 have e : (⟨w.heap.size + 1,0,none⟩ : Addr).add (j * (Kd.int .i64).sz + 0) = ⟨w.heap.size + 1,j,none⟩:=by
  show (⟨w.heap.size + 1,0,none⟩ : Addr).add (j * 1 + 0) = _
  simp [Addr.add]
  omega
 rw [e,zC hb j];simp only [List.getElem?_cons_zero,Option.some.injEq] at hu;subst hu;have hc : j = 0 ∨ j = 1 ∨ j = 2 ∨ j = 3 ∨ j = 4:=by omega
 rcases hc with rfl|rfl|rfl|rfl|rfl <;> simp_all
set_option maxHeartbeats 8000000 in
set_option maxRecDepth 100000 in
theorem oam_Open.cA (k : Nat) (a0 : ByteArray) (r1 : Int) (r2 : Int) (r3 : Int) (r4 : Int) (r5 : Int) (r6 : ByteArray) (r7 : Int) (w : World) (h : oam_Open.f k a0 = some (r1, r2, r3, r4, r5, r6, r7)) (l : List Int) (rest : ByteArray) (hsp : field_Split.f k a0 [3, 5, 8, 8, 8] = some (l, rest, 0)) (c1 : (rest.size : Int) < rd l 4 % 256 + 1) :
  Calls Try.prog 43 #[.string a0] w fun e w' => e = .returned (.tuple #[.agg #[.int .u8 r1, .int .u8 r2, .int .u8 r3, .int .u8 r4, .int .u8 r5], .string r6, .int .i64 r7]) ∧ Below w.heap.size w w' := by
 unfold oam_Open.f at h;rw [hsp] at h;dsimp only [Option.bind_some] at h;have huH:=Try.underlying84;have H:=Lib.hid h;have HS:=Lib.hid hsp;clear h hsp
 have h5 : (5 : Int) ≤ l.length:=by
  have hh:=H.out;rw [if_pos rfl] at hh;by_cases h5 : l.length = 5
  ·
   omega
  rw [if_neg h5] at hh;cases hh
 have hn0 : 0 ≤ rd l 4 % 256:=by omega
 have hn1 : rd l 4 % 256 ≤ 255:=by omega
 have c1b : decide ((rest.size : Int) < rd l 4 % 256 + 1) = true:=dT c1;go_enter Try.func43,Try.ntmps43
 go_wp2_with (go_at_call 45;refine (field_Split.calls k a0 (some ⟨w.heap.size + 1,0,none⟩) 5 [3,5,8,8,8] l rest 0 _ (oam_Open.lit5 w _) (by decide) HS.out).mono ?_;rintro e' w1 ⟨v0,rfl,hR,hb⟩;have hB:=zB (zA (blk_new w (.cells #[.int .u8 0,.int .u8 0,.int .u8 0,.int .u8 0,.int .u8 0] 84)) _) hb;have HBW:=((((Below.refl w.heap.size w).alloc (Nat.le_refl _) _).alloc (by simp) _).trans (hb.mono (by simp;omega)));have hz0:=(zC hB 0).trans rfl;have hz1:=(zC hB 1).trans rfl;have hz2:=(zC hB 2).trans rfl;have hz3:=(zC hB 3).trans rfl;have hz4:=(zC hB 4).trans rfl;have hf0:=zF hB 0;have hf1:=zF hB 1;have hf2:=zF hB 2;have hf3:=zF hB 3;have hf4:=zF hB 4;obtain ⟨Al,cl,rfl⟩:=Kd.R_slice hR;obtain ⟨ad,eA,hx0⟩:=Kd.at_int (Kd.R_reads' hR).2.2 0 (by omega) (by omega);cases eA;obtain ⟨ad1,eA,hx1⟩:=Kd.at_int (Kd.R_reads' hR).2.2 1 (by omega) (by omega);cases eA;obtain ⟨ad1,eA,hx2⟩:=Kd.at_int (Kd.R_reads' hR).2.2 2 (by omega) (by omega);cases eA;obtain ⟨ad1,eA,hx3⟩:=Kd.at_int (Kd.R_reads' hR).2.2 3 (by omega) (by omega);cases eA;obtain ⟨ad1,eA,hx4⟩:=Kd.at_int (Kd.R_reads' hR).2.2 4 (by omega) (by omega);cases eA)
 obtain ⟨bl,ol,pl⟩:=ad;simp only [show ((0 : Int)).toNat = 0 from rfl,show ((1 : Int)).toNat = 1 from rfl,show ((2 : Int)).toNat = 2 from rfl,show ((3 : Int)).toNat = 3 from rfl,show ((4 : Int)).toNat = 4 from rfl] at hx0 hx1 hx2 hx3 hx4;rw [Addr.add_zero'] at hx0;simp only [Go.Addr.add,Nat.reduceEqDiff,↓reduceIte] at hx1 hx2 hx3 hx4;have hy0:=(World.cell?_alloc_lt w1 (.cells #[.int .u8 0,.int .u8 0,.int .u8 0,.int .u8 0,.int .u8 0] 84) _ (World.block_lt_of_cell? w1 _ hx0)).trans hx0;have hy1:=(World.cell?_alloc_lt w1 (.cells #[.int .u8 0,.int .u8 0,.int .u8 0,.int .u8 0,.int .u8 0] 84) _ (World.block_lt_of_cell? w1 _ hx1)).trans hx1;have hy2:=(World.cell?_alloc_lt w1 (.cells #[.int .u8 0,.int .u8 0,.int .u8 0,.int .u8 0,.int .u8 0] 84) _ (World.block_lt_of_cell? w1 _ hx2)).trans hx2;have hy3:=(World.cell?_alloc_lt w1 (.cells #[.int .u8 0,.int .u8 0,.int .u8 0,.int .u8 0,.int .u8 0] 84) _ (World.block_lt_of_cell? w1 _ hx3)).trans hx3;have hy4:=(World.cell?_alloc_lt w1 (.cells #[.int .u8 0,.int .u8 0,.int .u8 0,.int .u8 0,.int .u8 0] 84) _ (World.block_lt_of_cell? w1 _ hx4)).trans hx4;have q0 : (0 : Int) < (l.length : Int):=by omega
 have q1 : (1 : Int) < (l.length : Int):=by omega
 have q2 : (2 : Int) < (l.length : Int):=by omega
 have q3 : (3 : Int) < (l.length : Int):=by omega
 have q4 : (4 : Int) < (l.length : Int):=by omega
 have hltB:=blk_lt hB;go_region
 all_goals (try go_wp2)
 have hR2:=H.out;rw [if_pos trivial] at hR2
 have h55 : l.length = 5:=by
  by_cases h55 : l.length = 5
  ·
   exact h55
  rw [if_neg h55] at hR2;cases hR2
 rw [if_pos h55,if_pos c1] at hR2;simp only [Option.some.injEq,Prod.mk.injEq] at hR2;obtain ⟨rfl,rfl,rfl,rfl,rfl,rfl,rfl⟩:=hR2;refine oam_Open.bodyPost_W (fun W' hW' => ?_)
 have hBel : Below w.heap.size w W':=by
  rw [hW'];repeat (first|(with_reducible exact HBW)|(with_reducible refine Below.drew ?_)|(with_reducible refine Below.alloc ?_ (by have:=HBW.size;simp;omega) _)|(with_reducible refine Below.setCell ?_ (by simp) _))
 have hF : W'.heap[w.heap.size]? = some (.cells #[.int .u8 0,.int .u8 0,.int .u8 0,.int .u8 0,.int .u8 0] 84 (0,0)):=by
  rw [hW'];(with_reducible repeat (first|refine zD ?_|refine zA ?_ _));refine zP (cs:=#[.int .u8 0,.int .u8 0,.int .u8 0,.int .u8 0,.int .u8 0]) ?_ 4 _ rfl;(with_reducible repeat (first|refine zD ?_|refine zA ?_ _));refine zP (cs:=#[.int .u8 0,.int .u8 0,.int .u8 0,.int .u8 0,.int .u8 0]) ?_ 3 _ rfl;(with_reducible repeat (first|refine zD ?_|refine zA ?_ _));refine zP (cs:=#[.int .u8 0,.int .u8 0,.int .u8 0,.int .u8 0,.int .u8 0]) ?_ 2 _ rfl;(with_reducible repeat (first|refine zD ?_|refine zA ?_ _));refine zP (cs:=#[.int .u8 0,.int .u8 0,.int .u8 0,.int .u8 0,.int .u8 0]) ?_ 1 _ rfl;(with_reducible repeat (first|refine zD ?_|refine zA ?_ _));refine zP (cs:=#[.int .u8 0,.int .u8 0,.int .u8 0,.int .u8 0,.int .u8 0]) ?_ 0 _ rfl;(with_reducible repeat (first|refine zD ?_|refine zA ?_ _));exact hB
 clear hW';have z0 : W'.cell? ⟨w.heap.size,0,none⟩ = some (.int .u8 0):=(zC hF 0).trans rfl;have z1 : W'.cell? ⟨w.heap.size,1,none⟩ = some (.int .u8 0):=(zC hF 1).trans rfl;have z2 : W'.cell? ⟨w.heap.size,2,none⟩ = some (.int .u8 0):=(zC hF 2).trans rfl;have z3 : W'.cell? ⟨w.heap.size,3,none⟩ = some (.int .u8 0):=(zC hF 3).trans rfl;have z4 : W'.cell? ⟨w.heap.size,4,none⟩ = some (.int .u8 0):=(zC hF 4).trans rfl;exact zE (v:=.tuple #[.agg #[.int .u8 0,.int .u8 0,.int .u8 0,.int .u8 0,.int .u8 0],.string ⟨#[]⟩,.int .i64 1]) (by simp [results,Try.results43,go_sem,z0,z1,z2,z3,z4]) rfl ⟨rfl,hBel⟩
set_option maxHeartbeats 8000000 in
set_option maxRecDepth 100000 in
theorem oam_Open.cB (k : Nat) (a0 : ByteArray) (r1 : Int) (r2 : Int) (r3 : Int) (r4 : Int) (r5 : Int) (r6 : ByteArray) (r7 : Int) (w : World) (h : oam_Open.f k a0 = some (r1, r2, r3, r4, r5, r6, r7)) (l : List Int) (rest : ByteArray) (hsp : field_Split.f k a0 [3, 5, 8, 8, 8] = some (l, rest, 0)) (c1 : ¬ (rest.size : Int) < rd l 4 % 256 + 1) (c2 : ¬ bt rest (rd l 4 % 256) = 0) :
  Calls Try.prog 43 #[.string a0] w fun e w' => e = .returned (.tuple #[.agg #[.int .u8 r1, .int .u8 r2, .int .u8 r3, .int .u8 r4, .int .u8 r5], .string r6, .int .i64 r7]) ∧ Below w.heap.size w w' := by
 unfold oam_Open.f at h;rw [hsp] at h;dsimp only [Option.bind_some] at h;have huH:=Try.underlying84;have H:=Lib.hid h;have HS:=Lib.hid hsp;clear h hsp
 have h5 : (5 : Int) ≤ l.length:=by
  have hh:=H.out;rw [if_pos rfl] at hh;by_cases h5 : l.length = 5
  ·
   omega
  rw [if_neg h5] at hh;cases hh
 have hn0 : 0 ≤ rd l 4 % 256:=by omega
 have hn1 : rd l 4 % 256 ≤ 255:=by omega
 have c1b : decide ((rest.size : Int) < rd l 4 % 256 + 1) = false:=dF c1;have hbt:=bt_at rest (rd l 4 % 256);have hq : rd l 4 % 256 < (rest.size : Int):=by omega
 have c2b : (bt rest (rd l 4 % 256) == 0) = false:=by rw [beq_eq_false_iff_ne];exact c2
 have c2c : (bt rest (rd l 4 % 256) != 0) = true:=by rw [bne_iff_ne];exact c2
 go_enter Try.func43,Try.ntmps43
 go_wp2_with (go_at_call 45;refine (field_Split.calls k a0 (some ⟨w.heap.size + 1,0,none⟩) 5 [3,5,8,8,8] l rest 0 _ (oam_Open.lit5 w _) (by decide) HS.out).mono ?_;rintro e' w1 ⟨v0,rfl,hR,hb⟩;have hB:=zB (zA (blk_new w (.cells #[.int .u8 0,.int .u8 0,.int .u8 0,.int .u8 0,.int .u8 0] 84)) _) hb;have HBW:=((((Below.refl w.heap.size w).alloc (Nat.le_refl _) _).alloc (by simp) _).trans (hb.mono (by simp;omega)));have hz0:=(zC hB 0).trans rfl;have hz1:=(zC hB 1).trans rfl;have hz2:=(zC hB 2).trans rfl;have hz3:=(zC hB 3).trans rfl;have hz4:=(zC hB 4).trans rfl;have hf0:=zF hB 0;have hf1:=zF hB 1;have hf2:=zF hB 2;have hf3:=zF hB 3;have hf4:=zF hB 4;obtain ⟨Al,cl,rfl⟩:=Kd.R_slice hR;obtain ⟨ad,eA,hx0⟩:=Kd.at_int (Kd.R_reads' hR).2.2 0 (by omega) (by omega);cases eA;obtain ⟨ad1,eA,hx1⟩:=Kd.at_int (Kd.R_reads' hR).2.2 1 (by omega) (by omega);cases eA;obtain ⟨ad1,eA,hx2⟩:=Kd.at_int (Kd.R_reads' hR).2.2 2 (by omega) (by omega);cases eA;obtain ⟨ad1,eA,hx3⟩:=Kd.at_int (Kd.R_reads' hR).2.2 3 (by omega) (by omega);cases eA;obtain ⟨ad1,eA,hx4⟩:=Kd.at_int (Kd.R_reads' hR).2.2 4 (by omega) (by omega);cases eA)
 obtain ⟨bl,ol,pl⟩:=ad;simp only [show ((0 : Int)).toNat = 0 from rfl,show ((1 : Int)).toNat = 1 from rfl,show ((2 : Int)).toNat = 2 from rfl,show ((3 : Int)).toNat = 3 from rfl,show ((4 : Int)).toNat = 4 from rfl] at hx0 hx1 hx2 hx3 hx4;rw [Addr.add_zero'] at hx0;simp only [Go.Addr.add,Nat.reduceEqDiff,↓reduceIte] at hx1 hx2 hx3 hx4;have hy0:=(World.cell?_alloc_lt w1 (.cells #[.int .u8 0,.int .u8 0,.int .u8 0,.int .u8 0,.int .u8 0] 84) _ (World.block_lt_of_cell? w1 _ hx0)).trans hx0;have hy1:=(World.cell?_alloc_lt w1 (.cells #[.int .u8 0,.int .u8 0,.int .u8 0,.int .u8 0,.int .u8 0] 84) _ (World.block_lt_of_cell? w1 _ hx1)).trans hx1;have hy2:=(World.cell?_alloc_lt w1 (.cells #[.int .u8 0,.int .u8 0,.int .u8 0,.int .u8 0,.int .u8 0] 84) _ (World.block_lt_of_cell? w1 _ hx2)).trans hx2;have hy3:=(World.cell?_alloc_lt w1 (.cells #[.int .u8 0,.int .u8 0,.int .u8 0,.int .u8 0,.int .u8 0] 84) _ (World.block_lt_of_cell? w1 _ hx3)).trans hx3;have hy4:=(World.cell?_alloc_lt w1 (.cells #[.int .u8 0,.int .u8 0,.int .u8 0,.int .u8 0,.int .u8 0] 84) _ (World.block_lt_of_cell? w1 _ hx4)).trans hx4;have q0 : (0 : Int) < (l.length : Int):=by omega
 have q1 : (1 : Int) < (l.length : Int):=by omega
 have q2 : (2 : Int) < (l.length : Int):=by omega
 have q3 : (3 : Int) < (l.length : Int):=by omega
 have q4 : (4 : Int) < (l.length : Int):=by omega
 have hltB:=blk_lt hB;go_region
 all_goals (try go_wp2)
 have hR2:=H.out;rw [if_pos trivial] at hR2
 have h55 : l.length = 5:=by
  by_cases h55 : l.length = 5
  ·
   exact h55
  rw [if_neg h55] at hR2;cases hR2
 rw [if_pos h55,if_neg (by omega)] at hR2;rw [if_neg c2] at hR2;simp only [Option.some.injEq,Prod.mk.injEq] at hR2;obtain ⟨rfl,rfl,rfl,rfl,rfl,rfl,rfl⟩:=hR2;refine oam_Open.bodyPost_W (fun W' hW' => ?_)
 have hBel : Below w.heap.size w W':=by
  rw [hW'];repeat (first|(with_reducible exact HBW)|(with_reducible refine Below.drew ?_)|(with_reducible refine Below.alloc ?_ (by have:=HBW.size;simp;omega) _)|(with_reducible refine Below.setCell ?_ (by simp) _))
 have hF : W'.heap[w.heap.size]? = some (.cells #[.int .u8 0,.int .u8 0,.int .u8 0,.int .u8 0,.int .u8 0] 84 (0,0)):=by
  rw [hW'];(with_reducible repeat (first|refine zD ?_|refine zA ?_ _));refine zP (cs:=#[.int .u8 0,.int .u8 0,.int .u8 0,.int .u8 0,.int .u8 0]) ?_ 4 _ rfl;(with_reducible repeat (first|refine zD ?_|refine zA ?_ _));refine zP (cs:=#[.int .u8 0,.int .u8 0,.int .u8 0,.int .u8 0,.int .u8 0]) ?_ 3 _ rfl;(with_reducible repeat (first|refine zD ?_|refine zA ?_ _));refine zP (cs:=#[.int .u8 0,.int .u8 0,.int .u8 0,.int .u8 0,.int .u8 0]) ?_ 2 _ rfl;(with_reducible repeat (first|refine zD ?_|refine zA ?_ _));refine zP (cs:=#[.int .u8 0,.int .u8 0,.int .u8 0,.int .u8 0,.int .u8 0]) ?_ 1 _ rfl;(with_reducible repeat (first|refine zD ?_|refine zA ?_ _));refine zP (cs:=#[.int .u8 0,.int .u8 0,.int .u8 0,.int .u8 0,.int .u8 0]) ?_ 0 _ rfl;(with_reducible repeat (first|refine zD ?_|refine zA ?_ _));exact hB
 clear hW';have z0 : W'.cell? ⟨w.heap.size,0,none⟩ = some (.int .u8 0):=(zC hF 0).trans rfl;have z1 : W'.cell? ⟨w.heap.size,1,none⟩ = some (.int .u8 0):=(zC hF 1).trans rfl;have z2 : W'.cell? ⟨w.heap.size,2,none⟩ = some (.int .u8 0):=(zC hF 2).trans rfl;have z3 : W'.cell? ⟨w.heap.size,3,none⟩ = some (.int .u8 0):=(zC hF 3).trans rfl;have z4 : W'.cell? ⟨w.heap.size,4,none⟩ = some (.int .u8 0):=(zC hF 4).trans rfl;exact zE (v:=.tuple #[.agg #[.int .u8 0,.int .u8 0,.int .u8 0,.int .u8 0,.int .u8 0],.string ⟨#[]⟩,.int .i64 3]) (by simp [results,Try.results43,go_sem,z0,z1,z2,z3,z4]) rfl ⟨rfl,hBel⟩
set_option maxHeartbeats 8000000 in
set_option maxRecDepth 100000 in
theorem oam_Open.cC (k : Nat) (a0 : ByteArray) (r1 : Int) (r2 : Int) (r3 : Int) (r4 : Int) (r5 : Int) (r6 : ByteArray) (r7 : Int) (w : World) (h : oam_Open.f k a0 = some (r1, r2, r3, r4, r5, r6, r7)) (l : List Int) (rest : ByteArray) (hsp : field_Split.f k a0 [3, 5, 8, 8, 8] = some (l, rest, 0)) (c1 : ¬ (rest.size : Int) < rd l 4 % 256 + 1) (c2 : bt rest (rd l 4 % 256) = 0) :
  Calls Try.prog 43 #[.string a0] w fun e w' => e = .returned (.tuple #[.agg #[.int .u8 r1, .int .u8 r2, .int .u8 r3, .int .u8 r4, .int .u8 r5], .string r6, .int .i64 r7]) ∧ Below w.heap.size w w' := by
 unfold oam_Open.f at h;rw [hsp] at h;dsimp only [Option.bind_some] at h;have huH:=Try.underlying84;have H:=Lib.hid h;have HS:=Lib.hid hsp;clear h hsp
 have h5 : (5 : Int) ≤ l.length:=by
  have hh:=H.out;rw [if_pos rfl] at hh;by_cases h5 : l.length = 5
  ·
   omega
  rw [if_neg h5] at hh;cases hh
 have hn0 : 0 ≤ rd l 4 % 256:=by omega
 have hn1 : rd l 4 % 256 ≤ 255:=by omega
 have c1b : decide ((rest.size : Int) < rd l 4 % 256 + 1) = false:=dF c1;have hbt:=bt_at rest (rd l 4 % 256);have hq : rd l 4 % 256 < (rest.size : Int):=by omega
 have c2b : (bt rest (rd l 4 % 256) == 0) = true:=by rw [beq_iff_eq];exact c2
 have c2c : (bt rest (rd l 4 % 256) != 0) = false:=by rw [bne_eq_false_iff_eq];exact c2
 go_enter Try.func43,Try.ntmps43
 go_wp2_with (go_at_call 45;refine (field_Split.calls k a0 (some ⟨w.heap.size + 1,0,none⟩) 5 [3,5,8,8,8] l rest 0 _ (oam_Open.lit5 w _) (by decide) HS.out).mono ?_;rintro e' w1 ⟨v0,rfl,hR,hb⟩;have hB:=zB (zA (blk_new w (.cells #[.int .u8 0,.int .u8 0,.int .u8 0,.int .u8 0,.int .u8 0] 84)) _) hb;have HBW:=((((Below.refl w.heap.size w).alloc (Nat.le_refl _) _).alloc (by simp) _).trans (hb.mono (by simp;omega)));have hz0:=(zC hB 0).trans rfl;have hz1:=(zC hB 1).trans rfl;have hz2:=(zC hB 2).trans rfl;have hz3:=(zC hB 3).trans rfl;have hz4:=(zC hB 4).trans rfl;have hf0:=zF hB 0;have hf1:=zF hB 1;have hf2:=zF hB 2;have hf3:=zF hB 3;have hf4:=zF hB 4;obtain ⟨Al,cl,rfl⟩:=Kd.R_slice hR;obtain ⟨ad,eA,hx0⟩:=Kd.at_int (Kd.R_reads' hR).2.2 0 (by omega) (by omega);cases eA;obtain ⟨ad1,eA,hx1⟩:=Kd.at_int (Kd.R_reads' hR).2.2 1 (by omega) (by omega);cases eA;obtain ⟨ad1,eA,hx2⟩:=Kd.at_int (Kd.R_reads' hR).2.2 2 (by omega) (by omega);cases eA;obtain ⟨ad1,eA,hx3⟩:=Kd.at_int (Kd.R_reads' hR).2.2 3 (by omega) (by omega);cases eA;obtain ⟨ad1,eA,hx4⟩:=Kd.at_int (Kd.R_reads' hR).2.2 4 (by omega) (by omega);cases eA)
 obtain ⟨bl,ol,pl⟩:=ad;simp only [show ((0 : Int)).toNat = 0 from rfl,show ((1 : Int)).toNat = 1 from rfl,show ((2 : Int)).toNat = 2 from rfl,show ((3 : Int)).toNat = 3 from rfl,show ((4 : Int)).toNat = 4 from rfl] at hx0 hx1 hx2 hx3 hx4;rw [Addr.add_zero'] at hx0;simp only [Go.Addr.add,Nat.reduceEqDiff,↓reduceIte] at hx1 hx2 hx3 hx4;have hy0:=(World.cell?_alloc_lt w1 (.cells #[.int .u8 0,.int .u8 0,.int .u8 0,.int .u8 0,.int .u8 0] 84) _ (World.block_lt_of_cell? w1 _ hx0)).trans hx0;have hy1:=(World.cell?_alloc_lt w1 (.cells #[.int .u8 0,.int .u8 0,.int .u8 0,.int .u8 0,.int .u8 0] 84) _ (World.block_lt_of_cell? w1 _ hx1)).trans hx1;have hy2:=(World.cell?_alloc_lt w1 (.cells #[.int .u8 0,.int .u8 0,.int .u8 0,.int .u8 0,.int .u8 0] 84) _ (World.block_lt_of_cell? w1 _ hx2)).trans hx2;have hy3:=(World.cell?_alloc_lt w1 (.cells #[.int .u8 0,.int .u8 0,.int .u8 0,.int .u8 0,.int .u8 0] 84) _ (World.block_lt_of_cell? w1 _ hx3)).trans hx3;have hy4:=(World.cell?_alloc_lt w1 (.cells #[.int .u8 0,.int .u8 0,.int .u8 0,.int .u8 0,.int .u8 0] 84) _ (World.block_lt_of_cell? w1 _ hx4)).trans hx4;have q0 : (0 : Int) < (l.length : Int):=by omega
 have q1 : (1 : Int) < (l.length : Int):=by omega
 have q2 : (2 : Int) < (l.length : Int):=by omega
 have q3 : (3 : Int) < (l.length : Int):=by omega
 have q4 : (4 : Int) < (l.length : Int):=by omega
 have hltB:=blk_lt hB;go_region
 all_goals (try go_wp2)
 go_region
 all_goals (try go_wp2)
 have hR2:=H.out;rw [if_pos trivial] at hR2
 have h55 : l.length = 5:=by
  by_cases h55 : l.length = 5
  ·
   exact h55
  rw [if_neg h55] at hR2;cases hR2
 rw [if_pos h55,if_neg (by omega)] at hR2;rw [if_pos c2] at hR2;simp only [Option.some.injEq,Prod.mk.injEq] at hR2;obtain ⟨rfl,rfl,rfl,rfl,rfl,rfl,rfl⟩:=hR2;refine oam_Open.bodyPost_W (fun W' hW' => ?_)
 have hBel : Below w.heap.size w W':=by
  rw [hW'];repeat (first|(with_reducible exact HBW)|(with_reducible refine Below.drew ?_)|(with_reducible refine Below.alloc ?_ (by have:=HBW.size;simp;omega) _)|(with_reducible refine Below.setCell ?_ (by simp) _))
 have hF : W'.heap[w.heap.size]? = some (.cells #[.int .u8 (rd l 0 % 256),.int .u8 (rd l 1 % 256),.int .u8 (rd l 2 % 256),.int .u8 (rd l 3 % 256),.int .u8 (rd l 4 % 256)] 84 (0,0)):=by
  rw [hW'];(with_reducible repeat (first|refine zD ?_|refine zA ?_ _));refine zP (cs:=#[.int .u8 (rd l 0 % 256),.int .u8 (rd l 1 % 256),.int .u8 (rd l 2 % 256),.int .u8 (rd l 3 % 256),.int .u8 0]) ?_ 4 _ rfl;(with_reducible repeat (first|refine zD ?_|refine zA ?_ _));refine zP (cs:=#[.int .u8 (rd l 0 % 256),.int .u8 (rd l 1 % 256),.int .u8 (rd l 2 % 256),.int .u8 0,.int .u8 0]) ?_ 3 _ rfl;(with_reducible repeat (first|refine zD ?_|refine zA ?_ _));refine zP (cs:=#[.int .u8 (rd l 0 % 256),.int .u8 (rd l 1 % 256),.int .u8 0,.int .u8 0,.int .u8 0]) ?_ 2 _ rfl;(with_reducible repeat (first|refine zD ?_|refine zA ?_ _));refine zP (cs:=#[.int .u8 (rd l 0 % 256),.int .u8 0,.int .u8 0,.int .u8 0,.int .u8 0]) ?_ 1 _ rfl;(with_reducible repeat (first|refine zD ?_|refine zA ?_ _));refine zP (cs:=#[.int .u8 0,.int .u8 0,.int .u8 0,.int .u8 0,.int .u8 0]) ?_ 0 _ rfl;(with_reducible repeat (first|refine zD ?_|refine zA ?_ _));exact hB
 clear hW';have z0 : W'.cell? ⟨w.heap.size,0,none⟩ = some (.int .u8 (rd l 0 % 256)):=(zC hF 0).trans rfl;have z1 : W'.cell? ⟨w.heap.size,1,none⟩ = some (.int .u8 (rd l 1 % 256)):=(zC hF 1).trans rfl;have z2 : W'.cell? ⟨w.heap.size,2,none⟩ = some (.int .u8 (rd l 2 % 256)):=(zC hF 2).trans rfl;have z3 : W'.cell? ⟨w.heap.size,3,none⟩ = some (.int .u8 (rd l 3 % 256)):=(zC hF 3).trans rfl;have z4 : W'.cell? ⟨w.heap.size,4,none⟩ = some (.int .u8 (rd l 4 % 256)):=(zC hF 4).trans rfl;exact zE (v:=.tuple #[.agg #[.int .u8 (rd l 0 % 256),.int .u8 (rd l 1 % 256),.int .u8 (rd l 2 % 256),.int .u8 (rd l 3 % 256),.int .u8 (rd l 4 % 256)],.string (rest.extract 0 (rd l 4 % 256).toNat),.int .i64 0]) (by simp [results,Try.results43,go_sem,z0,z1,z2,z3,z4]) rfl ⟨rfl,hBel⟩
set_option maxHeartbeats 8000000 in
set_option maxRecDepth 100000 in
theorem oam_Open.calls (k : Nat) (a0 : ByteArray) (r1 : Int) (r2 : Int) (r3 : Int) (r4 : Int) (r5 : Int) (r6 : ByteArray) (r7 : Int) (w : World) (h : oam_Open.f k a0 = some (r1, r2, r3, r4, r5, r6, r7)) :
  Calls Try.prog 43 #[.string a0] w fun e w' => e = .returned (.tuple #[.agg #[.int .u8 r1, .int .u8 r2, .int .u8 r3, .int .u8 r4, .int .u8 r5], .string r6, .int .i64 r7]) ∧ Below w.heap.size w w' := by
 have h0:=h;unfold oam_Open.f at h;obtain ⟨⟨l,rest,e⟩,hsp,h⟩:=Option.bind_eq_some_iff.1 h;simp only at h;have huH:=Try.underlying84;by_cases he : e = 0
 ·
  subst he;by_cases c1 : (rest.size : Int) < rd l 4 % 256 + 1
  ·
   exact oam_Open.cA k a0 r1 r2 r3 r4 r5 r6 r7 w h0 l rest hsp c1
  by_cases c2 : bt rest (rd l 4 % 256) = 0
  ·
   exact oam_Open.cC k a0 r1 r2 r3 r4 r5 r6 r7 w h0 l rest hsp c1 c2
  exact oam_Open.cB k a0 r1 r2 r3 r4 r5 r6 r7 w h0 l rest hsp c1 c2
 have H:=Lib.hid h;have HS:=Lib.hid hsp;clear h hsp h0;have hb0 : (e != 0) = true:=by rw [bne_iff_ne];exact he
 have hb1 : (e == 0) = false:=by rw [beq_eq_false_iff_ne];exact he
 go_enter Try.func43,Try.ntmps43
 go_wp2_with (go_at_call 45;refine (field_Split.calls k a0 (some ⟨w.heap.size + 1,0,none⟩) 5 [3,5,8,8,8] l rest e _ (oam_Open.lit5 w _) (by decide) HS.out).mono ?_;rintro e' w1 ⟨v0,rfl,hR,hb⟩;have hB:=zB (zA (blk_new w (.cells #[.int .u8 0,.int .u8 0,.int .u8 0,.int .u8 0,.int .u8 0] 84)) _) hb;have HBW:=((((Below.refl w.heap.size w).alloc (Nat.le_refl _) _).alloc (by simp) _).trans (hb.mono (by simp;omega)));have hz0:=(zC hB 0).trans rfl;have hz1:=(zC hB 1).trans rfl;have hz2:=(zC hB 2).trans rfl;have hz3:=(zC hB 3).trans rfl;have hz4:=(zC hB 4).trans rfl;have hf0:=zF hB 0;have hf1:=zF hB 1;have hf2:=zF hB 2;have hf3:=zF hB 3;have hf4:=zF hB 4;obtain ⟨Al,cl,rfl⟩:=Kd.R_slice hR)
 have hR2:=H.out;rw [if_neg he] at hR2;simp only [Option.some.injEq,Prod.mk.injEq] at hR2;obtain ⟨rfl,rfl,rfl,rfl,rfl,rfl,rfl⟩:=hR2;exact zE (v:=.tuple #[.agg #[.int .u8 0,.int .u8 0,.int .u8 0,.int .u8 0,.int .u8 0],.string ⟨#[]⟩,.int .i64 e]) (by simp [results,Try.results43,go_sem,hz0,hz1,hz2,hz3,hz4]) rfl ⟨rfl,(by repeat (first|(with_reducible exact HBW)|(with_reducible refine Below.drew ?_)|(with_reducible refine Below.setCell ?_ (by simp) _)))⟩


/-! ### oam_Head_Is: function 44 -/
def oam_Head_Is.j0 : Nat → Int → Int → Bool → Int → Int → Int → Int → Int → Option (Int)
  | 0, _, _, _, _, _, _, _, _ => none
  | k + 1, x2, x4, x16, x243000, x243001, x243002, x243003, x243004 => if x16 = true then (some 8) else (if x243001 = x2 then (if x243004 = x4 then (some 0) else (some 3)) else (some 3))
def oam_Head_Is.f (k : Nat) (a0_0 : Int) (a0_1 : Int) (a0_2 : Int) (a0_3 : Int) (a0_4 : Int) (a1 : Int) (a2 : Int) (a3 : Int) (a4 : Int) : Option (Int) := if a0_0 = a1 then (if a0_2 = a3 then (oam_Head_Is.j0 k a2 a4 false a0_0 a0_1 a0_2 a0_3 a0_4) else (oam_Head_Is.j0 k a2 a4 (a0_1 == a2) a0_0 a0_1 a0_2 a0_3 a0_4)) else (some 7)
theorem oam_Head_Is.mono_l : ∀ k, (∀ y0 y1 y2 y3 y4 y5 y6 y7, LeO (oam_Head_Is.j0 k y0 y1 y2 y3 y4 y5 y6 y7) (oam_Head_Is.j0 (k + 1) y0 y1 y2 y3 y4 y5 y6 y7))
 | 0 => fun _ _ _ _ _ _ _ _ r h => by simp [oam_Head_Is.j0] at h
 | k + 1 => by
  have ih0 := oam_Head_Is.mono_l k
  intro y0 y1 y2 y3 y4 y5 y6 y7
  unfold oam_Head_Is.j0
  repeat' first
  | (with_reducible exact ih0 _ _ _ _ _ _ _ _)
  | (with_reducible exact LeO.refl _)
  | (with_reducible exact LeO.none _)
  | (with_reducible refine LeO.ite ?_ ?_)
  | (with_reducible refine LeO.bind ?_ (fun _ => ?_))
  | exact ih0 _ _ _ _ _ _ _ _
  | exact LeO.none _
  | refine LeO.ite ?_ ?_
  | refine LeO.bind ?_ (fun _ => ?_)
theorem oam_Head_Is.mono : ∀ a0 a1 a2 a3 a4 a5 a6 a7 a8 k, LeO (oam_Head_Is.f k a0 a1 a2 a3 a4 a5 a6 a7 a8) (oam_Head_Is.f (k + 1) a0 a1 a2 a3 a4 a5 a6 a7 a8) := by
 intro a0 a1 a2 a3 a4 a5 a6 a7 a8 k;have ih0:=oam_Head_Is.mono_l k;unfold oam_Head_Is.f
 repeat' first
  | (with_reducible exact ih0 _ _ _ _ _ _ _ _)
  | (with_reducible exact LeO.refl _)
  | (with_reducible exact LeO.none _)
  | (with_reducible refine LeO.ite ?_ ?_)
  | (with_reducible refine LeO.bind ?_ (fun _ => ?_))
  | exact ih0 _ _ _ _ _ _ _ _
  | exact LeO.none _
  | refine LeO.ite ?_ ?_
  | refine LeO.bind ?_ (fun _ => ?_)
set_option maxHeartbeats 8000000 in
set_option maxRecDepth 100000 in
theorem oam_Head_Is.calls (k : Nat) (a0_0 : Int) (a0_1 : Int) (a0_2 : Int) (a0_3 : Int) (a0_4 : Int) (a1 : Int) (a2 : Int) (a3 : Int) (a4 : Int) (r : Int) (w : World) (h : oam_Head_Is.f k a0_0 a0_1 a0_2 a0_3 a0_4 a1 a2 a3 a4 = some r) :
  Calls Try.prog 44 #[.agg #[.int .u8 a0_0, .int .u8 a0_1, .int .u8 a0_2, .int .u8 a0_3, .int .u8 a0_4], .int .u8 a1, .int .u8 a2, .int .u8 a3, .int .u8 a4] w fun e w' => e = .returned (.int .i64 r) ∧ Below w.heap.size w w' := by
 have hu84:=Try.underlying84;have HB:=zM (Below.refl w.heap.size w);have H : (if a0_0 = a1 then (if a0_2 = a3 then (oam_Head_Is.j0 k a2 a4 false a0_0 a0_1 a0_2 a0_3 a0_4) else (oam_Head_Is.j0 k a2 a4 (a0_1 == a2) a0_0 a0_1 a0_2 a0_3 a0_4)) else (some 7)) = some r:=h;clear h;by_cases c6 : a0_0 = a1
 ·
  rw [if_pos c6] at H;have c6b0 : (a0_0 == a1) = true:=beq_iff_eq.mpr c6;have c6b1 : (a0_0 != a1) = false:=bne_eq_false_iff_eq.mpr c6;clear c6;have HC7:=zM H;clear H;go_enter Try.func44,Try.ntmps44
  go_upto_region 2 with (first|((with_reducible refine gate_dst (N:=5) rfl ?_);refine box_event ?hg (N:=5) ?hd (cs:=#[.int .u8 a0_0,.int .u8 a0_1,.int .u8 a0_2,.int .u8 a0_3,.int .u8 a0_4]) (t:=84) ?hr ?_;(case hd => rfl);(case hg => rfl);(case hr => first|(go_simp;done)|(go_simp;rfl));intro z02 hg w8 hbox hb;have n0_:=zM (yT (by repeat first|(with_reducible first|exact HB.out|apply yA|apply yN|apply yD)|exact HB.out) hb);have n1_:=zM (hbox);have n2_:=zM ((by rw [hg];exact (yZ (by repeat first|(with_reducible first|exact HB.out|apply yA|apply yN|apply yD)|exact HB.out)) : w.heap.size ≤ z02));have n3_:=zM ((by rw [hg];exact (yZ (by repeat first|(with_reducible first|exact HB.out|apply yA|apply yN|apply yD)|exact HB.out)) : w.heap.size ≤ z02));clear HB;have HB:=n0_;have z00:=n1_;have z0x:=n2_;have z01:=n3_;clear n0_ n1_ n2_ n3_;clear hb hbox hg;obtain ⟨z0n,z0o,z0p,z0q,z0r,z0s,z0t,z0u,z0v,z0w⟩:=kc5 z00.out))
  (try simp only [Act.put,sA,sB,sC])
  go_cut [16] (fun v16 wc => ∃ (kq : Nat) (x16_6 : Bool),v16 = .bool x16_6 ∧ Aside0 (oam_Head_Is.j0 kq a2 a4 x16_6 a0_0 a0_1 a0_2 a0_3 a0_4 = some r) ∧ Aside0 (kq ≤ k) ∧ Aside0 (wc.heap[z02]? = some (.cells #[.int .u8 a0_0,.int .u8 a0_1,.int .u8 a0_2,.int .u8 a0_3,.int .u8 a0_4] 84 (0,0))) ∧ Aside0 (Below w.heap.size w wc))
  case first =>
   have H:=HC7.out;clear HC7;by_cases c10 : a0_2 = a3
   ·
    rw [if_pos c10] at H;have c10b0 : (a0_2 == a3) = true:=beq_iff_eq.mpr c10;have c10b1 : (a0_2 != a3) = false:=bne_eq_false_iff_eq.mpr c10;clear c10;(first|rw [c10b0]|(simp only [i64_w,i32_w];rw [c10b0])|skip)
    have H':=zM H;clear H;obtain ⟨z03,z04,z05,z06,z07,z08,z09,z0a,z0b,z0c⟩:=kc5 z00.out;go_wp2;go_meet
    case rel => exact ⟨_,(false),(by first|rfl|(simp;done)|(simp [*];done)),H',⟨by first|omega|exact Nat.le_refl _⟩,⟨by (with_reducible repeat first|apply zN|apply zD|apply zA);exact z00.out⟩,⟨by repeat first|(with_reducible first|exact HB.out|apply yA|apply yN|apply yD|refine yS ?_ z01.out)|exact HB.out⟩⟩
   rw [if_neg c10] at H;have c10b0 : (a0_2 == a3) = false:=beq_eq_false_iff_ne.mpr c10;have c10b1 : (a0_2 != a3) = true:=bne_iff_ne.mpr c10;(first|rw [c10b0]|(simp only [i64_w,i32_w];rw [c10b0])|skip)
   have H':=zM H;clear H;obtain ⟨z0d,z0e,z0f,z0g,z0h,z0i,z0j,z0k,z0l,z0m⟩:=kc5 z00.out;go_wp2;go_meet
   case rel => exact ⟨_,((a0_1 == a2)),(by first|rfl|(simp;done)|(simp [*];done)),H',⟨by first|omega|exact Nat.le_refl _⟩,⟨by (with_reducible repeat first|apply zN|apply zD|apply zA);exact z00.out⟩,⟨by repeat first|(with_reducible first|exact HB.out|apply yA|apply yN|apply yD|refine yS ?_ z01.out)|exact HB.out⟩⟩
  case rest =>
   clear HC7;try clear c1
   try clear p2
   try clear c4
   try clear c6
   try clear c6b0
   try clear c6b1
   try clear c10
   try clear c10b0
   try clear c10b1
   try clear z03
   try clear z04
   try clear z05
   try clear z06
   try clear z07
   try clear z0d
   try clear z0e
   try clear z0f
   try clear z0g
   try clear z0h
   try clear z0n
   try clear z0o
   try clear z0p
   try clear z0q
   try clear z0r
   try clear z08
   try clear z09
   try clear z0a
   try clear z0b
   try clear z0c
   try clear z0i
   try clear z0j
   try clear z0k
   try clear z0l
   try clear z0m
   try clear z0s
   try clear z0t
   try clear z0u
   try clear z0v
   try clear z0w
   obtain ⟨kq,x16_6,rfl,HA,HJ6,z00,HB⟩:=hcut;cases kq with
  | zero => exact absurd HA.out (by simp [oam_Head_Is.j0])
  | succ kj6 =>
    have H:=HA.out;clear HA;simp only [oam_Head_Is.j0] at H;by_cases c13 : x16_6 = true
    ·
     subst c13;have H1 : (some 8) = some r:=by rw [if_pos rfl] at H;exact H
     clear H;have H:=H1;clear H1;obtain rfl:=Option.some.inj H;go_wp2;go_ret;exact ⟨by first|rfl|(simp [errW_none,errW_some] <;> rfl)|(simp [*,errW_none,errW_some] <;> rfl),by repeat first|(with_reducible first|exact HB.out|apply yA|apply yN|apply yD|refine yS ?_ z01.out)|exact HB.out⟩
    replace c13:=Bool.eq_false_iff.mpr c13;subst c13;have H1 : (if a0_1 = a2 then (if a0_4 = a4 then (some 0) else (some 3)) else (some 3)) = some r:=by rw [if_neg (show ¬ (false = true) by decide)] at H;exact H
    clear H;have H:=H1;clear H1;by_cases c14 : a0_1 = a2
    ·
     rw [if_pos c14] at H;have c14b0 : (a0_1 == a2) = true:=beq_iff_eq.mpr c14;have c14b1 : (a0_1 != a2) = false:=bne_eq_false_iff_eq.mpr c14;clear c14;by_cases c15 : a0_4 = a4
     ·
      rw [if_pos c15] at H;have c15b0 : (a0_4 == a4) = true:=beq_iff_eq.mpr c15;have c15b1 : (a0_4 != a4) = false:=bne_eq_false_iff_eq.mpr c15;clear c15;obtain rfl:=Option.some.inj H;obtain ⟨z0y,z0z,z10,z11,z12,z13,z14,z15,z16,z17⟩:=kc5 z00.out;go_wp2;go_ret;exact ⟨by first|rfl|(simp [errW_none,errW_some] <;> rfl)|(simp [*,errW_none,errW_some] <;> rfl),by repeat first|(with_reducible first|exact HB.out|apply yA|apply yN|apply yD|refine yS ?_ z01.out)|exact HB.out⟩
     rw [if_neg c15] at H;have c15b0 : (a0_4 == a4) = false:=beq_eq_false_iff_ne.mpr c15;have c15b1 : (a0_4 != a4) = true:=bne_iff_ne.mpr c15;obtain rfl:=Option.some.inj H;obtain ⟨z18,z19,z1a,z1b,z1c,z1d,z1e,z1f,z1g,z1h⟩:=kc5 z00.out;go_wp2;go_ret;exact ⟨by first|rfl|(simp [errW_none,errW_some] <;> rfl)|(simp [*,errW_none,errW_some] <;> rfl),by repeat first|(with_reducible first|exact HB.out|apply yA|apply yN|apply yD|refine yS ?_ z01.out)|exact HB.out⟩
    rw [if_neg c14] at H;have c14b0 : (a0_1 == a2) = false:=beq_eq_false_iff_ne.mpr c14;have c14b1 : (a0_1 != a2) = true:=bne_iff_ne.mpr c14;obtain rfl:=Option.some.inj H;obtain ⟨z1i,z1j,z1k,z1l,z1m,z1n,z1o,z1p,z1q,z1r⟩:=kc5 z00.out;go_wp2;go_ret;exact ⟨by first|rfl|(simp [errW_none,errW_some] <;> rfl)|(simp [*,errW_none,errW_some] <;> rfl),by repeat first|(with_reducible first|exact HB.out|apply yA|apply yN|apply yD|refine yS ?_ z01.out)|exact HB.out⟩
 rw [if_neg c6] at H;have c6b0 : (a0_0 == a1) = false:=beq_eq_false_iff_ne.mpr c6;have c6b1 : (a0_0 != a1) = true:=bne_iff_ne.mpr c6;obtain rfl:=Option.some.inj H;go_enter Try.func44,Try.ntmps44
 go_wp2_with (first|((with_reducible refine gate_dst (N:=5) rfl ?_);refine box_event ?hg (N:=5) ?hd (cs:=#[.int .u8 a0_0,.int .u8 a0_1,.int .u8 a0_2,.int .u8 a0_3,.int .u8 a0_4]) (t:=84) ?hr ?_;(case hd => rfl);(case hg => rfl);(case hr => first|(go_simp;done)|(go_simp;rfl));intro z02 hg w19 hbox hb;have n0_:=zM (yT (by repeat first|(with_reducible first|exact HB.out|apply yA|apply yN|apply yD)|exact HB.out) hb);have n1_:=zM (hbox);have n2_:=zM ((by rw [hg];exact (yZ (by repeat first|(with_reducible first|exact HB.out|apply yA|apply yN|apply yD)|exact HB.out)) : w.heap.size ≤ z02));have n3_:=zM ((by rw [hg];exact (yZ (by repeat first|(with_reducible first|exact HB.out|apply yA|apply yN|apply yD)|exact HB.out)) : w.heap.size ≤ z02));clear HB;have HB:=n0_;have z00:=n1_;have z0x:=n2_;have z01:=n3_;clear n0_ n1_ n2_ n3_;clear hb hbox hg;obtain ⟨z1s,z1t,z1u,z1v,z1w,z1x,z1y,z1z,z20,z21⟩:=kc5 z00.out))
 go_ret;exact ⟨by first|rfl|(simp [errW_none,errW_some] <;> rfl)|(simp [*,errW_none,errW_some] <;> rfl),by repeat first|(with_reducible first|exact HB.out|apply yA|apply yN|apply yD|refine yS ?_ z01.out)|exact HB.out⟩

/-! ### field_Noughts: function 46 -/
def field_Noughts.l0 : Nat → ByteArray → Int → Int → Option (Bool)
  | 0, _, _, _ => none
  | k + 1, x0, x5, x6 => if x6 < x5 then (if 0 ≤ x6 then (if x6 < (x0.size : Int) then (if (bt x0 x6) = 0 then (field_Noughts.l0 k x0 x5 (wrap64 (x6 + 1))) else (some false)) else (none)) else (none)) else (some true)
def field_Noughts.f (k : Nat) (a0 : ByteArray) : Option (Bool) := field_Noughts.l0 k a0 (a0.size : Int) 0
theorem field_Noughts.mono_l : ∀ k, (∀ y0 y1 y2, LeO (field_Noughts.l0 k y0 y1 y2) (field_Noughts.l0 (k + 1) y0 y1 y2))
 | 0 => fun _ _ _ r h => by simp [field_Noughts.l0] at h
 | k + 1 => by
  have ih0 := field_Noughts.mono_l k
  intro y0 y1 y2
  unfold field_Noughts.l0
  repeat' first
  | (with_reducible exact ih0 _ _ _)
  | (with_reducible exact LeO.refl _)
  | (with_reducible exact LeO.none _)
  | (with_reducible refine LeO.ite ?_ ?_)
  | (with_reducible refine LeO.bind ?_ (fun _ => ?_))
  | exact ih0 _ _ _
  | exact LeO.none _
  | refine LeO.ite ?_ ?_
  | refine LeO.bind ?_ (fun _ => ?_)
theorem field_Noughts.mono : ∀ a0 k, LeO (field_Noughts.f k a0) (field_Noughts.f (k + 1) a0) := by
 intro a0 k;have ih0:=field_Noughts.mono_l k;unfold field_Noughts.f
 repeat' first
  | (with_reducible exact ih0 _ _ _)
  | (with_reducible exact LeO.refl _)
  | (with_reducible exact LeO.none _)
  | (with_reducible refine LeO.ite ?_ ?_)
  | (with_reducible refine LeO.bind ?_ (fun _ => ?_))
  | exact ih0 _ _ _
  | exact LeO.none _
  | refine LeO.ite ?_ ?_
  | refine LeO.bind ?_ (fun _ => ?_)
set_option maxHeartbeats 8000000 in
set_option maxRecDepth 100000 in
theorem field_Noughts.calls (k : Nat) (a0 : ByteArray) (r : Bool) (w : World) (h : field_Noughts.f k a0 = some r) :
  Calls Try.prog 46 #[.string a0] w fun e w' => e = .returned (.bool r) ∧ Drawn0 w w' := by
 have H : (field_Noughts.l0 k a0 (a0.size : Int) 0) = some r:=h;clear h;have H':=zM H;clear H;go_enter Try.func46,Try.ntmps46
 go_wp2;go_loopg [6] k (fun kq v6 w' => ∃ (x6_1 : Int),v6 = .int .i64 x6_1 ∧ Aside0 (field_Noughts.l0 kq a0 (a0.size : Int) x6_1 = some r) ∧ Aside0 (kq ≤ k) ∧ Drawn0 w w')
 case atStart => exact ⟨(0),(by first|rfl|(simp;done)|(simp [*];done)),H',⟨Nat.le_refl _⟩,by repeat (first|exact Drawn0.refl _|apply Drawn0.step)⟩
 case round =>
  clear H';obtain ⟨x6_1,rfl,HA,HK1,⟨m1,rfl⟩⟩:=hrel;cases gk with
 | zero => exact absurd HA.out (by simp [field_Noughts.l0])
 | succ k1 =>
   have H:=HA.out;clear HA;simp only [field_Noughts.l0] at H;by_cases c2 : x6_1 < (a0.size : Int)
   ·
    rw [if_pos c2] at H;have c2b0 : decide (x6_1 < (a0.size : Int)) = true:=dT c2;clear c2;by_cases c3 : 0 ≤ x6_1
    ·
     rw [if_pos c3] at H;have c3b0 : decide (0 ≤ x6_1) = true:=dT c3;clear c3;by_cases c4 : x6_1 < (a0.size : Int)
     ·
      rw [if_pos c4] at H;have c4b0 : decide (x6_1 < (a0.size : Int)) = true:=dT c4;clear c4;by_cases c6 : (bt a0 x6_1) = 0
      ·
       rw [if_pos c6] at H;have c6b0 : ((bt a0 x6_1) == 0) = true:=beq_iff_eq.mpr c6;have c6b1 : ((bt a0 x6_1) != 0) = false:=bne_eq_false_iff_eq.mpr c6;clear c6;have H':=zM H;clear H;have p5 : 0 ≤ (x6_1 : Int):=of_decide_eq_true (by first|(with_reducible assumption)|assumption);have q5 : x6_1 < (a0.size : Int):=of_decide_eq_true (by first|(with_reducible assumption)|assumption);have hx5:=bt_at a0 x6_1;replace p5:=eq_true p5;replace q5:=eq_true q5;go_wp2;go_roundg k1
       case measure => have:=HK1.out;omega
       case rel => exact ⟨(wrap64 (x6_1 + 1)),(by first|rfl|(simp;done)|(simp [*];done)),H',⟨by have:=HK1.out;omega⟩,by repeat (first|exact Drawn0.refl _|apply Drawn0.step)⟩
      rw [if_neg c6] at H;have c6b0 : ((bt a0 x6_1) == 0) = false:=beq_eq_false_iff_ne.mpr c6;have c6b1 : ((bt a0 x6_1) != 0) = true:=bne_iff_ne.mpr c6;obtain rfl:=Option.some.inj H;have p5 : 0 ≤ (x6_1 : Int):=of_decide_eq_true (by first|(with_reducible assumption)|assumption);have q5 : x6_1 < (a0.size : Int):=of_decide_eq_true (by first|(with_reducible assumption)|assumption);have hx5:=bt_at a0 x6_1;replace p5:=eq_true p5;replace q5:=eq_true q5;go_wp2;go_ret;exact ⟨by first|rfl|(simp;done)|(simp [*];done),by repeat (first|exact Drawn0.refl _|apply Drawn0.step)⟩
     rw [if_neg c4] at H;exact absurd H (by simp)
    rw [if_neg c3] at H;exact absurd H (by simp)
   rw [if_neg c2] at H;have c2b0 : decide (x6_1 < (a0.size : Int)) = false:=dF c2;clear c2;obtain rfl:=Option.some.inj H;go_wp2;go_ret;exact ⟨by first|rfl|(simp;done)|(simp [*];done),by repeat (first|exact Drawn0.refl _|apply Drawn0.step)⟩

end Go.Proofs.Ytapicoienpbdfaa.PWatchPlays
