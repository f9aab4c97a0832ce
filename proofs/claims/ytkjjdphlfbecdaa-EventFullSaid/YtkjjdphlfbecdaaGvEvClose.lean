/- event.Close walked by hand. -/
import Derived.Test.YtkjjdphlfbecdaaGvEvent
import Derived.Deep.LoopGhost
import Derived.Lib.Hide
namespace Go.Proofs.Ytkjjdphlfbecdaa.Gv
open Go.RowKit Go.Proofs.YtkjjdphlfbecdaaW.PrintWords Go.Proofs.YtkjjdphlfbecdaaW.PrintLast Go.Proofs.YtkjjdphlfbecdaaW.PrintMore
set_option linter.unusedVariables false
set_option linter.unusedSimpArgs false
/-- The cells of the events that came in. -/
def EvAt (w : World) (A : Option Addr) (l : List Ev) : Prop := ∀ i : Nat, i < l.length → ∃ ad, A = some ad ∧ w.cell? (ad.add (i * 5)) = some (.int .u8 (l.getD i ez).1) ∧ w.cell? ⟨(ad.add (i * 5)).block, (ad.add (i * 5)).off + 1, none⟩ = some (.int .u8 (l.getD i ez).2.1) ∧ w.cell? ⟨(ad.add (i * 5)).block, (ad.add (i * 5)).off + 2, none⟩ = some (.int .u8 (l.getD i ez).2.2.1) ∧ w.cell? ⟨(ad.add (i * 5)).block, (ad.add (i * 5)).off + 3, none⟩ = some (.int .u8 (l.getD i ez).2.2.2.1) ∧ w.cell? ⟨(ad.add (i * 5)).block, (ad.add (i * 5)).off + 4, none⟩ = some (.string (l.getD i ez).2.2.2.2)
theorem EvAt.below {w w1 : World} {A : Option Addr} {l : List Ev} (h : EvAt w A l) (hb : Below w.heap.size w w1) : EvAt w1 A l := by
  intro i hi
  obtain ⟨ad, e, h0, h1, h2, h3, h4⟩ := h i hi
  exact ⟨ad, e, (hb.cell (World.block_lt_of_cell? w _ h0)).trans h0, (hb.cell (World.block_lt_of_cell? w _ h1)).trans h1, (hb.cell (World.block_lt_of_cell? w _ h2)).trans h2, (hb.cell (World.block_lt_of_cell? w _ h3)).trans h3, (hb.cell (World.block_lt_of_cell? w _ h4)).trans h4⟩
theorem below_call {w W w1 : World} (h : Below w.heap.size w W) (hb : Below W.heap.size W w1) : Below w.heap.size w w1 := h.trans (hb.mono h.size)
theorem bld_lt {T e : TypeId} {B b : Nat} {bs : List Value} {w : World} (h : Lib.IsBuilderF T e B b bs w) : b < w.heap.size := h.elim (fun h => h.lt) (fun h => h.lt)
def Bld (w wr : World) (l : List UInt8) : Prop := Lib.IsBuilderF 50 5 w.heap.size w.heap.size (Lib.byteCells l) wr ∧ Below w.heap.size w wr
set_option maxHeartbeats 4000000 in
set_option maxRecDepth 100000 in
theorem close_calls (A : Option Addr) (c : Nat) (l : List Ev) (w : World) (hp : EvAt w A l) (hc : l.length ≤ c) (hlen : l.length ≤ 1000000) (hin : ∀ e ∈ l, EvIn e) :
    Calls Try.prog 10 #[.slice A l.length c] w fun e w' => e = .returned (.tuple #[.string (evClose l).1, .int .i64 (evClose l).2]) ∧ Below w.heap.size w w' := by
  have HP := Lib.hid hp
  have HI := Lib.hid hin
  clear hp hin
  have hw0 : Bld w (w.alloc (.cells #[.pointer none, .slice none 0 0] 50)) [] := ⟨Lib.IsBuilderF.of (Lib.fresh_isBuilder _ _ w), below_alloc (Below.refl _ _) _⟩
  have H0 := Lib.hid hw0
  clear hw0
  go_enter Try.func10, Try.ntmps10
  go_wp2_with fail
  go_loopw [12] (fun i wr => ∃ k : Nat, k ≤ l.length ∧ i = .int .i64 k ∧ Bld w wr (evAll (l.take k)) ∧ Hid (∀ e ∈ l.take k, evWrong e = 0)) (fun i _ => l.length - (intOf i).toNat)
  case atStart => exact ⟨0, Nat.zero_le _, rfl, H0.out, Lib.hid (by simp)⟩
  case round =>
    clear H0
    obtain ⟨k, hk, rfl, ⟨hbl, hB⟩, hok⟩ := hrel
    by_cases hlt : k < l.length
    · obtain ⟨ad, rfl, q0, q1, q2, q3, q4⟩ := (HP.out.below hB) k hlt
      obtain ⟨⟨ek, ea, eb, ec, es⟩, he⟩ : ∃ e, l.getD k ez = e := ⟨_, rfl⟩
      have hmem : (ek, ea, eb, ec, es) ∈ l := by rw [← he, List.getD_eq_getElem?_getD, List.getElem?_eq_getElem hlt]; exact List.getElem_mem hlt
      have HE := Lib.hid he
      simp only [he] at q0 q1 q2 q3 q4
      have hie := HI.out _ hmem
      have HIE := Lib.hid hie
      clear hie he
      have HBL := Lib.hid hbl
      have hne0 := bld_lt hbl
      have HNE := Lib.hid hne0
      clear hbl hne0
      go_wp2_with fail
      refine ev_calls_W (fun W1 hW1 => ?_)
      have hx1 : W1.heap[wr.heap.size]? = some (.cells #[.int .u8 ek, .int .u8 ea, .int .u8 eb, .int .u8 ec, .string es] 28 (0, 0)) := by rw [hW1]; exact blk_new _ _
      have hb1 : Below wr.heap.size wr W1 := by rw [hW1]; exact below_alloc (Below.refl _ _) _
      clear hW1
      refine (wrong_calls ek ea eb ec es W1).mono ?_
      rintro e' w2 ⟨rfl, hb2⟩
      have hx2 := blk_below hx1 hb2
      have hbb2 := below_call hb1 hb2
      have hB2 := below_call hB hbb2
      have HBL2 := Lib.hid (bld_below HBL.out hbb2)
      clear hx1 hb1 hb2 HBL
      by_cases hwr : evWrong (ek, ea, eb, ec, es) = 0
      · rw [hwr]
        have HWR := Lib.hid hwr
        clear hwr
        have z0 := (blk_cell hx2 0).trans rfl
        have z1 := (blk_cell hx2 1).trans rfl
        have z2 := (blk_cell hx2 2).trans rfl
        have z3 := (blk_cell hx2 3).trans rfl
        have z4 := (blk_cell hx2 4).trans rfl
        have hie := HIE.out
        have hs := (evWrong_zero HWR.out).2
        have hs6 : es.size ≤ 1600 := hs
        have v0 : IntKind.u64.wrap ek = ek := wraps_u64 _ hie.1.1 (by have := hie.1.2; simp only at this; omega)
        have v1 : IntKind.u64.wrap ea = ea := wraps_u64 _ hie.2.1.1 (by have := hie.2.1.2; simp only at this; omega)
        have v2 : IntKind.u64.wrap eb = eb := wraps_u64 _ hie.2.2.1.1 (by have := hie.2.2.1.2; simp only at this; omega)
        have v3 : IntKind.u64.wrap ec = ec := wraps_u64 _ hie.2.2.2.1 (by have := hie.2.2.2.2; simp only at this; omega)
        have v4 : IntKind.u64.wrap (es.size : Int) = (es.size : Int) := wraps_u64 _ (by omega) (by omega)
        have hpk := pack_ev (ek, ea, eb, ec, es) hie (by show es.size ≤ 65535; omega)
        have HPK := Lib.hid hpk
        have HS6 := Lib.hid hs6
        clear hpk hie hs hs6
        go_wp2_with fail
        clear v0 v1 v2 v3 v4
        refine ev_calls_W (fun W3 hW3 => ?_)
        have hy3 : W3.heap[w2.heap.size]? = some (.cells #[.int .i64 8, .int .u64 ek, .int .i64 8, .int .u64 ea, .int .i64 8, .int .u64 eb, .int .i64 8, .int .u64 ec, .int .i64 16, .int .u64 (es.size : Int)] 55 (0, 0)) := by rw [hW3]; exact blk_new _ _
        have hb3 : Below w2.heap.size w2 W3 := by rw [hW3]; exact below_alloc (Below.refl _ _) _
        clear hW3
        refine (pack_calls (some ⟨w2.heap.size, 0, none⟩) 5 [(8, ek), (8, ea), (8, eb), (8, ec), (16, (es.size : Int))] W3 (fun i hi => ⟨_, rfl, ?_, ?_⟩) (by simp) _ _ HPK.out).mono ?_
        · match i, hi with
          | 0, _ => exact (blk_cell hy3 0).trans rfl
          | 1, _ => exact (blk_cell hy3 2).trans rfl
          | 2, _ => exact (blk_cell hy3 4).trans rfl
          | 3, _ => exact (blk_cell hy3 6).trans rfl
          | 4, _ => exact (blk_cell hy3 8).trans rfl
        · match i, hi with
          | 0, _ => exact (blk_cell hy3 1).trans rfl
          | 1, _ => exact (blk_cell hy3 3).trans rfl
          | 2, _ => exact (blk_cell hy3 5).trans rfl
          | 3, _ => exact (blk_cell hy3 7).trans rfl
          | 4, _ => exact (blk_cell hy3 9).trans rfl
        rintro e' w4 ⟨rfl, hb4⟩
        have hbb4 := below_call hb3 hb4
        have hx4 := blk_below hx2 hbb4
        have hB4 := below_call hB2 hbb4
        have HBL4 := Lib.hid (bld_below HBL2.out hbb4)
        clear hy3 hb3 hb4 hbb4 HBL2 hx2 z0 z1 z2 z3 z4 hbb2
        have z4 := (blk_cell hx4 4).trans rfl
        have hle := evAll_length (l.take k) hok.out
        have hle2 : (evAll (l.take k)).length ≤ 1606000000 := by rw [List.length_take] at hle; omega
        clear hle
        go_wp2_with fail
        refine (bld_Write w.heap.size w.heap.size _ _ w4 HBL4.out (by rw [Lib.byteCells_length]; show _ + 6 ≤ _; omega) hB4.size).mono ?_
        rintro e' w5 ⟨rfl, hA5, hb5, hk5⟩
        have hne : wr.heap.size ≠ w.heap.size := Nat.ne_of_gt HNE.out
        have hx5 := hk5 _ _ hx4 (by simpa using hne) (by intro c fz h; simp at h)
        have hB5 := hB4.trans hb5
        clear hx4 z4 hb5 hk5
        have z5 := (blk_cell hx5 4).trans rfl
        go_wp2_with fail
        refine (bld_Write w.heap.size w.heap.size _ _ w5 (.inr hA5) (by rw [List.length_append, Lib.byteCells_length, Lib.strCells_length]; have := HS6.out; show _ + 6 + _ ≤ _; omega) hB5.size).mono ?_
        rintro e' w6 ⟨rfl, hA6, hb6, hk6⟩
        have hB6 := hB5.trans hb6
        clear hx5 z5 hb6 hk6 hA5 HBL4
        go_wp2_with fail
        have hsn := evAll_snoc l k hlt
        rw [HE.out] at hsn
        have hcells : Lib.byteCells (evAll (l.take k)) ++ Lib.strCells ⟨(u8s (evHead (ek, ea, eb, ec, es))).toArray⟩ ++ Lib.strCells es = Lib.byteCells (evAll (l.take (k + 1))) := by
          rw [hsn]
          show _ = Lib.byteCells (evAll (l.take k) ++ (u8s (evHead (ek, ea, eb, ec, es)) ++ es.data.toList))
          rw [Lib.byteCells_append, Lib.byteCells_append, List.append_assoc]
          rfl
        rw [hcells] at hA6
        refine ⟨⟨k + 1, by omega, by go_num, ⟨.inr hA6, hB6⟩, Lib.hid (fun e he => ?_)⟩, by simp [intOf]; omega⟩
        rw [ev_snoc l k hlt, HE.out] at he
        rcases List.mem_append.1 he with he | he
        · exact hok.out e he
        · rw [List.mem_singleton.1 he]; exact HWR.out
      · have HWR := Lib.hid hwr
        have hbn : (evWrong (ek, ea, eb, ec, es) != 0) = true := bne_iff_ne.2 hwr
        generalize hev : evWrong (ek, ea, eb, ec, es) = x at hbn
        have hcl : evClose l = (⟨#[]⟩, x) := by
          have h := evFirst_at l k hlt hok.out (by rw [HE.out]; exact hwr)
          rw [HE.out, hev] at h
          unfold evClose
          rw [h, if_neg (by rw [← hev]; exact hwr)]
        have HCL := Lib.hid hcl
        clear hwr hev hcl
        go_wp2_with fail
        go_ret2
        exact ⟨by rw [HCL.out]; rfl, hB2⟩
    · have hkl : k = l.length := by omega
      subst hkl
      rw [List.take_length] at hbl
      have hok2 := hok.out
      rw [List.take_length] at hok2
      have hfi := evFirst_ok l hok2
      have HBL := Lib.hid hbl
      clear hbl hok hok2
      by_cases hbig : 10000 < l.length
      · have HCL := Lib.hid (show evClose l = (⟨#[]⟩, 9) from by unfold evClose; rw [if_pos hfi, if_pos hbig])
        have r1 : decide ((l.length : Int) > 10000) = true := decide_eq_true (by omega)
        have r2 : decide (10000 < (l.length : Int)) = true := decide_eq_true (by omega)
        have r3 : decide (10000 < l.length) = true := decide_eq_true hbig
        clear hfi
        go_wp2_with fail
        go_ret2
        exact ⟨by rw [HCL.out]; rfl, hB⟩
      · have HCL := Lib.hid (show evClose l = (⟨(evAll l).toArray⟩, 0) from by unfold evClose; rw [if_pos hfi, if_neg hbig])
        have r1 : decide ((l.length : Int) > 10000) = false := decide_eq_false (by omega)
        have r2 : decide (10000 < (l.length : Int)) = false := decide_eq_false (by omega)
        have r3 : decide (10000 < l.length) = false := decide_eq_false hbig
        clear hfi
        go_wp2_with fail
        refine (bld_Text w.heap.size w.heap.size _ wr HBL.out hB.size).mono ?_
        rintro e' w2 ⟨rfl, _, hb2, _⟩
        have hB2 := hB.trans hb2
        go_wp2_with fail
        go_ret2
        exact ⟨by rw [HCL.out]; rfl, hB2⟩
end Go.Proofs.Ytkjjdphlfbecdaa.Gv
