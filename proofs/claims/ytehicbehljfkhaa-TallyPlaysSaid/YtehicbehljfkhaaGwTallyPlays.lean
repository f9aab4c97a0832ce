/- The law TallyPlays, walked by hand. -/
import Derived.Test.YtehicbehljfkhaaGwTallyF
import Derived.Test.YtehicbehljfkhaaGwTallyOrders
import Derived.Deep.RegionWith
import Derived.Deep.RegionHeld3
namespace Go.Proofs.Ytehicbehljfkhaa.Ta
set_option linter.unusedVariables false
set_option linter.unusedSimpArgs false
open Go.RowKit Go.Proofs.YtehicbehljfkhaaW.PrintWords Go.Proofs.YtehicbehljfkhaaW.PrintLast Go.Proofs.YtehicbehljfkhaaW.PrintMore
theorem tis_b {w w1 : World} {b : Nat} {l : List Int} (hb : Below w.heap.size w w1) (h : TIs w b l) : TIs w1 b l := blk_below h hb
theorem bis_b {w w1 : World} {b : Nat} {l : List Int} (hb : Below w.heap.size w w1) (h : BIs w b l) : BIs w1 b l := blk_below h hb
theorem blk_b {w w1 : World} {g : Nat} {o : Obj} (hb : Below w.heap.size w w1) (h : w.heap[g]? = some o) : w1.heap[g]? = some o := blk_below h hb
theorem bel_b {w W w1 : World} (hb : Below W.heap.size W w1) (h : Below w.heap.size w W) : Below w.heap.size w w1 := h.trans (hb.mono h.size)
theorem tis_d {w : World} {b : Nat} {l : List Int} (h : TIs w b l) : TIs w.drew b l := h
theorem bis_d {w : World} {b : Nat} {l : List Int} (h : BIs w b l) : BIs w.drew b l := h
theorem blk_d {w : World} {g : Nat} {o : Obj} (h : w.heap[g]? = some o) : w.drew.heap[g]? = some o := h
theorem bel_drew {w W : World} (h : Below w.heap.size w W) : Below w.heap.size w W.drew := below_drew1 h
def PRel (bt bm : Nat) (w wr : World) : Prop := ∃ s, Good s ∧ TIs wr bt s ∧ BIs wr bm s ∧ Below w.heap.size w wr
theorem PRel_W {bt bm : Nat} {w W : World} (h : ∀ W', W' = W → PRel bt bm w W') : PRel bt bm w W := h W rfl
theorem range_of {w : World} {b : Nat} {l : List Int} (h : BIs w b l) : w.rangeAt b 0 (l.map (Value.int .u64)) := by
  intro j v hv
  have h1 := blk_cell h j
  rw [Nat.zero_add, h1]
  simpa [cellsOf] using hv
theorem ta_CW {P : Program} {C : Code} {Q : Exit → Act → World → Prop} {a : Act} {W : World} (h : ∀ W', W' = W → Code.wp P C Q a W') : Code.wp P C Q a W := h W rfl
set_option maxHeartbeats 16000000 in
set_option maxRecDepth 100000 in
theorem plays (A0 : Option Addr) (c0 : Nat) (l : List (Int × Int × Bool)) (w : World) (ha : Acts w A0 l) (hc0 : l.length ≤ c0) (hn : ∀ a ∈ l, 0 ≤ a.2.1 ∧ a.2.1 ≤ 18446744073709551615) :
    Calls Try.prog 6 #[.slice A0 l.length c0] w fun e w' => e = .returned (.bool true) ∧ Below w.heap.size w w' := by
  have hu52 := Try.underlying52
  have hu58 := Try.underlying58
  have HA := Lib.hid ha
  have HN := Lib.hid hn
  clear ha hn
  by_cases hl : l.length > 200
  · have q1 : decide ((l.length : Int) > 200) = true := decide_eq_true (by omega)
    have q2 : decide (200 < (l.length : Int)) = true := decide_eq_true (by omega)
    have q3 : decide (200 < l.length) = true := decide_eq_true (by omega)
    go_enter Try.func6, Try.ntmps6
    go_wp2_with fail
    refine (new_ok _).mono ?_
    rintro e' w1 ⟨rfl, _, hb1⟩
    go_wp2_with fail
    refine (awake_ok _).mono ?_
    rintro e' w3 ⟨rfl, hb3⟩
    have hB3 := below_call hb1 hb3
    go_wp2_with fail
    go_ret
    exact ⟨rfl, hB3⟩
  · have q3 : decide (200 < l.length) = false := decide_eq_false hl
    have hl2 : l.length ≤ 200 := by omega
    clear hl
    go_enter Try.func6, Try.ntmps6
    go_wp2_with fail
    refine (new_ok _).mono ?_
    rintro e' w1 ⟨rfl, hTa, hb1⟩
    have HTa := Lib.hid hTa
    have hab : w.heap.size ≠ w1.heap.size := Nat.ne_of_lt (blk_lt hTa)
    have hs1 := hb1.size
    clear hTa
    go_wp2_with fail
    go_loopw [22] (fun i wr => ∃ k : Nat, k ≤ l.length ∧ i = .int .i64 k ∧ PRel w.heap.size w1.heap.size w wr) (fun i _ => l.length - (intOf i).toNat)
    case atStart =>
      exact ⟨0, Nat.zero_le _, rfl, zero16, zero_good, blk_alloc HTa.out _, blk_new _ _, below_alloc hb1 _⟩
    case round =>
      clear HTa hb1
      obtain ⟨k, hk, rfl, s, hg, hT, hM, hB⟩ := hrel
      by_cases hlt : k < l.length
      · obtain ⟨b, o, rfl, hbl, hc0', hc1', hc2'⟩ := (HA.out.below hB) k hlt
        have hn := HN.out _ (List.getElem_mem hlt)
        have HG := Lib.hid hg
        have hbm := blk_lt hM
        have hbt := blk_lt hT
        cases hrs : (l[k]).2.2
        · rw [hrs] at hc2'
          clear hrs
          have HT := Lib.hid hT
          have HM := Lib.hid hM
          clear hT hM hg
          go_wp2_with fail
          refine calls_W (fun W3 hW3 => ?_)
          have hq3 := blk_new wr (.cells #[.int .i64 (l[k]).1, .int .u64 (l[k]).2.1, .bool false] 52)
          rw [← hW3] at hq3
          have hb3 : Below wr.heap.size wr W3 := by rw [hW3]; exact below_alloc (Below.refl _ _) _
          clear hW3
          have HT3 := Lib.hid (tis_b hb3 HT.out)
          have HM3 := Lib.hid (bis_b hb3 HM.out)
          have hB3 := below_call hB hb3
          refine (add_ok w.heap.size _ _ _ _ HT3.out HG.out hn.1 hn.2).mono ?_
          rintro e' w4 ⟨rfl, hT4, _, hk4, hb4⟩
          have hB4 : Below w.heap.size w w4 := hB3.trans (hb4 w.heap.size (Nat.le_refl _))
          have HM4 := Lib.hid (show BIs w4 w1.heap.size _ from (hk4 w1.heap.size (Ne.symm hab)).trans HM3.out)
          have hq4 := (hk4 wr.heap.size (by omega)).trans hq3
          have HT4 := Lib.hid hT4
          clear hT4 hk4 hb4 hq3 hb3 HT3 HM3 hB3
          have qa0 : w4.cell? ⟨wr.heap.size, 0, none⟩ = some (.int .i64 (l[k]).1) := (blk_cell hq4 0).trans rfl
          have qa1 : w4.cell? ⟨wr.heap.size, 1, none⟩ = some (.int .u64 (l[k]).2.1) := (blk_cell hq4 1).trans rfl
          have qa2 : w4.cell? ⟨wr.heap.size, 2, none⟩ = some (.bool false) := (blk_cell hq4 2).trans rfl
          go_wp2_with ((with_reducible refine gate_dst (N := 40) rfl ?_); refine load_arm (N := 40) rfl rfl rfl rfl HM4.out HG.out.1 ?_)
          refine (refadd_ok s _ _ _ HG.out hn.1 hn.2).mono ?_
          rintro e' w5 ⟨rfl, hb5⟩
          have HT5 := Lib.hid (tis_b hb5 HT4.out)
          have HM5 := Lib.hid (bis_b hb5 HM4.out)
          have hq5 := blk_b hb5 hq4
          have hB5 := below_call hB4 hb5
          have HGS := Lib.hid (addL_good HG.out (l[k]).1 hn.1)
          generalize hy : addL s (l[k]).1 (l[k]).2.1 = y at HGS HT5 ⊢
          clear hy qa0 qa1 qa2 hq4 HT4 HM4 hB4
          have qb0 : w5.cell? ⟨wr.heap.size, 0, none⟩ = some (.int .i64 (l[k]).1) := (blk_cell hq5 0).trans rfl
          have qb1 : w5.cell? ⟨wr.heap.size, 1, none⟩ = some (.int .u64 (l[k]).2.1) := (blk_cell hq5 1).trans rfl
          have qb2 : w5.cell? ⟨wr.heap.size, 2, none⟩ = some (.bool false) := (blk_cell hq5 2).trans rfl
          go_wp2_with (refine store_arm (w := w) (l' := y) rfl rfl rfl rfl rfl HM5.out HG.out.1 HGS.out.1 hB5 hs1 ?_; intro W6 hM6 hB6 hfar6 hsz6)
          have HT6 := Lib.hid (show TIs W6 w.heap.size y from (hfar6 _ hab).trans HT5.out)
          have HM6 := Lib.hid hM6
          have hq6 := (hfar6 wr.heap.size (by omega)).trans hq5
          have hbq : wr.heap.size < W6.heap.size := blk_lt hq6
          clear hfar6 hsz6 hq5 HT5 HM5 hB5 qb0 qb1 qb2 hM6
          have qc0 : W6.cell? ⟨wr.heap.size, 0, none⟩ = some (.int .i64 (l[k]).1) := (blk_cell hq6 0).trans rfl
          have qc1 : W6.cell? ⟨wr.heap.size, 1, none⟩ = some (.int .u64 (l[k]).2.1) := (blk_cell hq6 1).trans rfl
          have qc2 : W6.cell? ⟨wr.heap.size, 2, none⟩ = some (.bool false) := (blk_cell hq6 2).trans rfl
          have HTd := Lib.hid (tis_d HT6.out)
          have HMd := Lib.hid (bis_d HM6.out)
          have hqd := blk_d hq6
          have HBd := Lib.hid (bel_drew hB6)
          have hrd := range_of HMd.out
          have qdd : W6.drew.cell? ⟨wr.heap.size, 0, none⟩ = some (.int .i64 (l[k]).1) := (blk_cell hqd 0).trans rfl
          have hi58 : (Try.prog.info? 58).map (·.size) = some ((y).map (Value.int .u64)).length := by rw [List.length_map, HGS.out.1]; kernel_rfl
          clear qc0 qc1 qc2
          refine wp_region_noPanic ?_
          refine wp_region_held_drew (S := (fun w' => w'.rangeAt w1.heap.size 0 ((y).map (Value.int .u64)) ∧ w'.cell? ⟨wr.heap.size, 0, none⟩ = some (.int .i64 (l[k]).1))) (by kernel_rfl) (by refine ⟨?_, ?_⟩ <;> with_reducible assumption) (fun hHeld => ?_)
          refine wpAnyH_take (i := 0) (oi := { dst := some 46, op := Op.move (Operand.tmp 3), type := 48, pos := "law.go:57", after := #[], guard := none }) (v := ?_) rfl (by kernel_rfl) (by kernel_rfl) (by kernel_rfl) (fun _ _ _ h => h) (Or.inl ⟨by rfl, ?_⟩) (by assumption) ?_
          rotate_left
          · (intro w hSw; (try dsimp only at hSw); go_simp); all_goals with_reducible rfl
          try simp only [Act.put, List.setIfInBounds_toArray, List.set_cons_zero, List.set_cons_succ]
          refine wpAnyH_take (i := 2) (oi := { dst := some 48, op := Op.load 58 (Operand.tmp 4), type := 58, pos := "law.go:57", after := #[], guard := none }) (v := .agg ((y).map (Value.int .u64)).toArray) rfl (by kernel_rfl) (by kernel_rfl) (by kernel_rfl) (fun _ _ _ h => h) (yieldsIf_load_mid (by rfl) 58 (.tmp 4) rfl w1.heap.size 0 rfl ((y).map (Value.int .u64)) (.array 16 50) (fun w' h => And.left h) hu58 rfl hi58) (by assumption) ?_
          try simp only [Act.put, List.setIfInBounds_toArray, List.set_cons_zero, List.set_cons_succ]
          refine wpAnyH_ready (rs := [1]) (by kernel_rfl) (by simp) ?_
          refine AllReadyH.cons (o := { dst := some 47, op := Op.call { callee := Callee.value (Operand.func 20), args := #[Operand.tmp 46], argTypes := #[48] }, type := 54, pos := "law.go:57", after := #[{ on := 0, ground := Ground.data }], guard := none }) rfl (fun K hK => ?_) AllReadyH.nil
          go_simp
          refine (all_ok w.heap.size (y) _ HTd.out HGS.out.1).mono ?_
          rintro e' w7 ⟨v7, rfl, hR7, hb⟩
          have HT7 := Lib.hid (tis_b hb HTd.out)
          have HM7 := Lib.hid (bis_b hb HMd.out)
          have hq7 := blk_b hb hqd
          have HB7 := Lib.hid (bel_b hb HBd.out)
          obtain ⟨A7, c7, e7⟩ := Kd.R_slice hR7
          rw [HGS.out.1] at e7
          subst e7
          have HC7 := Lib.hid (Kd.R_reads' hR7).2.2
          clear hR7
          clear hb
          have hr7 := range_of HM7.out
          have qd7 : w7.cell? ⟨wr.heap.size, 0, none⟩ = some (.int .i64 (l[k]).1) := (blk_cell hq7 0).trans rfl
          go_wp2_with fail
          refine hK.out _ _ ?_ (fun hHeld => ?_)
          · (refine ⟨?_, ?_⟩ <;> with_reducible assumption)
          clear hK K
          try simp only [Act.put, List.setIfInBounds_toArray, List.set_cons_zero, List.set_cons_succ]
          refine wpAnyH_ready (rs := [3]) (by kernel_rfl) (by simp) ?_
          refine AllReadyH.cons (o := { dst := some 49, op := Op.call { callee := Callee.value (Operand.func 21), args := #[Operand.tmp 47, Operand.tmp 48], argTypes := #[54, 58] }, type := 4, pos := "law.go:57", after := #[{ on := 1, ground := Ground.data }, { on := 2, ground := Ground.data }, { on := 1, ground := Ground.chain }], guard := none }) rfl (fun K hK => ?_) AllReadyH.nil
          go_simp
          refine (same_ok A7 c7 (y) _ HC7.out HGS.out.1).mono ?_
          rintro e' w8 ⟨rfl, hb⟩
          have HT8 := Lib.hid (tis_b hb HT7.out)
          have HM8 := Lib.hid (bis_b hb HM7.out)
          have hq8 := blk_b hb hq7
          have HB8 := Lib.hid (bel_b hb HB7.out)
          clear hb
          have hr8 := range_of HM8.out
          have qd8 : w8.cell? ⟨wr.heap.size, 0, none⟩ = some (.int .i64 (l[k]).1) := (blk_cell hq8 0).trans rfl
          go_wp2_with fail
          refine hK.out _ _ ?_ (fun hHeld => ?_)
          · (refine ⟨?_, ?_⟩ <;> with_reducible assumption)
          clear hK K
          try simp only [Act.put, List.setIfInBounds_toArray, List.set_cons_zero, List.set_cons_succ]
          refine wpAnyH_take (i := 4) (oi := { dst := some 50, op := Op.unOp UnOp.not 4 (Operand.tmp 49), type := 4, pos := "law.go:57", after := #[{ on := 3, ground := Ground.data }], guard := none }) (v := ?_) rfl (by kernel_rfl) (by kernel_rfl) (by kernel_rfl) (fun _ _ _ h => h) (Or.inl ⟨by rfl, ?_⟩) (by assumption) ?_
          rotate_left
          · (intro w hSw; (try dsimp only at hSw); go_simp); all_goals with_reducible rfl
          try simp only [Act.put, List.setIfInBounds_toArray, List.set_cons_zero, List.set_cons_succ]
          refine wpAnyH_take (i := 5) (oi := { dst := some 51, op := Op.move (Operand.tmp 50), type := 4, pos := "law.go:57", after := #[{ on := 4, ground := Ground.data }, { on := 3, ground := Ground.chain }], guard := none }) (v := ?_) rfl (by kernel_rfl) (by kernel_rfl) (by kernel_rfl) (fun _ _ _ h => h) (Or.inl ⟨by rfl, ?_⟩) (by assumption) ?_
          rotate_left
          · (intro w hSw; (try dsimp only at hSw); go_simp); all_goals with_reducible rfl
          try simp only [Act.put, List.setIfInBounds_toArray, List.set_cons_zero, List.set_cons_succ]
          refine wpAnyH_take (i := 6) (oi := { dst := some 52, op := Op.move (Operand.tmp 3), type := 48, pos := "law.go:57", after := #[{ on := 5, ground := Ground.guard }], guard := some (5, false) }) (v := ?_) rfl (by kernel_rfl) (by kernel_rfl) (by kernel_rfl) (fun _ _ _ h => h) (Or.inl ⟨by rfl, ?_⟩) (by assumption) ?_
          rotate_left
          · (intro w hSw; (try dsimp only at hSw); go_simp); all_goals with_reducible rfl
          try simp only [Act.put, List.setIfInBounds_toArray, List.set_cons_zero, List.set_cons_succ]
          refine wpAnyH_take (i := 7) (oi := { dst := some 53, op := Op.fieldAddr 52 (Operand.tmp 6) 0, type := 0, pos := "law.go:57", after := #[{ on := 5, ground := Ground.guard }], guard := some (5, false) }) (v := ?_) rfl (by kernel_rfl) (by kernel_rfl) (by kernel_rfl) (fun _ _ _ h => h) (Or.inl ⟨by rfl, ?_⟩) (by assumption) ?_
          rotate_left
          · (intro w hSw; (try dsimp only at hSw); go_simp); all_goals with_reducible rfl
          try simp only [Act.put, List.setIfInBounds_toArray, List.set_cons_zero, List.set_cons_succ]
          refine wpAnyH_take (i := 8) (oi := { dst := some 54, op := Op.load 3 (Operand.tmp 53), type := 3, pos := "law.go:57", after := #[{ on := 7, ground := Ground.data }, { on := 5, ground := Ground.guard }], guard := some (5, false) }) (v := ?_) rfl (by kernel_rfl) (by kernel_rfl) (by kernel_rfl) (fun _ _ _ h => h) (Or.inl ⟨by rfl, ?_⟩) (by assumption) ?_
          rotate_left
          · (intro w hSw; (try dsimp only at hSw); go_simp); all_goals with_reducible rfl
          try simp only [Act.put, List.setIfInBounds_toArray, List.set_cons_zero, List.set_cons_succ]
          refine wpAnyH_take (i := 11) (oi := { dst := some 57, op := Op.fieldAddr 52 (Operand.tmp 6) 0, type := 0, pos := "law.go:57", after := #[{ on := 5, ground := Ground.guard }], guard := some (5, false) }) (v := ?_) rfl (by kernel_rfl) (by kernel_rfl) (by kernel_rfl) (fun _ _ _ h => h) (Or.inl ⟨by rfl, ?_⟩) (by assumption) ?_
          rotate_left
          · (intro w hSw; (try dsimp only at hSw); go_simp); all_goals with_reducible rfl
          try simp only [Act.put, List.setIfInBounds_toArray, List.set_cons_zero, List.set_cons_succ]
          refine wpAnyH_take (i := 12) (oi := { dst := some 58, op := Op.load 3 (Operand.tmp 57), type := 3, pos := "law.go:57", after := #[{ on := 11, ground := Ground.data }, { on := 5, ground := Ground.guard }], guard := some (5, false) }) (v := ?_) rfl (by kernel_rfl) (by kernel_rfl) (by kernel_rfl) (fun _ _ _ h => h) (Or.inl ⟨by rfl, ?_⟩) (by assumption) ?_
          rotate_left
          · (intro w hSw; (try dsimp only at hSw); go_simp); all_goals with_reducible rfl
          try simp only [Act.put, List.setIfInBounds_toArray, List.set_cons_zero, List.set_cons_succ]
          refine wpAnyH_take (i := 10) (oi := { dst := some 56, op := Op.load 58 (Operand.tmp 4), type := 58, pos := "law.go:57", after := #[{ on := 5, ground := Ground.guard }], guard := some (5, false) }) (v := .agg ((y).map (Value.int .u64)).toArray) rfl (by kernel_rfl) (by kernel_rfl) (by kernel_rfl) (fun _ _ _ h => h) (yieldsIf_load_mid (by rfl) 58 (.tmp 4) rfl w1.heap.size 0 rfl ((y).map (Value.int .u64)) (.array 16 50) (fun w' h => And.left h) hu58 rfl hi58) (by assumption) ?_
          try simp only [Act.put, List.setIfInBounds_toArray, List.set_cons_zero, List.set_cons_succ]
          refine wpAnyH_ready (rs := [9]) (by kernel_rfl) (by simp) ?_
          refine AllReadyH.cons (o := { dst := some 55, op := Op.call { callee := Callee.value (Operand.func 24), args := #[Operand.tmp 52, Operand.tmp 54], argTypes := #[48, 3] }, type := 50, pos := "law.go:57", after := #[{ on := 6, ground := Ground.data }, { on := 8, ground := Ground.data }, { on := 5, ground := Ground.chain }, { on := 5, ground := Ground.guard }], guard := some (5, false) }) rfl (fun K hK => ?_) AllReadyH.nil
          go_simp
          refine (get_ok w.heap.size (y) _ _ HT8.out HGS.out.1).mono ?_
          rintro e' w9 ⟨rfl, rfl⟩
          go_wp2_with fail
          refine hK.out _ _ ?_ (fun hHeld => ?_)
          · (refine ⟨?_, ?_⟩ <;> with_reducible assumption)
          clear hK K
          try simp only [Act.put, List.setIfInBounds_toArray, List.set_cons_zero, List.set_cons_succ]
          refine wpAnyH_ready (rs := [13]) (by kernel_rfl) (by simp) ?_
          refine AllReadyH.cons (o := { dst := some 59, op := Op.call { callee := Callee.value (Operand.func 25), args := #[Operand.tmp 56, Operand.tmp 58], argTypes := #[58, 3] }, type := 50, pos := "law.go:57", after := #[{ on := 10, ground := Ground.data }, { on := 12, ground := Ground.data }, { on := 9, ground := Ground.chain }, { on := 5, ground := Ground.guard }], guard := some (5, false) }) rfl (fun K hK => ?_) AllReadyH.nil
          go_simp
          refine (refget_ok (y) _ _ HGS.out.1).mono ?_
          rintro e' w10 ⟨rfl, hb⟩
          have HT10 := Lib.hid (tis_b hb HT8.out)
          have HM10 := Lib.hid (bis_b hb HM8.out)
          have hq10 := blk_b hb hq8
          have HB10 := Lib.hid (bel_b hb HB8.out)
          clear hb
          have hr10 := range_of HM10.out
          have qd10 : w10.cell? ⟨wr.heap.size, 0, none⟩ = some (.int .i64 (l[k]).1) := (blk_cell hq10 0).trans rfl
          go_wp2_with fail
          refine hK.out _ _ ?_ (fun hHeld => ?_)
          · (refine ⟨?_, ?_⟩ <;> with_reducible assumption)
          clear hK K
          try simp only [Act.put, List.setIfInBounds_toArray, List.set_cons_zero, List.set_cons_succ]
          refine wpAnyH_take (i := 14) (oi := { dst := some 60, op := Op.binOp BinOp.neq 50 (Operand.tmp 55) (Operand.tmp 59) 50, type := 4, pos := "law.go:57", after := #[{ on := 9, ground := Ground.data }, { on := 13, ground := Ground.data }, { on := 5, ground := Ground.guard }], guard := some (5, false) }) (v := ?_) rfl (by kernel_rfl) (by kernel_rfl) (by kernel_rfl) (fun _ _ _ h => h) (Or.inl ⟨by rfl, ?_⟩) (by assumption) ?_
          rotate_left
          · (intro w hSw; (try dsimp only at hSw); go_simp); all_goals with_reducible rfl
          try simp only [Act.put, List.setIfInBounds_toArray, List.set_cons_zero, List.set_cons_succ]
          refine wpAnyH_take (i := 15) (oi := { dst := some 61, op := Op.pick (Operand.tmp 51) (Operand.const (Value.bool true)) (Operand.tmp 60), type := 4, pos := "law.go:57", after := #[{ on := 5, ground := Ground.data }, { on := 14, ground := Ground.data }], guard := none }) (v := ?_) rfl (by kernel_rfl) (by kernel_rfl) (by kernel_rfl) (fun _ _ _ h => h) (Or.inl ⟨by rfl, ?_⟩) (by assumption) ?_
          rotate_left
          · (intro w hSw; (try dsimp only at hSw); go_simp); all_goals with_reducible rfl
          try simp only [Act.put, List.setIfInBounds_toArray, List.set_cons_zero, List.set_cons_succ]
          refine wpAnyH_done (by kernel_rfl) ?_ _
          refine NoPanic.normal ?_
          go_wp2_with fail
          go_roundw
          case rel => exact ⟨k + 1, by omega, by go_num, y, HGS.out, HT10.out, HM10.out, HB10.out⟩
          case measure => simp [intOf]; omega
        · rw [hrs] at hc2'
          clear hrs
          have HT := Lib.hid hT
          have HM := Lib.hid hM
          clear hT hM hg
          go_wp2_with fail
          refine ta_CW (fun W3 hW3 => ?_)
          have hq3 := blk_new wr (.cells #[.int .i64 (l[k]).1, .int .u64 (l[k]).2.1, .bool true] 52)
          rw [← hW3] at hq3
          have hb3 : Below wr.heap.size wr W3 := by rw [hW3]; exact below_alloc (Below.refl _ _) _
          clear hW3
          have HT3 := Lib.hid (tis_b hb3 HT.out)
          have HM3 := Lib.hid (bis_b hb3 HM.out)
          have hB3 := below_call hB hb3
          clear hb3 HT HM
          have HTd := Lib.hid (tis_d HT3.out)
          have HMd := Lib.hid (bis_d HM3.out)
          have hqd := blk_d hq3
          have HBd := Lib.hid (bel_drew hB3)
          have hrd := range_of HMd.out
          have hbd : w1.heap.size < W3.drew.heap.size := blk_lt HMd.out
          have hi58 : (Try.prog.info? 58).map (·.size) = some (s.map (Value.int .u64)).length := by rw [List.length_map, HG.out.1]; kernel_rfl
          go_region_held3 (fun w' => w'.rangeAt w1.heap.size 0 (s.map (Value.int .u64))) (with_reducible assumption) (first | (go_at_call 22; refine (reset_ok w.heap.size s _ HTd.out HG.out.1).mono ?_; rintro e' w7 ⟨v7, rfl, hR7, hT7, hsz7, hk7, hb7⟩; have HT7 := Lib.hid hT7; have HM7 := Lib.hid (show BIs w7 w1.heap.size s from (hk7 _ hbd (Ne.symm hab)).trans HMd.out); have hq7 := (hk7 wr.heap.size (blk_lt hqd) (by omega)).trans hqd; have HB7 := Lib.hid (show Below w.heap.size w w7 from HBd.out.trans (hb7 w.heap.size (Nat.le_refl _))); obtain ⟨A7, c7, e7⟩ := Kd.R_slice hR7; rw [HG.out.1] at e7; subst e7; have HC7 := Lib.hid (Kd.R_reads' hR7).2.2; clear hR7 hT7 hsz7 hk7 hb7; have hr7 := range_of HM7.out) | (go_at_call 21; refine (same_ok A7 c7 s _ HC7.out HG.out.1).mono ?_; rintro e' w8 ⟨rfl, hb⟩; have HT8 := Lib.hid (tis_b hb HT7.out); have HM8 := Lib.hid (bis_b hb HM7.out); have hq8 := blk_b hb hq7; have HB8 := Lib.hid (bel_b hb HB7.out); clear hb; have hr8 := range_of HM8.out))
          have qb0 : w8.cell? ⟨wr.heap.size, 0, none⟩ = some (.int .i64 (l[k]).1) := (blk_cell hq8 0).trans rfl
          have qb1 : w8.cell? ⟨wr.heap.size, 1, none⟩ = some (.int .u64 (l[k]).2.1) := (blk_cell hq8 1).trans rfl
          have qb2 : w8.cell? ⟨wr.heap.size, 2, none⟩ = some (.bool true) := (blk_cell hq8 2).trans rfl
          have HGS := Lib.hid zero_good
          have hB8 := HB8.out
          go_wp2_with (refine store_arm (w := w) (l' := zero16) rfl rfl rfl rfl rfl HM8.out HG.out.1 HGS.out.1 hB8 hs1 ?_; intro W6 hM6 hB6 hfar6 hsz6)
          have HT6 := Lib.hid (show TIs W6 w.heap.size zero16 from (hfar6 _ hab).trans HT8.out)
          have HM6 := Lib.hid hM6
          have hq6 := (hfar6 wr.heap.size (by omega)).trans hq8
          have hbq : wr.heap.size < W6.heap.size := blk_lt hq6
          clear hfar6 hsz6 hq8 HT8 HM8 hB8 qb0 qb1 qb2 hM6
          have qc0 : W6.cell? ⟨wr.heap.size, 0, none⟩ = some (.int .i64 (l[k]).1) := (blk_cell hq6 0).trans rfl
          have qc1 : W6.cell? ⟨wr.heap.size, 1, none⟩ = some (.int .u64 (l[k]).2.1) := (blk_cell hq6 1).trans rfl
          have qc2 : W6.cell? ⟨wr.heap.size, 2, none⟩ = some (.bool true) := (blk_cell hq6 2).trans rfl
          have HTd := Lib.hid (tis_d HT6.out)
          have HMd := Lib.hid (bis_d HM6.out)
          have hqd := blk_d hq6
          have HBd := Lib.hid (bel_drew hB6)
          have hrd := range_of HMd.out
          have qdd : W6.drew.cell? ⟨wr.heap.size, 0, none⟩ = some (.int .i64 (l[k]).1) := (blk_cell hqd 0).trans rfl
          have hi58 : (Try.prog.info? 58).map (·.size) = some ((zero16).map (Value.int .u64)).length := by rw [List.length_map, HGS.out.1]; kernel_rfl
          clear qc0 qc1 qc2
          refine wp_region_noPanic ?_
          refine wp_region_held_drew (S := (fun w' => w'.rangeAt w1.heap.size 0 ((zero16).map (Value.int .u64)) ∧ w'.cell? ⟨wr.heap.size, 0, none⟩ = some (.int .i64 (l[k]).1))) (by kernel_rfl) (by refine ⟨?_, ?_⟩ <;> with_reducible assumption) (fun hHeld => ?_)
          refine wpAnyH_take (i := 0) (oi := { dst := some 46, op := Op.move (Operand.tmp 3), type := 48, pos := "law.go:57", after := #[], guard := none }) (v := ?_) rfl (by kernel_rfl) (by kernel_rfl) (by kernel_rfl) (fun _ _ _ h => h) (Or.inl ⟨by rfl, ?_⟩) (by assumption) ?_
          rotate_left
          · (intro w hSw; (try dsimp only at hSw); go_simp); all_goals with_reducible rfl
          try simp only [Act.put, List.setIfInBounds_toArray, List.set_cons_zero, List.set_cons_succ]
          refine wpAnyH_take (i := 2) (oi := { dst := some 48, op := Op.load 58 (Operand.tmp 4), type := 58, pos := "law.go:57", after := #[], guard := none }) (v := .agg ((zero16).map (Value.int .u64)).toArray) rfl (by kernel_rfl) (by kernel_rfl) (by kernel_rfl) (fun _ _ _ h => h) (yieldsIf_load_mid (by rfl) 58 (.tmp 4) rfl w1.heap.size 0 rfl ((zero16).map (Value.int .u64)) (.array 16 50) (fun w' h => And.left h) hu58 rfl hi58) (by assumption) ?_
          try simp only [Act.put, List.setIfInBounds_toArray, List.set_cons_zero, List.set_cons_succ]
          refine wpAnyH_ready (rs := [1]) (by kernel_rfl) (by simp) ?_
          refine AllReadyH.cons (o := { dst := some 47, op := Op.call { callee := Callee.value (Operand.func 20), args := #[Operand.tmp 46], argTypes := #[48] }, type := 54, pos := "law.go:57", after := #[{ on := 0, ground := Ground.data }], guard := none }) rfl (fun K hK => ?_) AllReadyH.nil
          go_simp
          refine (all_ok w.heap.size (zero16) _ HTd.out HGS.out.1).mono ?_
          rintro e' w7 ⟨v7, rfl, hR7, hb⟩
          have HT7 := Lib.hid (tis_b hb HTd.out)
          have HM7 := Lib.hid (bis_b hb HMd.out)
          have hq7 := blk_b hb hqd
          have HB7 := Lib.hid (bel_b hb HBd.out)
          obtain ⟨A7, c7, e7⟩ := Kd.R_slice hR7
          rw [HGS.out.1] at e7
          subst e7
          have HC7 := Lib.hid (Kd.R_reads' hR7).2.2
          clear hR7
          clear hb
          have hr7 := range_of HM7.out
          have qd7 : w7.cell? ⟨wr.heap.size, 0, none⟩ = some (.int .i64 (l[k]).1) := (blk_cell hq7 0).trans rfl
          go_wp2_with fail
          refine hK.out _ _ ?_ (fun hHeld => ?_)
          · (refine ⟨?_, ?_⟩ <;> with_reducible assumption)
          clear hK K
          try simp only [Act.put, List.setIfInBounds_toArray, List.set_cons_zero, List.set_cons_succ]
          refine wpAnyH_ready (rs := [3]) (by kernel_rfl) (by simp) ?_
          refine AllReadyH.cons (o := { dst := some 49, op := Op.call { callee := Callee.value (Operand.func 21), args := #[Operand.tmp 47, Operand.tmp 48], argTypes := #[54, 58] }, type := 4, pos := "law.go:57", after := #[{ on := 1, ground := Ground.data }, { on := 2, ground := Ground.data }, { on := 1, ground := Ground.chain }], guard := none }) rfl (fun K hK => ?_) AllReadyH.nil
          go_simp
          refine (same_ok A7 c7 (zero16) _ HC7.out HGS.out.1).mono ?_
          rintro e' w8 ⟨rfl, hb⟩
          have HT8 := Lib.hid (tis_b hb HT7.out)
          have HM8 := Lib.hid (bis_b hb HM7.out)
          have hq8 := blk_b hb hq7
          have HB8 := Lib.hid (bel_b hb HB7.out)
          clear hb
          have hr8 := range_of HM8.out
          have qd8 : w8.cell? ⟨wr.heap.size, 0, none⟩ = some (.int .i64 (l[k]).1) := (blk_cell hq8 0).trans rfl
          go_wp2_with fail
          refine hK.out _ _ ?_ (fun hHeld => ?_)
          · (refine ⟨?_, ?_⟩ <;> with_reducible assumption)
          clear hK K
          try simp only [Act.put, List.setIfInBounds_toArray, List.set_cons_zero, List.set_cons_succ]
          refine wpAnyH_take (i := 4) (oi := { dst := some 50, op := Op.unOp UnOp.not 4 (Operand.tmp 49), type := 4, pos := "law.go:57", after := #[{ on := 3, ground := Ground.data }], guard := none }) (v := ?_) rfl (by kernel_rfl) (by kernel_rfl) (by kernel_rfl) (fun _ _ _ h => h) (Or.inl ⟨by rfl, ?_⟩) (by assumption) ?_
          rotate_left
          · (intro w hSw; (try dsimp only at hSw); go_simp); all_goals with_reducible rfl
          try simp only [Act.put, List.setIfInBounds_toArray, List.set_cons_zero, List.set_cons_succ]
          refine wpAnyH_take (i := 5) (oi := { dst := some 51, op := Op.move (Operand.tmp 50), type := 4, pos := "law.go:57", after := #[{ on := 4, ground := Ground.data }, { on := 3, ground := Ground.chain }], guard := none }) (v := ?_) rfl (by kernel_rfl) (by kernel_rfl) (by kernel_rfl) (fun _ _ _ h => h) (Or.inl ⟨by rfl, ?_⟩) (by assumption) ?_
          rotate_left
          · (intro w hSw; (try dsimp only at hSw); go_simp); all_goals with_reducible rfl
          try simp only [Act.put, List.setIfInBounds_toArray, List.set_cons_zero, List.set_cons_succ]
          refine wpAnyH_take (i := 6) (oi := { dst := some 52, op := Op.move (Operand.tmp 3), type := 48, pos := "law.go:57", after := #[{ on := 5, ground := Ground.guard }], guard := some (5, false) }) (v := ?_) rfl (by kernel_rfl) (by kernel_rfl) (by kernel_rfl) (fun _ _ _ h => h) (Or.inl ⟨by rfl, ?_⟩) (by assumption) ?_
          rotate_left
          · (intro w hSw; (try dsimp only at hSw); go_simp); all_goals with_reducible rfl
          try simp only [Act.put, List.setIfInBounds_toArray, List.set_cons_zero, List.set_cons_succ]
          refine wpAnyH_take (i := 7) (oi := { dst := some 53, op := Op.fieldAddr 52 (Operand.tmp 6) 0, type := 0, pos := "law.go:57", after := #[{ on := 5, ground := Ground.guard }], guard := some (5, false) }) (v := ?_) rfl (by kernel_rfl) (by kernel_rfl) (by kernel_rfl) (fun _ _ _ h => h) (Or.inl ⟨by rfl, ?_⟩) (by assumption) ?_
          rotate_left
          · (intro w hSw; (try dsimp only at hSw); go_simp); all_goals with_reducible rfl
          try simp only [Act.put, List.setIfInBounds_toArray, List.set_cons_zero, List.set_cons_succ]
          refine wpAnyH_take (i := 8) (oi := { dst := some 54, op := Op.load 3 (Operand.tmp 53), type := 3, pos := "law.go:57", after := #[{ on := 7, ground := Ground.data }, { on := 5, ground := Ground.guard }], guard := some (5, false) }) (v := ?_) rfl (by kernel_rfl) (by kernel_rfl) (by kernel_rfl) (fun _ _ _ h => h) (Or.inl ⟨by rfl, ?_⟩) (by assumption) ?_
          rotate_left
          · (intro w hSw; (try dsimp only at hSw); go_simp); all_goals with_reducible rfl
          try simp only [Act.put, List.setIfInBounds_toArray, List.set_cons_zero, List.set_cons_succ]
          refine wpAnyH_take (i := 11) (oi := { dst := some 57, op := Op.fieldAddr 52 (Operand.tmp 6) 0, type := 0, pos := "law.go:57", after := #[{ on := 5, ground := Ground.guard }], guard := some (5, false) }) (v := ?_) rfl (by kernel_rfl) (by kernel_rfl) (by kernel_rfl) (fun _ _ _ h => h) (Or.inl ⟨by rfl, ?_⟩) (by assumption) ?_
          rotate_left
          · (intro w hSw; (try dsimp only at hSw); go_simp); all_goals with_reducible rfl
          try simp only [Act.put, List.setIfInBounds_toArray, List.set_cons_zero, List.set_cons_succ]
          refine wpAnyH_take (i := 12) (oi := { dst := some 58, op := Op.load 3 (Operand.tmp 57), type := 3, pos := "law.go:57", after := #[{ on := 11, ground := Ground.data }, { on := 5, ground := Ground.guard }], guard := some (5, false) }) (v := ?_) rfl (by kernel_rfl) (by kernel_rfl) (by kernel_rfl) (fun _ _ _ h => h) (Or.inl ⟨by rfl, ?_⟩) (by assumption) ?_
          rotate_left
          · (intro w hSw; (try dsimp only at hSw); go_simp); all_goals with_reducible rfl
          try simp only [Act.put, List.setIfInBounds_toArray, List.set_cons_zero, List.set_cons_succ]
          refine wpAnyH_take (i := 10) (oi := { dst := some 56, op := Op.load 58 (Operand.tmp 4), type := 58, pos := "law.go:57", after := #[{ on := 5, ground := Ground.guard }], guard := some (5, false) }) (v := .agg ((zero16).map (Value.int .u64)).toArray) rfl (by kernel_rfl) (by kernel_rfl) (by kernel_rfl) (fun _ _ _ h => h) (yieldsIf_load_mid (by rfl) 58 (.tmp 4) rfl w1.heap.size 0 rfl ((zero16).map (Value.int .u64)) (.array 16 50) (fun w' h => And.left h) hu58 rfl hi58) (by assumption) ?_
          try simp only [Act.put, List.setIfInBounds_toArray, List.set_cons_zero, List.set_cons_succ]
          refine wpAnyH_ready (rs := [9]) (by kernel_rfl) (by simp) ?_
          refine AllReadyH.cons (o := { dst := some 55, op := Op.call { callee := Callee.value (Operand.func 24), args := #[Operand.tmp 52, Operand.tmp 54], argTypes := #[48, 3] }, type := 50, pos := "law.go:57", after := #[{ on := 6, ground := Ground.data }, { on := 8, ground := Ground.data }, { on := 5, ground := Ground.chain }, { on := 5, ground := Ground.guard }], guard := some (5, false) }) rfl (fun K hK => ?_) AllReadyH.nil
          go_simp
          refine (get_ok w.heap.size (zero16) _ _ HT8.out HGS.out.1).mono ?_
          rintro e' w9 ⟨rfl, rfl⟩
          go_wp2_with fail
          refine hK.out _ _ ?_ (fun hHeld => ?_)
          · (refine ⟨?_, ?_⟩ <;> with_reducible assumption)
          clear hK K
          try simp only [Act.put, List.setIfInBounds_toArray, List.set_cons_zero, List.set_cons_succ]
          refine wpAnyH_ready (rs := [13]) (by kernel_rfl) (by simp) ?_
          refine AllReadyH.cons (o := { dst := some 59, op := Op.call { callee := Callee.value (Operand.func 25), args := #[Operand.tmp 56, Operand.tmp 58], argTypes := #[58, 3] }, type := 50, pos := "law.go:57", after := #[{ on := 10, ground := Ground.data }, { on := 12, ground := Ground.data }, { on := 9, ground := Ground.chain }, { on := 5, ground := Ground.guard }], guard := some (5, false) }) rfl (fun K hK => ?_) AllReadyH.nil
          go_simp
          refine (refget_ok (zero16) _ _ HGS.out.1).mono ?_
          rintro e' w10 ⟨rfl, hb⟩
          have HT10 := Lib.hid (tis_b hb HT8.out)
          have HM10 := Lib.hid (bis_b hb HM8.out)
          have hq10 := blk_b hb hq8
          have HB10 := Lib.hid (bel_b hb HB8.out)
          clear hb
          have hr10 := range_of HM10.out
          have qd10 : w10.cell? ⟨wr.heap.size, 0, none⟩ = some (.int .i64 (l[k]).1) := (blk_cell hq10 0).trans rfl
          go_wp2_with fail
          refine hK.out _ _ ?_ (fun hHeld => ?_)
          · (refine ⟨?_, ?_⟩ <;> with_reducible assumption)
          clear hK K
          try simp only [Act.put, List.setIfInBounds_toArray, List.set_cons_zero, List.set_cons_succ]
          refine wpAnyH_take (i := 14) (oi := { dst := some 60, op := Op.binOp BinOp.neq 50 (Operand.tmp 55) (Operand.tmp 59) 50, type := 4, pos := "law.go:57", after := #[{ on := 9, ground := Ground.data }, { on := 13, ground := Ground.data }, { on := 5, ground := Ground.guard }], guard := some (5, false) }) (v := ?_) rfl (by kernel_rfl) (by kernel_rfl) (by kernel_rfl) (fun _ _ _ h => h) (Or.inl ⟨by rfl, ?_⟩) (by assumption) ?_
          rotate_left
          · (intro w hSw; (try dsimp only at hSw); go_simp); all_goals with_reducible rfl
          try simp only [Act.put, List.setIfInBounds_toArray, List.set_cons_zero, List.set_cons_succ]
          refine wpAnyH_take (i := 15) (oi := { dst := some 61, op := Op.pick (Operand.tmp 51) (Operand.const (Value.bool true)) (Operand.tmp 60), type := 4, pos := "law.go:57", after := #[{ on := 5, ground := Ground.data }, { on := 14, ground := Ground.data }], guard := none }) (v := ?_) rfl (by kernel_rfl) (by kernel_rfl) (by kernel_rfl) (fun _ _ _ h => h) (Or.inl ⟨by rfl, ?_⟩) (by assumption) ?_
          rotate_left
          · (intro w hSw; (try dsimp only at hSw); go_simp); all_goals with_reducible rfl
          try simp only [Act.put, List.setIfInBounds_toArray, List.set_cons_zero, List.set_cons_succ]
          refine wpAnyH_done (by kernel_rfl) ?_ _
          refine NoPanic.normal ?_
          go_wp2_with fail
          go_roundw
          case rel => exact ⟨k + 1, by omega, by go_num, zero16, HGS.out, HT10.out, HM10.out, HB10.out⟩
          case measure => simp [intOf]; omega
      · have HT := Lib.hid hT
        have HM := Lib.hid hM
        clear hT hM hg
        go_wp2_with fail
        refine (awake_ok _).mono ?_
        rintro e' w3 ⟨rfl, hb3⟩
        have hB3 := below_call hB hb3
        go_wp2_with fail
        go_ret
        exact ⟨rfl, hB3⟩
end Go.Proofs.Ytehicbehljfkhaa.Ta
