/- Tables of addresses: without, Sweep, Flush. -/
import Derived.Test.YtmlenepeocginaaGvFdLearn
namespace Go.Proofs.Ytmlenepeocginaa.Gv
open Go.RowKit Go.Maps Go.WideElems Go.Lib Go.Proofs.YtmlenepeocginaaW.PrintWords Go.Proofs.YtmlenepeocginaaW.PrintLast Go.Proofs.YtmlenepeocginaaW.PrintMore
set_option linter.unusedVariables false
set_option linter.unusedSimpArgs false
/-- What is left behind a walk over some rows. -/
def gone (g : Rw → Bool) (L : List Rw) (xs : List Rw) : List Rw := xs.foldl (fun M r => if g r = true then M.filter (fun q => decide (rk q ≠ rk r)) else M) L
theorem gone_snoc (g : Rw → Bool) (L xs : List Rw) (k : Nat) (h : k < xs.length) : gone g L (xs.take (k + 1)) = if g xs[k] = true then (gone g L (xs.take k)).filter (fun q => decide (rk q ≠ rk xs[k])) else gone g L (xs.take k) := by
  unfold gone
  rw [List.take_succ_eq_append_getElem h, List.foldl_append]
  rfl
theorem gone_le (g : Rw → Bool) (xs : List Rw) : ∀ L : List Rw, (gone g L xs).length ≤ L.length := by
  induction xs with
  | nil => intro L; exact Nat.le_refl _
  | cons x xs ih =>
    intro L
    unfold gone
    rw [List.foldl_cons]
    refine Nat.le_trans (ih _) ?_
    split
    · exact List.length_filter_le _ _
    · exact Nat.le_refl _
/-- All of a table's rows gone through. -/
theorem gone_all (g : Rw → Bool) : ∀ (xs L : List Rw), gone g L xs = L.filter (fun q => !(xs.any fun r => g r && decide (rk q = rk r))) := by
  intro xs
  induction xs with
  | nil => intro L; exact (List.filter_eq_self.2 (by simp)).symm
  | cons x xs ih =>
    intro L
    have e : gone g L (x :: xs) = gone g (if g x = true then L.filter (fun q => decide (rk q ≠ rk x)) else L) xs := by unfold gone; rw [List.foldl_cons]
    rw [e, ih]
    by_cases hg : g x = true
    · rw [if_pos hg, List.filter_filter]
      refine List.filter_congr ?_
      intro q _
      simp [hg, List.any_cons]
      by_cases hq : rk q = rk x <;> simp [hq]
    · rw [if_neg hg]
      refine List.filter_congr ?_
      intro q _
      have : g x = false := by simpa using hg
      simp [this, List.any_cons]
theorem gone_end (g : Rw → Bool) {L xs : List Rw} (hp : xs.Perm L) (hd : L.Pairwise (fun r q => rk r ≠ rk q)) : gone g L xs = L.filter (fun q => !g q) := by
  rw [gone_all]
  refine List.filter_congr ?_
  intro q hq
  congr 1
  rw [Bool.eq_iff_iff, List.any_eq_true]
  constructor
  · rintro ⟨r, hr, h⟩
    rw [Bool.and_eq_true, decide_eq_true_eq] at h
    rw [pw_inj hd hq (hp.mem_iff.1 hr) h.2]
    exact h.1
  · intro h
    exact ⟨q, hp.mem_iff.2 hq, by simp [h]⟩
theorem grown_below {W W' : World} {row : Option Nat} (h : Below W.heap.size W W') : W.grownBy W' row := ⟨h.os, h.tape, h.output, h.size, fun i hi _ => h.block i hi⟩
theorem grown_trans {a b c : World} {row : Option Nat} (h : a.grownBy b row) (k : b.grownBy c row) : a.grownBy c row := h.trans k
theorem tab_set {w : World} {g j : Nat} {v : Value} {mb : Option Nat} {L : List Rw} (h : Tab w mb L) (hne : some g ≠ mb) : Tab (w.setCell ⟨g, j, none⟩ v) mb L := by
  rcases h with h | ⟨b, nn, D, rfl, h2, h3, h4⟩
  · exact .inl h
  · exact .inr ⟨b, nn, D, rfl, h2, own_set h3 (fun e => hne (by rw [e])), h4⟩
/-- A block of cells is no table's. -/
theorem tab_ne {w : World} {g : Nat} {cs : Array Value} {t : TypeId} {mb : Option Nat} {L : List Rw} (h : Tab w mb L) (hg : w.heap[g]? = some (.cells cs t (0, 0))) : some g ≠ mb := by
  rintro rfl
  rcases h with ⟨e, _⟩ | ⟨b, _, _, e, _, ⟨es, clock, hb, _⟩, _⟩
  · cases e
  · cases e
    rw [hg] at hb
    cases hb
theorem tab_put3 {w : World} {g : Nat} {cs : Array Value} {t : TypeId} {mb : Option Nat} {L : List Rw} {u v x : Value} (h : Tab w mb L) (hg : w.heap[g]? = some (.cells cs t (0, 0))) : Tab (((w.setCell ⟨g, 0, none⟩ u).setCell ⟨g, 1, none⟩ v).setCell ⟨g, 2, none⟩ x) mb L :=
  tab_set (tab_set (tab_set h (tab_ne h hg)) (tab_ne h hg)) (tab_ne h hg)
/-- A slice's rows, cell by cell. -/
def RowCellsAt (w : World) (A : Option Addr) (xs : List Rw) : Prop := ∀ k, (h : k < xs.length) → ∃ gS, A = some ⟨gS, 0, none⟩ ∧ gS < w.heap.size ∧ w.cell? ⟨gS, k * 4, none⟩ = some (.int .u16 xs[k].1) ∧ w.cell? ⟨gS, k * 4 + 1, none⟩ = some (.int .u64 xs[k].2.1) ∧ w.cell? ⟨gS, k * 4 + 2, none⟩ = some (.int .i64 xs[k].2.2.1) ∧ w.cell? ⟨gS, k * 4 + 3, none⟩ = some (.int .i64 xs[k].2.2.2)
theorem rows_cells {w : World} {v : Value} {xs : List Rw} (h : RowsAt w v xs) : ∃ A c, v = .slice A xs.length c ∧ RowCellsAt w A xs := by
  rcases h with ⟨rfl, A, c, rfl⟩ | ⟨g, c, rfl, hg, hH⟩
  · exact ⟨A, c, rfl, fun k hk => absurd hk (by simp)⟩
  · refine ⟨_, c, rfl, fun k hk => ⟨g, rfl, hg, ?_⟩⟩
    have hc : ∀ j, j < 4 → w.cell? ⟨g, k * 4 + j, none⟩ = some ((rowCells xs[k])[j]!) := by
      intro j hj
      have h1 := (hH (k * 4 + j) (by rw [Go.Sort.size_flatK, List.size_toArray]; omega)).1
      rw [Nat.zero_add, Go.Sort.get_flatK _ _ _ _ (by rw [List.size_toArray]; omega)] at h1
      rw [h1, show (k * 4 + j) / 4 = k from by omega, show (k * 4 + j) % 4 = j from by omega]
      simp [hk]
    exact ⟨hc 0 (by omega), hc 1 (by omega), hc 2 (by omega), hc 3 (by omega)⟩
set_option maxHeartbeats 8000000 in
set_option maxRecDepth 100000 in
theorem sweep1_calls (Bt Bn : Nat) (room age now r0 r1 r2 r3 : Int) (mb : Option Nat) (w : World) (h0 : w.cell? ⟨Bt, 0, none⟩ = some (.int .i64 room)) (h1 : w.cell? ⟨Bt, 1, none⟩ = some (.int .i64 age)) (h2 : w.cell? ⟨Bt, 2, none⟩ = some (.map mb)) (h3 : w.cell? ⟨Bn, 0, none⟩ = some (.int .i64 now)) :
    Calls Try.prog 35 #[.agg #[.int .u16 r0, .int .u64 r1, .int .i64 r2, .int .i64 r3], .pointer (some ⟨Bt, 0, none⟩), .pointer (some ⟨Bn, 0, none⟩)] w fun e w' => e = .returned (.bool (decide (age ≤ wrap64 (now - r3)))) ∧ Below w.heap.size w w' := by
  have hB1 : Bt < w.heap.size := World.block_lt_of_cell? w ⟨Bt, 0, none⟩ h0
  have hB2 : Bn < w.heap.size := World.block_lt_of_cell? w ⟨Bn, 0, none⟩ h3
  go_enter Try.func35, Try.ntmps35
  go_wp2_with fail
  refine (old_calls room age r0 r1 r2 r3 now mb _).mono ?_
  rintro e' w1 ⟨rfl, hb⟩
  have hbe : Below w.heap.size w w1 := Below.trans (below_alloc (Below.refl _ _) _) (hb.mono (by simp))
  go_wp2_with fail
  go_ret
  exact ⟨rfl, hbe⟩
set_option maxHeartbeats 8000000 in
set_option maxRecDepth 100000 in
theorem flush1_calls (Bp : Nat) (port r0 r1 r2 r3 : Int) (w : World) (h0 : w.cell? ⟨Bp, 0, none⟩ = some (.int .i64 port)) :
    Calls Try.prog 36 #[.agg #[.int .u16 r0, .int .u64 r1, .int .i64 r2, .int .i64 r3], .pointer (some ⟨Bp, 0, none⟩)] w fun e w' => e = .returned (.bool (decide (port < 0) || r2 == port)) ∧ Below w.heap.size w w' := by
  have hB1 : Bp < w.heap.size := World.block_lt_of_cell? w ⟨Bp, 0, none⟩ h0
  go_enter Try.func36, Try.ntmps36
  go_wp2_with fail
  all_goals go_ret
  · exact ⟨rfl, below_alloc (Below.refl _ _) _⟩
  · rename_i hlt
    exact ⟨by simp [hlt], below_alloc (Below.refl _ _) _⟩
set_option maxHeartbeats 8000000 in
set_option maxRecDepth 100000 in
theorem without_calls (room age : Int) (mb : Option Nat) (L : List Rw) (hL : L.length ≤ 100000) (fid : FuncId) (caps : Array Value) (g : Rw → Bool) (w : World) (hT : Tab w mb L)
    (heg : ∀ args w, (callFunc fid args).run Try.prog w = .ok (.enter fid args) w)
    (hg : ∀ (W : World) (r0 r1 r2 r3 : Int), Below w.heap.size w W → Calls Try.prog fid (#[.agg #[.int .u16 r0, .int .u64 r1, .int .i64 r2, .int .i64 r3]] ++ caps) W fun e W' => e = .returned (.bool (g (r0, r1, r2, r3))) ∧ Below W.heap.size W W') :
    Calls Try.prog 34 #[.agg #[.int .i64 room, .int .i64 age, .map mb], .func (.func fid) #[] caps] w fun e w' => ∃ mb', e = .returned (.agg #[.int .i64 room, .int .i64 age, .map mb']) ∧ Tab w' mb' (L.filter fun q => !g q) ∧ Below w.heap.size w w' := by
  go_enter Try.func34, Try.ntmps34
  have HT := Lib.hid hT
  have HG := Lib.hid hg
  clear hT hg
  go_wp2_with fail
  refine fd_calls_W ?_
  intro W hW
  have B5 : W.heap[w.heap.size]? = some (.cells #[.int .i64 room, .int .i64 age, .map mb] 26) := by rw [hW]; exact blk_alloc (blk_new _ _) _
  have B6 : W.heap[w.heap.size + 1]? = some (.cells #[.int .i64 0, .int .i64 0, .map none] 26) := by rw [hW]; exact fd_blk_new2 _ _ _
  have hBW : Below w.heap.size w W := by rw [hW]; repeat (first | exact Below.refl _ _ | apply below_alloc)
  have hsW : w.heap.size + 2 ≤ W.heap.size := by rw [hW]; simp
  clear hW
  refine (clone_calls mb L W (HT.out.below hBW)).mono ?_
  rintro e' w1 ⟨mb', rfl, hT1, hge, hb1⟩
  have C5 := blk_below B5 hb1
  have C6 := blk_below B6 hb1
  have hB1 : Below w.heap.size w w1 := hBW.trans (hb1.mono hBW.size)
  have hs1 := hb1.size
  have H1 := Lib.hid (And.intro hT1 (And.intro hge (And.intro C5 (And.intro C6 hB1))))
  have hc5_0 : w1.cell? ⟨w.heap.size, 0, none⟩ = some (.int .i64 room) := (blk_cell C5 0).trans rfl
  have hc5_1 : w1.cell? ⟨w.heap.size, 1, none⟩ = some (.int .i64 age) := (blk_cell C5 1).trans rfl
  have hc5_2 : w1.cell? ⟨w.heap.size, 2, none⟩ = some (.map mb) := (blk_cell C5 2).trans rfl
  clear B5 B6 hBW hb1 hT1 hge C5 C6 hB1
  go_wp2_with fail
  refine (rows_calls room age mb L (by omega) w1 (HT.out.below H1.out.2.2.2.2)).mono ?_
  rintro e' w2 ⟨v, xs, rfl, hp, hs, hr, hb2⟩
  obtain ⟨A, c, rfl, hcl⟩ := rows_cells hr
  have hs2 := hb2.size
  have hxl : xs.length ≤ 100000 := by rw [hp.length_eq]; exact hL
  have C5 := blk_below H1.out.2.2.1 hb2
  have C6 := blk_below H1.out.2.2.2.1 hb2
  have H2 := Lib.hid (And.intro hp (And.intro hcl (And.intro C5 (And.intro C6 (And.intro (H1.out.1.below hb2) (H1.out.2.2.2.2.trans (hb2.mono H1.out.2.2.2.2.size)))))))
  clear hp hs hr hb2 hcl C5 C6 hc5_0 hc5_1 hc5_2
  go_wp2_with fail
  go_loopw [14] (fun i wr => ∃ k : Nat, k ≤ xs.length ∧ i = .int .i64 k ∧ Tab wr mb' (gone g L (xs.take k)) ∧ w2.grownBy wr mb') (fun i _ => xs.length - (intOf i).toNat)
  case atStart => exact ⟨0, Nat.zero_le _, rfl, by rw [List.take_zero]; exact H2.out.2.2.2.2.1, World.grownBy.refl _ _⟩
  case round =>
    obtain ⟨k, hk, rfl, hTk, hgr⟩ := hrel
    by_cases hlt : k < xs.length
    · obtain ⟨gS, rfl, hgS, q0, q1, q2, q3⟩ := H2.out.2.1 k hlt
      obtain ⟨b, rfl, hbW⟩ : ∃ b, mb' = some b ∧ W.heap.size ≤ b := by
        rcases H2.out.2.2.2.2.1 with ⟨_, e⟩ | ⟨b, _, _, e, _⟩
        · have hp := H2.out.1
          rw [e] at hp
          rw [hp.eq_nil] at hlt
          exact absurd hlt (by simp)
        · exact ⟨b, e, H1.out.2.1 b e⟩
      have hne : some gS ≠ some b := by
        intro e
        cases e
        rcases H2.out.2.2.2.2.1 with ⟨e, _⟩ | ⟨b', _, _, e, _, ⟨es, clock, hb', _⟩, _⟩
        · cases e
        · cases e
          simp [World.cell?, hb'] at q0
      have hr0 := hgr.cell q0 hne
      have hr1 := hgr.cell q1 hne
      have hr2 := hgr.cell q2 hne
      have hr3 := hgr.cell q3 hne
      have hsr := hgr.size
      have hBr : Below w.heap.size w wr := Below.grown H2.out.2.2.2.2.2 hgr H2.out.2.2.2.2.2.size (by intro j e; cases e; have := H1.out.2.2.2.2.size; omega)
      generalize hx0 : xs[k].1 = x0 at q0 hr0
      generalize hx1 : xs[k].2.1 = x1 at q1 hr1
      generalize hx2 : xs[k].2.2.1 = x2 at q2 hr2
      generalize hx3 : xs[k].2.2.2 = x3 at q3 hr3
      have hxk : xs[k] = (x0, x1, x2, x3) := by rw [← hx0, ← hx1, ← hx2, ← hx3]
      have H3 := Lib.hid (And.intro hTk (And.intro hgr (And.intro hBr hxk)))
      clear hTk hgr hBr hxk hx0 hx1 hx2 hx3 q0 q1 q2 q3 hne
      go_wp2_with fail
      refine (HG.out _ x0 x1 x2 x3 (below_alloc H3.out.2.2.1 _)).mono ?_
      rintro e' w3 ⟨rfl, hb3⟩
      have hs3 := hb3.size
      rw [show (wr.alloc (.cells #[.int .u16 x0, .int .u64 x1, .int .i64 x2, .int .i64 x3] 64)).heap.size = wr.heap.size + 1 from by simp] at hs3
      have hbox : w3.heap[wr.heap.size]? = some (.cells #[.int .u16 x0, .int .u64 x1, .int .i64 x2, .int .i64 x3] 64) := blk_below (blk_new wr _) hb3
      have hx0c : w3.cell? ⟨wr.heap.size, 0, none⟩ = some (.int .u16 x0) := (blk_cell hbox 0).trans rfl
      have hx1c : w3.cell? ⟨wr.heap.size, 1, none⟩ = some (.int .u64 x1) := (blk_cell hbox 1).trans rfl
      have hg3 : w2.grownBy w3 (some b) := (H3.out.2.1.trans (World.grownBy_alloc _ _ _)).trans (grown_below hb3)
      have hT3 : Tab w3 (some b) (gone g L (xs.take k)) := (H3.out.1.below (below_alloc (Below.refl _ _) _)).below hb3
      have hwf : RwIn xs[k] := by
        rcases H2.out.2.2.2.2.1 with ⟨e, _⟩ | ⟨_, _, _, _, h2, _, _⟩
        · cases e
        · exact h2.1 _ (H2.out.1.mem_iff.1 (List.getElem_mem hlt))
      rw [H3.out.2.2.2] at hwf
      have hsn := gone_snoc g L xs k hlt
      rw [H3.out.2.2.2] at hsn
      have H4 := Lib.hid (And.intro hg3 (And.intro hT3 hsn))
      clear hg3 hT3 hsn hb3 hbox hr0 hr1 hr2 hr3
      by_cases hgb : g (x0, x1, x2, x3) = true
      · obtain ⟨nn, D, hD, ho, hn⟩ : ∃ nn D, TD (gone g L (xs.take k)) D ∧ w3.ownsMap Try.prog 69 RR b nn D ∧ nn ≤ 1000000 := by
          rcases H4.out.2.1 with ⟨e, _⟩ | ⟨b', nn, D, e, h2, h3, h4⟩
          · cases e
          · cases e; exact ⟨nn, D, h2, h3, h4⟩
        rw [hgb]
        have HD := Lib.hid (And.intro hD (And.intro hn hgb))
        clear hD hn hgb
        go_wp2_with (at_delete; refine wpList_delete_own _ rfl _ _ 24 69 rfl 64 fd_keyed Try.underlying24 RR b nn D rfl ho _ (kl (x0, x1)) rfl (fd_keyOf (x0, x1) hwf.1 hwf.2) ?_; intro w4 ho4 ht4)
        refine ⟨⟨k + 1, by omega, by simp, ?_, H4.out.1.trans ht4.grown⟩, by simp [intOf]; omega⟩
        rw [H4.out.2.2, if_pos HD.out.2.2]
        exact .inr ⟨b, nn, _, rfl, TD_del HD.out.1 (x0, x1) hwf.1 hwf.2, ho4, HD.out.2.1⟩
      · have hgf : g (x0, x1, x2, x3) = false := by simpa using hgb
        rw [hgf]
        go_wp2_with fail
        refine ⟨⟨k + 1, by omega, by simp, ?_, H4.out.1⟩, by simp [intOf]; omega⟩
        rw [H4.out.2.2, if_neg hgb]
        exact H4.out.2.1
    · have hkx : k = xs.length := by omega
      have hnb : ∀ j, j < W.heap.size → some j ≠ mb' := fun j hj e => by have := H1.out.2.1 j e.symm; omega
      have C5 := blk_grown H2.out.2.2.1 hgr (hnb _ (by omega))
      have C6 := blk_grown H2.out.2.2.2.1 hgr (hnb _ (by omega))
      have hBr : Below w.heap.size w wr := Below.grown H2.out.2.2.2.2.2 hgr H2.out.2.2.2.2.2.size (by intro j e; have := H1.out.2.1 j e; omega)
      have hTd : (L.Pairwise fun r q => rk r ≠ rk q) := by
        rcases H2.out.2.2.2.2.1 with ⟨_, rfl⟩ | ⟨_, _, _, _, h2, _, _⟩
        · exact List.Pairwise.nil
        · exact h2.2.1
      have hTe : Tab wr mb' (L.filter fun q => !g q) := by
        rw [← gone_end g H2.out.1 hTd]
        rw [hkx, List.take_length] at hTk
        exact hTk
      have hsr := hBr.size
      have H3 := Lib.hid (And.intro C5 (And.intro C6 (And.intro hBr hTe)))
      have hc5_0 : wr.cell? ⟨w.heap.size, 0, none⟩ = some (.int .i64 room) := (blk_cell C5 0).trans rfl
      have hc5_1 : wr.cell? ⟨w.heap.size, 1, none⟩ = some (.int .i64 age) := (blk_cell C5 1).trans rfl
      have hc5_2 : wr.cell? ⟨w.heap.size, 2, none⟩ = some (.map mb) := (blk_cell C5 2).trans rfl
      have hf5 := blk_frozen C5 2
      have hc6_0 : wr.cell? ⟨w.heap.size + 1, 0, none⟩ = some (.int .i64 0) := (blk_cell C6 0).trans rfl
      have hc6_1 : wr.cell? ⟨w.heap.size + 1, 1, none⟩ = some (.int .i64 0) := (blk_cell C6 1).trans rfl
      have hc6_2 : wr.cell? ⟨w.heap.size + 1, 2, none⟩ = some (.map none) := (blk_cell C6 2).trans rfl
      have hf6_0 := blk_frozen C6 0
      have hf6_1 := blk_frozen C6 1
      have hf6_2 := blk_frozen C6 2
      have hno := Lib.hid hnb
      clear C5 C6 hBr hTe hTk hgr hnb hTd
      go_wp2_with fail
      (try simp only [Exit.inBlock, Exit.then])
      obtain ⟨E5, E10, hbe2, hTE⟩ := H3.out
      refine bodyPost_ret (results_cell_row rfl _ _ (w.heap.size + 1) 26 #[.int .i64 room, .int .i64 age, .map mb'] (0, 0) _ rfl (by refine blk_put (cs := #[.int .i64 room, .int .i64 age, .map none]) ?_ 2 _ rfl; refine blk_put (cs := #[.int .i64 room, .int .i64 0, .map none]) ?_ 1 _ rfl; refine blk_put (cs := #[.int .i64 0, .int .i64 0, .map none]) ?_ 0 _ rfl; exact blk_far E10 (by simp) _) Try.underlying26 rfl (by kernel_rfl)) rfl ?_
      refine ⟨mb', rfl, ?_, below_set (below_set (below_set (below_set hbe2 (by omega)) (by omega)) (by omega)) (by omega)⟩
      have hn0 := hno.out w.heap.size (by omega)
      have hn1 := hno.out (w.heap.size + 1) (by omega)
      exact tab_set (tab_set (tab_set (tab_set hTE hn0) hn1) hn1) hn1
set_option maxHeartbeats 8000000 in
set_option maxRecDepth 100000 in
theorem sweep_calls (room age now : Int) (mb : Option Nat) (L : List Rw) (hL : L.length ≤ 100000) (w : World) (hT : Tab w mb L) :
    Calls Try.prog 12 #[.agg #[.int .i64 room, .int .i64 age, .map mb], .int .i64 now] w fun e w' => ∃ mb', e = .returned (.agg #[.int .i64 room, .int .i64 age, .map mb']) ∧ Tab w' mb' (L.filter fun q => !(decide (age ≤ wrap64 (now - q.2.2.2)))) ∧ Below w.heap.size w w' := by
  go_enter Try.func12, Try.ntmps12
  have HT := Lib.hid hT
  clear hT
  go_wp2_with fail
  refine fd_calls_W ?_
  intro W hW
  have B5 : W.heap[w.heap.size]? = some (.cells #[.int .i64 room, .int .i64 age, .map mb] 26) := by rw [hW]; exact blk_alloc (blk_alloc (blk_new _ _) _) _
  have B6 : W.heap[w.heap.size + 1]? = some (.cells #[.int .i64 now] 2) := by rw [hW]; exact blk_alloc (fd_blk_new2 _ _ _) _
  have B7 : W.heap[w.heap.size + 1 + 1]? = some (.cells #[.int .i64 0, .int .i64 0, .map none] 26) := by rw [hW]; exact fd_blk_new3 _ _ _ _
  have hBW : Below w.heap.size w W := by rw [hW]; repeat (first | exact Below.refl _ _ | apply below_alloc)
  have hsW : w.heap.size + 3 ≤ W.heap.size := by rw [hW]; simp
  clear hW
  refine (without_calls room age mb L hL 35 #[.pointer (some ⟨w.heap.size, 0, none⟩), .pointer (some ⟨w.heap.size + 1, 0, none⟩)] (fun q => decide (age ≤ wrap64 (now - q.2.2.2))) W (HT.out.below hBW) (enters_of Try.func35 (by kernel_rfl) rfl) ?_).mono ?_
  · intro W1 r0 r1 r2 r3 hb
    have C5 := blk_below B5 hb
    have C6 := blk_below B6 hb
    exact sweep1_calls w.heap.size (w.heap.size + 1) room age now r0 r1 r2 r3 mb W1 ((blk_cell C5 0).trans rfl) ((blk_cell C5 1).trans rfl) ((blk_cell C5 2).trans rfl) ((blk_cell C6 0).trans rfl)
  · rintro e' w1 ⟨mb', rfl, hT1, hb1⟩
    have C7 := blk_below B7 hb1
    have hs1 := hb1.size
    have H1 := Lib.hid (And.intro C7 (And.intro hT1 (hBW.trans (hb1.mono hBW.size))))
    have hc6_0 : w1.cell? ⟨w.heap.size + 1 + 1, 0, none⟩ = some (.int .i64 0) := (blk_cell C7 0).trans rfl
    have hc6_1 : w1.cell? ⟨w.heap.size + 1 + 1, 1, none⟩ = some (.int .i64 0) := (blk_cell C7 1).trans rfl
    have hc6_2 : w1.cell? ⟨w.heap.size + 1 + 1, 2, none⟩ = some (.map none) := (blk_cell C7 2).trans rfl
    have hf6_0 := blk_frozen C7 0
    have hf6_1 := blk_frozen C7 1
    have hf6_2 := blk_frozen C7 2
    clear B5 B6 B7 C7 hT1 hb1 hBW
    go_wp2_with fail
    (try simp only [Exit.inBlock, Exit.then])
    obtain ⟨C7, hT1, hBe⟩ := H1.out
    refine bodyPost_ret (results_cell_row rfl _ _ (w.heap.size + 1 + 1) 26 #[.int .i64 room, .int .i64 age, .map mb'] (0, 0) _ rfl (by refine blk_put (cs := #[.int .i64 room, .int .i64 age, .map none]) ?_ 2 _ rfl; refine blk_put (cs := #[.int .i64 room, .int .i64 0, .map none]) ?_ 1 _ rfl; refine blk_put (cs := #[.int .i64 0, .int .i64 0, .map none]) ?_ 0 _ rfl; exact C7) Try.underlying26 rfl (by kernel_rfl)) rfl ?_
    refine ⟨mb', rfl, tab_put3 hT1 C7, below_set (below_set (below_set hBe (by omega)) (by omega)) (by omega)⟩
set_option maxHeartbeats 8000000 in
set_option maxRecDepth 100000 in
theorem flush_calls (room age port : Int) (mb : Option Nat) (L : List Rw) (hL : L.length ≤ 100000) (w : World) (hT : Tab w mb L) :
    Calls Try.prog 14 #[.agg #[.int .i64 room, .int .i64 age, .map mb], .int .i64 port] w fun e w' => ∃ mb', e = .returned (.agg #[.int .i64 room, .int .i64 age, .map mb']) ∧ Tab w' mb' (L.filter fun q => !(decide (port < 0) || q.2.2.1 == port)) ∧ Below w.heap.size w w' := by
  go_enter Try.func14, Try.ntmps14
  have HT := Lib.hid hT
  clear hT
  go_wp2_with fail
  refine fd_calls_W ?_
  intro W hW
  have B6 : W.heap[w.heap.size + 1]? = some (.cells #[.int .i64 port] 3) := by rw [hW]; exact blk_alloc (fd_blk_new2 _ _ _) _
  have B7 : W.heap[w.heap.size + 1 + 1]? = some (.cells #[.int .i64 0, .int .i64 0, .map none] 26) := by rw [hW]; exact fd_blk_new3 _ _ _ _
  have hBW : Below w.heap.size w W := by rw [hW]; repeat (first | exact Below.refl _ _ | apply below_alloc)
  have hsW : w.heap.size + 3 ≤ W.heap.size := by rw [hW]; simp
  clear hW
  refine (without_calls room age mb L hL 36 #[.pointer (some ⟨w.heap.size + 1, 0, none⟩)] (fun q => decide (port < 0) || q.2.2.1 == port) W (HT.out.below hBW) (enters_of Try.func36 (by kernel_rfl) rfl) ?_).mono ?_
  · intro W1 r0 r1 r2 r3 hb
    have C6 := blk_below B6 hb
    exact flush1_calls (w.heap.size + 1) port r0 r1 r2 r3 W1 ((blk_cell C6 0).trans rfl)
  · rintro e' w1 ⟨mb', rfl, hT1, hb1⟩
    have C7 := blk_below B7 hb1
    have hs1 := hb1.size
    have H1 := Lib.hid (And.intro C7 (And.intro hT1 (hBW.trans (hb1.mono hBW.size))))
    have hc6_0 : w1.cell? ⟨w.heap.size + 1 + 1, 0, none⟩ = some (.int .i64 0) := (blk_cell C7 0).trans rfl
    have hc6_1 : w1.cell? ⟨w.heap.size + 1 + 1, 1, none⟩ = some (.int .i64 0) := (blk_cell C7 1).trans rfl
    have hc6_2 : w1.cell? ⟨w.heap.size + 1 + 1, 2, none⟩ = some (.map none) := (blk_cell C7 2).trans rfl
    have hf6_0 := blk_frozen C7 0
    have hf6_1 := blk_frozen C7 1
    have hf6_2 := blk_frozen C7 2
    clear B6 B7 C7 hT1 hb1 hBW
    go_wp2_with fail
    (try simp only [Exit.inBlock, Exit.then])
    obtain ⟨C7, hT1, hBe⟩ := H1.out
    refine bodyPost_ret (results_cell_row rfl _ _ (w.heap.size + 1 + 1) 26 #[.int .i64 room, .int .i64 age, .map mb'] (0, 0) _ rfl (by refine blk_put (cs := #[.int .i64 room, .int .i64 age, .map none]) ?_ 2 _ rfl; refine blk_put (cs := #[.int .i64 room, .int .i64 0, .map none]) ?_ 1 _ rfl; refine blk_put (cs := #[.int .i64 0, .int .i64 0, .map none]) ?_ 0 _ rfl; exact C7) Try.underlying26 rfl (by kernel_rfl)) rfl ?_
    refine ⟨mb', rfl, tab_put3 hT1 C7, below_set (below_set (below_set hBe (by omega)) (by omega)) (by omega)⟩
end Go.Proofs.Ytmlenepeocginaa.Gv
