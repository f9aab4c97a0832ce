/- Tables of addresses: the law. -/
import Derived.Test.YtmlenepeocginaaGvFdStep
import Derived.Test.YtmlenepeocginaaGvFdAwake
namespace Go.Proofs.Ytmlenepeocginaa.Gv
open Go.RowKit Go.Maps Go.WideElems Go.Lib Go.Proofs.YtmlenepeocginaaW.PrintWords Go.Proofs.YtmlenepeocginaaW.PrintLast Go.Proofs.YtmlenepeocginaaW.PrintMore Go.Proofs.Ytmlenepeocginaa.PFdbPlays
set_option linter.unusedVariables false
set_option linter.unusedSimpArgs false
/-- An act: its kind, how much later, VLAN, address, port. -/
abbrev FAct := Int × Int × Int × Int × Int
def FActs (w : World) (A : Option Addr) (l : List FAct) : Prop := ∀ k, (h : k < l.length) → ∃ b o, A = some ⟨b, o, none⟩ ∧ b < w.heap.size ∧ w.cell? ⟨b, o + k * 5, none⟩ = some (.int .u8 l[k].1) ∧ w.cell? ⟨b, o + k * 5 + 1, none⟩ = some (.int .u16 l[k].2.1) ∧ w.cell? ⟨b, o + k * 5 + 2, none⟩ = some (.int .u16 l[k].2.2.1) ∧ w.cell? ⟨b, o + k * 5 + 3, none⟩ = some (.int .u64 l[k].2.2.2.1) ∧ w.cell? ⟨b, o + k * 5 + 4, none⟩ = some (.int .i64 l[k].2.2.2.2)
theorem u16_nn {x : Int} (h : (Lit.int .u16 x).wf = true) : 0 ≤ x := by
  simp [Lit.wf, IntKind.min, IntKind.max, IntKind.signed, IntKind.bits] at h
  omega
theorem u64_nn {x : Int} (h : (Lit.int .u64 x).wf = true) : 0 ≤ x := by
  simp [Lit.wf, IntKind.min, IntKind.max, IntKind.signed, IntKind.bits] at h
  omega
/-- Two goals of one statement: the second goes where the first goes. -/
theorem cut_hid {S G : Prop} (h : RowKit.Hid S → G) (hs : S) : G := h hs
theorem cut_hid3 {S : Option Nat → Option Addr → Nat → Prop} {G : Prop} (h : RowKit.Hid (∀ a b c, S a b c) → G) (hs : ∀ a b c, S a b c) : G := h hs
theorem exit_W {Q : Exit → Go.Act → World → Prop} {x : Exit} {fr : Go.Act} {W : World} (F : World → Prop) (hF : F W) (h : ∀ W', F W' → Q x fr W') : Q x fr W := h W hF
theorem wp_W {P : Program} {c : Code} {Q : Exit → Go.Act → World → Prop} {fr : Go.Act} {W : World} (F : World → Prop) (hF : F W) (h : ∀ W', F W' → c.wp P Q fr W') : c.wp P Q fr W := h W hF
/-- A table and the document's. -/
def ST (base : Nat) (wr : World) (mb : Option Nat) (L : List Rw) (u : Value) (lm : List S79) : Prop :=
  Tab wr mb L ∧ Kd.R k79 79 wr base (fun _ => True) u lm ∧ L.Perm (lm.map toRw) ∧ lm.Pairwise (fun x y => befS x y = true)
theorem ST.below {base : Nat} {w w' : World} {mb : Option Nat} {L : List Rw} {u : Value} {lm : List S79} (h : ST base w mb L u lm) (hb : Below w.heap.size w w') : ST base w' mb L u lm :=
  ⟨h.1.below hb, Kd.R_below h.2.1 hb, h.2.2⟩
/-- A block of cells of another type is neither's. -/
theorem ST.free {base : Nat} {w : World} {mb : Option Nat} {L : List Rw} {u : Value} {lm : List S79} {g : Nat} {cs : Array Value} {t : TypeId} (h : ST base w mb L u lm) (hg : w.heap[g]? = some (.cells cs t (0, 0))) (ht : 79 ≠ t) : some g ≠ mb ∧ some g ≠ u.ownBlock :=
  ⟨tab_ne h.1 hg, fun e => ((Kd.R_types h.2.1 hg (by intro q hq; simp [show (k79 : Kd S79).E = [] from rfl] at hq; rw [hq]; exact ht)).1 g e.symm).2 rfl⟩
theorem ST.set {base : Nat} {w : World} {mb : Option Nat} {L : List Rw} {u : Value} {lm : List S79} {g : Nat} (h : ST base w mb L u lm) (hn : some g ≠ mb ∧ some g ≠ u.ownBlock) (j : Nat) (v : Value) : ST base (w.setCell ⟨g, j, none⟩ v) mb L u lm :=
  ⟨tab_set h.1 hn.1, Kd.R_mono (Kd.R_far (p := ⟨g, j, none⟩) (Kd.R_far1 h.2.1 rfl hn.2) (fun _ hk => hk.2) v) (fun _ _ => trivial), h.2.2⟩
theorem ST.slice {base : Nat} {w : World} {mb : Option Nat} {L : List Rw} {u : Value} {lm : List S79} (h : ST base w mb L u lm) : ∃ A c, u = .slice A lm.length c := Kd.R_slice h.2.1
theorem st_same {base : Nat} {w : World} {mb : Option Nat} {L : List Rw} {u : Value} {lm : List S79} (room age : Int) (h : ST base w mb L u lm) (hL : L.length ≤ 1000000) :
    Calls Try.prog 16 #[.agg #[.int .i64 room, .int .i64 age, .map mb], .agg #[.int .i64 room, .int .i64 age, u]] w fun e w' => e = .returned (.bool true) ∧ Below w.heap.size w w' := by
  obtain ⟨A, c, rfl, h1, h2⟩ := Kd.R_reads h.2.1
  exact same_calls room age room age mb L hL A lm c h1 w h.1 h2 h.2.2.1 h.2.2.2
theorem rsweep2_calls (room age now : Int) (u : Value) (l : List S79) (hl : l.length ≤ 1000000) (w0 w : World) (hB : Below w0.heap.size w0 w) (hr : Kd.R k79 79 w w0.heap.size (fun _ => True) u l) :
    Calls Try.prog 13 #[.agg #[.int .i64 room, .int .i64 age, u], .int .i64 now] w fun e w' => ∃ u', e = .returned (.agg #[.int .i64 room, .int .i64 age, u']) ∧ Kd.R k79 79 w' w0.heap.size (fun _ => True) u' (l.filter (fun x => decide (wrap64 (now - x.f3) < age))) ∧ Below w.heap.size w w' := by
  obtain ⟨A, c, rfl, h2, h3⟩ := Kd.R_reads hr
  refine (carouselref11_Sweep.calls _ room age A c l now _ _ _ w h3 h2 (sweep_f room age now l hl)).mono ?_
  rintro e w' ⟨v2, he, hR, hb⟩
  exact ⟨v2, he, Kd.R_lower hR hB.size, hb⟩
theorem rflush2_calls (room age port : Int) (u : Value) (l : List S79) (hl : l.length ≤ 1000000) (w0 w : World) (hB : Below w0.heap.size w0 w) (hr : Kd.R k79 79 w w0.heap.size (fun _ => True) u l) :
    Calls Try.prog 15 #[.agg #[.int .i64 room, .int .i64 age, u], .int .i64 port] w fun e w' => ∃ u', e = .returned (.agg #[.int .i64 room, .int .i64 age, u']) ∧ Kd.R k79 79 w' w0.heap.size (fun _ => True) u' (l.filter (fun x => decide (0 ≤ port) && !decide (x.f2 = port))) ∧ Below w.heap.size w w' := by
  obtain ⟨A, c, rfl, h2, h3⟩ := Kd.R_reads hr
  refine (carouselref11_Flush.calls _ room age A c l port _ _ _ w h3 h2 (flush_f room age port l hl)).mono ?_
  rintro e w' ⟨v2, he, hR, hb⟩
  have e : (fun x : S79 => decide (0 ≤ port ∧ x.f2 ≠ port)) = (fun x => decide (0 ≤ port) && !decide (x.f2 = port)) := by funext x; simp
  rw [e] at hR
  exact ⟨v2, he, Kd.R_lower hR hB.size, hb⟩
theorem st_sweep {L : List Rw} {lm : List S79} (hp : L.Perm (lm.map toRw)) (hs : lm.Pairwise (fun x y => befS x y = true)) (now age : Int) :
    (L.filter fun q => !(decide (age ≤ wrap64 (now - q.2.2.2)))).Perm ((lm.filter (fun x => decide (wrap64 (now - x.f3) < age))).map toRw) ∧ (lm.filter (fun x => decide (wrap64 (now - x.f3) < age))).Pairwise (fun x y => befS x y = true) ∧ (L.filter fun q => !(decide (age ≤ wrap64 (now - q.2.2.2)))).length ≤ L.length := by
  refine st_filter hp hs _ _ ?_
  intro x
  show (!(decide (age ≤ wrap64 (now - x.f3)))) = decide (wrap64 (now - x.f3) < age)
  by_cases h : age ≤ wrap64 (now - x.f3)
  · simp [h, Int.not_lt.2 h]
  · simp [h, Int.not_le.1 h]
theorem st_flush {L : List Rw} {lm : List S79} (hp : L.Perm (lm.map toRw)) (hs : lm.Pairwise (fun x y => befS x y = true)) (port : Int) :
    (L.filter fun q => !(decide (port < 0) || q.2.2.1 == port)).Perm ((lm.filter (fun x => decide (0 ≤ port) && !decide (x.f2 = port))).map toRw) ∧ (lm.filter (fun x => decide (0 ≤ port) && !decide (x.f2 = port))).Pairwise (fun x y => befS x y = true) ∧ (L.filter fun q => !(decide (port < 0) || q.2.2.1 == port)).length ≤ L.length := by
  refine st_filter hp hs _ _ ?_
  intro x
  show (!(decide (port < 0) || x.f2 == port)) = (decide (0 ≤ port) && !decide (x.f2 = port))
  by_cases h : port < 0
  · have h0 : ¬ 0 ≤ port := by omega
    simp [h, h0]
  · have h0 : 0 ≤ port := by omega
    by_cases h2 : x.f2 = port
    · simp [h, h0, h2]
    · simp [h, h0, h2]
/-- Three cells of a box are written. -/
def put3 (W : World) (g : Nat) (x y z : Value) : World := ((W.setCell ⟨g, 0, none⟩ x).setCell ⟨g, 1, none⟩ y).setCell ⟨g, 2, none⟩ z
/-- The boxes of a round: the table's, the document's, the act's, and the two tables of before. -/
def PF (w : World) (room age : Int) (t m a : Nat) (mb : Option Nat) (L : List Rw) (u : Value) (lm : List S79) (mb0 : Option Nat) (L0 : List Rw) (u0 : Value) (lm0 : List S79) (ac : Array Value) (bW bB : Nat) (W : World) : Prop :=
  W.heap[t]? = some (.cells #[.int .i64 room, .int .i64 age, .map mb] 26) ∧ W.heap[m]? = some (.cells #[.int .i64 room, .int .i64 age, u] 34) ∧ W.heap[a]? = some (.cells ac 38) ∧ W.heap[bB]? = some (.cells #[.int .i64 room, .int .i64 age, .map mb0] 26) ∧ W.heap[bW]? = some (.cells #[.int .i64 room, .int .i64 age, u0] 34) ∧ ST w.heap.size W mb L u lm ∧ ST w.heap.size W mb0 L0 u0 lm0 ∧ Below w.heap.size w W ∧ m < a ∧ m < bB ∧ m < bW ∧ t < m ∧ w.heap.size ≤ t
section
variable {w W W' : World} {room age : Int} {t m a bW bB : Nat} {mb mb0 mb' : Option Nat} {L L0 L' : List Rw} {u u0 u' : Value} {lm lm0 lm' : List S79} {ac : Array Value}
theorem PF.below (h : PF w room age t m a mb L u lm mb0 L0 u0 lm0 ac bW bB W) (hb : Below W.heap.size W W') : PF w room age t m a mb L u lm mb0 L0 u0 lm0 ac bW bB W' := by
  obtain ⟨h1, h2, h3, h4, h5, h6, h7, h8, h9⟩ := h
  exact ⟨blk_below h1 hb, blk_below h2 hb, blk_below h3 hb, blk_below h4 hb, blk_below h5 hb, h6.below hb, h7.below hb, h8.trans (hb.mono h8.size), h9⟩
theorem pf_mk (h1 : W.heap[t]? = some (.cells #[.int .i64 room, .int .i64 age, .map mb] 26)) (h2 : W.heap[m]? = some (.cells #[.int .i64 room, .int .i64 age, u] 34)) (h3 : W.heap[a]? = some (.cells ac 38)) (hs : ST w.heap.size W mb L u lm) (hb0 : Below w.heap.size w W) (hb : Below W.heap.size W W')
    (h4 : W'.heap[bB]? = some (.cells #[.int .i64 room, .int .i64 age, .map mb] 26)) (h5 : W'.heap[bW]? = some (.cells #[.int .i64 room, .int .i64 age, u] 34)) (i1 : m < a) (i2 : m < bB) (i3 : m < bW) (i4 : t < m) (i5 : w.heap.size ≤ t) : PF w room age t m a mb L u lm mb L u lm ac bW bB W' :=
  ⟨blk_below h1 hb, blk_below h2 hb, blk_below h3 hb, h4, h5, hs.below hb, hs.below hb, hb0.trans (hb.mono hb0.size), i1, i2, i3, i4, i5⟩
theorem blk_put3_far {g k : Nat} {o : Obj} (h : W.heap[k]? = some o) (hne : k ≠ g) (x y z : Value) : (put3 W g x y z).heap[k]? = some o := by
  unfold put3
  rw [Below.heap_setCell _ _ _ _ hne, Below.heap_setCell _ _ _ _ hne, Below.heap_setCell _ _ _ _ hne]
  exact h
theorem blk_put3 {g : Nat} {x0 y0 z0 : Value} {tt : TypeId} (h : W.heap[g]? = some (.cells #[x0, y0, z0] tt (0, 0))) (x y z : Value) : (put3 W g x y z).heap[g]? = some (.cells #[x, y, z] tt (0, 0)) :=
  blk_put (blk_put (blk_put h 0 x rfl) 1 y rfl) 2 z rfl
theorem ST.put3 {base : Nat} {g : Nat} (h : ST base W mb L u lm) (hn : some g ≠ mb ∧ some g ≠ u.ownBlock) (x y z : Value) : ST base (Gv.put3 W g x y z) mb L u lm := ((h.set hn 0 x).set hn 1 y).set hn 2 z
theorem below_put3 {g : Nat} (h : Below w.heap.size w W) (hg : w.heap.size ≤ g) (x y z : Value) : Below w.heap.size w (put3 W g x y z) := below_set (below_set (below_set h hg) hg) hg
/-- The two tables are written, the table's first. -/
theorem PF.store (h : PF w room age t m a mb L u lm mb0 L0 u0 lm0 ac bW bB W) (hn : ST w.heap.size W mb' L' u' lm') :
    PF w room age t m a mb' L' u' lm' mb0 L0 u0 lm0 ac bW bB (put3 (put3 W t (.int .i64 room) (.int .i64 age) (.map mb')) m (.int .i64 room) (.int .i64 age) u') := by
  obtain ⟨h1, h2, h3, h4, h5, h6, h7, h8, i1, i2, i3, i4, i5⟩ := h
  have ft := hn.free h1 (by decide)
  have fm := hn.free h2 (by decide)
  have gt := h7.free h1 (by decide)
  have gm := h7.free h2 (by decide)
  exact ⟨blk_put3_far (blk_put3 h1 _ _ _) (by omega) _ _ _, blk_put3 (blk_put3_far h2 (by omega) _ _ _) _ _ _, blk_put3_far (blk_put3_far h3 (by omega) _ _ _) (by omega) _ _ _, blk_put3_far (blk_put3_far h4 (by omega) _ _ _) (by omega) _ _ _, blk_put3_far (blk_put3_far h5 (by omega) _ _ _) (by omega) _ _ _, (hn.put3 ft _ _ _).put3 fm _ _ _, (h7.put3 gt _ _ _).put3 gm _ _ _, below_put3 (below_put3 h8 (by omega) _ _ _) (by omega) _ _ _, i1, i2, i3, i4, i5⟩
/-- The two tables are written, the document's first. -/
theorem PF.store' (h : PF w room age t m a mb L u lm mb0 L0 u0 lm0 ac bW bB W) (hn : ST w.heap.size W mb' L' u' lm') :
    PF w room age t m a mb' L' u' lm' mb0 L0 u0 lm0 ac bW bB (put3 (put3 W m (.int .i64 room) (.int .i64 age) u') t (.int .i64 room) (.int .i64 age) (.map mb')) := by
  obtain ⟨h1, h2, h3, h4, h5, h6, h7, h8, i1, i2, i3, i4, i5⟩ := h
  have ft := hn.free h1 (by decide)
  have fm := hn.free h2 (by decide)
  have gt := h7.free h1 (by decide)
  have gm := h7.free h2 (by decide)
  exact ⟨blk_put3 (blk_put3_far h1 (by omega) _ _ _) _ _ _, blk_put3_far (blk_put3 h2 _ _ _) (by omega) _ _ _, blk_put3_far (blk_put3_far h3 (by omega) _ _ _) (by omega) _ _ _, blk_put3_far (blk_put3_far h4 (by omega) _ _ _) (by omega) _ _ _, blk_put3_far (blk_put3_far h5 (by omega) _ _ _) (by omega) _ _ _, (hn.put3 fm _ _ _).put3 ft _ _ _, (h7.put3 gm _ _ _).put3 gt _ _ _, below_put3 (below_put3 h8 (by omega) _ _ _) (by omega) _ _ _, i1, i2, i3, i4, i5⟩
end
set_option maxHeartbeats 16000000 in
set_option maxRecDepth 100000 in
theorem plays (h02 : ∀ w, Calls Try.prog 20 #[] w fun e w' => e = .returned (.bool true) ∧ Below w.heap.size w w') (room age : Int) (A : Option Addr) (c : Nat) (l : List FAct) (w : World) (hc : l.length ≤ c) (hA : FActs w A l) (hw : ∀ x ∈ l, (Lit.int .u16 x.2.2.1).wf = true ∧ (Lit.int .u64 x.2.2.2.1).wf = true) :
    Calls Try.prog 3 #[.int .i64 room, .int .i64 age, .slice A l.length c] w fun e w' => e = .returned (.bool true) ∧ Below w.heap.size w w' := by
  go_enter Try.func3, Try.ntmps3
  have HA := Lib.hid (And.intro hA hw)
  clear hA hw
  by_cases h80 : l.length ≤ 80
  rotate_left
  · have h81 : decide (80 < (l.length : Int)) = true := by simp; omega
    go_wp2_with fail
    refine (awake_calls h02 _).mono ?_
    rintro e' w1 ⟨rfl, hb⟩
    have HB := Lib.hid hb
    clear hb
    go_wp2_with fail
    go_ret
    exact ⟨rfl, HB.out⟩
  go_wp2_with fail
  refine (new_calls room age _).mono ?_
  rintro e' w1 ⟨hn, hb1⟩
  have H1 := Lib.hid hb1
  clear hb1
  rcases hn with ⟨hok, rfl⟩ | ⟨hno, rfl⟩
  · have HO := Lib.hid hok
    unfold newOk at hok
    go_wp2_with fail
    obtain ⟨W0, hW0⟩ : ∃ W0, (w1.alloc (.cells #[.int .i64 room, .int .i64 age, .map none] 26)).alloc (.cells #[.int .i64 room, .int .i64 age, .slice none 0 0] 34) = W0 := ⟨_, rfl⟩
    have D7 : W0.heap[w1.heap.size]? = some (.cells #[.int .i64 room, .int .i64 age, .map none] 26) := by rw [← hW0]; exact blk_alloc (blk_new _ _) _
    have D9 : W0.heap[w1.heap.size + 1]? = some (.cells #[.int .i64 room, .int .i64 age, .slice none 0 0] 34) := by rw [← hW0]; exact fd_blk_new2 _ _ _
    have hBW : Below w.heap.size w W0 := by rw [← hW0]; repeat (first | exact H1.out | apply below_alloc)
    have hs0 : w.heap.size ≤ w1.heap.size := H1.out.size
    rw [hW0]
    have H2 := Lib.hid (And.intro D7 (And.intro D9 hBW))
    clear hW0 D7 D9 hBW
    go_loopw [10, 63] (fun nv i wr => ∃ (k : Nat) (now : Int) (mb : Option Nat) (L : List Rw) (Au : Option Addr) (cu : Nat) (lm : List S79), k ≤ l.length ∧ nv = .int .i64 now ∧ i = .int .i64 k ∧ wr.heap[w1.heap.size]? = some (.cells #[.int .i64 room, .int .i64 age, .map mb] 26) ∧ wr.heap[w1.heap.size + 1]? = some (.cells #[.int .i64 room, .int .i64 age, .slice Au lm.length cu] 34) ∧ ST w.heap.size wr mb L (.slice Au lm.length cu) lm ∧ L.length ≤ k ∧ Below w.heap.size w wr) (fun _ i _ => l.length - (intOf i).toNat)
    case atStart => exact ⟨0, 0, none, [], none, 0, [], Nat.zero_le _, rfl, rfl, H2.out.1, H2.out.2.1, ⟨.inl ⟨rfl, rfl⟩, Kd.R_nil _ _ _ _ _, List.Perm.refl _, List.Pairwise.nil⟩, Nat.le_refl _, H2.out.2.2⟩
    case round =>
      obtain ⟨k, now, mb, L, Au, cu, lm, hk, rfl, rfl, hT, hM, hST, hLk, hB⟩ := hrel
      have hml : lm.length ≤ k := by have h := hST.2.2.1.length_eq; rw [List.length_map] at h; omega
      have HK := Lib.hid (And.intro hLk hml)
      clear hml
      by_cases hlt : k < l.length
      · obtain ⟨ab, ao, rfl, hab, q0, q1, q2, q3, q4⟩ := HA.out.1 k hlt
        have hwf := HA.out.2 _ (List.getElem_mem hlt)
        obtain ⟨ak, hak⟩ : ∃ x, l[k].1 = x := ⟨_, rfl⟩
        obtain ⟨al, hal⟩ : ∃ x, l[k].2.1 = x := ⟨_, rfl⟩
        obtain ⟨av, hav⟩ : ∃ x, l[k].2.2.1 = x := ⟨_, rfl⟩
        obtain ⟨aa, haa⟩ : ∃ x, l[k].2.2.2.1 = x := ⟨_, rfl⟩
        obtain ⟨ap, hap⟩ : ∃ x, l[k].2.2.2.2 = x := ⟨_, rfl⟩
        rw [hak] at q0
        rw [hal] at q1
        rw [hav] at q2 hwf
        rw [haa] at q3 hwf
        rw [hap] at q4
        clear hak hal hav haa hap
        have r0 := (hB.cell (p := ⟨ab, ao + k * 5, none⟩) hab).trans q0
        have r1 := (hB.cell (p := ⟨ab, ao + k * 5 + 1, none⟩) hab).trans q1
        have r2 := (hB.cell (p := ⟨ab, ao + k * 5 + 2, none⟩) hab).trans q2
        have r3 := (hB.cell (p := ⟨ab, ao + k * 5 + 3, none⟩) hab).trans q3
        have r4 := (hB.cell (p := ⟨ab, ao + k * 5 + 4, none⟩) hab).trans q4
        clear q0 q1 q2 q3 q4
        have hsr := hB.size
        have HW := Lib.hid hwf
        have H3 := Lib.hid (And.intro hT (And.intro hM (And.intro hST (And.intro hLk hB))))
        clear hT hM hST hLk hB hwf
        go_wp2_with fail
        obtain ⟨W1, hW1⟩ : ∃ W1, wr.alloc (.cells #[.int .u8 ak, .int .u16 al, .int .u16 av, .int .u64 aa, .int .i64 ap] 38) = W1 := ⟨_, rfl⟩
        have hb1 : Below wr.heap.size wr W1 := by rw [← hW1]; exact below_alloc (Below.refl _ _) _
        have hx1 : W1.heap[wr.heap.size]? = some (.cells #[.int .u8 ak, .int .u16 al, .int .u16 av, .int .u64 aa, .int .i64 ap] 38) := by rw [← hW1]; exact blk_new _ _
        have hz1 : wr.heap.size + 1 = W1.heap.size := by rw [← hW1]; simp
        rw [hW1]
        clear hW1 r0 r1 r2 r3 r4
        have hT1 := blk_below H3.out.1 hb1
        have hM1 := blk_below H3.out.2.1 hb1
        have lm1 := blk_lt H3.out.2.1
        have hstep : ∀ w7, Below W1.heap.size W1 w7 → (fun w' : World => w'.cell? ⟨w1.heap.size, 0, none⟩ = some (.int .i64 room) ∧ w'.cell? ⟨w1.heap.size, 1, none⟩ = some (.int .i64 age) ∧ w'.cell? ⟨w1.heap.size, 2, none⟩ = some (.map mb) ∧ w'.cell? ⟨w1.heap.size + 1, 0, none⟩ = some (.int .i64 room) ∧ w'.cell? ⟨w1.heap.size + 1, 1, none⟩ = some (.int .i64 age) ∧ w'.cell? ⟨w1.heap.size + 1, 2, none⟩ = some (.slice Au lm.length cu)) w7 := fun w7 hb7 => ⟨(blk_cell (blk_below hT1 hb7) 0).trans rfl, (blk_cell (blk_below hT1 hb7) 1).trans rfl, (blk_cell (blk_below hT1 hb7) 2).trans rfl, (blk_cell (blk_below hM1 hb7) 0).trans rfl, (blk_cell (blk_below hM1 hb7) 1).trans rfl, (blk_cell (blk_below hM1 hb7) 2).trans rfl⟩
        have HS := Lib.hid hstep
        have H4 := Lib.hid (And.intro hT1 (And.intro hM1 (And.intro hx1 hb1)))
        have HST := Lib.hid (And.intro (H3.out.2.2.1.below hb1) (H3.out.2.2.2.2.trans (hb1.mono hsr)))
        clear hstep hT1 hM1 hx1 hb1
        apply cut_hid
        · intro hk
          go_region_held3 (fun w' : World => w'.cell? ⟨w1.heap.size, 0, none⟩ = some (.int .i64 room) ∧ w'.cell? ⟨w1.heap.size, 1, none⟩ = some (.int .i64 age) ∧ w'.cell? ⟨w1.heap.size, 2, none⟩ = some (.map mb) ∧ w'.cell? ⟨w1.heap.size + 1, 0, none⟩ = some (.int .i64 room) ∧ w'.cell? ⟨w1.heap.size + 1, 1, none⟩ = some (.int .i64 age) ∧ w'.cell? ⟨w1.heap.size + 1, 2, none⟩ = some (.slice Au lm.length cu)) (first | (with_reducible assumption) | exact HS.out _ (by repeat (first | exact Below.refl _ _ | apply below_alloc | apply below_drew1 | refine below_set ?_ (by omega)))) (fail)
          · refine exit_W (PF w room age w1.heap.size (w1.heap.size + 1) wr.heap.size mb L (.slice Au lm.length cu) lm mb L (.slice Au lm.length cu) lm #[.int .u8 ak, .int .u16 al, .int .u16 av, .int .u64 aa, .int .i64 ap] (W1.heap.size + 1) (W1.heap.size)) ?_ ?_
            · exact pf_mk H4.out.1 H4.out.2.1 H4.out.2.2.1 HST.out.1 HST.out.2 (below_drew1 (below_alloc (below_alloc (Below.refl _ _) _) _)) (blk_drew (blk_alloc (blk_new _ _) _)) (blk_drew (fd_blk_new2 _ _ _)) (by omega) (by omega) (by omega) (by omega) hs0
            generalize W1.heap.size + 1 = g1
            generalize W1.heap.size = g2
            revert g1 g2
            exact hk.out
          · refine exit_W (PF w room age w1.heap.size (w1.heap.size + 1) wr.heap.size mb L (.slice Au lm.length cu) lm mb L (.slice Au lm.length cu) lm #[.int .u8 ak, .int .u16 al, .int .u16 av, .int .u64 aa, .int .i64 ap] (W1.heap.size) (W1.heap.size + 1)) ?_ ?_
            · exact pf_mk H4.out.1 H4.out.2.1 H4.out.2.2.1 HST.out.1 HST.out.2 (below_drew1 (below_alloc (below_alloc (Below.refl _ _) _) _)) (blk_drew (fd_blk_new2 _ _ _)) (blk_drew (blk_alloc (blk_new _ _) _)) (by omega) (by omega) (by omega) (by omega) hs0
            generalize W1.heap.size + 1 = g1
            generalize W1.heap.size = g2
            exact hk.out g2 g1
        · intro bW bB W2 hF
          have H5 := Lib.hid hF
          clear hF HS HST H4 H3 hz1
          have hLk := HK.out.1
          have hml := HK.out.2
          have cT0 : W2.cell? ⟨w1.heap.size, 0, none⟩ = some (.int .i64 room) := (blk_cell H5.out.1 0).trans rfl
          have fT0 := blk_frozen (H5.out.1) 0
          have cT1 : W2.cell? ⟨w1.heap.size, 1, none⟩ = some (.int .i64 age) := (blk_cell H5.out.1 1).trans rfl
          have fT1 := blk_frozen (H5.out.1) 1
          have cT2 : W2.cell? ⟨w1.heap.size, 2, none⟩ = some (.map mb) := (blk_cell H5.out.1 2).trans rfl
          have fT2 := blk_frozen (H5.out.1) 2
          have ltT := blk_lt (H5.out.1)
          have cM0 : W2.cell? ⟨w1.heap.size + 1, 0, none⟩ = some (.int .i64 room) := (blk_cell H5.out.2.1 0).trans rfl
          have fM0 := blk_frozen (H5.out.2.1) 0
          have cM1 : W2.cell? ⟨w1.heap.size + 1, 1, none⟩ = some (.int .i64 age) := (blk_cell H5.out.2.1 1).trans rfl
          have fM1 := blk_frozen (H5.out.2.1) 1
          have cM2 : W2.cell? ⟨w1.heap.size + 1, 2, none⟩ = some (.slice Au lm.length cu) := (blk_cell H5.out.2.1 2).trans rfl
          have fM2 := blk_frozen (H5.out.2.1) 2
          have ltM := blk_lt (H5.out.2.1)
          have cA0 : W2.cell? ⟨wr.heap.size, 0, none⟩ = some (.int .u8 ak) := (blk_cell H5.out.2.2.1 0).trans rfl
          have cA1 : W2.cell? ⟨wr.heap.size, 1, none⟩ = some (.int .u16 al) := (blk_cell H5.out.2.2.1 1).trans rfl
          have cA2 : W2.cell? ⟨wr.heap.size, 2, none⟩ = some (.int .u16 av) := (blk_cell H5.out.2.2.1 2).trans rfl
          have cA3 : W2.cell? ⟨wr.heap.size, 3, none⟩ = some (.int .u64 aa) := (blk_cell H5.out.2.2.1 3).trans rfl
          have cA4 : W2.cell? ⟨wr.heap.size, 4, none⟩ = some (.int .i64 ap) := (blk_cell H5.out.2.2.1 4).trans rfl
          have ltA := blk_lt (H5.out.2.2.1)
          by_cases hk0 : ak = 0
          · subst hk0
            go_wp2_with fail
            refine (learn_calls room age _ _ _ _ mb L (by omega) HW.out.1 HW.out.2 W2 H5.out.2.2.2.2.2.1.1).mono ?_
            rintro e' w3 ⟨mb', L', code, rfl, hLN, hT3, hb3⟩
            have H6 := Lib.hid (And.intro (H5.out.below hb3) (And.intro hLN hT3))
            clear hLN hT3 hb3
            clear cT0 fT0 cT1 fT1 cT2 fT2 ltT cM0 fM0 cM1 fM1 cM2 fM2 ltM cA0 cA1 cA2 cA3 cA4 ltA
            have cT0 : w3.cell? ⟨w1.heap.size, 0, none⟩ = some (.int .i64 room) := (blk_cell H6.out.1.1 0).trans rfl
            have fT0 := blk_frozen (H6.out.1.1) 0
            have cT1 : w3.cell? ⟨w1.heap.size, 1, none⟩ = some (.int .i64 age) := (blk_cell H6.out.1.1 1).trans rfl
            have fT1 := blk_frozen (H6.out.1.1) 1
            have cT2 : w3.cell? ⟨w1.heap.size, 2, none⟩ = some (.map mb) := (blk_cell H6.out.1.1 2).trans rfl
            have fT2 := blk_frozen (H6.out.1.1) 2
            have ltT := blk_lt (H6.out.1.1)
            have cM0 : w3.cell? ⟨w1.heap.size + 1, 0, none⟩ = some (.int .i64 room) := (blk_cell H6.out.1.2.1 0).trans rfl
            have fM0 := blk_frozen (H6.out.1.2.1) 0
            have cM1 : w3.cell? ⟨w1.heap.size + 1, 1, none⟩ = some (.int .i64 age) := (blk_cell H6.out.1.2.1 1).trans rfl
            have fM1 := blk_frozen (H6.out.1.2.1) 1
            have cM2 : w3.cell? ⟨w1.heap.size + 1, 2, none⟩ = some (.slice Au lm.length cu) := (blk_cell H6.out.1.2.1 2).trans rfl
            have fM2 := blk_frozen (H6.out.1.2.1) 2
            have ltM := blk_lt (H6.out.1.2.1)
            have cA0 : w3.cell? ⟨wr.heap.size, 0, none⟩ = some (.int .u8 0) := (blk_cell H6.out.1.2.2.1 0).trans rfl
            have cA1 : w3.cell? ⟨wr.heap.size, 1, none⟩ = some (.int .u16 al) := (blk_cell H6.out.1.2.2.1 1).trans rfl
            have cA2 : w3.cell? ⟨wr.heap.size, 2, none⟩ = some (.int .u16 av) := (blk_cell H6.out.1.2.2.1 2).trans rfl
            have cA3 : w3.cell? ⟨wr.heap.size, 3, none⟩ = some (.int .u64 aa) := (blk_cell H6.out.1.2.2.1 3).trans rfl
            have cA4 : w3.cell? ⟨wr.heap.size, 4, none⟩ = some (.int .i64 ap) := (blk_cell H6.out.1.2.2.1 4).trans rfl
            have ltA := blk_lt (H6.out.1.2.2.1)
            go_wp2_with fail
            refine fd_calls_W ?_
            intro W4 hW4
            have BU := blk_new w3 (.cells #[.int .i64 room, .int .i64 age, .map mb'] 26)
            have hb34 := below_alloc (Below.refl w3.heap.size w3) (.cells #[.int .i64 room, .int .i64 age, .map mb'] 26)
            rw [← hW4] at BU hb34
            have hR4 := Kd.R_below H6.out.1.2.2.2.2.2.1.2.1 hb34
            have hB4 : Below w.heap.size w W4 := (H6.out.1.below hb34).2.2.2.2.2.2.2.1
            have hml6 : lm.length ≤ 1000000 := by omega
            have hm3 : w1.heap.size + 1 < w3.heap.size := ltM
            clear hW4
            clear cT0 fT0 cT1 fT1 cT2 fT2 ltT cM0 fM0 cM1 fM1 cM2 fM2 ltM cA0 cA1 cA2 cA3 cA4 ltA
            have hC := rlearn_calls room age (wrap64 (now + wrap64 al)) av aa ap (.slice Au lm.length cu) lm hml6 w W4 hB4 (fun _ => True) hR4
            refine hC.mono ?_
            clear hC hR4 hB4 hml6
            rintro e' w5 ⟨u', lm', code', rfl, hLNR, hR5, hb5⟩
            obtain ⟨hcode, hp5, hs5, hl5⟩ := st_learn H6.out.1.2.2.2.2.2.1.2.2.1 H6.out.1.2.2.2.2.2.1.2.2.2 room _ _ _ _ (u16_nn HW.out.1) (u64_nn HW.out.2) H6.out.2.1 hLNR
            subst hcode
            have hb35 : Below w3.heap.size w3 w5 := hb34.trans (hb5.mono hb34.size)
            have hST5 : ST w.heap.size w5 mb' L' u' lm' := ⟨H6.out.2.2.below hb35, hR5, hp5, hs5⟩
            obtain ⟨Au', cu', rfl⟩ := hST5.slice
            replace BU := blk_below BU hb5
            have H7 := Lib.hid (And.intro (H6.out.1.below hb35) (And.intro hST5 BU))
            clear BU hST5 hb35 hb34 hLNR hR5 hb5 hp5 hs5
            clear H6 H5
            have cT0 : w5.cell? ⟨w1.heap.size, 0, none⟩ = some (.int .i64 room) := (blk_cell H7.out.1.1 0).trans rfl
            have fT0 := blk_frozen (H7.out.1.1) 0
            have cT1 : w5.cell? ⟨w1.heap.size, 1, none⟩ = some (.int .i64 age) := (blk_cell H7.out.1.1 1).trans rfl
            have fT1 := blk_frozen (H7.out.1.1) 1
            have cT2 : w5.cell? ⟨w1.heap.size, 2, none⟩ = some (.map mb) := (blk_cell H7.out.1.1 2).trans rfl
            have fT2 := blk_frozen (H7.out.1.1) 2
            have ltT := blk_lt (H7.out.1.1)
            have cM0 : w5.cell? ⟨w1.heap.size + 1, 0, none⟩ = some (.int .i64 room) := (blk_cell H7.out.1.2.1 0).trans rfl
            have fM0 := blk_frozen (H7.out.1.2.1) 0
            have cM1 : w5.cell? ⟨w1.heap.size + 1, 1, none⟩ = some (.int .i64 age) := (blk_cell H7.out.1.2.1 1).trans rfl
            have fM1 := blk_frozen (H7.out.1.2.1) 1
            have cM2 : w5.cell? ⟨w1.heap.size + 1, 2, none⟩ = some (.slice Au lm.length cu) := (blk_cell H7.out.1.2.1 2).trans rfl
            have fM2 := blk_frozen (H7.out.1.2.1) 2
            have ltM := blk_lt (H7.out.1.2.1)
            have cU0 : w5.cell? ⟨w3.heap.size, 0, none⟩ = some (.int .i64 room) := (blk_cell H7.out.2.2 0).trans rfl
            have cU1 : w5.cell? ⟨w3.heap.size, 1, none⟩ = some (.int .i64 age) := (blk_cell H7.out.2.2 1).trans rfl
            have cU2 : w5.cell? ⟨w3.heap.size, 2, none⟩ = some (.map mb') := (blk_cell H7.out.2.2 2).trans rfl
            have ltU := blk_lt (H7.out.2.2)
            go_wp2_with fail
            have hm5 := ltU
            clear cT0 fT0 cT1 fT1 cT2 fT2 ltT cM0 fM0 cM1 fM1 cM2 fM2 ltM cU0 cU1 cU2 ltU
            refine wp_W (fun W => (PF w room age w1.heap.size (w1.heap.size + 1) wr.heap.size mb L (.slice Au lm.length cu) lm mb L (.slice Au lm.length cu) lm #[.int .u8 0, .int .u16 al, .int .u16 av, .int .u64 aa, .int .i64 ap] bW bB W ∧ ST w.heap.size W mb' L' (.slice Au' lm'.length cu') lm') ∧ W.heap[w3.heap.size]? = some (.cells #[.int .i64 room, .int .i64 age, .map mb'] 26) ∧ W.heap[w5.heap.size]? = some (.cells #[.int .i64 room, .int .i64 age, .slice Au' lm'.length cu'] 34)) ?_ ?_
            · have hb := below_alloc (Below.refl w5.heap.size w5) (.cells #[.int .i64 room, .int .i64 age, .slice Au' lm'.length cu'] 34)
              exact ⟨⟨H7.out.1.below hb, H7.out.2.1.below hb⟩, blk_below H7.out.2.2 hb, blk_new _ _⟩
            intro W6 hF6
            have H8 := Lib.hid hF6.1
            obtain ⟨BU, BN⟩ := hF6.2
            clear hF6 H7
            have HB8 := Lib.hid (And.intro BU BN)
            have cT0 : W6.cell? ⟨w1.heap.size, 0, none⟩ = some (.int .i64 room) := (blk_cell H8.out.1.1 0).trans rfl
            have fT0 := blk_frozen (H8.out.1.1) 0
            have cT1 : W6.cell? ⟨w1.heap.size, 1, none⟩ = some (.int .i64 age) := (blk_cell H8.out.1.1 1).trans rfl
            have fT1 := blk_frozen (H8.out.1.1) 1
            have cT2 : W6.cell? ⟨w1.heap.size, 2, none⟩ = some (.map mb) := (blk_cell H8.out.1.1 2).trans rfl
            have fT2 := blk_frozen (H8.out.1.1) 2
            have ltT := blk_lt (H8.out.1.1)
            have cM0 : W6.cell? ⟨w1.heap.size + 1, 0, none⟩ = some (.int .i64 room) := (blk_cell H8.out.1.2.1 0).trans rfl
            have fM0 := blk_frozen (H8.out.1.2.1) 0
            have cM1 : W6.cell? ⟨w1.heap.size + 1, 1, none⟩ = some (.int .i64 age) := (blk_cell H8.out.1.2.1 1).trans rfl
            have fM1 := blk_frozen (H8.out.1.2.1) 1
            have cM2 : W6.cell? ⟨w1.heap.size + 1, 2, none⟩ = some (.slice Au lm.length cu) := (blk_cell H8.out.1.2.1 2).trans rfl
            have fM2 := blk_frozen (H8.out.1.2.1) 2
            have ltM := blk_lt (H8.out.1.2.1)
            have cU0 : W6.cell? ⟨w3.heap.size, 0, none⟩ = some (.int .i64 room) := (blk_cell BU 0).trans rfl
            have cU1 : W6.cell? ⟨w3.heap.size, 1, none⟩ = some (.int .i64 age) := (blk_cell BU 1).trans rfl
            have cU2 : W6.cell? ⟨w3.heap.size, 2, none⟩ = some (.map mb') := (blk_cell BU 2).trans rfl
            have ltU := blk_lt (BU)
            have cN0 : W6.cell? ⟨w5.heap.size, 0, none⟩ = some (.int .i64 room) := (blk_cell BN 0).trans rfl
            have cN1 : W6.cell? ⟨w5.heap.size, 1, none⟩ = some (.int .i64 age) := (blk_cell BN 1).trans rfl
            have cN2 : W6.cell? ⟨w5.heap.size, 2, none⟩ = some (.slice Au' lm'.length cu') := (blk_cell BN 2).trans rfl
            have ltN := blk_lt (BN)
            have hstep : ∀ w7 : World, w7.heap[w3.heap.size]? = some (.cells #[.int .i64 room, .int .i64 age, .map mb'] 26) → w7.heap[w5.heap.size]? = some (.cells #[.int .i64 room, .int .i64 age, .slice Au' lm'.length cu'] 34) → (fun w' : World => w'.cell? ⟨w3.heap.size, 0, none⟩ = some (.int .i64 room) ∧ w'.cell? ⟨w3.heap.size, 1, none⟩ = some (.int .i64 age) ∧ w'.cell? ⟨w3.heap.size, 2, none⟩ = some (.map mb') ∧ w'.cell? ⟨w5.heap.size, 0, none⟩ = some (.int .i64 room) ∧ w'.cell? ⟨w5.heap.size, 1, none⟩ = some (.int .i64 age) ∧ w'.cell? ⟨w5.heap.size, 2, none⟩ = some (.slice Au' lm'.length cu')) w7 := fun w7 hU hN => ⟨(blk_cell hU 0).trans rfl, (blk_cell hU 1).trans rfl, (blk_cell hU 2).trans rfl, (blk_cell hN 0).trans rfl, (blk_cell hN 1).trans rfl, (blk_cell hN 2).trans rfl⟩
            have HS := Lib.hid hstep
            clear hstep BU BN
            go_region_held3 (fun w' : World => w'.cell? ⟨w3.heap.size, 0, none⟩ = some (.int .i64 room) ∧ w'.cell? ⟨w3.heap.size, 1, none⟩ = some (.int .i64 age) ∧ w'.cell? ⟨w3.heap.size, 2, none⟩ = some (.map mb') ∧ w'.cell? ⟨w5.heap.size, 0, none⟩ = some (.int .i64 room) ∧ w'.cell? ⟨w5.heap.size, 1, none⟩ = some (.int .i64 age) ∧ w'.cell? ⟨w5.heap.size, 2, none⟩ = some (.slice Au' lm'.length cu')) (first | (with_reducible assumption) | exact HS.out _ (by repeat (first | with_reducible exact HB8.out.1 | with_reducible exact HB8.out.2 | with_reducible apply blk_drew | with_reducible refine blk_far ?_ (by simp; omega) _)) (by repeat (first | with_reducible exact HB8.out.1 | with_reducible exact HB8.out.2 | with_reducible apply blk_drew | with_reducible refine blk_far ?_ (by simp; omega) _))) (fail)
            refine exit_W (PF w room age w1.heap.size (w1.heap.size + 1) wr.heap.size mb' L' (.slice Au' lm'.length cu') lm' mb L (.slice Au lm.length cu) lm #[.int .u8 0, .int .u16 al, .int .u16 av, .int .u64 aa, .int .i64 ap] bW bB) ((H8.out.1.store H8.out.2).below (below_drew1 (Below.refl _ _))) ?_
            intro W8 hF8
            have H9 := Lib.hid hF8
            clear hF8
            clear H8 HS HB8 hm3 hm5
            have cT0 : W8.cell? ⟨w1.heap.size, 0, none⟩ = some (.int .i64 room) := (blk_cell H9.out.1 0).trans rfl
            have cT1 : W8.cell? ⟨w1.heap.size, 1, none⟩ = some (.int .i64 age) := (blk_cell H9.out.1 1).trans rfl
            have cT2 : W8.cell? ⟨w1.heap.size, 2, none⟩ = some (.map mb') := (blk_cell H9.out.1 2).trans rfl
            have ltT := blk_lt (H9.out.1)
            have cM0 : W8.cell? ⟨w1.heap.size + 1, 0, none⟩ = some (.int .i64 room) := (blk_cell H9.out.2.1 0).trans rfl
            have cM1 : W8.cell? ⟨w1.heap.size + 1, 1, none⟩ = some (.int .i64 age) := (blk_cell H9.out.2.1 1).trans rfl
            have cM2 : W8.cell? ⟨w1.heap.size + 1, 2, none⟩ = some (.slice Au' lm'.length cu') := (blk_cell H9.out.2.1 2).trans rfl
            have ltM := blk_lt (H9.out.2.1)
            have cB0 : W8.cell? ⟨bB, 0, none⟩ = some (.int .i64 room) := (blk_cell H9.out.2.2.2.1 0).trans rfl
            have cB1 : W8.cell? ⟨bB, 1, none⟩ = some (.int .i64 age) := (blk_cell H9.out.2.2.2.1 1).trans rfl
            have cB2 : W8.cell? ⟨bB, 2, none⟩ = some (.map mb) := (blk_cell H9.out.2.2.2.1 2).trans rfl
            have ltB := blk_lt (H9.out.2.2.2.1)
            have cW0 : W8.cell? ⟨bW, 0, none⟩ = some (.int .i64 room) := (blk_cell H9.out.2.2.2.2.1 0).trans rfl
            have cW1 : W8.cell? ⟨bW, 1, none⟩ = some (.int .i64 age) := (blk_cell H9.out.2.2.2.2.1 1).trans rfl
            have cW2 : W8.cell? ⟨bW, 2, none⟩ = some (.slice Au lm.length cu) := (blk_cell H9.out.2.2.2.2.1 2).trans rfl
            have ltW := blk_lt (H9.out.2.2.2.2.1)
            go_wp2_with fail
            refine fd_calls_W ?_
            intro X1 hX1
            have hbX1 : Below W8.heap.size W8 X1 := by rw [hX1]; repeat (first | exact Below.refl _ _ | apply below_alloc | apply below_drew1)
            clear hX1
            clear cT0 cT1 cT2 ltT cM0 cM1 cM2 ltM cB0 cB1 cB2 ltB cW0 cW1 cW2 ltW
            refine (st_same room age (H9.out.2.2.2.2.2.1.below hbX1) (by omega)).mono ?_
            rintro e' X2 ⟨rfl, hbX2⟩
            have G1 := Lib.hid (H9.out.below (hbX1.trans (hbX2.mono hbX1.size)))
            clear hbX1 hbX2
            have cT0 : X2.cell? ⟨w1.heap.size, 0, none⟩ = some (.int .i64 room) := (blk_cell G1.out.1 0).trans rfl
            have cT1 : X2.cell? ⟨w1.heap.size, 1, none⟩ = some (.int .i64 age) := (blk_cell G1.out.1 1).trans rfl
            have cT2 : X2.cell? ⟨w1.heap.size, 2, none⟩ = some (.map mb') := (blk_cell G1.out.1 2).trans rfl
            have ltT := blk_lt (G1.out.1)
            have cM0 : X2.cell? ⟨w1.heap.size + 1, 0, none⟩ = some (.int .i64 room) := (blk_cell G1.out.2.1 0).trans rfl
            have cM1 : X2.cell? ⟨w1.heap.size + 1, 1, none⟩ = some (.int .i64 age) := (blk_cell G1.out.2.1 1).trans rfl
            have cM2 : X2.cell? ⟨w1.heap.size + 1, 2, none⟩ = some (.slice Au' lm'.length cu') := (blk_cell G1.out.2.1 2).trans rfl
            have ltM := blk_lt (G1.out.2.1)
            have cB0 : X2.cell? ⟨bB, 0, none⟩ = some (.int .i64 room) := (blk_cell G1.out.2.2.2.1 0).trans rfl
            have cB1 : X2.cell? ⟨bB, 1, none⟩ = some (.int .i64 age) := (blk_cell G1.out.2.2.2.1 1).trans rfl
            have cB2 : X2.cell? ⟨bB, 2, none⟩ = some (.map mb) := (blk_cell G1.out.2.2.2.1 2).trans rfl
            have ltB := blk_lt (G1.out.2.2.2.1)
            have cW0 : X2.cell? ⟨bW, 0, none⟩ = some (.int .i64 room) := (blk_cell G1.out.2.2.2.2.1 0).trans rfl
            have cW1 : X2.cell? ⟨bW, 1, none⟩ = some (.int .i64 age) := (blk_cell G1.out.2.2.2.2.1 1).trans rfl
            have cW2 : X2.cell? ⟨bW, 2, none⟩ = some (.slice Au lm.length cu) := (blk_cell G1.out.2.2.2.2.1 2).trans rfl
            have ltW := blk_lt (G1.out.2.2.2.2.1)
            go_wp2_with fail
            refine fd_calls_W ?_
            intro X3 hX3
            have hbX3 : Below X2.heap.size X2 X3 := by rw [hX3]; repeat (first | exact Below.refl _ _ | apply below_alloc | apply below_drew1)
            clear hX3
            clear cT0 cT1 cT2 ltT cM0 cM1 cM2 ltM cB0 cB1 cB2 ltB cW0 cW1 cW2 ltW
            refine (st_same room age (G1.out.2.2.2.2.2.2.1.below hbX3) (by omega)).mono ?_
            rintro e' X4 ⟨rfl, hbX4⟩
            have G2 := Lib.hid (G1.out.below (hbX3.trans (hbX4.mono hbX3.size)))
            clear hbX3 hbX4
            go_wp2_with fail
            exact ⟨⟨k + 1, _, mb', L', _, _, lm', by omega, rfl, by simp, G2.out.1, G2.out.2.1, G2.out.2.2.2.2.2.1, by omega, G2.out.2.2.2.2.2.2.2.1⟩, by simp [intOf]; omega⟩
          · by_cases hk1 : ak = 1
            · subst hk1
              clear hk0
              go_wp2_with fail
              refine (look_calls room age _ _ _ mb L HW.out.1 HW.out.2 W2 H5.out.2.2.2.2.2.1.1).mono ?_
              rintro e' w3 ⟨hlk, hb3⟩
              obtain ⟨p, ok, rfl⟩ : ∃ p ok, e' = .returned (.tuple #[.int .i64 p, .bool ok]) := by
                obtain ⟨_, _, _, h | h⟩ := hlk
                · exact ⟨_, _, h.2.2⟩
                · exact ⟨_, _, h.2⟩
              have H6 := Lib.hid (And.intro (H5.out.below hb3) hlk)
              clear hlk hb3
              clear cT0 fT0 cT1 fT1 cT2 fT2 ltT cM0 fM0 cM1 fM1 cM2 fM2 ltM cA0 cA1 cA2 cA3 cA4 ltA
              have cT0 : w3.cell? ⟨w1.heap.size, 0, none⟩ = some (.int .i64 room) := (blk_cell H6.out.1.1 0).trans rfl
              have fT0 := blk_frozen (H6.out.1.1) 0
              have cT1 : w3.cell? ⟨w1.heap.size, 1, none⟩ = some (.int .i64 age) := (blk_cell H6.out.1.1 1).trans rfl
              have fT1 := blk_frozen (H6.out.1.1) 1
              have cT2 : w3.cell? ⟨w1.heap.size, 2, none⟩ = some (.map mb) := (blk_cell H6.out.1.1 2).trans rfl
              have fT2 := blk_frozen (H6.out.1.1) 2
              have ltT := blk_lt (H6.out.1.1)
              have cM0 : w3.cell? ⟨w1.heap.size + 1, 0, none⟩ = some (.int .i64 room) := (blk_cell H6.out.1.2.1 0).trans rfl
              have fM0 := blk_frozen (H6.out.1.2.1) 0
              have cM1 : w3.cell? ⟨w1.heap.size + 1, 1, none⟩ = some (.int .i64 age) := (blk_cell H6.out.1.2.1 1).trans rfl
              have fM1 := blk_frozen (H6.out.1.2.1) 1
              have cM2 : w3.cell? ⟨w1.heap.size + 1, 2, none⟩ = some (.slice Au lm.length cu) := (blk_cell H6.out.1.2.1 2).trans rfl
              have fM2 := blk_frozen (H6.out.1.2.1) 2
              have ltM := blk_lt (H6.out.1.2.1)
              have cA0 : w3.cell? ⟨wr.heap.size, 0, none⟩ = some (.int .u8 1) := (blk_cell H6.out.1.2.2.1 0).trans rfl
              have cA1 : w3.cell? ⟨wr.heap.size, 1, none⟩ = some (.int .u16 al) := (blk_cell H6.out.1.2.2.1 1).trans rfl
              have cA2 : w3.cell? ⟨wr.heap.size, 2, none⟩ = some (.int .u16 av) := (blk_cell H6.out.1.2.2.1 2).trans rfl
              have cA3 : w3.cell? ⟨wr.heap.size, 3, none⟩ = some (.int .u64 aa) := (blk_cell H6.out.1.2.2.1 3).trans rfl
              have cA4 : w3.cell? ⟨wr.heap.size, 4, none⟩ = some (.int .i64 ap) := (blk_cell H6.out.1.2.2.1 4).trans rfl
              have ltA := blk_lt (H6.out.1.2.2.1)
              go_wp2_with fail
              refine fd_calls_W ?_
              intro W4 hW4
              have hb34 : Below w3.heap.size w3 W4 := by rw [hW4]; repeat (first | exact Below.refl _ _ | apply below_alloc | apply below_drew1)
              clear hW4
              clear cT0 fT0 cT1 fT1 cT2 fT2 ltT cM0 fM0 cM1 fM1 cM2 fM2 ltM cA0 cA1 cA2 cA3 cA4 ltA
              have hml6 : lm.length ≤ 1000000 := by omega
              have hR4 := Kd.R_below H6.out.1.2.2.2.2.2.1.2.1 hb34
              have hC := rlook_calls room age (wrap64 (now + wrap64 al)) av aa (.slice Au lm.length cu) lm hml6 W4 (Kd.R_reads hR4)
              refine hC.mono ?_
              clear hC hR4 hml6
              rintro e' w5 ⟨r1, r2, rfl, hLKR, hb5⟩
              have he := st_look H6.out.1.2.2.2.2.2.1.2.2.1 H6.out.1.2.2.2.2.2.1.2.2.2 _ _ _ _ H6.out.2 hLKR
              obtain ⟨rfl, rfl⟩ : p = r1 ∧ ok = r2 := by simpa using he
              have H9 := Lib.hid (H6.out.1.below (hb34.trans (hb5.mono hb34.size)))
              clear he hLKR hb5 hb34 H6 H5
              have cT0 : w5.cell? ⟨w1.heap.size, 0, none⟩ = some (.int .i64 room) := (blk_cell H9.out.1 0).trans rfl
              have cT1 : w5.cell? ⟨w1.heap.size, 1, none⟩ = some (.int .i64 age) := (blk_cell H9.out.1 1).trans rfl
              have cT2 : w5.cell? ⟨w1.heap.size, 2, none⟩ = some (.map mb) := (blk_cell H9.out.1 2).trans rfl
              have ltT := blk_lt (H9.out.1)
              have cM0 : w5.cell? ⟨w1.heap.size + 1, 0, none⟩ = some (.int .i64 room) := (blk_cell H9.out.2.1 0).trans rfl
              have cM1 : w5.cell? ⟨w1.heap.size + 1, 1, none⟩ = some (.int .i64 age) := (blk_cell H9.out.2.1 1).trans rfl
              have cM2 : w5.cell? ⟨w1.heap.size + 1, 2, none⟩ = some (.slice Au lm.length cu) := (blk_cell H9.out.2.1 2).trans rfl
              have ltM := blk_lt (H9.out.2.1)
              have cB0 : w5.cell? ⟨bB, 0, none⟩ = some (.int .i64 room) := (blk_cell H9.out.2.2.2.1 0).trans rfl
              have cB1 : w5.cell? ⟨bB, 1, none⟩ = some (.int .i64 age) := (blk_cell H9.out.2.2.2.1 1).trans rfl
              have cB2 : w5.cell? ⟨bB, 2, none⟩ = some (.map mb) := (blk_cell H9.out.2.2.2.1 2).trans rfl
              have ltB := blk_lt (H9.out.2.2.2.1)
              have cW0 : w5.cell? ⟨bW, 0, none⟩ = some (.int .i64 room) := (blk_cell H9.out.2.2.2.2.1 0).trans rfl
              have cW1 : w5.cell? ⟨bW, 1, none⟩ = some (.int .i64 age) := (blk_cell H9.out.2.2.2.2.1 1).trans rfl
              have cW2 : w5.cell? ⟨bW, 2, none⟩ = some (.slice Au lm.length cu) := (blk_cell H9.out.2.2.2.2.1 2).trans rfl
              have ltW := blk_lt (H9.out.2.2.2.2.1)
              go_wp2_with fail
              refine fd_calls_W ?_
              intro X1 hX1
              have hbX1 : Below w5.heap.size w5 X1 := by rw [hX1]; repeat (first | exact Below.refl _ _ | apply below_alloc | apply below_drew1)
              clear hX1
              clear cT0 cT1 cT2 ltT cM0 cM1 cM2 ltM cB0 cB1 cB2 ltB cW0 cW1 cW2 ltW
              refine (st_same room age (H9.out.2.2.2.2.2.1.below hbX1) (by omega)).mono ?_
              rintro e' X2 ⟨rfl, hbX2⟩
              have G1 := Lib.hid (H9.out.below (hbX1.trans (hbX2.mono hbX1.size)))
              clear hbX1 hbX2
              have cT0 : X2.cell? ⟨w1.heap.size, 0, none⟩ = some (.int .i64 room) := (blk_cell G1.out.1 0).trans rfl
              have cT1 : X2.cell? ⟨w1.heap.size, 1, none⟩ = some (.int .i64 age) := (blk_cell G1.out.1 1).trans rfl
              have cT2 : X2.cell? ⟨w1.heap.size, 2, none⟩ = some (.map mb) := (blk_cell G1.out.1 2).trans rfl
              have ltT := blk_lt (G1.out.1)
              have cM0 : X2.cell? ⟨w1.heap.size + 1, 0, none⟩ = some (.int .i64 room) := (blk_cell G1.out.2.1 0).trans rfl
              have cM1 : X2.cell? ⟨w1.heap.size + 1, 1, none⟩ = some (.int .i64 age) := (blk_cell G1.out.2.1 1).trans rfl
              have cM2 : X2.cell? ⟨w1.heap.size + 1, 2, none⟩ = some (.slice Au lm.length cu) := (blk_cell G1.out.2.1 2).trans rfl
              have ltM := blk_lt (G1.out.2.1)
              have cB0 : X2.cell? ⟨bB, 0, none⟩ = some (.int .i64 room) := (blk_cell G1.out.2.2.2.1 0).trans rfl
              have cB1 : X2.cell? ⟨bB, 1, none⟩ = some (.int .i64 age) := (blk_cell G1.out.2.2.2.1 1).trans rfl
              have cB2 : X2.cell? ⟨bB, 2, none⟩ = some (.map mb) := (blk_cell G1.out.2.2.2.1 2).trans rfl
              have ltB := blk_lt (G1.out.2.2.2.1)
              have cW0 : X2.cell? ⟨bW, 0, none⟩ = some (.int .i64 room) := (blk_cell G1.out.2.2.2.2.1 0).trans rfl
              have cW1 : X2.cell? ⟨bW, 1, none⟩ = some (.int .i64 age) := (blk_cell G1.out.2.2.2.2.1 1).trans rfl
              have cW2 : X2.cell? ⟨bW, 2, none⟩ = some (.slice Au lm.length cu) := (blk_cell G1.out.2.2.2.2.1 2).trans rfl
              have ltW := blk_lt (G1.out.2.2.2.2.1)
              go_wp2_with fail
              refine fd_calls_W ?_
              intro X3 hX3
              have hbX3 : Below X2.heap.size X2 X3 := by rw [hX3]; repeat (first | exact Below.refl _ _ | apply below_alloc | apply below_drew1)
              clear hX3
              clear cT0 cT1 cT2 ltT cM0 cM1 cM2 ltM cB0 cB1 cB2 ltB cW0 cW1 cW2 ltW
              refine (st_same room age (G1.out.2.2.2.2.2.2.1.below hbX3) (by omega)).mono ?_
              rintro e' X4 ⟨rfl, hbX4⟩
              have G2 := Lib.hid (G1.out.below (hbX3.trans (hbX4.mono hbX3.size)))
              clear hbX3 hbX4
              go_wp2_with fail
              exact ⟨⟨k + 1, _, mb, L, _, _, lm, by omega, rfl, by simp, G2.out.1, G2.out.2.1, G2.out.2.2.2.2.2.1, by omega, G2.out.2.2.2.2.2.2.2.1⟩, by simp [intOf]; omega⟩
            · by_cases hk2 : ak = 2
              · subst hk2
                clear hk0 hk1
                go_wp2_with fail
                have hml6 : lm.length ≤ 1000000 := by omega
                have hLk6 : L.length ≤ 100000 := by omega
                apply cut_hid3
                · intro hk
                  go_region_with (first | (go_at_call 12; refine fd_calls_W ?_; intro X hX; have hbX : Below W2.heap.size W2 X := (by rw [hX]; repeat (first | exact Below.refl _ _ | apply below_drew1 | apply below_alloc)); clear hX; refine (sweep_calls room age (wrap64 (now + wrap64 al)) mb L hLk6 X (H5.out.2.2.2.2.2.1.1.below hbX)).mono ?_; rintro e' w7 ⟨mb', rfl, hT7, hb7⟩; have HX7 := Lib.hid (And.intro (H5.out.below (hbX.trans (hb7.mono hbX.size))) hT7); have cTT0 : w7.cell? ⟨w1.heap.size, 0, none⟩ = some (.int .i64 room) := (blk_cell HX7.out.1.1 0).trans rfl; have cTT1 : w7.cell? ⟨w1.heap.size, 1, none⟩ = some (.int .i64 age) := (blk_cell HX7.out.1.1 1).trans rfl; have cTT2 : w7.cell? ⟨w1.heap.size, 2, none⟩ = some (.map mb) := (blk_cell HX7.out.1.1 2).trans rfl; have ltTT := blk_lt (HX7.out.1.1); have cMM0 : w7.cell? ⟨w1.heap.size + 1, 0, none⟩ = some (.int .i64 room) := (blk_cell HX7.out.1.2.1 0).trans rfl; have cMM1 : w7.cell? ⟨w1.heap.size + 1, 1, none⟩ = some (.int .i64 age) := (blk_cell HX7.out.1.2.1 1).trans rfl; have cMM2 : w7.cell? ⟨w1.heap.size + 1, 2, none⟩ = some (.slice Au lm.length cu) := (blk_cell HX7.out.1.2.1 2).trans rfl; have ltMM := blk_lt (HX7.out.1.2.1); have cAA0 : w7.cell? ⟨wr.heap.size, 0, none⟩ = some (.int .u8 2) := (blk_cell HX7.out.1.2.2.1 0).trans rfl; have cAA1 : w7.cell? ⟨wr.heap.size, 1, none⟩ = some (.int .u16 al) := (blk_cell HX7.out.1.2.2.1 1).trans rfl; have cAA2 : w7.cell? ⟨wr.heap.size, 2, none⟩ = some (.int .u16 av) := (blk_cell HX7.out.1.2.2.1 2).trans rfl; have cAA3 : w7.cell? ⟨wr.heap.size, 3, none⟩ = some (.int .u64 aa) := (blk_cell HX7.out.1.2.2.1 3).trans rfl; have cAA4 : w7.cell? ⟨wr.heap.size, 4, none⟩ = some (.int .i64 ap) := (blk_cell HX7.out.1.2.2.1 4).trans rfl; have ltAA := blk_lt (HX7.out.1.2.2.1); clear hbX hT7 hb7) | (go_at_call 13; refine fd_calls_W ?_; intro Y hY; have hbY : Below w7.heap.size w7 Y := (by rw [hY]; repeat (first | exact Below.refl _ _ | apply below_drew1 | apply below_alloc)); clear hY; refine (rsweep2_calls room age (wrap64 (now + wrap64 al)) (.slice Au lm.length cu) lm hml6 w Y (HX7.out.1.below hbY).2.2.2.2.2.2.2.1 (Kd.R_below HX7.out.1.2.2.2.2.2.1.2.1 hbY)).mono ?_; rintro e' w8 ⟨u', rfl, hR8, hb8⟩; have hb78 := hbY.trans (hb8.mono hbY.size); obtain ⟨Au', cu', rfl⟩ := Kd.R_slice hR8; have HX8 := Lib.hid (And.intro (HX7.out.1.below hb78) (show ST w.heap.size w8 mb' _ _ _ from ⟨HX7.out.2.below hb78, hR8, (st_sweep HX7.out.1.2.2.2.2.2.1.2.2.1 HX7.out.1.2.2.2.2.2.1.2.2.2 (wrap64 (now + wrap64 al)) age).1, (st_sweep HX7.out.1.2.2.2.2.2.1.2.2.1 HX7.out.1.2.2.2.2.2.1.2.2.2 (wrap64 (now + wrap64 al)) age).2.1⟩)); have cTTT0 : w8.cell? ⟨w1.heap.size, 0, none⟩ = some (.int .i64 room) := (blk_cell HX8.out.1.1 0).trans rfl; have fTTT0 := blk_frozen (HX8.out.1.1) 0; have cTTT1 : w8.cell? ⟨w1.heap.size, 1, none⟩ = some (.int .i64 age) := (blk_cell HX8.out.1.1 1).trans rfl; have fTTT1 := blk_frozen (HX8.out.1.1) 1; have cTTT2 : w8.cell? ⟨w1.heap.size, 2, none⟩ = some (.map mb) := (blk_cell HX8.out.1.1 2).trans rfl; have fTTT2 := blk_frozen (HX8.out.1.1) 2; have ltTTT := blk_lt (HX8.out.1.1); have cMMM0 : w8.cell? ⟨w1.heap.size + 1, 0, none⟩ = some (.int .i64 room) := (blk_cell HX8.out.1.2.1 0).trans rfl; have fMMM0 := blk_frozen (HX8.out.1.2.1) 0; have cMMM1 : w8.cell? ⟨w1.heap.size + 1, 1, none⟩ = some (.int .i64 age) := (blk_cell HX8.out.1.2.1 1).trans rfl; have fMMM1 := blk_frozen (HX8.out.1.2.1) 1; have cMMM2 : w8.cell? ⟨w1.heap.size + 1, 2, none⟩ = some (.slice Au lm.length cu) := (blk_cell HX8.out.1.2.1 2).trans rfl; have fMMM2 := blk_frozen (HX8.out.1.2.1) 2; have ltMMM := blk_lt (HX8.out.1.2.1); have cAAA0 : w8.cell? ⟨wr.heap.size, 0, none⟩ = some (.int .u8 2) := (blk_cell HX8.out.1.2.2.1 0).trans rfl; have cAAA1 : w8.cell? ⟨wr.heap.size, 1, none⟩ = some (.int .u16 al) := (blk_cell HX8.out.1.2.2.1 1).trans rfl; have cAAA2 : w8.cell? ⟨wr.heap.size, 2, none⟩ = some (.int .u16 av) := (blk_cell HX8.out.1.2.2.1 2).trans rfl; have cAAA3 : w8.cell? ⟨wr.heap.size, 3, none⟩ = some (.int .u64 aa) := (blk_cell HX8.out.1.2.2.1 3).trans rfl; have cAAA4 : w8.cell? ⟨wr.heap.size, 4, none⟩ = some (.int .i64 ap) := (blk_cell HX8.out.1.2.2.1 4).trans rfl; have ltAAA := blk_lt (HX8.out.1.2.2.1); clear hbY hb8 hR8 hb78))
                  all_goals
                    have hPF := HX8.out.1.store HX8.out.2
                    unfold put3 at hPF
                    with_reducible refine exit_W (PF w room age w1.heap.size (w1.heap.size + 1) wr.heap.size mb' (L.filter fun q => !(decide (age ≤ wrap64 ((wrap64 (now + wrap64 al)) - q.2.2.2)))) (.slice Au' ((lm.filter (fun x => decide (wrap64 ((wrap64 (now + wrap64 al)) - x.f3) < age)))).length cu') (lm.filter (fun x => decide (wrap64 ((wrap64 (now + wrap64 al)) - x.f3) < age))) mb L (.slice Au lm.length cu) lm #[.int .u8 2, .int .u16 al, .int .u16 av, .int .u64 aa, .int .i64 ap] bW bB) hPF ?_
                    exact hk.out mb' Au' cu'
                intro mb' Au' cu' W8 hF8
                clear cT0 fT0 cT1 fT1 cT2 fT2 ltT cM0 fM0 cM1 fM1 cM2 fM2 ltM cA0 cA1 cA2 cA3 cA4 ltA
                have H9 := Lib.hid hF8
                have hl9 := (st_sweep H5.out.2.2.2.2.2.1.2.2.1 H5.out.2.2.2.2.2.1.2.2.2 (wrap64 (now + wrap64 al)) age).2.2
                clear hF8 H5
                have cT0 : W8.cell? ⟨w1.heap.size, 0, none⟩ = some (.int .i64 room) := (blk_cell H9.out.1 0).trans rfl
                have cT1 : W8.cell? ⟨w1.heap.size, 1, none⟩ = some (.int .i64 age) := (blk_cell H9.out.1 1).trans rfl
                have cT2 : W8.cell? ⟨w1.heap.size, 2, none⟩ = some (.map mb') := (blk_cell H9.out.1 2).trans rfl
                have ltT := blk_lt (H9.out.1)
                have cM0 : W8.cell? ⟨w1.heap.size + 1, 0, none⟩ = some (.int .i64 room) := (blk_cell H9.out.2.1 0).trans rfl
                have cM1 : W8.cell? ⟨w1.heap.size + 1, 1, none⟩ = some (.int .i64 age) := (blk_cell H9.out.2.1 1).trans rfl
                have cM2 : W8.cell? ⟨w1.heap.size + 1, 2, none⟩ = some (.slice Au' ((lm.filter (fun x => decide (wrap64 ((wrap64 (now + wrap64 al)) - x.f3) < age)))).length cu') := (blk_cell H9.out.2.1 2).trans rfl
                have ltM := blk_lt (H9.out.2.1)
                have cB0 : W8.cell? ⟨bB, 0, none⟩ = some (.int .i64 room) := (blk_cell H9.out.2.2.2.1 0).trans rfl
                have cB1 : W8.cell? ⟨bB, 1, none⟩ = some (.int .i64 age) := (blk_cell H9.out.2.2.2.1 1).trans rfl
                have cB2 : W8.cell? ⟨bB, 2, none⟩ = some (.map mb) := (blk_cell H9.out.2.2.2.1 2).trans rfl
                have ltB := blk_lt (H9.out.2.2.2.1)
                have cW0 : W8.cell? ⟨bW, 0, none⟩ = some (.int .i64 room) := (blk_cell H9.out.2.2.2.2.1 0).trans rfl
                have cW1 : W8.cell? ⟨bW, 1, none⟩ = some (.int .i64 age) := (blk_cell H9.out.2.2.2.2.1 1).trans rfl
                have cW2 : W8.cell? ⟨bW, 2, none⟩ = some (.slice Au lm.length cu) := (blk_cell H9.out.2.2.2.2.1 2).trans rfl
                have ltW := blk_lt (H9.out.2.2.2.2.1)
                go_wp2_with fail
                refine fd_calls_W ?_
                intro X1 hX1
                have hbX1 : Below W8.heap.size W8 X1 := by rw [hX1]; repeat (first | exact Below.refl _ _ | apply below_alloc | apply below_drew1)
                clear hX1
                clear cT0 cT1 cT2 ltT cM0 cM1 cM2 ltM cB0 cB1 cB2 ltB cW0 cW1 cW2 ltW
                refine (st_same room age (H9.out.2.2.2.2.2.1.below hbX1) (by omega)).mono ?_
                rintro e' X2 ⟨rfl, hbX2⟩
                have G1 := Lib.hid (H9.out.below (hbX1.trans (hbX2.mono hbX1.size)))
                clear hbX1 hbX2
                have cT0 : X2.cell? ⟨w1.heap.size, 0, none⟩ = some (.int .i64 room) := (blk_cell G1.out.1 0).trans rfl
                have cT1 : X2.cell? ⟨w1.heap.size, 1, none⟩ = some (.int .i64 age) := (blk_cell G1.out.1 1).trans rfl
                have cT2 : X2.cell? ⟨w1.heap.size, 2, none⟩ = some (.map mb') := (blk_cell G1.out.1 2).trans rfl
                have ltT := blk_lt (G1.out.1)
                have cM0 : X2.cell? ⟨w1.heap.size + 1, 0, none⟩ = some (.int .i64 room) := (blk_cell G1.out.2.1 0).trans rfl
                have cM1 : X2.cell? ⟨w1.heap.size + 1, 1, none⟩ = some (.int .i64 age) := (blk_cell G1.out.2.1 1).trans rfl
                have cM2 : X2.cell? ⟨w1.heap.size + 1, 2, none⟩ = some (.slice Au' ((lm.filter (fun x => decide (wrap64 ((wrap64 (now + wrap64 al)) - x.f3) < age)))).length cu') := (blk_cell G1.out.2.1 2).trans rfl
                have ltM := blk_lt (G1.out.2.1)
                have cB0 : X2.cell? ⟨bB, 0, none⟩ = some (.int .i64 room) := (blk_cell G1.out.2.2.2.1 0).trans rfl
                have cB1 : X2.cell? ⟨bB, 1, none⟩ = some (.int .i64 age) := (blk_cell G1.out.2.2.2.1 1).trans rfl
                have cB2 : X2.cell? ⟨bB, 2, none⟩ = some (.map mb) := (blk_cell G1.out.2.2.2.1 2).trans rfl
                have ltB := blk_lt (G1.out.2.2.2.1)
                have cW0 : X2.cell? ⟨bW, 0, none⟩ = some (.int .i64 room) := (blk_cell G1.out.2.2.2.2.1 0).trans rfl
                have cW1 : X2.cell? ⟨bW, 1, none⟩ = some (.int .i64 age) := (blk_cell G1.out.2.2.2.2.1 1).trans rfl
                have cW2 : X2.cell? ⟨bW, 2, none⟩ = some (.slice Au lm.length cu) := (blk_cell G1.out.2.2.2.2.1 2).trans rfl
                have ltW := blk_lt (G1.out.2.2.2.2.1)
                go_wp2_with fail
                refine fd_calls_W ?_
                intro X3 hX3
                have hbX3 : Below X2.heap.size X2 X3 := by rw [hX3]; repeat (first | exact Below.refl _ _ | apply below_alloc | apply below_drew1)
                clear hX3
                clear cT0 cT1 cT2 ltT cM0 cM1 cM2 ltM cB0 cB1 cB2 ltB cW0 cW1 cW2 ltW
                refine (st_same room age (G1.out.2.2.2.2.2.2.1.below hbX3) (by omega)).mono ?_
                rintro e' X4 ⟨rfl, hbX4⟩
                have G2 := Lib.hid (G1.out.below (hbX3.trans (hbX4.mono hbX3.size)))
                clear hbX3 hbX4
                go_wp2_with fail
                exact ⟨⟨k + 1, _, mb', (L.filter fun q => !(decide (age ≤ wrap64 ((wrap64 (now + wrap64 al)) - q.2.2.2)))), _, _, (lm.filter (fun x => decide (wrap64 ((wrap64 (now + wrap64 al)) - x.f3) < age))), by omega, rfl, by simp, G2.out.1, G2.out.2.1, G2.out.2.2.2.2.2.1, by omega, G2.out.2.2.2.2.2.2.2.1⟩, by simp [intOf]; omega⟩
              · by_cases hk3 : ak = 3
                · subst hk3
                  clear hk0 hk1 hk2
                  go_wp2_with fail
                  have hml6 : lm.length ≤ 1000000 := by omega
                  have hLk6 : L.length ≤ 100000 := by omega
                  apply cut_hid3
                  · intro hk
                    refine wp_region_noPanic ?_
                    refine wp_region_held_drew (S := (fun w' => w'.cell? ⟨wr.heap.size, 4, none⟩ = some (.int .i64 ap))) (by kernel_rfl) (by exact cA4) (fun hHeld => ?_)
                    refine wpAnyH_take (i := 1) (oi := { dst := some 148, op := Op.fieldAddr 38 (Operand.tmp 12) 4, type := 0, pos := "law.go:74", after := #[], guard := none }) (v := ?_) rfl (by kernel_rfl) (by kernel_rfl) (by kernel_rfl) (fun _ _ _ h => h) (Or.inl ⟨by rfl, ?_⟩) (by assumption) ?_
                    rotate_left
                    · (intro w hSw; (try dsimp only at hSw); go_simp); all_goals with_reducible rfl
                    try simp only [Act.put, List.setIfInBounds_toArray, List.set_cons_zero, List.set_cons_succ]
                    refine wpAnyH_take (i := 2) (oi := { dst := some 149, op := Op.load 3 (Operand.tmp 148), type := 3, pos := "law.go:74", after := #[{ on := 1, ground := Ground.data }], guard := none }) (v := ?_) rfl (by kernel_rfl) (by kernel_rfl) (by kernel_rfl) (fun _ _ _ h => h) (Or.inl ⟨by rfl, ?_⟩) (by assumption) ?_
                    rotate_left
                    · (intro w hSw; (try dsimp only at hSw); go_simp); all_goals with_reducible rfl
                    try simp only [Act.put, List.setIfInBounds_toArray, List.set_cons_zero, List.set_cons_succ]
                    refine wpAnyH_take (i := 5) (oi := { dst := some 152, op := Op.fieldAddr 38 (Operand.tmp 12) 4, type := 0, pos := "law.go:74", after := #[], guard := none }) (v := ?_) rfl (by kernel_rfl) (by kernel_rfl) (by kernel_rfl) (fun _ _ _ h => h) (Or.inl ⟨by rfl, ?_⟩) (by assumption) ?_
                    rotate_left
                    · (intro w hSw; (try dsimp only at hSw); go_simp); all_goals with_reducible rfl
                    try simp only [Act.put, List.setIfInBounds_toArray, List.set_cons_zero, List.set_cons_succ]
                    refine wpAnyH_take (i := 6) (oi := { dst := some 153, op := Op.load 3 (Operand.tmp 152), type := 3, pos := "law.go:74", after := #[{ on := 5, ground := Ground.data }], guard := none }) (v := ?_) rfl (by kernel_rfl) (by kernel_rfl) (by kernel_rfl) (fun _ _ _ h => h) (Or.inl ⟨by rfl, ?_⟩) (by assumption) ?_
                    rotate_left
                    · (intro w hSw; (try dsimp only at hSw); go_simp); all_goals with_reducible rfl
                    try simp only [Act.put, List.setIfInBounds_toArray, List.set_cons_zero, List.set_cons_succ]
                    refine wpAnyH_ready (rs := [0, 4]) (by kernel_rfl) (by simp) ?_
                    refine AllReadyH.cons (o := { dst := some 147, op := Op.load 26 (Operand.tmp 7), type := 26, pos := "law.go:74", after := #[], guard := none }) rfl (fun K hK => ?_) ?_
                    · skip
                      go_simp
                      refine hK.out _ _ ?_ (fun hHeld => ?_)
                      · exact hHeld
                      clear hK K
                      try simp only [Act.put, List.setIfInBounds_toArray, List.set_cons_zero, List.set_cons_succ]
                      refine wpAnyH_ready (rs := [3, 4]) (by kernel_rfl) (by simp) ?_
                      refine AllReadyH.cons (o := { dst := some 150, op := Op.call { callee := Callee.value (Operand.func 14), args := #[Operand.tmp 147, Operand.tmp 149], argTypes := #[26, 3] }, type := 26, pos := "law.go:74", after := #[{ on := 0, ground := Ground.data }, { on := 2, ground := Ground.data }], guard := none }) rfl (fun K hK => ?_) ?_
                      · skip
                        go_simp
                        refine fd_calls_W ?_
                        intro X hX
                        have hbX : Below W2.heap.size W2 X := (by rw [hX]; repeat (first | exact Below.refl _ _ | apply below_drew1 | apply below_alloc))
                        clear hX
                        refine (flush_calls room age ap mb L hLk6 X (H5.out.2.2.2.2.2.1.1.below hbX)).mono ?_
                        rintro e' w7 ⟨mb', rfl, hT7, hb7⟩
                        have HX7 := Lib.hid (And.intro (H5.out.below (hbX.trans (hb7.mono hbX.size))) hT7)
                        have cTT0 : w7.cell? ⟨w1.heap.size, 0, none⟩ = some (.int .i64 room) := (blk_cell HX7.out.1.1 0).trans rfl
                        have cTT1 : w7.cell? ⟨w1.heap.size, 1, none⟩ = some (.int .i64 age) := (blk_cell HX7.out.1.1 1).trans rfl
                        have cTT2 : w7.cell? ⟨w1.heap.size, 2, none⟩ = some (.map mb) := (blk_cell HX7.out.1.1 2).trans rfl
                        have ltTT := blk_lt (HX7.out.1.1)
                        have cMM0 : w7.cell? ⟨w1.heap.size + 1, 0, none⟩ = some (.int .i64 room) := (blk_cell HX7.out.1.2.1 0).trans rfl
                        have cMM1 : w7.cell? ⟨w1.heap.size + 1, 1, none⟩ = some (.int .i64 age) := (blk_cell HX7.out.1.2.1 1).trans rfl
                        have cMM2 : w7.cell? ⟨w1.heap.size + 1, 2, none⟩ = some (.slice Au lm.length cu) := (blk_cell HX7.out.1.2.1 2).trans rfl
                        have ltMM := blk_lt (HX7.out.1.2.1)
                        have cAA0 : w7.cell? ⟨wr.heap.size, 0, none⟩ = some (.int .u8 3) := (blk_cell HX7.out.1.2.2.1 0).trans rfl
                        have cAA1 : w7.cell? ⟨wr.heap.size, 1, none⟩ = some (.int .u16 al) := (blk_cell HX7.out.1.2.2.1 1).trans rfl
                        have cAA2 : w7.cell? ⟨wr.heap.size, 2, none⟩ = some (.int .u16 av) := (blk_cell HX7.out.1.2.2.1 2).trans rfl
                        have cAA3 : w7.cell? ⟨wr.heap.size, 3, none⟩ = some (.int .u64 aa) := (blk_cell HX7.out.1.2.2.1 3).trans rfl
                        have cAA4 : w7.cell? ⟨wr.heap.size, 4, none⟩ = some (.int .i64 ap) := (blk_cell HX7.out.1.2.2.1 4).trans rfl
                        have ltAA := blk_lt (HX7.out.1.2.2.1)
                        clear hbX hT7 hb7
                        go_wp2_with fail
                        refine hK.out _ _ ?_ (fun hHeld => ?_)
                        · exact cAA4
                        clear hK K
                        try simp only [Act.put, List.setIfInBounds_toArray, List.set_cons_zero, List.set_cons_succ]
                        refine wpAnyH_ready (rs := [4]) (by kernel_rfl) (by simp) ?_
                        refine AllReadyH.cons (o := { dst := some 151, op := Op.load 34 (Operand.tmp 9), type := 34, pos := "law.go:74", after := #[], guard := none }) rfl (fun K hK => ?_) AllReadyH.nil
                        go_simp
                        refine hK.out _ _ ?_ (fun hHeld => ?_)
                        · exact hHeld
                        clear hK K
                        try simp only [Act.put, List.setIfInBounds_toArray, List.set_cons_zero, List.set_cons_succ]
                        refine wpAnyH_ready (rs := [7]) (by kernel_rfl) (by simp) ?_
                        refine AllReadyH.cons (o := { dst := some 154, op := Op.call { callee := Callee.value (Operand.func 15), args := #[Operand.tmp 151, Operand.tmp 153], argTypes := #[34, 3] }, type := 34, pos := "law.go:74", after := #[{ on := 4, ground := Ground.data }, { on := 6, ground := Ground.data }, { on := 3, ground := Ground.chain }], guard := none }) rfl (fun K hK => ?_) AllReadyH.nil
                        go_simp
                        refine fd_calls_W ?_
                        intro Y hY
                        have hbY : Below w7.heap.size w7 Y := (by rw [hY]; repeat (first | exact Below.refl _ _ | apply below_drew1 | apply below_alloc))
                        clear hY
                        refine (rflush2_calls room age ap (.slice Au lm.length cu) lm hml6 w Y (HX7.out.1.below hbY).2.2.2.2.2.2.2.1 (Kd.R_below HX7.out.1.2.2.2.2.2.1.2.1 hbY)).mono ?_
                        rintro e' w8 ⟨u', rfl, hR8, hb8⟩
                        have hb78 := hbY.trans (hb8.mono hbY.size)
                        obtain ⟨Au', cu', rfl⟩ := Kd.R_slice hR8
                        have HX8 := Lib.hid (And.intro (HX7.out.1.below hb78) (show ST w.heap.size w8 mb' _ _ _ from ⟨HX7.out.2.below hb78, hR8, (st_flush HX7.out.1.2.2.2.2.2.1.2.2.1 HX7.out.1.2.2.2.2.2.1.2.2.2 ap).1, (st_flush HX7.out.1.2.2.2.2.2.1.2.2.1 HX7.out.1.2.2.2.2.2.1.2.2.2 ap).2.1⟩))
                        have cTTT0 : w8.cell? ⟨w1.heap.size, 0, none⟩ = some (.int .i64 room) := (blk_cell HX8.out.1.1 0).trans rfl
                        have fTTT0 := blk_frozen (HX8.out.1.1) 0
                        have cTTT1 : w8.cell? ⟨w1.heap.size, 1, none⟩ = some (.int .i64 age) := (blk_cell HX8.out.1.1 1).trans rfl
                        have fTTT1 := blk_frozen (HX8.out.1.1) 1
                        have cTTT2 : w8.cell? ⟨w1.heap.size, 2, none⟩ = some (.map mb) := (blk_cell HX8.out.1.1 2).trans rfl
                        have fTTT2 := blk_frozen (HX8.out.1.1) 2
                        have ltTTT := blk_lt (HX8.out.1.1)
                        have cMMM0 : w8.cell? ⟨w1.heap.size + 1, 0, none⟩ = some (.int .i64 room) := (blk_cell HX8.out.1.2.1 0).trans rfl
                        have fMMM0 := blk_frozen (HX8.out.1.2.1) 0
                        have cMMM1 : w8.cell? ⟨w1.heap.size + 1, 1, none⟩ = some (.int .i64 age) := (blk_cell HX8.out.1.2.1 1).trans rfl
                        have fMMM1 := blk_frozen (HX8.out.1.2.1) 1
                        have cMMM2 : w8.cell? ⟨w1.heap.size + 1, 2, none⟩ = some (.slice Au lm.length cu) := (blk_cell HX8.out.1.2.1 2).trans rfl
                        have fMMM2 := blk_frozen (HX8.out.1.2.1) 2
                        have ltMMM := blk_lt (HX8.out.1.2.1)
                        have cAAA0 : w8.cell? ⟨wr.heap.size, 0, none⟩ = some (.int .u8 3) := (blk_cell HX8.out.1.2.2.1 0).trans rfl
                        have cAAA1 : w8.cell? ⟨wr.heap.size, 1, none⟩ = some (.int .u16 al) := (blk_cell HX8.out.1.2.2.1 1).trans rfl
                        have cAAA2 : w8.cell? ⟨wr.heap.size, 2, none⟩ = some (.int .u16 av) := (blk_cell HX8.out.1.2.2.1 2).trans rfl
                        have cAAA3 : w8.cell? ⟨wr.heap.size, 3, none⟩ = some (.int .u64 aa) := (blk_cell HX8.out.1.2.2.1 3).trans rfl
                        have cAAA4 : w8.cell? ⟨wr.heap.size, 4, none⟩ = some (.int .i64 ap) := (blk_cell HX8.out.1.2.2.1 4).trans rfl
                        have ltAAA := blk_lt (HX8.out.1.2.2.1)
                        clear hbY hb8 hR8 hb78
                        go_wp2_with fail
                        refine hK.out _ _ ?_ (fun hHeld => ?_)
                        · exact cAAA4
                        clear hK K
                        try simp only [Act.put, List.setIfInBounds_toArray, List.set_cons_zero, List.set_cons_succ]
                        have hma := HX8.out.1.2.2.2.2.2.2.2.2.1
                        have hSx : (put3 w8 w1.heap.size (.int .i64 room) (.int .i64 age) (.map mb')).cell? ⟨wr.heap.size, 4, none⟩ = some (.int .i64 ap) := (blk_cell (blk_put3_far HX8.out.1.2.2.1 (by omega) _ _ _) 4).trans rfl
                        have hSy : (put3 (put3 w8 w1.heap.size (.int .i64 room) (.int .i64 age) (.map mb')) (w1.heap.size + 1) (.int .i64 room) (.int .i64 age) (.slice Au' ((lm.filter (fun x => decide (0 ≤ ap) && !decide (x.f2 = ap)))).length cu')).cell? ⟨wr.heap.size, 4, none⟩ = some (.int .i64 ap) := (blk_cell (HX8.out.1.store HX8.out.2).2.2.1 4).trans rfl
                        unfold put3 at hSx hSy
                        refine wpAnyH_ready (rs := [8]) (by kernel_rfl) (by simp) ?_
                        refine AllReadyH.cons (o := { dst := none, op := Op.store 26 (Operand.tmp 7) (Operand.tmp 150), type := 0, pos := "law.go:74", after := #[{ on := 3, ground := Ground.data }, { on := 7, ground := Ground.chain }, { on := 0, ground := Ground.phase }, { on := 1, ground := Ground.phase }, { on := 2, ground := Ground.phase }, { on := 3, ground := Ground.phase }, { on := 4, ground := Ground.textOnly Departure.lateStores }, { on := 5, ground := Ground.textOnly Departure.lateStores }, { on := 6, ground := Ground.textOnly Departure.lateStores }, { on := 7, ground := Ground.textOnly Departure.lateStoresUnsure }], guard := none }) rfl (fun K hK => ?_) AllReadyH.nil
                        go_simp
                        refine hK.out _ _ ?_ (fun hHeld => ?_)
                        · (with_reducible exact hSx)
                        clear hK K
                        try simp only [Act.put, List.setIfInBounds_toArray, List.set_cons_zero, List.set_cons_succ]
                        refine wpAnyH_ready (rs := [9]) (by kernel_rfl) (by simp) ?_
                        refine AllReadyH.cons (o := { dst := none, op := Op.store 34 (Operand.tmp 9) (Operand.tmp 154), type := 0, pos := "law.go:74", after := #[{ on := 7, ground := Ground.data }, { on := 8, ground := Ground.chain }, { on := 0, ground := Ground.phase }, { on := 1, ground := Ground.phase }, { on := 2, ground := Ground.phase }, { on := 3, ground := Ground.phase }, { on := 4, ground := Ground.phase }, { on := 5, ground := Ground.phase }, { on := 6, ground := Ground.phase }, { on := 7, ground := Ground.phase }, { on := 8, ground := Ground.phase }], guard := none }) rfl (fun K hK => ?_) AllReadyH.nil
                        go_simp
                        refine hK.out _ _ ?_ (fun hHeld => ?_)
                        · (with_reducible exact hSy)
                        clear hK K
                        try simp only [Act.put, List.setIfInBounds_toArray, List.set_cons_zero, List.set_cons_succ]
                        refine wpAnyH_done (by kernel_rfl) ?_ _
                        refine NoPanic.normal ?_
                        clear hSx hSy
                        have hPF := HX8.out.1.store HX8.out.2
                        unfold put3 at hPF
                        with_reducible refine exit_W (PF w room age w1.heap.size (w1.heap.size + 1) wr.heap.size mb' (L.filter fun q => !(decide (ap < 0) || q.2.2.1 == ap)) (.slice Au' ((lm.filter (fun x => decide (0 ≤ ap) && !decide (x.f2 = ap)))).length cu') (lm.filter (fun x => decide (0 ≤ ap) && !decide (x.f2 = ap))) mb L (.slice Au lm.length cu) lm #[.int .u8 3, .int .u16 al, .int .u16 av, .int .u64 aa, .int .i64 ap] bW bB) hPF ?_
                        exact hk.out mb' Au' cu'
                      refine AllReadyH.cons (o := { dst := some 151, op := Op.load 34 (Operand.tmp 9), type := 34, pos := "law.go:74", after := #[], guard := none }) rfl (fun K hK => ?_) AllReadyH.nil
                      go_simp
                      refine hK.out _ _ ?_ (fun hHeld => ?_)
                      · exact hHeld
                      clear hK K
                      try simp only [Act.put, List.setIfInBounds_toArray, List.set_cons_zero, List.set_cons_succ]
                      refine wpAnyH_ready (rs := [3]) (by kernel_rfl) (by simp) ?_
                      refine AllReadyH.cons (o := { dst := some 150, op := Op.call { callee := Callee.value (Operand.func 14), args := #[Operand.tmp 147, Operand.tmp 149], argTypes := #[26, 3] }, type := 26, pos := "law.go:74", after := #[{ on := 0, ground := Ground.data }, { on := 2, ground := Ground.data }], guard := none }) rfl (fun K hK => ?_) AllReadyH.nil
                      go_simp
                      refine fd_calls_W ?_
                      intro X hX
                      have hbX : Below W2.heap.size W2 X := (by rw [hX]; repeat (first | exact Below.refl _ _ | apply below_drew1 | apply below_alloc))
                      clear hX
                      refine (flush_calls room age ap mb L hLk6 X (H5.out.2.2.2.2.2.1.1.below hbX)).mono ?_
                      rintro e' w7 ⟨mb', rfl, hT7, hb7⟩
                      have HX7 := Lib.hid (And.intro (H5.out.below (hbX.trans (hb7.mono hbX.size))) hT7)
                      have cTT0 : w7.cell? ⟨w1.heap.size, 0, none⟩ = some (.int .i64 room) := (blk_cell HX7.out.1.1 0).trans rfl
                      have cTT1 : w7.cell? ⟨w1.heap.size, 1, none⟩ = some (.int .i64 age) := (blk_cell HX7.out.1.1 1).trans rfl
                      have cTT2 : w7.cell? ⟨w1.heap.size, 2, none⟩ = some (.map mb) := (blk_cell HX7.out.1.1 2).trans rfl
                      have ltTT := blk_lt (HX7.out.1.1)
                      have cMM0 : w7.cell? ⟨w1.heap.size + 1, 0, none⟩ = some (.int .i64 room) := (blk_cell HX7.out.1.2.1 0).trans rfl
                      have cMM1 : w7.cell? ⟨w1.heap.size + 1, 1, none⟩ = some (.int .i64 age) := (blk_cell HX7.out.1.2.1 1).trans rfl
                      have cMM2 : w7.cell? ⟨w1.heap.size + 1, 2, none⟩ = some (.slice Au lm.length cu) := (blk_cell HX7.out.1.2.1 2).trans rfl
                      have ltMM := blk_lt (HX7.out.1.2.1)
                      have cAA0 : w7.cell? ⟨wr.heap.size, 0, none⟩ = some (.int .u8 3) := (blk_cell HX7.out.1.2.2.1 0).trans rfl
                      have cAA1 : w7.cell? ⟨wr.heap.size, 1, none⟩ = some (.int .u16 al) := (blk_cell HX7.out.1.2.2.1 1).trans rfl
                      have cAA2 : w7.cell? ⟨wr.heap.size, 2, none⟩ = some (.int .u16 av) := (blk_cell HX7.out.1.2.2.1 2).trans rfl
                      have cAA3 : w7.cell? ⟨wr.heap.size, 3, none⟩ = some (.int .u64 aa) := (blk_cell HX7.out.1.2.2.1 3).trans rfl
                      have cAA4 : w7.cell? ⟨wr.heap.size, 4, none⟩ = some (.int .i64 ap) := (blk_cell HX7.out.1.2.2.1 4).trans rfl
                      have ltAA := blk_lt (HX7.out.1.2.2.1)
                      clear hbX hT7 hb7
                      go_wp2_with fail
                      refine hK.out _ _ ?_ (fun hHeld => ?_)
                      · exact cAA4
                      clear hK K
                      try simp only [Act.put, List.setIfInBounds_toArray, List.set_cons_zero, List.set_cons_succ]
                      refine wpAnyH_ready (rs := [7]) (by kernel_rfl) (by simp) ?_
                      refine AllReadyH.cons (o := { dst := some 154, op := Op.call { callee := Callee.value (Operand.func 15), args := #[Operand.tmp 151, Operand.tmp 153], argTypes := #[34, 3] }, type := 34, pos := "law.go:74", after := #[{ on := 4, ground := Ground.data }, { on := 6, ground := Ground.data }, { on := 3, ground := Ground.chain }], guard := none }) rfl (fun K hK => ?_) AllReadyH.nil
                      go_simp
                      refine fd_calls_W ?_
                      intro Y hY
                      have hbY : Below w7.heap.size w7 Y := (by rw [hY]; repeat (first | exact Below.refl _ _ | apply below_drew1 | apply below_alloc))
                      clear hY
                      refine (rflush2_calls room age ap (.slice Au lm.length cu) lm hml6 w Y (HX7.out.1.below hbY).2.2.2.2.2.2.2.1 (Kd.R_below HX7.out.1.2.2.2.2.2.1.2.1 hbY)).mono ?_
                      rintro e' w8 ⟨u', rfl, hR8, hb8⟩
                      have hb78 := hbY.trans (hb8.mono hbY.size)
                      obtain ⟨Au', cu', rfl⟩ := Kd.R_slice hR8
                      have HX8 := Lib.hid (And.intro (HX7.out.1.below hb78) (show ST w.heap.size w8 mb' _ _ _ from ⟨HX7.out.2.below hb78, hR8, (st_flush HX7.out.1.2.2.2.2.2.1.2.2.1 HX7.out.1.2.2.2.2.2.1.2.2.2 ap).1, (st_flush HX7.out.1.2.2.2.2.2.1.2.2.1 HX7.out.1.2.2.2.2.2.1.2.2.2 ap).2.1⟩))
                      have cTTT0 : w8.cell? ⟨w1.heap.size, 0, none⟩ = some (.int .i64 room) := (blk_cell HX8.out.1.1 0).trans rfl
                      have fTTT0 := blk_frozen (HX8.out.1.1) 0
                      have cTTT1 : w8.cell? ⟨w1.heap.size, 1, none⟩ = some (.int .i64 age) := (blk_cell HX8.out.1.1 1).trans rfl
                      have fTTT1 := blk_frozen (HX8.out.1.1) 1
                      have cTTT2 : w8.cell? ⟨w1.heap.size, 2, none⟩ = some (.map mb) := (blk_cell HX8.out.1.1 2).trans rfl
                      have fTTT2 := blk_frozen (HX8.out.1.1) 2
                      have ltTTT := blk_lt (HX8.out.1.1)
                      have cMMM0 : w8.cell? ⟨w1.heap.size + 1, 0, none⟩ = some (.int .i64 room) := (blk_cell HX8.out.1.2.1 0).trans rfl
                      have fMMM0 := blk_frozen (HX8.out.1.2.1) 0
                      have cMMM1 : w8.cell? ⟨w1.heap.size + 1, 1, none⟩ = some (.int .i64 age) := (blk_cell HX8.out.1.2.1 1).trans rfl
                      have fMMM1 := blk_frozen (HX8.out.1.2.1) 1
                      have cMMM2 : w8.cell? ⟨w1.heap.size + 1, 2, none⟩ = some (.slice Au lm.length cu) := (blk_cell HX8.out.1.2.1 2).trans rfl
                      have fMMM2 := blk_frozen (HX8.out.1.2.1) 2
                      have ltMMM := blk_lt (HX8.out.1.2.1)
                      have cAAA0 : w8.cell? ⟨wr.heap.size, 0, none⟩ = some (.int .u8 3) := (blk_cell HX8.out.1.2.2.1 0).trans rfl
                      have cAAA1 : w8.cell? ⟨wr.heap.size, 1, none⟩ = some (.int .u16 al) := (blk_cell HX8.out.1.2.2.1 1).trans rfl
                      have cAAA2 : w8.cell? ⟨wr.heap.size, 2, none⟩ = some (.int .u16 av) := (blk_cell HX8.out.1.2.2.1 2).trans rfl
                      have cAAA3 : w8.cell? ⟨wr.heap.size, 3, none⟩ = some (.int .u64 aa) := (blk_cell HX8.out.1.2.2.1 3).trans rfl
                      have cAAA4 : w8.cell? ⟨wr.heap.size, 4, none⟩ = some (.int .i64 ap) := (blk_cell HX8.out.1.2.2.1 4).trans rfl
                      have ltAAA := blk_lt (HX8.out.1.2.2.1)
                      clear hbY hb8 hR8 hb78
                      go_wp2_with fail
                      refine hK.out _ _ ?_ (fun hHeld => ?_)
                      · exact cAAA4
                      clear hK K
                      try simp only [Act.put, List.setIfInBounds_toArray, List.set_cons_zero, List.set_cons_succ]
                      have hma := HX8.out.1.2.2.2.2.2.2.2.2.1
                      have hSx : (put3 w8 w1.heap.size (.int .i64 room) (.int .i64 age) (.map mb')).cell? ⟨wr.heap.size, 4, none⟩ = some (.int .i64 ap) := (blk_cell (blk_put3_far HX8.out.1.2.2.1 (by omega) _ _ _) 4).trans rfl
                      have hSy : (put3 (put3 w8 w1.heap.size (.int .i64 room) (.int .i64 age) (.map mb')) (w1.heap.size + 1) (.int .i64 room) (.int .i64 age) (.slice Au' ((lm.filter (fun x => decide (0 ≤ ap) && !decide (x.f2 = ap)))).length cu')).cell? ⟨wr.heap.size, 4, none⟩ = some (.int .i64 ap) := (blk_cell (HX8.out.1.store HX8.out.2).2.2.1 4).trans rfl
                      unfold put3 at hSx hSy
                      refine wpAnyH_ready (rs := [8]) (by kernel_rfl) (by simp) ?_
                      refine AllReadyH.cons (o := { dst := none, op := Op.store 26 (Operand.tmp 7) (Operand.tmp 150), type := 0, pos := "law.go:74", after := #[{ on := 3, ground := Ground.data }, { on := 7, ground := Ground.chain }, { on := 0, ground := Ground.phase }, { on := 1, ground := Ground.phase }, { on := 2, ground := Ground.phase }, { on := 3, ground := Ground.phase }, { on := 4, ground := Ground.textOnly Departure.lateStores }, { on := 5, ground := Ground.textOnly Departure.lateStores }, { on := 6, ground := Ground.textOnly Departure.lateStores }, { on := 7, ground := Ground.textOnly Departure.lateStoresUnsure }], guard := none }) rfl (fun K hK => ?_) AllReadyH.nil
                      go_simp
                      refine hK.out _ _ ?_ (fun hHeld => ?_)
                      · (with_reducible exact hSx)
                      clear hK K
                      try simp only [Act.put, List.setIfInBounds_toArray, List.set_cons_zero, List.set_cons_succ]
                      refine wpAnyH_ready (rs := [9]) (by kernel_rfl) (by simp) ?_
                      refine AllReadyH.cons (o := { dst := none, op := Op.store 34 (Operand.tmp 9) (Operand.tmp 154), type := 0, pos := "law.go:74", after := #[{ on := 7, ground := Ground.data }, { on := 8, ground := Ground.chain }, { on := 0, ground := Ground.phase }, { on := 1, ground := Ground.phase }, { on := 2, ground := Ground.phase }, { on := 3, ground := Ground.phase }, { on := 4, ground := Ground.phase }, { on := 5, ground := Ground.phase }, { on := 6, ground := Ground.phase }, { on := 7, ground := Ground.phase }, { on := 8, ground := Ground.phase }], guard := none }) rfl (fun K hK => ?_) AllReadyH.nil
                      go_simp
                      refine hK.out _ _ ?_ (fun hHeld => ?_)
                      · (with_reducible exact hSy)
                      clear hK K
                      try simp only [Act.put, List.setIfInBounds_toArray, List.set_cons_zero, List.set_cons_succ]
                      refine wpAnyH_done (by kernel_rfl) ?_ _
                      refine NoPanic.normal ?_
                      clear hSx hSy
                      have hPF := HX8.out.1.store HX8.out.2
                      unfold put3 at hPF
                      with_reducible refine exit_W (PF w room age w1.heap.size (w1.heap.size + 1) wr.heap.size mb' (L.filter fun q => !(decide (ap < 0) || q.2.2.1 == ap)) (.slice Au' ((lm.filter (fun x => decide (0 ≤ ap) && !decide (x.f2 = ap)))).length cu') (lm.filter (fun x => decide (0 ≤ ap) && !decide (x.f2 = ap))) mb L (.slice Au lm.length cu) lm #[.int .u8 3, .int .u16 al, .int .u16 av, .int .u64 aa, .int .i64 ap] bW bB) hPF ?_
                      exact hk.out mb' Au' cu'
                    refine AllReadyH.cons (o := { dst := some 151, op := Op.load 34 (Operand.tmp 9), type := 34, pos := "law.go:74", after := #[], guard := none }) rfl (fun K hK => ?_) AllReadyH.nil
                    go_simp
                    refine hK.out _ _ ?_ (fun hHeld => ?_)
                    · exact hHeld
                    clear hK K
                    try simp only [Act.put, List.setIfInBounds_toArray, List.set_cons_zero, List.set_cons_succ]
                    refine wpAnyH_ready (rs := [0]) (by kernel_rfl) (by simp) ?_
                    refine AllReadyH.cons (o := { dst := some 147, op := Op.load 26 (Operand.tmp 7), type := 26, pos := "law.go:74", after := #[], guard := none }) rfl (fun K hK => ?_) AllReadyH.nil
                    go_simp
                    refine hK.out _ _ ?_ (fun hHeld => ?_)
                    · exact hHeld
                    clear hK K
                    try simp only [Act.put, List.setIfInBounds_toArray, List.set_cons_zero, List.set_cons_succ]
                    refine wpAnyH_ready (rs := [3]) (by kernel_rfl) (by simp) ?_
                    refine AllReadyH.cons (o := { dst := some 150, op := Op.call { callee := Callee.value (Operand.func 14), args := #[Operand.tmp 147, Operand.tmp 149], argTypes := #[26, 3] }, type := 26, pos := "law.go:74", after := #[{ on := 0, ground := Ground.data }, { on := 2, ground := Ground.data }], guard := none }) rfl (fun K hK => ?_) AllReadyH.nil
                    go_simp
                    refine fd_calls_W ?_
                    intro X hX
                    have hbX : Below W2.heap.size W2 X := (by rw [hX]; repeat (first | exact Below.refl _ _ | apply below_drew1 | apply below_alloc))
                    clear hX
                    refine (flush_calls room age ap mb L hLk6 X (H5.out.2.2.2.2.2.1.1.below hbX)).mono ?_
                    rintro e' w7 ⟨mb', rfl, hT7, hb7⟩
                    have HX7 := Lib.hid (And.intro (H5.out.below (hbX.trans (hb7.mono hbX.size))) hT7)
                    have cTT0 : w7.cell? ⟨w1.heap.size, 0, none⟩ = some (.int .i64 room) := (blk_cell HX7.out.1.1 0).trans rfl
                    have cTT1 : w7.cell? ⟨w1.heap.size, 1, none⟩ = some (.int .i64 age) := (blk_cell HX7.out.1.1 1).trans rfl
                    have cTT2 : w7.cell? ⟨w1.heap.size, 2, none⟩ = some (.map mb) := (blk_cell HX7.out.1.1 2).trans rfl
                    have ltTT := blk_lt (HX7.out.1.1)
                    have cMM0 : w7.cell? ⟨w1.heap.size + 1, 0, none⟩ = some (.int .i64 room) := (blk_cell HX7.out.1.2.1 0).trans rfl
                    have cMM1 : w7.cell? ⟨w1.heap.size + 1, 1, none⟩ = some (.int .i64 age) := (blk_cell HX7.out.1.2.1 1).trans rfl
                    have cMM2 : w7.cell? ⟨w1.heap.size + 1, 2, none⟩ = some (.slice Au lm.length cu) := (blk_cell HX7.out.1.2.1 2).trans rfl
                    have ltMM := blk_lt (HX7.out.1.2.1)
                    have cAA0 : w7.cell? ⟨wr.heap.size, 0, none⟩ = some (.int .u8 3) := (blk_cell HX7.out.1.2.2.1 0).trans rfl
                    have cAA1 : w7.cell? ⟨wr.heap.size, 1, none⟩ = some (.int .u16 al) := (blk_cell HX7.out.1.2.2.1 1).trans rfl
                    have cAA2 : w7.cell? ⟨wr.heap.size, 2, none⟩ = some (.int .u16 av) := (blk_cell HX7.out.1.2.2.1 2).trans rfl
                    have cAA3 : w7.cell? ⟨wr.heap.size, 3, none⟩ = some (.int .u64 aa) := (blk_cell HX7.out.1.2.2.1 3).trans rfl
                    have cAA4 : w7.cell? ⟨wr.heap.size, 4, none⟩ = some (.int .i64 ap) := (blk_cell HX7.out.1.2.2.1 4).trans rfl
                    have ltAA := blk_lt (HX7.out.1.2.2.1)
                    clear hbX hT7 hb7
                    go_wp2_with fail
                    refine hK.out _ _ ?_ (fun hHeld => ?_)
                    · exact cAA4
                    clear hK K
                    try simp only [Act.put, List.setIfInBounds_toArray, List.set_cons_zero, List.set_cons_succ]
                    refine wpAnyH_ready (rs := [7]) (by kernel_rfl) (by simp) ?_
                    refine AllReadyH.cons (o := { dst := some 154, op := Op.call { callee := Callee.value (Operand.func 15), args := #[Operand.tmp 151, Operand.tmp 153], argTypes := #[34, 3] }, type := 34, pos := "law.go:74", after := #[{ on := 4, ground := Ground.data }, { on := 6, ground := Ground.data }, { on := 3, ground := Ground.chain }], guard := none }) rfl (fun K hK => ?_) AllReadyH.nil
                    go_simp
                    refine fd_calls_W ?_
                    intro Y hY
                    have hbY : Below w7.heap.size w7 Y := (by rw [hY]; repeat (first | exact Below.refl _ _ | apply below_drew1 | apply below_alloc))
                    clear hY
                    refine (rflush2_calls room age ap (.slice Au lm.length cu) lm hml6 w Y (HX7.out.1.below hbY).2.2.2.2.2.2.2.1 (Kd.R_below HX7.out.1.2.2.2.2.2.1.2.1 hbY)).mono ?_
                    rintro e' w8 ⟨u', rfl, hR8, hb8⟩
                    have hb78 := hbY.trans (hb8.mono hbY.size)
                    obtain ⟨Au', cu', rfl⟩ := Kd.R_slice hR8
                    have HX8 := Lib.hid (And.intro (HX7.out.1.below hb78) (show ST w.heap.size w8 mb' _ _ _ from ⟨HX7.out.2.below hb78, hR8, (st_flush HX7.out.1.2.2.2.2.2.1.2.2.1 HX7.out.1.2.2.2.2.2.1.2.2.2 ap).1, (st_flush HX7.out.1.2.2.2.2.2.1.2.2.1 HX7.out.1.2.2.2.2.2.1.2.2.2 ap).2.1⟩))
                    have cTTT0 : w8.cell? ⟨w1.heap.size, 0, none⟩ = some (.int .i64 room) := (blk_cell HX8.out.1.1 0).trans rfl
                    have fTTT0 := blk_frozen (HX8.out.1.1) 0
                    have cTTT1 : w8.cell? ⟨w1.heap.size, 1, none⟩ = some (.int .i64 age) := (blk_cell HX8.out.1.1 1).trans rfl
                    have fTTT1 := blk_frozen (HX8.out.1.1) 1
                    have cTTT2 : w8.cell? ⟨w1.heap.size, 2, none⟩ = some (.map mb) := (blk_cell HX8.out.1.1 2).trans rfl
                    have fTTT2 := blk_frozen (HX8.out.1.1) 2
                    have ltTTT := blk_lt (HX8.out.1.1)
                    have cMMM0 : w8.cell? ⟨w1.heap.size + 1, 0, none⟩ = some (.int .i64 room) := (blk_cell HX8.out.1.2.1 0).trans rfl
                    have fMMM0 := blk_frozen (HX8.out.1.2.1) 0
                    have cMMM1 : w8.cell? ⟨w1.heap.size + 1, 1, none⟩ = some (.int .i64 age) := (blk_cell HX8.out.1.2.1 1).trans rfl
                    have fMMM1 := blk_frozen (HX8.out.1.2.1) 1
                    have cMMM2 : w8.cell? ⟨w1.heap.size + 1, 2, none⟩ = some (.slice Au lm.length cu) := (blk_cell HX8.out.1.2.1 2).trans rfl
                    have fMMM2 := blk_frozen (HX8.out.1.2.1) 2
                    have ltMMM := blk_lt (HX8.out.1.2.1)
                    have cAAA0 : w8.cell? ⟨wr.heap.size, 0, none⟩ = some (.int .u8 3) := (blk_cell HX8.out.1.2.2.1 0).trans rfl
                    have cAAA1 : w8.cell? ⟨wr.heap.size, 1, none⟩ = some (.int .u16 al) := (blk_cell HX8.out.1.2.2.1 1).trans rfl
                    have cAAA2 : w8.cell? ⟨wr.heap.size, 2, none⟩ = some (.int .u16 av) := (blk_cell HX8.out.1.2.2.1 2).trans rfl
                    have cAAA3 : w8.cell? ⟨wr.heap.size, 3, none⟩ = some (.int .u64 aa) := (blk_cell HX8.out.1.2.2.1 3).trans rfl
                    have cAAA4 : w8.cell? ⟨wr.heap.size, 4, none⟩ = some (.int .i64 ap) := (blk_cell HX8.out.1.2.2.1 4).trans rfl
                    have ltAAA := blk_lt (HX8.out.1.2.2.1)
                    clear hbY hb8 hR8 hb78
                    go_wp2_with fail
                    refine hK.out _ _ ?_ (fun hHeld => ?_)
                    · exact cAAA4
                    clear hK K
                    try simp only [Act.put, List.setIfInBounds_toArray, List.set_cons_zero, List.set_cons_succ]
                    have hma := HX8.out.1.2.2.2.2.2.2.2.2.1
                    have hSx : (put3 w8 w1.heap.size (.int .i64 room) (.int .i64 age) (.map mb')).cell? ⟨wr.heap.size, 4, none⟩ = some (.int .i64 ap) := (blk_cell (blk_put3_far HX8.out.1.2.2.1 (by omega) _ _ _) 4).trans rfl
                    have hSy : (put3 (put3 w8 w1.heap.size (.int .i64 room) (.int .i64 age) (.map mb')) (w1.heap.size + 1) (.int .i64 room) (.int .i64 age) (.slice Au' ((lm.filter (fun x => decide (0 ≤ ap) && !decide (x.f2 = ap)))).length cu')).cell? ⟨wr.heap.size, 4, none⟩ = some (.int .i64 ap) := (blk_cell (HX8.out.1.store HX8.out.2).2.2.1 4).trans rfl
                    unfold put3 at hSx hSy
                    refine wpAnyH_ready (rs := [8]) (by kernel_rfl) (by simp) ?_
                    refine AllReadyH.cons (o := { dst := none, op := Op.store 26 (Operand.tmp 7) (Operand.tmp 150), type := 0, pos := "law.go:74", after := #[{ on := 3, ground := Ground.data }, { on := 7, ground := Ground.chain }, { on := 0, ground := Ground.phase }, { on := 1, ground := Ground.phase }, { on := 2, ground := Ground.phase }, { on := 3, ground := Ground.phase }, { on := 4, ground := Ground.textOnly Departure.lateStores }, { on := 5, ground := Ground.textOnly Departure.lateStores }, { on := 6, ground := Ground.textOnly Departure.lateStores }, { on := 7, ground := Ground.textOnly Departure.lateStoresUnsure }], guard := none }) rfl (fun K hK => ?_) AllReadyH.nil
                    go_simp
                    refine hK.out _ _ ?_ (fun hHeld => ?_)
                    · (with_reducible exact hSx)
                    clear hK K
                    try simp only [Act.put, List.setIfInBounds_toArray, List.set_cons_zero, List.set_cons_succ]
                    refine wpAnyH_ready (rs := [9]) (by kernel_rfl) (by simp) ?_
                    refine AllReadyH.cons (o := { dst := none, op := Op.store 34 (Operand.tmp 9) (Operand.tmp 154), type := 0, pos := "law.go:74", after := #[{ on := 7, ground := Ground.data }, { on := 8, ground := Ground.chain }, { on := 0, ground := Ground.phase }, { on := 1, ground := Ground.phase }, { on := 2, ground := Ground.phase }, { on := 3, ground := Ground.phase }, { on := 4, ground := Ground.phase }, { on := 5, ground := Ground.phase }, { on := 6, ground := Ground.phase }, { on := 7, ground := Ground.phase }, { on := 8, ground := Ground.phase }], guard := none }) rfl (fun K hK => ?_) AllReadyH.nil
                    go_simp
                    refine hK.out _ _ ?_ (fun hHeld => ?_)
                    · (with_reducible exact hSy)
                    clear hK K
                    try simp only [Act.put, List.setIfInBounds_toArray, List.set_cons_zero, List.set_cons_succ]
                    refine wpAnyH_done (by kernel_rfl) ?_ _
                    refine NoPanic.normal ?_
                    clear hSx hSy
                    have hPF := HX8.out.1.store HX8.out.2
                    unfold put3 at hPF
                    with_reducible refine exit_W (PF w room age w1.heap.size (w1.heap.size + 1) wr.heap.size mb' (L.filter fun q => !(decide (ap < 0) || q.2.2.1 == ap)) (.slice Au' ((lm.filter (fun x => decide (0 ≤ ap) && !decide (x.f2 = ap)))).length cu') (lm.filter (fun x => decide (0 ≤ ap) && !decide (x.f2 = ap))) mb L (.slice Au lm.length cu) lm #[.int .u8 3, .int .u16 al, .int .u16 av, .int .u64 aa, .int .i64 ap] bW bB) hPF ?_
                    exact hk.out mb' Au' cu'
                  intro mb' Au' cu' W8 hF8
                  clear cT0 fT0 cT1 fT1 cT2 fT2 ltT cM0 fM0 cM1 fM1 cM2 fM2 ltM cA0 cA1 cA2 cA3 cA4 ltA
                  have H9 := Lib.hid hF8
                  have hl9 := (st_flush H5.out.2.2.2.2.2.1.2.2.1 H5.out.2.2.2.2.2.1.2.2.2 ap).2.2
                  clear hF8 H5
                  have cT0 : W8.cell? ⟨w1.heap.size, 0, none⟩ = some (.int .i64 room) := (blk_cell H9.out.1 0).trans rfl
                  have cT1 : W8.cell? ⟨w1.heap.size, 1, none⟩ = some (.int .i64 age) := (blk_cell H9.out.1 1).trans rfl
                  have cT2 : W8.cell? ⟨w1.heap.size, 2, none⟩ = some (.map mb') := (blk_cell H9.out.1 2).trans rfl
                  have ltT := blk_lt (H9.out.1)
                  have cM0 : W8.cell? ⟨w1.heap.size + 1, 0, none⟩ = some (.int .i64 room) := (blk_cell H9.out.2.1 0).trans rfl
                  have cM1 : W8.cell? ⟨w1.heap.size + 1, 1, none⟩ = some (.int .i64 age) := (blk_cell H9.out.2.1 1).trans rfl
                  have cM2 : W8.cell? ⟨w1.heap.size + 1, 2, none⟩ = some (.slice Au' ((lm.filter (fun x => decide (0 ≤ ap) && !decide (x.f2 = ap)))).length cu') := (blk_cell H9.out.2.1 2).trans rfl
                  have ltM := blk_lt (H9.out.2.1)
                  have cB0 : W8.cell? ⟨bB, 0, none⟩ = some (.int .i64 room) := (blk_cell H9.out.2.2.2.1 0).trans rfl
                  have cB1 : W8.cell? ⟨bB, 1, none⟩ = some (.int .i64 age) := (blk_cell H9.out.2.2.2.1 1).trans rfl
                  have cB2 : W8.cell? ⟨bB, 2, none⟩ = some (.map mb) := (blk_cell H9.out.2.2.2.1 2).trans rfl
                  have ltB := blk_lt (H9.out.2.2.2.1)
                  have cW0 : W8.cell? ⟨bW, 0, none⟩ = some (.int .i64 room) := (blk_cell H9.out.2.2.2.2.1 0).trans rfl
                  have cW1 : W8.cell? ⟨bW, 1, none⟩ = some (.int .i64 age) := (blk_cell H9.out.2.2.2.2.1 1).trans rfl
                  have cW2 : W8.cell? ⟨bW, 2, none⟩ = some (.slice Au lm.length cu) := (blk_cell H9.out.2.2.2.2.1 2).trans rfl
                  have ltW := blk_lt (H9.out.2.2.2.2.1)
                  go_wp2_with fail
                  refine fd_calls_W ?_
                  intro X1 hX1
                  have hbX1 : Below W8.heap.size W8 X1 := by rw [hX1]; repeat (first | exact Below.refl _ _ | apply below_alloc | apply below_drew1)
                  clear hX1
                  clear cT0 cT1 cT2 ltT cM0 cM1 cM2 ltM cB0 cB1 cB2 ltB cW0 cW1 cW2 ltW
                  refine (st_same room age (H9.out.2.2.2.2.2.1.below hbX1) (by omega)).mono ?_
                  rintro e' X2 ⟨rfl, hbX2⟩
                  have G1 := Lib.hid (H9.out.below (hbX1.trans (hbX2.mono hbX1.size)))
                  clear hbX1 hbX2
                  have cT0 : X2.cell? ⟨w1.heap.size, 0, none⟩ = some (.int .i64 room) := (blk_cell G1.out.1 0).trans rfl
                  have cT1 : X2.cell? ⟨w1.heap.size, 1, none⟩ = some (.int .i64 age) := (blk_cell G1.out.1 1).trans rfl
                  have cT2 : X2.cell? ⟨w1.heap.size, 2, none⟩ = some (.map mb') := (blk_cell G1.out.1 2).trans rfl
                  have ltT := blk_lt (G1.out.1)
                  have cM0 : X2.cell? ⟨w1.heap.size + 1, 0, none⟩ = some (.int .i64 room) := (blk_cell G1.out.2.1 0).trans rfl
                  have cM1 : X2.cell? ⟨w1.heap.size + 1, 1, none⟩ = some (.int .i64 age) := (blk_cell G1.out.2.1 1).trans rfl
                  have cM2 : X2.cell? ⟨w1.heap.size + 1, 2, none⟩ = some (.slice Au' ((lm.filter (fun x => decide (0 ≤ ap) && !decide (x.f2 = ap)))).length cu') := (blk_cell G1.out.2.1 2).trans rfl
                  have ltM := blk_lt (G1.out.2.1)
                  have cB0 : X2.cell? ⟨bB, 0, none⟩ = some (.int .i64 room) := (blk_cell G1.out.2.2.2.1 0).trans rfl
                  have cB1 : X2.cell? ⟨bB, 1, none⟩ = some (.int .i64 age) := (blk_cell G1.out.2.2.2.1 1).trans rfl
                  have cB2 : X2.cell? ⟨bB, 2, none⟩ = some (.map mb) := (blk_cell G1.out.2.2.2.1 2).trans rfl
                  have ltB := blk_lt (G1.out.2.2.2.1)
                  have cW0 : X2.cell? ⟨bW, 0, none⟩ = some (.int .i64 room) := (blk_cell G1.out.2.2.2.2.1 0).trans rfl
                  have cW1 : X2.cell? ⟨bW, 1, none⟩ = some (.int .i64 age) := (blk_cell G1.out.2.2.2.2.1 1).trans rfl
                  have cW2 : X2.cell? ⟨bW, 2, none⟩ = some (.slice Au lm.length cu) := (blk_cell G1.out.2.2.2.2.1 2).trans rfl
                  have ltW := blk_lt (G1.out.2.2.2.2.1)
                  go_wp2_with fail
                  refine fd_calls_W ?_
                  intro X3 hX3
                  have hbX3 : Below X2.heap.size X2 X3 := by rw [hX3]; repeat (first | exact Below.refl _ _ | apply below_alloc | apply below_drew1)
                  clear hX3
                  clear cT0 cT1 cT2 ltT cM0 cM1 cM2 ltM cB0 cB1 cB2 ltB cW0 cW1 cW2 ltW
                  refine (st_same room age (G1.out.2.2.2.2.2.2.1.below hbX3) (by omega)).mono ?_
                  rintro e' X4 ⟨rfl, hbX4⟩
                  have G2 := Lib.hid (G1.out.below (hbX3.trans (hbX4.mono hbX3.size)))
                  clear hbX3 hbX4
                  go_wp2_with fail
                  exact ⟨⟨k + 1, _, mb', (L.filter fun q => !(decide (ap < 0) || q.2.2.1 == ap)), _, _, (lm.filter (fun x => decide (0 ≤ ap) && !decide (x.f2 = ap))), by omega, rfl, by simp, G2.out.1, G2.out.2.1, G2.out.2.2.2.2.2.1, by omega, G2.out.2.2.2.2.2.2.2.1⟩, by simp [intOf]; omega⟩
                · skip
                  have cB0 : W2.cell? ⟨bB, 0, none⟩ = some (.int .i64 room) := (blk_cell H5.out.2.2.2.1 0).trans rfl
                  have cB1 : W2.cell? ⟨bB, 1, none⟩ = some (.int .i64 age) := (blk_cell H5.out.2.2.2.1 1).trans rfl
                  have cB2 : W2.cell? ⟨bB, 2, none⟩ = some (.map mb) := (blk_cell H5.out.2.2.2.1 2).trans rfl
                  have ltB := blk_lt (H5.out.2.2.2.1)
                  have cW0 : W2.cell? ⟨bW, 0, none⟩ = some (.int .i64 room) := (blk_cell H5.out.2.2.2.2.1 0).trans rfl
                  have cW1 : W2.cell? ⟨bW, 1, none⟩ = some (.int .i64 age) := (blk_cell H5.out.2.2.2.2.1 1).trans rfl
                  have cW2 : W2.cell? ⟨bW, 2, none⟩ = some (.slice Au lm.length cu) := (blk_cell H5.out.2.2.2.2.1 2).trans rfl
                  have ltW := blk_lt (H5.out.2.2.2.2.1)
                  go_wp2_with fail
                  refine fd_calls_W ?_
                  intro X1 hX1
                  have hbX1 : Below W2.heap.size W2 X1 := by rw [hX1]; repeat (first | exact Below.refl _ _ | apply below_alloc | apply below_drew1)
                  clear hX1
                  clear cT0 fT0 cT1 fT1 cT2 fT2 ltT cM0 fM0 cM1 fM1 cM2 fM2 ltM cA0 cA1 cA2 cA3 cA4 ltA cB0 cB1 cB2 ltB cW0 cW1 cW2 ltW
                  refine (st_same room age (H5.out.2.2.2.2.2.1.below hbX1) (by omega)).mono ?_
                  rintro e' X2 ⟨rfl, hbX2⟩
                  have G1 := Lib.hid (H5.out.below (hbX1.trans (hbX2.mono hbX1.size)))
                  clear hbX1 hbX2
                  have cT0 : X2.cell? ⟨w1.heap.size, 0, none⟩ = some (.int .i64 room) := (blk_cell G1.out.1 0).trans rfl
                  have cT1 : X2.cell? ⟨w1.heap.size, 1, none⟩ = some (.int .i64 age) := (blk_cell G1.out.1 1).trans rfl
                  have cT2 : X2.cell? ⟨w1.heap.size, 2, none⟩ = some (.map mb) := (blk_cell G1.out.1 2).trans rfl
                  have ltT := blk_lt (G1.out.1)
                  have cM0 : X2.cell? ⟨w1.heap.size + 1, 0, none⟩ = some (.int .i64 room) := (blk_cell G1.out.2.1 0).trans rfl
                  have cM1 : X2.cell? ⟨w1.heap.size + 1, 1, none⟩ = some (.int .i64 age) := (blk_cell G1.out.2.1 1).trans rfl
                  have cM2 : X2.cell? ⟨w1.heap.size + 1, 2, none⟩ = some (.slice Au lm.length cu) := (blk_cell G1.out.2.1 2).trans rfl
                  have ltM := blk_lt (G1.out.2.1)
                  have cB0 : X2.cell? ⟨bB, 0, none⟩ = some (.int .i64 room) := (blk_cell G1.out.2.2.2.1 0).trans rfl
                  have cB1 : X2.cell? ⟨bB, 1, none⟩ = some (.int .i64 age) := (blk_cell G1.out.2.2.2.1 1).trans rfl
                  have cB2 : X2.cell? ⟨bB, 2, none⟩ = some (.map mb) := (blk_cell G1.out.2.2.2.1 2).trans rfl
                  have ltB := blk_lt (G1.out.2.2.2.1)
                  have cW0 : X2.cell? ⟨bW, 0, none⟩ = some (.int .i64 room) := (blk_cell G1.out.2.2.2.2.1 0).trans rfl
                  have cW1 : X2.cell? ⟨bW, 1, none⟩ = some (.int .i64 age) := (blk_cell G1.out.2.2.2.2.1 1).trans rfl
                  have cW2 : X2.cell? ⟨bW, 2, none⟩ = some (.slice Au lm.length cu) := (blk_cell G1.out.2.2.2.2.1 2).trans rfl
                  have ltW := blk_lt (G1.out.2.2.2.2.1)
                  go_wp2_with fail
                  refine fd_calls_W ?_
                  intro X3 hX3
                  have hbX3 : Below X2.heap.size X2 X3 := by rw [hX3]; repeat (first | exact Below.refl _ _ | apply below_alloc | apply below_drew1)
                  clear hX3
                  clear cT0 cT1 cT2 ltT cM0 cM1 cM2 ltM cB0 cB1 cB2 ltB cW0 cW1 cW2 ltW
                  refine (st_same room age (G1.out.2.2.2.2.2.2.1.below hbX3) (by omega)).mono ?_
                  rintro e' X4 ⟨rfl, hbX4⟩
                  have G2 := Lib.hid (G1.out.below (hbX3.trans (hbX4.mono hbX3.size)))
                  clear hbX3 hbX4
                  go_wp2_with fail
                  exact ⟨⟨k + 1, _, mb, L, _, _, lm, by omega, rfl, by simp, G2.out.1, G2.out.2.1, G2.out.2.2.2.2.2.1, by omega, G2.out.2.2.2.2.2.2.2.1⟩, by simp [intOf]; omega⟩
      · have hkl : k = l.length := by omega
        subst hkl
        have H3 := Lib.hid (And.intro hT (And.intro hM hB))
        clear hT hM hST hLk hB
        go_wp2_with fail
        refine (awake_calls h02 _).mono ?_
        rintro e' w9 ⟨rfl, hb9⟩
        have H9 := Lib.hid (H3.out.2.2.trans (hb9.mono H3.out.2.2.size))
        clear hb9
        go_wp2_with fail
        go_ret
        exact ⟨rfl, H9.out⟩
  · unfold newOk at hno
    go_wp2_with fail
    all_goals
      refine fd_calls_W ?_
      intro W0 hW0
      have D7 : W0.heap[w1.heap.size]? = some (.cells #[.int .i64 0, .int .i64 0, .map none] 26) := by rw [hW0]; exact blk_new _ _
      have hB0 : Below w.heap.size w W0 := by rw [hW0]; repeat (first | exact H1.out | apply below_alloc)
      clear hW0
      refine (awake_calls h02 W0).mono ?_
      rintro e' w2 ⟨rfl, hb2⟩
      have D8 := blk_below D7 hb2
      have hB2 := hB0.trans (hb2.mono hB0.size)
      have cZ0 : w2.cell? ⟨w1.heap.size, 0, none⟩ = some (.int .i64 0) := (blk_cell D8 0).trans rfl
      have cZ1 : w2.cell? ⟨w1.heap.size, 1, none⟩ = some (.int .i64 0) := (blk_cell D8 1).trans rfl
      have cZ2 : w2.cell? ⟨w1.heap.size, 2, none⟩ = some (.map none) := (blk_cell D8 2).trans rfl
      have ltZ := blk_lt (D8)
      have H2 := Lib.hid (And.intro D8 hB2)
      clear D7 D8 hb2 hB0 hB2
      go_wp2_with fail
      refine fd_calls_W ?_
      intro W3 hW3
      have hB3 : Below w.heap.size w W3 := by rw [hW3]; repeat (first | exact H2.out.2 | apply below_alloc | apply below_drew1)
      clear hW3
      clear cZ0 cZ1 cZ2 ltZ
      refine (rows_calls 0 0 none [] (by simp) W3 (.inl ⟨rfl, rfl⟩)).mono ?_
      rintro e' w4 ⟨v, xs, rfl, hp, _, hr, hb4⟩
      obtain ⟨A4, c4, rfl, _⟩ := rows_cells hr
      have hl : xs.length = 0 := by rw [hp.length_eq]; rfl
      rw [hl]
      have H4 := Lib.hid (hB3.trans (hb4.mono hB3.size))
      clear hr hp hl hb4 hB3
      go_wp2_with fail
      go_ret
      exact ⟨rfl, H4.out⟩
end Go.Proofs.Ytmlenepeocginaa.Gv
