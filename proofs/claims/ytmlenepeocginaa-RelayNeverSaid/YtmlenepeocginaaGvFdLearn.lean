/- Tables of addresses: Learn. -/
import Derived.Test.YtmlenepeocginaaGvFdLook
import Derived.Test.YtmlenepeocginaaGvLayClone
import Derived.Shelf.SlMaps.Clone
namespace Go.Proofs.Ytmlenepeocginaa.Gv
open Go.RowKit Go.Maps Go.WideElems Go.Lib Go.Proofs.YtmlenepeocginaaW.PrintWords Go.Proofs.YtmlenepeocginaaW.PrintLast Go.Proofs.YtmlenepeocginaaW.PrintMore
set_option linter.unusedVariables false
set_option linter.unusedSimpArgs false
/-- A map is as large as its datum. -/
theorem own_tight {w : World} {b n : Nat} {D : DataW Rw} (h : w.ownsMap Try.prog 69 RR b n D) : w.ownsMap Try.prog 69 RR b (Maps.size D) D := by
  obtain ⟨es, clock, h1, h2, h3, h4⟩ := h
  refine ⟨es, clock, h1, h2, ?_, h4⟩
  rw [h4]
  simp only [Maps.size]
  rw [length_sorted]
  simp
/-- maps.Clone of a table's map. -/
theorem clone_calls (mb : Option Nat) (L : List Rw) (w : World) (hT : Tab w mb L) :
    Calls Try.prog 28 #[.map mb] w fun e w' => ∃ mb', e = .returned (.map mb') ∧ Tab w' mb' L ∧ (∀ b, mb' = some b → w.heap.size ≤ b) ∧ Below w.heap.size w w' := by
  rcases hT with ⟨rfl, rfl⟩ | ⟨b, nn, D, rfl, hD, ho, hn⟩
  · refine (AnyW.maps_Clone_nil Try.clone28 w).mono ?_
    rintro e w' ⟨rfl, rfl⟩
    exact ⟨none, rfl, .inl ⟨rfl, rfl⟩, by simp, Below.refl _ _⟩
  · refine (AnyW.maps_Clone_owns Try.clone28 69 RR b nn D w ho).mono ?_
    rintro e w' ⟨rfl, h1, h2, h3⟩
    exact ⟨_, rfl, .inr ⟨_, nn, D, rfl, hD, h1, hn⟩, by simp, h3⟩
theorem tab_len_run {w : World} {mb : Option Nat} {L : List Rw} (hT : Tab w mb L) (ty : TypeId) : (Builtin.len_ #[24] ty #[.map mb]).run Try.prog w = .ok (.int .i64 (L.length : Int)) w := by
  rcases hT with ⟨rfl, rfl⟩ | ⟨b, nn, D, rfl, hD, ho, _⟩
  · exact Maps.len_nil Try.underlying24 ty
  · rw [ho.len Try.underlying24 ty, TD_size hD]
def grpI (a : Int) : Bool := bits .and .u64 (a / 1099511627776) 1 == 1
/-- What Learn answers, and what rows there are then. -/
def LN (room now k0 k1 port : Int) (L : List Rw) (code : Int) (L' : List Rw) : Prop :=
  (code = 4 ∧ L' = L ∧ (k0 < 1 ∨ 4094 < k0)) ∨
  (code = 3 ∧ L' = L ∧ 1 ≤ k0 ∧ k0 ≤ 4094 ∧ (281474976710655 < k1 ∨ grpI k1 = true)) ∨
  (code = 11 ∧ L' = L ∧ 1 ≤ k0 ∧ k0 ≤ 4094 ∧ k1 ≤ 281474976710655 ∧ grpI k1 = false ∧ (port < 0 ∨ 2 < port)) ∨
  (code = 9 ∧ L' = L ∧ 1 ≤ k0 ∧ k0 ≤ 4094 ∧ k1 ≤ 281474976710655 ∧ grpI k1 = false ∧ 0 ≤ port ∧ port ≤ 2 ∧ (∀ q ∈ L, rk q ≠ (k0, k1)) ∧ room ≤ L.length) ∨
  (code = 0 ∧ L' = (k0, k1, port, now) :: L.filter (fun q => decide (rk q ≠ (k0, k1))) ∧ 1 ≤ k0 ∧ k0 ≤ 4094 ∧ k1 ≤ 281474976710655 ∧ grpI k1 = false ∧ 0 ≤ port ∧ port ≤ 2 ∧ ((∃ q ∈ L, rk q = (k0, k1)) ∨ (L.length : Int) < room))
theorem grown_set (W : World) (b j : Nat) (v : Value) : W.grownBy (W.setCell ⟨b, j, none⟩ v) (some b) := by
  refine ⟨rfl, rfl, rfl, ?_, fun i _ hi => Below.heap_setCell W _ v i (fun e => hi (by rw [e]))⟩
  exact ((Below.refl 0 W).setCell (Nat.zero_le _) v).size
theorem own_set {w : World} {b n g j : Nat} {D : DataW Rw} {v : Value} (h : w.ownsMap Try.prog 69 RR b n D) (hne : b ≠ g) : (w.setCell ⟨g, j, none⟩ v).ownsMap Try.prog 69 RR b n D := h.kept (grown_set w g j v) (by simpa using hne)
theorem fnd_no {L : List Rw} {k : Int × Int} {r : Rw} {ok : Bool} (h : FND L k r ok) (hn : ¬ ok = true) : ∀ q ∈ L, rk q ≠ k := by
  rcases h with ⟨e, _⟩ | ⟨_, _, h⟩
  · exact absurd e hn
  · exact h
theorem fnd_yes {L : List Rw} {k : Int × Int} {r : Rw} {ok : Bool} (h : FND L k r ok) (hn : ok = true) : ∃ q ∈ L, rk q = k := by
  rcases h with ⟨_, h1, h2⟩ | ⟨e, _⟩
  · exact ⟨_, h1, h2⟩
  · rw [e] at hn; exact absurd hn (by simp)
theorem fd_blk_new3 (w : World) (o o' o'' : Obj) : (((w.alloc o).alloc o').alloc o'').heap[w.heap.size + 1 + 1]? = some o'' := by
  have := blk_new ((w.alloc o).alloc o') o''
  simpa using this
set_option maxHeartbeats 8000000 in
set_option maxRecDepth 100000 in
theorem learn_calls (room age now k0 k1 port : Int) (mb : Option Nat) (L : List Rw) (hL : L.length ≤ 100000) (h1 : (Lit.int .u16 k0).wf = true) (h2 : (Lit.int .u64 k1).wf = true) (w : World) (hT : Tab w mb L) :
    Calls Try.prog 8 #[.agg #[.int .i64 room, .int .i64 age, .map mb], .int .i64 now, .int .u16 k0, .int .u64 k1, .int .i64 port] w fun e w' => ∃ (mb' : Option Nat) (L' : List Rw) (code : Int), e = .returned (.tuple #[.agg #[.int .i64 room, .int .i64 age, .map mb'], .int .i64 code]) ∧ LN room now k0 k1 port L code L' ∧ Tab w' mb' L' ∧ Below w.heap.size w w' := by
  go_enter Try.func8, Try.ntmps8
  have HT := Lib.hid hT
  clear hT
  have hlen : ∀ o1 o2 o3 o4 ty, (Builtin.len_ #[24] ty #[.map mb]).run Try.prog ((((w.alloc o1).alloc o2).alloc o3).alloc o4) = .ok (.int .i64 (L.length : Int)) ((((w.alloc o1).alloc o2).alloc o3).alloc o4) := fun o1 o2 o3 o4 ty => tab_len_run (HT.out.below (by repeat (first | exact Below.refl _ _ | apply below_alloc))) ty
  go_wp2_with (first | (at_lookup; refine tab_look _ rfl _ _ rfl mb L (HT.out.below (by repeat (first | exact Below.refl _ _ | apply below_alloc))) rfl k0 k1 h1 h2 rfl ?_; intro r0 r1 r2 r3 ok hf) | ((fail_if_success (with_reducible show Calls _ 28 _ _ _)); go_in))
  all_goals first
  | (refine fd_calls_W ?_
     intro W hW)
  | ((try simp only [Exit.inBlock, Exit.then])
     refine bodyPost_ret (results_ct rfl _ _ (w.heap.size + 1) 26 _ (0, 0) _ rfl (blk_alloc (blk_alloc (fd_blk_new2 _ _ _) _) _) Try.underlying26 rfl (by kernel_rfl)) rfl ?_
     refine ⟨mb, L, _, rfl, ?_, HT.out.below (by repeat (first | exact Below.refl _ _ | apply below_alloc)), by repeat (first | exact Below.refl _ _ | apply below_alloc)⟩
     clear hlen
     first
     | exact .inl ⟨rfl, rfl, by omega⟩
     | exact .inr (.inl ⟨rfl, rfl, by omega, by omega, by first | exact .inr (by assumption) | exact .inl (by assumption)⟩)
     | exact .inr (.inr (.inl ⟨rfl, rfl, by omega, by omega, by omega, by assumption, by omega⟩))
     | exact .inr (.inr (.inr (.inl ⟨rfl, rfl, by omega, by omega, by omega, by assumption, by omega, by omega, fnd_no hf (by assumption), by assumption⟩))))
  all_goals
    have hkn : (∃ q ∈ L, rk q = (k0, k1)) ∨ (L.length : Int) < room := by first | exact .inl (fnd_yes hf (by assumption)) | exact .inr (by assumption)
    have B5 : W.heap[w.heap.size]? = some (.cells #[.int .i64 room, .int .i64 age, .map mb] 26) := by rw [hW]; exact blk_alloc (blk_alloc (blk_alloc (blk_new _ _) _) _) _
    have B10 : W.heap[w.heap.size + 1]? = some (.cells #[.int .i64 0, .int .i64 0, .map none] 26) := by rw [hW]; exact blk_alloc (blk_alloc (fd_blk_new2 _ _ _) _) _
    have B12 : W.heap[w.heap.size + 1 + 1]? = some (.cells #[.int .u16 k0, .int .u64 k1] 69) := by rw [hW]; exact blk_alloc (fd_blk_new3 _ _ _ _) _
    have hBW : Below w.heap.size w W := by rw [hW]; repeat (first | exact Below.refl _ _ | apply below_alloc)
    have hsW : w.heap.size + 4 ≤ W.heap.size := by rw [hW]; simp
    clear hW hlen
    refine (clone_calls mb L W (HT.out.below hBW)).mono ?_
    rintro e' w1 ⟨mb', rfl, hT1, hge, hb1⟩
    have C5 := blk_below B5 hb1
    have C10 := blk_below B10 hb1
    have C12 := blk_below B12 hb1
    have hBx := hBW.trans (hb1.mono hBW.size)
    have hs1 := hb1.size
    rcases hT1 with ⟨rfl, hLn⟩ | ⟨b, nn, D, rfl, hD, ho, hnn⟩
  · have hD : TD L (.map []) := by rw [hLn]; exact TD_nil
    have ho := World.ownsMap_made w1 Try.prog 69 RR
    have hnn : 0 ≤ 1000000 := by omega
    have hgb : W.heap.size ≤ w1.heap.size := hs1
    have C5 := blk_alloc C5 (.map #[] 0)
    have C10 := blk_alloc C10 (.map #[] 0)
    have C12 := blk_alloc C12 (.map #[] 0)
    have hBx := below_alloc hBx (.map #[] 0)
    have hc12_0 : (w1.alloc (.map #[] 0)).cell? ⟨w.heap.size + 1 + 1, 0, none⟩ = some (.int .u16 k0) := (blk_cell C12 0).trans rfl
    have hc12_1 : (w1.alloc (.map #[] 0)).cell? ⟨w.heap.size + 1 + 1, 1, none⟩ = some (.int .u64 k1) := (blk_cell C12 1).trans rfl
    have hf12_0 := blk_frozen C12 0
    have hf12_1 := blk_frozen C12 1
    clear hb1 hge B5 B10 B12
    have hq := fun w => run_eql_map_nil_sl (P := Try.prog) w 24 _ _ none Try.underlying24
    have hmm := @run_makeMap Try.prog
    go_wp2_with (at_mapUpdate; refine fdMk_in ?_)
    unfold fdMk
    refine wpList_mapUpdate_own _ rfl _ _ _ 24 rfl 69 64 fd_keyed Try.underlying24 RR w1.heap.size 0 (DataW.map [] : DataW Rw) rfl ho (by have : maxLen = 9223372036854775807 := rfl; omega) _ _ (kl (k0, k1)) rfl rfl (fd_keyOf (k0, k1) h1 h2) (.held (k0, k1, port, now)) [] (RR_mk (k0, k1, port, now)) ?_
    intro w2 hown2 hgrow2
    have E5 := blk_grown C5 hgrow2 (by simp; omega)
    have E10 := blk_grown C10 hgrow2 (by simp; omega)
    have hsz2 := hgrow2.size
    have hbe2 : Below w.heap.size w w2 := Below.grown hBx hgrow2 hBx.size (by intro k hk; cases hk; omega)
    have hTD2 := TD_put hD (k0, k1, port, now) ⟨h1, h2⟩
    have hown3 := own_tight hown2
    have hE := Lib.hid (And.intro E5 (And.intro E10 (And.intro hbe2 (And.intro hTD2 hown3))))
    have hc5_0 : w2.cell? ⟨w.heap.size, 0, none⟩ = some (.int .i64 room) := (blk_cell E5 0).trans rfl
    have hc5_1 : w2.cell? ⟨w.heap.size, 1, none⟩ = some (.int .i64 age) := (blk_cell E5 1).trans rfl
    have hc5_2 : w2.cell? ⟨w.heap.size, 2, none⟩ = some (.map mb) := (blk_cell E5 2).trans rfl
    have hf5 := blk_frozen E5 2
    have hc10_0 : w2.cell? ⟨w.heap.size + 1, 0, none⟩ = some (.int .i64 0) := (blk_cell E10 0).trans rfl
    have hc10_1 : w2.cell? ⟨w.heap.size + 1, 1, none⟩ = some (.int .i64 0) := (blk_cell E10 1).trans rfl
    have hc10_2 : w2.cell? ⟨w.heap.size + 1, 2, none⟩ = some (.map none) := (blk_cell E10 2).trans rfl
    have hf10_0 := blk_frozen E10 0
    have hf10_1 := blk_frozen E10 1
    have hf10_2 := blk_frozen E10 2
    clear E5 E10 hbe2 hTD2 hown3 hown2 hgrow2 C5 C10 hBx hc12_0 hc12_1 hf12_0 hf12_1
    go_wp2_with fail
    (try simp only [Exit.inBlock, Exit.then])
    obtain ⟨E5, E10, hbe2, hTD2, hown3⟩ := hE.out
    refine bodyPost_ret (results_ct rfl _ _ (w.heap.size + 1) 26 #[.int .i64 room, .int .i64 age, .map (some w1.heap.size)] (0, 0) _ rfl (by refine blk_put (cs := #[.int .i64 room, .int .i64 age, .map none]) ?_ 2 _ rfl; refine blk_put (cs := #[.int .i64 room, .int .i64 0, .map none]) ?_ 1 _ rfl; refine blk_put (cs := #[.int .i64 0, .int .i64 0, .map none]) ?_ 0 _ rfl; exact blk_far E10 (by simp) _) Try.underlying26 rfl (by kernel_rfl)) rfl ?_
    refine ⟨some w1.heap.size, _, 0, rfl, .inr (.inr (.inr (.inr ⟨rfl, rfl, by omega, by omega, by omega, by assumption, by omega, by omega, hkn⟩))), .inr ⟨w1.heap.size, Maps.size ((DataW.map [] : DataW Rw).put (kl (k0, k1)) (.held (k0, k1, port, now))), (DataW.map [] : DataW Rw).put (kl (k0, k1)) (.held (k0, k1, port, now)), rfl, hTD2, ?_, ?_⟩, ?_⟩
    · exact own_set (own_set (own_set (own_set hown3 (by omega)) (by omega)) (by omega)) (by omega)
    · have hz := TD_size hTD2
      change Maps.size ((DataW.map [] : DataW Rw).put (kl (k0, k1)) (.held (k0, k1, port, now))) = _ at hz
      rw [hz]
      exact Nat.le_trans (Nat.succ_le_succ (List.length_filter_le _ L)) (by omega)
    · exact below_set (below_set (below_set (below_set hbe2 (by omega)) (by omega)) (by omega)) (by omega)
  · have hgb := hge b rfl
    have hc12_0 : w1.cell? ⟨w.heap.size + 1 + 1, 0, none⟩ = some (.int .u16 k0) := (blk_cell C12 0).trans rfl
    have hc12_1 : w1.cell? ⟨w.heap.size + 1 + 1, 1, none⟩ = some (.int .u64 k1) := (blk_cell C12 1).trans rfl
    have hf12_0 := blk_frozen C12 0
    have hf12_1 := blk_frozen C12 1
    clear hb1 hge B5 B10 B12
    have hq := fun w => run_eql_map_nil_sl (P := Try.prog) w 24 _ _ (some b) Try.underlying24
    go_wp2_with (at_mapUpdate; refine fdMk_in ?_)
    unfold fdMk
    refine wpList_mapUpdate_own _ rfl _ _ _ 24 rfl 69 64 fd_keyed Try.underlying24 RR b nn D rfl ho (by have : maxLen = 9223372036854775807 := rfl; omega) _ _ (kl (k0, k1)) rfl rfl (fd_keyOf (k0, k1) h1 h2) (.held (k0, k1, port, now)) [] (RR_mk (k0, k1, port, now)) ?_
    intro w2 hown2 hgrow2
    have E5 := blk_grown C5 hgrow2 (by simp; omega)
    have E10 := blk_grown C10 hgrow2 (by simp; omega)
    have hsz2 := hgrow2.size
    have hbe2 : Below w.heap.size w w2 := Below.grown hBx hgrow2 hBx.size (by intro k hk; cases hk; omega)
    have hTD2 := TD_put hD (k0, k1, port, now) ⟨h1, h2⟩
    have hown3 := own_tight hown2
    have hE := Lib.hid (And.intro E5 (And.intro E10 (And.intro hbe2 (And.intro hTD2 hown3))))
    have hc5_0 : w2.cell? ⟨w.heap.size, 0, none⟩ = some (.int .i64 room) := (blk_cell E5 0).trans rfl
    have hc5_1 : w2.cell? ⟨w.heap.size, 1, none⟩ = some (.int .i64 age) := (blk_cell E5 1).trans rfl
    have hc5_2 : w2.cell? ⟨w.heap.size, 2, none⟩ = some (.map mb) := (blk_cell E5 2).trans rfl
    have hf5 := blk_frozen E5 2
    have hc10_0 : w2.cell? ⟨w.heap.size + 1, 0, none⟩ = some (.int .i64 0) := (blk_cell E10 0).trans rfl
    have hc10_1 : w2.cell? ⟨w.heap.size + 1, 1, none⟩ = some (.int .i64 0) := (blk_cell E10 1).trans rfl
    have hc10_2 : w2.cell? ⟨w.heap.size + 1, 2, none⟩ = some (.map none) := (blk_cell E10 2).trans rfl
    have hf10_0 := blk_frozen E10 0
    have hf10_1 := blk_frozen E10 1
    have hf10_2 := blk_frozen E10 2
    clear E5 E10 hbe2 hTD2 hown3 hown2 hgrow2 C5 C10 hBx hc12_0 hc12_1 hf12_0 hf12_1
    go_wp2_with fail
    (try simp only [Exit.inBlock, Exit.then])
    obtain ⟨E5, E10, hbe2, hTD2, hown3⟩ := hE.out
    refine bodyPost_ret (results_ct rfl _ _ (w.heap.size + 1) 26 #[.int .i64 room, .int .i64 age, .map (some b)] (0, 0) _ rfl (by refine blk_put (cs := #[.int .i64 room, .int .i64 age, .map none]) ?_ 2 _ rfl; refine blk_put (cs := #[.int .i64 room, .int .i64 0, .map none]) ?_ 1 _ rfl; refine blk_put (cs := #[.int .i64 0, .int .i64 0, .map none]) ?_ 0 _ rfl; exact blk_far E10 (by simp) _) Try.underlying26 rfl (by kernel_rfl)) rfl ?_
    refine ⟨some b, _, 0, rfl, .inr (.inr (.inr (.inr ⟨rfl, rfl, by omega, by omega, by omega, by assumption, by omega, by omega, hkn⟩))), .inr ⟨b, Maps.size (D.put (kl (k0, k1)) (.held (k0, k1, port, now))), D.put (kl (k0, k1)) (.held (k0, k1, port, now)), rfl, hTD2, ?_, ?_⟩, ?_⟩
    · exact own_set (own_set (own_set (own_set hown3 (by omega)) (by omega)) (by omega)) (by omega)
    · have hz := TD_size hTD2
      change Maps.size (D.put (kl (k0, k1)) (.held (k0, k1, port, now))) = _ at hz
      rw [hz]
      exact Nat.le_trans (Nat.succ_le_succ (List.length_filter_le _ L)) (by omega)
    · exact below_set (below_set (below_set (below_set hbe2 (by omega)) (by omega)) (by omega)) (by omega)
  · have hD : TD L (.map []) := by rw [hLn]; exact TD_nil
    have ho := World.ownsMap_made w1 Try.prog 69 RR
    have hnn : 0 ≤ 1000000 := by omega
    have hgb : W.heap.size ≤ w1.heap.size := hs1
    have C5 := blk_alloc C5 (.map #[] 0)
    have C10 := blk_alloc C10 (.map #[] 0)
    have C12 := blk_alloc C12 (.map #[] 0)
    have hBx := below_alloc hBx (.map #[] 0)
    have hc12_0 : (w1.alloc (.map #[] 0)).cell? ⟨w.heap.size + 1 + 1, 0, none⟩ = some (.int .u16 k0) := (blk_cell C12 0).trans rfl
    have hc12_1 : (w1.alloc (.map #[] 0)).cell? ⟨w.heap.size + 1 + 1, 1, none⟩ = some (.int .u64 k1) := (blk_cell C12 1).trans rfl
    have hf12_0 := blk_frozen C12 0
    have hf12_1 := blk_frozen C12 1
    clear hb1 hge B5 B10 B12
    have hq := fun w => run_eql_map_nil_sl (P := Try.prog) w 24 _ _ none Try.underlying24
    have hmm := @run_makeMap Try.prog
    go_wp2_with (at_mapUpdate; refine fdMk_in ?_)
    unfold fdMk
    refine wpList_mapUpdate_own _ rfl _ _ _ 24 rfl 69 64 fd_keyed Try.underlying24 RR w1.heap.size 0 (DataW.map [] : DataW Rw) rfl ho (by have : maxLen = 9223372036854775807 := rfl; omega) _ _ (kl (k0, k1)) rfl rfl (fd_keyOf (k0, k1) h1 h2) (.held (k0, k1, port, now)) [] (RR_mk (k0, k1, port, now)) ?_
    intro w2 hown2 hgrow2
    have E5 := blk_grown C5 hgrow2 (by simp; omega)
    have E10 := blk_grown C10 hgrow2 (by simp; omega)
    have hsz2 := hgrow2.size
    have hbe2 : Below w.heap.size w w2 := Below.grown hBx hgrow2 hBx.size (by intro k hk; cases hk; omega)
    have hTD2 := TD_put hD (k0, k1, port, now) ⟨h1, h2⟩
    have hown3 := own_tight hown2
    have hE := Lib.hid (And.intro E5 (And.intro E10 (And.intro hbe2 (And.intro hTD2 hown3))))
    have hc5_0 : w2.cell? ⟨w.heap.size, 0, none⟩ = some (.int .i64 room) := (blk_cell E5 0).trans rfl
    have hc5_1 : w2.cell? ⟨w.heap.size, 1, none⟩ = some (.int .i64 age) := (blk_cell E5 1).trans rfl
    have hc5_2 : w2.cell? ⟨w.heap.size, 2, none⟩ = some (.map mb) := (blk_cell E5 2).trans rfl
    have hf5 := blk_frozen E5 2
    have hc10_0 : w2.cell? ⟨w.heap.size + 1, 0, none⟩ = some (.int .i64 0) := (blk_cell E10 0).trans rfl
    have hc10_1 : w2.cell? ⟨w.heap.size + 1, 1, none⟩ = some (.int .i64 0) := (blk_cell E10 1).trans rfl
    have hc10_2 : w2.cell? ⟨w.heap.size + 1, 2, none⟩ = some (.map none) := (blk_cell E10 2).trans rfl
    have hf10_0 := blk_frozen E10 0
    have hf10_1 := blk_frozen E10 1
    have hf10_2 := blk_frozen E10 2
    clear E5 E10 hbe2 hTD2 hown3 hown2 hgrow2 C5 C10 hBx hc12_0 hc12_1 hf12_0 hf12_1
    go_wp2_with fail
    (try simp only [Exit.inBlock, Exit.then])
    obtain ⟨E5, E10, hbe2, hTD2, hown3⟩ := hE.out
    refine bodyPost_ret (results_ct rfl _ _ (w.heap.size + 1) 26 #[.int .i64 room, .int .i64 age, .map (some w1.heap.size)] (0, 0) _ rfl (by refine blk_put (cs := #[.int .i64 room, .int .i64 age, .map none]) ?_ 2 _ rfl; refine blk_put (cs := #[.int .i64 room, .int .i64 0, .map none]) ?_ 1 _ rfl; refine blk_put (cs := #[.int .i64 0, .int .i64 0, .map none]) ?_ 0 _ rfl; exact blk_far E10 (by simp) _) Try.underlying26 rfl (by kernel_rfl)) rfl ?_
    refine ⟨some w1.heap.size, _, 0, rfl, .inr (.inr (.inr (.inr ⟨rfl, rfl, by omega, by omega, by omega, by assumption, by omega, by omega, hkn⟩))), .inr ⟨w1.heap.size, Maps.size ((DataW.map [] : DataW Rw).put (kl (k0, k1)) (.held (k0, k1, port, now))), (DataW.map [] : DataW Rw).put (kl (k0, k1)) (.held (k0, k1, port, now)), rfl, hTD2, ?_, ?_⟩, ?_⟩
    · exact own_set (own_set (own_set (own_set hown3 (by omega)) (by omega)) (by omega)) (by omega)
    · have hz := TD_size hTD2
      change Maps.size ((DataW.map [] : DataW Rw).put (kl (k0, k1)) (.held (k0, k1, port, now))) = _ at hz
      rw [hz]
      exact Nat.le_trans (Nat.succ_le_succ (List.length_filter_le _ L)) (by omega)
    · exact below_set (below_set (below_set (below_set hbe2 (by omega)) (by omega)) (by omega)) (by omega)
  · have hgb := hge b rfl
    have hc12_0 : w1.cell? ⟨w.heap.size + 1 + 1, 0, none⟩ = some (.int .u16 k0) := (blk_cell C12 0).trans rfl
    have hc12_1 : w1.cell? ⟨w.heap.size + 1 + 1, 1, none⟩ = some (.int .u64 k1) := (blk_cell C12 1).trans rfl
    have hf12_0 := blk_frozen C12 0
    have hf12_1 := blk_frozen C12 1
    clear hb1 hge B5 B10 B12
    have hq := fun w => run_eql_map_nil_sl (P := Try.prog) w 24 _ _ (some b) Try.underlying24
    go_wp2_with (at_mapUpdate; refine fdMk_in ?_)
    unfold fdMk
    refine wpList_mapUpdate_own _ rfl _ _ _ 24 rfl 69 64 fd_keyed Try.underlying24 RR b nn D rfl ho (by have : maxLen = 9223372036854775807 := rfl; omega) _ _ (kl (k0, k1)) rfl rfl (fd_keyOf (k0, k1) h1 h2) (.held (k0, k1, port, now)) [] (RR_mk (k0, k1, port, now)) ?_
    intro w2 hown2 hgrow2
    have E5 := blk_grown C5 hgrow2 (by simp; omega)
    have E10 := blk_grown C10 hgrow2 (by simp; omega)
    have hsz2 := hgrow2.size
    have hbe2 : Below w.heap.size w w2 := Below.grown hBx hgrow2 hBx.size (by intro k hk; cases hk; omega)
    have hTD2 := TD_put hD (k0, k1, port, now) ⟨h1, h2⟩
    have hown3 := own_tight hown2
    have hE := Lib.hid (And.intro E5 (And.intro E10 (And.intro hbe2 (And.intro hTD2 hown3))))
    have hc5_0 : w2.cell? ⟨w.heap.size, 0, none⟩ = some (.int .i64 room) := (blk_cell E5 0).trans rfl
    have hc5_1 : w2.cell? ⟨w.heap.size, 1, none⟩ = some (.int .i64 age) := (blk_cell E5 1).trans rfl
    have hc5_2 : w2.cell? ⟨w.heap.size, 2, none⟩ = some (.map mb) := (blk_cell E5 2).trans rfl
    have hf5 := blk_frozen E5 2
    have hc10_0 : w2.cell? ⟨w.heap.size + 1, 0, none⟩ = some (.int .i64 0) := (blk_cell E10 0).trans rfl
    have hc10_1 : w2.cell? ⟨w.heap.size + 1, 1, none⟩ = some (.int .i64 0) := (blk_cell E10 1).trans rfl
    have hc10_2 : w2.cell? ⟨w.heap.size + 1, 2, none⟩ = some (.map none) := (blk_cell E10 2).trans rfl
    have hf10_0 := blk_frozen E10 0
    have hf10_1 := blk_frozen E10 1
    have hf10_2 := blk_frozen E10 2
    clear E5 E10 hbe2 hTD2 hown3 hown2 hgrow2 C5 C10 hBx hc12_0 hc12_1 hf12_0 hf12_1
    go_wp2_with fail
    (try simp only [Exit.inBlock, Exit.then])
    obtain ⟨E5, E10, hbe2, hTD2, hown3⟩ := hE.out
    refine bodyPost_ret (results_ct rfl _ _ (w.heap.size + 1) 26 #[.int .i64 room, .int .i64 age, .map (some b)] (0, 0) _ rfl (by refine blk_put (cs := #[.int .i64 room, .int .i64 age, .map none]) ?_ 2 _ rfl; refine blk_put (cs := #[.int .i64 room, .int .i64 0, .map none]) ?_ 1 _ rfl; refine blk_put (cs := #[.int .i64 0, .int .i64 0, .map none]) ?_ 0 _ rfl; exact blk_far E10 (by simp) _) Try.underlying26 rfl (by kernel_rfl)) rfl ?_
    refine ⟨some b, _, 0, rfl, .inr (.inr (.inr (.inr ⟨rfl, rfl, by omega, by omega, by omega, by assumption, by omega, by omega, hkn⟩))), .inr ⟨b, Maps.size (D.put (kl (k0, k1)) (.held (k0, k1, port, now))), D.put (kl (k0, k1)) (.held (k0, k1, port, now)), rfl, hTD2, ?_, ?_⟩, ?_⟩
    · exact own_set (own_set (own_set (own_set hown3 (by omega)) (by omega)) (by omega)) (by omega)
    · have hz := TD_size hTD2
      change Maps.size (D.put (kl (k0, k1)) (.held (k0, k1, port, now))) = _ at hz
      rw [hz]
      exact Nat.le_trans (Nat.succ_le_succ (List.length_filter_le _ L)) (by omega)
    · exact below_set (below_set (below_set (below_set hbe2 (by omega)) (by omega)) (by omega)) (by omega)
end Go.Proofs.Ytmlenepeocginaa.Gv
