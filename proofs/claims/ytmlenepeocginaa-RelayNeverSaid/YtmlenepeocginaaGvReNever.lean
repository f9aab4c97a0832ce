/- Relay: the law RelayNever by hand. -/
import Derived.Test.YtmlenepeocginaaGvRePlain
namespace Go.Proofs.Ytmlenepeocginaa.Gv
open Go.RowKit Go.Maps Go.WideElems Go.Lib Go.Proofs.YtmlenepeocginaaW.PrintWords Go.Proofs.YtmlenepeocginaaW.PrintLast Go.Proofs.YtmlenepeocginaaW.PrintMore Go.Proofs.Ytmlenepeocginaa.PRelayNever
set_option linter.unusedVariables false
set_option linter.unusedSimpArgs false
/-- A frame that comes. -/
structure Cm where
  later : Int
  inn : Int
  west : Bool
  east : Bool
  dst : Int
  src : Int
  pri : Int
  drop : Bool
  vlan : Int
  typ : Int
  body : ByteArray
  flush : Bool
def Cm.cells (x : Cm) : Array Value := #[.int .u16 x.later, .int .i64 x.inn, .bool x.west, .bool x.east, .int .u64 x.dst, .int .u64 x.src, .int .u8 x.pri, .bool x.drop, .int .u16 x.vlan, .int .u16 x.typ, .string x.body, .bool x.flush]
def Cm.ok (x : Cm) : Prop := (Lit.int .u64 x.dst).wf = true ∧ (Lit.int .u64 x.src).wf = true ∧ (Lit.int .u16 x.vlan).wf = true
def CmAt (w : World) (A : Option Addr) (l : List Cm) : Prop := ∀ k, (h : k < l.length) → ∃ b o, A = some ⟨b, o, none⟩ ∧ b < w.heap.size ∧ ∀ j v, l[k].cells[j]? = some v → w.cell? ⟨b, o + k * 12 + j, none⟩ = some v
theorem re_wp_W {P : Program} {c : Code} {Q : Exit → Go.Act → World → Prop} {fr : Go.Act} {W : World} (F : World → Prop) (hF : F W) (h : ∀ W', F W' → c.wp P Q fr W') : c.wp P Q fr W := h W hF
theorem re_exit_W {Q : Exit → Go.Act → World → Prop} {x : Exit} {fr : Go.Act} {W : World} (F : World → Prop) (hF : F W) (h : ∀ W', F W' → Q x fr W') : Q x fr W := h W hF
theorem gor_len {room age now inn dst src vlan code : Int} {sw se all : Bool} {L L' : List Rw} {xs : List Int} (h : GOR room age now sw se inn dst src vlan L L' xs all code) : xs.length ≤ 3 := by
  rcases h with h | ⟨h0, _, _, _, _, p, kn, _, h⟩
  · rw [h.2.1]; simp
  · rcases h with ⟨_, _, h⟩ | ⟨_, _, _, h⟩
    · rw [h]; exact List.length_filter_le _ _
    · rw [h]; split <;> simp
def rput3 (W : World) (g : Nat) (x y z : Value) : World := ((W.setCell ⟨g, 0, none⟩ x).setCell ⟨g, 1, none⟩ y).setCell ⟨g, 2, none⟩ z
/-- The boxes of a round: the table's, the frame that goes back, the frame that comes. -/
def RF (w : World) (t a : Nat) (mb : Option Nat) (L : List Rw) (bk ac : Array Value) (W : World) : Prop :=
  W.heap[t]? = some (.cells #[.int .i64 64, .int .i64 1000, .map mb] 26) ∧ W.heap[w.heap.size]? = some (.cells bk 56) ∧ W.heap[a]? = some (.cells ac 56) ∧ Tab W mb L ∧ Below w.heap.size w W ∧ w.heap.size < t ∧ t < a
section
variable {w W W' : World} {t a : Nat} {mb mb' : Option Nat} {L L' : List Rw} {bk ac : Array Value}
theorem RF.below (h : RF w t a mb L bk ac W) (hb : Below W.heap.size W W') : RF w t a mb L bk ac W' := by
  obtain ⟨h1, h2, h3, h4, h5, h6⟩ := h
  exact ⟨blk_below h1 hb, blk_below h2 hb, blk_below h3 hb, h4.below hb, h5.trans (hb.mono h5.size), h6⟩
theorem RF.store (h : RF w t a mb L bk ac W) (hn : Tab W mb' L') : RF w t a mb' L' bk ac (rput3 W t (.int .i64 64) (.int .i64 1000) (.map mb')) := by
  obtain ⟨h1, h2, h3, h4, h5, i1, i2⟩ := h
  have e1 : w.heap.size ≠ t := by omega
  have e2 : a ≠ t := by omega
  exact ⟨blk_put (blk_put (blk_put h1 0 _ rfl) 1 _ rfl) 2 _ rfl, blk_far (blk_far (blk_far h2 e1 _) e1 _) e1 _, blk_far (blk_far (blk_far h3 e2 _) e2 _) e2 _, tab_put3 hn h1, below_set (below_set (below_set h5 (by omega)) (by omega)) (by omega), i1, i2⟩
theorem RF.set2 {g : Nat} {v0 v1 v2 v3 v4 v5 v6 : Value} (h : RF w t a mb L bk ac W) (hG : W.heap[g]? = some (.cells #[v0, v1, v2, v3, v4, v5, v6] 54 (0, 0))) (hag : a < g) (y z : Value) :
    RF w t a mb L bk ac ((W.setCell ⟨g, 0, none⟩ y).setCell ⟨g, 4, none⟩ z) ∧ ((W.setCell ⟨g, 0, none⟩ y).setCell ⟨g, 4, none⟩ z).heap[g]? = some (.cells #[y, v1, v2, v3, z, v5, v6] 54 (0, 0)) := by
  obtain ⟨h1, h2, h3, h4, h5, i1, i2⟩ := h
  have e1 : w.heap.size ≠ g := by omega
  have e2 : a ≠ g := by omega
  have e3 : t ≠ g := by omega
  exact ⟨⟨blk_far (blk_far h1 e3 _) e3 _, blk_far (blk_far h2 e1 _) e1 _, blk_far (blk_far h3 e2 _) e2 _, tab_set (tab_set h4 (tab_ne h4 hG)) (tab_ne h4 hG), below_set (below_set h5 (by omega)) (by omega), i1, i2⟩, blk_put (blk_put hG 0 _ rfl) 4 _ rfl⟩
theorem RF.set2d {g : Nat} {v0 v1 v2 v3 v4 v5 v6 : Value} (h : RF w t a mb L bk ac W) (hG : W.heap[g]? = some (.cells #[v0, v1, v2, v3, v4, v5, v6] 54 (0, 0))) (hag : a < g) (y z : Value) :
    RF w t a mb L bk ac ((W.setCell ⟨g, 0, none⟩ y).setCell ⟨g, 4, none⟩ z).drew ∧ ((W.setCell ⟨g, 0, none⟩ y).setCell ⟨g, 4, none⟩ z).drew.heap[g]? = some (.cells #[y, v1, v2, v3, z, v5, v6] 54 (0, 0)) :=
  ⟨(RF.set2 h hG hag y z).1.below (below_drew1 (Below.refl _ _)), (RF.set2 h hG hag y z).2⟩
end
set_option maxHeartbeats 16000000 in
set_option maxRecDepth 100000 in
theorem never (A : Option Addr) (c : Nat) (l : List Cm) (bk : Cm) (w : World) (hc : l.length ≤ c) (hA : CmAt w A l) (hw : ∀ x ∈ l, x.ok) (hb : bk.ok) :
    Calls Try.prog 4 #[.slice A l.length c, .agg bk.cells] w fun e w' => e = .returned (.bool true) ∧ Below w.heap.size w w' := by
  obtain ⟨b0, b1, b2, b3, b4, b5, b6, b7, b8, b9, b10, b11⟩ := bk
  unfold Cm.cells
  unfold Cm.ok at hb
  go_enter Try.func4, Try.ntmps4
  have HA := Lib.hid (And.intro hA (And.intro hw hb))
  clear hA hw hb
  go_wp2_with fail
  refine fd_calls_W ?_
  intro W0 hW0
  have D0 : W0.heap[w.heap.size]? = some (.cells #[.int .u16 b0, .int .i64 b1, .bool b2, .bool b3, .int .u64 b4, .int .u64 b5, .int .u8 b6, .bool b7, .int .u16 b8, .int .u16 b9, .string b10, .bool b11] 56) := by rw [hW0]; exact blk_new _ _
  have hb0 : Below w.heap.size w W0 := by rw [hW0]; exact below_alloc (Below.refl _ _) _
  clear hW0
  refine (new_calls 64 1000 W0).mono ?_
  rintro e' w1 ⟨h, hb1⟩
  rcases h with ⟨_, rfl⟩ | ⟨hn, _⟩
  rotate_left
  · exact absurd (by unfold newOk; omega) hn
  have D1 := blk_below D0 hb1
  have hbw1 := hb0.trans (hb1.mono hb0.size)
  have lt1 := blk_lt D1
  have H1 := Lib.hid (And.intro D1 hbw1)
  clear D0 D1 hb0 hb1 hbw1
  by_cases h40 : l.length ≤ 40
  rotate_left
  · have h41 : decide (40 < (l.length : Int)) = true := by simp; omega
    go_wp2_with fail
    refine fd_calls_W ?_
    intro W2 hW2
    have hB2 : Below w.heap.size w W2 := by rw [hW2]; repeat (first | exact H1.out.2 | apply below_alloc | apply below_drew1)
    clear hW2
    refine (awake19_calls W2).mono ?_
    rintro e' w3 ⟨rfl, hb3⟩
    have H3 := Lib.hid (hB2.trans (hb3.mono hB2.size))
    clear hB2 hb3
    go_wp2_with fail
    go_ret
    exact ⟨rfl, H3.out⟩
  go_wp2_with fail
  refine re_wp_W (fun W => W.heap[w1.heap.size]? = some (.cells #[.int .i64 64, .int .i64 1000, .map none] 26) ∧ W.heap[w.heap.size]? = some (.cells #[.int .u16 b0, .int .i64 b1, .bool b2, .bool b3, .int .u64 b4, .int .u64 b5, .int .u8 b6, .bool b7, .int .u16 b8, .int .u16 b9, .string b10, .bool b11] 56) ∧ Below w.heap.size w W) ⟨blk_new _ _, blk_alloc H1.out.1 _, below_alloc H1.out.2 _⟩ ?_
  intro W0 hF0
  have H2 := Lib.hid hF0
  clear hF0
  go_loopw [7, 41] (fun nv i wr => ∃ (k : Nat) (now : Int) (mb : Option Nat) (L : List Rw), k ≤ l.length ∧ nv = .int .i64 now ∧ i = .int .i64 k ∧ wr.heap[w1.heap.size]? = some (.cells #[.int .i64 64, .int .i64 1000, .map mb] 26) ∧ wr.heap[w.heap.size]? = some (.cells #[.int .u16 b0, .int .i64 b1, .bool b2, .bool b3, .int .u64 b4, .int .u64 b5, .int .u8 b6, .bool b7, .int .u16 b8, .int .u16 b9, .string b10, .bool b11] 56) ∧ Tab wr mb L ∧ GoodL L ∧ L.length ≤ k ∧ Below w.heap.size w wr) (fun _ i _ => l.length - (intOf i).toNat)
  case atStart => exact ⟨0, 0, none, [], Nat.zero_le _, rfl, rfl, H2.out.1, H2.out.2.1, .inl ⟨rfl, rfl⟩, ⟨List.Pairwise.nil, by simp⟩, Nat.le_refl _, H2.out.2.2⟩
  case round =>
    obtain ⟨k, now, mb, L, hk, rfl, rfl, hT, hK, hTab, hG, hLk, hB⟩ := hrel
    by_cases hlt : k < l.length
    · obtain ⟨ab, ao, rfl, hab, q⟩ := HA.out.1 k hlt
      have hwf := HA.out.2.1 _ (List.getElem_mem hlt)
      generalize l[k] = x at q hwf
      obtain ⟨x0, x1, x2, x3, x4, x5, x6, x7, x8, x9, x10, x11⟩ := x
      have r0 : wr.cell? ⟨ab, ao + k * 12, none⟩ = some (.int .u16 x0) := (hB.cell (p := ⟨ab, ao + k * 12, none⟩) hab).trans (q 0 _ rfl)
      have r1 : wr.cell? ⟨ab, ao + k * 12 + 1, none⟩ = some (.int .i64 x1) := (hB.cell (p := ⟨ab, ao + k * 12 + 1, none⟩) hab).trans (q 1 _ rfl)
      have r2 : wr.cell? ⟨ab, ao + k * 12 + 2, none⟩ = some (.bool x2) := (hB.cell (p := ⟨ab, ao + k * 12 + 2, none⟩) hab).trans (q 2 _ rfl)
      have r3 : wr.cell? ⟨ab, ao + k * 12 + 3, none⟩ = some (.bool x3) := (hB.cell (p := ⟨ab, ao + k * 12 + 3, none⟩) hab).trans (q 3 _ rfl)
      have r4 : wr.cell? ⟨ab, ao + k * 12 + 4, none⟩ = some (.int .u64 x4) := (hB.cell (p := ⟨ab, ao + k * 12 + 4, none⟩) hab).trans (q 4 _ rfl)
      have r5 : wr.cell? ⟨ab, ao + k * 12 + 5, none⟩ = some (.int .u64 x5) := (hB.cell (p := ⟨ab, ao + k * 12 + 5, none⟩) hab).trans (q 5 _ rfl)
      have r6 : wr.cell? ⟨ab, ao + k * 12 + 6, none⟩ = some (.int .u8 x6) := (hB.cell (p := ⟨ab, ao + k * 12 + 6, none⟩) hab).trans (q 6 _ rfl)
      have r7 : wr.cell? ⟨ab, ao + k * 12 + 7, none⟩ = some (.bool x7) := (hB.cell (p := ⟨ab, ao + k * 12 + 7, none⟩) hab).trans (q 7 _ rfl)
      have r8 : wr.cell? ⟨ab, ao + k * 12 + 8, none⟩ = some (.int .u16 x8) := (hB.cell (p := ⟨ab, ao + k * 12 + 8, none⟩) hab).trans (q 8 _ rfl)
      have r9 : wr.cell? ⟨ab, ao + k * 12 + 9, none⟩ = some (.int .u16 x9) := (hB.cell (p := ⟨ab, ao + k * 12 + 9, none⟩) hab).trans (q 9 _ rfl)
      have r10 : wr.cell? ⟨ab, ao + k * 12 + 10, none⟩ = some (.string x10) := (hB.cell (p := ⟨ab, ao + k * 12 + 10, none⟩) hab).trans (q 10 _ rfl)
      have r11 : wr.cell? ⟨ab, ao + k * 12 + 11, none⟩ = some (.bool x11) := (hB.cell (p := ⟨ab, ao + k * 12 + 11, none⟩) hab).trans (q 11 _ rfl)
      have lt2 := blk_lt hT
      have HX := Lib.hid (And.intro hwf HA.out.2.2)
      have HK := Lib.hid (And.intro hG hLk)
      have HR : RF w w1.heap.size wr.heap.size mb L #[.int .u16 b0, .int .i64 b1, .bool b2, .bool b3, .int .u64 b4, .int .u64 b5, .int .u8 b6, .bool b7, .int .u16 b8, .int .u16 b9, .string b10, .bool b11] #[.int .u16 x0, .int .i64 x1, .bool x2, .bool x3, .int .u64 x4, .int .u64 x5, .int .u8 x6, .bool x7, .int .u16 x8, .int .u16 x9, .string x10, .bool x11] (wr.alloc (.cells #[.int .u16 x0, .int .i64 x1, .bool x2, .bool x3, .int .u64 x4, .int .u64 x5, .int .u8 x6, .bool x7, .int .u16 x8, .int .u16 x9, .string x10, .bool x11] 56)) := ⟨blk_alloc hT _, blk_alloc hK _, blk_new _ _, hTab.below (below_alloc (Below.refl _ _) _), below_alloc hB _, lt1, lt2⟩
      have H3 := Lib.hid HR
      have cT0 : wr.cell? ⟨w1.heap.size, 0, none⟩ = some (.int .i64 64) := (blk_cell hT 0).trans rfl
      have cT1 : wr.cell? ⟨w1.heap.size, 1, none⟩ = some (.int .i64 1000) := (blk_cell hT 1).trans rfl
      have cT2 : wr.cell? ⟨w1.heap.size, 2, none⟩ = some (.map mb) := (blk_cell hT 2).trans rfl
      clear q hwf hT hK hTab hG hLk hB HR
      go_wp2_with fail
      refine fd_calls_W ?_
      intro W2 hW2
      have hbW2 : Below (wr.alloc (.cells #[.int .u16 x0, .int .i64 x1, .bool x2, .bool x3, .int .u64 x4, .int .u64 x5, .int .u8 x6, .bool x7, .int .u16 x8, .int .u16 x9, .string x10, .bool x11] 56)).heap.size (wr.alloc (.cells #[.int .u16 x0, .int .i64 x1, .bool x2, .bool x3, .int .u64 x4, .int .u64 x5, .int .u8 x6, .bool x7, .int .u16 x8, .int .u16 x9, .string x10, .bool x11] 56)) W2 := by rw [hW2]; repeat (first | exact Below.refl _ _ | apply below_alloc | apply below_drew1)
      have H4 := Lib.hid (H3.out.below hbW2)
      clear hW2 hbW2 H3 cT0 cT1 cT2 r0 r1 r2 r3 r4 r5 r6 r7 r8 r9 r10 r11
      refine (go_calls 64 1000 _ x2 x3 x1 x4 x5 x6 x8 x9 x7 x10 mb L (by have := HK.out.2; omega) HX.out.1.2.2 HX.out.1.2.1 HX.out.1.1 W2 H4.out.2.2.2.1).mono ?_
      rintro e' w3 ⟨mb', L', v, xs, all, code, rfl, hg, hT3, hI, hb3⟩
      obtain ⟨A1, cc1, rfl, hcc1, hI⟩ := hI
      have hgl := good_gor hg HK.out.1
      have H5 := Lib.hid (And.intro (H4.out.below hb3) (And.intro hg (And.intro hT3 hI)))
      have HL := Lib.hid hgl
      clear hg hT3 hI hb3 H4 hgl
      have cT0 : w3.cell? ⟨w1.heap.size, 0, none⟩ = some (.int .i64 64) := (blk_cell (H5.out.1.1) 0).trans rfl
      have fT0 := blk_frozen (H5.out.1.1) 0
      have cT1 : w3.cell? ⟨w1.heap.size, 1, none⟩ = some (.int .i64 1000) := (blk_cell (H5.out.1.1) 1).trans rfl
      have fT1 := blk_frozen (H5.out.1.1) 1
      have cT2 : w3.cell? ⟨w1.heap.size, 2, none⟩ = some (.map mb) := (blk_cell (H5.out.1.1) 2).trans rfl
      have fT2 := blk_frozen (H5.out.1.1) 2
      have ltT := blk_lt (H5.out.1.1)
      have cX0 : w3.cell? ⟨wr.heap.size, 0, none⟩ = some (.int .u16 x0) := (blk_cell (H5.out.1.2.2.1) 0).trans rfl
      have cX1 : w3.cell? ⟨wr.heap.size, 1, none⟩ = some (.int .i64 x1) := (blk_cell (H5.out.1.2.2.1) 1).trans rfl
      have cX2 : w3.cell? ⟨wr.heap.size, 2, none⟩ = some (.bool x2) := (blk_cell (H5.out.1.2.2.1) 2).trans rfl
      have cX3 : w3.cell? ⟨wr.heap.size, 3, none⟩ = some (.bool x3) := (blk_cell (H5.out.1.2.2.1) 3).trans rfl
      have cX4 : w3.cell? ⟨wr.heap.size, 4, none⟩ = some (.int .u64 x4) := (blk_cell (H5.out.1.2.2.1) 4).trans rfl
      have cX5 : w3.cell? ⟨wr.heap.size, 5, none⟩ = some (.int .u64 x5) := (blk_cell (H5.out.1.2.2.1) 5).trans rfl
      have cX6 : w3.cell? ⟨wr.heap.size, 6, none⟩ = some (.int .u8 x6) := (blk_cell (H5.out.1.2.2.1) 6).trans rfl
      have cX7 : w3.cell? ⟨wr.heap.size, 7, none⟩ = some (.bool x7) := (blk_cell (H5.out.1.2.2.1) 7).trans rfl
      have cX8 : w3.cell? ⟨wr.heap.size, 8, none⟩ = some (.int .u16 x8) := (blk_cell (H5.out.1.2.2.1) 8).trans rfl
      have cX9 : w3.cell? ⟨wr.heap.size, 9, none⟩ = some (.int .u16 x9) := (blk_cell (H5.out.1.2.2.1) 9).trans rfl
      have cX10 : w3.cell? ⟨wr.heap.size, 10, none⟩ = some (.string x10) := (blk_cell (H5.out.1.2.2.1) 10).trans rfl
      have cX11 : w3.cell? ⟨wr.heap.size, 11, none⟩ = some (.bool x11) := (blk_cell (H5.out.1.2.2.1) 11).trans rfl
      have ltX := blk_lt (H5.out.1.2.2.1)
      go_wp2_with fail
      clear cT0 fT0 cT1 fT1 cT2 fT2 ltT cX0 cX1 cX2 cX3 cX4 cX5 cX6 cX7 cX8 cX9 cX10 cX11 ltX
      refine re_wp_W (fun W => (RF w w1.heap.size wr.heap.size mb L #[.int .u16 b0, .int .i64 b1, .bool b2, .bool b3, .int .u64 b4, .int .u64 b5, .int .u8 b6, .bool b7, .int .u16 b8, .int .u16 b9, .string b10, .bool b11] #[.int .u16 x0, .int .i64 x1, .bool x2, .bool x3, .int .u64 x4, .int .u64 x5, .int .u8 x6, .bool x7, .int .u16 x8, .int .u16 x9, .string x10, .bool x11] W ∧ Tab W mb' L' ∧ Kd.C (Kd.int .i64) W A1 xs.length xs) ∧ W.heap[w3.heap.size]? = some (.cells #[.int .i64 64, .int .i64 1000, .map mb'] 26)) ?_ ?_
      · have hb := below_alloc (Below.refl w3.heap.size w3) (.cells #[.int .i64 64, .int .i64 1000, .map mb'] 26)
        exact ⟨⟨H5.out.1.below hb, H5.out.2.2.1.below hb, Kd.C_below H5.out.2.2.2 hb⟩, blk_new _ _⟩
      intro W5 hF5
      have H7 := Lib.hid hF5
      have HG := Lib.hid H5.out.2.1
      have hx3 := gor_len H5.out.2.1
      clear hF5 H5
      obtain ⟨xa, hxa⟩ : ∃ xa, wr.heap.size = xa := ⟨_, rfl⟩
      rw [hxa] at H7 lt2 ⊢
      go_loopw [70] (fun i wr => ∃ k2 : Nat, k2 ≤ xs.length ∧ i = .int .i64 k2 ∧ Below W5.heap.size W5 wr) (fun i _ => xs.length - (intOf i).toNat)
      case atStart => exact ⟨0, Nat.zero_le _, rfl, Below.refl _ _⟩
      case round =>
        obtain ⟨k2, hk2, rfl, hB2⟩ := hrel
        have hR2 := H7.out.1.1.below hB2
        by_cases hlt2 : k2 < xs.length
        · obtain ⟨ad, rfl, p0⟩ := ints_at H7.out.1.2.2 k2 hlt2
          have hgo := gor_out HG.out (List.getElem_mem hlt2)
          have hadb := World.block_lt_of_cell? W5 _ p0
          have p1 := (hB2.cell hadb).trans p0
          generalize xs[k2] = o at p0 p1 hgo
          obtain ⟨hcode, hne, ho⟩ := hgo
          have HB2 := Lib.hid hB2
          have cX0 : wr.cell? ⟨xa, 0, none⟩ = some (.int .u16 x0) := (blk_cell (hR2.2.2.1) 0).trans rfl
          have cX1 : wr.cell? ⟨xa, 1, none⟩ = some (.int .i64 x1) := (blk_cell (hR2.2.2.1) 1).trans rfl
          have cX2 : wr.cell? ⟨xa, 2, none⟩ = some (.bool x2) := (blk_cell (hR2.2.2.1) 2).trans rfl
          have cX3 : wr.cell? ⟨xa, 3, none⟩ = some (.bool x3) := (blk_cell (hR2.2.2.1) 3).trans rfl
          have cX4 : wr.cell? ⟨xa, 4, none⟩ = some (.int .u64 x4) := (blk_cell (hR2.2.2.1) 4).trans rfl
          have cX5 : wr.cell? ⟨xa, 5, none⟩ = some (.int .u64 x5) := (blk_cell (hR2.2.2.1) 5).trans rfl
          have cX6 : wr.cell? ⟨xa, 6, none⟩ = some (.int .u8 x6) := (blk_cell (hR2.2.2.1) 6).trans rfl
          have cX7 : wr.cell? ⟨xa, 7, none⟩ = some (.bool x7) := (blk_cell (hR2.2.2.1) 7).trans rfl
          have cX8 : wr.cell? ⟨xa, 8, none⟩ = some (.int .u16 x8) := (blk_cell (hR2.2.2.1) 8).trans rfl
          have cX9 : wr.cell? ⟨xa, 9, none⟩ = some (.int .u16 x9) := (blk_cell (hR2.2.2.1) 9).trans rfl
          have cX10 : wr.cell? ⟨xa, 10, none⟩ = some (.string x10) := (blk_cell (hR2.2.2.1) 10).trans rfl
          have cX11 : wr.cell? ⟨xa, 11, none⟩ = some (.bool x11) := (blk_cell (hR2.2.2.1) 11).trans rfl
          have ltX := blk_lt (hR2.2.2.1)
          clear p0 hadb hB2 hR2
          subst hcode
          have hne2 := Ne.symm hne
          rcases ho with ⟨rfl, rfl⟩ | ⟨rfl, rfl⟩ | rfl
          all_goals
            go_wp2_with fail
            exact ⟨⟨k2 + 1, by omega, by simp, HB2.out⟩, by simp [intOf]; omega⟩
        · have HB2 := Lib.hid hR2
          have HU2 := Lib.hid (And.intro (blk_below H7.out.2 hB2) (And.intro (H7.out.1.2.1.below hB2) (Kd.C_below H7.out.1.2.2 hB2)))
          clear hB2 hR2 H7
          have cT0 : wr.cell? ⟨w1.heap.size, 0, none⟩ = some (.int .i64 64) := (blk_cell (HB2.out.1) 0).trans rfl
          have fT0 := blk_frozen (HB2.out.1) 0
          have cT1 : wr.cell? ⟨w1.heap.size, 1, none⟩ = some (.int .i64 1000) := (blk_cell (HB2.out.1) 1).trans rfl
          have fT1 := blk_frozen (HB2.out.1) 1
          have cT2 : wr.cell? ⟨w1.heap.size, 2, none⟩ = some (.map mb) := (blk_cell (HB2.out.1) 2).trans rfl
          have fT2 := blk_frozen (HB2.out.1) 2
          have ltT := blk_lt (HB2.out.1)
          have cX0 : wr.cell? ⟨xa, 0, none⟩ = some (.int .u16 x0) := (blk_cell (HB2.out.2.2.1) 0).trans rfl
          have cX1 : wr.cell? ⟨xa, 1, none⟩ = some (.int .i64 x1) := (blk_cell (HB2.out.2.2.1) 1).trans rfl
          have cX2 : wr.cell? ⟨xa, 2, none⟩ = some (.bool x2) := (blk_cell (HB2.out.2.2.1) 2).trans rfl
          have cX3 : wr.cell? ⟨xa, 3, none⟩ = some (.bool x3) := (blk_cell (HB2.out.2.2.1) 3).trans rfl
          have cX4 : wr.cell? ⟨xa, 4, none⟩ = some (.int .u64 x4) := (blk_cell (HB2.out.2.2.1) 4).trans rfl
          have cX5 : wr.cell? ⟨xa, 5, none⟩ = some (.int .u64 x5) := (blk_cell (HB2.out.2.2.1) 5).trans rfl
          have cX6 : wr.cell? ⟨xa, 6, none⟩ = some (.int .u8 x6) := (blk_cell (HB2.out.2.2.1) 6).trans rfl
          have cX7 : wr.cell? ⟨xa, 7, none⟩ = some (.bool x7) := (blk_cell (HB2.out.2.2.1) 7).trans rfl
          have cX8 : wr.cell? ⟨xa, 8, none⟩ = some (.int .u16 x8) := (blk_cell (HB2.out.2.2.1) 8).trans rfl
          have cX9 : wr.cell? ⟨xa, 9, none⟩ = some (.int .u16 x9) := (blk_cell (HB2.out.2.2.1) 9).trans rfl
          have cX10 : wr.cell? ⟨xa, 10, none⟩ = some (.string x10) := (blk_cell (HB2.out.2.2.1) 10).trans rfl
          have cX11 : wr.cell? ⟨xa, 11, none⟩ = some (.bool x11) := (blk_cell (HB2.out.2.2.1) 11).trans rfl
          have ltX := blk_lt (HB2.out.2.2.1)
          have cU0 : wr.cell? ⟨w3.heap.size, 0, none⟩ = some (.int .i64 64) := (blk_cell (HU2.out.1) 0).trans rfl
          have cU1 : wr.cell? ⟨w3.heap.size, 1, none⟩ = some (.int .i64 1000) := (blk_cell (HU2.out.1) 1).trans rfl
          have cU2 : wr.cell? ⟨w3.heap.size, 2, none⟩ = some (.map mb') := (blk_cell (HU2.out.1) 2).trans rfl
          have ltU := blk_lt (HU2.out.1)
          by_cases hc0 : code = 0
          rotate_left
          · go_wp2_with fail
            have hS := HB2.out.store HU2.out.2.1
            refine ⟨⟨k + 1, _, mb', L', by omega, rfl, by simp, hS.1, hS.2.1, hS.2.2.2.1, HL.out.1, by have := HL.out.2; have := HK.out.2; omega, hS.2.2.2.2.1⟩, by simp [intOf]; omega⟩
          subst hc0
          go_wp2_with fail
          refine fd_calls_W ?_
          intro W6 hW6
          have hS : RF w w1.heap.size xa mb' L' #[.int .u16 b0, .int .i64 b1, .bool b2, .bool b3, .int .u64 b4, .int .u64 b5, .int .u8 b6, .bool b7, .int .u16 b8, .int .u16 b9, .string b10, .bool b11] #[.int .u16 x0, .int .i64 x1, .bool x2, .bool x3, .int .u64 x4, .int .u64 x5, .int .u8 x6, .bool x7, .int .u16 x8, .int .u16 x9, .string x10, .bool x11] W6 := by rw [hW6]; exact HB2.out.store HU2.out.2.1
          have H8 := Lib.hid hS
          clear hW6 hS HB2 HU2
          clear cT0 fT0 cT1 fT1 cT2 fT2 ltT cX0 cX1 cX2 cX3 cX4 cX5 cX6 cX7 cX8 cX9 cX10 cX11 ltX cU0 cU1 cU2 ltU
          refine (look_calls2 64 1000 _ x8 x5 mb' L' HX.out.1.2.2 HX.out.1.2.1 W6 H8.out.2.2.2.1).mono ?_
          rintro e' w7 ⟨port, known, rfl, hLK, hb7⟩
          have H9 := Lib.hid (And.intro (H8.out.below hb7) hLK)
          clear hLK hb7 H8
          have cT0 : w7.cell? ⟨w1.heap.size, 0, none⟩ = some (.int .i64 64) := (blk_cell (H9.out.1.1) 0).trans rfl
          have fT0 := blk_frozen (H9.out.1.1) 0
          have cT1 : w7.cell? ⟨w1.heap.size, 1, none⟩ = some (.int .i64 1000) := (blk_cell (H9.out.1.1) 1).trans rfl
          have fT1 := blk_frozen (H9.out.1.1) 1
          have cT2 : w7.cell? ⟨w1.heap.size, 2, none⟩ = some (.map mb') := (blk_cell (H9.out.1.1) 2).trans rfl
          have fT2 := blk_frozen (H9.out.1.1) 2
          have ltT := blk_lt (H9.out.1.1)
          have cB0 : w7.cell? ⟨w.heap.size, 0, none⟩ = some (.int .u16 b0) := (blk_cell (H9.out.1.2.1) 0).trans rfl
          have cB1 : w7.cell? ⟨w.heap.size, 1, none⟩ = some (.int .i64 b1) := (blk_cell (H9.out.1.2.1) 1).trans rfl
          have cB2 : w7.cell? ⟨w.heap.size, 2, none⟩ = some (.bool b2) := (blk_cell (H9.out.1.2.1) 2).trans rfl
          have cB3 : w7.cell? ⟨w.heap.size, 3, none⟩ = some (.bool b3) := (blk_cell (H9.out.1.2.1) 3).trans rfl
          have cB4 : w7.cell? ⟨w.heap.size, 4, none⟩ = some (.int .u64 b4) := (blk_cell (H9.out.1.2.1) 4).trans rfl
          have cB5 : w7.cell? ⟨w.heap.size, 5, none⟩ = some (.int .u64 b5) := (blk_cell (H9.out.1.2.1) 5).trans rfl
          have cB6 : w7.cell? ⟨w.heap.size, 6, none⟩ = some (.int .u8 b6) := (blk_cell (H9.out.1.2.1) 6).trans rfl
          have cB7 : w7.cell? ⟨w.heap.size, 7, none⟩ = some (.bool b7) := (blk_cell (H9.out.1.2.1) 7).trans rfl
          have cB8 : w7.cell? ⟨w.heap.size, 8, none⟩ = some (.int .u16 b8) := (blk_cell (H9.out.1.2.1) 8).trans rfl
          have cB9 : w7.cell? ⟨w.heap.size, 9, none⟩ = some (.int .u16 b9) := (blk_cell (H9.out.1.2.1) 9).trans rfl
          have cB10 : w7.cell? ⟨w.heap.size, 10, none⟩ = some (.string b10) := (blk_cell (H9.out.1.2.1) 10).trans rfl
          have cB11 : w7.cell? ⟨w.heap.size, 11, none⟩ = some (.bool b11) := (blk_cell (H9.out.1.2.1) 11).trans rfl
          have ltB := blk_lt (H9.out.1.2.1)
          have cX0 : w7.cell? ⟨xa, 0, none⟩ = some (.int .u16 x0) := (blk_cell (H9.out.1.2.2.1) 0).trans rfl
          have cX1 : w7.cell? ⟨xa, 1, none⟩ = some (.int .i64 x1) := (blk_cell (H9.out.1.2.2.1) 1).trans rfl
          have cX2 : w7.cell? ⟨xa, 2, none⟩ = some (.bool x2) := (blk_cell (H9.out.1.2.2.1) 2).trans rfl
          have cX3 : w7.cell? ⟨xa, 3, none⟩ = some (.bool x3) := (blk_cell (H9.out.1.2.2.1) 3).trans rfl
          have cX4 : w7.cell? ⟨xa, 4, none⟩ = some (.int .u64 x4) := (blk_cell (H9.out.1.2.2.1) 4).trans rfl
          have cX5 : w7.cell? ⟨xa, 5, none⟩ = some (.int .u64 x5) := (blk_cell (H9.out.1.2.2.1) 5).trans rfl
          have cX6 : w7.cell? ⟨xa, 6, none⟩ = some (.int .u8 x6) := (blk_cell (H9.out.1.2.2.1) 6).trans rfl
          have cX7 : w7.cell? ⟨xa, 7, none⟩ = some (.bool x7) := (blk_cell (H9.out.1.2.2.1) 7).trans rfl
          have cX8 : w7.cell? ⟨xa, 8, none⟩ = some (.int .u16 x8) := (blk_cell (H9.out.1.2.2.1) 8).trans rfl
          have cX9 : w7.cell? ⟨xa, 9, none⟩ = some (.int .u16 x9) := (blk_cell (H9.out.1.2.2.1) 9).trans rfl
          have cX10 : w7.cell? ⟨xa, 10, none⟩ = some (.string x10) := (blk_cell (H9.out.1.2.2.1) 10).trans rfl
          have cX11 : w7.cell? ⟨xa, 11, none⟩ = some (.bool x11) := (blk_cell (H9.out.1.2.2.1) 11).trans rfl
          have ltX := blk_lt (H9.out.1.2.2.1)
          go_wp2_with fail
          have hxw := ltX
          clear cT0 fT0 cT1 fT1 cT2 fT2 ltT cB0 cB1 cB2 cB3 cB4 cB5 cB6 cB7 cB8 cB9 cB10 cB11 ltB cX0 cX1 cX2 cX3 cX4 cX5 cX6 cX7 cX8 cX9 cX10 cX11 ltX
          refine re_wp_W (fun W => RF w w1.heap.size xa mb' L' #[.int .u16 b0, .int .i64 b1, .bool b2, .bool b3, .int .u64 b4, .int .u64 b5, .int .u8 b6, .bool b7, .int .u16 b8, .int .u16 b9, .string b10, .bool b11] #[.int .u16 x0, .int .i64 x1, .bool x2, .bool x3, .int .u64 x4, .int .u64 x5, .int .u8 x6, .bool x7, .int .u16 x8, .int .u16 x9, .string x10, .bool x11] W ∧ W.heap[w7.heap.size]? = some (.cells #[.int .u64 b4, .int .u64 b5, .int .u8 b6, .bool b7, .int .u16 b8, .int .u16 b9, .string b10] 54)) ⟨H9.out.1.below (below_alloc (Below.refl _ _) _), blk_new _ _⟩ ?_
          intro W8 hF8
          have H10 := Lib.hid hF8
          have HLK := Lib.hid H9.out.2
          clear hF8 H9
          have cX5 : W8.cell? ⟨xa, 5, none⟩ = some (.int .u64 x5) := (blk_cell (H10.out.1.2.2.1) 5).trans rfl
          have cX8 : W8.cell? ⟨xa, 8, none⟩ = some (.int .u16 x8) := (blk_cell (H10.out.1.2.2.1) 8).trans rfl
          have ltX := blk_lt (H10.out.1.2.2.1)
          have cG0 : W8.cell? ⟨w7.heap.size, 0, none⟩ = some (.int .u64 b4) := (blk_cell (H10.out.2) 0).trans rfl
          have fG0 := blk_frozen (H10.out.2) 0
          have cG1 : W8.cell? ⟨w7.heap.size, 1, none⟩ = some (.int .u64 b5) := (blk_cell (H10.out.2) 1).trans rfl
          have fG1 := blk_frozen (H10.out.2) 1
          have cG2 : W8.cell? ⟨w7.heap.size, 2, none⟩ = some (.int .u8 b6) := (blk_cell (H10.out.2) 2).trans rfl
          have fG2 := blk_frozen (H10.out.2) 2
          have cG3 : W8.cell? ⟨w7.heap.size, 3, none⟩ = some (.bool b7) := (blk_cell (H10.out.2) 3).trans rfl
          have fG3 := blk_frozen (H10.out.2) 3
          have cG4 : W8.cell? ⟨w7.heap.size, 4, none⟩ = some (.int .u16 b8) := (blk_cell (H10.out.2) 4).trans rfl
          have fG4 := blk_frozen (H10.out.2) 4
          have cG5 : W8.cell? ⟨w7.heap.size, 5, none⟩ = some (.int .u16 b9) := (blk_cell (H10.out.2) 5).trans rfl
          have fG5 := blk_frozen (H10.out.2) 5
          have cG6 : W8.cell? ⟨w7.heap.size, 6, none⟩ = some (.string b10) := (blk_cell (H10.out.2) 6).trans rfl
          have fG6 := blk_frozen (H10.out.2) 6
          have ltG := blk_lt (H10.out.2)
          have hstep : ∀ w7 : World, w7.heap[xa]? = some (.cells #[.int .u16 x0, .int .i64 x1, .bool x2, .bool x3, .int .u64 x4, .int .u64 x5, .int .u8 x6, .bool x7, .int .u16 x8, .int .u16 x9, .string x10, .bool x11] 56) → (fun w' : World => w'.cell? ⟨xa, 5, none⟩ = some (.int .u64 x5) ∧ w'.cell? ⟨xa, 8, none⟩ = some (.int .u16 x8)) w7 := fun w7 hU => ⟨(blk_cell hU 5).trans rfl, (blk_cell hU 8).trans rfl⟩
          have HS := Lib.hid hstep
          have HXB := Lib.hid (show W8.heap[xa]? = some (.cells #[.int .u16 x0, .int .i64 x1, .bool x2, .bool x3, .int .u64 x4, .int .u64 x5, .int .u8 x6, .bool x7, .int .u16 x8, .int .u16 x9, .string x10, .bool x11] 56) from H10.out.1.2.2.1)
          clear hstep
          go_region_held3 (fun w' : World => w'.cell? ⟨xa, 5, none⟩ = some (.int .u64 x5) ∧ w'.cell? ⟨xa, 8, none⟩ = some (.int .u16 x8)) (first | (with_reducible assumption) | exact HS.out _ (by repeat (first | with_reducible exact HXB.out | with_reducible apply blk_drew | with_reducible refine blk_far ?_ (by first | (simp; done) | (simp; omega)) _))) (fail)
          refine re_exit_W (fun W => RF w w1.heap.size xa mb' L' #[.int .u16 b0, .int .i64 b1, .bool b2, .bool b3, .int .u64 b4, .int .u64 b5, .int .u8 b6, .bool b7, .int .u16 b8, .int .u16 b9, .string b10, .bool b11] #[.int .u16 x0, .int .i64 x1, .bool x2, .bool x3, .int .u64 x4, .int .u64 x5, .int .u8 x6, .bool x7, .int .u16 x8, .int .u16 x9, .string x10, .bool x11] W ∧ W.heap[w7.heap.size]? = some (.cells #[.int .u64 x5, .int .u64 b5, .int .u8 b6, .bool b7, .int .u16 x8, .int .u16 b9, .string b10] 54)) (RF.set2d H10.out.1 H10.out.2 hxw _ _) ?_
          intro W9 hF9
          have H11 := Lib.hid hF9
          clear hF9 H10 HS
          clear cX5 cX8 ltX cG0 fG0 cG1 fG1 cG2 fG2 cG3 fG3 cG4 fG4 cG5 fG5 cG6 fG6 ltG
          have cT0 : W9.cell? ⟨w1.heap.size, 0, none⟩ = some (.int .i64 64) := (blk_cell (H11.out.1.1) 0).trans rfl
          have cT1 : W9.cell? ⟨w1.heap.size, 1, none⟩ = some (.int .i64 1000) := (blk_cell (H11.out.1.1) 1).trans rfl
          have cT2 : W9.cell? ⟨w1.heap.size, 2, none⟩ = some (.map mb') := (blk_cell (H11.out.1.1) 2).trans rfl
          have ltT := blk_lt (H11.out.1.1)
          have cB1 : W9.cell? ⟨w.heap.size, 1, none⟩ = some (.int .i64 b1) := (blk_cell (H11.out.1.2.1) 1).trans rfl
          have ltB := blk_lt (H11.out.1.2.1)
          have cG0 : W9.cell? ⟨w7.heap.size, 0, none⟩ = some (.int .u64 x5) := (blk_cell (H11.out.2) 0).trans rfl
          have cG1 : W9.cell? ⟨w7.heap.size, 1, none⟩ = some (.int .u64 b5) := (blk_cell (H11.out.2) 1).trans rfl
          have cG2 : W9.cell? ⟨w7.heap.size, 2, none⟩ = some (.int .u8 b6) := (blk_cell (H11.out.2) 2).trans rfl
          have cG3 : W9.cell? ⟨w7.heap.size, 3, none⟩ = some (.bool b7) := (blk_cell (H11.out.2) 3).trans rfl
          have cG4 : W9.cell? ⟨w7.heap.size, 4, none⟩ = some (.int .u16 x8) := (blk_cell (H11.out.2) 4).trans rfl
          have cG5 : W9.cell? ⟨w7.heap.size, 5, none⟩ = some (.int .u16 b9) := (blk_cell (H11.out.2) 5).trans rfl
          have cG6 : W9.cell? ⟨w7.heap.size, 6, none⟩ = some (.string b10) := (blk_cell (H11.out.2) 6).trans rfl
          have ltG := blk_lt (H11.out.2)
          go_wp2_with fail
          refine fd_calls_W ?_
          intro W10 hW10
          have hb10 : Below W9.heap.size W9 W10 := by rw [hW10]; repeat (first | exact Below.refl _ _ | apply below_alloc | apply below_drew1)
          have H12 := Lib.hid (And.intro (H11.out.1.below hb10) (blk_below H11.out.2 hb10))
          clear hW10 hb10 H11
          clear cT0 cT1 cT2 ltT cB1 ltB cG0 cG1 cG2 cG3 cG4 cG5 cG6 ltG
          refine (go_calls 64 1000 _ false false b1 x5 b5 b6 x8 b9 b7 b10 mb' L' (by have := HL.out.2; have := HK.out.2; omega) HX.out.1.2.2 HX.out.2.2.1 HX.out.1.2.1 W10 H12.out.1.2.2.2.1).mono ?_
          rintro e' w11 ⟨mb2, L2, v2, xs2, all2, hc, rfl, hg2, _, hI2, hb11⟩
          obtain ⟨A2, cc2, rfl, hcc2, hI2⟩ := hI2
          have H13 := Lib.hid (And.intro (H12.out.1.below hb11) (And.intro (blk_below H12.out.2 hb11) (And.intro hI2 hg2)))
          clear hI2 hb11 H12 hg2
          have cB1 : w11.cell? ⟨w.heap.size, 1, none⟩ = some (.int .i64 b1) := (blk_cell (H13.out.1.2.1) 1).trans rfl
          have ltB := blk_lt (H13.out.1.2.1)
          have cG0 : w11.cell? ⟨w7.heap.size, 0, none⟩ = some (.int .u64 x5) := (blk_cell (H13.out.2.1) 0).trans rfl
          have cG1 : w11.cell? ⟨w7.heap.size, 1, none⟩ = some (.int .u64 b5) := (blk_cell (H13.out.2.1) 1).trans rfl
          have cG2 : w11.cell? ⟨w7.heap.size, 2, none⟩ = some (.int .u8 b6) := (blk_cell (H13.out.2.1) 2).trans rfl
          have cG3 : w11.cell? ⟨w7.heap.size, 3, none⟩ = some (.bool b7) := (blk_cell (H13.out.2.1) 3).trans rfl
          have cG4 : w11.cell? ⟨w7.heap.size, 4, none⟩ = some (.int .u16 x8) := (blk_cell (H13.out.2.1) 4).trans rfl
          have cG5 : w11.cell? ⟨w7.heap.size, 5, none⟩ = some (.int .u16 b9) := (blk_cell (H13.out.2.1) 5).trans rfl
          have cG6 : w11.cell? ⟨w7.heap.size, 6, none⟩ = some (.string b10) := (blk_cell (H13.out.2.1) 6).trans rfl
          have ltG := blk_lt (H13.out.2.1)
          by_cases hh : hc = 0
          rotate_left
          · go_wp2_with fail
            refine ⟨⟨k + 1, _, mb', L', by omega, rfl, by simp, (H13.out.1.below ?_).1, (H13.out.1.below ?_).2.1, (H13.out.1.below ?_).2.2.2.1, HL.out.1, by have := HL.out.2; have := HK.out.2; omega, (H13.out.1.below ?_).2.2.2.2.1⟩, by simp [intOf]; omega⟩ <;> repeat (first | exact Below.refl _ _ | apply below_alloc | apply below_drew1)
          subst hh
          by_cases hkn : known = true
          rotate_left
          · have hkn := Bool.eq_false_iff.2 hkn
            subst hkn
            go_wp2_with fail
            refine ⟨⟨k + 1, _, mb', L', by omega, rfl, by simp, (H13.out.1.below ?_).1, (H13.out.1.below ?_).2.1, (H13.out.1.below ?_).2.2.2.1, HL.out.1, by have := HL.out.2; have := HK.out.2; omega, (H13.out.1.below ?_).2.2.2.2.1⟩, by simp [intOf]; omega⟩ <;> repeat (first | exact Below.refl _ _ | apply below_alloc | apply below_drew1)
          subst hkn
          by_cases hne : b5 = x5
          · subst hne
            go_wp2_with fail
            refine ⟨⟨k + 1, _, mb', L', by omega, rfl, by simp, (H13.out.1.below ?_).1, (H13.out.1.below ?_).2.1, (H13.out.1.below ?_).2.2.2.1, HL.out.1, by have := HL.out.2; have := HK.out.2; omega, (H13.out.1.below ?_).2.2.2.2.1⟩, by simp [intOf]; omega⟩ <;> repeat (first | exact Below.refl _ _ | apply below_alloc | apply below_drew1)
          have hne2 := Ne.symm hne
          have hnp := never_plain HL.out.1 HLK.out hne rfl H13.out.2.2.2
          rcases hnp with ⟨hgr, rfl⟩ | ⟨hgr, rfl, ⟨rfl, hpb⟩ | ⟨rfl, hpb⟩⟩
          · skip
            go_wp2_with fail
            refine fd_calls_W ?_
            intro W12 hW12
            have hb12 : Below w11.heap.size w11 W12 := by rw [hW12]; repeat (first | exact Below.refl _ _ | apply below_alloc | apply below_drew1)
            clear hW12
            refine (group_calls x5 W12).mono ?_
            rintro e' w13 ⟨rfl, hb13⟩
            rw [hgr]
            have hb14 := hb12.trans (hb13.mono hb12.size)
            have HB14 := Lib.hid hb14
            have cB1' : w13.cell? ⟨w.heap.size, 1, none⟩ = some (.int .i64 b1) := (blk_cell (H13.out.1.below hb14).2.1 1).trans rfl
            clear hb12 hb13 hb14
            go_wp2_with fail
            refine ⟨⟨k + 1, _, mb', L', by omega, rfl, by simp, (H13.out.1.below ?_).1, (H13.out.1.below ?_).2.1, (H13.out.1.below ?_).2.2.2.1, HL.out.1, by have := HL.out.2; have := HK.out.2; omega, (H13.out.1.below ?_).2.2.2.2.1⟩, by simp [intOf]; omega⟩ <;> repeat (first | exact HB14.out | exact Below.refl _ _ | apply below_alloc | apply below_drew1)
          · obtain ⟨ad2, rfl, pt0⟩ := ints_at H13.out.2.2.1 0 (by simp)
            have pt1 : w11.cell? (ad2.add 0) = some (.int .i64 port) := pt0
            have hpb2 := Ne.symm hpb
            have hpb3 : (port == b1) = false := beq_eq_false_iff_ne.2 hpb
            have lad2 := World.block_lt_of_cell? w11 _ pt0
            have e0 : ad2.add 0 = ad2 := by obtain ⟨b, o, p⟩ := ad2; cases p <;> simp [Addr.add]
            have pt2 : w11.cell? ad2 = some (.int .i64 port) := by rw [← e0]; exact pt1
            have lad3 : ad2.block < w11.heap.size := by rw [← e0]; exact lad2
            clear pt0 e0
            go_wp2_with fail
            refine fd_calls_W ?_
            intro W12 hW12
            have hb12 : Below w11.heap.size w11 W12 := by rw [hW12]; repeat (first | exact Below.refl _ _ | apply below_alloc | apply below_drew1)
            clear hW12
            refine (group_calls x5 W12).mono ?_
            rintro e' w13 ⟨rfl, hb13⟩
            rw [hgr]
            have hb14 := hb12.trans (hb13.mono hb12.size)
            have HB14 := Lib.hid hb14
            have cB1' : w13.cell? ⟨w.heap.size, 1, none⟩ = some (.int .i64 b1) := (blk_cell (H13.out.1.below hb14).2.1 1).trans rfl
            clear hb12 hb13 hb14
            go_wp2_with fail
            refine ⟨⟨k + 1, _, mb', L', by omega, rfl, by simp, (H13.out.1.below ?_).1, (H13.out.1.below ?_).2.1, (H13.out.1.below ?_).2.2.2.1, HL.out.1, by have := HL.out.2; have := HK.out.2; omega, (H13.out.1.below ?_).2.2.2.2.1⟩, by simp [intOf]; omega⟩ <;> repeat (first | exact HB14.out | exact Below.refl _ _ | apply below_alloc | apply below_drew1)
          · skip
            go_wp2_with fail
            refine fd_calls_W ?_
            intro W12 hW12
            have hb12 : Below w11.heap.size w11 W12 := by rw [hW12]; repeat (first | exact Below.refl _ _ | apply below_alloc | apply below_drew1)
            clear hW12
            refine (group_calls x5 W12).mono ?_
            rintro e' w13 ⟨rfl, hb13⟩
            rw [hgr]
            have hb14 := hb12.trans (hb13.mono hb12.size)
            have HB14 := Lib.hid hb14
            have cB1' : w13.cell? ⟨w.heap.size, 1, none⟩ = some (.int .i64 b1) := (blk_cell (H13.out.1.below hb14).2.1 1).trans rfl
            clear hb12 hb13 hb14
            go_wp2_with fail
            refine ⟨⟨k + 1, _, mb', L', by omega, rfl, by simp, (H13.out.1.below ?_).1, (H13.out.1.below ?_).2.1, (H13.out.1.below ?_).2.2.2.1, HL.out.1, by have := HL.out.2; have := HK.out.2; omega, (H13.out.1.below ?_).2.2.2.2.1⟩, by simp [intOf]; omega⟩ <;> repeat (first | exact HB14.out | exact Below.refl _ _ | apply below_alloc | apply below_drew1)
    · have hkl : k = l.length := by omega
      subst hkl
      have H3 := Lib.hid hB
      clear hT hK hTab hG hLk hB
      go_wp2_with fail
      refine (awake19_calls _).mono ?_
      rintro e' w9 ⟨rfl, hb9⟩
      have H9 := Lib.hid (H3.out.trans (hb9.mono H3.out.size))
      clear hb9
      go_wp2_with fail
      go_ret
      exact ⟨rfl, H9.out⟩
end Go.Proofs.Ytmlenepeocginaa.Gv
