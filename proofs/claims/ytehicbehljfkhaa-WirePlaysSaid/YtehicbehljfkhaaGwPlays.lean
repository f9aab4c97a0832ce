/- Wires, walked by hand: the law WirePlays. -/
import Derived.Test.YtehicbehljfkhaaGwWireF
import Derived.Deep.RegionHeld3
namespace Go.Proofs.Ytehicbehljfkhaa.Wi
set_option linter.unusedVariables false
set_option linter.unusedSimpArgs false
open Go.RowKit Go.Proofs.YtehicbehljfkhaaW.PrintWords Go.Proofs.YtehicbehljfkhaaW.PrintLast Go.Proofs.YtehicbehljfkhaaW.PrintMore
/-- The acts that came in: their cells. -/
def PActs (w : World) (A0 : Option Addr) (l : List (Int × ByteArray)) : Prop := ∀ k (hk : k < l.length), ∃ b o, A0 = some ⟨b, o, none⟩ ∧ b < w.heap.size ∧ w.cell? ⟨b, o + k * 2, none⟩ = some (.int .u8 (l[k]).1) ∧ w.cell? ⟨b, o + k * 2 + 1, none⟩ = some (.string (l[k]).2)
theorem PActs.below {w w1 : World} {A0 : Option Addr} {l : List (Int × ByteArray)} (h : PActs w A0 l) (hb : Below w.heap.size w w1) : PActs w1 A0 l := by
  intro k hk
  obtain ⟨b, o, e, hlt, h0, h1⟩ := h k hk
  exact ⟨b, o, e, Nat.lt_of_lt_of_le hlt hb.size, (hb.cell (p := ⟨b, _, none⟩) hlt).trans h0, (hb.cell (p := ⟨b, _, none⟩) hlt).trans h1⟩
theorem box37 {w W : World} {g : Nat} {o0 o1 o2 : Value} (hx : W.heap[g]? = some (.cells #[o0, o1, o2] 37 (0, 0))) (hg : w.heap.size ≤ g) (hB : Below w.heap.size w W) (n0 n1 n2 : Value) (W' : World) (hW : W' = ((W.setCell ⟨g, 0, none⟩ n0).setCell ⟨g, 1, none⟩ n1).setCell ⟨g, 2, none⟩ n2) :
    W'.heap[g]? = some (.cells #[n0, n1, n2] 37 (0, 0)) ∧ Below w.heap.size w W' ∧ (∀ v l, WireV W v l → WireV W' v l) ∧ (∀ v l, RefV W v l → RefV W' v l) ∧ (∀ (g' : Nat) (cs : Array Value) (t : TypeId), g' ≠ g → W.heap[g']? = some (.cells cs t (0, 0)) → W'.heap[g']? = some (.cells cs t (0, 0))) := by
  have q1 := blk_put (cs' := #[n0, o1, o2]) hx 0 n0 rfl
  have q2 := blk_put (cs' := #[n0, n1, o2]) q1 1 n1 rfl
  have q3 := blk_put (cs' := #[n0, n1, n2]) q2 2 n2 rfl
  subst hW
  exact ⟨q3, wi_set (wi_set (wi_set hB hg _) hg _) hg _, fun v l h => ((h.far hx (by decide) _ _).far q1 (by decide) _ _).far q2 (by decide) _ _, fun v l h => ((h.far hx (by decide) _ _).far q1 (by decide) _ _).far q2 (by decide) _ _, fun g' cs t hne h => blk_far (blk_far (blk_far h (by exact hne) _) (by exact hne) _) (by exact hne) _⟩
theorem ref24 {W W' : World} {g : Nat} {o0 o1 o2 : Value} (hx : W.heap[g]? = some (.cells #[o0, o1, o2] 24 (0, 0))) (n0 n1 n2 : Value) (hW : W' = ((W.setCell ⟨g, 0, none⟩ n0).setCell ⟨g, 1, none⟩ n1).setCell ⟨g, 2, none⟩ n2) (v : Value) (l : List ByteArray) (h : RefV W v l) : RefV W' v l := by
  have q1 := blk_put (cs' := #[n0, o1, o2]) hx 0 n0 rfl
  have q2 := blk_put (cs' := #[n0, n1, o2]) q1 1 n1 rfl
  subst hW
  exact ((h.far hx (by decide) _ _).far q1 (by decide) _ _).far q2 (by decide) _ _
/-- The loop's relation: both boxes read as one row. -/
def PL (Bw Bm : Nat) (room : Int) (w wr : World) (d : Bool) (L : List ByteArray) : Prop := ∃ v u, wr.heap[Bw]? = some (.cells #[.int .i64 room, .bool d, v] 24 (0, 0)) ∧ wr.heap[Bm]? = some (.cells #[.int .i64 room, .bool d, u] 37 (0, 0)) ∧ WireV wr v L ∧ RefV wr u L ∧ (L.length : Int) ≤ room ∧ Below w.heap.size w wr
theorem PL_W {Bw Bm : Nat} {room : Int} {w W : World} {d : Bool} {L : List ByteArray} (h : ∀ W', W' = W → PL Bw Bm room w W' d L) : PL Bw Bm room w W d L := h W rfl
theorem wi_W {P : Program} {C : Code} {Q : Exit → Act → World → Prop} {a : Act} {W : World} (h : ∀ W', W' = W → Code.wp P C Q a W') : Code.wp P C Q a W := h W rfl
set_option maxHeartbeats 4000000 in
set_option maxRecDepth 100000 in
theorem len_any (room : Int) (d : Bool) (A : Option Addr) (n c : Nat) (w : World) :
    Calls Try.prog 10 #[.agg #[.int .i64 room, .bool d, .slice A n c]] w fun e w' => e = .returned (.int .i64 n) ∧ Below w.heap.size w w' := by
  have hu24 := Try.underlying24
  go_enter Try.func10, Try.ntmps10
  go_wp2
  go_ret
  exact ⟨rfl, below_alloc (Below.refl _ w) _⟩
set_option maxHeartbeats 4000000 in
set_option maxRecDepth 100000 in
theorem up_any (room : Int) (d : Bool) (A : Option Addr) (n c : Nat) (w : World) :
    Calls Try.prog 16 #[.agg #[.int .i64 room, .bool d, .slice A n c]] w fun e w' => e = .returned (.bool (!d)) ∧ Below w.heap.size w w' := by
  have hu24 := Try.underlying24
  go_enter Try.func16, Try.ntmps16
  go_wp2
  go_ret
  exact ⟨rfl, below_alloc (Below.refl _ w) _⟩
theorem ref_len {w : World} {v : Value} {l : List ByteArray} (h : RefV w v l) (n : Nat) (hn : l.length = n) : ∃ A c, v = .slice A n c := by subst hn; exact h.slice
theorem wire_len {w : World} {v : Value} {l : List ByteArray} (h : WireV w v l) (n : Nat) (hn : l.length = n) : ∃ A c, v = .slice A n c := by subst hn; exact wire_slice h
theorem set_up (room : Int) (d : Bool) (v : Value) (l : List ByteArray) (w : World) (hv : WireV w v l) : Calls Try.prog 14 #[.agg #[.int .i64 room, .bool d, v], .bool true] w (SamePost (.agg #[.int .i64 room, .bool false, v]) w) := set_ok room d true v l w hv
theorem set_down (room : Int) (d : Bool) (v : Value) (l : List ByteArray) (w : World) (hv : WireV w v l) : Calls Try.prog 14 #[.agg #[.int .i64 room, .bool d, v], .bool false] w (SamePost (.agg #[.int .i64 room, .bool true, .slice none 0 0]) w) := set_ok room d false v l w hv
theorem rset_up (room : Int) (d : Bool) (v : Value) (l : List ByteArray) (w : World) (hv : RefV w v l) : Calls Try.prog 15 #[.agg #[.int .i64 room, .bool d, v], .bool true] w (SamePost (.agg #[.int .i64 room, .bool false, v]) w) := rset_okR room d true v l w hv
theorem rset_down (room : Int) (d : Bool) (v : Value) (l : List ByteArray) (w : World) (hv : RefV w v l) : Calls Try.prog 15 #[.agg #[.int .i64 room, .bool d, v], .bool false] w (SamePost (.agg #[.int .i64 room, .bool true, .slice none 0 0]) w) := rset_okR room d false v l w hv
theorem wi_A {P : Program} {C : Code} {Q : Exit → Act → World → Prop} {a : Act} {W : World} (h : ∀ a', a' = a → Code.wp P C Q a' W) : Code.wp P C Q a W := h a rfl
set_option maxHeartbeats 8000000 in
set_option maxRecDepth 100000 in
theorem plays_no (room : Int) (A0 : Option Addr) (c0 : Nat) (l : List (Int × ByteArray)) (w : World) (h : room < 1 ∨ 256 < room) :
    Calls Try.prog 4 #[.int .i64 room, .slice A0 l.length c0] w fun e w' => e = .returned (.bool true) ∧ Below w.heap.size w w' := by
  have hu24 := Try.underlying24
  have hu37 := Try.underlying37
  go_enter Try.func4, Try.ntmps4
  go_wp2_with fail
  refine (new_no room _ h).mono ?_
  rintro e' w1 ⟨rfl, hb1⟩
  by_cases h1 : room < 1
  · have q1 : decide (room < 1) = true := decide_eq_true h1
    go_wp2_with fail
    refine (awake_ok _).mono ?_
    rintro e' w2 ⟨rfl, hb2⟩
    have hB2 := below_call (below_alloc hb1 _) hb2
    have hx2 := blk_below (blk_new w1 (.cells #[.int .i64 0, .bool false, .slice none 0 0] 24)) hb2
    have z0 : w2.cell? ⟨w1.heap.size, 0, none⟩ = some (.int .i64 0) := (blk_cell hx2 0).trans rfl
    have z1 : w2.cell? ⟨w1.heap.size, 1, none⟩ = some (.bool false) := (blk_cell hx2 1).trans rfl
    have z2 : w2.cell? ⟨w1.heap.size, 2, none⟩ = some (.slice none 0 0) := (blk_cell hx2 2).trans rfl
    go_wp2_with fail
    refine (len_ok 0 false _ _ _ (WireV.nil _)).mono ?_
    rintro e' w3 ⟨rfl, hb3⟩
    have hB3 := below_call hB2 hb3
    go_wp2_with fail
    go_ret
    exact ⟨rfl, hB3⟩
  · have q1 : decide (room < 1) = false := decide_eq_false h1
    have q2 : decide (room > 256) = true := decide_eq_true (by omega)
    have q3 : decide (256 < room) = true := decide_eq_true (by omega)
    go_wp2_with fail
    refine (awake_ok _).mono ?_
    rintro e' w2 ⟨rfl, hb2⟩
    have hB2 := below_call (below_alloc hb1 _) hb2
    have hx2 := blk_below (blk_new w1 (.cells #[.int .i64 0, .bool false, .slice none 0 0] 24)) hb2
    have z0 : w2.cell? ⟨w1.heap.size, 0, none⟩ = some (.int .i64 0) := (blk_cell hx2 0).trans rfl
    have z1 : w2.cell? ⟨w1.heap.size, 1, none⟩ = some (.bool false) := (blk_cell hx2 1).trans rfl
    have z2 : w2.cell? ⟨w1.heap.size, 2, none⟩ = some (.slice none 0 0) := (blk_cell hx2 2).trans rfl
    go_wp2_with fail
    refine (len_ok 0 false _ _ _ (WireV.nil _)).mono ?_
    rintro e' w3 ⟨rfl, hb3⟩
    have hB3 := below_call hB2 hb3
    go_wp2_with fail
    go_ret
    exact ⟨rfl, hB3⟩
set_option maxHeartbeats 16000000 in
set_option maxRecDepth 100000 in
theorem plays_yes (room : Int) (A0 : Option Addr) (c0 : Nat) (l : List (Int × ByteArray)) (w : World) (hr0 : PActs w A0 l) (hc0 : l.length ≤ c0) (h1 : 1 ≤ room) (h2 : room ≤ 256) :
    Calls Try.prog 4 #[.int .i64 room, .slice A0 l.length c0] w fun e w' => e = .returned (.bool true) ∧ Below w.heap.size w w' := by
  have hu24 := Try.underlying24
  have hu37 := Try.underlying37
  have q1 : decide (room < 1) = false := decide_eq_false (by omega)
  have q2 : decide (room > 256) = false := decide_eq_false (by omega)
  have q3 : decide (256 < room) = false := decide_eq_false (by omega)
  have HA := Lib.hid hr0
  clear hr0
  by_cases hl : l.length > 400
  · have p1 : decide ((l.length : Int) > 400) = true := decide_eq_true (by omega)
    have p2 : decide (400 < (l.length : Int)) = true := decide_eq_true (by omega)
    have p3 : decide (400 < l.length) = true := decide_eq_true (by omega)
    go_enter Try.func4, Try.ntmps4
    go_wp2_with fail
    refine (new_ok room _ h1 h2).mono ?_
    rintro e' w1 ⟨rfl, hb1⟩
    go_wp2_with fail
    refine (awake_ok _).mono ?_
    rintro e' w2 ⟨rfl, hb2⟩
    have hB2 := below_call (below_alloc hb1 _) hb2
    go_wp2_with fail
    go_ret
    exact ⟨rfl, hB2⟩
  · have p3 : decide (400 < l.length) = false := decide_eq_false (by omega)
    have hl2 : l.length ≤ 400 := by omega
    clear hl
    go_enter Try.func4, Try.ntmps4
    go_wp2_with fail
    refine (new_ok room _ h1 h2).mono ?_
    rintro e' w1 ⟨rfl, hb1⟩
    have hs1 := hb1.size
    go_wp2_with fail
    go_loopw [65] (fun i wr => ∃ (k : Nat) (d : Bool) (L : List ByteArray), k ≤ l.length ∧ i = .int .i64 k ∧ PL w1.heap.size (w1.heap.size + 1) room w wr d L) (fun i _ => l.length - (intOf i).toNat)
    case atStart =>
      refine ⟨0, false, [], Nat.zero_le _, rfl, _, _, blk_alloc (blk_new w1 _) _, ?_, WireV.nil _, RefV.nil _, by simp; omega, below_alloc (below_alloc hb1 _) _⟩
      have h := blk_new (w1.alloc (.cells #[.int .i64 room, .bool false, .slice none 0 0] 24)) (.cells #[.int .i64 room, .bool false, .slice none 0 0] 37)
      simpa only [World.size_alloc] using h
    case round =>
      obtain ⟨k, d, L, hk, rfl, v, u, hx, hy, hV, hR, hLr, hB⟩ := hrel
      by_cases hlt : k < l.length
      · obtain ⟨b, o, rfl, hblt, hc0', hc1'⟩ := HA.out.below hB k hlt
        generalize hak : (l[k]).1 = a at hc0'
        generalize hfk : (l[k]).2 = s at hc1'
        obtain ⟨A, c, rfl⟩ := wire_slice hV
        obtain ⟨Am, cm, rfl⟩ := hR.slice
        have HV := Lib.hid hV
        have HR := Lib.hid hR
        clear hV hR
        have z0 : wr.cell? ⟨w1.heap.size, 0, none⟩ = some (.int .i64 room) := (blk_cell hx 0).trans rfl
        have z1 : wr.cell? ⟨w1.heap.size, 1, none⟩ = some (.bool d) := (blk_cell hx 1).trans rfl
        have z2 : wr.cell? ⟨w1.heap.size, 2, none⟩ = some (.slice A L.length c) := (blk_cell hx 2).trans rfl
        have y0 : wr.cell? ⟨w1.heap.size + 1, 0, none⟩ = some (.int .i64 room) := (blk_cell hy 0).trans rfl
        have y1 : wr.cell? ⟨w1.heap.size + 1, 1, none⟩ = some (.bool d) := (blk_cell hy 1).trans rfl
        have y2 : wr.cell? ⟨w1.heap.size + 1, 2, none⟩ = some (.slice Am L.length cm) := (blk_cell hy 2).trans rfl
        have f0 := blk_frozen hx 0
        have g0 := blk_frozen hy 0
        have f1 := blk_frozen hx 1
        have g1 := blk_frozen hy 1
        have f2 := blk_frozen hx 2
        have g2 := blk_frozen hy 2
        by_cases hsz : s.size > 2000
        · have s1 : decide ((s.size : Int) > 2000) = true := decide_eq_true (by omega)
          have s2 : decide (2000 < s.size) = true := decide_eq_true (by omega)
          go_wp2_with fail
          refine (awake_ok _).mono ?_
          rintro e' w4 ⟨rfl, hb4⟩
          have hB4 := below_call (below_alloc hB _) hb4
          go_wp2_with fail
          go_ret
          exact ⟨rfl, hB4⟩
        · have s1 : decide ((s.size : Int) > 2000) = false := decide_eq_false (by omega)
          have s2 : decide (2000 < s.size) = false := decide_eq_false (by omega)
          clear hsz
          go_wp2_with fail
          have hxr : w1.heap.size + 1 < wr.heap.size := blk_lt hy
          refine wi_W (fun W2 hW2 => ?_)
          have hx2 : W2.heap[w1.heap.size]? = some (.cells #[.int .i64 room, .bool d, .slice A L.length c] 24 (0, 0)) := by rw [hW2]; exact blk_alloc hx _
          have hy2 : W2.heap[w1.heap.size + 1]? = some (.cells #[.int .i64 room, .bool d, .slice Am L.length cm] 37 (0, 0)) := by rw [hW2]; exact blk_alloc hy _
          have hq2 : W2.heap[wr.heap.size]? = some (.cells #[.int .u8 a, .string s] 39 (0, 0)) := by rw [hW2]; exact blk_new wr _
          have hB2 : Below w.heap.size w W2 := by rw [hW2]; exact below_alloc hB _
          have HV2 := Lib.hid (show WireV W2 _ L from by rw [hW2]; exact HV.out.below (below_alloc (Below.refl _ _) _))
          have HR2 := Lib.hid (show RefV W2 _ L from by rw [hW2]; exact HR.out.below (below_alloc (Below.refl _ _) _))
          have hlx2 := blk_lt hx2
          have hly2 := blk_lt hy2
          have hlq2 := blk_lt hq2
          clear hW2 HV HR hx hy hB hc0' hc1' z0 z1 z2 y0 y1 y2 f0 f1 f2 g0 g1 g2
          have z0 : W2.cell? ⟨w1.heap.size, 0, none⟩ = some (.int .i64 room) := (blk_cell hx2 0).trans rfl
          have z1 : W2.cell? ⟨w1.heap.size, 1, none⟩ = some (.bool d) := (blk_cell hx2 1).trans rfl
          have z2 : W2.cell? ⟨w1.heap.size, 2, none⟩ = some (.slice A L.length c) := (blk_cell hx2 2).trans rfl
          have y0 : W2.cell? ⟨w1.heap.size + 1, 0, none⟩ = some (.int .i64 room) := (blk_cell hy2 0).trans rfl
          have y1 : W2.cell? ⟨w1.heap.size + 1, 1, none⟩ = some (.bool d) := (blk_cell hy2 1).trans rfl
          have y2 : W2.cell? ⟨w1.heap.size + 1, 2, none⟩ = some (.slice Am L.length cm) := (blk_cell hy2 2).trans rfl
          have f0 := blk_frozen hx2 0
          have g0 := blk_frozen hy2 0
          have f1 := blk_frozen hx2 1
          have g1 := blk_frozen hy2 1
          have f2 := blk_frozen hx2 2
          have g2 := blk_frozen hy2 2
          refine wi_A (fun a0 ha0 => ?_)
          rename_i K0 hK0
          have key : ∀ (W : World) (g : Nat), w1.heap.size + 1 < g → W.heap[w1.heap.size]? = some (.cells #[.int .i64 room, .bool d, .slice A L.length c] 24 (0, 0)) → W.heap[w1.heap.size + 1]? = some (.cells #[.int .i64 room, .bool d, .slice Am L.length cm] 37 (0, 0)) → W.heap[wr.heap.size]? = some (.cells #[.int .u8 a, .string s] 39 (0, 0)) → W.heap[g]? = some (.cells #[.int .i64 room, .bool d, .slice A L.length c] 24 (0, 0)) → Below w.heap.size w W → WireV W (.slice A L.length c) L → RefV W (.slice Am L.length cm) L → K0 (((((a0.put (some 74) (.agg #[.int .i64 room, .bool d, .slice A L.length c])).put (some 75) (.agg #[.int .i64 room, .bool d, .slice A L.length c])).put (some 76) (.int .i64 L.length)).put (some 10) (.pointer (some ⟨g, 0, none⟩))).put (some 11) (.int .i64 L.length)) W := by
            intro W3 g hgl hx3 hy3 hq3 hg3 hB3 hV3 hR3
            clear hx2 hy2 hq2 hB2 HV2 HR2 hlx2 hly2 hlq2 z0 z1 z2 y0 y1 y2 f0 f1 f2 g0 g1 g2
            have HV3 := Lib.hid hV3
            have HR3 := Lib.hid hR3
            clear hV3 hR3
            subst ha0
            refine hK0 _ _ ?_
            go_simp
            refine wp_seq_k (fun K1 hK1 => ?_)
            refine wi_A (fun a1 ha1 => ?_)
            have tk : ∀ (W9 : World) (d' : Bool) (v' u' : Value) (L' : List ByteArray) (t12 t13 t14 t15 t16 t17 t18 t19 t20 t21 t77 t78 t79 t80 t81 t82 t83 t84 t85 t86 t87 t88 t89 t90 t91 t92 t93 t94 t95 t96 t97 t98 t99 t100 t101 t102 t103 t104 t105 t106 t107 t108 t109 t110 t111 t112 t113 t114 t115 t116 t117 t118 t119 t120 t121 t122 t123 t124 t125 t126 t127 t128 t129 t130 t131 t132 t133 t134 t135 t136 : Value), W9.heap[w1.heap.size]? = some (.cells #[.int .i64 room, .bool d', v'] 24 (0, 0)) → W9.heap[w1.heap.size + 1]? = some (.cells #[.int .i64 room, .bool d', u'] 37 (0, 0)) → W9.heap[g]? = some (.cells #[.int .i64 room, .bool d, .slice A L.length c] 24 (0, 0)) → Below w.heap.size w W9 → WireV W9 v' L' → RefV W9 u' L' → (L'.length : Int) ≤ room → K1 ((((((((((((((((((((((((((((((((((((((((((((((((((((((((((((((((((((((a1.put (some 12) t12).put (some 13) t13).put (some 14) t14).put (some 15) t15).put (some 16) t16).put (some 17) t17).put (some 18) t18).put (some 19) t19).put (some 20) t20).put (some 21) t21).put (some 77) t77).put (some 78) t78).put (some 79) t79).put (some 80) t80).put (some 81) t81).put (some 82) t82).put (some 83) t83).put (some 84) t84).put (some 85) t85).put (some 86) t86).put (some 87) t87).put (some 88) t88).put (some 89) t89).put (some 90) t90).put (some 91) t91).put (some 92) t92).put (some 93) t93).put (some 94) t94).put (some 95) t95).put (some 96) t96).put (some 97) t97).put (some 98) t98).put (some 99) t99).put (some 100) t100).put (some 101) t101).put (some 102) t102).put (some 103) t103).put (some 104) t104).put (some 105) t105).put (some 106) t106).put (some 107) t107).put (some 108) t108).put (some 109) t109).put (some 110) t110).put (some 111) t111).put (some 112) t112).put (some 113) t113).put (some 114) t114).put (some 115) t115).put (some 116) t116).put (some 117) t117).put (some 118) t118).put (some 119) t119).put (some 120) t120).put (some 121) t121).put (some 122) t122).put (some 123) t123).put (some 124) t124).put (some 125) t125).put (some 126) t126).put (some 127) t127).put (some 128) t128).put (some 129) t129).put (some 130) t130).put (some 131) t131).put (some 132) t132).put (some 133) t133).put (some 134) t134).put (some 135) t135).put (some 136) t136) W9 := by
              intro W9 d' v' u' L' t12 t13 t14 t15 t16 t17 t18 t19 t20 t21 t77 t78 t79 t80 t81 t82 t83 t84 t85 t86 t87 t88 t89 t90 t91 t92 t93 t94 t95 t96 t97 t98 t99 t100 t101 t102 t103 t104 t105 t106 t107 t108 t109 t110 t111 t112 t113 t114 t115 t116 t117 t118 t119 t120 t121 t122 t123 t124 t125 t126 t127 t128 t129 t130 t131 t132 t133 t134 t135 t136 hx9 hy9 hg9 hB9 hV9 hR9 hL9
              clear hx3 hy3 hq3 hg3 hB3 HV3 HR3 HA
              have HV9 := Lib.hid hV9
              have HR9 := Lib.hid hR9
              obtain ⟨A9, c9, rfl⟩ := wire_slice hV9
              obtain ⟨B9, e9, rfl⟩ := hR9.slice
              clear hV9 hR9
              subst ha1
              refine hK1 _ _ ?_
              clear hK1 hK0
              go_simp
              have tx := blk_lt hx9
              have zx0 : W9.cell? ⟨w1.heap.size, 0, none⟩ = some (.int .i64 room) := (blk_cell hx9 0).trans rfl
              have fx0 := blk_frozen hx9 0
              have zx1 : W9.cell? ⟨w1.heap.size, 1, none⟩ = some (.bool d') := (blk_cell hx9 1).trans rfl
              have fx1 := blk_frozen hx9 1
              have zx2 : W9.cell? ⟨w1.heap.size, 2, none⟩ = some (.slice A9 L'.length c9) := (blk_cell hx9 2).trans rfl
              have fx2 := blk_frozen hx9 2
              have ty := blk_lt hy9
              have zy0 : W9.cell? ⟨w1.heap.size + 1, 0, none⟩ = some (.int .i64 room) := (blk_cell hy9 0).trans rfl
              have fy0 := blk_frozen hy9 0
              have zy1 : W9.cell? ⟨w1.heap.size + 1, 1, none⟩ = some (.bool d') := (blk_cell hy9 1).trans rfl
              have fy1 := blk_frozen hy9 1
              have zy2 : W9.cell? ⟨w1.heap.size + 1, 2, none⟩ = some (.slice B9 L'.length e9) := (blk_cell hy9 2).trans rfl
              have fy2 := blk_frozen hy9 2
              have tg := blk_lt hg9
              have zg0 : W9.cell? ⟨g, 0, none⟩ = some (.int .i64 room) := (blk_cell hg9 0).trans rfl
              have fg0 := blk_frozen hg9 0
              have zg1 : W9.cell? ⟨g, 1, none⟩ = some (.bool d) := (blk_cell hg9 1).trans rfl
              have fg1 := blk_frozen hg9 1
              have zg2 : W9.cell? ⟨g, 2, none⟩ = some (.slice A L.length c) := (blk_cell hg9 2).trans rfl
              have fg2 := blk_frozen hg9 2
              have hnd : ((!d') == d') = false := by cases (d' : Bool) <;> rfl
              go_wp2_with fail
              go_region_with (first | (go_at_call 10; refine (len_any _ _ _ _ _ _).mono ?_; rintro e' w10 ⟨rfl, hb⟩; have hx10 := blk_below (blk_drew hx9) hb; have hy10 := blk_below (blk_drew hy9) hb; have hg10 := blk_below (blk_drew hg9) hb; have hB10 := below_call (below_drew1 hB9) hb; have HV10 := Lib.hid ((HV9.out.below (below_drew1 (Below.refl _ _))).below hb); have HR10 := Lib.hid ((HR9.out.below (below_drew1 (Below.refl _ _))).below hb); clear hb; have zx10_0 : w10.cell? ⟨w1.heap.size, 0, none⟩ = some (.int .i64 room) := (blk_cell hx10 0).trans rfl; have zx10_1 : w10.cell? ⟨w1.heap.size, 1, none⟩ = some (.bool d') := (blk_cell hx10 1).trans rfl; have zx10_2 : w10.cell? ⟨w1.heap.size, 2, none⟩ = some (.slice A9 L'.length c9) := (blk_cell hx10 2).trans rfl; have zy10_0 : w10.cell? ⟨w1.heap.size + 1, 0, none⟩ = some (.int .i64 room) := (blk_cell hy10 0).trans rfl; have zy10_1 : w10.cell? ⟨w1.heap.size + 1, 1, none⟩ = some (.bool d') := (blk_cell hy10 1).trans rfl; have zy10_2 : w10.cell? ⟨w1.heap.size + 1, 2, none⟩ = some (.slice B9 L'.length e9) := (blk_cell hy10 2).trans rfl; have zg10_0 : w10.cell? ⟨g, 0, none⟩ = some (.int .i64 room) := (blk_cell hg10 0).trans rfl; have zg10_1 : w10.cell? ⟨g, 1, none⟩ = some (.bool d) := (blk_cell hg10 1).trans rfl; have zg10_2 : w10.cell? ⟨g, 2, none⟩ = some (.slice A L.length c) := (blk_cell hg10 2).trans rfl) | (go_at_call 16; refine (up_any _ _ _ _ _ _).mono ?_; rintro e' w11 ⟨rfl, hb⟩; have hx11 := blk_below (hx10) hb; have hy11 := blk_below (hy10) hb; have hg11 := blk_below (hg10) hb; have hB11 := below_call (hB10) hb; have HV11 := Lib.hid (HV10.out.below hb); have HR11 := Lib.hid (HR10.out.below hb); clear hb; have zx11_0 : w11.cell? ⟨w1.heap.size, 0, none⟩ = some (.int .i64 room) := (blk_cell hx11 0).trans rfl; have zx11_1 : w11.cell? ⟨w1.heap.size, 1, none⟩ = some (.bool d') := (blk_cell hx11 1).trans rfl; have zx11_2 : w11.cell? ⟨w1.heap.size, 2, none⟩ = some (.slice A9 L'.length c9) := (blk_cell hx11 2).trans rfl; have zy11_0 : w11.cell? ⟨w1.heap.size + 1, 0, none⟩ = some (.int .i64 room) := (blk_cell hy11 0).trans rfl; have zy11_1 : w11.cell? ⟨w1.heap.size + 1, 1, none⟩ = some (.bool d') := (blk_cell hy11 1).trans rfl; have zy11_2 : w11.cell? ⟨w1.heap.size + 1, 2, none⟩ = some (.slice B9 L'.length e9) := (blk_cell hy11 2).trans rfl; have zg11_0 : w11.cell? ⟨g, 0, none⟩ = some (.int .i64 room) := (blk_cell hg11 0).trans rfl; have zg11_1 : w11.cell? ⟨g, 1, none⟩ = some (.bool d) := (blk_cell hg11 1).trans rfl; have zg11_2 : w11.cell? ⟨g, 2, none⟩ = some (.slice A L.length c) := (blk_cell hg11 2).trans rfl) | (go_at_call 10; refine (len_any _ _ _ _ _ _).mono ?_; rintro e' w12 ⟨rfl, hb⟩; have hx12 := blk_below (hx11) hb; have hy12 := blk_below (hy11) hb; have hg12 := blk_below (hg11) hb; have hB12 := below_call (hB11) hb; have HV12 := Lib.hid (HV11.out.below hb); have HR12 := Lib.hid (HR11.out.below hb); clear hb; have zx12_0 : w12.cell? ⟨w1.heap.size, 0, none⟩ = some (.int .i64 room) := (blk_cell hx12 0).trans rfl; have zx12_1 : w12.cell? ⟨w1.heap.size, 1, none⟩ = some (.bool d') := (blk_cell hx12 1).trans rfl; have zx12_2 : w12.cell? ⟨w1.heap.size, 2, none⟩ = some (.slice A9 L'.length c9) := (blk_cell hx12 2).trans rfl; have zy12_0 : w12.cell? ⟨w1.heap.size + 1, 0, none⟩ = some (.int .i64 room) := (blk_cell hy12 0).trans rfl; have zy12_1 : w12.cell? ⟨w1.heap.size + 1, 1, none⟩ = some (.bool d') := (blk_cell hy12 1).trans rfl; have zy12_2 : w12.cell? ⟨w1.heap.size + 1, 2, none⟩ = some (.slice B9 L'.length e9) := (blk_cell hy12 2).trans rfl; have zg12_0 : w12.cell? ⟨g, 0, none⟩ = some (.int .i64 room) := (blk_cell hg12 0).trans rfl; have zg12_1 : w12.cell? ⟨g, 1, none⟩ = some (.bool d) := (blk_cell hg12 1).trans rfl; have zg12_2 : w12.cell? ⟨g, 2, none⟩ = some (.slice A L.length c) := (blk_cell hg12 2).trans rfl))
              all_goals go_wp2_with fail
              all_goals go_roundw
              all_goals first | exact ⟨k + 1, d', L', by omega, by go_num, _, _, hx12, hy12, HV12.out, HR12.out, hL9, hB12⟩ | (simp [intOf]; omega)
            subst ha1
            simp only [Act.put, List.setIfInBounds_toArray, List.set_cons_zero, List.set_cons_succ] at tk
            replace tk := Lib.hid tk
            clear hK1
            by_cases ha : a = 0
            · subst ha
              by_cases hfull : d = true ∨ room ≤ (L.length : Int)
              · skip
                have tx := blk_lt hx3
                have zx0 : W3.cell? ⟨w1.heap.size, 0, none⟩ = some (.int .i64 room) := (blk_cell hx3 0).trans rfl
                have fx0 := blk_frozen hx3 0
                have zx1 : W3.cell? ⟨w1.heap.size, 1, none⟩ = some (.bool d) := (blk_cell hx3 1).trans rfl
                have fx1 := blk_frozen hx3 1
                have zx2 : W3.cell? ⟨w1.heap.size, 2, none⟩ = some (.slice A L.length c) := (blk_cell hx3 2).trans rfl
                have fx2 := blk_frozen hx3 2
                have ty := blk_lt hy3
                have zy0 : W3.cell? ⟨w1.heap.size + 1, 0, none⟩ = some (.int .i64 room) := (blk_cell hy3 0).trans rfl
                have fy0 := blk_frozen hy3 0
                have zy1 : W3.cell? ⟨w1.heap.size + 1, 1, none⟩ = some (.bool d) := (blk_cell hy3 1).trans rfl
                have fy1 := blk_frozen hy3 1
                have zy2 : W3.cell? ⟨w1.heap.size + 1, 2, none⟩ = some (.slice Am L.length cm) := (blk_cell hy3 2).trans rfl
                have fy2 := blk_frozen hy3 2
                have tq := blk_lt hq3
                have zq0 : W3.cell? ⟨wr.heap.size, 0, none⟩ = some (.int .u8 0) := (blk_cell hq3 0).trans rfl
                have fq0 := blk_frozen hq3 0
                have zq1 : W3.cell? ⟨wr.heap.size, 1, none⟩ = some (.string s) := (blk_cell hq3 1).trans rfl
                have fq1 := blk_frozen hq3 1
                have tg := blk_lt hg3
                have zg0 : W3.cell? ⟨g, 0, none⟩ = some (.int .i64 room) := (blk_cell hg3 0).trans rfl
                have fg0 := blk_frozen hg3 0
                have zg1 : W3.cell? ⟨g, 1, none⟩ = some (.bool d) := (blk_cell hg3 1).trans rfl
                have fg1 := blk_frozen hg3 1
                have zg2 : W3.cell? ⟨g, 2, none⟩ = some (.slice A L.length c) := (blk_cell hg3 2).trans rfl
                have fg2 := blk_frozen hg3 2
                go_wp2_with fail
                refine calls_W (fun W4 hW4 => ?_)
                have hx4 : W4.heap[w1.heap.size]? = some (.cells #[.int .i64 room, .bool d, .slice A L.length c] 24 (0, 0)) := by rw [hW4]; first | exact hx3 | exact blk_alloc (hx3) _ | exact blk_alloc (blk_alloc (hx3) _) _ | exact blk_alloc (blk_alloc (blk_alloc (hx3) _) _) _
                have hy4 : W4.heap[w1.heap.size + 1]? = some (.cells #[.int .i64 room, .bool d, .slice Am L.length cm] 37 (0, 0)) := by rw [hW4]; first | exact hy3 | exact blk_alloc (hy3) _ | exact blk_alloc (blk_alloc (hy3) _) _ | exact blk_alloc (blk_alloc (blk_alloc (hy3) _) _) _
                have hq4 : W4.heap[wr.heap.size]? = some (.cells #[.int .u8 0, .string s] 39 (0, 0)) := by rw [hW4]; first | exact hq3 | exact blk_alloc (hq3) _ | exact blk_alloc (blk_alloc (hq3) _) _ | exact blk_alloc (blk_alloc (blk_alloc (hq3) _) _) _
                have hg4 : W4.heap[g]? = some (.cells #[.int .i64 room, .bool d, .slice A L.length c] 24 (0, 0)) := by rw [hW4]; first | exact hg3 | exact blk_alloc (hg3) _ | exact blk_alloc (blk_alloc (hg3) _) _ | exact blk_alloc (blk_alloc (blk_alloc (hg3) _) _) _
                have hB4 : Below w.heap.size w W4 := by rw [hW4]; first | exact hB3 | exact below_alloc (hB3) _ | exact below_alloc (below_alloc (hB3) _) _ | exact below_alloc (below_alloc (below_alloc (hB3) _) _) _
                have HV4 := Lib.hid (show WireV W4 (.slice A L.length c) L from by rw [hW4]; first | exact HV3.out | exact HV3.out.below (below_alloc (Below.refl _ _) _) | exact HV3.out.below (below_alloc (below_alloc (Below.refl _ _) _) _) | exact HV3.out.below (below_alloc (below_alloc (below_alloc (Below.refl _ _) _) _) _))
                have HR4 := Lib.hid (show RefV W4 (.slice Am L.length cm) L from by rw [hW4]; first | exact HR3.out | exact HR3.out.below (below_alloc (Below.refl _ _) _) | exact HR3.out.below (below_alloc (below_alloc (Below.refl _ _) _) _) | exact HR3.out.below (below_alloc (below_alloc (below_alloc (Below.refl _ _) _) _) _))
                clear hW4
                clear tx zx0 fx0 zx1 fx1 zx2 fx2 ty zy0 fy0 zy1 fy1 zy2 fy2 tq zq0 fq0 zq1 fq1 tg zg0 fg0 zg1 fg1 zg2 fg2
                refine (push_no room d _ L s _ HV4.out hfull).mono ?_
                rintro e' w5 ⟨rfl, hb⟩
                have hx5 := blk_below hx4 hb
                have hy5 := blk_below hy4 hb
                have hq5 := blk_below hq4 hb
                have hg5 := blk_below hg4 hb
                have hB5 := below_call hB4 hb
                have HV5 := Lib.hid (HV4.out.below hb)
                have HR5 := Lib.hid (HR4.out.below hb)
                have tx := blk_lt hx5
                have zx0 : w5.cell? ⟨w1.heap.size, 0, none⟩ = some (.int .i64 room) := (blk_cell hx5 0).trans rfl
                have fx0 := blk_frozen hx5 0
                have zx1 : w5.cell? ⟨w1.heap.size, 1, none⟩ = some (.bool d) := (blk_cell hx5 1).trans rfl
                have fx1 := blk_frozen hx5 1
                have zx2 : w5.cell? ⟨w1.heap.size, 2, none⟩ = some (.slice A L.length c) := (blk_cell hx5 2).trans rfl
                have fx2 := blk_frozen hx5 2
                have ty := blk_lt hy5
                have zy0 : w5.cell? ⟨w1.heap.size + 1, 0, none⟩ = some (.int .i64 room) := (blk_cell hy5 0).trans rfl
                have fy0 := blk_frozen hy5 0
                have zy1 : w5.cell? ⟨w1.heap.size + 1, 1, none⟩ = some (.bool d) := (blk_cell hy5 1).trans rfl
                have fy1 := blk_frozen hy5 1
                have zy2 : w5.cell? ⟨w1.heap.size + 1, 2, none⟩ = some (.slice Am L.length cm) := (blk_cell hy5 2).trans rfl
                have fy2 := blk_frozen hy5 2
                have tq := blk_lt hq5
                have zq0 : w5.cell? ⟨wr.heap.size, 0, none⟩ = some (.int .u8 0) := (blk_cell hq5 0).trans rfl
                have fq0 := blk_frozen hq5 0
                have zq1 : w5.cell? ⟨wr.heap.size, 1, none⟩ = some (.string s) := (blk_cell hq5 1).trans rfl
                have fq1 := blk_frozen hq5 1
                have tg := blk_lt hg5
                have zg0 : w5.cell? ⟨g, 0, none⟩ = some (.int .i64 room) := (blk_cell hg5 0).trans rfl
                have fg0 := blk_frozen hg5 0
                have zg1 : w5.cell? ⟨g, 1, none⟩ = some (.bool d) := (blk_cell hg5 1).trans rfl
                have fg1 := blk_frozen hg5 1
                have zg2 : w5.cell? ⟨g, 2, none⟩ = some (.slice A L.length c) := (blk_cell hg5 2).trans rfl
                have fg2 := blk_frozen hg5 2
                go_wp2_with fail
                refine calls_W (fun W6 hW6 => ?_)
                have hx6 : W6.heap[w1.heap.size]? = some (.cells #[.int .i64 room, .bool d, .slice A L.length c] 24 (0, 0)) := by rw [hW6]; first | exact hx5 | exact blk_alloc (hx5) _ | exact blk_alloc (blk_alloc (hx5) _) _ | exact blk_alloc (blk_alloc (blk_alloc (hx5) _) _) _
                have hy6 : W6.heap[w1.heap.size + 1]? = some (.cells #[.int .i64 room, .bool d, .slice Am L.length cm] 37 (0, 0)) := by rw [hW6]; first | exact hy5 | exact blk_alloc (hy5) _ | exact blk_alloc (blk_alloc (hy5) _) _ | exact blk_alloc (blk_alloc (blk_alloc (hy5) _) _) _
                have hq6 : W6.heap[wr.heap.size]? = some (.cells #[.int .u8 0, .string s] 39 (0, 0)) := by rw [hW6]; first | exact hq5 | exact blk_alloc (hq5) _ | exact blk_alloc (blk_alloc (hq5) _) _ | exact blk_alloc (blk_alloc (blk_alloc (hq5) _) _) _
                have hg6 : W6.heap[g]? = some (.cells #[.int .i64 room, .bool d, .slice A L.length c] 24 (0, 0)) := by rw [hW6]; first | exact hg5 | exact blk_alloc (hg5) _ | exact blk_alloc (blk_alloc (hg5) _) _ | exact blk_alloc (blk_alloc (blk_alloc (hg5) _) _) _
                have hB6 : Below w.heap.size w W6 := by rw [hW6]; first | exact hB5 | exact below_alloc (hB5) _ | exact below_alloc (below_alloc (hB5) _) _ | exact below_alloc (below_alloc (below_alloc (hB5) _) _) _
                have HV6 := Lib.hid (show WireV W6 (.slice A L.length c) L from by rw [hW6]; first | exact HV5.out | exact HV5.out.below (below_alloc (Below.refl _ _) _) | exact HV5.out.below (below_alloc (below_alloc (Below.refl _ _) _) _) | exact HV5.out.below (below_alloc (below_alloc (below_alloc (Below.refl _ _) _) _) _))
                have HR6 := Lib.hid (show RefV W6 (.slice Am L.length cm) L from by rw [hW6]; first | exact HR5.out | exact HR5.out.below (below_alloc (Below.refl _ _) _) | exact HR5.out.below (below_alloc (below_alloc (Below.refl _ _) _) _) | exact HR5.out.below (below_alloc (below_alloc (below_alloc (Below.refl _ _) _) _) _))
                have hu6 : W6.heap[w5.heap.size]? = some (.cells #[.int .i64 room, .bool d, .slice A L.length c] 24 (0, 0)) := by rw [hW6]; exact blk_new _ _
                clear hW6
                clear tx zx0 fx0 zx1 fx1 zx2 fx2 ty zy0 fy0 zy1 fy1 zy2 fy2 tq zq0 fq0 zq1 fq1 tg zg0 fg0 zg1 fg1 zg2 fg2
                refine (rpush_noR room d _ L s _ HR6.out hfull).mono ?_
                rintro e' w7 ⟨rfl, hb⟩
                have hx7 := blk_below hx6 hb
                have hy7 := blk_below hy6 hb
                have hq7 := blk_below hq6 hb
                have hg7 := blk_below hg6 hb
                have hu7 := blk_below hu6 hb
                have hB7 := below_call hB6 hb
                have HV7 := Lib.hid (HV6.out.below hb)
                have HR7 := Lib.hid (HR6.out.below hb)
                have tx := blk_lt hx7
                have zx0 : w7.cell? ⟨w1.heap.size, 0, none⟩ = some (.int .i64 room) := (blk_cell hx7 0).trans rfl
                have fx0 := blk_frozen hx7 0
                have zx1 : w7.cell? ⟨w1.heap.size, 1, none⟩ = some (.bool d) := (blk_cell hx7 1).trans rfl
                have fx1 := blk_frozen hx7 1
                have zx2 : w7.cell? ⟨w1.heap.size, 2, none⟩ = some (.slice A L.length c) := (blk_cell hx7 2).trans rfl
                have fx2 := blk_frozen hx7 2
                have ty := blk_lt hy7
                have zy0 : w7.cell? ⟨w1.heap.size + 1, 0, none⟩ = some (.int .i64 room) := (blk_cell hy7 0).trans rfl
                have fy0 := blk_frozen hy7 0
                have zy1 : w7.cell? ⟨w1.heap.size + 1, 1, none⟩ = some (.bool d) := (blk_cell hy7 1).trans rfl
                have fy1 := blk_frozen hy7 1
                have zy2 : w7.cell? ⟨w1.heap.size + 1, 2, none⟩ = some (.slice Am L.length cm) := (blk_cell hy7 2).trans rfl
                have fy2 := blk_frozen hy7 2
                have tq := blk_lt hq7
                have zq0 : w7.cell? ⟨wr.heap.size, 0, none⟩ = some (.int .u8 0) := (blk_cell hq7 0).trans rfl
                have fq0 := blk_frozen hq7 0
                have zq1 : w7.cell? ⟨wr.heap.size, 1, none⟩ = some (.string s) := (blk_cell hq7 1).trans rfl
                have fq1 := blk_frozen hq7 1
                have tg := blk_lt hg7
                have zg0 : w7.cell? ⟨g, 0, none⟩ = some (.int .i64 room) := (blk_cell hg7 0).trans rfl
                have fg0 := blk_frozen hg7 0
                have zg1 : w7.cell? ⟨g, 1, none⟩ = some (.bool d) := (blk_cell hg7 1).trans rfl
                have fg1 := blk_frozen hg7 1
                have zg2 : w7.cell? ⟨g, 2, none⟩ = some (.slice A L.length c) := (blk_cell hg7 2).trans rfl
                have fg2 := blk_frozen hg7 2
                have tu := blk_lt hu7
                have zu0 : w7.cell? ⟨w5.heap.size, 0, none⟩ = some (.int .i64 room) := (blk_cell hu7 0).trans rfl
                have fu0 := blk_frozen hu7 0
                have zu1 : w7.cell? ⟨w5.heap.size, 1, none⟩ = some (.bool d) := (blk_cell hu7 1).trans rfl
                have fu1 := blk_frozen hu7 1
                have zu2 : w7.cell? ⟨w5.heap.size, 2, none⟩ = some (.slice A L.length c) := (blk_cell hu7 2).trans rfl
                have fu2 := blk_frozen hu7 2
                go_wp2_with fail
                refine wi_W (fun W8 hW8 => ?_)
                have hx8 : W8.heap[w1.heap.size]? = some (.cells #[.int .i64 room, .bool d, .slice A L.length c] 24 (0, 0)) := by rw [hW8]; first | exact hx7 | exact blk_alloc (hx7) _ | exact blk_alloc (blk_alloc (hx7) _) _ | exact blk_alloc (blk_alloc (blk_alloc (hx7) _) _) _
                have hy8 : W8.heap[w1.heap.size + 1]? = some (.cells #[.int .i64 room, .bool d, .slice Am L.length cm] 37 (0, 0)) := by rw [hW8]; first | exact hy7 | exact blk_alloc (hy7) _ | exact blk_alloc (blk_alloc (hy7) _) _ | exact blk_alloc (blk_alloc (blk_alloc (hy7) _) _) _
                have hq8 : W8.heap[wr.heap.size]? = some (.cells #[.int .u8 0, .string s] 39 (0, 0)) := by rw [hW8]; first | exact hq7 | exact blk_alloc (hq7) _ | exact blk_alloc (blk_alloc (hq7) _) _ | exact blk_alloc (blk_alloc (blk_alloc (hq7) _) _) _
                have hg8 : W8.heap[g]? = some (.cells #[.int .i64 room, .bool d, .slice A L.length c] 24 (0, 0)) := by rw [hW8]; first | exact hg7 | exact blk_alloc (hg7) _ | exact blk_alloc (blk_alloc (hg7) _) _ | exact blk_alloc (blk_alloc (blk_alloc (hg7) _) _) _
                have hu8 : W8.heap[w5.heap.size]? = some (.cells #[.int .i64 room, .bool d, .slice A L.length c] 24 (0, 0)) := by rw [hW8]; first | exact hu7 | exact blk_alloc (hu7) _ | exact blk_alloc (blk_alloc (hu7) _) _ | exact blk_alloc (blk_alloc (blk_alloc (hu7) _) _) _
                have hB8 : Below w.heap.size w W8 := by rw [hW8]; first | exact hB7 | exact below_alloc (hB7) _ | exact below_alloc (below_alloc (hB7) _) _ | exact below_alloc (below_alloc (below_alloc (hB7) _) _) _
                have HV8 := Lib.hid (show WireV W8 (.slice A L.length c) L from by rw [hW8]; first | exact HV7.out | exact HV7.out.below (below_alloc (Below.refl _ _) _) | exact HV7.out.below (below_alloc (below_alloc (Below.refl _ _) _) _) | exact HV7.out.below (below_alloc (below_alloc (below_alloc (Below.refl _ _) _) _) _))
                have HR8 := Lib.hid (show RefV W8 (.slice Am L.length cm) L from by rw [hW8]; first | exact HR7.out | exact HR7.out.below (below_alloc (Below.refl _ _) _) | exact HR7.out.below (below_alloc (below_alloc (Below.refl _ _) _) _) | exact HR7.out.below (below_alloc (below_alloc (below_alloc (Below.refl _ _) _) _) _))
                have he8 : W8.heap[w7.heap.size]? = some (.cells #[.int .i64 room, .bool d, .slice Am L.length cm] 37 (0, 0)) := by rw [hW8]; exact blk_new _ _
                clear hW8
                clear tx zx0 fx0 zx1 fx1 zx2 fx2 ty zy0 fy0 zy1 fy1 zy2 fy2 tq zq0 fq0 zq1 fq1 tg zg0 fg0 zg1 fg1 zg2 fg2 tu zu0 fu0 zu1 fu1 zu2 fu2
                have tx := blk_lt hx8
                have zx0 : W8.cell? ⟨w1.heap.size, 0, none⟩ = some (.int .i64 room) := (blk_cell hx8 0).trans rfl
                have fx0 := blk_frozen hx8 0
                have zx1 : W8.cell? ⟨w1.heap.size, 1, none⟩ = some (.bool d) := (blk_cell hx8 1).trans rfl
                have fx1 := blk_frozen hx8 1
                have zx2 : W8.cell? ⟨w1.heap.size, 2, none⟩ = some (.slice A L.length c) := (blk_cell hx8 2).trans rfl
                have fx2 := blk_frozen hx8 2
                have ty := blk_lt hy8
                have zy0 : W8.cell? ⟨w1.heap.size + 1, 0, none⟩ = some (.int .i64 room) := (blk_cell hy8 0).trans rfl
                have fy0 := blk_frozen hy8 0
                have zy1 : W8.cell? ⟨w1.heap.size + 1, 1, none⟩ = some (.bool d) := (blk_cell hy8 1).trans rfl
                have fy1 := blk_frozen hy8 1
                have zy2 : W8.cell? ⟨w1.heap.size + 1, 2, none⟩ = some (.slice Am L.length cm) := (blk_cell hy8 2).trans rfl
                have fy2 := blk_frozen hy8 2
                have tq := blk_lt hq8
                have zq0 : W8.cell? ⟨wr.heap.size, 0, none⟩ = some (.int .u8 0) := (blk_cell hq8 0).trans rfl
                have fq0 := blk_frozen hq8 0
                have zq1 : W8.cell? ⟨wr.heap.size, 1, none⟩ = some (.string s) := (blk_cell hq8 1).trans rfl
                have fq1 := blk_frozen hq8 1
                have tg := blk_lt hg8
                have zg0 : W8.cell? ⟨g, 0, none⟩ = some (.int .i64 room) := (blk_cell hg8 0).trans rfl
                have fg0 := blk_frozen hg8 0
                have zg1 : W8.cell? ⟨g, 1, none⟩ = some (.bool d) := (blk_cell hg8 1).trans rfl
                have fg1 := blk_frozen hg8 1
                have zg2 : W8.cell? ⟨g, 2, none⟩ = some (.slice A L.length c) := (blk_cell hg8 2).trans rfl
                have fg2 := blk_frozen hg8 2
                have tu := blk_lt hu8
                have zu0 : W8.cell? ⟨w5.heap.size, 0, none⟩ = some (.int .i64 room) := (blk_cell hu8 0).trans rfl
                have fu0 := blk_frozen hu8 0
                have zu1 : W8.cell? ⟨w5.heap.size, 1, none⟩ = some (.bool d) := (blk_cell hu8 1).trans rfl
                have fu1 := blk_frozen hu8 1
                have zu2 : W8.cell? ⟨w5.heap.size, 2, none⟩ = some (.slice A L.length c) := (blk_cell hu8 2).trans rfl
                have fu2 := blk_frozen hu8 2
                have te := blk_lt he8
                have ze0 : W8.cell? ⟨w7.heap.size, 0, none⟩ = some (.int .i64 room) := (blk_cell he8 0).trans rfl
                have fe0 := blk_frozen he8 0
                have ze1 : W8.cell? ⟨w7.heap.size, 1, none⟩ = some (.bool d) := (blk_cell he8 1).trans rfl
                have fe1 := blk_frozen he8 1
                have ze2 : W8.cell? ⟨w7.heap.size, 2, none⟩ = some (.slice Am L.length cm) := (blk_cell he8 2).trans rfl
                have fe2 := blk_frozen he8 2
                have na0 := Nat.ne_of_lt (blk_lt hx7)
                have nb0 := Nat.ne_of_gt (blk_lt hx7)
                have na1 := Nat.ne_of_lt (blk_lt hy7)
                have nb1 := Nat.ne_of_gt (blk_lt hy7)
                have na2 := Nat.ne_of_lt (blk_lt hu7)
                have nb2 := Nat.ne_of_gt (blk_lt hu7)
                have na3 := Nat.ne_of_lt (blk_lt hx5)
                have nb3 := Nat.ne_of_gt (blk_lt hx5)
                have na4 := Nat.ne_of_lt (blk_lt hy5)
                have nb4 := Nat.ne_of_gt (blk_lt hy5)
                refine wi_A (fun a1 ha1 => ?_)
                rename_i K2 hK2
                have key2 : ∀ W9 : World, W9 = ((((((W8.setCell ⟨w1.heap.size, 0, none⟩ (.int .i64 room)).setCell ⟨w1.heap.size, 1, none⟩ (.bool d)).setCell ⟨w1.heap.size, 2, none⟩ (.slice A L.length c)).setCell ⟨w1.heap.size + 1, 0, none⟩ (.int .i64 room)).setCell ⟨w1.heap.size + 1, 1, none⟩ (.bool d)).setCell ⟨w1.heap.size + 1, 2, none⟩ (.slice Am L.length cm)).drew → K2 ((a1.put (some 95) (.agg #[.int .i64 room, .bool d, .slice A L.length c])).put (some 96) (.agg #[.int .i64 room, .bool d, .slice Am L.length cm])) W9 := by
                  intro W9 hW9
                  subst ha1
                  obtain ⟨hxa, hBa, hTa, hNa⟩ := box_store hx8 hs1 hB8 (.int .i64 room) (.bool d) (.slice A L.length c) _ rfl
                  have hRa := ref24 hx8 (.int .i64 room) (.bool d) (.slice A L.length c) rfl _ _ HR8.out
                  have hTa := hTa _ _ HV8.out
                  have hya := hNa _ _ _ (by omega) hy8
                  have hqa := hNa _ _ _ (by omega) hq8
                  have hga := hNa _ _ _ (by omega) hg8
                  obtain ⟨hyb, hBb, hTb, hUb, hNb⟩ := box37 hya (by omega) hBa (.int .i64 room) (.bool d) (.slice Am L.length cm) _ rfl
                  have hxb := hNb _ _ _ (by omega) hxa
                  have hqb := hNb _ _ _ (by omega) hqa
                  have hgb := hNb _ _ _ (by omega) hga
                  have hx9 : W9.heap[w1.heap.size]? = some (.cells #[.int .i64 room, .bool d, .slice A L.length c] 24 (0, 0)) := by rw [hW9]; exact blk_drew hxb
                  have hy9 : W9.heap[w1.heap.size + 1]? = some (.cells #[.int .i64 room, .bool d, .slice Am L.length cm] 37 (0, 0)) := by rw [hW9]; exact blk_drew hyb
                  have hq9 : W9.heap[wr.heap.size]? = some (.cells #[.int .u8 0, .string s] 39 (0, 0)) := by rw [hW9]; exact blk_drew hqb
                  have hg9 : W9.heap[g]? = some (.cells #[.int .i64 room, .bool d, .slice A L.length c] 24 (0, 0)) := by rw [hW9]; exact blk_drew hgb
                  have hB9 : Below w.heap.size w W9 := by rw [hW9]; exact below_drew1 hBb
                  have HV9 := Lib.hid (show WireV W9 (.slice A L.length c) L from by rw [hW9]; exact (hTb _ _ hTa).below (below_drew1 (Below.refl _ _)))
                  have HR9 := Lib.hid (show RefV W9 (.slice Am L.length cm) L from by rw [hW9]; exact (hUb _ _ hRa).below (below_drew1 (Below.refl _ _)))
                  clear hW9 hxa hBa hTa hNa hRa hya hqa hga hyb hBb hTb hUb hNb hxb hqb hgb
                  clear tx zx0 fx0 zx1 fx1 zx2 fx2 ty zy0 fy0 zy1 fy1 zy2 fy2 tq zq0 fq0 zq1 fq1 tg zg0 fg0 zg1 fg1 zg2 fg2 tu zu0 fu0 zu1 fu1 zu2 fu2 te ze0 fe0 ze1 fe1 ze2 fe2
                  refine hK2 _ _ ?_
                  go_simp
                  have tx := blk_lt hx9
                  have zx0 : W9.cell? ⟨w1.heap.size, 0, none⟩ = some (.int .i64 room) := (blk_cell hx9 0).trans rfl
                  have fx0 := blk_frozen hx9 0
                  have zx1 : W9.cell? ⟨w1.heap.size, 1, none⟩ = some (.bool d) := (blk_cell hx9 1).trans rfl
                  have fx1 := blk_frozen hx9 1
                  have zx2 : W9.cell? ⟨w1.heap.size, 2, none⟩ = some (.slice A L.length c) := (blk_cell hx9 2).trans rfl
                  have fx2 := blk_frozen hx9 2
                  have ty := blk_lt hy9
                  have zy0 : W9.cell? ⟨w1.heap.size + 1, 0, none⟩ = some (.int .i64 room) := (blk_cell hy9 0).trans rfl
                  have fy0 := blk_frozen hy9 0
                  have zy1 : W9.cell? ⟨w1.heap.size + 1, 1, none⟩ = some (.bool d) := (blk_cell hy9 1).trans rfl
                  have fy1 := blk_frozen hy9 1
                  have zy2 : W9.cell? ⟨w1.heap.size + 1, 2, none⟩ = some (.slice Am L.length cm) := (blk_cell hy9 2).trans rfl
                  have fy2 := blk_frozen hy9 2
                  have tq := blk_lt hq9
                  have zq0 : W9.cell? ⟨wr.heap.size, 0, none⟩ = some (.int .u8 0) := (blk_cell hq9 0).trans rfl
                  have fq0 := blk_frozen hq9 0
                  have zq1 : W9.cell? ⟨wr.heap.size, 1, none⟩ = some (.string s) := (blk_cell hq9 1).trans rfl
                  have fq1 := blk_frozen hq9 1
                  have tg := blk_lt hg9
                  have zg0 : W9.cell? ⟨g, 0, none⟩ = some (.int .i64 room) := (blk_cell hg9 0).trans rfl
                  have fg0 := blk_frozen hg9 0
                  have zg1 : W9.cell? ⟨g, 1, none⟩ = some (.bool d) := (blk_cell hg9 1).trans rfl
                  have fg1 := blk_frozen hg9 1
                  have zg2 : W9.cell? ⟨g, 2, none⟩ = some (.slice A L.length c) := (blk_cell hg9 2).trans rfl
                  have fg2 := blk_frozen hg9 2
                  go_wp2_with fail
                  exact tk.out _ _ _ _ _ _ _ _ _ _ _ _ _ _ _ _ _ _ _ _ _ _ _ _ _ _ _ _ _ _ _ _ _ _ _ _ _ _ _ _ _ _ _ _ _ _ _ _ _ _ _ _ _ _ _ _ _ _ _ _ _ _ _ _ _ _ _ _ _ _ _ _ _ _ _ hx9 hy9 hg9 hB9 HV9.out HR9.out (hLr)
                subst ha1
                go_region_with fail
                all_goals exact key2 _ rfl
              · skip
                obtain rfl : d = false := by cases d <;> simp_all
                have hroom : (L.length : Int) < room := by omega
                clear hfull
                have tx := blk_lt hx3
                have zx0 : W3.cell? ⟨w1.heap.size, 0, none⟩ = some (.int .i64 room) := (blk_cell hx3 0).trans rfl
                have fx0 := blk_frozen hx3 0
                have zx1 : W3.cell? ⟨w1.heap.size, 1, none⟩ = some (.bool false) := (blk_cell hx3 1).trans rfl
                have fx1 := blk_frozen hx3 1
                have zx2 : W3.cell? ⟨w1.heap.size, 2, none⟩ = some (.slice A L.length c) := (blk_cell hx3 2).trans rfl
                have fx2 := blk_frozen hx3 2
                have ty := blk_lt hy3
                have zy0 : W3.cell? ⟨w1.heap.size + 1, 0, none⟩ = some (.int .i64 room) := (blk_cell hy3 0).trans rfl
                have fy0 := blk_frozen hy3 0
                have zy1 : W3.cell? ⟨w1.heap.size + 1, 1, none⟩ = some (.bool false) := (blk_cell hy3 1).trans rfl
                have fy1 := blk_frozen hy3 1
                have zy2 : W3.cell? ⟨w1.heap.size + 1, 2, none⟩ = some (.slice Am L.length cm) := (blk_cell hy3 2).trans rfl
                have fy2 := blk_frozen hy3 2
                have tq := blk_lt hq3
                have zq0 : W3.cell? ⟨wr.heap.size, 0, none⟩ = some (.int .u8 0) := (blk_cell hq3 0).trans rfl
                have fq0 := blk_frozen hq3 0
                have zq1 : W3.cell? ⟨wr.heap.size, 1, none⟩ = some (.string s) := (blk_cell hq3 1).trans rfl
                have fq1 := blk_frozen hq3 1
                have tg := blk_lt hg3
                have zg0 : W3.cell? ⟨g, 0, none⟩ = some (.int .i64 room) := (blk_cell hg3 0).trans rfl
                have fg0 := blk_frozen hg3 0
                have zg1 : W3.cell? ⟨g, 1, none⟩ = some (.bool false) := (blk_cell hg3 1).trans rfl
                have fg1 := blk_frozen hg3 1
                have zg2 : W3.cell? ⟨g, 2, none⟩ = some (.slice A L.length c) := (blk_cell hg3 2).trans rfl
                have fg2 := blk_frozen hg3 2
                go_wp2_with fail
                refine calls_W (fun W4 hW4 => ?_)
                have hx4 : W4.heap[w1.heap.size]? = some (.cells #[.int .i64 room, .bool false, .slice A L.length c] 24 (0, 0)) := by rw [hW4]; first | exact hx3 | exact blk_alloc (hx3) _ | exact blk_alloc (blk_alloc (hx3) _) _ | exact blk_alloc (blk_alloc (blk_alloc (hx3) _) _) _
                have hy4 : W4.heap[w1.heap.size + 1]? = some (.cells #[.int .i64 room, .bool false, .slice Am L.length cm] 37 (0, 0)) := by rw [hW4]; first | exact hy3 | exact blk_alloc (hy3) _ | exact blk_alloc (blk_alloc (hy3) _) _ | exact blk_alloc (blk_alloc (blk_alloc (hy3) _) _) _
                have hq4 : W4.heap[wr.heap.size]? = some (.cells #[.int .u8 0, .string s] 39 (0, 0)) := by rw [hW4]; first | exact hq3 | exact blk_alloc (hq3) _ | exact blk_alloc (blk_alloc (hq3) _) _ | exact blk_alloc (blk_alloc (blk_alloc (hq3) _) _) _
                have hg4 : W4.heap[g]? = some (.cells #[.int .i64 room, .bool false, .slice A L.length c] 24 (0, 0)) := by rw [hW4]; first | exact hg3 | exact blk_alloc (hg3) _ | exact blk_alloc (blk_alloc (hg3) _) _ | exact blk_alloc (blk_alloc (blk_alloc (hg3) _) _) _
                have hB4 : Below w.heap.size w W4 := by rw [hW4]; first | exact hB3 | exact below_alloc (hB3) _ | exact below_alloc (below_alloc (hB3) _) _ | exact below_alloc (below_alloc (below_alloc (hB3) _) _) _
                have HV4 := Lib.hid (show WireV W4 (.slice A L.length c) L from by rw [hW4]; first | exact HV3.out | exact HV3.out.below (below_alloc (Below.refl _ _) _) | exact HV3.out.below (below_alloc (below_alloc (Below.refl _ _) _) _) | exact HV3.out.below (below_alloc (below_alloc (below_alloc (Below.refl _ _) _) _) _))
                have HR4 := Lib.hid (show RefV W4 (.slice Am L.length cm) L from by rw [hW4]; first | exact HR3.out | exact HR3.out.below (below_alloc (Below.refl _ _) _) | exact HR3.out.below (below_alloc (below_alloc (Below.refl _ _) _) _) | exact HR3.out.below (below_alloc (below_alloc (below_alloc (Below.refl _ _) _) _) _))
                clear hW4
                clear tx zx0 fx0 zx1 fx1 zx2 fx2 ty zy0 fy0 zy1 fy1 zy2 fy2 tq zq0 fq0 zq1 fq1 tg zg0 fg0 zg1 fg1 zg2 fg2
                refine (push_ok room _ L s _ HV4.out hroom h2).mono ?_
                rintro e' w5 ⟨v4, rfl, hV4, hb⟩
                have hx5 := blk_below hx4 hb
                have hy5 := blk_below hy4 hb
                have hq5 := blk_below hq4 hb
                have hg5 := blk_below hg4 hb
                have hB5 := below_call hB4 hb
                have HV5 := Lib.hid (HV4.out.below hb)
                have HR5 := Lib.hid (HR4.out.below hb)
                obtain ⟨A4, c4, rfl⟩ := wire_len hV4 (L.length + 1) (by simp)
                have HN5 := Lib.hid hV4
                clear hV4
                have tx := blk_lt hx5
                have zx0 : w5.cell? ⟨w1.heap.size, 0, none⟩ = some (.int .i64 room) := (blk_cell hx5 0).trans rfl
                have fx0 := blk_frozen hx5 0
                have zx1 : w5.cell? ⟨w1.heap.size, 1, none⟩ = some (.bool false) := (blk_cell hx5 1).trans rfl
                have fx1 := blk_frozen hx5 1
                have zx2 : w5.cell? ⟨w1.heap.size, 2, none⟩ = some (.slice A L.length c) := (blk_cell hx5 2).trans rfl
                have fx2 := blk_frozen hx5 2
                have ty := blk_lt hy5
                have zy0 : w5.cell? ⟨w1.heap.size + 1, 0, none⟩ = some (.int .i64 room) := (blk_cell hy5 0).trans rfl
                have fy0 := blk_frozen hy5 0
                have zy1 : w5.cell? ⟨w1.heap.size + 1, 1, none⟩ = some (.bool false) := (blk_cell hy5 1).trans rfl
                have fy1 := blk_frozen hy5 1
                have zy2 : w5.cell? ⟨w1.heap.size + 1, 2, none⟩ = some (.slice Am L.length cm) := (blk_cell hy5 2).trans rfl
                have fy2 := blk_frozen hy5 2
                have tq := blk_lt hq5
                have zq0 : w5.cell? ⟨wr.heap.size, 0, none⟩ = some (.int .u8 0) := (blk_cell hq5 0).trans rfl
                have fq0 := blk_frozen hq5 0
                have zq1 : w5.cell? ⟨wr.heap.size, 1, none⟩ = some (.string s) := (blk_cell hq5 1).trans rfl
                have fq1 := blk_frozen hq5 1
                have tg := blk_lt hg5
                have zg0 : w5.cell? ⟨g, 0, none⟩ = some (.int .i64 room) := (blk_cell hg5 0).trans rfl
                have fg0 := blk_frozen hg5 0
                have zg1 : w5.cell? ⟨g, 1, none⟩ = some (.bool false) := (blk_cell hg5 1).trans rfl
                have fg1 := blk_frozen hg5 1
                have zg2 : w5.cell? ⟨g, 2, none⟩ = some (.slice A L.length c) := (blk_cell hg5 2).trans rfl
                have fg2 := blk_frozen hg5 2
                go_wp2_with fail
                refine calls_W (fun W6 hW6 => ?_)
                have hx6 : W6.heap[w1.heap.size]? = some (.cells #[.int .i64 room, .bool false, .slice A L.length c] 24 (0, 0)) := by rw [hW6]; first | exact hx5 | exact blk_alloc (hx5) _ | exact blk_alloc (blk_alloc (hx5) _) _ | exact blk_alloc (blk_alloc (blk_alloc (hx5) _) _) _
                have hy6 : W6.heap[w1.heap.size + 1]? = some (.cells #[.int .i64 room, .bool false, .slice Am L.length cm] 37 (0, 0)) := by rw [hW6]; first | exact hy5 | exact blk_alloc (hy5) _ | exact blk_alloc (blk_alloc (hy5) _) _ | exact blk_alloc (blk_alloc (blk_alloc (hy5) _) _) _
                have hq6 : W6.heap[wr.heap.size]? = some (.cells #[.int .u8 0, .string s] 39 (0, 0)) := by rw [hW6]; first | exact hq5 | exact blk_alloc (hq5) _ | exact blk_alloc (blk_alloc (hq5) _) _ | exact blk_alloc (blk_alloc (blk_alloc (hq5) _) _) _
                have hg6 : W6.heap[g]? = some (.cells #[.int .i64 room, .bool false, .slice A L.length c] 24 (0, 0)) := by rw [hW6]; first | exact hg5 | exact blk_alloc (hg5) _ | exact blk_alloc (blk_alloc (hg5) _) _ | exact blk_alloc (blk_alloc (blk_alloc (hg5) _) _) _
                have hB6 : Below w.heap.size w W6 := by rw [hW6]; first | exact hB5 | exact below_alloc (hB5) _ | exact below_alloc (below_alloc (hB5) _) _ | exact below_alloc (below_alloc (below_alloc (hB5) _) _) _
                have HV6 := Lib.hid (show WireV W6 (.slice A L.length c) L from by rw [hW6]; first | exact HV5.out | exact HV5.out.below (below_alloc (Below.refl _ _) _) | exact HV5.out.below (below_alloc (below_alloc (Below.refl _ _) _) _) | exact HV5.out.below (below_alloc (below_alloc (below_alloc (Below.refl _ _) _) _) _))
                have HN6 := Lib.hid (show WireV W6 (.slice A4 (L.length + 1) c4) (L ++ [s]) from by rw [hW6]; first | exact HN5.out | exact HN5.out.below (below_alloc (Below.refl _ _) _) | exact HN5.out.below (below_alloc (below_alloc (Below.refl _ _) _) _) | exact HN5.out.below (below_alloc (below_alloc (below_alloc (Below.refl _ _) _) _) _))
                have HR6 := Lib.hid (show RefV W6 (.slice Am L.length cm) L from by rw [hW6]; first | exact HR5.out | exact HR5.out.below (below_alloc (Below.refl _ _) _) | exact HR5.out.below (below_alloc (below_alloc (Below.refl _ _) _) _) | exact HR5.out.below (below_alloc (below_alloc (below_alloc (Below.refl _ _) _) _) _))
                have hu6 : W6.heap[w5.heap.size]? = some (.cells #[.int .i64 room, .bool false, .slice A4 (L.length + 1) c4] 24 (0, 0)) := by rw [hW6]; exact blk_new _ _
                clear hW6
                clear tx zx0 fx0 zx1 fx1 zx2 fx2 ty zy0 fy0 zy1 fy1 zy2 fy2 tq zq0 fq0 zq1 fq1 tg zg0 fg0 zg1 fg1 zg2 fg2
                refine (rpush_ok room _ L s _ HR6.out hroom h2).mono ?_
                rintro e' w7 ⟨u6, rfl, hR6, hb⟩
                have hx7 := blk_below hx6 hb
                have hy7 := blk_below hy6 hb
                have hq7 := blk_below hq6 hb
                have hg7 := blk_below hg6 hb
                have hu7 := blk_below hu6 hb
                have hB7 := below_call hB6 hb
                have HV7 := Lib.hid (HV6.out.below hb)
                have HN7 := Lib.hid (HN6.out.below hb)
                have HR7 := Lib.hid (HR6.out.below hb)
                obtain ⟨A6, c6, rfl⟩ := ref_len hR6 (L.length + 1) (by simp)
                have HM7 := Lib.hid hR6
                clear hR6
                have tx := blk_lt hx7
                have zx0 : w7.cell? ⟨w1.heap.size, 0, none⟩ = some (.int .i64 room) := (blk_cell hx7 0).trans rfl
                have fx0 := blk_frozen hx7 0
                have zx1 : w7.cell? ⟨w1.heap.size, 1, none⟩ = some (.bool false) := (blk_cell hx7 1).trans rfl
                have fx1 := blk_frozen hx7 1
                have zx2 : w7.cell? ⟨w1.heap.size, 2, none⟩ = some (.slice A L.length c) := (blk_cell hx7 2).trans rfl
                have fx2 := blk_frozen hx7 2
                have ty := blk_lt hy7
                have zy0 : w7.cell? ⟨w1.heap.size + 1, 0, none⟩ = some (.int .i64 room) := (blk_cell hy7 0).trans rfl
                have fy0 := blk_frozen hy7 0
                have zy1 : w7.cell? ⟨w1.heap.size + 1, 1, none⟩ = some (.bool false) := (blk_cell hy7 1).trans rfl
                have fy1 := blk_frozen hy7 1
                have zy2 : w7.cell? ⟨w1.heap.size + 1, 2, none⟩ = some (.slice Am L.length cm) := (blk_cell hy7 2).trans rfl
                have fy2 := blk_frozen hy7 2
                have tq := blk_lt hq7
                have zq0 : w7.cell? ⟨wr.heap.size, 0, none⟩ = some (.int .u8 0) := (blk_cell hq7 0).trans rfl
                have fq0 := blk_frozen hq7 0
                have zq1 : w7.cell? ⟨wr.heap.size, 1, none⟩ = some (.string s) := (blk_cell hq7 1).trans rfl
                have fq1 := blk_frozen hq7 1
                have tg := blk_lt hg7
                have zg0 : w7.cell? ⟨g, 0, none⟩ = some (.int .i64 room) := (blk_cell hg7 0).trans rfl
                have fg0 := blk_frozen hg7 0
                have zg1 : w7.cell? ⟨g, 1, none⟩ = some (.bool false) := (blk_cell hg7 1).trans rfl
                have fg1 := blk_frozen hg7 1
                have zg2 : w7.cell? ⟨g, 2, none⟩ = some (.slice A L.length c) := (blk_cell hg7 2).trans rfl
                have fg2 := blk_frozen hg7 2
                have tu := blk_lt hu7
                have zu0 : w7.cell? ⟨w5.heap.size, 0, none⟩ = some (.int .i64 room) := (blk_cell hu7 0).trans rfl
                have fu0 := blk_frozen hu7 0
                have zu1 : w7.cell? ⟨w5.heap.size, 1, none⟩ = some (.bool false) := (blk_cell hu7 1).trans rfl
                have fu1 := blk_frozen hu7 1
                have zu2 : w7.cell? ⟨w5.heap.size, 2, none⟩ = some (.slice A4 (L.length + 1) c4) := (blk_cell hu7 2).trans rfl
                have fu2 := blk_frozen hu7 2
                go_wp2_with fail
                refine wi_W (fun W8 hW8 => ?_)
                have hx8 : W8.heap[w1.heap.size]? = some (.cells #[.int .i64 room, .bool false, .slice A L.length c] 24 (0, 0)) := by rw [hW8]; first | exact hx7 | exact blk_alloc (hx7) _ | exact blk_alloc (blk_alloc (hx7) _) _ | exact blk_alloc (blk_alloc (blk_alloc (hx7) _) _) _
                have hy8 : W8.heap[w1.heap.size + 1]? = some (.cells #[.int .i64 room, .bool false, .slice Am L.length cm] 37 (0, 0)) := by rw [hW8]; first | exact hy7 | exact blk_alloc (hy7) _ | exact blk_alloc (blk_alloc (hy7) _) _ | exact blk_alloc (blk_alloc (blk_alloc (hy7) _) _) _
                have hq8 : W8.heap[wr.heap.size]? = some (.cells #[.int .u8 0, .string s] 39 (0, 0)) := by rw [hW8]; first | exact hq7 | exact blk_alloc (hq7) _ | exact blk_alloc (blk_alloc (hq7) _) _ | exact blk_alloc (blk_alloc (blk_alloc (hq7) _) _) _
                have hg8 : W8.heap[g]? = some (.cells #[.int .i64 room, .bool false, .slice A L.length c] 24 (0, 0)) := by rw [hW8]; first | exact hg7 | exact blk_alloc (hg7) _ | exact blk_alloc (blk_alloc (hg7) _) _ | exact blk_alloc (blk_alloc (blk_alloc (hg7) _) _) _
                have hu8 : W8.heap[w5.heap.size]? = some (.cells #[.int .i64 room, .bool false, .slice A4 (L.length + 1) c4] 24 (0, 0)) := by rw [hW8]; first | exact hu7 | exact blk_alloc (hu7) _ | exact blk_alloc (blk_alloc (hu7) _) _ | exact blk_alloc (blk_alloc (blk_alloc (hu7) _) _) _
                have hB8 : Below w.heap.size w W8 := by rw [hW8]; first | exact hB7 | exact below_alloc (hB7) _ | exact below_alloc (below_alloc (hB7) _) _ | exact below_alloc (below_alloc (below_alloc (hB7) _) _) _
                have HV8 := Lib.hid (show WireV W8 (.slice A L.length c) L from by rw [hW8]; first | exact HV7.out | exact HV7.out.below (below_alloc (Below.refl _ _) _) | exact HV7.out.below (below_alloc (below_alloc (Below.refl _ _) _) _) | exact HV7.out.below (below_alloc (below_alloc (below_alloc (Below.refl _ _) _) _) _))
                have HN8 := Lib.hid (show WireV W8 (.slice A4 (L.length + 1) c4) (L ++ [s]) from by rw [hW8]; first | exact HN7.out | exact HN7.out.below (below_alloc (Below.refl _ _) _) | exact HN7.out.below (below_alloc (below_alloc (Below.refl _ _) _) _) | exact HN7.out.below (below_alloc (below_alloc (below_alloc (Below.refl _ _) _) _) _))
                have HR8 := Lib.hid (show RefV W8 (.slice Am L.length cm) L from by rw [hW8]; first | exact HR7.out | exact HR7.out.below (below_alloc (Below.refl _ _) _) | exact HR7.out.below (below_alloc (below_alloc (Below.refl _ _) _) _) | exact HR7.out.below (below_alloc (below_alloc (below_alloc (Below.refl _ _) _) _) _))
                have HM8 := Lib.hid (show RefV W8 (.slice A6 (L.length + 1) c6) (L ++ [s]) from by rw [hW8]; first | exact HM7.out | exact HM7.out.below (below_alloc (Below.refl _ _) _) | exact HM7.out.below (below_alloc (below_alloc (Below.refl _ _) _) _) | exact HM7.out.below (below_alloc (below_alloc (below_alloc (Below.refl _ _) _) _) _))
                have he8 : W8.heap[w7.heap.size]? = some (.cells #[.int .i64 room, .bool false, .slice A6 (L.length + 1) c6] 37 (0, 0)) := by rw [hW8]; exact blk_new _ _
                clear hW8
                clear tx zx0 fx0 zx1 fx1 zx2 fx2 ty zy0 fy0 zy1 fy1 zy2 fy2 tq zq0 fq0 zq1 fq1 tg zg0 fg0 zg1 fg1 zg2 fg2 tu zu0 fu0 zu1 fu1 zu2 fu2
                have tx := blk_lt hx8
                have zx0 : W8.cell? ⟨w1.heap.size, 0, none⟩ = some (.int .i64 room) := (blk_cell hx8 0).trans rfl
                have fx0 := blk_frozen hx8 0
                have zx1 : W8.cell? ⟨w1.heap.size, 1, none⟩ = some (.bool false) := (blk_cell hx8 1).trans rfl
                have fx1 := blk_frozen hx8 1
                have zx2 : W8.cell? ⟨w1.heap.size, 2, none⟩ = some (.slice A L.length c) := (blk_cell hx8 2).trans rfl
                have fx2 := blk_frozen hx8 2
                have ty := blk_lt hy8
                have zy0 : W8.cell? ⟨w1.heap.size + 1, 0, none⟩ = some (.int .i64 room) := (blk_cell hy8 0).trans rfl
                have fy0 := blk_frozen hy8 0
                have zy1 : W8.cell? ⟨w1.heap.size + 1, 1, none⟩ = some (.bool false) := (blk_cell hy8 1).trans rfl
                have fy1 := blk_frozen hy8 1
                have zy2 : W8.cell? ⟨w1.heap.size + 1, 2, none⟩ = some (.slice Am L.length cm) := (blk_cell hy8 2).trans rfl
                have fy2 := blk_frozen hy8 2
                have tq := blk_lt hq8
                have zq0 : W8.cell? ⟨wr.heap.size, 0, none⟩ = some (.int .u8 0) := (blk_cell hq8 0).trans rfl
                have fq0 := blk_frozen hq8 0
                have zq1 : W8.cell? ⟨wr.heap.size, 1, none⟩ = some (.string s) := (blk_cell hq8 1).trans rfl
                have fq1 := blk_frozen hq8 1
                have tg := blk_lt hg8
                have zg0 : W8.cell? ⟨g, 0, none⟩ = some (.int .i64 room) := (blk_cell hg8 0).trans rfl
                have fg0 := blk_frozen hg8 0
                have zg1 : W8.cell? ⟨g, 1, none⟩ = some (.bool false) := (blk_cell hg8 1).trans rfl
                have fg1 := blk_frozen hg8 1
                have zg2 : W8.cell? ⟨g, 2, none⟩ = some (.slice A L.length c) := (blk_cell hg8 2).trans rfl
                have fg2 := blk_frozen hg8 2
                have tu := blk_lt hu8
                have zu0 : W8.cell? ⟨w5.heap.size, 0, none⟩ = some (.int .i64 room) := (blk_cell hu8 0).trans rfl
                have fu0 := blk_frozen hu8 0
                have zu1 : W8.cell? ⟨w5.heap.size, 1, none⟩ = some (.bool false) := (blk_cell hu8 1).trans rfl
                have fu1 := blk_frozen hu8 1
                have zu2 : W8.cell? ⟨w5.heap.size, 2, none⟩ = some (.slice A4 (L.length + 1) c4) := (blk_cell hu8 2).trans rfl
                have fu2 := blk_frozen hu8 2
                have te := blk_lt he8
                have ze0 : W8.cell? ⟨w7.heap.size, 0, none⟩ = some (.int .i64 room) := (blk_cell he8 0).trans rfl
                have fe0 := blk_frozen he8 0
                have ze1 : W8.cell? ⟨w7.heap.size, 1, none⟩ = some (.bool false) := (blk_cell he8 1).trans rfl
                have fe1 := blk_frozen he8 1
                have ze2 : W8.cell? ⟨w7.heap.size, 2, none⟩ = some (.slice A6 (L.length + 1) c6) := (blk_cell he8 2).trans rfl
                have fe2 := blk_frozen he8 2
                have na0 := Nat.ne_of_lt (blk_lt hx7)
                have nb0 := Nat.ne_of_gt (blk_lt hx7)
                have na1 := Nat.ne_of_lt (blk_lt hy7)
                have nb1 := Nat.ne_of_gt (blk_lt hy7)
                have na2 := Nat.ne_of_lt (blk_lt hu7)
                have nb2 := Nat.ne_of_gt (blk_lt hu7)
                have na3 := Nat.ne_of_lt (blk_lt hx5)
                have nb3 := Nat.ne_of_gt (blk_lt hx5)
                have na4 := Nat.ne_of_lt (blk_lt hy5)
                have nb4 := Nat.ne_of_gt (blk_lt hy5)
                refine wi_A (fun a1 ha1 => ?_)
                rename_i K2 hK2
                have key2 : ∀ W9 : World, W9 = ((((((W8.setCell ⟨w1.heap.size, 0, none⟩ (.int .i64 room)).setCell ⟨w1.heap.size, 1, none⟩ (.bool false)).setCell ⟨w1.heap.size, 2, none⟩ (.slice A4 (L.length + 1) c4)).setCell ⟨w1.heap.size + 1, 0, none⟩ (.int .i64 room)).setCell ⟨w1.heap.size + 1, 1, none⟩ (.bool false)).setCell ⟨w1.heap.size + 1, 2, none⟩ (.slice A6 (L.length + 1) c6)).drew → K2 ((a1.put (some 95) (.agg #[.int .i64 room, .bool false, .slice A4 (L.length + 1) c4])).put (some 96) (.agg #[.int .i64 room, .bool false, .slice A6 (L.length + 1) c6])) W9 := by
                  intro W9 hW9
                  subst ha1
                  obtain ⟨hxa, hBa, hTa, hNa⟩ := box_store hx8 hs1 hB8 (.int .i64 room) (.bool false) (.slice A4 (L.length + 1) c4) _ rfl
                  have hRa := ref24 hx8 (.int .i64 room) (.bool false) (.slice A4 (L.length + 1) c4) rfl _ _ HM8.out
                  have hTa := hTa _ _ HN8.out
                  have hya := hNa _ _ _ (by omega) hy8
                  have hqa := hNa _ _ _ (by omega) hq8
                  have hga := hNa _ _ _ (by omega) hg8
                  obtain ⟨hyb, hBb, hTb, hUb, hNb⟩ := box37 hya (by omega) hBa (.int .i64 room) (.bool false) (.slice A6 (L.length + 1) c6) _ rfl
                  have hxb := hNb _ _ _ (by omega) hxa
                  have hqb := hNb _ _ _ (by omega) hqa
                  have hgb := hNb _ _ _ (by omega) hga
                  have hx9 : W9.heap[w1.heap.size]? = some (.cells #[.int .i64 room, .bool false, .slice A4 (L.length + 1) c4] 24 (0, 0)) := by rw [hW9]; exact blk_drew hxb
                  have hy9 : W9.heap[w1.heap.size + 1]? = some (.cells #[.int .i64 room, .bool false, .slice A6 (L.length + 1) c6] 37 (0, 0)) := by rw [hW9]; exact blk_drew hyb
                  have hq9 : W9.heap[wr.heap.size]? = some (.cells #[.int .u8 0, .string s] 39 (0, 0)) := by rw [hW9]; exact blk_drew hqb
                  have hg9 : W9.heap[g]? = some (.cells #[.int .i64 room, .bool false, .slice A L.length c] 24 (0, 0)) := by rw [hW9]; exact blk_drew hgb
                  have hB9 : Below w.heap.size w W9 := by rw [hW9]; exact below_drew1 hBb
                  have HV9 := Lib.hid (show WireV W9 (.slice A4 (L.length + 1) c4) (L ++ [s]) from by rw [hW9]; exact (hTb _ _ hTa).below (below_drew1 (Below.refl _ _)))
                  have HR9 := Lib.hid (show RefV W9 (.slice A6 (L.length + 1) c6) (L ++ [s]) from by rw [hW9]; exact (hUb _ _ hRa).below (below_drew1 (Below.refl _ _)))
                  clear hW9 hxa hBa hTa hNa hRa hya hqa hga hyb hBb hTb hUb hNb hxb hqb hgb
                  clear tx zx0 fx0 zx1 fx1 zx2 fx2 ty zy0 fy0 zy1 fy1 zy2 fy2 tq zq0 fq0 zq1 fq1 tg zg0 fg0 zg1 fg1 zg2 fg2 tu zu0 fu0 zu1 fu1 zu2 fu2 te ze0 fe0 ze1 fe1 ze2 fe2
                  refine hK2 _ _ ?_
                  go_simp
                  have tx := blk_lt hx9
                  have zx0 : W9.cell? ⟨w1.heap.size, 0, none⟩ = some (.int .i64 room) := (blk_cell hx9 0).trans rfl
                  have fx0 := blk_frozen hx9 0
                  have zx1 : W9.cell? ⟨w1.heap.size, 1, none⟩ = some (.bool false) := (blk_cell hx9 1).trans rfl
                  have fx1 := blk_frozen hx9 1
                  have zx2 : W9.cell? ⟨w1.heap.size, 2, none⟩ = some (.slice A4 (L.length + 1) c4) := (blk_cell hx9 2).trans rfl
                  have fx2 := blk_frozen hx9 2
                  have ty := blk_lt hy9
                  have zy0 : W9.cell? ⟨w1.heap.size + 1, 0, none⟩ = some (.int .i64 room) := (blk_cell hy9 0).trans rfl
                  have fy0 := blk_frozen hy9 0
                  have zy1 : W9.cell? ⟨w1.heap.size + 1, 1, none⟩ = some (.bool false) := (blk_cell hy9 1).trans rfl
                  have fy1 := blk_frozen hy9 1
                  have zy2 : W9.cell? ⟨w1.heap.size + 1, 2, none⟩ = some (.slice A6 (L.length + 1) c6) := (blk_cell hy9 2).trans rfl
                  have fy2 := blk_frozen hy9 2
                  have tq := blk_lt hq9
                  have zq0 : W9.cell? ⟨wr.heap.size, 0, none⟩ = some (.int .u8 0) := (blk_cell hq9 0).trans rfl
                  have fq0 := blk_frozen hq9 0
                  have zq1 : W9.cell? ⟨wr.heap.size, 1, none⟩ = some (.string s) := (blk_cell hq9 1).trans rfl
                  have fq1 := blk_frozen hq9 1
                  have tg := blk_lt hg9
                  have zg0 : W9.cell? ⟨g, 0, none⟩ = some (.int .i64 room) := (blk_cell hg9 0).trans rfl
                  have fg0 := blk_frozen hg9 0
                  have zg1 : W9.cell? ⟨g, 1, none⟩ = some (.bool false) := (blk_cell hg9 1).trans rfl
                  have fg1 := blk_frozen hg9 1
                  have zg2 : W9.cell? ⟨g, 2, none⟩ = some (.slice A L.length c) := (blk_cell hg9 2).trans rfl
                  have fg2 := blk_frozen hg9 2
                  go_wp2_with fail
                  exact tk.out _ _ _ _ _ _ _ _ _ _ _ _ _ _ _ _ _ _ _ _ _ _ _ _ _ _ _ _ _ _ _ _ _ _ _ _ _ _ _ _ _ _ _ _ _ _ _ _ _ _ _ _ _ _ _ _ _ _ _ _ _ _ _ _ _ _ _ _ _ _ _ _ _ _ _ hx9 hy9 hg9 hB9 HV9.out HR9.out (by simp; omega)
                subst ha1
                go_region_with fail
                all_goals exact key2 _ rfl
            · by_cases ha1 : a = 1
              · subst ha1
                by_cases hnil : L = []
                · skip
                  obtain rfl : L = [] := hnil
                  simp only [List.length_nil] at *
                  have tx := blk_lt hx3
                  have zx0 : W3.cell? ⟨w1.heap.size, 0, none⟩ = some (.int .i64 room) := (blk_cell hx3 0).trans rfl
                  have fx0 := blk_frozen hx3 0
                  have zx1 : W3.cell? ⟨w1.heap.size, 1, none⟩ = some (.bool d) := (blk_cell hx3 1).trans rfl
                  have fx1 := blk_frozen hx3 1
                  have zx2 : W3.cell? ⟨w1.heap.size, 2, none⟩ = some (.slice A 0 c) := (blk_cell hx3 2).trans rfl
                  have fx2 := blk_frozen hx3 2
                  have ty := blk_lt hy3
                  have zy0 : W3.cell? ⟨w1.heap.size + 1, 0, none⟩ = some (.int .i64 room) := (blk_cell hy3 0).trans rfl
                  have fy0 := blk_frozen hy3 0
                  have zy1 : W3.cell? ⟨w1.heap.size + 1, 1, none⟩ = some (.bool d) := (blk_cell hy3 1).trans rfl
                  have fy1 := blk_frozen hy3 1
                  have zy2 : W3.cell? ⟨w1.heap.size + 1, 2, none⟩ = some (.slice Am 0 cm) := (blk_cell hy3 2).trans rfl
                  have fy2 := blk_frozen hy3 2
                  have tq := blk_lt hq3
                  have zq0 : W3.cell? ⟨wr.heap.size, 0, none⟩ = some (.int .u8 1) := (blk_cell hq3 0).trans rfl
                  have fq0 := blk_frozen hq3 0
                  have zq1 : W3.cell? ⟨wr.heap.size, 1, none⟩ = some (.string s) := (blk_cell hq3 1).trans rfl
                  have fq1 := blk_frozen hq3 1
                  have tg := blk_lt hg3
                  have zg0 : W3.cell? ⟨g, 0, none⟩ = some (.int .i64 room) := (blk_cell hg3 0).trans rfl
                  have fg0 := blk_frozen hg3 0
                  have zg1 : W3.cell? ⟨g, 1, none⟩ = some (.bool d) := (blk_cell hg3 1).trans rfl
                  have fg1 := blk_frozen hg3 1
                  have zg2 : W3.cell? ⟨g, 2, none⟩ = some (.slice A 0 c) := (blk_cell hg3 2).trans rfl
                  have fg2 := blk_frozen hg3 2
                  go_wp2_with fail
                  refine calls_W (fun W4 hW4 => ?_)
                  have hx4 : W4.heap[w1.heap.size]? = some (.cells #[.int .i64 room, .bool d, .slice A 0 c] 24 (0, 0)) := by rw [hW4]; first | exact hx3 | exact blk_alloc (hx3) _ | exact blk_alloc (blk_alloc (hx3) _) _ | exact blk_alloc (blk_alloc (blk_alloc (hx3) _) _) _
                  have hy4 : W4.heap[w1.heap.size + 1]? = some (.cells #[.int .i64 room, .bool d, .slice Am 0 cm] 37 (0, 0)) := by rw [hW4]; first | exact hy3 | exact blk_alloc (hy3) _ | exact blk_alloc (blk_alloc (hy3) _) _ | exact blk_alloc (blk_alloc (blk_alloc (hy3) _) _) _
                  have hq4 : W4.heap[wr.heap.size]? = some (.cells #[.int .u8 1, .string s] 39 (0, 0)) := by rw [hW4]; first | exact hq3 | exact blk_alloc (hq3) _ | exact blk_alloc (blk_alloc (hq3) _) _ | exact blk_alloc (blk_alloc (blk_alloc (hq3) _) _) _
                  have hg4 : W4.heap[g]? = some (.cells #[.int .i64 room, .bool d, .slice A 0 c] 24 (0, 0)) := by rw [hW4]; first | exact hg3 | exact blk_alloc (hg3) _ | exact blk_alloc (blk_alloc (hg3) _) _ | exact blk_alloc (blk_alloc (blk_alloc (hg3) _) _) _
                  have hB4 : Below w.heap.size w W4 := by rw [hW4]; first | exact hB3 | exact below_alloc (hB3) _ | exact below_alloc (below_alloc (hB3) _) _ | exact below_alloc (below_alloc (below_alloc (hB3) _) _) _
                  have HV4 := Lib.hid (show WireV W4 (.slice A 0 c) [] from by rw [hW4]; first | exact HV3.out | exact HV3.out.below (below_alloc (Below.refl _ _) _) | exact HV3.out.below (below_alloc (below_alloc (Below.refl _ _) _) _) | exact HV3.out.below (below_alloc (below_alloc (below_alloc (Below.refl _ _) _) _) _))
                  have HR4 := Lib.hid (show RefV W4 (.slice Am 0 cm) [] from by rw [hW4]; first | exact HR3.out | exact HR3.out.below (below_alloc (Below.refl _ _) _) | exact HR3.out.below (below_alloc (below_alloc (Below.refl _ _) _) _) | exact HR3.out.below (below_alloc (below_alloc (below_alloc (Below.refl _ _) _) _) _))
                  clear hW4
                  clear tx zx0 fx0 zx1 fx1 zx2 fx2 ty zy0 fy0 zy1 fy1 zy2 fy2 tq zq0 fq0 zq1 fq1 tg zg0 fg0 zg1 fg1 zg2 fg2
                  refine (pop_nil room d _ _ HV4.out).mono ?_
                  rintro e' w5 ⟨rfl, hb⟩
                  have hx5 := blk_below hx4 hb
                  have hy5 := blk_below hy4 hb
                  have hq5 := blk_below hq4 hb
                  have hg5 := blk_below hg4 hb
                  have hB5 := below_call hB4 hb
                  have HV5 := Lib.hid (HV4.out.below hb)
                  have HR5 := Lib.hid (HR4.out.below hb)
                  have tx := blk_lt hx5
                  have zx0 : w5.cell? ⟨w1.heap.size, 0, none⟩ = some (.int .i64 room) := (blk_cell hx5 0).trans rfl
                  have fx0 := blk_frozen hx5 0
                  have zx1 : w5.cell? ⟨w1.heap.size, 1, none⟩ = some (.bool d) := (blk_cell hx5 1).trans rfl
                  have fx1 := blk_frozen hx5 1
                  have zx2 : w5.cell? ⟨w1.heap.size, 2, none⟩ = some (.slice A 0 c) := (blk_cell hx5 2).trans rfl
                  have fx2 := blk_frozen hx5 2
                  have ty := blk_lt hy5
                  have zy0 : w5.cell? ⟨w1.heap.size + 1, 0, none⟩ = some (.int .i64 room) := (blk_cell hy5 0).trans rfl
                  have fy0 := blk_frozen hy5 0
                  have zy1 : w5.cell? ⟨w1.heap.size + 1, 1, none⟩ = some (.bool d) := (blk_cell hy5 1).trans rfl
                  have fy1 := blk_frozen hy5 1
                  have zy2 : w5.cell? ⟨w1.heap.size + 1, 2, none⟩ = some (.slice Am 0 cm) := (blk_cell hy5 2).trans rfl
                  have fy2 := blk_frozen hy5 2
                  have tq := blk_lt hq5
                  have zq0 : w5.cell? ⟨wr.heap.size, 0, none⟩ = some (.int .u8 1) := (blk_cell hq5 0).trans rfl
                  have fq0 := blk_frozen hq5 0
                  have zq1 : w5.cell? ⟨wr.heap.size, 1, none⟩ = some (.string s) := (blk_cell hq5 1).trans rfl
                  have fq1 := blk_frozen hq5 1
                  have tg := blk_lt hg5
                  have zg0 : w5.cell? ⟨g, 0, none⟩ = some (.int .i64 room) := (blk_cell hg5 0).trans rfl
                  have fg0 := blk_frozen hg5 0
                  have zg1 : w5.cell? ⟨g, 1, none⟩ = some (.bool d) := (blk_cell hg5 1).trans rfl
                  have fg1 := blk_frozen hg5 1
                  have zg2 : w5.cell? ⟨g, 2, none⟩ = some (.slice A 0 c) := (blk_cell hg5 2).trans rfl
                  have fg2 := blk_frozen hg5 2
                  go_wp2_with fail
                  refine calls_W (fun W6 hW6 => ?_)
                  have hx6 : W6.heap[w1.heap.size]? = some (.cells #[.int .i64 room, .bool d, .slice A 0 c] 24 (0, 0)) := by rw [hW6]; first | exact hx5 | exact blk_alloc (hx5) _ | exact blk_alloc (blk_alloc (hx5) _) _ | exact blk_alloc (blk_alloc (blk_alloc (hx5) _) _) _
                  have hy6 : W6.heap[w1.heap.size + 1]? = some (.cells #[.int .i64 room, .bool d, .slice Am 0 cm] 37 (0, 0)) := by rw [hW6]; first | exact hy5 | exact blk_alloc (hy5) _ | exact blk_alloc (blk_alloc (hy5) _) _ | exact blk_alloc (blk_alloc (blk_alloc (hy5) _) _) _
                  have hq6 : W6.heap[wr.heap.size]? = some (.cells #[.int .u8 1, .string s] 39 (0, 0)) := by rw [hW6]; first | exact hq5 | exact blk_alloc (hq5) _ | exact blk_alloc (blk_alloc (hq5) _) _ | exact blk_alloc (blk_alloc (blk_alloc (hq5) _) _) _
                  have hg6 : W6.heap[g]? = some (.cells #[.int .i64 room, .bool d, .slice A 0 c] 24 (0, 0)) := by rw [hW6]; first | exact hg5 | exact blk_alloc (hg5) _ | exact blk_alloc (blk_alloc (hg5) _) _ | exact blk_alloc (blk_alloc (blk_alloc (hg5) _) _) _
                  have hB6 : Below w.heap.size w W6 := by rw [hW6]; first | exact hB5 | exact below_alloc (hB5) _ | exact below_alloc (below_alloc (hB5) _) _ | exact below_alloc (below_alloc (below_alloc (hB5) _) _) _
                  have HV6 := Lib.hid (show WireV W6 (.slice A 0 c) [] from by rw [hW6]; first | exact HV5.out | exact HV5.out.below (below_alloc (Below.refl _ _) _) | exact HV5.out.below (below_alloc (below_alloc (Below.refl _ _) _) _) | exact HV5.out.below (below_alloc (below_alloc (below_alloc (Below.refl _ _) _) _) _))
                  have HR6 := Lib.hid (show RefV W6 (.slice Am 0 cm) [] from by rw [hW6]; first | exact HR5.out | exact HR5.out.below (below_alloc (Below.refl _ _) _) | exact HR5.out.below (below_alloc (below_alloc (Below.refl _ _) _) _) | exact HR5.out.below (below_alloc (below_alloc (below_alloc (Below.refl _ _) _) _) _))
                  have hu6 : W6.heap[w5.heap.size]? = some (.cells #[.int .i64 room, .bool d, .slice A 0 c] 24 (0, 0)) := by rw [hW6]; exact blk_new _ _
                  clear hW6
                  clear tx zx0 fx0 zx1 fx1 zx2 fx2 ty zy0 fy0 zy1 fy1 zy2 fy2 tq zq0 fq0 zq1 fq1 tg zg0 fg0 zg1 fg1 zg2 fg2
                  refine (rpop_nilR room d _ _ HR6.out).mono ?_
                  rintro e' w7 ⟨rfl, hb⟩
                  have hx7 := blk_below hx6 hb
                  have hy7 := blk_below hy6 hb
                  have hq7 := blk_below hq6 hb
                  have hg7 := blk_below hg6 hb
                  have hu7 := blk_below hu6 hb
                  have hB7 := below_call hB6 hb
                  have HV7 := Lib.hid (HV6.out.below hb)
                  have HR7 := Lib.hid (HR6.out.below hb)
                  have tx := blk_lt hx7
                  have zx0 : w7.cell? ⟨w1.heap.size, 0, none⟩ = some (.int .i64 room) := (blk_cell hx7 0).trans rfl
                  have fx0 := blk_frozen hx7 0
                  have zx1 : w7.cell? ⟨w1.heap.size, 1, none⟩ = some (.bool d) := (blk_cell hx7 1).trans rfl
                  have fx1 := blk_frozen hx7 1
                  have zx2 : w7.cell? ⟨w1.heap.size, 2, none⟩ = some (.slice A 0 c) := (blk_cell hx7 2).trans rfl
                  have fx2 := blk_frozen hx7 2
                  have ty := blk_lt hy7
                  have zy0 : w7.cell? ⟨w1.heap.size + 1, 0, none⟩ = some (.int .i64 room) := (blk_cell hy7 0).trans rfl
                  have fy0 := blk_frozen hy7 0
                  have zy1 : w7.cell? ⟨w1.heap.size + 1, 1, none⟩ = some (.bool d) := (blk_cell hy7 1).trans rfl
                  have fy1 := blk_frozen hy7 1
                  have zy2 : w7.cell? ⟨w1.heap.size + 1, 2, none⟩ = some (.slice Am 0 cm) := (blk_cell hy7 2).trans rfl
                  have fy2 := blk_frozen hy7 2
                  have tq := blk_lt hq7
                  have zq0 : w7.cell? ⟨wr.heap.size, 0, none⟩ = some (.int .u8 1) := (blk_cell hq7 0).trans rfl
                  have fq0 := blk_frozen hq7 0
                  have zq1 : w7.cell? ⟨wr.heap.size, 1, none⟩ = some (.string s) := (blk_cell hq7 1).trans rfl
                  have fq1 := blk_frozen hq7 1
                  have tg := blk_lt hg7
                  have zg0 : w7.cell? ⟨g, 0, none⟩ = some (.int .i64 room) := (blk_cell hg7 0).trans rfl
                  have fg0 := blk_frozen hg7 0
                  have zg1 : w7.cell? ⟨g, 1, none⟩ = some (.bool d) := (blk_cell hg7 1).trans rfl
                  have fg1 := blk_frozen hg7 1
                  have zg2 : w7.cell? ⟨g, 2, none⟩ = some (.slice A 0 c) := (blk_cell hg7 2).trans rfl
                  have fg2 := blk_frozen hg7 2
                  have tu := blk_lt hu7
                  have zu0 : w7.cell? ⟨w5.heap.size, 0, none⟩ = some (.int .i64 room) := (blk_cell hu7 0).trans rfl
                  have fu0 := blk_frozen hu7 0
                  have zu1 : w7.cell? ⟨w5.heap.size, 1, none⟩ = some (.bool d) := (blk_cell hu7 1).trans rfl
                  have fu1 := blk_frozen hu7 1
                  have zu2 : w7.cell? ⟨w5.heap.size, 2, none⟩ = some (.slice A 0 c) := (blk_cell hu7 2).trans rfl
                  have fu2 := blk_frozen hu7 2
                  go_wp2_with fail
                  refine wi_W (fun W8 hW8 => ?_)
                  have hx8 : W8.heap[w1.heap.size]? = some (.cells #[.int .i64 room, .bool d, .slice A 0 c] 24 (0, 0)) := by rw [hW8]; first | exact hx7 | exact blk_alloc (hx7) _ | exact blk_alloc (blk_alloc (hx7) _) _ | exact blk_alloc (blk_alloc (blk_alloc (hx7) _) _) _
                  have hy8 : W8.heap[w1.heap.size + 1]? = some (.cells #[.int .i64 room, .bool d, .slice Am 0 cm] 37 (0, 0)) := by rw [hW8]; first | exact hy7 | exact blk_alloc (hy7) _ | exact blk_alloc (blk_alloc (hy7) _) _ | exact blk_alloc (blk_alloc (blk_alloc (hy7) _) _) _
                  have hq8 : W8.heap[wr.heap.size]? = some (.cells #[.int .u8 1, .string s] 39 (0, 0)) := by rw [hW8]; first | exact hq7 | exact blk_alloc (hq7) _ | exact blk_alloc (blk_alloc (hq7) _) _ | exact blk_alloc (blk_alloc (blk_alloc (hq7) _) _) _
                  have hg8 : W8.heap[g]? = some (.cells #[.int .i64 room, .bool d, .slice A 0 c] 24 (0, 0)) := by rw [hW8]; first | exact hg7 | exact blk_alloc (hg7) _ | exact blk_alloc (blk_alloc (hg7) _) _ | exact blk_alloc (blk_alloc (blk_alloc (hg7) _) _) _
                  have hu8 : W8.heap[w5.heap.size]? = some (.cells #[.int .i64 room, .bool d, .slice A 0 c] 24 (0, 0)) := by rw [hW8]; first | exact hu7 | exact blk_alloc (hu7) _ | exact blk_alloc (blk_alloc (hu7) _) _ | exact blk_alloc (blk_alloc (blk_alloc (hu7) _) _) _
                  have hB8 : Below w.heap.size w W8 := by rw [hW8]; first | exact hB7 | exact below_alloc (hB7) _ | exact below_alloc (below_alloc (hB7) _) _ | exact below_alloc (below_alloc (below_alloc (hB7) _) _) _
                  have HV8 := Lib.hid (show WireV W8 (.slice A 0 c) [] from by rw [hW8]; first | exact HV7.out | exact HV7.out.below (below_alloc (Below.refl _ _) _) | exact HV7.out.below (below_alloc (below_alloc (Below.refl _ _) _) _) | exact HV7.out.below (below_alloc (below_alloc (below_alloc (Below.refl _ _) _) _) _))
                  have HR8 := Lib.hid (show RefV W8 (.slice Am 0 cm) [] from by rw [hW8]; first | exact HR7.out | exact HR7.out.below (below_alloc (Below.refl _ _) _) | exact HR7.out.below (below_alloc (below_alloc (Below.refl _ _) _) _) | exact HR7.out.below (below_alloc (below_alloc (below_alloc (Below.refl _ _) _) _) _))
                  have he8 : W8.heap[w7.heap.size]? = some (.cells #[.int .i64 room, .bool d, .slice Am 0 cm] 37 (0, 0)) := by rw [hW8]; exact blk_new _ _
                  clear hW8
                  clear tx zx0 fx0 zx1 fx1 zx2 fx2 ty zy0 fy0 zy1 fy1 zy2 fy2 tq zq0 fq0 zq1 fq1 tg zg0 fg0 zg1 fg1 zg2 fg2 tu zu0 fu0 zu1 fu1 zu2 fu2
                  have tx := blk_lt hx8
                  have zx0 : W8.cell? ⟨w1.heap.size, 0, none⟩ = some (.int .i64 room) := (blk_cell hx8 0).trans rfl
                  have fx0 := blk_frozen hx8 0
                  have zx1 : W8.cell? ⟨w1.heap.size, 1, none⟩ = some (.bool d) := (blk_cell hx8 1).trans rfl
                  have fx1 := blk_frozen hx8 1
                  have zx2 : W8.cell? ⟨w1.heap.size, 2, none⟩ = some (.slice A 0 c) := (blk_cell hx8 2).trans rfl
                  have fx2 := blk_frozen hx8 2
                  have ty := blk_lt hy8
                  have zy0 : W8.cell? ⟨w1.heap.size + 1, 0, none⟩ = some (.int .i64 room) := (blk_cell hy8 0).trans rfl
                  have fy0 := blk_frozen hy8 0
                  have zy1 : W8.cell? ⟨w1.heap.size + 1, 1, none⟩ = some (.bool d) := (blk_cell hy8 1).trans rfl
                  have fy1 := blk_frozen hy8 1
                  have zy2 : W8.cell? ⟨w1.heap.size + 1, 2, none⟩ = some (.slice Am 0 cm) := (blk_cell hy8 2).trans rfl
                  have fy2 := blk_frozen hy8 2
                  have tq := blk_lt hq8
                  have zq0 : W8.cell? ⟨wr.heap.size, 0, none⟩ = some (.int .u8 1) := (blk_cell hq8 0).trans rfl
                  have fq0 := blk_frozen hq8 0
                  have zq1 : W8.cell? ⟨wr.heap.size, 1, none⟩ = some (.string s) := (blk_cell hq8 1).trans rfl
                  have fq1 := blk_frozen hq8 1
                  have tg := blk_lt hg8
                  have zg0 : W8.cell? ⟨g, 0, none⟩ = some (.int .i64 room) := (blk_cell hg8 0).trans rfl
                  have fg0 := blk_frozen hg8 0
                  have zg1 : W8.cell? ⟨g, 1, none⟩ = some (.bool d) := (blk_cell hg8 1).trans rfl
                  have fg1 := blk_frozen hg8 1
                  have zg2 : W8.cell? ⟨g, 2, none⟩ = some (.slice A 0 c) := (blk_cell hg8 2).trans rfl
                  have fg2 := blk_frozen hg8 2
                  have tu := blk_lt hu8
                  have zu0 : W8.cell? ⟨w5.heap.size, 0, none⟩ = some (.int .i64 room) := (blk_cell hu8 0).trans rfl
                  have fu0 := blk_frozen hu8 0
                  have zu1 : W8.cell? ⟨w5.heap.size, 1, none⟩ = some (.bool d) := (blk_cell hu8 1).trans rfl
                  have fu1 := blk_frozen hu8 1
                  have zu2 : W8.cell? ⟨w5.heap.size, 2, none⟩ = some (.slice A 0 c) := (blk_cell hu8 2).trans rfl
                  have fu2 := blk_frozen hu8 2
                  have te := blk_lt he8
                  have ze0 : W8.cell? ⟨w7.heap.size, 0, none⟩ = some (.int .i64 room) := (blk_cell he8 0).trans rfl
                  have fe0 := blk_frozen he8 0
                  have ze1 : W8.cell? ⟨w7.heap.size, 1, none⟩ = some (.bool d) := (blk_cell he8 1).trans rfl
                  have fe1 := blk_frozen he8 1
                  have ze2 : W8.cell? ⟨w7.heap.size, 2, none⟩ = some (.slice Am 0 cm) := (blk_cell he8 2).trans rfl
                  have fe2 := blk_frozen he8 2
                  have na0 := Nat.ne_of_lt (blk_lt hx7)
                  have nb0 := Nat.ne_of_gt (blk_lt hx7)
                  have na1 := Nat.ne_of_lt (blk_lt hy7)
                  have nb1 := Nat.ne_of_gt (blk_lt hy7)
                  have na2 := Nat.ne_of_lt (blk_lt hu7)
                  have nb2 := Nat.ne_of_gt (blk_lt hu7)
                  have na3 := Nat.ne_of_lt (blk_lt hx5)
                  have nb3 := Nat.ne_of_gt (blk_lt hx5)
                  have na4 := Nat.ne_of_lt (blk_lt hy5)
                  have nb4 := Nat.ne_of_gt (blk_lt hy5)
                  refine wi_A (fun a1 ha1 => ?_)
                  rename_i K2 hK2
                  have key2 : ∀ W9 : World, W9 = ((((((W8.setCell ⟨w1.heap.size, 0, none⟩ (.int .i64 room)).setCell ⟨w1.heap.size, 1, none⟩ (.bool d)).setCell ⟨w1.heap.size, 2, none⟩ (.slice A 0 c)).setCell ⟨w1.heap.size + 1, 0, none⟩ (.int .i64 room)).setCell ⟨w1.heap.size + 1, 1, none⟩ (.bool d)).setCell ⟨w1.heap.size + 1, 2, none⟩ (.slice Am 0 cm)).drew → K2 ((a1.put (some 114) (.agg #[.int .i64 room, .bool d, .slice A 0 c])).put (some 115) (.agg #[.int .i64 room, .bool d, .slice Am 0 cm])) W9 := by
                    intro W9 hW9
                    subst ha1
                    obtain ⟨hxa, hBa, hTa, hNa⟩ := box_store hx8 hs1 hB8 (.int .i64 room) (.bool d) (.slice A 0 c) _ rfl
                    have hRa := ref24 hx8 (.int .i64 room) (.bool d) (.slice A 0 c) rfl _ _ HR8.out
                    have hTa := hTa _ _ HV8.out
                    have hya := hNa _ _ _ (by omega) hy8
                    have hqa := hNa _ _ _ (by omega) hq8
                    have hga := hNa _ _ _ (by omega) hg8
                    obtain ⟨hyb, hBb, hTb, hUb, hNb⟩ := box37 hya (by omega) hBa (.int .i64 room) (.bool d) (.slice Am 0 cm) _ rfl
                    have hxb := hNb _ _ _ (by omega) hxa
                    have hqb := hNb _ _ _ (by omega) hqa
                    have hgb := hNb _ _ _ (by omega) hga
                    have hx9 : W9.heap[w1.heap.size]? = some (.cells #[.int .i64 room, .bool d, .slice A 0 c] 24 (0, 0)) := by rw [hW9]; exact blk_drew hxb
                    have hy9 : W9.heap[w1.heap.size + 1]? = some (.cells #[.int .i64 room, .bool d, .slice Am 0 cm] 37 (0, 0)) := by rw [hW9]; exact blk_drew hyb
                    have hq9 : W9.heap[wr.heap.size]? = some (.cells #[.int .u8 1, .string s] 39 (0, 0)) := by rw [hW9]; exact blk_drew hqb
                    have hg9 : W9.heap[g]? = some (.cells #[.int .i64 room, .bool d, .slice A 0 c] 24 (0, 0)) := by rw [hW9]; exact blk_drew hgb
                    have hB9 : Below w.heap.size w W9 := by rw [hW9]; exact below_drew1 hBb
                    have HV9 := Lib.hid (show WireV W9 (.slice A 0 c) [] from by rw [hW9]; exact (hTb _ _ hTa).below (below_drew1 (Below.refl _ _)))
                    have HR9 := Lib.hid (show RefV W9 (.slice Am 0 cm) [] from by rw [hW9]; exact (hUb _ _ hRa).below (below_drew1 (Below.refl _ _)))
                    clear hW9 hxa hBa hTa hNa hRa hya hqa hga hyb hBb hTb hUb hNb hxb hqb hgb
                    clear tx zx0 fx0 zx1 fx1 zx2 fx2 ty zy0 fy0 zy1 fy1 zy2 fy2 tq zq0 fq0 zq1 fq1 tg zg0 fg0 zg1 fg1 zg2 fg2 tu zu0 fu0 zu1 fu1 zu2 fu2 te ze0 fe0 ze1 fe1 ze2 fe2
                    refine hK2 _ _ ?_
                    go_simp
                    have tx := blk_lt hx9
                    have zx0 : W9.cell? ⟨w1.heap.size, 0, none⟩ = some (.int .i64 room) := (blk_cell hx9 0).trans rfl
                    have fx0 := blk_frozen hx9 0
                    have zx1 : W9.cell? ⟨w1.heap.size, 1, none⟩ = some (.bool d) := (blk_cell hx9 1).trans rfl
                    have fx1 := blk_frozen hx9 1
                    have zx2 : W9.cell? ⟨w1.heap.size, 2, none⟩ = some (.slice A 0 c) := (blk_cell hx9 2).trans rfl
                    have fx2 := blk_frozen hx9 2
                    have ty := blk_lt hy9
                    have zy0 : W9.cell? ⟨w1.heap.size + 1, 0, none⟩ = some (.int .i64 room) := (blk_cell hy9 0).trans rfl
                    have fy0 := blk_frozen hy9 0
                    have zy1 : W9.cell? ⟨w1.heap.size + 1, 1, none⟩ = some (.bool d) := (blk_cell hy9 1).trans rfl
                    have fy1 := blk_frozen hy9 1
                    have zy2 : W9.cell? ⟨w1.heap.size + 1, 2, none⟩ = some (.slice Am 0 cm) := (blk_cell hy9 2).trans rfl
                    have fy2 := blk_frozen hy9 2
                    have tq := blk_lt hq9
                    have zq0 : W9.cell? ⟨wr.heap.size, 0, none⟩ = some (.int .u8 1) := (blk_cell hq9 0).trans rfl
                    have fq0 := blk_frozen hq9 0
                    have zq1 : W9.cell? ⟨wr.heap.size, 1, none⟩ = some (.string s) := (blk_cell hq9 1).trans rfl
                    have fq1 := blk_frozen hq9 1
                    have tg := blk_lt hg9
                    have zg0 : W9.cell? ⟨g, 0, none⟩ = some (.int .i64 room) := (blk_cell hg9 0).trans rfl
                    have fg0 := blk_frozen hg9 0
                    have zg1 : W9.cell? ⟨g, 1, none⟩ = some (.bool d) := (blk_cell hg9 1).trans rfl
                    have fg1 := blk_frozen hg9 1
                    have zg2 : W9.cell? ⟨g, 2, none⟩ = some (.slice A 0 c) := (blk_cell hg9 2).trans rfl
                    have fg2 := blk_frozen hg9 2
                    go_wp2_with fail
                    exact tk.out _ _ _ _ _ _ _ _ _ _ _ _ _ _ _ _ _ _ _ _ _ _ _ _ _ _ _ _ _ _ _ _ _ _ _ _ _ _ _ _ _ _ _ _ _ _ _ _ _ _ _ _ _ _ _ _ _ _ _ _ _ _ _ _ _ _ _ _ _ _ _ _ _ _ _ hx9 hy9 hg9 hB9 HV9.out HR9.out (by simpa using hLr)
                  subst ha1
                  go_region_with fail
                  all_goals exact key2 _ rfl
                · skip
                  obtain ⟨x, L1, rfl⟩ : ∃ x L1, L = x :: L1 := by cases L with | nil => exact absurd rfl hnil | cons x L1 => exact ⟨x, L1, rfl⟩
                  have hL1 : L1.length ≤ 1000 := by simp only [List.length_cons] at hLr; omega
                  simp only [List.length_cons] at *
                  have tx := blk_lt hx3
                  have zx0 : W3.cell? ⟨w1.heap.size, 0, none⟩ = some (.int .i64 room) := (blk_cell hx3 0).trans rfl
                  have fx0 := blk_frozen hx3 0
                  have zx1 : W3.cell? ⟨w1.heap.size, 1, none⟩ = some (.bool d) := (blk_cell hx3 1).trans rfl
                  have fx1 := blk_frozen hx3 1
                  have zx2 : W3.cell? ⟨w1.heap.size, 2, none⟩ = some (.slice A (L1.length + 1) c) := (blk_cell hx3 2).trans rfl
                  have fx2 := blk_frozen hx3 2
                  have ty := blk_lt hy3
                  have zy0 : W3.cell? ⟨w1.heap.size + 1, 0, none⟩ = some (.int .i64 room) := (blk_cell hy3 0).trans rfl
                  have fy0 := blk_frozen hy3 0
                  have zy1 : W3.cell? ⟨w1.heap.size + 1, 1, none⟩ = some (.bool d) := (blk_cell hy3 1).trans rfl
                  have fy1 := blk_frozen hy3 1
                  have zy2 : W3.cell? ⟨w1.heap.size + 1, 2, none⟩ = some (.slice Am (L1.length + 1) cm) := (blk_cell hy3 2).trans rfl
                  have fy2 := blk_frozen hy3 2
                  have tq := blk_lt hq3
                  have zq0 : W3.cell? ⟨wr.heap.size, 0, none⟩ = some (.int .u8 1) := (blk_cell hq3 0).trans rfl
                  have fq0 := blk_frozen hq3 0
                  have zq1 : W3.cell? ⟨wr.heap.size, 1, none⟩ = some (.string s) := (blk_cell hq3 1).trans rfl
                  have fq1 := blk_frozen hq3 1
                  have tg := blk_lt hg3
                  have zg0 : W3.cell? ⟨g, 0, none⟩ = some (.int .i64 room) := (blk_cell hg3 0).trans rfl
                  have fg0 := blk_frozen hg3 0
                  have zg1 : W3.cell? ⟨g, 1, none⟩ = some (.bool d) := (blk_cell hg3 1).trans rfl
                  have fg1 := blk_frozen hg3 1
                  have zg2 : W3.cell? ⟨g, 2, none⟩ = some (.slice A (L1.length + 1) c) := (blk_cell hg3 2).trans rfl
                  have fg2 := blk_frozen hg3 2
                  go_wp2_with fail
                  refine calls_W (fun W4 hW4 => ?_)
                  have hx4 : W4.heap[w1.heap.size]? = some (.cells #[.int .i64 room, .bool d, .slice A (L1.length + 1) c] 24 (0, 0)) := by rw [hW4]; first | exact hx3 | exact blk_alloc (hx3) _ | exact blk_alloc (blk_alloc (hx3) _) _ | exact blk_alloc (blk_alloc (blk_alloc (hx3) _) _) _
                  have hy4 : W4.heap[w1.heap.size + 1]? = some (.cells #[.int .i64 room, .bool d, .slice Am (L1.length + 1) cm] 37 (0, 0)) := by rw [hW4]; first | exact hy3 | exact blk_alloc (hy3) _ | exact blk_alloc (blk_alloc (hy3) _) _ | exact blk_alloc (blk_alloc (blk_alloc (hy3) _) _) _
                  have hq4 : W4.heap[wr.heap.size]? = some (.cells #[.int .u8 1, .string s] 39 (0, 0)) := by rw [hW4]; first | exact hq3 | exact blk_alloc (hq3) _ | exact blk_alloc (blk_alloc (hq3) _) _ | exact blk_alloc (blk_alloc (blk_alloc (hq3) _) _) _
                  have hg4 : W4.heap[g]? = some (.cells #[.int .i64 room, .bool d, .slice A (L1.length + 1) c] 24 (0, 0)) := by rw [hW4]; first | exact hg3 | exact blk_alloc (hg3) _ | exact blk_alloc (blk_alloc (hg3) _) _ | exact blk_alloc (blk_alloc (blk_alloc (hg3) _) _) _
                  have hB4 : Below w.heap.size w W4 := by rw [hW4]; first | exact hB3 | exact below_alloc (hB3) _ | exact below_alloc (below_alloc (hB3) _) _ | exact below_alloc (below_alloc (below_alloc (hB3) _) _) _
                  have HV4 := Lib.hid (show WireV W4 (.slice A (L1.length + 1) c) (x :: L1) from by rw [hW4]; first | exact HV3.out | exact HV3.out.below (below_alloc (Below.refl _ _) _) | exact HV3.out.below (below_alloc (below_alloc (Below.refl _ _) _) _) | exact HV3.out.below (below_alloc (below_alloc (below_alloc (Below.refl _ _) _) _) _))
                  have HR4 := Lib.hid (show RefV W4 (.slice Am (L1.length + 1) cm) (x :: L1) from by rw [hW4]; first | exact HR3.out | exact HR3.out.below (below_alloc (Below.refl _ _) _) | exact HR3.out.below (below_alloc (below_alloc (Below.refl _ _) _) _) | exact HR3.out.below (below_alloc (below_alloc (below_alloc (Below.refl _ _) _) _) _))
                  clear hW4
                  clear tx zx0 fx0 zx1 fx1 zx2 fx2 ty zy0 fy0 zy1 fy1 zy2 fy2 tq zq0 fq0 zq1 fq1 tg zg0 fg0 zg1 fg1 zg2 fg2
                  refine (pop_ok room d _ x L1 _ HV4.out hL1).mono ?_
                  rintro e' w5 ⟨v4, rfl, hV4, hb⟩
                  have hx5 := blk_below hx4 hb
                  have hy5 := blk_below hy4 hb
                  have hq5 := blk_below hq4 hb
                  have hg5 := blk_below hg4 hb
                  have hB5 := below_call hB4 hb
                  have HV5 := Lib.hid (HV4.out.below hb)
                  have HR5 := Lib.hid (HR4.out.below hb)
                  obtain ⟨A4, c4, rfl⟩ := wire_slice hV4
                  have HN5 := Lib.hid hV4
                  clear hV4
                  have tx := blk_lt hx5
                  have zx0 : w5.cell? ⟨w1.heap.size, 0, none⟩ = some (.int .i64 room) := (blk_cell hx5 0).trans rfl
                  have fx0 := blk_frozen hx5 0
                  have zx1 : w5.cell? ⟨w1.heap.size, 1, none⟩ = some (.bool d) := (blk_cell hx5 1).trans rfl
                  have fx1 := blk_frozen hx5 1
                  have zx2 : w5.cell? ⟨w1.heap.size, 2, none⟩ = some (.slice A (L1.length + 1) c) := (blk_cell hx5 2).trans rfl
                  have fx2 := blk_frozen hx5 2
                  have ty := blk_lt hy5
                  have zy0 : w5.cell? ⟨w1.heap.size + 1, 0, none⟩ = some (.int .i64 room) := (blk_cell hy5 0).trans rfl
                  have fy0 := blk_frozen hy5 0
                  have zy1 : w5.cell? ⟨w1.heap.size + 1, 1, none⟩ = some (.bool d) := (blk_cell hy5 1).trans rfl
                  have fy1 := blk_frozen hy5 1
                  have zy2 : w5.cell? ⟨w1.heap.size + 1, 2, none⟩ = some (.slice Am (L1.length + 1) cm) := (blk_cell hy5 2).trans rfl
                  have fy2 := blk_frozen hy5 2
                  have tq := blk_lt hq5
                  have zq0 : w5.cell? ⟨wr.heap.size, 0, none⟩ = some (.int .u8 1) := (blk_cell hq5 0).trans rfl
                  have fq0 := blk_frozen hq5 0
                  have zq1 : w5.cell? ⟨wr.heap.size, 1, none⟩ = some (.string s) := (blk_cell hq5 1).trans rfl
                  have fq1 := blk_frozen hq5 1
                  have tg := blk_lt hg5
                  have zg0 : w5.cell? ⟨g, 0, none⟩ = some (.int .i64 room) := (blk_cell hg5 0).trans rfl
                  have fg0 := blk_frozen hg5 0
                  have zg1 : w5.cell? ⟨g, 1, none⟩ = some (.bool d) := (blk_cell hg5 1).trans rfl
                  have fg1 := blk_frozen hg5 1
                  have zg2 : w5.cell? ⟨g, 2, none⟩ = some (.slice A (L1.length + 1) c) := (blk_cell hg5 2).trans rfl
                  have fg2 := blk_frozen hg5 2
                  go_wp2_with fail
                  refine calls_W (fun W6 hW6 => ?_)
                  have hx6 : W6.heap[w1.heap.size]? = some (.cells #[.int .i64 room, .bool d, .slice A (L1.length + 1) c] 24 (0, 0)) := by rw [hW6]; first | exact hx5 | exact blk_alloc (hx5) _ | exact blk_alloc (blk_alloc (hx5) _) _ | exact blk_alloc (blk_alloc (blk_alloc (hx5) _) _) _
                  have hy6 : W6.heap[w1.heap.size + 1]? = some (.cells #[.int .i64 room, .bool d, .slice Am (L1.length + 1) cm] 37 (0, 0)) := by rw [hW6]; first | exact hy5 | exact blk_alloc (hy5) _ | exact blk_alloc (blk_alloc (hy5) _) _ | exact blk_alloc (blk_alloc (blk_alloc (hy5) _) _) _
                  have hq6 : W6.heap[wr.heap.size]? = some (.cells #[.int .u8 1, .string s] 39 (0, 0)) := by rw [hW6]; first | exact hq5 | exact blk_alloc (hq5) _ | exact blk_alloc (blk_alloc (hq5) _) _ | exact blk_alloc (blk_alloc (blk_alloc (hq5) _) _) _
                  have hg6 : W6.heap[g]? = some (.cells #[.int .i64 room, .bool d, .slice A (L1.length + 1) c] 24 (0, 0)) := by rw [hW6]; first | exact hg5 | exact blk_alloc (hg5) _ | exact blk_alloc (blk_alloc (hg5) _) _ | exact blk_alloc (blk_alloc (blk_alloc (hg5) _) _) _
                  have hB6 : Below w.heap.size w W6 := by rw [hW6]; first | exact hB5 | exact below_alloc (hB5) _ | exact below_alloc (below_alloc (hB5) _) _ | exact below_alloc (below_alloc (below_alloc (hB5) _) _) _
                  have HV6 := Lib.hid (show WireV W6 (.slice A (L1.length + 1) c) (x :: L1) from by rw [hW6]; first | exact HV5.out | exact HV5.out.below (below_alloc (Below.refl _ _) _) | exact HV5.out.below (below_alloc (below_alloc (Below.refl _ _) _) _) | exact HV5.out.below (below_alloc (below_alloc (below_alloc (Below.refl _ _) _) _) _))
                  have HN6 := Lib.hid (show WireV W6 (.slice A4 L1.length c4) L1 from by rw [hW6]; first | exact HN5.out | exact HN5.out.below (below_alloc (Below.refl _ _) _) | exact HN5.out.below (below_alloc (below_alloc (Below.refl _ _) _) _) | exact HN5.out.below (below_alloc (below_alloc (below_alloc (Below.refl _ _) _) _) _))
                  have HR6 := Lib.hid (show RefV W6 (.slice Am (L1.length + 1) cm) (x :: L1) from by rw [hW6]; first | exact HR5.out | exact HR5.out.below (below_alloc (Below.refl _ _) _) | exact HR5.out.below (below_alloc (below_alloc (Below.refl _ _) _) _) | exact HR5.out.below (below_alloc (below_alloc (below_alloc (Below.refl _ _) _) _) _))
                  have hu6 : W6.heap[w5.heap.size]? = some (.cells #[.int .i64 room, .bool d, .slice A4 L1.length c4] 24 (0, 0)) := by rw [hW6]; exact blk_new _ _
                  clear hW6
                  clear tx zx0 fx0 zx1 fx1 zx2 fx2 ty zy0 fy0 zy1 fy1 zy2 fy2 tq zq0 fq0 zq1 fq1 tg zg0 fg0 zg1 fg1 zg2 fg2
                  refine (rpop_ok room d _ x L1 _ HR6.out hL1).mono ?_
                  rintro e' w7 ⟨u6, rfl, hR6, hb⟩
                  have hx7 := blk_below hx6 hb
                  have hy7 := blk_below hy6 hb
                  have hq7 := blk_below hq6 hb
                  have hg7 := blk_below hg6 hb
                  have hu7 := blk_below hu6 hb
                  have hB7 := below_call hB6 hb
                  have HV7 := Lib.hid (HV6.out.below hb)
                  have HN7 := Lib.hid (HN6.out.below hb)
                  have HR7 := Lib.hid (HR6.out.below hb)
                  obtain ⟨A6, c6, rfl⟩ := hR6.slice
                  have HM7 := Lib.hid hR6
                  clear hR6
                  have tx := blk_lt hx7
                  have zx0 : w7.cell? ⟨w1.heap.size, 0, none⟩ = some (.int .i64 room) := (blk_cell hx7 0).trans rfl
                  have fx0 := blk_frozen hx7 0
                  have zx1 : w7.cell? ⟨w1.heap.size, 1, none⟩ = some (.bool d) := (blk_cell hx7 1).trans rfl
                  have fx1 := blk_frozen hx7 1
                  have zx2 : w7.cell? ⟨w1.heap.size, 2, none⟩ = some (.slice A (L1.length + 1) c) := (blk_cell hx7 2).trans rfl
                  have fx2 := blk_frozen hx7 2
                  have ty := blk_lt hy7
                  have zy0 : w7.cell? ⟨w1.heap.size + 1, 0, none⟩ = some (.int .i64 room) := (blk_cell hy7 0).trans rfl
                  have fy0 := blk_frozen hy7 0
                  have zy1 : w7.cell? ⟨w1.heap.size + 1, 1, none⟩ = some (.bool d) := (blk_cell hy7 1).trans rfl
                  have fy1 := blk_frozen hy7 1
                  have zy2 : w7.cell? ⟨w1.heap.size + 1, 2, none⟩ = some (.slice Am (L1.length + 1) cm) := (blk_cell hy7 2).trans rfl
                  have fy2 := blk_frozen hy7 2
                  have tq := blk_lt hq7
                  have zq0 : w7.cell? ⟨wr.heap.size, 0, none⟩ = some (.int .u8 1) := (blk_cell hq7 0).trans rfl
                  have fq0 := blk_frozen hq7 0
                  have zq1 : w7.cell? ⟨wr.heap.size, 1, none⟩ = some (.string s) := (blk_cell hq7 1).trans rfl
                  have fq1 := blk_frozen hq7 1
                  have tg := blk_lt hg7
                  have zg0 : w7.cell? ⟨g, 0, none⟩ = some (.int .i64 room) := (blk_cell hg7 0).trans rfl
                  have fg0 := blk_frozen hg7 0
                  have zg1 : w7.cell? ⟨g, 1, none⟩ = some (.bool d) := (blk_cell hg7 1).trans rfl
                  have fg1 := blk_frozen hg7 1
                  have zg2 : w7.cell? ⟨g, 2, none⟩ = some (.slice A (L1.length + 1) c) := (blk_cell hg7 2).trans rfl
                  have fg2 := blk_frozen hg7 2
                  have tu := blk_lt hu7
                  have zu0 : w7.cell? ⟨w5.heap.size, 0, none⟩ = some (.int .i64 room) := (blk_cell hu7 0).trans rfl
                  have fu0 := blk_frozen hu7 0
                  have zu1 : w7.cell? ⟨w5.heap.size, 1, none⟩ = some (.bool d) := (blk_cell hu7 1).trans rfl
                  have fu1 := blk_frozen hu7 1
                  have zu2 : w7.cell? ⟨w5.heap.size, 2, none⟩ = some (.slice A4 L1.length c4) := (blk_cell hu7 2).trans rfl
                  have fu2 := blk_frozen hu7 2
                  go_wp2_with fail
                  refine wi_W (fun W8 hW8 => ?_)
                  have hx8 : W8.heap[w1.heap.size]? = some (.cells #[.int .i64 room, .bool d, .slice A (L1.length + 1) c] 24 (0, 0)) := by rw [hW8]; first | exact hx7 | exact blk_alloc (hx7) _ | exact blk_alloc (blk_alloc (hx7) _) _ | exact blk_alloc (blk_alloc (blk_alloc (hx7) _) _) _
                  have hy8 : W8.heap[w1.heap.size + 1]? = some (.cells #[.int .i64 room, .bool d, .slice Am (L1.length + 1) cm] 37 (0, 0)) := by rw [hW8]; first | exact hy7 | exact blk_alloc (hy7) _ | exact blk_alloc (blk_alloc (hy7) _) _ | exact blk_alloc (blk_alloc (blk_alloc (hy7) _) _) _
                  have hq8 : W8.heap[wr.heap.size]? = some (.cells #[.int .u8 1, .string s] 39 (0, 0)) := by rw [hW8]; first | exact hq7 | exact blk_alloc (hq7) _ | exact blk_alloc (blk_alloc (hq7) _) _ | exact blk_alloc (blk_alloc (blk_alloc (hq7) _) _) _
                  have hg8 : W8.heap[g]? = some (.cells #[.int .i64 room, .bool d, .slice A (L1.length + 1) c] 24 (0, 0)) := by rw [hW8]; first | exact hg7 | exact blk_alloc (hg7) _ | exact blk_alloc (blk_alloc (hg7) _) _ | exact blk_alloc (blk_alloc (blk_alloc (hg7) _) _) _
                  have hu8 : W8.heap[w5.heap.size]? = some (.cells #[.int .i64 room, .bool d, .slice A4 L1.length c4] 24 (0, 0)) := by rw [hW8]; first | exact hu7 | exact blk_alloc (hu7) _ | exact blk_alloc (blk_alloc (hu7) _) _ | exact blk_alloc (blk_alloc (blk_alloc (hu7) _) _) _
                  have hB8 : Below w.heap.size w W8 := by rw [hW8]; first | exact hB7 | exact below_alloc (hB7) _ | exact below_alloc (below_alloc (hB7) _) _ | exact below_alloc (below_alloc (below_alloc (hB7) _) _) _
                  have HV8 := Lib.hid (show WireV W8 (.slice A (L1.length + 1) c) (x :: L1) from by rw [hW8]; first | exact HV7.out | exact HV7.out.below (below_alloc (Below.refl _ _) _) | exact HV7.out.below (below_alloc (below_alloc (Below.refl _ _) _) _) | exact HV7.out.below (below_alloc (below_alloc (below_alloc (Below.refl _ _) _) _) _))
                  have HN8 := Lib.hid (show WireV W8 (.slice A4 L1.length c4) L1 from by rw [hW8]; first | exact HN7.out | exact HN7.out.below (below_alloc (Below.refl _ _) _) | exact HN7.out.below (below_alloc (below_alloc (Below.refl _ _) _) _) | exact HN7.out.below (below_alloc (below_alloc (below_alloc (Below.refl _ _) _) _) _))
                  have HR8 := Lib.hid (show RefV W8 (.slice Am (L1.length + 1) cm) (x :: L1) from by rw [hW8]; first | exact HR7.out | exact HR7.out.below (below_alloc (Below.refl _ _) _) | exact HR7.out.below (below_alloc (below_alloc (Below.refl _ _) _) _) | exact HR7.out.below (below_alloc (below_alloc (below_alloc (Below.refl _ _) _) _) _))
                  have HM8 := Lib.hid (show RefV W8 (.slice A6 L1.length c6) L1 from by rw [hW8]; first | exact HM7.out | exact HM7.out.below (below_alloc (Below.refl _ _) _) | exact HM7.out.below (below_alloc (below_alloc (Below.refl _ _) _) _) | exact HM7.out.below (below_alloc (below_alloc (below_alloc (Below.refl _ _) _) _) _))
                  have he8 : W8.heap[w7.heap.size]? = some (.cells #[.int .i64 room, .bool d, .slice A6 L1.length c6] 37 (0, 0)) := by rw [hW8]; exact blk_new _ _
                  clear hW8
                  clear tx zx0 fx0 zx1 fx1 zx2 fx2 ty zy0 fy0 zy1 fy1 zy2 fy2 tq zq0 fq0 zq1 fq1 tg zg0 fg0 zg1 fg1 zg2 fg2 tu zu0 fu0 zu1 fu1 zu2 fu2
                  have tx := blk_lt hx8
                  have zx0 : W8.cell? ⟨w1.heap.size, 0, none⟩ = some (.int .i64 room) := (blk_cell hx8 0).trans rfl
                  have fx0 := blk_frozen hx8 0
                  have zx1 : W8.cell? ⟨w1.heap.size, 1, none⟩ = some (.bool d) := (blk_cell hx8 1).trans rfl
                  have fx1 := blk_frozen hx8 1
                  have zx2 : W8.cell? ⟨w1.heap.size, 2, none⟩ = some (.slice A (L1.length + 1) c) := (blk_cell hx8 2).trans rfl
                  have fx2 := blk_frozen hx8 2
                  have ty := blk_lt hy8
                  have zy0 : W8.cell? ⟨w1.heap.size + 1, 0, none⟩ = some (.int .i64 room) := (blk_cell hy8 0).trans rfl
                  have fy0 := blk_frozen hy8 0
                  have zy1 : W8.cell? ⟨w1.heap.size + 1, 1, none⟩ = some (.bool d) := (blk_cell hy8 1).trans rfl
                  have fy1 := blk_frozen hy8 1
                  have zy2 : W8.cell? ⟨w1.heap.size + 1, 2, none⟩ = some (.slice Am (L1.length + 1) cm) := (blk_cell hy8 2).trans rfl
                  have fy2 := blk_frozen hy8 2
                  have tq := blk_lt hq8
                  have zq0 : W8.cell? ⟨wr.heap.size, 0, none⟩ = some (.int .u8 1) := (blk_cell hq8 0).trans rfl
                  have fq0 := blk_frozen hq8 0
                  have zq1 : W8.cell? ⟨wr.heap.size, 1, none⟩ = some (.string s) := (blk_cell hq8 1).trans rfl
                  have fq1 := blk_frozen hq8 1
                  have tg := blk_lt hg8
                  have zg0 : W8.cell? ⟨g, 0, none⟩ = some (.int .i64 room) := (blk_cell hg8 0).trans rfl
                  have fg0 := blk_frozen hg8 0
                  have zg1 : W8.cell? ⟨g, 1, none⟩ = some (.bool d) := (blk_cell hg8 1).trans rfl
                  have fg1 := blk_frozen hg8 1
                  have zg2 : W8.cell? ⟨g, 2, none⟩ = some (.slice A (L1.length + 1) c) := (blk_cell hg8 2).trans rfl
                  have fg2 := blk_frozen hg8 2
                  have tu := blk_lt hu8
                  have zu0 : W8.cell? ⟨w5.heap.size, 0, none⟩ = some (.int .i64 room) := (blk_cell hu8 0).trans rfl
                  have fu0 := blk_frozen hu8 0
                  have zu1 : W8.cell? ⟨w5.heap.size, 1, none⟩ = some (.bool d) := (blk_cell hu8 1).trans rfl
                  have fu1 := blk_frozen hu8 1
                  have zu2 : W8.cell? ⟨w5.heap.size, 2, none⟩ = some (.slice A4 L1.length c4) := (blk_cell hu8 2).trans rfl
                  have fu2 := blk_frozen hu8 2
                  have te := blk_lt he8
                  have ze0 : W8.cell? ⟨w7.heap.size, 0, none⟩ = some (.int .i64 room) := (blk_cell he8 0).trans rfl
                  have fe0 := blk_frozen he8 0
                  have ze1 : W8.cell? ⟨w7.heap.size, 1, none⟩ = some (.bool d) := (blk_cell he8 1).trans rfl
                  have fe1 := blk_frozen he8 1
                  have ze2 : W8.cell? ⟨w7.heap.size, 2, none⟩ = some (.slice A6 L1.length c6) := (blk_cell he8 2).trans rfl
                  have fe2 := blk_frozen he8 2
                  have na0 := Nat.ne_of_lt (blk_lt hx7)
                  have nb0 := Nat.ne_of_gt (blk_lt hx7)
                  have na1 := Nat.ne_of_lt (blk_lt hy7)
                  have nb1 := Nat.ne_of_gt (blk_lt hy7)
                  have na2 := Nat.ne_of_lt (blk_lt hu7)
                  have nb2 := Nat.ne_of_gt (blk_lt hu7)
                  have na3 := Nat.ne_of_lt (blk_lt hx5)
                  have nb3 := Nat.ne_of_gt (blk_lt hx5)
                  have na4 := Nat.ne_of_lt (blk_lt hy5)
                  have nb4 := Nat.ne_of_gt (blk_lt hy5)
                  refine wi_A (fun a1 ha1 => ?_)
                  rename_i K2 hK2
                  have key2 : ∀ W9 : World, W9 = ((((((W8.setCell ⟨w1.heap.size, 0, none⟩ (.int .i64 room)).setCell ⟨w1.heap.size, 1, none⟩ (.bool d)).setCell ⟨w1.heap.size, 2, none⟩ (.slice A4 L1.length c4)).setCell ⟨w1.heap.size + 1, 0, none⟩ (.int .i64 room)).setCell ⟨w1.heap.size + 1, 1, none⟩ (.bool d)).setCell ⟨w1.heap.size + 1, 2, none⟩ (.slice A6 L1.length c6)).drew → K2 ((a1.put (some 114) (.agg #[.int .i64 room, .bool d, .slice A4 L1.length c4])).put (some 115) (.agg #[.int .i64 room, .bool d, .slice A6 L1.length c6])) W9 := by
                    intro W9 hW9
                    subst ha1
                    obtain ⟨hxa, hBa, hTa, hNa⟩ := box_store hx8 hs1 hB8 (.int .i64 room) (.bool d) (.slice A4 L1.length c4) _ rfl
                    have hRa := ref24 hx8 (.int .i64 room) (.bool d) (.slice A4 L1.length c4) rfl _ _ HM8.out
                    have hTa := hTa _ _ HN8.out
                    have hya := hNa _ _ _ (by omega) hy8
                    have hqa := hNa _ _ _ (by omega) hq8
                    have hga := hNa _ _ _ (by omega) hg8
                    obtain ⟨hyb, hBb, hTb, hUb, hNb⟩ := box37 hya (by omega) hBa (.int .i64 room) (.bool d) (.slice A6 L1.length c6) _ rfl
                    have hxb := hNb _ _ _ (by omega) hxa
                    have hqb := hNb _ _ _ (by omega) hqa
                    have hgb := hNb _ _ _ (by omega) hga
                    have hx9 : W9.heap[w1.heap.size]? = some (.cells #[.int .i64 room, .bool d, .slice A4 L1.length c4] 24 (0, 0)) := by rw [hW9]; exact blk_drew hxb
                    have hy9 : W9.heap[w1.heap.size + 1]? = some (.cells #[.int .i64 room, .bool d, .slice A6 L1.length c6] 37 (0, 0)) := by rw [hW9]; exact blk_drew hyb
                    have hq9 : W9.heap[wr.heap.size]? = some (.cells #[.int .u8 1, .string s] 39 (0, 0)) := by rw [hW9]; exact blk_drew hqb
                    have hg9 : W9.heap[g]? = some (.cells #[.int .i64 room, .bool d, .slice A (L1.length + 1) c] 24 (0, 0)) := by rw [hW9]; exact blk_drew hgb
                    have hB9 : Below w.heap.size w W9 := by rw [hW9]; exact below_drew1 hBb
                    have HV9 := Lib.hid (show WireV W9 (.slice A4 L1.length c4) L1 from by rw [hW9]; exact (hTb _ _ hTa).below (below_drew1 (Below.refl _ _)))
                    have HR9 := Lib.hid (show RefV W9 (.slice A6 L1.length c6) L1 from by rw [hW9]; exact (hUb _ _ hRa).below (below_drew1 (Below.refl _ _)))
                    clear hW9 hxa hBa hTa hNa hRa hya hqa hga hyb hBb hTb hUb hNb hxb hqb hgb
                    clear tx zx0 fx0 zx1 fx1 zx2 fx2 ty zy0 fy0 zy1 fy1 zy2 fy2 tq zq0 fq0 zq1 fq1 tg zg0 fg0 zg1 fg1 zg2 fg2 tu zu0 fu0 zu1 fu1 zu2 fu2 te ze0 fe0 ze1 fe1 ze2 fe2
                    refine hK2 _ _ ?_
                    go_simp
                    have tx := blk_lt hx9
                    have zx0 : W9.cell? ⟨w1.heap.size, 0, none⟩ = some (.int .i64 room) := (blk_cell hx9 0).trans rfl
                    have fx0 := blk_frozen hx9 0
                    have zx1 : W9.cell? ⟨w1.heap.size, 1, none⟩ = some (.bool d) := (blk_cell hx9 1).trans rfl
                    have fx1 := blk_frozen hx9 1
                    have zx2 : W9.cell? ⟨w1.heap.size, 2, none⟩ = some (.slice A4 L1.length c4) := (blk_cell hx9 2).trans rfl
                    have fx2 := blk_frozen hx9 2
                    have ty := blk_lt hy9
                    have zy0 : W9.cell? ⟨w1.heap.size + 1, 0, none⟩ = some (.int .i64 room) := (blk_cell hy9 0).trans rfl
                    have fy0 := blk_frozen hy9 0
                    have zy1 : W9.cell? ⟨w1.heap.size + 1, 1, none⟩ = some (.bool d) := (blk_cell hy9 1).trans rfl
                    have fy1 := blk_frozen hy9 1
                    have zy2 : W9.cell? ⟨w1.heap.size + 1, 2, none⟩ = some (.slice A6 L1.length c6) := (blk_cell hy9 2).trans rfl
                    have fy2 := blk_frozen hy9 2
                    have tq := blk_lt hq9
                    have zq0 : W9.cell? ⟨wr.heap.size, 0, none⟩ = some (.int .u8 1) := (blk_cell hq9 0).trans rfl
                    have fq0 := blk_frozen hq9 0
                    have zq1 : W9.cell? ⟨wr.heap.size, 1, none⟩ = some (.string s) := (blk_cell hq9 1).trans rfl
                    have fq1 := blk_frozen hq9 1
                    have tg := blk_lt hg9
                    have zg0 : W9.cell? ⟨g, 0, none⟩ = some (.int .i64 room) := (blk_cell hg9 0).trans rfl
                    have fg0 := blk_frozen hg9 0
                    have zg1 : W9.cell? ⟨g, 1, none⟩ = some (.bool d) := (blk_cell hg9 1).trans rfl
                    have fg1 := blk_frozen hg9 1
                    have zg2 : W9.cell? ⟨g, 2, none⟩ = some (.slice A (L1.length + 1) c) := (blk_cell hg9 2).trans rfl
                    have fg2 := blk_frozen hg9 2
                    go_wp2_with fail
                    exact tk.out _ _ _ _ _ _ _ _ _ _ _ _ _ _ _ _ _ _ _ _ _ _ _ _ _ _ _ _ _ _ _ _ _ _ _ _ _ _ _ _ _ _ _ _ _ _ _ _ _ _ _ _ _ _ _ _ _ _ _ _ _ _ _ _ _ _ _ _ _ _ _ _ _ _ _ hx9 hy9 hg9 hB9 HV9.out HR9.out (by omega)
                  subst ha1
                  go_region_with fail
                  all_goals exact key2 _ rfl
              · by_cases ha2 : a = 2
                · subst ha2
                  have tx := blk_lt hx3
                  have zx0 : W3.cell? ⟨w1.heap.size, 0, none⟩ = some (.int .i64 room) := (blk_cell hx3 0).trans rfl
                  have fx0 := blk_frozen hx3 0
                  have zx1 : W3.cell? ⟨w1.heap.size, 1, none⟩ = some (.bool d) := (blk_cell hx3 1).trans rfl
                  have fx1 := blk_frozen hx3 1
                  have zx2 : W3.cell? ⟨w1.heap.size, 2, none⟩ = some (.slice A L.length c) := (blk_cell hx3 2).trans rfl
                  have fx2 := blk_frozen hx3 2
                  have ty := blk_lt hy3
                  have zy0 : W3.cell? ⟨w1.heap.size + 1, 0, none⟩ = some (.int .i64 room) := (blk_cell hy3 0).trans rfl
                  have fy0 := blk_frozen hy3 0
                  have zy1 : W3.cell? ⟨w1.heap.size + 1, 1, none⟩ = some (.bool d) := (blk_cell hy3 1).trans rfl
                  have fy1 := blk_frozen hy3 1
                  have zy2 : W3.cell? ⟨w1.heap.size + 1, 2, none⟩ = some (.slice Am L.length cm) := (blk_cell hy3 2).trans rfl
                  have fy2 := blk_frozen hy3 2
                  have tq := blk_lt hq3
                  have zq0 : W3.cell? ⟨wr.heap.size, 0, none⟩ = some (.int .u8 2) := (blk_cell hq3 0).trans rfl
                  have fq0 := blk_frozen hq3 0
                  have zq1 : W3.cell? ⟨wr.heap.size, 1, none⟩ = some (.string s) := (blk_cell hq3 1).trans rfl
                  have fq1 := blk_frozen hq3 1
                  clear tx ty tq
                  have n1_ : w1.heap.size ≠ wr.heap.size := by omega
                  have n2_ : wr.heap.size ≠ w1.heap.size := by omega
                  have n3_ : w1.heap.size + 1 ≠ wr.heap.size := by omega
                  have n4_ : wr.heap.size ≠ w1.heap.size + 1 := by omega
                  go_wp2_with fail
                  refine wp_region_noPanic ?_
                  refine wp_region_held_drew (S := (fun w' => w'.cell? ⟨wr.heap.size, 0, none⟩ = some (.int .u8 2))) (by kernel_rfl) (by exact zq0) (fun hHeld => ?_)
                  refine wpAnyH_take (i := 1) (oi := { dst := some 128, op := Op.fieldAddr 39 (Operand.tmp 9) 0, type := 0, pos := "law.go:54", after := #[], guard := none }) (v := ?_) rfl (by kernel_rfl) (by kernel_rfl) (by kernel_rfl) (fun _ _ _ h => h) (Or.inl ⟨by rfl, ?_⟩) (by assumption) ?_
                  rotate_left
                  · (intro w hSw; (try dsimp only at hSw); go_simp); all_goals with_reducible rfl
                  try simp only [Act.put, List.setIfInBounds_toArray, List.set_cons_zero, List.set_cons_succ]
                  refine wpAnyH_take (i := 2) (oi := { dst := some 129, op := Op.load 5 (Operand.tmp 128), type := 5, pos := "law.go:54", after := #[{ on := 1, ground := Ground.data }], guard := none }) (v := ?_) rfl (by kernel_rfl) (by kernel_rfl) (by kernel_rfl) (fun _ _ _ h => h) (Or.inl ⟨by rfl, ?_⟩) (by assumption) ?_
                  rotate_left
                  · (intro w hSw; (try dsimp only at hSw); go_simp); all_goals with_reducible rfl
                  try simp only [Act.put, List.setIfInBounds_toArray, List.set_cons_zero, List.set_cons_succ]
                  refine wpAnyH_take (i := 3) (oi := { dst := some 130, op := Op.binOp BinOp.eql 5 (Operand.tmp 129) (Operand.const (Value.int IntKind.u8 2)) 5, type := 4, pos := "law.go:54", after := #[{ on := 2, ground := Ground.data }], guard := none }) (v := ?_) rfl (by kernel_rfl) (by kernel_rfl) (by kernel_rfl) (fun _ _ _ h => h) (Or.inl ⟨by rfl, ?_⟩) (by assumption) ?_
                  rotate_left
                  · (intro w hSw; (try dsimp only at hSw); go_simp); all_goals with_reducible rfl
                  try simp only [Act.put, List.setIfInBounds_toArray, List.set_cons_zero, List.set_cons_succ]
                  refine wpAnyH_take (i := 6) (oi := { dst := some 133, op := Op.fieldAddr 39 (Operand.tmp 9) 0, type := 0, pos := "law.go:54", after := #[], guard := none }) (v := ?_) rfl (by kernel_rfl) (by kernel_rfl) (by kernel_rfl) (fun _ _ _ h => h) (Or.inl ⟨by rfl, ?_⟩) (by assumption) ?_
                  rotate_left
                  · (intro w hSw; (try dsimp only at hSw); go_simp); all_goals with_reducible rfl
                  try simp only [Act.put, List.setIfInBounds_toArray, List.set_cons_zero, List.set_cons_succ]
                  refine wpAnyH_take (i := 7) (oi := { dst := some 134, op := Op.load 5 (Operand.tmp 133), type := 5, pos := "law.go:54", after := #[{ on := 6, ground := Ground.data }], guard := none }) (v := ?_) rfl (by kernel_rfl) (by kernel_rfl) (by kernel_rfl) (fun _ _ _ h => h) (Or.inl ⟨by rfl, ?_⟩) (by assumption) ?_
                  rotate_left
                  · (intro w hSw; (try dsimp only at hSw); go_simp); all_goals with_reducible rfl
                  try simp only [Act.put, List.setIfInBounds_toArray, List.set_cons_zero, List.set_cons_succ]
                  refine wpAnyH_take (i := 8) (oi := { dst := some 135, op := Op.binOp BinOp.eql 5 (Operand.tmp 134) (Operand.const (Value.int IntKind.u8 2)) 5, type := 4, pos := "law.go:54", after := #[{ on := 7, ground := Ground.data }], guard := none }) (v := ?_) rfl (by kernel_rfl) (by kernel_rfl) (by kernel_rfl) (fun _ _ _ h => h) (Or.inl ⟨by rfl, ?_⟩) (by assumption) ?_
                  rotate_left
                  · (intro w hSw; (try dsimp only at hSw); go_simp); all_goals with_reducible rfl
                  try simp only [Act.put, List.setIfInBounds_toArray, List.set_cons_zero, List.set_cons_succ]
                  refine wpAnyH_ready (rs := [0, 5]) (by kernel_rfl) (by simp) ?_
                  refine AllReadyH.cons (o := { dst := some 127, op := Op.load 24 (Operand.tmp 5), type := 24, pos := "law.go:54", after := #[], guard := none }) rfl (fun K hK => ?_) ?_
                  · skip
                    go_simp
                    refine hK.out _ _ ?_ (fun hHeld => ?_)
                    · exact hHeld
                    clear hK K
                    try simp only [Act.put, List.setIfInBounds_toArray, List.set_cons_zero, List.set_cons_succ]
                    refine wpAnyH_ready (rs := [4, 5]) (by kernel_rfl) (by simp) ?_
                    refine AllReadyH.cons (o := { dst := some 131, op := Op.call { callee := Callee.value (Operand.func 14), args := #[Operand.tmp 127, Operand.tmp 130], argTypes := #[24, 4] }, type := 24, pos := "law.go:54", after := #[{ on := 0, ground := Ground.data }, { on := 3, ground := Ground.data }], guard := none }) rfl (fun K hK => ?_) ?_
                    · skip
                      go_simp
                      refine (set_up room d _ L _ (by exact HV3.out.below (below_drew1 (Below.refl _ _)))).mono ?_
                      rintro e' w4 ⟨rfl, hb⟩
                      have hx4 := blk_below (blk_drew hx3) hb
                      have hy4 := blk_below (blk_drew hy3) hb
                      have hq4 := blk_below (blk_drew hq3) hb
                      have hg4 := blk_below (blk_drew hg3) hb
                      have hB4 := below_call (below_drew1 hB3) hb
                      have HV4 := Lib.hid ((HV3.out.below (below_drew1 (Below.refl _ _))).below hb)
                      have HR4 := Lib.hid ((HR3.out.below (below_drew1 (Below.refl _ _))).below hb)
                      clear hb hx3 hy3 hq3 hg3 HV3 HR3 hB3
                      clear zx0 fx0 zx1 fx1 zx2 fx2 zy0 fy0 zy1 fy1 zy2 fy2 zq0 fq0 zq1 fq1
                      have zx4_0 : w4.cell? ⟨w1.heap.size, 0, none⟩ = some (.int .i64 room) := (blk_cell hx4 0).trans rfl
                      have fx4_0 := blk_frozen hx4 0
                      have zx4_1 : w4.cell? ⟨w1.heap.size, 1, none⟩ = some (.bool d) := (blk_cell hx4 1).trans rfl
                      have fx4_1 := blk_frozen hx4 1
                      have zx4_2 : w4.cell? ⟨w1.heap.size, 2, none⟩ = some (.slice A L.length c) := (blk_cell hx4 2).trans rfl
                      have fx4_2 := blk_frozen hx4 2
                      have zy4_0 : w4.cell? ⟨w1.heap.size + 1, 0, none⟩ = some (.int .i64 room) := (blk_cell hy4 0).trans rfl
                      have fy4_0 := blk_frozen hy4 0
                      have zy4_1 : w4.cell? ⟨w1.heap.size + 1, 1, none⟩ = some (.bool d) := (blk_cell hy4 1).trans rfl
                      have fy4_1 := blk_frozen hy4 1
                      have zy4_2 : w4.cell? ⟨w1.heap.size + 1, 2, none⟩ = some (.slice Am L.length cm) := (blk_cell hy4 2).trans rfl
                      have fy4_2 := blk_frozen hy4 2
                      have zq4_0 : w4.cell? ⟨wr.heap.size, 0, none⟩ = some (.int .u8 2) := (blk_cell hq4 0).trans rfl
                      have zq4_1 : w4.cell? ⟨wr.heap.size, 1, none⟩ = some (.string s) := (blk_cell hq4 1).trans rfl
                      go_wp2_with fail
                      refine hK.out _ _ ?_ (fun hHeld => ?_)
                      · exact zq4_0
                      clear hK K
                      try simp only [Act.put, List.setIfInBounds_toArray, List.set_cons_zero, List.set_cons_succ]
                      refine wpAnyH_ready (rs := [5]) (by kernel_rfl) (by simp) ?_
                      refine AllReadyH.cons (o := { dst := some 132, op := Op.load 37 (Operand.tmp 7), type := 37, pos := "law.go:54", after := #[], guard := none }) rfl (fun K hK => ?_) AllReadyH.nil
                      go_simp
                      refine hK.out _ _ ?_ (fun hHeld => ?_)
                      · exact hHeld
                      clear hK K
                      try simp only [Act.put, List.setIfInBounds_toArray, List.set_cons_zero, List.set_cons_succ]
                      refine wpAnyH_ready (rs := [9]) (by kernel_rfl) (by simp) ?_
                      refine AllReadyH.cons (o := { dst := some 136, op := Op.call { callee := Callee.value (Operand.func 15), args := #[Operand.tmp 132, Operand.tmp 135], argTypes := #[37, 4] }, type := 37, pos := "law.go:54", after := #[{ on := 5, ground := Ground.data }, { on := 8, ground := Ground.data }, { on := 4, ground := Ground.chain }], guard := none }) rfl (fun K hK => ?_) AllReadyH.nil
                      go_simp
                      refine (rset_up room d _ L _ (by exact HR4.out)).mono ?_
                      rintro e' w5 ⟨rfl, hb⟩
                      have hx5 := blk_below (hx4) hb
                      have hy5 := blk_below (hy4) hb
                      have hq5 := blk_below (hq4) hb
                      have hg5 := blk_below (hg4) hb
                      have hB5 := below_call (hB4) hb
                      have HV5 := Lib.hid (HV4.out.below hb)
                      have HR5 := Lib.hid (HR4.out.below hb)
                      clear hb hx4 hy4 hq4 hg4 HV4 HR4 hB4
                      clear zx4_0 zx4_1 zx4_2 zy4_0 zy4_1 zy4_2 zq4_0 zq4_1 fx4_0 fx4_1 fx4_2 fy4_0 fy4_1 fy4_2
                      have zx5_0 : w5.cell? ⟨w1.heap.size, 0, none⟩ = some (.int .i64 room) := (blk_cell hx5 0).trans rfl
                      have fx5_0 := blk_frozen hx5 0
                      have zx5_1 : w5.cell? ⟨w1.heap.size, 1, none⟩ = some (.bool d) := (blk_cell hx5 1).trans rfl
                      have fx5_1 := blk_frozen hx5 1
                      have zx5_2 : w5.cell? ⟨w1.heap.size, 2, none⟩ = some (.slice A L.length c) := (blk_cell hx5 2).trans rfl
                      have fx5_2 := blk_frozen hx5 2
                      have zy5_0 : w5.cell? ⟨w1.heap.size + 1, 0, none⟩ = some (.int .i64 room) := (blk_cell hy5 0).trans rfl
                      have fy5_0 := blk_frozen hy5 0
                      have zy5_1 : w5.cell? ⟨w1.heap.size + 1, 1, none⟩ = some (.bool d) := (blk_cell hy5 1).trans rfl
                      have fy5_1 := blk_frozen hy5 1
                      have zy5_2 : w5.cell? ⟨w1.heap.size + 1, 2, none⟩ = some (.slice Am L.length cm) := (blk_cell hy5 2).trans rfl
                      have fy5_2 := blk_frozen hy5 2
                      have zq5_0 : w5.cell? ⟨wr.heap.size, 0, none⟩ = some (.int .u8 2) := (blk_cell hq5 0).trans rfl
                      have zq5_1 : w5.cell? ⟨wr.heap.size, 1, none⟩ = some (.string s) := (blk_cell hq5 1).trans rfl
                      go_wp2_with fail
                      refine hK.out _ _ ?_ (fun hHeld => ?_)
                      · exact zq5_0
                      clear hK K
                      try simp only [Act.put, List.setIfInBounds_toArray, List.set_cons_zero, List.set_cons_succ]
                      refine wpAnyH_ready (rs := [10]) (by kernel_rfl) (by simp) ?_
                      refine AllReadyH.cons (o := { dst := none, op := Op.store 24 (Operand.tmp 5) (Operand.tmp 131), type := 0, pos := "law.go:54", after := #[{ on := 4, ground := Ground.data }, { on := 9, ground := Ground.chain }, { on := 0, ground := Ground.phase }, { on := 1, ground := Ground.phase }, { on := 2, ground := Ground.phase }, { on := 3, ground := Ground.phase }, { on := 4, ground := Ground.phase }, { on := 5, ground := Ground.textOnly Departure.lateStores }, { on := 6, ground := Ground.textOnly Departure.lateStores }, { on := 7, ground := Ground.textOnly Departure.lateStores }, { on := 8, ground := Ground.textOnly Departure.lateStores }, { on := 9, ground := Ground.textOnly Departure.lateStoresUnsure }], guard := none }) rfl (fun K hK => ?_) AllReadyH.nil
                      go_simp
                      refine hK.out _ _ ?_ (fun hHeld => ?_)
                      · exact (World.cell?_setCell_far _ _ _ _ (by exact n1_)).trans ((World.cell?_setCell_far _ _ _ _ (by exact n1_)).trans ((World.cell?_setCell_far _ _ _ _ (by exact n1_)).trans zq5_0))
                      clear hK K
                      try simp only [Act.put, List.setIfInBounds_toArray, List.set_cons_zero, List.set_cons_succ]
                      refine wpAnyH_ready (rs := [11]) (by kernel_rfl) (by simp) ?_
                      refine AllReadyH.cons (o := { dst := none, op := Op.store 37 (Operand.tmp 7) (Operand.tmp 136), type := 0, pos := "law.go:54", after := #[{ on := 9, ground := Ground.data }, { on := 10, ground := Ground.chain }, { on := 0, ground := Ground.phase }, { on := 1, ground := Ground.phase }, { on := 2, ground := Ground.phase }, { on := 3, ground := Ground.phase }, { on := 4, ground := Ground.phase }, { on := 5, ground := Ground.phase }, { on := 6, ground := Ground.phase }, { on := 7, ground := Ground.phase }, { on := 8, ground := Ground.phase }, { on := 9, ground := Ground.phase }, { on := 10, ground := Ground.phase }], guard := none }) rfl (fun K hK => ?_) AllReadyH.nil
                      go_simp
                      refine hK.out _ _ ?_ (fun hHeld => ?_)
                      · exact (World.cell?_setCell_far _ _ _ _ (by exact n3_)).trans ((World.cell?_setCell_far _ _ _ _ (by exact n3_)).trans ((World.cell?_setCell_far _ _ _ _ (by exact n3_)).trans ((World.cell?_setCell_far _ _ _ _ (by exact n1_)).trans ((World.cell?_setCell_far _ _ _ _ (by exact n1_)).trans ((World.cell?_setCell_far _ _ _ _ (by exact n1_)).trans zq5_0)))))
                      clear hK K
                      try simp only [Act.put, List.setIfInBounds_toArray, List.set_cons_zero, List.set_cons_succ]
                      refine wpAnyH_done (by kernel_rfl) ?_ _
                      refine NoPanic.normal ?_
                      obtain ⟨hxa, hBa, hTa, hNa⟩ := box_store hx5 hs1 hB5 (.int .i64 room) (.bool false) (.slice A L.length c) _ rfl
                      have hRa := ref24 hx5 (.int .i64 room) (.bool false) (.slice A L.length c) rfl _ _ HR5.out
                      have hTa := hTa _ _ HV5.out
                      have hya := hNa _ _ _ (by omega) hy5
                      have hga := hNa _ _ _ (by omega) hg5
                      obtain ⟨hyb, hBb, hTb, hUb, hNb⟩ := box37 hya (by omega) hBa (.int .i64 room) (.bool false) (.slice Am L.length cm) _ rfl
                      have hxb := hNb _ _ _ (by omega) hxa
                      have hgb := hNb _ _ _ (by omega) hga
                      exact tk.out _ _ _ _ (L) _ _ _ _ _ _ _ _ _ _ _ _ _ _ _ _ _ _ _ _ _ _ _ _ _ _ _ _ _ _ _ _ _ _ _ _ _ _ _ _ _ _ _ _ _ _ _ _ _ _ _ _ _ _ _ _ _ _ _ _ _ _ _ _ _ _ _ _ _ _ hxb hyb hgb hBb (hTb _ _ hTa) (hUb _ _ hRa) (hLr)
                    refine AllReadyH.cons (o := { dst := some 132, op := Op.load 37 (Operand.tmp 7), type := 37, pos := "law.go:54", after := #[], guard := none }) rfl (fun K hK => ?_) AllReadyH.nil
                    go_simp
                    refine hK.out _ _ ?_ (fun hHeld => ?_)
                    · exact hHeld
                    clear hK K
                    try simp only [Act.put, List.setIfInBounds_toArray, List.set_cons_zero, List.set_cons_succ]
                    refine wpAnyH_ready (rs := [4]) (by kernel_rfl) (by simp) ?_
                    refine AllReadyH.cons (o := { dst := some 131, op := Op.call { callee := Callee.value (Operand.func 14), args := #[Operand.tmp 127, Operand.tmp 130], argTypes := #[24, 4] }, type := 24, pos := "law.go:54", after := #[{ on := 0, ground := Ground.data }, { on := 3, ground := Ground.data }], guard := none }) rfl (fun K hK => ?_) AllReadyH.nil
                    go_simp
                    refine (set_up room d _ L _ (by exact HV3.out.below (below_drew1 (Below.refl _ _)))).mono ?_
                    rintro e' w4 ⟨rfl, hb⟩
                    have hx4 := blk_below (blk_drew hx3) hb
                    have hy4 := blk_below (blk_drew hy3) hb
                    have hq4 := blk_below (blk_drew hq3) hb
                    have hg4 := blk_below (blk_drew hg3) hb
                    have hB4 := below_call (below_drew1 hB3) hb
                    have HV4 := Lib.hid ((HV3.out.below (below_drew1 (Below.refl _ _))).below hb)
                    have HR4 := Lib.hid ((HR3.out.below (below_drew1 (Below.refl _ _))).below hb)
                    clear hb hx3 hy3 hq3 hg3 HV3 HR3 hB3
                    clear zx0 fx0 zx1 fx1 zx2 fx2 zy0 fy0 zy1 fy1 zy2 fy2 zq0 fq0 zq1 fq1
                    have zx4_0 : w4.cell? ⟨w1.heap.size, 0, none⟩ = some (.int .i64 room) := (blk_cell hx4 0).trans rfl
                    have fx4_0 := blk_frozen hx4 0
                    have zx4_1 : w4.cell? ⟨w1.heap.size, 1, none⟩ = some (.bool d) := (blk_cell hx4 1).trans rfl
                    have fx4_1 := blk_frozen hx4 1
                    have zx4_2 : w4.cell? ⟨w1.heap.size, 2, none⟩ = some (.slice A L.length c) := (blk_cell hx4 2).trans rfl
                    have fx4_2 := blk_frozen hx4 2
                    have zy4_0 : w4.cell? ⟨w1.heap.size + 1, 0, none⟩ = some (.int .i64 room) := (blk_cell hy4 0).trans rfl
                    have fy4_0 := blk_frozen hy4 0
                    have zy4_1 : w4.cell? ⟨w1.heap.size + 1, 1, none⟩ = some (.bool d) := (blk_cell hy4 1).trans rfl
                    have fy4_1 := blk_frozen hy4 1
                    have zy4_2 : w4.cell? ⟨w1.heap.size + 1, 2, none⟩ = some (.slice Am L.length cm) := (blk_cell hy4 2).trans rfl
                    have fy4_2 := blk_frozen hy4 2
                    have zq4_0 : w4.cell? ⟨wr.heap.size, 0, none⟩ = some (.int .u8 2) := (blk_cell hq4 0).trans rfl
                    have zq4_1 : w4.cell? ⟨wr.heap.size, 1, none⟩ = some (.string s) := (blk_cell hq4 1).trans rfl
                    go_wp2_with fail
                    refine hK.out _ _ ?_ (fun hHeld => ?_)
                    · exact zq4_0
                    clear hK K
                    try simp only [Act.put, List.setIfInBounds_toArray, List.set_cons_zero, List.set_cons_succ]
                    refine wpAnyH_ready (rs := [9]) (by kernel_rfl) (by simp) ?_
                    refine AllReadyH.cons (o := { dst := some 136, op := Op.call { callee := Callee.value (Operand.func 15), args := #[Operand.tmp 132, Operand.tmp 135], argTypes := #[37, 4] }, type := 37, pos := "law.go:54", after := #[{ on := 5, ground := Ground.data }, { on := 8, ground := Ground.data }, { on := 4, ground := Ground.chain }], guard := none }) rfl (fun K hK => ?_) AllReadyH.nil
                    go_simp
                    refine (rset_up room d _ L _ (by exact HR4.out)).mono ?_
                    rintro e' w5 ⟨rfl, hb⟩
                    have hx5 := blk_below (hx4) hb
                    have hy5 := blk_below (hy4) hb
                    have hq5 := blk_below (hq4) hb
                    have hg5 := blk_below (hg4) hb
                    have hB5 := below_call (hB4) hb
                    have HV5 := Lib.hid (HV4.out.below hb)
                    have HR5 := Lib.hid (HR4.out.below hb)
                    clear hb hx4 hy4 hq4 hg4 HV4 HR4 hB4
                    clear zx4_0 zx4_1 zx4_2 zy4_0 zy4_1 zy4_2 zq4_0 zq4_1 fx4_0 fx4_1 fx4_2 fy4_0 fy4_1 fy4_2
                    have zx5_0 : w5.cell? ⟨w1.heap.size, 0, none⟩ = some (.int .i64 room) := (blk_cell hx5 0).trans rfl
                    have fx5_0 := blk_frozen hx5 0
                    have zx5_1 : w5.cell? ⟨w1.heap.size, 1, none⟩ = some (.bool d) := (blk_cell hx5 1).trans rfl
                    have fx5_1 := blk_frozen hx5 1
                    have zx5_2 : w5.cell? ⟨w1.heap.size, 2, none⟩ = some (.slice A L.length c) := (blk_cell hx5 2).trans rfl
                    have fx5_2 := blk_frozen hx5 2
                    have zy5_0 : w5.cell? ⟨w1.heap.size + 1, 0, none⟩ = some (.int .i64 room) := (blk_cell hy5 0).trans rfl
                    have fy5_0 := blk_frozen hy5 0
                    have zy5_1 : w5.cell? ⟨w1.heap.size + 1, 1, none⟩ = some (.bool d) := (blk_cell hy5 1).trans rfl
                    have fy5_1 := blk_frozen hy5 1
                    have zy5_2 : w5.cell? ⟨w1.heap.size + 1, 2, none⟩ = some (.slice Am L.length cm) := (blk_cell hy5 2).trans rfl
                    have fy5_2 := blk_frozen hy5 2
                    have zq5_0 : w5.cell? ⟨wr.heap.size, 0, none⟩ = some (.int .u8 2) := (blk_cell hq5 0).trans rfl
                    have zq5_1 : w5.cell? ⟨wr.heap.size, 1, none⟩ = some (.string s) := (blk_cell hq5 1).trans rfl
                    go_wp2_with fail
                    refine hK.out _ _ ?_ (fun hHeld => ?_)
                    · exact zq5_0
                    clear hK K
                    try simp only [Act.put, List.setIfInBounds_toArray, List.set_cons_zero, List.set_cons_succ]
                    refine wpAnyH_ready (rs := [10]) (by kernel_rfl) (by simp) ?_
                    refine AllReadyH.cons (o := { dst := none, op := Op.store 24 (Operand.tmp 5) (Operand.tmp 131), type := 0, pos := "law.go:54", after := #[{ on := 4, ground := Ground.data }, { on := 9, ground := Ground.chain }, { on := 0, ground := Ground.phase }, { on := 1, ground := Ground.phase }, { on := 2, ground := Ground.phase }, { on := 3, ground := Ground.phase }, { on := 4, ground := Ground.phase }, { on := 5, ground := Ground.textOnly Departure.lateStores }, { on := 6, ground := Ground.textOnly Departure.lateStores }, { on := 7, ground := Ground.textOnly Departure.lateStores }, { on := 8, ground := Ground.textOnly Departure.lateStores }, { on := 9, ground := Ground.textOnly Departure.lateStoresUnsure }], guard := none }) rfl (fun K hK => ?_) AllReadyH.nil
                    go_simp
                    refine hK.out _ _ ?_ (fun hHeld => ?_)
                    · exact (World.cell?_setCell_far _ _ _ _ (by exact n1_)).trans ((World.cell?_setCell_far _ _ _ _ (by exact n1_)).trans ((World.cell?_setCell_far _ _ _ _ (by exact n1_)).trans zq5_0))
                    clear hK K
                    try simp only [Act.put, List.setIfInBounds_toArray, List.set_cons_zero, List.set_cons_succ]
                    refine wpAnyH_ready (rs := [11]) (by kernel_rfl) (by simp) ?_
                    refine AllReadyH.cons (o := { dst := none, op := Op.store 37 (Operand.tmp 7) (Operand.tmp 136), type := 0, pos := "law.go:54", after := #[{ on := 9, ground := Ground.data }, { on := 10, ground := Ground.chain }, { on := 0, ground := Ground.phase }, { on := 1, ground := Ground.phase }, { on := 2, ground := Ground.phase }, { on := 3, ground := Ground.phase }, { on := 4, ground := Ground.phase }, { on := 5, ground := Ground.phase }, { on := 6, ground := Ground.phase }, { on := 7, ground := Ground.phase }, { on := 8, ground := Ground.phase }, { on := 9, ground := Ground.phase }, { on := 10, ground := Ground.phase }], guard := none }) rfl (fun K hK => ?_) AllReadyH.nil
                    go_simp
                    refine hK.out _ _ ?_ (fun hHeld => ?_)
                    · exact (World.cell?_setCell_far _ _ _ _ (by exact n3_)).trans ((World.cell?_setCell_far _ _ _ _ (by exact n3_)).trans ((World.cell?_setCell_far _ _ _ _ (by exact n3_)).trans ((World.cell?_setCell_far _ _ _ _ (by exact n1_)).trans ((World.cell?_setCell_far _ _ _ _ (by exact n1_)).trans ((World.cell?_setCell_far _ _ _ _ (by exact n1_)).trans zq5_0)))))
                    clear hK K
                    try simp only [Act.put, List.setIfInBounds_toArray, List.set_cons_zero, List.set_cons_succ]
                    refine wpAnyH_done (by kernel_rfl) ?_ _
                    refine NoPanic.normal ?_
                    obtain ⟨hxa, hBa, hTa, hNa⟩ := box_store hx5 hs1 hB5 (.int .i64 room) (.bool false) (.slice A L.length c) _ rfl
                    have hRa := ref24 hx5 (.int .i64 room) (.bool false) (.slice A L.length c) rfl _ _ HR5.out
                    have hTa := hTa _ _ HV5.out
                    have hya := hNa _ _ _ (by omega) hy5
                    have hga := hNa _ _ _ (by omega) hg5
                    obtain ⟨hyb, hBb, hTb, hUb, hNb⟩ := box37 hya (by omega) hBa (.int .i64 room) (.bool false) (.slice Am L.length cm) _ rfl
                    have hxb := hNb _ _ _ (by omega) hxa
                    have hgb := hNb _ _ _ (by omega) hga
                    exact tk.out _ _ _ _ (L) _ _ _ _ _ _ _ _ _ _ _ _ _ _ _ _ _ _ _ _ _ _ _ _ _ _ _ _ _ _ _ _ _ _ _ _ _ _ _ _ _ _ _ _ _ _ _ _ _ _ _ _ _ _ _ _ _ _ _ _ _ _ _ _ _ _ _ _ _ _ hxb hyb hgb hBb (hTb _ _ hTa) (hUb _ _ hRa) (hLr)
                  refine AllReadyH.cons (o := { dst := some 132, op := Op.load 37 (Operand.tmp 7), type := 37, pos := "law.go:54", after := #[], guard := none }) rfl (fun K hK => ?_) AllReadyH.nil
                  go_simp
                  refine hK.out _ _ ?_ (fun hHeld => ?_)
                  · exact hHeld
                  clear hK K
                  try simp only [Act.put, List.setIfInBounds_toArray, List.set_cons_zero, List.set_cons_succ]
                  refine wpAnyH_ready (rs := [0]) (by kernel_rfl) (by simp) ?_
                  refine AllReadyH.cons (o := { dst := some 127, op := Op.load 24 (Operand.tmp 5), type := 24, pos := "law.go:54", after := #[], guard := none }) rfl (fun K hK => ?_) AllReadyH.nil
                  go_simp
                  refine hK.out _ _ ?_ (fun hHeld => ?_)
                  · exact hHeld
                  clear hK K
                  try simp only [Act.put, List.setIfInBounds_toArray, List.set_cons_zero, List.set_cons_succ]
                  refine wpAnyH_ready (rs := [4]) (by kernel_rfl) (by simp) ?_
                  refine AllReadyH.cons (o := { dst := some 131, op := Op.call { callee := Callee.value (Operand.func 14), args := #[Operand.tmp 127, Operand.tmp 130], argTypes := #[24, 4] }, type := 24, pos := "law.go:54", after := #[{ on := 0, ground := Ground.data }, { on := 3, ground := Ground.data }], guard := none }) rfl (fun K hK => ?_) AllReadyH.nil
                  go_simp
                  refine (set_up room d _ L _ (by exact HV3.out.below (below_drew1 (Below.refl _ _)))).mono ?_
                  rintro e' w4 ⟨rfl, hb⟩
                  have hx4 := blk_below (blk_drew hx3) hb
                  have hy4 := blk_below (blk_drew hy3) hb
                  have hq4 := blk_below (blk_drew hq3) hb
                  have hg4 := blk_below (blk_drew hg3) hb
                  have hB4 := below_call (below_drew1 hB3) hb
                  have HV4 := Lib.hid ((HV3.out.below (below_drew1 (Below.refl _ _))).below hb)
                  have HR4 := Lib.hid ((HR3.out.below (below_drew1 (Below.refl _ _))).below hb)
                  clear hb hx3 hy3 hq3 hg3 HV3 HR3 hB3
                  clear zx0 fx0 zx1 fx1 zx2 fx2 zy0 fy0 zy1 fy1 zy2 fy2 zq0 fq0 zq1 fq1
                  have zx4_0 : w4.cell? ⟨w1.heap.size, 0, none⟩ = some (.int .i64 room) := (blk_cell hx4 0).trans rfl
                  have fx4_0 := blk_frozen hx4 0
                  have zx4_1 : w4.cell? ⟨w1.heap.size, 1, none⟩ = some (.bool d) := (blk_cell hx4 1).trans rfl
                  have fx4_1 := blk_frozen hx4 1
                  have zx4_2 : w4.cell? ⟨w1.heap.size, 2, none⟩ = some (.slice A L.length c) := (blk_cell hx4 2).trans rfl
                  have fx4_2 := blk_frozen hx4 2
                  have zy4_0 : w4.cell? ⟨w1.heap.size + 1, 0, none⟩ = some (.int .i64 room) := (blk_cell hy4 0).trans rfl
                  have fy4_0 := blk_frozen hy4 0
                  have zy4_1 : w4.cell? ⟨w1.heap.size + 1, 1, none⟩ = some (.bool d) := (blk_cell hy4 1).trans rfl
                  have fy4_1 := blk_frozen hy4 1
                  have zy4_2 : w4.cell? ⟨w1.heap.size + 1, 2, none⟩ = some (.slice Am L.length cm) := (blk_cell hy4 2).trans rfl
                  have fy4_2 := blk_frozen hy4 2
                  have zq4_0 : w4.cell? ⟨wr.heap.size, 0, none⟩ = some (.int .u8 2) := (blk_cell hq4 0).trans rfl
                  have zq4_1 : w4.cell? ⟨wr.heap.size, 1, none⟩ = some (.string s) := (blk_cell hq4 1).trans rfl
                  go_wp2_with fail
                  refine hK.out _ _ ?_ (fun hHeld => ?_)
                  · exact zq4_0
                  clear hK K
                  try simp only [Act.put, List.setIfInBounds_toArray, List.set_cons_zero, List.set_cons_succ]
                  refine wpAnyH_ready (rs := [9]) (by kernel_rfl) (by simp) ?_
                  refine AllReadyH.cons (o := { dst := some 136, op := Op.call { callee := Callee.value (Operand.func 15), args := #[Operand.tmp 132, Operand.tmp 135], argTypes := #[37, 4] }, type := 37, pos := "law.go:54", after := #[{ on := 5, ground := Ground.data }, { on := 8, ground := Ground.data }, { on := 4, ground := Ground.chain }], guard := none }) rfl (fun K hK => ?_) AllReadyH.nil
                  go_simp
                  refine (rset_up room d _ L _ (by exact HR4.out)).mono ?_
                  rintro e' w5 ⟨rfl, hb⟩
                  have hx5 := blk_below (hx4) hb
                  have hy5 := blk_below (hy4) hb
                  have hq5 := blk_below (hq4) hb
                  have hg5 := blk_below (hg4) hb
                  have hB5 := below_call (hB4) hb
                  have HV5 := Lib.hid (HV4.out.below hb)
                  have HR5 := Lib.hid (HR4.out.below hb)
                  clear hb hx4 hy4 hq4 hg4 HV4 HR4 hB4
                  clear zx4_0 zx4_1 zx4_2 zy4_0 zy4_1 zy4_2 zq4_0 zq4_1 fx4_0 fx4_1 fx4_2 fy4_0 fy4_1 fy4_2
                  have zx5_0 : w5.cell? ⟨w1.heap.size, 0, none⟩ = some (.int .i64 room) := (blk_cell hx5 0).trans rfl
                  have fx5_0 := blk_frozen hx5 0
                  have zx5_1 : w5.cell? ⟨w1.heap.size, 1, none⟩ = some (.bool d) := (blk_cell hx5 1).trans rfl
                  have fx5_1 := blk_frozen hx5 1
                  have zx5_2 : w5.cell? ⟨w1.heap.size, 2, none⟩ = some (.slice A L.length c) := (blk_cell hx5 2).trans rfl
                  have fx5_2 := blk_frozen hx5 2
                  have zy5_0 : w5.cell? ⟨w1.heap.size + 1, 0, none⟩ = some (.int .i64 room) := (blk_cell hy5 0).trans rfl
                  have fy5_0 := blk_frozen hy5 0
                  have zy5_1 : w5.cell? ⟨w1.heap.size + 1, 1, none⟩ = some (.bool d) := (blk_cell hy5 1).trans rfl
                  have fy5_1 := blk_frozen hy5 1
                  have zy5_2 : w5.cell? ⟨w1.heap.size + 1, 2, none⟩ = some (.slice Am L.length cm) := (blk_cell hy5 2).trans rfl
                  have fy5_2 := blk_frozen hy5 2
                  have zq5_0 : w5.cell? ⟨wr.heap.size, 0, none⟩ = some (.int .u8 2) := (blk_cell hq5 0).trans rfl
                  have zq5_1 : w5.cell? ⟨wr.heap.size, 1, none⟩ = some (.string s) := (blk_cell hq5 1).trans rfl
                  go_wp2_with fail
                  refine hK.out _ _ ?_ (fun hHeld => ?_)
                  · exact zq5_0
                  clear hK K
                  try simp only [Act.put, List.setIfInBounds_toArray, List.set_cons_zero, List.set_cons_succ]
                  refine wpAnyH_ready (rs := [10]) (by kernel_rfl) (by simp) ?_
                  refine AllReadyH.cons (o := { dst := none, op := Op.store 24 (Operand.tmp 5) (Operand.tmp 131), type := 0, pos := "law.go:54", after := #[{ on := 4, ground := Ground.data }, { on := 9, ground := Ground.chain }, { on := 0, ground := Ground.phase }, { on := 1, ground := Ground.phase }, { on := 2, ground := Ground.phase }, { on := 3, ground := Ground.phase }, { on := 4, ground := Ground.phase }, { on := 5, ground := Ground.textOnly Departure.lateStores }, { on := 6, ground := Ground.textOnly Departure.lateStores }, { on := 7, ground := Ground.textOnly Departure.lateStores }, { on := 8, ground := Ground.textOnly Departure.lateStores }, { on := 9, ground := Ground.textOnly Departure.lateStoresUnsure }], guard := none }) rfl (fun K hK => ?_) AllReadyH.nil
                  go_simp
                  refine hK.out _ _ ?_ (fun hHeld => ?_)
                  · exact (World.cell?_setCell_far _ _ _ _ (by exact n1_)).trans ((World.cell?_setCell_far _ _ _ _ (by exact n1_)).trans ((World.cell?_setCell_far _ _ _ _ (by exact n1_)).trans zq5_0))
                  clear hK K
                  try simp only [Act.put, List.setIfInBounds_toArray, List.set_cons_zero, List.set_cons_succ]
                  refine wpAnyH_ready (rs := [11]) (by kernel_rfl) (by simp) ?_
                  refine AllReadyH.cons (o := { dst := none, op := Op.store 37 (Operand.tmp 7) (Operand.tmp 136), type := 0, pos := "law.go:54", after := #[{ on := 9, ground := Ground.data }, { on := 10, ground := Ground.chain }, { on := 0, ground := Ground.phase }, { on := 1, ground := Ground.phase }, { on := 2, ground := Ground.phase }, { on := 3, ground := Ground.phase }, { on := 4, ground := Ground.phase }, { on := 5, ground := Ground.phase }, { on := 6, ground := Ground.phase }, { on := 7, ground := Ground.phase }, { on := 8, ground := Ground.phase }, { on := 9, ground := Ground.phase }, { on := 10, ground := Ground.phase }], guard := none }) rfl (fun K hK => ?_) AllReadyH.nil
                  go_simp
                  refine hK.out _ _ ?_ (fun hHeld => ?_)
                  · exact (World.cell?_setCell_far _ _ _ _ (by exact n3_)).trans ((World.cell?_setCell_far _ _ _ _ (by exact n3_)).trans ((World.cell?_setCell_far _ _ _ _ (by exact n3_)).trans ((World.cell?_setCell_far _ _ _ _ (by exact n1_)).trans ((World.cell?_setCell_far _ _ _ _ (by exact n1_)).trans ((World.cell?_setCell_far _ _ _ _ (by exact n1_)).trans zq5_0)))))
                  clear hK K
                  try simp only [Act.put, List.setIfInBounds_toArray, List.set_cons_zero, List.set_cons_succ]
                  refine wpAnyH_done (by kernel_rfl) ?_ _
                  refine NoPanic.normal ?_
                  obtain ⟨hxa, hBa, hTa, hNa⟩ := box_store hx5 hs1 hB5 (.int .i64 room) (.bool false) (.slice A L.length c) _ rfl
                  have hRa := ref24 hx5 (.int .i64 room) (.bool false) (.slice A L.length c) rfl _ _ HR5.out
                  have hTa := hTa _ _ HV5.out
                  have hya := hNa _ _ _ (by omega) hy5
                  have hga := hNa _ _ _ (by omega) hg5
                  obtain ⟨hyb, hBb, hTb, hUb, hNb⟩ := box37 hya (by omega) hBa (.int .i64 room) (.bool false) (.slice Am L.length cm) _ rfl
                  have hxb := hNb _ _ _ (by omega) hxa
                  have hgb := hNb _ _ _ (by omega) hga
                  exact tk.out _ _ _ _ (L) _ _ _ _ _ _ _ _ _ _ _ _ _ _ _ _ _ _ _ _ _ _ _ _ _ _ _ _ _ _ _ _ _ _ _ _ _ _ _ _ _ _ _ _ _ _ _ _ _ _ _ _ _ _ _ _ _ _ _ _ _ _ _ _ _ _ _ _ _ _ hxb hyb hgb hBb (hTb _ _ hTa) (hUb _ _ hRa) (hLr)
                · by_cases ha3 : a = 3
                  · subst ha3
                    have tx := blk_lt hx3
                    have zx0 : W3.cell? ⟨w1.heap.size, 0, none⟩ = some (.int .i64 room) := (blk_cell hx3 0).trans rfl
                    have fx0 := blk_frozen hx3 0
                    have zx1 : W3.cell? ⟨w1.heap.size, 1, none⟩ = some (.bool d) := (blk_cell hx3 1).trans rfl
                    have fx1 := blk_frozen hx3 1
                    have zx2 : W3.cell? ⟨w1.heap.size, 2, none⟩ = some (.slice A L.length c) := (blk_cell hx3 2).trans rfl
                    have fx2 := blk_frozen hx3 2
                    have ty := blk_lt hy3
                    have zy0 : W3.cell? ⟨w1.heap.size + 1, 0, none⟩ = some (.int .i64 room) := (blk_cell hy3 0).trans rfl
                    have fy0 := blk_frozen hy3 0
                    have zy1 : W3.cell? ⟨w1.heap.size + 1, 1, none⟩ = some (.bool d) := (blk_cell hy3 1).trans rfl
                    have fy1 := blk_frozen hy3 1
                    have zy2 : W3.cell? ⟨w1.heap.size + 1, 2, none⟩ = some (.slice Am L.length cm) := (blk_cell hy3 2).trans rfl
                    have fy2 := blk_frozen hy3 2
                    have tq := blk_lt hq3
                    have zq0 : W3.cell? ⟨wr.heap.size, 0, none⟩ = some (.int .u8 3) := (blk_cell hq3 0).trans rfl
                    have fq0 := blk_frozen hq3 0
                    have zq1 : W3.cell? ⟨wr.heap.size, 1, none⟩ = some (.string s) := (blk_cell hq3 1).trans rfl
                    have fq1 := blk_frozen hq3 1
                    clear tx ty tq
                    have n1_ : w1.heap.size ≠ wr.heap.size := by omega
                    have n2_ : wr.heap.size ≠ w1.heap.size := by omega
                    have n3_ : w1.heap.size + 1 ≠ wr.heap.size := by omega
                    have n4_ : wr.heap.size ≠ w1.heap.size + 1 := by omega
                    go_wp2_with fail
                    refine wp_region_noPanic ?_
                    refine wp_region_held_drew (S := (fun w' => w'.cell? ⟨wr.heap.size, 0, none⟩ = some (.int .u8 3))) (by kernel_rfl) (by exact zq0) (fun hHeld => ?_)
                    refine wpAnyH_take (i := 1) (oi := { dst := some 128, op := Op.fieldAddr 39 (Operand.tmp 9) 0, type := 0, pos := "law.go:54", after := #[], guard := none }) (v := ?_) rfl (by kernel_rfl) (by kernel_rfl) (by kernel_rfl) (fun _ _ _ h => h) (Or.inl ⟨by rfl, ?_⟩) (by assumption) ?_
                    rotate_left
                    · (intro w hSw; (try dsimp only at hSw); go_simp); all_goals with_reducible rfl
                    try simp only [Act.put, List.setIfInBounds_toArray, List.set_cons_zero, List.set_cons_succ]
                    refine wpAnyH_take (i := 2) (oi := { dst := some 129, op := Op.load 5 (Operand.tmp 128), type := 5, pos := "law.go:54", after := #[{ on := 1, ground := Ground.data }], guard := none }) (v := ?_) rfl (by kernel_rfl) (by kernel_rfl) (by kernel_rfl) (fun _ _ _ h => h) (Or.inl ⟨by rfl, ?_⟩) (by assumption) ?_
                    rotate_left
                    · (intro w hSw; (try dsimp only at hSw); go_simp); all_goals with_reducible rfl
                    try simp only [Act.put, List.setIfInBounds_toArray, List.set_cons_zero, List.set_cons_succ]
                    refine wpAnyH_take (i := 3) (oi := { dst := some 130, op := Op.binOp BinOp.eql 5 (Operand.tmp 129) (Operand.const (Value.int IntKind.u8 2)) 5, type := 4, pos := "law.go:54", after := #[{ on := 2, ground := Ground.data }], guard := none }) (v := ?_) rfl (by kernel_rfl) (by kernel_rfl) (by kernel_rfl) (fun _ _ _ h => h) (Or.inl ⟨by rfl, ?_⟩) (by assumption) ?_
                    rotate_left
                    · (intro w hSw; (try dsimp only at hSw); go_simp); all_goals with_reducible rfl
                    try simp only [Act.put, List.setIfInBounds_toArray, List.set_cons_zero, List.set_cons_succ]
                    refine wpAnyH_take (i := 6) (oi := { dst := some 133, op := Op.fieldAddr 39 (Operand.tmp 9) 0, type := 0, pos := "law.go:54", after := #[], guard := none }) (v := ?_) rfl (by kernel_rfl) (by kernel_rfl) (by kernel_rfl) (fun _ _ _ h => h) (Or.inl ⟨by rfl, ?_⟩) (by assumption) ?_
                    rotate_left
                    · (intro w hSw; (try dsimp only at hSw); go_simp); all_goals with_reducible rfl
                    try simp only [Act.put, List.setIfInBounds_toArray, List.set_cons_zero, List.set_cons_succ]
                    refine wpAnyH_take (i := 7) (oi := { dst := some 134, op := Op.load 5 (Operand.tmp 133), type := 5, pos := "law.go:54", after := #[{ on := 6, ground := Ground.data }], guard := none }) (v := ?_) rfl (by kernel_rfl) (by kernel_rfl) (by kernel_rfl) (fun _ _ _ h => h) (Or.inl ⟨by rfl, ?_⟩) (by assumption) ?_
                    rotate_left
                    · (intro w hSw; (try dsimp only at hSw); go_simp); all_goals with_reducible rfl
                    try simp only [Act.put, List.setIfInBounds_toArray, List.set_cons_zero, List.set_cons_succ]
                    refine wpAnyH_take (i := 8) (oi := { dst := some 135, op := Op.binOp BinOp.eql 5 (Operand.tmp 134) (Operand.const (Value.int IntKind.u8 2)) 5, type := 4, pos := "law.go:54", after := #[{ on := 7, ground := Ground.data }], guard := none }) (v := ?_) rfl (by kernel_rfl) (by kernel_rfl) (by kernel_rfl) (fun _ _ _ h => h) (Or.inl ⟨by rfl, ?_⟩) (by assumption) ?_
                    rotate_left
                    · (intro w hSw; (try dsimp only at hSw); go_simp); all_goals with_reducible rfl
                    try simp only [Act.put, List.setIfInBounds_toArray, List.set_cons_zero, List.set_cons_succ]
                    refine wpAnyH_ready (rs := [0, 5]) (by kernel_rfl) (by simp) ?_
                    refine AllReadyH.cons (o := { dst := some 127, op := Op.load 24 (Operand.tmp 5), type := 24, pos := "law.go:54", after := #[], guard := none }) rfl (fun K hK => ?_) ?_
                    · skip
                      go_simp
                      refine hK.out _ _ ?_ (fun hHeld => ?_)
                      · exact hHeld
                      clear hK K
                      try simp only [Act.put, List.setIfInBounds_toArray, List.set_cons_zero, List.set_cons_succ]
                      refine wpAnyH_ready (rs := [4, 5]) (by kernel_rfl) (by simp) ?_
                      refine AllReadyH.cons (o := { dst := some 131, op := Op.call { callee := Callee.value (Operand.func 14), args := #[Operand.tmp 127, Operand.tmp 130], argTypes := #[24, 4] }, type := 24, pos := "law.go:54", after := #[{ on := 0, ground := Ground.data }, { on := 3, ground := Ground.data }], guard := none }) rfl (fun K hK => ?_) ?_
                      · skip
                        go_simp
                        refine (set_down room d _ L _ (by exact HV3.out.below (below_drew1 (Below.refl _ _)))).mono ?_
                        rintro e' w4 ⟨rfl, hb⟩
                        have hx4 := blk_below (blk_drew hx3) hb
                        have hy4 := blk_below (blk_drew hy3) hb
                        have hq4 := blk_below (blk_drew hq3) hb
                        have hg4 := blk_below (blk_drew hg3) hb
                        have hB4 := below_call (below_drew1 hB3) hb
                        have HV4 := Lib.hid ((HV3.out.below (below_drew1 (Below.refl _ _))).below hb)
                        have HR4 := Lib.hid ((HR3.out.below (below_drew1 (Below.refl _ _))).below hb)
                        clear hb hx3 hy3 hq3 hg3 HV3 HR3 hB3
                        clear zx0 fx0 zx1 fx1 zx2 fx2 zy0 fy0 zy1 fy1 zy2 fy2 zq0 fq0 zq1 fq1
                        have zx4_0 : w4.cell? ⟨w1.heap.size, 0, none⟩ = some (.int .i64 room) := (blk_cell hx4 0).trans rfl
                        have fx4_0 := blk_frozen hx4 0
                        have zx4_1 : w4.cell? ⟨w1.heap.size, 1, none⟩ = some (.bool d) := (blk_cell hx4 1).trans rfl
                        have fx4_1 := blk_frozen hx4 1
                        have zx4_2 : w4.cell? ⟨w1.heap.size, 2, none⟩ = some (.slice A L.length c) := (blk_cell hx4 2).trans rfl
                        have fx4_2 := blk_frozen hx4 2
                        have zy4_0 : w4.cell? ⟨w1.heap.size + 1, 0, none⟩ = some (.int .i64 room) := (blk_cell hy4 0).trans rfl
                        have fy4_0 := blk_frozen hy4 0
                        have zy4_1 : w4.cell? ⟨w1.heap.size + 1, 1, none⟩ = some (.bool d) := (blk_cell hy4 1).trans rfl
                        have fy4_1 := blk_frozen hy4 1
                        have zy4_2 : w4.cell? ⟨w1.heap.size + 1, 2, none⟩ = some (.slice Am L.length cm) := (blk_cell hy4 2).trans rfl
                        have fy4_2 := blk_frozen hy4 2
                        have zq4_0 : w4.cell? ⟨wr.heap.size, 0, none⟩ = some (.int .u8 3) := (blk_cell hq4 0).trans rfl
                        have zq4_1 : w4.cell? ⟨wr.heap.size, 1, none⟩ = some (.string s) := (blk_cell hq4 1).trans rfl
                        go_wp2_with fail
                        refine hK.out _ _ ?_ (fun hHeld => ?_)
                        · exact zq4_0
                        clear hK K
                        try simp only [Act.put, List.setIfInBounds_toArray, List.set_cons_zero, List.set_cons_succ]
                        refine wpAnyH_ready (rs := [5]) (by kernel_rfl) (by simp) ?_
                        refine AllReadyH.cons (o := { dst := some 132, op := Op.load 37 (Operand.tmp 7), type := 37, pos := "law.go:54", after := #[], guard := none }) rfl (fun K hK => ?_) AllReadyH.nil
                        go_simp
                        refine hK.out _ _ ?_ (fun hHeld => ?_)
                        · exact hHeld
                        clear hK K
                        try simp only [Act.put, List.setIfInBounds_toArray, List.set_cons_zero, List.set_cons_succ]
                        refine wpAnyH_ready (rs := [9]) (by kernel_rfl) (by simp) ?_
                        refine AllReadyH.cons (o := { dst := some 136, op := Op.call { callee := Callee.value (Operand.func 15), args := #[Operand.tmp 132, Operand.tmp 135], argTypes := #[37, 4] }, type := 37, pos := "law.go:54", after := #[{ on := 5, ground := Ground.data }, { on := 8, ground := Ground.data }, { on := 4, ground := Ground.chain }], guard := none }) rfl (fun K hK => ?_) AllReadyH.nil
                        go_simp
                        refine (rset_down room d _ L _ (by exact HR4.out)).mono ?_
                        rintro e' w5 ⟨rfl, hb⟩
                        have hx5 := blk_below (hx4) hb
                        have hy5 := blk_below (hy4) hb
                        have hq5 := blk_below (hq4) hb
                        have hg5 := blk_below (hg4) hb
                        have hB5 := below_call (hB4) hb
                        have HV5 := Lib.hid (HV4.out.below hb)
                        have HR5 := Lib.hid (HR4.out.below hb)
                        clear hb hx4 hy4 hq4 hg4 HV4 HR4 hB4
                        clear zx4_0 zx4_1 zx4_2 zy4_0 zy4_1 zy4_2 zq4_0 zq4_1 fx4_0 fx4_1 fx4_2 fy4_0 fy4_1 fy4_2
                        have zx5_0 : w5.cell? ⟨w1.heap.size, 0, none⟩ = some (.int .i64 room) := (blk_cell hx5 0).trans rfl
                        have fx5_0 := blk_frozen hx5 0
                        have zx5_1 : w5.cell? ⟨w1.heap.size, 1, none⟩ = some (.bool d) := (blk_cell hx5 1).trans rfl
                        have fx5_1 := blk_frozen hx5 1
                        have zx5_2 : w5.cell? ⟨w1.heap.size, 2, none⟩ = some (.slice A L.length c) := (blk_cell hx5 2).trans rfl
                        have fx5_2 := blk_frozen hx5 2
                        have zy5_0 : w5.cell? ⟨w1.heap.size + 1, 0, none⟩ = some (.int .i64 room) := (blk_cell hy5 0).trans rfl
                        have fy5_0 := blk_frozen hy5 0
                        have zy5_1 : w5.cell? ⟨w1.heap.size + 1, 1, none⟩ = some (.bool d) := (blk_cell hy5 1).trans rfl
                        have fy5_1 := blk_frozen hy5 1
                        have zy5_2 : w5.cell? ⟨w1.heap.size + 1, 2, none⟩ = some (.slice Am L.length cm) := (blk_cell hy5 2).trans rfl
                        have fy5_2 := blk_frozen hy5 2
                        have zq5_0 : w5.cell? ⟨wr.heap.size, 0, none⟩ = some (.int .u8 3) := (blk_cell hq5 0).trans rfl
                        have zq5_1 : w5.cell? ⟨wr.heap.size, 1, none⟩ = some (.string s) := (blk_cell hq5 1).trans rfl
                        go_wp2_with fail
                        refine hK.out _ _ ?_ (fun hHeld => ?_)
                        · exact zq5_0
                        clear hK K
                        try simp only [Act.put, List.setIfInBounds_toArray, List.set_cons_zero, List.set_cons_succ]
                        refine wpAnyH_ready (rs := [10]) (by kernel_rfl) (by simp) ?_
                        refine AllReadyH.cons (o := { dst := none, op := Op.store 24 (Operand.tmp 5) (Operand.tmp 131), type := 0, pos := "law.go:54", after := #[{ on := 4, ground := Ground.data }, { on := 9, ground := Ground.chain }, { on := 0, ground := Ground.phase }, { on := 1, ground := Ground.phase }, { on := 2, ground := Ground.phase }, { on := 3, ground := Ground.phase }, { on := 4, ground := Ground.phase }, { on := 5, ground := Ground.textOnly Departure.lateStores }, { on := 6, ground := Ground.textOnly Departure.lateStores }, { on := 7, ground := Ground.textOnly Departure.lateStores }, { on := 8, ground := Ground.textOnly Departure.lateStores }, { on := 9, ground := Ground.textOnly Departure.lateStoresUnsure }], guard := none }) rfl (fun K hK => ?_) AllReadyH.nil
                        go_simp
                        refine hK.out _ _ ?_ (fun hHeld => ?_)
                        · exact (World.cell?_setCell_far _ _ _ _ (by exact n1_)).trans ((World.cell?_setCell_far _ _ _ _ (by exact n1_)).trans ((World.cell?_setCell_far _ _ _ _ (by exact n1_)).trans zq5_0))
                        clear hK K
                        try simp only [Act.put, List.setIfInBounds_toArray, List.set_cons_zero, List.set_cons_succ]
                        refine wpAnyH_ready (rs := [11]) (by kernel_rfl) (by simp) ?_
                        refine AllReadyH.cons (o := { dst := none, op := Op.store 37 (Operand.tmp 7) (Operand.tmp 136), type := 0, pos := "law.go:54", after := #[{ on := 9, ground := Ground.data }, { on := 10, ground := Ground.chain }, { on := 0, ground := Ground.phase }, { on := 1, ground := Ground.phase }, { on := 2, ground := Ground.phase }, { on := 3, ground := Ground.phase }, { on := 4, ground := Ground.phase }, { on := 5, ground := Ground.phase }, { on := 6, ground := Ground.phase }, { on := 7, ground := Ground.phase }, { on := 8, ground := Ground.phase }, { on := 9, ground := Ground.phase }, { on := 10, ground := Ground.phase }], guard := none }) rfl (fun K hK => ?_) AllReadyH.nil
                        go_simp
                        refine hK.out _ _ ?_ (fun hHeld => ?_)
                        · exact (World.cell?_setCell_far _ _ _ _ (by exact n3_)).trans ((World.cell?_setCell_far _ _ _ _ (by exact n3_)).trans ((World.cell?_setCell_far _ _ _ _ (by exact n3_)).trans ((World.cell?_setCell_far _ _ _ _ (by exact n1_)).trans ((World.cell?_setCell_far _ _ _ _ (by exact n1_)).trans ((World.cell?_setCell_far _ _ _ _ (by exact n1_)).trans zq5_0)))))
                        clear hK K
                        try simp only [Act.put, List.setIfInBounds_toArray, List.set_cons_zero, List.set_cons_succ]
                        refine wpAnyH_done (by kernel_rfl) ?_ _
                        refine NoPanic.normal ?_
                        obtain ⟨hxa, hBa, hTa, hNa⟩ := box_store hx5 hs1 hB5 (.int .i64 room) (.bool true) (.slice none 0 0) _ rfl
                        have hRa := ref24 hx5 (.int .i64 room) (.bool true) (.slice none 0 0) rfl _ _ HR5.out
                        have hTa := hTa _ _ HV5.out
                        have hya := hNa _ _ _ (by omega) hy5
                        have hga := hNa _ _ _ (by omega) hg5
                        obtain ⟨hyb, hBb, hTb, hUb, hNb⟩ := box37 hya (by omega) hBa (.int .i64 room) (.bool true) (.slice none 0 0) _ rfl
                        have hxb := hNb _ _ _ (by omega) hxa
                        have hgb := hNb _ _ _ (by omega) hga
                        exact tk.out _ _ _ _ ([]) _ _ _ _ _ _ _ _ _ _ _ _ _ _ _ _ _ _ _ _ _ _ _ _ _ _ _ _ _ _ _ _ _ _ _ _ _ _ _ _ _ _ _ _ _ _ _ _ _ _ _ _ _ _ _ _ _ _ _ _ _ _ _ _ _ _ _ _ _ _ hxb hyb hgb hBb (WireV.nil _) (RefV.nil _) (by simp; omega)
                      refine AllReadyH.cons (o := { dst := some 132, op := Op.load 37 (Operand.tmp 7), type := 37, pos := "law.go:54", after := #[], guard := none }) rfl (fun K hK => ?_) AllReadyH.nil
                      go_simp
                      refine hK.out _ _ ?_ (fun hHeld => ?_)
                      · exact hHeld
                      clear hK K
                      try simp only [Act.put, List.setIfInBounds_toArray, List.set_cons_zero, List.set_cons_succ]
                      refine wpAnyH_ready (rs := [4]) (by kernel_rfl) (by simp) ?_
                      refine AllReadyH.cons (o := { dst := some 131, op := Op.call { callee := Callee.value (Operand.func 14), args := #[Operand.tmp 127, Operand.tmp 130], argTypes := #[24, 4] }, type := 24, pos := "law.go:54", after := #[{ on := 0, ground := Ground.data }, { on := 3, ground := Ground.data }], guard := none }) rfl (fun K hK => ?_) AllReadyH.nil
                      go_simp
                      refine (set_down room d _ L _ (by exact HV3.out.below (below_drew1 (Below.refl _ _)))).mono ?_
                      rintro e' w4 ⟨rfl, hb⟩
                      have hx4 := blk_below (blk_drew hx3) hb
                      have hy4 := blk_below (blk_drew hy3) hb
                      have hq4 := blk_below (blk_drew hq3) hb
                      have hg4 := blk_below (blk_drew hg3) hb
                      have hB4 := below_call (below_drew1 hB3) hb
                      have HV4 := Lib.hid ((HV3.out.below (below_drew1 (Below.refl _ _))).below hb)
                      have HR4 := Lib.hid ((HR3.out.below (below_drew1 (Below.refl _ _))).below hb)
                      clear hb hx3 hy3 hq3 hg3 HV3 HR3 hB3
                      clear zx0 fx0 zx1 fx1 zx2 fx2 zy0 fy0 zy1 fy1 zy2 fy2 zq0 fq0 zq1 fq1
                      have zx4_0 : w4.cell? ⟨w1.heap.size, 0, none⟩ = some (.int .i64 room) := (blk_cell hx4 0).trans rfl
                      have fx4_0 := blk_frozen hx4 0
                      have zx4_1 : w4.cell? ⟨w1.heap.size, 1, none⟩ = some (.bool d) := (blk_cell hx4 1).trans rfl
                      have fx4_1 := blk_frozen hx4 1
                      have zx4_2 : w4.cell? ⟨w1.heap.size, 2, none⟩ = some (.slice A L.length c) := (blk_cell hx4 2).trans rfl
                      have fx4_2 := blk_frozen hx4 2
                      have zy4_0 : w4.cell? ⟨w1.heap.size + 1, 0, none⟩ = some (.int .i64 room) := (blk_cell hy4 0).trans rfl
                      have fy4_0 := blk_frozen hy4 0
                      have zy4_1 : w4.cell? ⟨w1.heap.size + 1, 1, none⟩ = some (.bool d) := (blk_cell hy4 1).trans rfl
                      have fy4_1 := blk_frozen hy4 1
                      have zy4_2 : w4.cell? ⟨w1.heap.size + 1, 2, none⟩ = some (.slice Am L.length cm) := (blk_cell hy4 2).trans rfl
                      have fy4_2 := blk_frozen hy4 2
                      have zq4_0 : w4.cell? ⟨wr.heap.size, 0, none⟩ = some (.int .u8 3) := (blk_cell hq4 0).trans rfl
                      have zq4_1 : w4.cell? ⟨wr.heap.size, 1, none⟩ = some (.string s) := (blk_cell hq4 1).trans rfl
                      go_wp2_with fail
                      refine hK.out _ _ ?_ (fun hHeld => ?_)
                      · exact zq4_0
                      clear hK K
                      try simp only [Act.put, List.setIfInBounds_toArray, List.set_cons_zero, List.set_cons_succ]
                      refine wpAnyH_ready (rs := [9]) (by kernel_rfl) (by simp) ?_
                      refine AllReadyH.cons (o := { dst := some 136, op := Op.call { callee := Callee.value (Operand.func 15), args := #[Operand.tmp 132, Operand.tmp 135], argTypes := #[37, 4] }, type := 37, pos := "law.go:54", after := #[{ on := 5, ground := Ground.data }, { on := 8, ground := Ground.data }, { on := 4, ground := Ground.chain }], guard := none }) rfl (fun K hK => ?_) AllReadyH.nil
                      go_simp
                      refine (rset_down room d _ L _ (by exact HR4.out)).mono ?_
                      rintro e' w5 ⟨rfl, hb⟩
                      have hx5 := blk_below (hx4) hb
                      have hy5 := blk_below (hy4) hb
                      have hq5 := blk_below (hq4) hb
                      have hg5 := blk_below (hg4) hb
                      have hB5 := below_call (hB4) hb
                      have HV5 := Lib.hid (HV4.out.below hb)
                      have HR5 := Lib.hid (HR4.out.below hb)
                      clear hb hx4 hy4 hq4 hg4 HV4 HR4 hB4
                      clear zx4_0 zx4_1 zx4_2 zy4_0 zy4_1 zy4_2 zq4_0 zq4_1 fx4_0 fx4_1 fx4_2 fy4_0 fy4_1 fy4_2
                      have zx5_0 : w5.cell? ⟨w1.heap.size, 0, none⟩ = some (.int .i64 room) := (blk_cell hx5 0).trans rfl
                      have fx5_0 := blk_frozen hx5 0
                      have zx5_1 : w5.cell? ⟨w1.heap.size, 1, none⟩ = some (.bool d) := (blk_cell hx5 1).trans rfl
                      have fx5_1 := blk_frozen hx5 1
                      have zx5_2 : w5.cell? ⟨w1.heap.size, 2, none⟩ = some (.slice A L.length c) := (blk_cell hx5 2).trans rfl
                      have fx5_2 := blk_frozen hx5 2
                      have zy5_0 : w5.cell? ⟨w1.heap.size + 1, 0, none⟩ = some (.int .i64 room) := (blk_cell hy5 0).trans rfl
                      have fy5_0 := blk_frozen hy5 0
                      have zy5_1 : w5.cell? ⟨w1.heap.size + 1, 1, none⟩ = some (.bool d) := (blk_cell hy5 1).trans rfl
                      have fy5_1 := blk_frozen hy5 1
                      have zy5_2 : w5.cell? ⟨w1.heap.size + 1, 2, none⟩ = some (.slice Am L.length cm) := (blk_cell hy5 2).trans rfl
                      have fy5_2 := blk_frozen hy5 2
                      have zq5_0 : w5.cell? ⟨wr.heap.size, 0, none⟩ = some (.int .u8 3) := (blk_cell hq5 0).trans rfl
                      have zq5_1 : w5.cell? ⟨wr.heap.size, 1, none⟩ = some (.string s) := (blk_cell hq5 1).trans rfl
                      go_wp2_with fail
                      refine hK.out _ _ ?_ (fun hHeld => ?_)
                      · exact zq5_0
                      clear hK K
                      try simp only [Act.put, List.setIfInBounds_toArray, List.set_cons_zero, List.set_cons_succ]
                      refine wpAnyH_ready (rs := [10]) (by kernel_rfl) (by simp) ?_
                      refine AllReadyH.cons (o := { dst := none, op := Op.store 24 (Operand.tmp 5) (Operand.tmp 131), type := 0, pos := "law.go:54", after := #[{ on := 4, ground := Ground.data }, { on := 9, ground := Ground.chain }, { on := 0, ground := Ground.phase }, { on := 1, ground := Ground.phase }, { on := 2, ground := Ground.phase }, { on := 3, ground := Ground.phase }, { on := 4, ground := Ground.phase }, { on := 5, ground := Ground.textOnly Departure.lateStores }, { on := 6, ground := Ground.textOnly Departure.lateStores }, { on := 7, ground := Ground.textOnly Departure.lateStores }, { on := 8, ground := Ground.textOnly Departure.lateStores }, { on := 9, ground := Ground.textOnly Departure.lateStoresUnsure }], guard := none }) rfl (fun K hK => ?_) AllReadyH.nil
                      go_simp
                      refine hK.out _ _ ?_ (fun hHeld => ?_)
                      · exact (World.cell?_setCell_far _ _ _ _ (by exact n1_)).trans ((World.cell?_setCell_far _ _ _ _ (by exact n1_)).trans ((World.cell?_setCell_far _ _ _ _ (by exact n1_)).trans zq5_0))
                      clear hK K
                      try simp only [Act.put, List.setIfInBounds_toArray, List.set_cons_zero, List.set_cons_succ]
                      refine wpAnyH_ready (rs := [11]) (by kernel_rfl) (by simp) ?_
                      refine AllReadyH.cons (o := { dst := none, op := Op.store 37 (Operand.tmp 7) (Operand.tmp 136), type := 0, pos := "law.go:54", after := #[{ on := 9, ground := Ground.data }, { on := 10, ground := Ground.chain }, { on := 0, ground := Ground.phase }, { on := 1, ground := Ground.phase }, { on := 2, ground := Ground.phase }, { on := 3, ground := Ground.phase }, { on := 4, ground := Ground.phase }, { on := 5, ground := Ground.phase }, { on := 6, ground := Ground.phase }, { on := 7, ground := Ground.phase }, { on := 8, ground := Ground.phase }, { on := 9, ground := Ground.phase }, { on := 10, ground := Ground.phase }], guard := none }) rfl (fun K hK => ?_) AllReadyH.nil
                      go_simp
                      refine hK.out _ _ ?_ (fun hHeld => ?_)
                      · exact (World.cell?_setCell_far _ _ _ _ (by exact n3_)).trans ((World.cell?_setCell_far _ _ _ _ (by exact n3_)).trans ((World.cell?_setCell_far _ _ _ _ (by exact n3_)).trans ((World.cell?_setCell_far _ _ _ _ (by exact n1_)).trans ((World.cell?_setCell_far _ _ _ _ (by exact n1_)).trans ((World.cell?_setCell_far _ _ _ _ (by exact n1_)).trans zq5_0)))))
                      clear hK K
                      try simp only [Act.put, List.setIfInBounds_toArray, List.set_cons_zero, List.set_cons_succ]
                      refine wpAnyH_done (by kernel_rfl) ?_ _
                      refine NoPanic.normal ?_
                      obtain ⟨hxa, hBa, hTa, hNa⟩ := box_store hx5 hs1 hB5 (.int .i64 room) (.bool true) (.slice none 0 0) _ rfl
                      have hRa := ref24 hx5 (.int .i64 room) (.bool true) (.slice none 0 0) rfl _ _ HR5.out
                      have hTa := hTa _ _ HV5.out
                      have hya := hNa _ _ _ (by omega) hy5
                      have hga := hNa _ _ _ (by omega) hg5
                      obtain ⟨hyb, hBb, hTb, hUb, hNb⟩ := box37 hya (by omega) hBa (.int .i64 room) (.bool true) (.slice none 0 0) _ rfl
                      have hxb := hNb _ _ _ (by omega) hxa
                      have hgb := hNb _ _ _ (by omega) hga
                      exact tk.out _ _ _ _ ([]) _ _ _ _ _ _ _ _ _ _ _ _ _ _ _ _ _ _ _ _ _ _ _ _ _ _ _ _ _ _ _ _ _ _ _ _ _ _ _ _ _ _ _ _ _ _ _ _ _ _ _ _ _ _ _ _ _ _ _ _ _ _ _ _ _ _ _ _ _ _ hxb hyb hgb hBb (WireV.nil _) (RefV.nil _) (by simp; omega)
                    refine AllReadyH.cons (o := { dst := some 132, op := Op.load 37 (Operand.tmp 7), type := 37, pos := "law.go:54", after := #[], guard := none }) rfl (fun K hK => ?_) AllReadyH.nil
                    go_simp
                    refine hK.out _ _ ?_ (fun hHeld => ?_)
                    · exact hHeld
                    clear hK K
                    try simp only [Act.put, List.setIfInBounds_toArray, List.set_cons_zero, List.set_cons_succ]
                    refine wpAnyH_ready (rs := [0]) (by kernel_rfl) (by simp) ?_
                    refine AllReadyH.cons (o := { dst := some 127, op := Op.load 24 (Operand.tmp 5), type := 24, pos := "law.go:54", after := #[], guard := none }) rfl (fun K hK => ?_) AllReadyH.nil
                    go_simp
                    refine hK.out _ _ ?_ (fun hHeld => ?_)
                    · exact hHeld
                    clear hK K
                    try simp only [Act.put, List.setIfInBounds_toArray, List.set_cons_zero, List.set_cons_succ]
                    refine wpAnyH_ready (rs := [4]) (by kernel_rfl) (by simp) ?_
                    refine AllReadyH.cons (o := { dst := some 131, op := Op.call { callee := Callee.value (Operand.func 14), args := #[Operand.tmp 127, Operand.tmp 130], argTypes := #[24, 4] }, type := 24, pos := "law.go:54", after := #[{ on := 0, ground := Ground.data }, { on := 3, ground := Ground.data }], guard := none }) rfl (fun K hK => ?_) AllReadyH.nil
                    go_simp
                    refine (set_down room d _ L _ (by exact HV3.out.below (below_drew1 (Below.refl _ _)))).mono ?_
                    rintro e' w4 ⟨rfl, hb⟩
                    have hx4 := blk_below (blk_drew hx3) hb
                    have hy4 := blk_below (blk_drew hy3) hb
                    have hq4 := blk_below (blk_drew hq3) hb
                    have hg4 := blk_below (blk_drew hg3) hb
                    have hB4 := below_call (below_drew1 hB3) hb
                    have HV4 := Lib.hid ((HV3.out.below (below_drew1 (Below.refl _ _))).below hb)
                    have HR4 := Lib.hid ((HR3.out.below (below_drew1 (Below.refl _ _))).below hb)
                    clear hb hx3 hy3 hq3 hg3 HV3 HR3 hB3
                    clear zx0 fx0 zx1 fx1 zx2 fx2 zy0 fy0 zy1 fy1 zy2 fy2 zq0 fq0 zq1 fq1
                    have zx4_0 : w4.cell? ⟨w1.heap.size, 0, none⟩ = some (.int .i64 room) := (blk_cell hx4 0).trans rfl
                    have fx4_0 := blk_frozen hx4 0
                    have zx4_1 : w4.cell? ⟨w1.heap.size, 1, none⟩ = some (.bool d) := (blk_cell hx4 1).trans rfl
                    have fx4_1 := blk_frozen hx4 1
                    have zx4_2 : w4.cell? ⟨w1.heap.size, 2, none⟩ = some (.slice A L.length c) := (blk_cell hx4 2).trans rfl
                    have fx4_2 := blk_frozen hx4 2
                    have zy4_0 : w4.cell? ⟨w1.heap.size + 1, 0, none⟩ = some (.int .i64 room) := (blk_cell hy4 0).trans rfl
                    have fy4_0 := blk_frozen hy4 0
                    have zy4_1 : w4.cell? ⟨w1.heap.size + 1, 1, none⟩ = some (.bool d) := (blk_cell hy4 1).trans rfl
                    have fy4_1 := blk_frozen hy4 1
                    have zy4_2 : w4.cell? ⟨w1.heap.size + 1, 2, none⟩ = some (.slice Am L.length cm) := (blk_cell hy4 2).trans rfl
                    have fy4_2 := blk_frozen hy4 2
                    have zq4_0 : w4.cell? ⟨wr.heap.size, 0, none⟩ = some (.int .u8 3) := (blk_cell hq4 0).trans rfl
                    have zq4_1 : w4.cell? ⟨wr.heap.size, 1, none⟩ = some (.string s) := (blk_cell hq4 1).trans rfl
                    go_wp2_with fail
                    refine hK.out _ _ ?_ (fun hHeld => ?_)
                    · exact zq4_0
                    clear hK K
                    try simp only [Act.put, List.setIfInBounds_toArray, List.set_cons_zero, List.set_cons_succ]
                    refine wpAnyH_ready (rs := [9]) (by kernel_rfl) (by simp) ?_
                    refine AllReadyH.cons (o := { dst := some 136, op := Op.call { callee := Callee.value (Operand.func 15), args := #[Operand.tmp 132, Operand.tmp 135], argTypes := #[37, 4] }, type := 37, pos := "law.go:54", after := #[{ on := 5, ground := Ground.data }, { on := 8, ground := Ground.data }, { on := 4, ground := Ground.chain }], guard := none }) rfl (fun K hK => ?_) AllReadyH.nil
                    go_simp
                    refine (rset_down room d _ L _ (by exact HR4.out)).mono ?_
                    rintro e' w5 ⟨rfl, hb⟩
                    have hx5 := blk_below (hx4) hb
                    have hy5 := blk_below (hy4) hb
                    have hq5 := blk_below (hq4) hb
                    have hg5 := blk_below (hg4) hb
                    have hB5 := below_call (hB4) hb
                    have HV5 := Lib.hid (HV4.out.below hb)
                    have HR5 := Lib.hid (HR4.out.below hb)
                    clear hb hx4 hy4 hq4 hg4 HV4 HR4 hB4
                    clear zx4_0 zx4_1 zx4_2 zy4_0 zy4_1 zy4_2 zq4_0 zq4_1 fx4_0 fx4_1 fx4_2 fy4_0 fy4_1 fy4_2
                    have zx5_0 : w5.cell? ⟨w1.heap.size, 0, none⟩ = some (.int .i64 room) := (blk_cell hx5 0).trans rfl
                    have fx5_0 := blk_frozen hx5 0
                    have zx5_1 : w5.cell? ⟨w1.heap.size, 1, none⟩ = some (.bool d) := (blk_cell hx5 1).trans rfl
                    have fx5_1 := blk_frozen hx5 1
                    have zx5_2 : w5.cell? ⟨w1.heap.size, 2, none⟩ = some (.slice A L.length c) := (blk_cell hx5 2).trans rfl
                    have fx5_2 := blk_frozen hx5 2
                    have zy5_0 : w5.cell? ⟨w1.heap.size + 1, 0, none⟩ = some (.int .i64 room) := (blk_cell hy5 0).trans rfl
                    have fy5_0 := blk_frozen hy5 0
                    have zy5_1 : w5.cell? ⟨w1.heap.size + 1, 1, none⟩ = some (.bool d) := (blk_cell hy5 1).trans rfl
                    have fy5_1 := blk_frozen hy5 1
                    have zy5_2 : w5.cell? ⟨w1.heap.size + 1, 2, none⟩ = some (.slice Am L.length cm) := (blk_cell hy5 2).trans rfl
                    have fy5_2 := blk_frozen hy5 2
                    have zq5_0 : w5.cell? ⟨wr.heap.size, 0, none⟩ = some (.int .u8 3) := (blk_cell hq5 0).trans rfl
                    have zq5_1 : w5.cell? ⟨wr.heap.size, 1, none⟩ = some (.string s) := (blk_cell hq5 1).trans rfl
                    go_wp2_with fail
                    refine hK.out _ _ ?_ (fun hHeld => ?_)
                    · exact zq5_0
                    clear hK K
                    try simp only [Act.put, List.setIfInBounds_toArray, List.set_cons_zero, List.set_cons_succ]
                    refine wpAnyH_ready (rs := [10]) (by kernel_rfl) (by simp) ?_
                    refine AllReadyH.cons (o := { dst := none, op := Op.store 24 (Operand.tmp 5) (Operand.tmp 131), type := 0, pos := "law.go:54", after := #[{ on := 4, ground := Ground.data }, { on := 9, ground := Ground.chain }, { on := 0, ground := Ground.phase }, { on := 1, ground := Ground.phase }, { on := 2, ground := Ground.phase }, { on := 3, ground := Ground.phase }, { on := 4, ground := Ground.phase }, { on := 5, ground := Ground.textOnly Departure.lateStores }, { on := 6, ground := Ground.textOnly Departure.lateStores }, { on := 7, ground := Ground.textOnly Departure.lateStores }, { on := 8, ground := Ground.textOnly Departure.lateStores }, { on := 9, ground := Ground.textOnly Departure.lateStoresUnsure }], guard := none }) rfl (fun K hK => ?_) AllReadyH.nil
                    go_simp
                    refine hK.out _ _ ?_ (fun hHeld => ?_)
                    · exact (World.cell?_setCell_far _ _ _ _ (by exact n1_)).trans ((World.cell?_setCell_far _ _ _ _ (by exact n1_)).trans ((World.cell?_setCell_far _ _ _ _ (by exact n1_)).trans zq5_0))
                    clear hK K
                    try simp only [Act.put, List.setIfInBounds_toArray, List.set_cons_zero, List.set_cons_succ]
                    refine wpAnyH_ready (rs := [11]) (by kernel_rfl) (by simp) ?_
                    refine AllReadyH.cons (o := { dst := none, op := Op.store 37 (Operand.tmp 7) (Operand.tmp 136), type := 0, pos := "law.go:54", after := #[{ on := 9, ground := Ground.data }, { on := 10, ground := Ground.chain }, { on := 0, ground := Ground.phase }, { on := 1, ground := Ground.phase }, { on := 2, ground := Ground.phase }, { on := 3, ground := Ground.phase }, { on := 4, ground := Ground.phase }, { on := 5, ground := Ground.phase }, { on := 6, ground := Ground.phase }, { on := 7, ground := Ground.phase }, { on := 8, ground := Ground.phase }, { on := 9, ground := Ground.phase }, { on := 10, ground := Ground.phase }], guard := none }) rfl (fun K hK => ?_) AllReadyH.nil
                    go_simp
                    refine hK.out _ _ ?_ (fun hHeld => ?_)
                    · exact (World.cell?_setCell_far _ _ _ _ (by exact n3_)).trans ((World.cell?_setCell_far _ _ _ _ (by exact n3_)).trans ((World.cell?_setCell_far _ _ _ _ (by exact n3_)).trans ((World.cell?_setCell_far _ _ _ _ (by exact n1_)).trans ((World.cell?_setCell_far _ _ _ _ (by exact n1_)).trans ((World.cell?_setCell_far _ _ _ _ (by exact n1_)).trans zq5_0)))))
                    clear hK K
                    try simp only [Act.put, List.setIfInBounds_toArray, List.set_cons_zero, List.set_cons_succ]
                    refine wpAnyH_done (by kernel_rfl) ?_ _
                    refine NoPanic.normal ?_
                    obtain ⟨hxa, hBa, hTa, hNa⟩ := box_store hx5 hs1 hB5 (.int .i64 room) (.bool true) (.slice none 0 0) _ rfl
                    have hRa := ref24 hx5 (.int .i64 room) (.bool true) (.slice none 0 0) rfl _ _ HR5.out
                    have hTa := hTa _ _ HV5.out
                    have hya := hNa _ _ _ (by omega) hy5
                    have hga := hNa _ _ _ (by omega) hg5
                    obtain ⟨hyb, hBb, hTb, hUb, hNb⟩ := box37 hya (by omega) hBa (.int .i64 room) (.bool true) (.slice none 0 0) _ rfl
                    have hxb := hNb _ _ _ (by omega) hxa
                    have hgb := hNb _ _ _ (by omega) hga
                    exact tk.out _ _ _ _ ([]) _ _ _ _ _ _ _ _ _ _ _ _ _ _ _ _ _ _ _ _ _ _ _ _ _ _ _ _ _ _ _ _ _ _ _ _ _ _ _ _ _ _ _ _ _ _ _ _ _ _ _ _ _ _ _ _ _ _ _ _ _ _ _ _ _ _ _ _ _ _ hxb hyb hgb hBb (WireV.nil _) (RefV.nil _) (by simp; omega)
                  · skip
                    have e0 : decide (a = 0) = false := decide_eq_false ha
                    have e1 : decide (a = 1) = false := decide_eq_false ha1
                    have e2 : decide (a = 2) = false := decide_eq_false ha2
                    have e3 : decide (a = 3) = false := decide_eq_false ha3
                    have tx := blk_lt hx3
                    have zx0 : W3.cell? ⟨w1.heap.size, 0, none⟩ = some (.int .i64 room) := (blk_cell hx3 0).trans rfl
                    have fx0 := blk_frozen hx3 0
                    have zx1 : W3.cell? ⟨w1.heap.size, 1, none⟩ = some (.bool d) := (blk_cell hx3 1).trans rfl
                    have fx1 := blk_frozen hx3 1
                    have zx2 : W3.cell? ⟨w1.heap.size, 2, none⟩ = some (.slice A L.length c) := (blk_cell hx3 2).trans rfl
                    have fx2 := blk_frozen hx3 2
                    have ty := blk_lt hy3
                    have zy0 : W3.cell? ⟨w1.heap.size + 1, 0, none⟩ = some (.int .i64 room) := (blk_cell hy3 0).trans rfl
                    have fy0 := blk_frozen hy3 0
                    have zy1 : W3.cell? ⟨w1.heap.size + 1, 1, none⟩ = some (.bool d) := (blk_cell hy3 1).trans rfl
                    have fy1 := blk_frozen hy3 1
                    have zy2 : W3.cell? ⟨w1.heap.size + 1, 2, none⟩ = some (.slice Am L.length cm) := (blk_cell hy3 2).trans rfl
                    have fy2 := blk_frozen hy3 2
                    have tq := blk_lt hq3
                    have zq0 : W3.cell? ⟨wr.heap.size, 0, none⟩ = some (.int .u8 a) := (blk_cell hq3 0).trans rfl
                    have fq0 := blk_frozen hq3 0
                    have zq1 : W3.cell? ⟨wr.heap.size, 1, none⟩ = some (.string s) := (blk_cell hq3 1).trans rfl
                    have fq1 := blk_frozen hq3 1
                    have tg := blk_lt hg3
                    have zg0 : W3.cell? ⟨g, 0, none⟩ = some (.int .i64 room) := (blk_cell hg3 0).trans rfl
                    have fg0 := blk_frozen hg3 0
                    have zg1 : W3.cell? ⟨g, 1, none⟩ = some (.bool d) := (blk_cell hg3 1).trans rfl
                    have fg1 := blk_frozen hg3 1
                    have zg2 : W3.cell? ⟨g, 2, none⟩ = some (.slice A L.length c) := (blk_cell hg3 2).trans rfl
                    have fg2 := blk_frozen hg3 2
                    go_wp2_with fail
                    exact tk.out _ _ _ _ _ _ _ _ _ _ _ _ _ _ _ _ _ _ _ _ _ _ _ _ _ _ _ _ _ _ _ _ _ _ _ _ _ _ _ _ _ _ _ _ _ _ _ _ _ _ _ _ _ _ _ _ _ _ _ _ _ _ _ _ _ _ _ _ _ _ _ _ _ _ _ hx3 hy3 hg3 hB3 HV3.out HR3.out hLr
          subst ha0
          simp only [Act.put, List.setIfInBounds_toArray, List.set_cons_zero, List.set_cons_succ] at key
          replace key := Lib.hid key
          go_region_with (first | (go_at_call 10; refine (len_any room d A L.length c _).mono ?_; rintro e' w3 ⟨rfl, hb3⟩; have hx3 := blk_below (blk_drew hx2) hb3; have hy3 := blk_below (blk_drew hy2) hb3; have hq3 := blk_below (blk_drew hq2) hb3; have hB3 := below_call (below_drew1 hB2) hb3; have hk3 := below_call (below_drew1 (Below.refl W2.heap.size W2)) hb3; have HV3 := Lib.hid (HV2.out.below hk3); have HR3 := Lib.hid (HR2.out.below hk3); clear hk3; clear hb3; have hlx3 := blk_lt hx3; have hly3 := blk_lt hy3; have hlq3 := blk_lt hq3; have t0 : w3.cell? ⟨w1.heap.size, 0, none⟩ = some (.int .i64 room) := (blk_cell hx3 0).trans rfl; have t1 : w3.cell? ⟨w1.heap.size, 1, none⟩ = some (.bool d) := (blk_cell hx3 1).trans rfl; have t2 : w3.cell? ⟨w1.heap.size, 2, none⟩ = some (.slice A L.length c) := (blk_cell hx3 2).trans rfl; have r0 : w3.cell? ⟨w1.heap.size + 1, 0, none⟩ = some (.int .i64 room) := (blk_cell hy3 0).trans rfl; have r1 : w3.cell? ⟨w1.heap.size + 1, 1, none⟩ = some (.bool d) := (blk_cell hy3 1).trans rfl; have r2 : w3.cell? ⟨w1.heap.size + 1, 2, none⟩ = some (.slice Am L.length cm) := (blk_cell hy3 2).trans rfl; have ff0 := blk_frozen hx3 0; have gg0 := blk_frozen hy3 0; have ff1 := blk_frozen hx3 1; have gg1 := blk_frozen hy3 1; have ff2 := blk_frozen hx3 2; have gg2 := blk_frozen hy3 2) | (go_at_call 10; refine (len_any room d A L.length c _).mono ?_; rintro e' w3 ⟨rfl, hb3⟩; have hx3 := blk_below (blk_drew (blk_alloc hx2 (.cells #[.int .i64 0, .bool false, .slice none 0 0] 24))) hb3; have hy3 := blk_below (blk_drew (blk_alloc hy2 (.cells #[.int .i64 0, .bool false, .slice none 0 0] 24))) hb3; have hq3 := blk_below (blk_drew (blk_alloc hq2 (.cells #[.int .i64 0, .bool false, .slice none 0 0] 24))) hb3; have hB3 := below_call (below_drew1 (below_alloc hB2 (.cells #[.int .i64 0, .bool false, .slice none 0 0] 24))) hb3; have hk3 := below_call (below_drew1 (below_alloc (Below.refl W2.heap.size W2) (.cells #[.int .i64 0, .bool false, .slice none 0 0] 24))) hb3; have HV3 := Lib.hid (HV2.out.below hk3); have HR3 := Lib.hid (HR2.out.below hk3); clear hk3; have hn3 := blk_below (blk_drew (blk_new W2 (.cells #[.int .i64 0, .bool false, .slice none 0 0] 24))) hb3; have n0 : w3.cell? ⟨W2.heap.size, 0, none⟩ = some (.int .i64 0) := (blk_cell hn3 0).trans rfl; have n1 : w3.cell? ⟨W2.heap.size, 1, none⟩ = some (.bool false) := (blk_cell hn3 1).trans rfl; have n2 : w3.cell? ⟨W2.heap.size, 2, none⟩ = some (.slice none 0 0) := (blk_cell hn3 2).trans rfl; have nf0 := blk_frozen hn3 0; have nf1 := blk_frozen hn3 1; have nf2 := blk_frozen hn3 2; clear hb3; have hlx3 := blk_lt hx3; have hly3 := blk_lt hy3; have hlq3 := blk_lt hq3; have t0 : w3.cell? ⟨w1.heap.size, 0, none⟩ = some (.int .i64 room) := (blk_cell hx3 0).trans rfl; have t1 : w3.cell? ⟨w1.heap.size, 1, none⟩ = some (.bool d) := (blk_cell hx3 1).trans rfl; have t2 : w3.cell? ⟨w1.heap.size, 2, none⟩ = some (.slice A L.length c) := (blk_cell hx3 2).trans rfl; have r0 : w3.cell? ⟨w1.heap.size + 1, 0, none⟩ = some (.int .i64 room) := (blk_cell hy3 0).trans rfl; have r1 : w3.cell? ⟨w1.heap.size + 1, 1, none⟩ = some (.bool d) := (blk_cell hy3 1).trans rfl; have r2 : w3.cell? ⟨w1.heap.size + 1, 2, none⟩ = some (.slice Am L.length cm) := (blk_cell hy3 2).trans rfl; have ff0 := blk_frozen hx3 0; have gg0 := blk_frozen hy3 0; have ff1 := blk_frozen hx3 1; have gg1 := blk_frozen hy3 1; have ff2 := blk_frozen hx3 2; have gg2 := blk_frozen hy3 2))
          all_goals first
           | exact key.out _ _ hly3 (blk_alloc hx3 _) (blk_alloc hy3 _) (blk_alloc hq3 _) (blk_new w3 _) (below_alloc hB3 _) (HV3.out.below (below_alloc (Below.refl _ _) _)) (HR3.out.below (below_alloc (Below.refl _ _) _))
           | (obtain ⟨hg4, hB4, hT4, hN4⟩ := box_store hn3 hB2.size hB3 (.int .i64 room) (.bool d) (.slice A L.length c) _ rfl; exact key.out _ _ hly2 (hN4 _ _ _ (Nat.ne_of_lt hlx2) hx3) (hN4 _ _ _ (Nat.ne_of_lt hly2) hy3) (hN4 _ _ _ (Nat.ne_of_lt hlq2) hq3) hg4 hB4 (hT4 _ _ HV3.out) (ref24 hn3 _ _ _ rfl _ _ HR3.out))
      · have hk2 : k = l.length := by omega
        subst hk2
        clear hlt
        obtain ⟨A, c, rfl⟩ := wire_slice hV
        obtain ⟨Am, cm, rfl⟩ := hR.slice
        have HV0 := Lib.hid hV
        have HR0 := Lib.hid hR
        have hx0 := hx
        have hy0 := hy
        have hB0 := hB
        clear hV hR hx hy hB
        have tx := blk_lt hx0
        have zx0 : wr.cell? ⟨w1.heap.size, 0, none⟩ = some (.int .i64 room) := (blk_cell hx0 0).trans rfl
        have fx0 := blk_frozen hx0 0
        have zx1 : wr.cell? ⟨w1.heap.size, 1, none⟩ = some (.bool d) := (blk_cell hx0 1).trans rfl
        have fx1 := blk_frozen hx0 1
        have zx2 : wr.cell? ⟨w1.heap.size, 2, none⟩ = some (.slice A L.length c) := (blk_cell hx0 2).trans rfl
        have fx2 := blk_frozen hx0 2
        have ty := blk_lt hy0
        have zy0 : wr.cell? ⟨w1.heap.size + 1, 0, none⟩ = some (.int .i64 room) := (blk_cell hy0 0).trans rfl
        have fy0 := blk_frozen hy0 0
        have zy1 : wr.cell? ⟨w1.heap.size + 1, 1, none⟩ = some (.bool d) := (blk_cell hy0 1).trans rfl
        have fy1 := blk_frozen hy0 1
        have zy2 : wr.cell? ⟨w1.heap.size + 1, 2, none⟩ = some (.slice Am L.length cm) := (blk_cell hy0 2).trans rfl
        have fy2 := blk_frozen hy0 2
        have hLi : (L.length : Int) + 1 ≤ 300 := by omega
        have hLj : L.length + 1 ≤ 300 := by omega
        go_wp2_with fail
        go_loopw [161] (fun i wq => ∃ (j : Nat) (L2 : List ByteArray), j ≤ L.length + 1 ∧ i = .int .i64 j ∧ PL w1.heap.size (w1.heap.size + 1) room w wq d L2) (fun i _ => L.length + 1 - (intOf i).toNat)
        case atStart => exact ⟨0, L, Nat.zero_le _, rfl, _, _, hx0, hy0, HV0.out, HR0.out, hLr, hB0⟩
        case round =>
          clear tx zx0 fx0 zx1 fx1 zx2 fx2 ty zy0 fy0 zy1 fy1 zy2 fy2
          clear hx0 hy0 hB0 HV0 HR0
          obtain ⟨j, L2, hj, rfl, v, u, hx, hy, hV, hR, hLq, hB⟩ := hrel
          by_cases hlt : j < L.length + 1
          · cases L2 with
            | nil =>
              obtain ⟨A3, c3, rfl⟩ := wire_len hV 0 rfl
              obtain ⟨B3, e3, rfl⟩ := ref_len hR (0) rfl
              have HV3 := Lib.hid hV
              have HR3 := Lib.hid hR
              have hx3 := hx
              have hy3 := hy
              have hB3 := hB
              clear hV hR hx hy hB
              have tx := blk_lt hx3
              have zx0 : wr.cell? ⟨w1.heap.size, 0, none⟩ = some (.int .i64 room) := (blk_cell hx3 0).trans rfl
              have fx0 := blk_frozen hx3 0
              have zx1 : wr.cell? ⟨w1.heap.size, 1, none⟩ = some (.bool d) := (blk_cell hx3 1).trans rfl
              have fx1 := blk_frozen hx3 1
              have zx2 : wr.cell? ⟨w1.heap.size, 2, none⟩ = some (.slice A3 0 c3) := (blk_cell hx3 2).trans rfl
              have fx2 := blk_frozen hx3 2
              have ty := blk_lt hy3
              have zy0 : wr.cell? ⟨w1.heap.size + 1, 0, none⟩ = some (.int .i64 room) := (blk_cell hy3 0).trans rfl
              have fy0 := blk_frozen hy3 0
              have zy1 : wr.cell? ⟨w1.heap.size + 1, 1, none⟩ = some (.bool d) := (blk_cell hy3 1).trans rfl
              have fy1 := blk_frozen hy3 1
              have zy2 : wr.cell? ⟨w1.heap.size + 1, 2, none⟩ = some (.slice B3 0 e3) := (blk_cell hy3 2).trans rfl
              have fy2 := blk_frozen hy3 2
              go_wp2_with fail
              refine calls_W (fun W4 hW4 => ?_)
              have hx4 : W4.heap[w1.heap.size]? = some (.cells #[.int .i64 room, .bool d, .slice A3 0 c3] 24 (0, 0)) := by rw [hW4]; first | exact hx3 | exact blk_alloc (hx3) _ | exact blk_alloc (blk_alloc (hx3) _) _ | exact blk_alloc (blk_alloc (blk_alloc (hx3) _) _) _
              have hy4 : W4.heap[w1.heap.size + 1]? = some (.cells #[.int .i64 room, .bool d, .slice B3 0 e3] 37 (0, 0)) := by rw [hW4]; first | exact hy3 | exact blk_alloc (hy3) _ | exact blk_alloc (blk_alloc (hy3) _) _ | exact blk_alloc (blk_alloc (blk_alloc (hy3) _) _) _
              have hB4 : Below w.heap.size w W4 := by rw [hW4]; first | exact hB3 | exact below_alloc (hB3) _ | exact below_alloc (below_alloc (hB3) _) _ | exact below_alloc (below_alloc (below_alloc (hB3) _) _) _
              have HV4 := Lib.hid (show WireV W4 (.slice A3 0 c3) [] from by rw [hW4]; first | exact HV3.out | exact HV3.out.below (below_alloc (Below.refl _ _) _) | exact HV3.out.below (below_alloc (below_alloc (Below.refl _ _) _) _) | exact HV3.out.below (below_alloc (below_alloc (below_alloc (Below.refl _ _) _) _) _))
              have HR4 := Lib.hid (show RefV W4 (.slice B3 0 e3) [] from by rw [hW4]; first | exact HR3.out | exact HR3.out.below (below_alloc (Below.refl _ _) _) | exact HR3.out.below (below_alloc (below_alloc (Below.refl _ _) _) _) | exact HR3.out.below (below_alloc (below_alloc (below_alloc (Below.refl _ _) _) _) _))
              clear hW4
              clear tx zx0 fx0 zx1 fx1 zx2 fx2 ty zy0 fy0 zy1 fy1 zy2 fy2
              refine (pop_nil room d _ _ HV4.out).mono ?_
              rintro e' w5 ⟨rfl, hb⟩
              have hx5 := blk_below hx4 hb
              have hy5 := blk_below hy4 hb
              have hB5 := below_call hB4 hb
              have HV5 := Lib.hid (HV4.out.below hb)
              have HR5 := Lib.hid (HR4.out.below hb)
              have tx := blk_lt hx5
              have zx0 : w5.cell? ⟨w1.heap.size, 0, none⟩ = some (.int .i64 room) := (blk_cell hx5 0).trans rfl
              have fx0 := blk_frozen hx5 0
              have zx1 : w5.cell? ⟨w1.heap.size, 1, none⟩ = some (.bool d) := (blk_cell hx5 1).trans rfl
              have fx1 := blk_frozen hx5 1
              have zx2 : w5.cell? ⟨w1.heap.size, 2, none⟩ = some (.slice A3 0 c3) := (blk_cell hx5 2).trans rfl
              have fx2 := blk_frozen hx5 2
              have ty := blk_lt hy5
              have zy0 : w5.cell? ⟨w1.heap.size + 1, 0, none⟩ = some (.int .i64 room) := (blk_cell hy5 0).trans rfl
              have fy0 := blk_frozen hy5 0
              have zy1 : w5.cell? ⟨w1.heap.size + 1, 1, none⟩ = some (.bool d) := (blk_cell hy5 1).trans rfl
              have fy1 := blk_frozen hy5 1
              have zy2 : w5.cell? ⟨w1.heap.size + 1, 2, none⟩ = some (.slice B3 0 e3) := (blk_cell hy5 2).trans rfl
              have fy2 := blk_frozen hy5 2
              go_wp2_with fail
              refine calls_W (fun W6 hW6 => ?_)
              have hx6 : W6.heap[w1.heap.size]? = some (.cells #[.int .i64 room, .bool d, .slice A3 0 c3] 24 (0, 0)) := by rw [hW6]; first | exact hx5 | exact blk_alloc (hx5) _ | exact blk_alloc (blk_alloc (hx5) _) _ | exact blk_alloc (blk_alloc (blk_alloc (hx5) _) _) _
              have hy6 : W6.heap[w1.heap.size + 1]? = some (.cells #[.int .i64 room, .bool d, .slice B3 0 e3] 37 (0, 0)) := by rw [hW6]; first | exact hy5 | exact blk_alloc (hy5) _ | exact blk_alloc (blk_alloc (hy5) _) _ | exact blk_alloc (blk_alloc (blk_alloc (hy5) _) _) _
              have hB6 : Below w.heap.size w W6 := by rw [hW6]; first | exact hB5 | exact below_alloc (hB5) _ | exact below_alloc (below_alloc (hB5) _) _ | exact below_alloc (below_alloc (below_alloc (hB5) _) _) _
              have HV6 := Lib.hid (show WireV W6 (.slice A3 0 c3) [] from by rw [hW6]; first | exact HV5.out | exact HV5.out.below (below_alloc (Below.refl _ _) _) | exact HV5.out.below (below_alloc (below_alloc (Below.refl _ _) _) _) | exact HV5.out.below (below_alloc (below_alloc (below_alloc (Below.refl _ _) _) _) _))
              have HR6 := Lib.hid (show RefV W6 (.slice B3 0 e3) [] from by rw [hW6]; first | exact HR5.out | exact HR5.out.below (below_alloc (Below.refl _ _) _) | exact HR5.out.below (below_alloc (below_alloc (Below.refl _ _) _) _) | exact HR5.out.below (below_alloc (below_alloc (below_alloc (Below.refl _ _) _) _) _))
              have hu6 : W6.heap[w5.heap.size]? = some (.cells #[.int .i64 room, .bool d, .slice A3 0 c3] 24 (0, 0)) := by rw [hW6]; exact blk_new _ _
              clear hW6
              clear tx zx0 fx0 zx1 fx1 zx2 fx2 ty zy0 fy0 zy1 fy1 zy2 fy2
              refine (rpop_nilR room d _ _ HR6.out).mono ?_
              rintro e' w7 ⟨rfl, hb⟩
              have hx7 := blk_below hx6 hb
              have hy7 := blk_below hy6 hb
              have hu7 := blk_below hu6 hb
              have hB7 := below_call hB6 hb
              have HV7 := Lib.hid (HV6.out.below hb)
              have HR7 := Lib.hid (HR6.out.below hb)
              have tx := blk_lt hx7
              have zx0 : w7.cell? ⟨w1.heap.size, 0, none⟩ = some (.int .i64 room) := (blk_cell hx7 0).trans rfl
              have fx0 := blk_frozen hx7 0
              have zx1 : w7.cell? ⟨w1.heap.size, 1, none⟩ = some (.bool d) := (blk_cell hx7 1).trans rfl
              have fx1 := blk_frozen hx7 1
              have zx2 : w7.cell? ⟨w1.heap.size, 2, none⟩ = some (.slice A3 0 c3) := (blk_cell hx7 2).trans rfl
              have fx2 := blk_frozen hx7 2
              have ty := blk_lt hy7
              have zy0 : w7.cell? ⟨w1.heap.size + 1, 0, none⟩ = some (.int .i64 room) := (blk_cell hy7 0).trans rfl
              have fy0 := blk_frozen hy7 0
              have zy1 : w7.cell? ⟨w1.heap.size + 1, 1, none⟩ = some (.bool d) := (blk_cell hy7 1).trans rfl
              have fy1 := blk_frozen hy7 1
              have zy2 : w7.cell? ⟨w1.heap.size + 1, 2, none⟩ = some (.slice B3 0 e3) := (blk_cell hy7 2).trans rfl
              have fy2 := blk_frozen hy7 2
              have tu := blk_lt hu7
              have zu0 : w7.cell? ⟨w5.heap.size, 0, none⟩ = some (.int .i64 room) := (blk_cell hu7 0).trans rfl
              have fu0 := blk_frozen hu7 0
              have zu1 : w7.cell? ⟨w5.heap.size, 1, none⟩ = some (.bool d) := (blk_cell hu7 1).trans rfl
              have fu1 := blk_frozen hu7 1
              have zu2 : w7.cell? ⟨w5.heap.size, 2, none⟩ = some (.slice A3 0 c3) := (blk_cell hu7 2).trans rfl
              have fu2 := blk_frozen hu7 2
              go_wp2_with fail
              refine wi_W (fun W8 hW8 => ?_)
              have hx8 : W8.heap[w1.heap.size]? = some (.cells #[.int .i64 room, .bool d, .slice A3 0 c3] 24 (0, 0)) := by rw [hW8]; first | exact hx7 | exact blk_alloc (hx7) _ | exact blk_alloc (blk_alloc (hx7) _) _ | exact blk_alloc (blk_alloc (blk_alloc (hx7) _) _) _
              have hy8 : W8.heap[w1.heap.size + 1]? = some (.cells #[.int .i64 room, .bool d, .slice B3 0 e3] 37 (0, 0)) := by rw [hW8]; first | exact hy7 | exact blk_alloc (hy7) _ | exact blk_alloc (blk_alloc (hy7) _) _ | exact blk_alloc (blk_alloc (blk_alloc (hy7) _) _) _
              have hu8 : W8.heap[w5.heap.size]? = some (.cells #[.int .i64 room, .bool d, .slice A3 0 c3] 24 (0, 0)) := by rw [hW8]; first | exact hu7 | exact blk_alloc (hu7) _ | exact blk_alloc (blk_alloc (hu7) _) _ | exact blk_alloc (blk_alloc (blk_alloc (hu7) _) _) _
              have hB8 : Below w.heap.size w W8 := by rw [hW8]; first | exact hB7 | exact below_alloc (hB7) _ | exact below_alloc (below_alloc (hB7) _) _ | exact below_alloc (below_alloc (below_alloc (hB7) _) _) _
              have HV8 := Lib.hid (show WireV W8 (.slice A3 0 c3) [] from by rw [hW8]; first | exact HV7.out | exact HV7.out.below (below_alloc (Below.refl _ _) _) | exact HV7.out.below (below_alloc (below_alloc (Below.refl _ _) _) _) | exact HV7.out.below (below_alloc (below_alloc (below_alloc (Below.refl _ _) _) _) _))
              have HR8 := Lib.hid (show RefV W8 (.slice B3 0 e3) [] from by rw [hW8]; first | exact HR7.out | exact HR7.out.below (below_alloc (Below.refl _ _) _) | exact HR7.out.below (below_alloc (below_alloc (Below.refl _ _) _) _) | exact HR7.out.below (below_alloc (below_alloc (below_alloc (Below.refl _ _) _) _) _))
              have he8 : W8.heap[w7.heap.size]? = some (.cells #[.int .i64 room, .bool d, .slice B3 0 e3] 37 (0, 0)) := by rw [hW8]; exact blk_new _ _
              clear hW8
              clear tx zx0 fx0 zx1 fx1 zx2 fx2 ty zy0 fy0 zy1 fy1 zy2 fy2 tu zu0 fu0 zu1 fu1 zu2 fu2
              have tx := blk_lt hx8
              have zx0 : W8.cell? ⟨w1.heap.size, 0, none⟩ = some (.int .i64 room) := (blk_cell hx8 0).trans rfl
              have fx0 := blk_frozen hx8 0
              have zx1 : W8.cell? ⟨w1.heap.size, 1, none⟩ = some (.bool d) := (blk_cell hx8 1).trans rfl
              have fx1 := blk_frozen hx8 1
              have zx2 : W8.cell? ⟨w1.heap.size, 2, none⟩ = some (.slice A3 0 c3) := (blk_cell hx8 2).trans rfl
              have fx2 := blk_frozen hx8 2
              have ty := blk_lt hy8
              have zy0 : W8.cell? ⟨w1.heap.size + 1, 0, none⟩ = some (.int .i64 room) := (blk_cell hy8 0).trans rfl
              have fy0 := blk_frozen hy8 0
              have zy1 : W8.cell? ⟨w1.heap.size + 1, 1, none⟩ = some (.bool d) := (blk_cell hy8 1).trans rfl
              have fy1 := blk_frozen hy8 1
              have zy2 : W8.cell? ⟨w1.heap.size + 1, 2, none⟩ = some (.slice B3 0 e3) := (blk_cell hy8 2).trans rfl
              have fy2 := blk_frozen hy8 2
              have tu := blk_lt hu8
              have zu0 : W8.cell? ⟨w5.heap.size, 0, none⟩ = some (.int .i64 room) := (blk_cell hu8 0).trans rfl
              have fu0 := blk_frozen hu8 0
              have zu1 : W8.cell? ⟨w5.heap.size, 1, none⟩ = some (.bool d) := (blk_cell hu8 1).trans rfl
              have fu1 := blk_frozen hu8 1
              have zu2 : W8.cell? ⟨w5.heap.size, 2, none⟩ = some (.slice A3 0 c3) := (blk_cell hu8 2).trans rfl
              have fu2 := blk_frozen hu8 2
              have te := blk_lt he8
              have ze0 : W8.cell? ⟨w7.heap.size, 0, none⟩ = some (.int .i64 room) := (blk_cell he8 0).trans rfl
              have fe0 := blk_frozen he8 0
              have ze1 : W8.cell? ⟨w7.heap.size, 1, none⟩ = some (.bool d) := (blk_cell he8 1).trans rfl
              have fe1 := blk_frozen he8 1
              have ze2 : W8.cell? ⟨w7.heap.size, 2, none⟩ = some (.slice B3 0 e3) := (blk_cell he8 2).trans rfl
              have fe2 := blk_frozen he8 2
              have na0 := Nat.ne_of_lt (blk_lt hx7)
              have nb0 := Nat.ne_of_gt (blk_lt hx7)
              have na1 := Nat.ne_of_lt (blk_lt hy7)
              have nb1 := Nat.ne_of_gt (blk_lt hy7)
              have na2 := Nat.ne_of_lt (blk_lt hu7)
              have nb2 := Nat.ne_of_gt (blk_lt hu7)
              have na3 := Nat.ne_of_lt (blk_lt hx5)
              have nb3 := Nat.ne_of_gt (blk_lt hx5)
              have na4 := Nat.ne_of_lt (blk_lt hy5)
              have nb4 := Nat.ne_of_gt (blk_lt hy5)
              go_region_with fail
              all_goals go_wp2_with fail
              all_goals go_roundw
              all_goals first
               | (obtain ⟨hxa, hBa, hTa, hNa⟩ := box_store hx8 hs1 hB8 (.int .i64 room) (.bool d) (.slice A3 0 c3) _ rfl; have hRa := ref24 hx8 (.int .i64 room) (.bool d) (.slice A3 0 c3) rfl _ _ HR8.out; have hTa := hTa _ _ HV8.out; have hya := hNa _ _ _ (by omega) hy8; obtain ⟨hyb, hBb, hTb, hUb, hNb⟩ := box37 hya (by omega) hBa (.int .i64 room) (.bool d) (.slice B3 0 e3) _ rfl; have hxb := hNb _ _ _ (by omega) hxa; exact ⟨j + 1, [], by omega, by go_num, _, _, blk_drew hxb, blk_drew hyb, (hTb _ _ hTa).below (below_drew1 (Below.refl _ _)), (hUb _ _ hRa).below (below_drew1 (Below.refl _ _)), hLq, below_drew1 hBb⟩)
               | (simp [intOf]; omega)
            | cons x L1 =>
              obtain ⟨A3, c3, rfl⟩ := wire_len hV ((L1.length + 1)) rfl
              obtain ⟨B3, e3, rfl⟩ := ref_len hR ((L1.length + 1)) rfl
              have HV3 := Lib.hid hV
              have HR3 := Lib.hid hR
              have hx3 := hx
              have hy3 := hy
              have hB3 := hB
              clear hV hR hx hy hB
              have hL1 : L1.length ≤ 1000 := by simp only [List.length_cons] at hLq; omega
              have tx := blk_lt hx3
              have zx0 : wr.cell? ⟨w1.heap.size, 0, none⟩ = some (.int .i64 room) := (blk_cell hx3 0).trans rfl
              have fx0 := blk_frozen hx3 0
              have zx1 : wr.cell? ⟨w1.heap.size, 1, none⟩ = some (.bool d) := (blk_cell hx3 1).trans rfl
              have fx1 := blk_frozen hx3 1
              have zx2 : wr.cell? ⟨w1.heap.size, 2, none⟩ = some (.slice A3 (L1.length + 1) c3) := (blk_cell hx3 2).trans rfl
              have fx2 := blk_frozen hx3 2
              have ty := blk_lt hy3
              have zy0 : wr.cell? ⟨w1.heap.size + 1, 0, none⟩ = some (.int .i64 room) := (blk_cell hy3 0).trans rfl
              have fy0 := blk_frozen hy3 0
              have zy1 : wr.cell? ⟨w1.heap.size + 1, 1, none⟩ = some (.bool d) := (blk_cell hy3 1).trans rfl
              have fy1 := blk_frozen hy3 1
              have zy2 : wr.cell? ⟨w1.heap.size + 1, 2, none⟩ = some (.slice B3 (L1.length + 1) e3) := (blk_cell hy3 2).trans rfl
              have fy2 := blk_frozen hy3 2
              go_wp2_with fail
              refine calls_W (fun W4 hW4 => ?_)
              have hx4 : W4.heap[w1.heap.size]? = some (.cells #[.int .i64 room, .bool d, .slice A3 (L1.length + 1) c3] 24 (0, 0)) := by rw [hW4]; first | exact hx3 | exact blk_alloc (hx3) _ | exact blk_alloc (blk_alloc (hx3) _) _ | exact blk_alloc (blk_alloc (blk_alloc (hx3) _) _) _
              have hy4 : W4.heap[w1.heap.size + 1]? = some (.cells #[.int .i64 room, .bool d, .slice B3 (L1.length + 1) e3] 37 (0, 0)) := by rw [hW4]; first | exact hy3 | exact blk_alloc (hy3) _ | exact blk_alloc (blk_alloc (hy3) _) _ | exact blk_alloc (blk_alloc (blk_alloc (hy3) _) _) _
              have hB4 : Below w.heap.size w W4 := by rw [hW4]; first | exact hB3 | exact below_alloc (hB3) _ | exact below_alloc (below_alloc (hB3) _) _ | exact below_alloc (below_alloc (below_alloc (hB3) _) _) _
              have HV4 := Lib.hid (show WireV W4 (.slice A3 (L1.length + 1) c3) (x :: L1) from by rw [hW4]; first | exact HV3.out | exact HV3.out.below (below_alloc (Below.refl _ _) _) | exact HV3.out.below (below_alloc (below_alloc (Below.refl _ _) _) _) | exact HV3.out.below (below_alloc (below_alloc (below_alloc (Below.refl _ _) _) _) _))
              have HR4 := Lib.hid (show RefV W4 (.slice B3 (L1.length + 1) e3) (x :: L1) from by rw [hW4]; first | exact HR3.out | exact HR3.out.below (below_alloc (Below.refl _ _) _) | exact HR3.out.below (below_alloc (below_alloc (Below.refl _ _) _) _) | exact HR3.out.below (below_alloc (below_alloc (below_alloc (Below.refl _ _) _) _) _))
              clear hW4
              clear tx zx0 fx0 zx1 fx1 zx2 fx2 ty zy0 fy0 zy1 fy1 zy2 fy2
              refine (pop_ok room d _ x L1 _ HV4.out hL1).mono ?_
              rintro e' w5 ⟨v4, rfl, hV4, hb⟩
              have hx5 := blk_below hx4 hb
              have hy5 := blk_below hy4 hb
              have hB5 := below_call hB4 hb
              have HV5 := Lib.hid (HV4.out.below hb)
              have HR5 := Lib.hid (HR4.out.below hb)
              obtain ⟨A4, c4, rfl⟩ := wire_slice hV4
              have HN5 := Lib.hid hV4
              clear hV4
              have tx := blk_lt hx5
              have zx0 : w5.cell? ⟨w1.heap.size, 0, none⟩ = some (.int .i64 room) := (blk_cell hx5 0).trans rfl
              have fx0 := blk_frozen hx5 0
              have zx1 : w5.cell? ⟨w1.heap.size, 1, none⟩ = some (.bool d) := (blk_cell hx5 1).trans rfl
              have fx1 := blk_frozen hx5 1
              have zx2 : w5.cell? ⟨w1.heap.size, 2, none⟩ = some (.slice A3 (L1.length + 1) c3) := (blk_cell hx5 2).trans rfl
              have fx2 := blk_frozen hx5 2
              have ty := blk_lt hy5
              have zy0 : w5.cell? ⟨w1.heap.size + 1, 0, none⟩ = some (.int .i64 room) := (blk_cell hy5 0).trans rfl
              have fy0 := blk_frozen hy5 0
              have zy1 : w5.cell? ⟨w1.heap.size + 1, 1, none⟩ = some (.bool d) := (blk_cell hy5 1).trans rfl
              have fy1 := blk_frozen hy5 1
              have zy2 : w5.cell? ⟨w1.heap.size + 1, 2, none⟩ = some (.slice B3 (L1.length + 1) e3) := (blk_cell hy5 2).trans rfl
              have fy2 := blk_frozen hy5 2
              go_wp2_with fail
              refine calls_W (fun W6 hW6 => ?_)
              have hx6 : W6.heap[w1.heap.size]? = some (.cells #[.int .i64 room, .bool d, .slice A3 (L1.length + 1) c3] 24 (0, 0)) := by rw [hW6]; first | exact hx5 | exact blk_alloc (hx5) _ | exact blk_alloc (blk_alloc (hx5) _) _ | exact blk_alloc (blk_alloc (blk_alloc (hx5) _) _) _
              have hy6 : W6.heap[w1.heap.size + 1]? = some (.cells #[.int .i64 room, .bool d, .slice B3 (L1.length + 1) e3] 37 (0, 0)) := by rw [hW6]; first | exact hy5 | exact blk_alloc (hy5) _ | exact blk_alloc (blk_alloc (hy5) _) _ | exact blk_alloc (blk_alloc (blk_alloc (hy5) _) _) _
              have hB6 : Below w.heap.size w W6 := by rw [hW6]; first | exact hB5 | exact below_alloc (hB5) _ | exact below_alloc (below_alloc (hB5) _) _ | exact below_alloc (below_alloc (below_alloc (hB5) _) _) _
              have HV6 := Lib.hid (show WireV W6 (.slice A3 (L1.length + 1) c3) (x :: L1) from by rw [hW6]; first | exact HV5.out | exact HV5.out.below (below_alloc (Below.refl _ _) _) | exact HV5.out.below (below_alloc (below_alloc (Below.refl _ _) _) _) | exact HV5.out.below (below_alloc (below_alloc (below_alloc (Below.refl _ _) _) _) _))
              have HN6 := Lib.hid (show WireV W6 (.slice A4 L1.length c4) L1 from by rw [hW6]; first | exact HN5.out | exact HN5.out.below (below_alloc (Below.refl _ _) _) | exact HN5.out.below (below_alloc (below_alloc (Below.refl _ _) _) _) | exact HN5.out.below (below_alloc (below_alloc (below_alloc (Below.refl _ _) _) _) _))
              have HR6 := Lib.hid (show RefV W6 (.slice B3 (L1.length + 1) e3) (x :: L1) from by rw [hW6]; first | exact HR5.out | exact HR5.out.below (below_alloc (Below.refl _ _) _) | exact HR5.out.below (below_alloc (below_alloc (Below.refl _ _) _) _) | exact HR5.out.below (below_alloc (below_alloc (below_alloc (Below.refl _ _) _) _) _))
              have hu6 : W6.heap[w5.heap.size]? = some (.cells #[.int .i64 room, .bool d, .slice A4 L1.length c4] 24 (0, 0)) := by rw [hW6]; exact blk_new _ _
              clear hW6
              clear tx zx0 fx0 zx1 fx1 zx2 fx2 ty zy0 fy0 zy1 fy1 zy2 fy2
              refine (rpop_ok room d _ x L1 _ HR6.out hL1).mono ?_
              rintro e' w7 ⟨u6, rfl, hR6, hb⟩
              have hx7 := blk_below hx6 hb
              have hy7 := blk_below hy6 hb
              have hu7 := blk_below hu6 hb
              have hB7 := below_call hB6 hb
              have HV7 := Lib.hid (HV6.out.below hb)
              have HN7 := Lib.hid (HN6.out.below hb)
              have HR7 := Lib.hid (HR6.out.below hb)
              obtain ⟨A6, c6, rfl⟩ := hR6.slice
              have HM7 := Lib.hid hR6
              clear hR6
              have tx := blk_lt hx7
              have zx0 : w7.cell? ⟨w1.heap.size, 0, none⟩ = some (.int .i64 room) := (blk_cell hx7 0).trans rfl
              have fx0 := blk_frozen hx7 0
              have zx1 : w7.cell? ⟨w1.heap.size, 1, none⟩ = some (.bool d) := (blk_cell hx7 1).trans rfl
              have fx1 := blk_frozen hx7 1
              have zx2 : w7.cell? ⟨w1.heap.size, 2, none⟩ = some (.slice A3 (L1.length + 1) c3) := (blk_cell hx7 2).trans rfl
              have fx2 := blk_frozen hx7 2
              have ty := blk_lt hy7
              have zy0 : w7.cell? ⟨w1.heap.size + 1, 0, none⟩ = some (.int .i64 room) := (blk_cell hy7 0).trans rfl
              have fy0 := blk_frozen hy7 0
              have zy1 : w7.cell? ⟨w1.heap.size + 1, 1, none⟩ = some (.bool d) := (blk_cell hy7 1).trans rfl
              have fy1 := blk_frozen hy7 1
              have zy2 : w7.cell? ⟨w1.heap.size + 1, 2, none⟩ = some (.slice B3 (L1.length + 1) e3) := (blk_cell hy7 2).trans rfl
              have fy2 := blk_frozen hy7 2
              have tu := blk_lt hu7
              have zu0 : w7.cell? ⟨w5.heap.size, 0, none⟩ = some (.int .i64 room) := (blk_cell hu7 0).trans rfl
              have fu0 := blk_frozen hu7 0
              have zu1 : w7.cell? ⟨w5.heap.size, 1, none⟩ = some (.bool d) := (blk_cell hu7 1).trans rfl
              have fu1 := blk_frozen hu7 1
              have zu2 : w7.cell? ⟨w5.heap.size, 2, none⟩ = some (.slice A4 L1.length c4) := (blk_cell hu7 2).trans rfl
              have fu2 := blk_frozen hu7 2
              go_wp2_with fail
              refine wi_W (fun W8 hW8 => ?_)
              have hx8 : W8.heap[w1.heap.size]? = some (.cells #[.int .i64 room, .bool d, .slice A3 (L1.length + 1) c3] 24 (0, 0)) := by rw [hW8]; first | exact hx7 | exact blk_alloc (hx7) _ | exact blk_alloc (blk_alloc (hx7) _) _ | exact blk_alloc (blk_alloc (blk_alloc (hx7) _) _) _
              have hy8 : W8.heap[w1.heap.size + 1]? = some (.cells #[.int .i64 room, .bool d, .slice B3 (L1.length + 1) e3] 37 (0, 0)) := by rw [hW8]; first | exact hy7 | exact blk_alloc (hy7) _ | exact blk_alloc (blk_alloc (hy7) _) _ | exact blk_alloc (blk_alloc (blk_alloc (hy7) _) _) _
              have hu8 : W8.heap[w5.heap.size]? = some (.cells #[.int .i64 room, .bool d, .slice A4 L1.length c4] 24 (0, 0)) := by rw [hW8]; first | exact hu7 | exact blk_alloc (hu7) _ | exact blk_alloc (blk_alloc (hu7) _) _ | exact blk_alloc (blk_alloc (blk_alloc (hu7) _) _) _
              have hB8 : Below w.heap.size w W8 := by rw [hW8]; first | exact hB7 | exact below_alloc (hB7) _ | exact below_alloc (below_alloc (hB7) _) _ | exact below_alloc (below_alloc (below_alloc (hB7) _) _) _
              have HV8 := Lib.hid (show WireV W8 (.slice A3 (L1.length + 1) c3) (x :: L1) from by rw [hW8]; first | exact HV7.out | exact HV7.out.below (below_alloc (Below.refl _ _) _) | exact HV7.out.below (below_alloc (below_alloc (Below.refl _ _) _) _) | exact HV7.out.below (below_alloc (below_alloc (below_alloc (Below.refl _ _) _) _) _))
              have HN8 := Lib.hid (show WireV W8 (.slice A4 L1.length c4) L1 from by rw [hW8]; first | exact HN7.out | exact HN7.out.below (below_alloc (Below.refl _ _) _) | exact HN7.out.below (below_alloc (below_alloc (Below.refl _ _) _) _) | exact HN7.out.below (below_alloc (below_alloc (below_alloc (Below.refl _ _) _) _) _))
              have HR8 := Lib.hid (show RefV W8 (.slice B3 (L1.length + 1) e3) (x :: L1) from by rw [hW8]; first | exact HR7.out | exact HR7.out.below (below_alloc (Below.refl _ _) _) | exact HR7.out.below (below_alloc (below_alloc (Below.refl _ _) _) _) | exact HR7.out.below (below_alloc (below_alloc (below_alloc (Below.refl _ _) _) _) _))
              have HM8 := Lib.hid (show RefV W8 (.slice A6 L1.length c6) L1 from by rw [hW8]; first | exact HM7.out | exact HM7.out.below (below_alloc (Below.refl _ _) _) | exact HM7.out.below (below_alloc (below_alloc (Below.refl _ _) _) _) | exact HM7.out.below (below_alloc (below_alloc (below_alloc (Below.refl _ _) _) _) _))
              have he8 : W8.heap[w7.heap.size]? = some (.cells #[.int .i64 room, .bool d, .slice A6 L1.length c6] 37 (0, 0)) := by rw [hW8]; exact blk_new _ _
              clear hW8
              clear tx zx0 fx0 zx1 fx1 zx2 fx2 ty zy0 fy0 zy1 fy1 zy2 fy2 tu zu0 fu0 zu1 fu1 zu2 fu2
              have tx := blk_lt hx8
              have zx0 : W8.cell? ⟨w1.heap.size, 0, none⟩ = some (.int .i64 room) := (blk_cell hx8 0).trans rfl
              have fx0 := blk_frozen hx8 0
              have zx1 : W8.cell? ⟨w1.heap.size, 1, none⟩ = some (.bool d) := (blk_cell hx8 1).trans rfl
              have fx1 := blk_frozen hx8 1
              have zx2 : W8.cell? ⟨w1.heap.size, 2, none⟩ = some (.slice A3 (L1.length + 1) c3) := (blk_cell hx8 2).trans rfl
              have fx2 := blk_frozen hx8 2
              have ty := blk_lt hy8
              have zy0 : W8.cell? ⟨w1.heap.size + 1, 0, none⟩ = some (.int .i64 room) := (blk_cell hy8 0).trans rfl
              have fy0 := blk_frozen hy8 0
              have zy1 : W8.cell? ⟨w1.heap.size + 1, 1, none⟩ = some (.bool d) := (blk_cell hy8 1).trans rfl
              have fy1 := blk_frozen hy8 1
              have zy2 : W8.cell? ⟨w1.heap.size + 1, 2, none⟩ = some (.slice B3 (L1.length + 1) e3) := (blk_cell hy8 2).trans rfl
              have fy2 := blk_frozen hy8 2
              have tu := blk_lt hu8
              have zu0 : W8.cell? ⟨w5.heap.size, 0, none⟩ = some (.int .i64 room) := (blk_cell hu8 0).trans rfl
              have fu0 := blk_frozen hu8 0
              have zu1 : W8.cell? ⟨w5.heap.size, 1, none⟩ = some (.bool d) := (blk_cell hu8 1).trans rfl
              have fu1 := blk_frozen hu8 1
              have zu2 : W8.cell? ⟨w5.heap.size, 2, none⟩ = some (.slice A4 L1.length c4) := (blk_cell hu8 2).trans rfl
              have fu2 := blk_frozen hu8 2
              have te := blk_lt he8
              have ze0 : W8.cell? ⟨w7.heap.size, 0, none⟩ = some (.int .i64 room) := (blk_cell he8 0).trans rfl
              have fe0 := blk_frozen he8 0
              have ze1 : W8.cell? ⟨w7.heap.size, 1, none⟩ = some (.bool d) := (blk_cell he8 1).trans rfl
              have fe1 := blk_frozen he8 1
              have ze2 : W8.cell? ⟨w7.heap.size, 2, none⟩ = some (.slice A6 L1.length c6) := (blk_cell he8 2).trans rfl
              have fe2 := blk_frozen he8 2
              have na0 := Nat.ne_of_lt (blk_lt hx7)
              have nb0 := Nat.ne_of_gt (blk_lt hx7)
              have na1 := Nat.ne_of_lt (blk_lt hy7)
              have nb1 := Nat.ne_of_gt (blk_lt hy7)
              have na2 := Nat.ne_of_lt (blk_lt hu7)
              have nb2 := Nat.ne_of_gt (blk_lt hu7)
              have na3 := Nat.ne_of_lt (blk_lt hx5)
              have nb3 := Nat.ne_of_gt (blk_lt hx5)
              have na4 := Nat.ne_of_lt (blk_lt hy5)
              have nb4 := Nat.ne_of_gt (blk_lt hy5)
              go_region_with fail
              all_goals go_wp2_with fail
              all_goals go_roundw
              all_goals first
               | (obtain ⟨hxa, hBa, hTa, hNa⟩ := box_store hx8 hs1 hB8 (.int .i64 room) (.bool d) (.slice A4 L1.length c4) _ rfl; have hRa := ref24 hx8 (.int .i64 room) (.bool d) (.slice A4 L1.length c4) rfl _ _ HM8.out; have hTa := hTa _ _ HN8.out; have hya := hNa _ _ _ (by omega) hy8; obtain ⟨hyb, hBb, hTb, hUb, hNb⟩ := box37 hya (by omega) hBa (.int .i64 room) (.bool d) (.slice A6 L1.length c6) _ rfl; have hxb := hNb _ _ _ (by omega) hxa; exact ⟨j + 1, L1, by omega, by go_num, _, _, blk_drew hxb, blk_drew hyb, (hTb _ _ hTa).below (below_drew1 (Below.refl _ _)), (hUb _ _ hRa).below (below_drew1 (Below.refl _ _)), (by simp only [List.length_cons] at hLq; omega), below_drew1 hBb⟩)
               | (simp [intOf]; omega)
          · have hje : j = L.length + 1 := by omega
            subst hje
            go_wp2_with fail
            refine (awake_ok _).mono ?_
            rintro e' w4 ⟨rfl, hb4⟩
            have hB4 := below_call hB hb4
            go_wp2_with fail
            go_ret
            exact ⟨rfl, hB4⟩
end Go.Proofs.Ytehicbehljfkhaa.Wi
