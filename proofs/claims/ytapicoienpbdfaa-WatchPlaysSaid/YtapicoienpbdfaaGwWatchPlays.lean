/- The law WatchPlays, walked by hand. -/
import Derived.Test.YtapicoienpbdfaaLAllWatchPlays
import Derived.Test.YtapicoienpbdfaaPWatchPlaysx1
import Derived.WalkKit
import Derived.Deep.LoopGhost
import Derived.Deep.RegionHeld3
import Derived.Lib.Hide
import Derived.WideLaws
namespace Go.Proofs.Ytapicoienpbdfaa.Wx
open Go.RowKit Go.Proofs.Ytapicoienpbdfaa.PWatchPlays Go.Proofs.YtapicoienpbdfaaW.PrintWords Go.Proofs.YtapicoienpbdfaaW.PrintLast Go.Proofs.YtapicoienpbdfaaW.PrintMore
set_option linter.unusedVariables false
set_option linter.unusedSimpArgs false
attribute [local go_sem high] eqA47
theorem below_call {w W w1 : World} (h : Below w.heap.size w W) (hb : Below W.heap.size W w1) : Below w.heap.size w w1 := h.trans (hb.mono h.size)
theorem calls_W {P : Program} {f : FuncId} {args : Array Value} {Q : Ending → World → Prop} {W : World} (h : ∀ W', W' = W → Calls P f args W' Q) : Calls P f args W Q := h W rfl
theorem wi_W {P : Program} {C : Code} {Q : Exit → Act → World → Prop} {a : Act} {W : World} (h : ∀ W', W' = W → Code.wp P C Q a W') : Code.wp P C Q a W := h W rfl
theorem box10 {w W : World} {g : Nat} {t : TypeId} {o0 o1 o2 o3 o4 o5 o6 o7 o8 o9 : Value} (hx : W.heap[g]? = some (.cells #[o0, o1, o2, o3, o4, o5, o6, o7, o8, o9] t (0, 0))) (hg : w.heap.size ≤ g) (hB : Below w.heap.size w W) (n0 n1 n2 n3 n4 n5 n6 n7 n8 n9 : Value) (W' : World) (hW : W' = (((((((((W.setCell ⟨g, 0, none⟩ n0).setCell ⟨g, 1, none⟩ n1).setCell ⟨g, 2, none⟩ n2).setCell ⟨g, 3, none⟩ n3).setCell ⟨g, 4, none⟩ n4).setCell ⟨g, 5, none⟩ n5).setCell ⟨g, 6, none⟩ n6).setCell ⟨g, 7, none⟩ n7).setCell ⟨g, 8, none⟩ n8).setCell ⟨g, 9, none⟩ n9) :
    W'.heap[g]? = some (.cells #[n0, n1, n2, n3, n4, n5, n6, n7, n8, n9] t (0, 0)) ∧ Below w.heap.size w W' ∧ (∀ (g' : Nat) (cs : Array Value) (t : TypeId), g' ≠ g → W.heap[g']? = some (.cells cs t (0, 0)) → W'.heap[g']? = some (.cells cs t (0, 0))) := by
  have q0 := blk_put (cs' := #[n0, o1, o2, o3, o4, o5, o6, o7, o8, o9]) hx 0 n0 rfl
  have q1 := blk_put (cs' := #[n0, n1, o2, o3, o4, o5, o6, o7, o8, o9]) q0 1 n1 rfl
  have q2 := blk_put (cs' := #[n0, n1, n2, o3, o4, o5, o6, o7, o8, o9]) q1 2 n2 rfl
  have q3 := blk_put (cs' := #[n0, n1, n2, n3, o4, o5, o6, o7, o8, o9]) q2 3 n3 rfl
  have q4 := blk_put (cs' := #[n0, n1, n2, n3, n4, o5, o6, o7, o8, o9]) q3 4 n4 rfl
  have q5 := blk_put (cs' := #[n0, n1, n2, n3, n4, n5, o6, o7, o8, o9]) q4 5 n5 rfl
  have q6 := blk_put (cs' := #[n0, n1, n2, n3, n4, n5, n6, o7, o8, o9]) q5 6 n6 rfl
  have q7 := blk_put (cs' := #[n0, n1, n2, n3, n4, n5, n6, n7, o8, o9]) q6 7 n7 rfl
  have q8 := blk_put (cs' := #[n0, n1, n2, n3, n4, n5, n6, n7, n8, o9]) q7 8 n8 rfl
  have q9 := blk_put (cs' := #[n0, n1, n2, n3, n4, n5, n6, n7, n8, n9]) q8 9 n9 rfl
  subst hW
  exact ⟨q9, Below.setCell (Below.setCell (Below.setCell (Below.setCell (Below.setCell (Below.setCell (Below.setCell (Below.setCell (Below.setCell (Below.setCell (hB) hg _) hg _) hg _) hg _) hg _) hg _) hg _) hg _) hg _) hg _, fun g' cs t hne h => blk_far (blk_far (blk_far (blk_far (blk_far (blk_far (blk_far (blk_far (blk_far (blk_far (h) (by exact hne) _) (by exact hne) _) (by exact hne) _) (by exact hne) _) (by exact hne) _) (by exact hne) _) (by exact hne) _) (by exact hne) _) (by exact hne) _) (by exact hne) _⟩
/-- The acts that came in: their cells. -/
def WActs (w : World) (A0 : Option Addr) (l : List (Int × Bool × ByteArray)) : Prop := ∀ k (hk : k < l.length), ∃ b o, A0 = some ⟨b, o, none⟩ ∧ b < w.heap.size ∧ w.cell? ⟨b, o + k * 3, none⟩ = some (.int .u16 (l[k]).1) ∧ w.cell? ⟨b, o + k * 3 + 1, none⟩ = some (.bool (l[k]).2.1) ∧ w.cell? ⟨b, o + k * 3 + 2, none⟩ = some (.string (l[k]).2.2)
theorem WActs.below {w w1 : World} {A0 : Option Addr} {l : List (Int × Bool × ByteArray)} (h : WActs w A0 l) (hb : Below w.heap.size w w1) : WActs w1 A0 l := by
  intro k hk
  obtain ⟨b, o, e, hlt, h0, h1, h2⟩ := h k hk
  exact ⟨b, o, e, Nat.lt_of_lt_of_le hlt hb.size, (hb.cell (p := ⟨b, _, none⟩) hlt).trans h0, (hb.cell (p := ⟨b, _, none⟩) hlt).trans h1, (hb.cell (p := ⟨b, _, none⟩) hlt).trans h2⟩
theorem then_W {K : Act → World → Prop} {Q : Exit → Act → World → Prop} {a : Act} {W : World} (h : ∀ W', W' = W → Exit.then K Q Exit.normal a W') : Exit.then K Q Exit.normal a W := h W rfl
theorem wx_int (j : Nat) : Value.int .i64 ((j : Int) + 1) = Value.int .i64 ((j + 1 : Nat) : Int) := by simp
def XL (Ba Bm : Nat) (lv e p : Int) (g : ByteArray) (iv : Int) (w wr : World) (h x s : Int) (lost far : Bool) : Prop := 0 ≤ s ∧ wr.heap[Ba]? = some (.cells #[.int .u8 lv, .int .u16 e, .int .u8 p, .string g, .int .i64 iv, .int .i64 h, .int .i64 x, .int .u64 s, .bool lost, .bool far] 42 (0, 0)) ∧ wr.heap[Bm]? = some (.cells #[.int .u8 lv, .int .u16 e, .int .u8 p, .string g, .int .i64 iv, .int .i64 h, .int .i64 x, .int .u64 s, .bool lost, .bool far] 47 (0, 0)) ∧ Below w.heap.size w wr
set_option maxHeartbeats 16000000 in
set_option maxRecDepth 100000 in
theorem plays (lv e p : Int) (g : ByteArray) (iv h0 x0 s0 : Int) (lo_ fa_ : Bool) (st : Int) (A0 : Option Addr) (c0 : Nat) (l : List (Int × Bool × ByteArray)) (w : World) (ha : WActs w A0 l) (hc0 : l.length ≤ c0) (hlv : 0 ≤ lv ∧ lv ≤ 255) (he : 0 ≤ e ∧ e ≤ 65535) (hp : 0 ≤ p ∧ p ≤ 255) :
    Calls Try.prog 4 #[.agg #[.int .u8 lv, .int .u16 e, .int .u8 p, .string g, .int .i64 iv, .int .i64 h0, .int .i64 x0, .int .u64 s0, .bool lo_, .bool fa_], .int .i64 st, .slice A0 l.length c0] w fun e w' => e = .returned (.bool true) ∧ Below w.heap.size w w' := by
  have hu42 := Try.underlying42
  have hu47 := Try.underlying47
  have hu51 := Try.underlying51
  have HA := Lib.hid ha
  clear ha
  have hB0 := Below.refl w.heap.size w
  by_cases hg : (g.size : Int) > 200
  · have g1 : decide ((g.size : Int) > 200) = true := decide_eq_true hg
    have g2 : decide (200 < (g.size : Int)) = true := decide_eq_true hg
    have g3 : decide (200 < g.size) = true := decide_eq_true (by omega)
    go_enter Try.func4, Try.ntmps4
    go_wp2_with fail
    refine (awake_c _).mono ?_
    rintro e' w2 ⟨rfl, hb2⟩
    have hB2 := below_call (by repeat (with_reducible first | exact hB0 | apply below_alloc)) hb2
    go_wp2_with fail
    go_ret
    exact ⟨rfl, hB2⟩
  · have g1 : decide ((g.size : Int) > 200) = false := decide_eq_false hg
    have g2 : decide (200 < (g.size : Int)) = false := decide_eq_false hg
    have g3 : decide (200 < g.size) = false := decide_eq_false (by omega)
    by_cases hl : (l.length : Int) > 60
    · have g4 : decide ((l.length : Int) > 60) = true := decide_eq_true hl
      have g5 : decide (60 < (l.length : Int)) = true := decide_eq_true hl
      have g6 : decide (60 < l.length) = true := decide_eq_true (by omega)
      clear hl
      go_enter Try.func4, Try.ntmps4
      go_wp2_with fail
      refine (awake_c _).mono ?_
      rintro e' w2 ⟨rfl, hb2⟩
      have hB2 := below_call (by repeat (with_reducible first | exact hB0 | apply below_alloc)) hb2
      go_wp2_with fail
      go_ret
      exact ⟨rfl, hB2⟩
    · have g4 : decide ((l.length : Int) > 60) = false := decide_eq_false hl
      have g5 : decide (60 < (l.length : Int)) = false := decide_eq_false hl
      have g6 : decide (60 < l.length) = false := decide_eq_false (by omega)
      have hl2 : l.length ≤ 60 := by omega
      clear hl
      obtain ⟨r0, r1, r2, r3, r4, r5, r6, r7, r8, r9, c, hN1, hN2, hN0⟩ := two_new lv e p g iv st hlv he hp
      have HN1 := Lib.hid hN1
      have HN2 := Lib.hid hN2
      have HN0 := Lib.hid hN0
      clear hN1 hN2 hN0
      go_enter Try.func4, Try.ntmps4
      go_wp2_with fail
      refine calls_W (fun W1 hW1 => ?_)
      have hB1 : Below w.heap.size w W1 := by rw [hW1]; first | exact hB0 | exact below_alloc (hB0) _ | exact below_alloc (below_alloc (hB0) _) _ | exact below_alloc (below_alloc (below_alloc (hB0) _) _) _
      have hp1 : W1.heap[w.heap.size]? = some (.cells #[.int .u8 lv, .int .u16 e, .int .u8 p, .string g, .int .i64 iv, .int .i64 h0, .int .i64 x0, .int .u64 s0, .bool lo_, .bool fa_] 42 (0, 0)) := by rw [hW1]; exact blk_new _ _
      clear hW1
      refine (HN1.out _).mono ?_
      rintro e' w2 ⟨rfl, hb⟩
      have hp2 := blk_below hp1 hb
      have hB2 := below_call hB1 hb
      have tp := blk_lt hp2
      have zp0 : w2.cell? ⟨w.heap.size, 0, none⟩ = some (.int .u8 lv) := (blk_cell hp2 0).trans rfl
      have fp0 := blk_frozen hp2 0
      have zp1 : w2.cell? ⟨w.heap.size, 1, none⟩ = some (.int .u16 e) := (blk_cell hp2 1).trans rfl
      have fp1 := blk_frozen hp2 1
      have zp2 : w2.cell? ⟨w.heap.size, 2, none⟩ = some (.int .u8 p) := (blk_cell hp2 2).trans rfl
      have fp2 := blk_frozen hp2 2
      have zp3 : w2.cell? ⟨w.heap.size, 3, none⟩ = some (.string g) := (blk_cell hp2 3).trans rfl
      have fp3 := blk_frozen hp2 3
      have zp4 : w2.cell? ⟨w.heap.size, 4, none⟩ = some (.int .i64 iv) := (blk_cell hp2 4).trans rfl
      have fp4 := blk_frozen hp2 4
      have zp5 : w2.cell? ⟨w.heap.size, 5, none⟩ = some (.int .i64 h0) := (blk_cell hp2 5).trans rfl
      have fp5 := blk_frozen hp2 5
      have zp6 : w2.cell? ⟨w.heap.size, 6, none⟩ = some (.int .i64 x0) := (blk_cell hp2 6).trans rfl
      have fp6 := blk_frozen hp2 6
      have zp7 : w2.cell? ⟨w.heap.size, 7, none⟩ = some (.int .u64 s0) := (blk_cell hp2 7).trans rfl
      have fp7 := blk_frozen hp2 7
      have zp8 : w2.cell? ⟨w.heap.size, 8, none⟩ = some (.bool lo_) := (blk_cell hp2 8).trans rfl
      have fp8 := blk_frozen hp2 8
      have zp9 : w2.cell? ⟨w.heap.size, 9, none⟩ = some (.bool fa_) := (blk_cell hp2 9).trans rfl
      have fp9 := blk_frozen hp2 9
      go_wp2_with fail
      refine calls_W (fun W3 hW3 => ?_)
      have hp3 : W3.heap[w.heap.size]? = some (.cells #[.int .u8 lv, .int .u16 e, .int .u8 p, .string g, .int .i64 iv, .int .i64 h0, .int .i64 x0, .int .u64 s0, .bool lo_, .bool fa_] 42 (0, 0)) := by rw [hW3]; first | exact hp2 | exact blk_alloc (hp2) _ | exact blk_alloc (blk_alloc (hp2) _) _ | exact blk_alloc (blk_alloc (blk_alloc (hp2) _) _) _
      have hB3 : Below w.heap.size w W3 := by rw [hW3]; first | exact hB2 | exact below_alloc (hB2) _ | exact below_alloc (below_alloc (hB2) _) _ | exact below_alloc (below_alloc (below_alloc (hB2) _) _) _
      have ha3 : W3.heap[w2.heap.size]? = some (.cells #[.int .u8 r0, .int .u16 r1, .int .u8 r2, .string r3, .int .i64 r4, .int .i64 r5, .int .i64 r6, .int .u64 r7, .bool r8, .bool r9] 42 (0, 0)) := by rw [hW3]; exact blk_new _ _
      clear hW3
      clear tp zp0 fp0 zp1 fp1 zp2 fp2 zp3 fp3 zp4 fp4 zp5 fp5 zp6 fp6 zp7 fp7 zp8 fp8 zp9 fp9
      refine (HN2.out _).mono ?_
      rintro e' w4 ⟨rfl, hb⟩
      have hp4 := blk_below hp3 hb
      have ha4 := blk_below ha3 hb
      have hB4 := below_call hB3 hb
      have tp := blk_lt hp4
      have zp0 : w4.cell? ⟨w.heap.size, 0, none⟩ = some (.int .u8 lv) := (blk_cell hp4 0).trans rfl
      have fp0 := blk_frozen hp4 0
      have zp1 : w4.cell? ⟨w.heap.size, 1, none⟩ = some (.int .u16 e) := (blk_cell hp4 1).trans rfl
      have fp1 := blk_frozen hp4 1
      have zp2 : w4.cell? ⟨w.heap.size, 2, none⟩ = some (.int .u8 p) := (blk_cell hp4 2).trans rfl
      have fp2 := blk_frozen hp4 2
      have zp3 : w4.cell? ⟨w.heap.size, 3, none⟩ = some (.string g) := (blk_cell hp4 3).trans rfl
      have fp3 := blk_frozen hp4 3
      have zp4 : w4.cell? ⟨w.heap.size, 4, none⟩ = some (.int .i64 iv) := (blk_cell hp4 4).trans rfl
      have fp4 := blk_frozen hp4 4
      have zp5 : w4.cell? ⟨w.heap.size, 5, none⟩ = some (.int .i64 h0) := (blk_cell hp4 5).trans rfl
      have fp5 := blk_frozen hp4 5
      have zp6 : w4.cell? ⟨w.heap.size, 6, none⟩ = some (.int .i64 x0) := (blk_cell hp4 6).trans rfl
      have fp6 := blk_frozen hp4 6
      have zp7 : w4.cell? ⟨w.heap.size, 7, none⟩ = some (.int .u64 s0) := (blk_cell hp4 7).trans rfl
      have fp7 := blk_frozen hp4 7
      have zp8 : w4.cell? ⟨w.heap.size, 8, none⟩ = some (.bool lo_) := (blk_cell hp4 8).trans rfl
      have fp8 := blk_frozen hp4 8
      have zp9 : w4.cell? ⟨w.heap.size, 9, none⟩ = some (.bool fa_) := (blk_cell hp4 9).trans rfl
      have fp9 := blk_frozen hp4 9
      have ta := blk_lt ha4
      have za0 : w4.cell? ⟨w2.heap.size, 0, none⟩ = some (.int .u8 r0) := (blk_cell ha4 0).trans rfl
      have fa0 := blk_frozen ha4 0
      have za1 : w4.cell? ⟨w2.heap.size, 1, none⟩ = some (.int .u16 r1) := (blk_cell ha4 1).trans rfl
      have fa1 := blk_frozen ha4 1
      have za2 : w4.cell? ⟨w2.heap.size, 2, none⟩ = some (.int .u8 r2) := (blk_cell ha4 2).trans rfl
      have fa2 := blk_frozen ha4 2
      have za3 : w4.cell? ⟨w2.heap.size, 3, none⟩ = some (.string r3) := (blk_cell ha4 3).trans rfl
      have fa3 := blk_frozen ha4 3
      have za4 : w4.cell? ⟨w2.heap.size, 4, none⟩ = some (.int .i64 r4) := (blk_cell ha4 4).trans rfl
      have fa4 := blk_frozen ha4 4
      have za5 : w4.cell? ⟨w2.heap.size, 5, none⟩ = some (.int .i64 r5) := (blk_cell ha4 5).trans rfl
      have fa5 := blk_frozen ha4 5
      have za6 : w4.cell? ⟨w2.heap.size, 6, none⟩ = some (.int .i64 r6) := (blk_cell ha4 6).trans rfl
      have fa6 := blk_frozen ha4 6
      have za7 : w4.cell? ⟨w2.heap.size, 7, none⟩ = some (.int .u64 r7) := (blk_cell ha4 7).trans rfl
      have fa7 := blk_frozen ha4 7
      have za8 : w4.cell? ⟨w2.heap.size, 8, none⟩ = some (.bool r8) := (blk_cell ha4 8).trans rfl
      have fa8 := blk_frozen ha4 8
      have za9 : w4.cell? ⟨w2.heap.size, 9, none⟩ = some (.bool r9) := (blk_cell ha4 9).trans rfl
      have fa9 := blk_frozen ha4 9
      by_cases hc : c = 0
      · skip
        obtain ⟨rfl, rfl, rfl, rfl, rfl, rfl, rfl, rfl, rfl, rfl⟩ := HN0.out hc
        subst hc
        go_wp2_with fail
        have hab := Nat.ne_of_lt (blk_lt ha4)
        have hBa : w.heap.size ≤ w2.heap.size := hB2.size
        have hBm : w.heap.size ≤ w4.heap.size := hB4.size
        go_loopw [11, 73] (fun nw i wr => ∃ (k : Nat) (now h x s : Int) (lost far : Bool), k ≤ l.length ∧ nw = .int .i64 now ∧ i = .int .i64 k ∧ XL w2.heap.size w4.heap.size lv e p g iv w wr h x s lost far) (fun _ i _ => l.length - (intOf i).toNat)
        case atStart => exact ⟨0, st, st, st, 0, false, false, Nat.zero_le _, rfl, rfl, by decide, blk_alloc ha4 _, blk_new w4 _, below_alloc hB4 _⟩
        case round =>
          obtain ⟨k, now, h, x, s, lost, far, hk, rfl, rfl, hs, hxa, hxm, hB⟩ := hrel
          clear tp zp0 fp0 zp1 fp1 zp2 fp2 zp3 fp3 zp4 fp4 zp5 fp5 zp6 fp6 zp7 fp7 zp8 fp8 zp9 fp9 ta za0 fa0 za1 fa1 za2 fa2 za3 fa3 za4 fa4 za5 fa5 za6 fa6 za7 fa7 za8 fa8 za9 fa9
          by_cases hlt : k < l.length
          · skip
            obtain ⟨b, o, rfl, hblt, hc0', hc1', hc2'⟩ := (HA.out.below hB) k hlt
            have ha7 : wr.heap[w2.heap.size]? = some (.cells #[.int .u8 lv, .int .u16 e, .int .u8 p, .string g, .int .i64 iv, .int .i64 h, .int .i64 x, .int .u64 s, .bool lost, .bool far] 42 (0, 0)) := hxa
            have hm7 : wr.heap[w4.heap.size]? = some (.cells #[.int .u8 lv, .int .u16 e, .int .u8 p, .string g, .int .i64 iv, .int .i64 h, .int .i64 x, .int .u64 s, .bool lost, .bool far] 47 (0, 0)) := hxm
            have hB7 := hB
            clear hxa hxm hB
            have ta := blk_lt ha7
            have za0 : wr.cell? ⟨w2.heap.size, 0, none⟩ = some (.int .u8 lv) := (blk_cell ha7 0).trans rfl
            have fa0 := blk_frozen ha7 0
            have za1 : wr.cell? ⟨w2.heap.size, 1, none⟩ = some (.int .u16 e) := (blk_cell ha7 1).trans rfl
            have fa1 := blk_frozen ha7 1
            have za2 : wr.cell? ⟨w2.heap.size, 2, none⟩ = some (.int .u8 p) := (blk_cell ha7 2).trans rfl
            have fa2 := blk_frozen ha7 2
            have za3 : wr.cell? ⟨w2.heap.size, 3, none⟩ = some (.string g) := (blk_cell ha7 3).trans rfl
            have fa3 := blk_frozen ha7 3
            have za4 : wr.cell? ⟨w2.heap.size, 4, none⟩ = some (.int .i64 iv) := (blk_cell ha7 4).trans rfl
            have fa4 := blk_frozen ha7 4
            have za5 : wr.cell? ⟨w2.heap.size, 5, none⟩ = some (.int .i64 h) := (blk_cell ha7 5).trans rfl
            have fa5 := blk_frozen ha7 5
            have za6 : wr.cell? ⟨w2.heap.size, 6, none⟩ = some (.int .i64 x) := (blk_cell ha7 6).trans rfl
            have fa6 := blk_frozen ha7 6
            have za7 : wr.cell? ⟨w2.heap.size, 7, none⟩ = some (.int .u64 s) := (blk_cell ha7 7).trans rfl
            have fa7 := blk_frozen ha7 7
            have za8 : wr.cell? ⟨w2.heap.size, 8, none⟩ = some (.bool lost) := (blk_cell ha7 8).trans rfl
            have fa8 := blk_frozen ha7 8
            have za9 : wr.cell? ⟨w2.heap.size, 9, none⟩ = some (.bool far) := (blk_cell ha7 9).trans rfl
            have fa9 := blk_frozen ha7 9
            have tm := blk_lt hm7
            have zm0 : wr.cell? ⟨w4.heap.size, 0, none⟩ = some (.int .u8 lv) := (blk_cell hm7 0).trans rfl
            have fm0 := blk_frozen hm7 0
            have zm1 : wr.cell? ⟨w4.heap.size, 1, none⟩ = some (.int .u16 e) := (blk_cell hm7 1).trans rfl
            have fm1 := blk_frozen hm7 1
            have zm2 : wr.cell? ⟨w4.heap.size, 2, none⟩ = some (.int .u8 p) := (blk_cell hm7 2).trans rfl
            have fm2 := blk_frozen hm7 2
            have zm3 : wr.cell? ⟨w4.heap.size, 3, none⟩ = some (.string g) := (blk_cell hm7 3).trans rfl
            have fm3 := blk_frozen hm7 3
            have zm4 : wr.cell? ⟨w4.heap.size, 4, none⟩ = some (.int .i64 iv) := (blk_cell hm7 4).trans rfl
            have fm4 := blk_frozen hm7 4
            have zm5 : wr.cell? ⟨w4.heap.size, 5, none⟩ = some (.int .i64 h) := (blk_cell hm7 5).trans rfl
            have fm5 := blk_frozen hm7 5
            have zm6 : wr.cell? ⟨w4.heap.size, 6, none⟩ = some (.int .i64 x) := (blk_cell hm7 6).trans rfl
            have fm6 := blk_frozen hm7 6
            have zm7 : wr.cell? ⟨w4.heap.size, 7, none⟩ = some (.int .u64 s) := (blk_cell hm7 7).trans rfl
            have fm7 := blk_frozen hm7 7
            have zm8 : wr.cell? ⟨w4.heap.size, 8, none⟩ = some (.bool lost) := (blk_cell hm7 8).trans rfl
            have fm8 := blk_frozen hm7 8
            have zm9 : wr.cell? ⟨w4.heap.size, 9, none⟩ = some (.bool far) := (blk_cell hm7 9).trans rfl
            have fm9 := blk_frozen hm7 9
            have hab2 := Ne.symm hab
            have hblk := blk_lt ha7
            have hblm := blk_lt hm7
            go_wp2_with fail
            · skip
              refine (awake_c _).mono ?_
              rintro e' w2 ⟨rfl, hb2⟩
              have hB2 := below_call (by repeat (with_reducible first | exact hB7 | apply below_alloc)) hb2
              go_wp2_with fail
              go_ret
              exact ⟨rfl, hB2⟩
            · skip
              have hqlt : w2.heap.size < wr.heap.size := hblk
              obtain ⟨h2, lost2, far2, c2, hH1, hH2⟩ := two_hear lv e p g iv h x s lost far (wrap64 (now + wrap64 (l[k]).1)) (l[k]).2.2 (by omega)
              have HH1 := Lib.hid hH1
              have HH2 := Lib.hid hH2
              clear hH1 hH2
              refine calls_W (fun W8 hW8 => ?_)
              have ha8 : W8.heap[w2.heap.size]? = some (.cells #[.int .u8 lv, .int .u16 e, .int .u8 p, .string g, .int .i64 iv, .int .i64 h, .int .i64 x, .int .u64 s, .bool lost, .bool far] 42 (0, 0)) := by rw [hW8]; first | exact ha7 | exact blk_alloc (ha7) _ | exact blk_alloc (blk_alloc (ha7) _) _ | exact blk_alloc (blk_alloc (blk_alloc (ha7) _) _) _
              have hm8 : W8.heap[w4.heap.size]? = some (.cells #[.int .u8 lv, .int .u16 e, .int .u8 p, .string g, .int .i64 iv, .int .i64 h, .int .i64 x, .int .u64 s, .bool lost, .bool far] 47 (0, 0)) := by rw [hW8]; first | exact hm7 | exact blk_alloc (hm7) _ | exact blk_alloc (blk_alloc (hm7) _) _ | exact blk_alloc (blk_alloc (blk_alloc (hm7) _) _) _
              have hB8 : Below w.heap.size w W8 := by rw [hW8]; first | exact hB7 | exact below_alloc (hB7) _ | exact below_alloc (below_alloc (hB7) _) _ | exact below_alloc (below_alloc (below_alloc (hB7) _) _) _
              have hq8 : W8.heap[wr.heap.size]? = some (.cells #[.int .u16 (l[k]).1, .bool true, .string (l[k]).2.2] 51 (0, 0)) := by rw [hW8]; exact blk_new _ _
              clear hW8
              clear ta za0 fa0 za1 fa1 za2 fa2 za3 fa3 za4 fa4 za5 fa5 za6 fa6 za7 fa7 za8 fa8 za9 fa9 tm zm0 fm0 zm1 fm1 zm2 fm2 zm3 fm3 zm4 fm4 zm5 fm5 zm6 fm6 zm7 fm7 zm8 fm8 zm9 fm9
              refine (HH1.out _).mono ?_
              rintro e' w9 ⟨rfl, hb⟩
              have ha9 := blk_below ha8 hb
              have hm9 := blk_below hm8 hb
              have hq9 := blk_below hq8 hb
              have hB9 := below_call hB8 hb
              have hqa : wr.heap.size ≠ w2.heap.size := by omega
              have hqm : wr.heap.size ≠ w4.heap.size := by omega
              have ta := blk_lt ha9
              have za0 : w9.cell? ⟨w2.heap.size, 0, none⟩ = some (.int .u8 lv) := (blk_cell ha9 0).trans rfl
              have fa0 := blk_frozen ha9 0
              have za1 : w9.cell? ⟨w2.heap.size, 1, none⟩ = some (.int .u16 e) := (blk_cell ha9 1).trans rfl
              have fa1 := blk_frozen ha9 1
              have za2 : w9.cell? ⟨w2.heap.size, 2, none⟩ = some (.int .u8 p) := (blk_cell ha9 2).trans rfl
              have fa2 := blk_frozen ha9 2
              have za3 : w9.cell? ⟨w2.heap.size, 3, none⟩ = some (.string g) := (blk_cell ha9 3).trans rfl
              have fa3 := blk_frozen ha9 3
              have za4 : w9.cell? ⟨w2.heap.size, 4, none⟩ = some (.int .i64 iv) := (blk_cell ha9 4).trans rfl
              have fa4 := blk_frozen ha9 4
              have za5 : w9.cell? ⟨w2.heap.size, 5, none⟩ = some (.int .i64 h) := (blk_cell ha9 5).trans rfl
              have fa5 := blk_frozen ha9 5
              have za6 : w9.cell? ⟨w2.heap.size, 6, none⟩ = some (.int .i64 x) := (blk_cell ha9 6).trans rfl
              have fa6 := blk_frozen ha9 6
              have za7 : w9.cell? ⟨w2.heap.size, 7, none⟩ = some (.int .u64 s) := (blk_cell ha9 7).trans rfl
              have fa7 := blk_frozen ha9 7
              have za8 : w9.cell? ⟨w2.heap.size, 8, none⟩ = some (.bool lost) := (blk_cell ha9 8).trans rfl
              have fa8 := blk_frozen ha9 8
              have za9 : w9.cell? ⟨w2.heap.size, 9, none⟩ = some (.bool far) := (blk_cell ha9 9).trans rfl
              have fa9 := blk_frozen ha9 9
              have tm := blk_lt hm9
              have zm0 : w9.cell? ⟨w4.heap.size, 0, none⟩ = some (.int .u8 lv) := (blk_cell hm9 0).trans rfl
              have fm0 := blk_frozen hm9 0
              have zm1 : w9.cell? ⟨w4.heap.size, 1, none⟩ = some (.int .u16 e) := (blk_cell hm9 1).trans rfl
              have fm1 := blk_frozen hm9 1
              have zm2 : w9.cell? ⟨w4.heap.size, 2, none⟩ = some (.int .u8 p) := (blk_cell hm9 2).trans rfl
              have fm2 := blk_frozen hm9 2
              have zm3 : w9.cell? ⟨w4.heap.size, 3, none⟩ = some (.string g) := (blk_cell hm9 3).trans rfl
              have fm3 := blk_frozen hm9 3
              have zm4 : w9.cell? ⟨w4.heap.size, 4, none⟩ = some (.int .i64 iv) := (blk_cell hm9 4).trans rfl
              have fm4 := blk_frozen hm9 4
              have zm5 : w9.cell? ⟨w4.heap.size, 5, none⟩ = some (.int .i64 h) := (blk_cell hm9 5).trans rfl
              have fm5 := blk_frozen hm9 5
              have zm6 : w9.cell? ⟨w4.heap.size, 6, none⟩ = some (.int .i64 x) := (blk_cell hm9 6).trans rfl
              have fm6 := blk_frozen hm9 6
              have zm7 : w9.cell? ⟨w4.heap.size, 7, none⟩ = some (.int .u64 s) := (blk_cell hm9 7).trans rfl
              have fm7 := blk_frozen hm9 7
              have zm8 : w9.cell? ⟨w4.heap.size, 8, none⟩ = some (.bool lost) := (blk_cell hm9 8).trans rfl
              have fm8 := blk_frozen hm9 8
              have zm9 : w9.cell? ⟨w4.heap.size, 9, none⟩ = some (.bool far) := (blk_cell hm9 9).trans rfl
              have fm9 := blk_frozen hm9 9
              have tq := blk_lt hq9
              have zq0 : w9.cell? ⟨wr.heap.size, 0, none⟩ = some (.int .u16 (l[k]).1) := (blk_cell hq9 0).trans rfl
              have fq0 := blk_frozen hq9 0
              have zq1 : w9.cell? ⟨wr.heap.size, 1, none⟩ = some (.bool true) := (blk_cell hq9 1).trans rfl
              have fq1 := blk_frozen hq9 1
              have zq2 : w9.cell? ⟨wr.heap.size, 2, none⟩ = some (.string (l[k]).2.2) := (blk_cell hq9 2).trans rfl
              have fq2 := blk_frozen hq9 2
              go_wp2_with fail
              refine calls_W (fun W10 hW10 => ?_)
              obtain ⟨ha10, hB10, hN10⟩ := box10 ha9 (by omega) hB9 (.int .u8 lv) (.int .u16 e) (.int .u8 p) (.string g) (.int .i64 iv) (.int .i64 h2) (.int .i64 x) (.int .u64 s) (.bool lost2) (.bool far2) W10 hW10
              have hm10 := hN10 _ _ _ (by omega) hm9
              have hq10 := hN10 _ _ _ (by omega) hq9
              clear hW10 hN10
              clear ta za0 fa0 za1 fa1 za2 fa2 za3 fa3 za4 fa4 za5 fa5 za6 fa6 za7 fa7 za8 fa8 za9 fa9 tm zm0 fm0 zm1 fm1 zm2 fm2 zm3 fm3 zm4 fm4 zm5 fm5 zm6 fm6 zm7 fm7 zm8 fm8 zm9 fm9 tq zq0 fq0 zq1 fq1 zq2 fq2
              refine (HH2.out _).mono ?_
              rintro e' w11 ⟨rfl, hb⟩
              have ha11 := blk_below ha10 hb
              have hm11 := blk_below hm10 hb
              have hq11 := blk_below hq10 hb
              have hB11 := below_call hB10 hb
              have ta := blk_lt ha11
              have za0 : w11.cell? ⟨w2.heap.size, 0, none⟩ = some (.int .u8 lv) := (blk_cell ha11 0).trans rfl
              have fa0 := blk_frozen ha11 0
              have za1 : w11.cell? ⟨w2.heap.size, 1, none⟩ = some (.int .u16 e) := (blk_cell ha11 1).trans rfl
              have fa1 := blk_frozen ha11 1
              have za2 : w11.cell? ⟨w2.heap.size, 2, none⟩ = some (.int .u8 p) := (blk_cell ha11 2).trans rfl
              have fa2 := blk_frozen ha11 2
              have za3 : w11.cell? ⟨w2.heap.size, 3, none⟩ = some (.string g) := (blk_cell ha11 3).trans rfl
              have fa3 := blk_frozen ha11 3
              have za4 : w11.cell? ⟨w2.heap.size, 4, none⟩ = some (.int .i64 iv) := (blk_cell ha11 4).trans rfl
              have fa4 := blk_frozen ha11 4
              have za5 : w11.cell? ⟨w2.heap.size, 5, none⟩ = some (.int .i64 h2) := (blk_cell ha11 5).trans rfl
              have fa5 := blk_frozen ha11 5
              have za6 : w11.cell? ⟨w2.heap.size, 6, none⟩ = some (.int .i64 x) := (blk_cell ha11 6).trans rfl
              have fa6 := blk_frozen ha11 6
              have za7 : w11.cell? ⟨w2.heap.size, 7, none⟩ = some (.int .u64 s) := (blk_cell ha11 7).trans rfl
              have fa7 := blk_frozen ha11 7
              have za8 : w11.cell? ⟨w2.heap.size, 8, none⟩ = some (.bool lost2) := (blk_cell ha11 8).trans rfl
              have fa8 := blk_frozen ha11 8
              have za9 : w11.cell? ⟨w2.heap.size, 9, none⟩ = some (.bool far2) := (blk_cell ha11 9).trans rfl
              have fa9 := blk_frozen ha11 9
              have tm := blk_lt hm11
              have zm0 : w11.cell? ⟨w4.heap.size, 0, none⟩ = some (.int .u8 lv) := (blk_cell hm11 0).trans rfl
              have fm0 := blk_frozen hm11 0
              have zm1 : w11.cell? ⟨w4.heap.size, 1, none⟩ = some (.int .u16 e) := (blk_cell hm11 1).trans rfl
              have fm1 := blk_frozen hm11 1
              have zm2 : w11.cell? ⟨w4.heap.size, 2, none⟩ = some (.int .u8 p) := (blk_cell hm11 2).trans rfl
              have fm2 := blk_frozen hm11 2
              have zm3 : w11.cell? ⟨w4.heap.size, 3, none⟩ = some (.string g) := (blk_cell hm11 3).trans rfl
              have fm3 := blk_frozen hm11 3
              have zm4 : w11.cell? ⟨w4.heap.size, 4, none⟩ = some (.int .i64 iv) := (blk_cell hm11 4).trans rfl
              have fm4 := blk_frozen hm11 4
              have zm5 : w11.cell? ⟨w4.heap.size, 5, none⟩ = some (.int .i64 h) := (blk_cell hm11 5).trans rfl
              have fm5 := blk_frozen hm11 5
              have zm6 : w11.cell? ⟨w4.heap.size, 6, none⟩ = some (.int .i64 x) := (blk_cell hm11 6).trans rfl
              have fm6 := blk_frozen hm11 6
              have zm7 : w11.cell? ⟨w4.heap.size, 7, none⟩ = some (.int .u64 s) := (blk_cell hm11 7).trans rfl
              have fm7 := blk_frozen hm11 7
              have zm8 : w11.cell? ⟨w4.heap.size, 8, none⟩ = some (.bool lost) := (blk_cell hm11 8).trans rfl
              have fm8 := blk_frozen hm11 8
              have zm9 : w11.cell? ⟨w4.heap.size, 9, none⟩ = some (.bool far) := (blk_cell hm11 9).trans rfl
              have fm9 := blk_frozen hm11 9
              have tq := blk_lt hq11
              have zq0 : w11.cell? ⟨wr.heap.size, 0, none⟩ = some (.int .u16 (l[k]).1) := (blk_cell hq11 0).trans rfl
              have fq0 := blk_frozen hq11 0
              have zq1 : w11.cell? ⟨wr.heap.size, 1, none⟩ = some (.bool true) := (blk_cell hq11 1).trans rfl
              have fq1 := blk_frozen hq11 1
              have zq2 : w11.cell? ⟨wr.heap.size, 2, none⟩ = some (.string (l[k]).2.2) := (blk_cell hq11 2).trans rfl
              have fq2 := blk_frozen hq11 2
              go_wp2_with fail
              go_roundw
              case rel =>
                obtain ⟨hx, hBx, hNx⟩ := box10 hm11 (by omega) hB11 (.int .u8 lv) (.int .u16 e) (.int .u8 p) (.string g) (.int .i64 iv) (.int .i64 h2) (.int .i64 x) (.int .u64 s) (.bool lost2) (.bool far2) _ rfl
                have hax := hNx _ _ _ (by omega) ha11
                exact ⟨k + 1, (wrap64 (now + wrap64 (l[k]).1)), h2, x, s, lost2, far2, by omega, rfl, wx_int k, hs, hax, hx, hBx⟩
              case measure => simp [intOf]; omega
            · skip
              have hqlt : w2.heap.size < wr.heap.size := hblk
              obtain ⟨x2, s2, lost2, out, hs2, hH1, hH2⟩ := two_tick lv e p g iv h x s lost far (wrap64 (now + wrap64 (l[k]).1)) hlv he hp hs
              have HH1 := Lib.hid hH1
              have HH2 := Lib.hid hH2
              clear hH1 hH2
              refine calls_W (fun W8 hW8 => ?_)
              have ha8 : W8.heap[w2.heap.size]? = some (.cells #[.int .u8 lv, .int .u16 e, .int .u8 p, .string g, .int .i64 iv, .int .i64 h, .int .i64 x, .int .u64 s, .bool lost, .bool far] 42 (0, 0)) := by rw [hW8]; first | exact ha7 | exact blk_alloc (ha7) _ | exact blk_alloc (blk_alloc (ha7) _) _ | exact blk_alloc (blk_alloc (blk_alloc (ha7) _) _) _
              have hm8 : W8.heap[w4.heap.size]? = some (.cells #[.int .u8 lv, .int .u16 e, .int .u8 p, .string g, .int .i64 iv, .int .i64 h, .int .i64 x, .int .u64 s, .bool lost, .bool far] 47 (0, 0)) := by rw [hW8]; first | exact hm7 | exact blk_alloc (hm7) _ | exact blk_alloc (blk_alloc (hm7) _) _ | exact blk_alloc (blk_alloc (blk_alloc (hm7) _) _) _
              have hB8 : Below w.heap.size w W8 := by rw [hW8]; first | exact hB7 | exact below_alloc (hB7) _ | exact below_alloc (below_alloc (hB7) _) _ | exact below_alloc (below_alloc (below_alloc (hB7) _) _) _
              have hq8 : W8.heap[wr.heap.size]? = some (.cells #[.int .u16 (l[k]).1, .bool false, .string (l[k]).2.2] 51 (0, 0)) := by rw [hW8]; exact blk_new _ _
              clear hW8
              clear ta za0 fa0 za1 fa1 za2 fa2 za3 fa3 za4 fa4 za5 fa5 za6 fa6 za7 fa7 za8 fa8 za9 fa9 tm zm0 fm0 zm1 fm1 zm2 fm2 zm3 fm3 zm4 fm4 zm5 fm5 zm6 fm6 zm7 fm7 zm8 fm8 zm9 fm9
              refine (HH1.out _).mono ?_
              rintro e' w9 ⟨rfl, hb⟩
              have ha9 := blk_below ha8 hb
              have hm9 := blk_below hm8 hb
              have hq9 := blk_below hq8 hb
              have hB9 := below_call hB8 hb
              have hqa : wr.heap.size ≠ w2.heap.size := by omega
              have hqm : wr.heap.size ≠ w4.heap.size := by omega
              have ta := blk_lt ha9
              have za0 : w9.cell? ⟨w2.heap.size, 0, none⟩ = some (.int .u8 lv) := (blk_cell ha9 0).trans rfl
              have fa0 := blk_frozen ha9 0
              have za1 : w9.cell? ⟨w2.heap.size, 1, none⟩ = some (.int .u16 e) := (blk_cell ha9 1).trans rfl
              have fa1 := blk_frozen ha9 1
              have za2 : w9.cell? ⟨w2.heap.size, 2, none⟩ = some (.int .u8 p) := (blk_cell ha9 2).trans rfl
              have fa2 := blk_frozen ha9 2
              have za3 : w9.cell? ⟨w2.heap.size, 3, none⟩ = some (.string g) := (blk_cell ha9 3).trans rfl
              have fa3 := blk_frozen ha9 3
              have za4 : w9.cell? ⟨w2.heap.size, 4, none⟩ = some (.int .i64 iv) := (blk_cell ha9 4).trans rfl
              have fa4 := blk_frozen ha9 4
              have za5 : w9.cell? ⟨w2.heap.size, 5, none⟩ = some (.int .i64 h) := (blk_cell ha9 5).trans rfl
              have fa5 := blk_frozen ha9 5
              have za6 : w9.cell? ⟨w2.heap.size, 6, none⟩ = some (.int .i64 x) := (blk_cell ha9 6).trans rfl
              have fa6 := blk_frozen ha9 6
              have za7 : w9.cell? ⟨w2.heap.size, 7, none⟩ = some (.int .u64 s) := (blk_cell ha9 7).trans rfl
              have fa7 := blk_frozen ha9 7
              have za8 : w9.cell? ⟨w2.heap.size, 8, none⟩ = some (.bool lost) := (blk_cell ha9 8).trans rfl
              have fa8 := blk_frozen ha9 8
              have za9 : w9.cell? ⟨w2.heap.size, 9, none⟩ = some (.bool far) := (blk_cell ha9 9).trans rfl
              have fa9 := blk_frozen ha9 9
              have tm := blk_lt hm9
              have zm0 : w9.cell? ⟨w4.heap.size, 0, none⟩ = some (.int .u8 lv) := (blk_cell hm9 0).trans rfl
              have fm0 := blk_frozen hm9 0
              have zm1 : w9.cell? ⟨w4.heap.size, 1, none⟩ = some (.int .u16 e) := (blk_cell hm9 1).trans rfl
              have fm1 := blk_frozen hm9 1
              have zm2 : w9.cell? ⟨w4.heap.size, 2, none⟩ = some (.int .u8 p) := (blk_cell hm9 2).trans rfl
              have fm2 := blk_frozen hm9 2
              have zm3 : w9.cell? ⟨w4.heap.size, 3, none⟩ = some (.string g) := (blk_cell hm9 3).trans rfl
              have fm3 := blk_frozen hm9 3
              have zm4 : w9.cell? ⟨w4.heap.size, 4, none⟩ = some (.int .i64 iv) := (blk_cell hm9 4).trans rfl
              have fm4 := blk_frozen hm9 4
              have zm5 : w9.cell? ⟨w4.heap.size, 5, none⟩ = some (.int .i64 h) := (blk_cell hm9 5).trans rfl
              have fm5 := blk_frozen hm9 5
              have zm6 : w9.cell? ⟨w4.heap.size, 6, none⟩ = some (.int .i64 x) := (blk_cell hm9 6).trans rfl
              have fm6 := blk_frozen hm9 6
              have zm7 : w9.cell? ⟨w4.heap.size, 7, none⟩ = some (.int .u64 s) := (blk_cell hm9 7).trans rfl
              have fm7 := blk_frozen hm9 7
              have zm8 : w9.cell? ⟨w4.heap.size, 8, none⟩ = some (.bool lost) := (blk_cell hm9 8).trans rfl
              have fm8 := blk_frozen hm9 8
              have zm9 : w9.cell? ⟨w4.heap.size, 9, none⟩ = some (.bool far) := (blk_cell hm9 9).trans rfl
              have fm9 := blk_frozen hm9 9
              have tq := blk_lt hq9
              have zq0 : w9.cell? ⟨wr.heap.size, 0, none⟩ = some (.int .u16 (l[k]).1) := (blk_cell hq9 0).trans rfl
              have fq0 := blk_frozen hq9 0
              have zq1 : w9.cell? ⟨wr.heap.size, 1, none⟩ = some (.bool false) := (blk_cell hq9 1).trans rfl
              have fq1 := blk_frozen hq9 1
              have zq2 : w9.cell? ⟨wr.heap.size, 2, none⟩ = some (.string (l[k]).2.2) := (blk_cell hq9 2).trans rfl
              have fq2 := blk_frozen hq9 2
              go_wp2_with fail
              refine calls_W (fun W10 hW10 => ?_)
              have ha10 : W10.heap[w2.heap.size]? = some (.cells #[.int .u8 lv, .int .u16 e, .int .u8 p, .string g, .int .i64 iv, .int .i64 h, .int .i64 x, .int .u64 s, .bool lost, .bool far] 42 (0, 0)) := by rw [hW10]; first | exact ha9 | exact blk_alloc (ha9) _ | exact blk_alloc (blk_alloc (ha9) _) _ | exact blk_alloc (blk_alloc (blk_alloc (ha9) _) _) _
              have hm10 : W10.heap[w4.heap.size]? = some (.cells #[.int .u8 lv, .int .u16 e, .int .u8 p, .string g, .int .i64 iv, .int .i64 h, .int .i64 x, .int .u64 s, .bool lost, .bool far] 47 (0, 0)) := by rw [hW10]; first | exact hm9 | exact blk_alloc (hm9) _ | exact blk_alloc (blk_alloc (hm9) _) _ | exact blk_alloc (blk_alloc (blk_alloc (hm9) _) _) _
              have hq10 : W10.heap[wr.heap.size]? = some (.cells #[.int .u16 (l[k]).1, .bool false, .string (l[k]).2.2] 51 (0, 0)) := by rw [hW10]; first | exact hq9 | exact blk_alloc (hq9) _ | exact blk_alloc (blk_alloc (hq9) _) _ | exact blk_alloc (blk_alloc (blk_alloc (hq9) _) _) _
              have hB10 : Below w.heap.size w W10 := by rw [hW10]; first | exact hB9 | exact below_alloc (hB9) _ | exact below_alloc (below_alloc (hB9) _) _ | exact below_alloc (below_alloc (below_alloc (hB9) _) _) _
              have hb10 : W10.heap[w9.heap.size]? = some (.cells #[.int .u8 lv, .int .u16 e, .int .u8 p, .string g, .int .i64 iv, .int .i64 h, .int .i64 x2, .int .u64 s2, .bool lost2, .bool far] 42 (0, 0)) := by rw [hW10]; exact blk_new _ _
              clear hW10
              clear ta za0 fa0 za1 fa1 za2 fa2 za3 fa3 za4 fa4 za5 fa5 za6 fa6 za7 fa7 za8 fa8 za9 fa9 tm zm0 fm0 zm1 fm1 zm2 fm2 zm3 fm3 zm4 fm4 zm5 fm5 zm6 fm6 zm7 fm7 zm8 fm8 zm9 fm9 tq zq0 fq0 zq1 fq1 zq2 fq2
              refine (HH2.out _).mono ?_
              rintro e' w11 ⟨rfl, hb⟩
              have ha11 := blk_below ha10 hb
              have hm11 := blk_below hm10 hb
              have hq11 := blk_below hq10 hb
              have hb11 := blk_below hb10 hb
              have hB11 := below_call hB10 hb
              have ta := blk_lt ha11
              have za0 : w11.cell? ⟨w2.heap.size, 0, none⟩ = some (.int .u8 lv) := (blk_cell ha11 0).trans rfl
              have fa0 := blk_frozen ha11 0
              have za1 : w11.cell? ⟨w2.heap.size, 1, none⟩ = some (.int .u16 e) := (blk_cell ha11 1).trans rfl
              have fa1 := blk_frozen ha11 1
              have za2 : w11.cell? ⟨w2.heap.size, 2, none⟩ = some (.int .u8 p) := (blk_cell ha11 2).trans rfl
              have fa2 := blk_frozen ha11 2
              have za3 : w11.cell? ⟨w2.heap.size, 3, none⟩ = some (.string g) := (blk_cell ha11 3).trans rfl
              have fa3 := blk_frozen ha11 3
              have za4 : w11.cell? ⟨w2.heap.size, 4, none⟩ = some (.int .i64 iv) := (blk_cell ha11 4).trans rfl
              have fa4 := blk_frozen ha11 4
              have za5 : w11.cell? ⟨w2.heap.size, 5, none⟩ = some (.int .i64 h) := (blk_cell ha11 5).trans rfl
              have fa5 := blk_frozen ha11 5
              have za6 : w11.cell? ⟨w2.heap.size, 6, none⟩ = some (.int .i64 x) := (blk_cell ha11 6).trans rfl
              have fa6 := blk_frozen ha11 6
              have za7 : w11.cell? ⟨w2.heap.size, 7, none⟩ = some (.int .u64 s) := (blk_cell ha11 7).trans rfl
              have fa7 := blk_frozen ha11 7
              have za8 : w11.cell? ⟨w2.heap.size, 8, none⟩ = some (.bool lost) := (blk_cell ha11 8).trans rfl
              have fa8 := blk_frozen ha11 8
              have za9 : w11.cell? ⟨w2.heap.size, 9, none⟩ = some (.bool far) := (blk_cell ha11 9).trans rfl
              have fa9 := blk_frozen ha11 9
              have tm := blk_lt hm11
              have zm0 : w11.cell? ⟨w4.heap.size, 0, none⟩ = some (.int .u8 lv) := (blk_cell hm11 0).trans rfl
              have fm0 := blk_frozen hm11 0
              have zm1 : w11.cell? ⟨w4.heap.size, 1, none⟩ = some (.int .u16 e) := (blk_cell hm11 1).trans rfl
              have fm1 := blk_frozen hm11 1
              have zm2 : w11.cell? ⟨w4.heap.size, 2, none⟩ = some (.int .u8 p) := (blk_cell hm11 2).trans rfl
              have fm2 := blk_frozen hm11 2
              have zm3 : w11.cell? ⟨w4.heap.size, 3, none⟩ = some (.string g) := (blk_cell hm11 3).trans rfl
              have fm3 := blk_frozen hm11 3
              have zm4 : w11.cell? ⟨w4.heap.size, 4, none⟩ = some (.int .i64 iv) := (blk_cell hm11 4).trans rfl
              have fm4 := blk_frozen hm11 4
              have zm5 : w11.cell? ⟨w4.heap.size, 5, none⟩ = some (.int .i64 h) := (blk_cell hm11 5).trans rfl
              have fm5 := blk_frozen hm11 5
              have zm6 : w11.cell? ⟨w4.heap.size, 6, none⟩ = some (.int .i64 x) := (blk_cell hm11 6).trans rfl
              have fm6 := blk_frozen hm11 6
              have zm7 : w11.cell? ⟨w4.heap.size, 7, none⟩ = some (.int .u64 s) := (blk_cell hm11 7).trans rfl
              have fm7 := blk_frozen hm11 7
              have zm8 : w11.cell? ⟨w4.heap.size, 8, none⟩ = some (.bool lost) := (blk_cell hm11 8).trans rfl
              have fm8 := blk_frozen hm11 8
              have zm9 : w11.cell? ⟨w4.heap.size, 9, none⟩ = some (.bool far) := (blk_cell hm11 9).trans rfl
              have fm9 := blk_frozen hm11 9
              have tq := blk_lt hq11
              have zq0 : w11.cell? ⟨wr.heap.size, 0, none⟩ = some (.int .u16 (l[k]).1) := (blk_cell hq11 0).trans rfl
              have fq0 := blk_frozen hq11 0
              have zq1 : w11.cell? ⟨wr.heap.size, 1, none⟩ = some (.bool false) := (blk_cell hq11 1).trans rfl
              have fq1 := blk_frozen hq11 1
              have zq2 : w11.cell? ⟨wr.heap.size, 2, none⟩ = some (.string (l[k]).2.2) := (blk_cell hq11 2).trans rfl
              have fq2 := blk_frozen hq11 2
              have tb := blk_lt hb11
              have zb0 : w11.cell? ⟨w9.heap.size, 0, none⟩ = some (.int .u8 lv) := (blk_cell hb11 0).trans rfl
              have fb0 := blk_frozen hb11 0
              have zb1 : w11.cell? ⟨w9.heap.size, 1, none⟩ = some (.int .u16 e) := (blk_cell hb11 1).trans rfl
              have fb1 := blk_frozen hb11 1
              have zb2 : w11.cell? ⟨w9.heap.size, 2, none⟩ = some (.int .u8 p) := (blk_cell hb11 2).trans rfl
              have fb2 := blk_frozen hb11 2
              have zb3 : w11.cell? ⟨w9.heap.size, 3, none⟩ = some (.string g) := (blk_cell hb11 3).trans rfl
              have fb3 := blk_frozen hb11 3
              have zb4 : w11.cell? ⟨w9.heap.size, 4, none⟩ = some (.int .i64 iv) := (blk_cell hb11 4).trans rfl
              have fb4 := blk_frozen hb11 4
              have zb5 : w11.cell? ⟨w9.heap.size, 5, none⟩ = some (.int .i64 h) := (blk_cell hb11 5).trans rfl
              have fb5 := blk_frozen hb11 5
              have zb6 : w11.cell? ⟨w9.heap.size, 6, none⟩ = some (.int .i64 x2) := (blk_cell hb11 6).trans rfl
              have fb6 := blk_frozen hb11 6
              have zb7 : w11.cell? ⟨w9.heap.size, 7, none⟩ = some (.int .u64 s2) := (blk_cell hb11 7).trans rfl
              have fb7 := blk_frozen hb11 7
              have zb8 : w11.cell? ⟨w9.heap.size, 8, none⟩ = some (.bool lost2) := (blk_cell hb11 8).trans rfl
              have fb8 := blk_frozen hb11 8
              have zb9 : w11.cell? ⟨w9.heap.size, 9, none⟩ = some (.bool far) := (blk_cell hb11 9).trans rfl
              have fb9 := blk_frozen hb11 9
              go_wp2_with fail
              refine wi_W (fun W12 hW12 => ?_)
              have ha12 : W12.heap[w2.heap.size]? = some (.cells #[.int .u8 lv, .int .u16 e, .int .u8 p, .string g, .int .i64 iv, .int .i64 h, .int .i64 x, .int .u64 s, .bool lost, .bool far] 42 (0, 0)) := by rw [hW12]; first | exact ha11 | exact blk_alloc (ha11) _ | exact blk_alloc (blk_alloc (ha11) _) _ | exact blk_alloc (blk_alloc (blk_alloc (ha11) _) _) _
              have hm12 : W12.heap[w4.heap.size]? = some (.cells #[.int .u8 lv, .int .u16 e, .int .u8 p, .string g, .int .i64 iv, .int .i64 h, .int .i64 x, .int .u64 s, .bool lost, .bool far] 47 (0, 0)) := by rw [hW12]; first | exact hm11 | exact blk_alloc (hm11) _ | exact blk_alloc (blk_alloc (hm11) _) _ | exact blk_alloc (blk_alloc (blk_alloc (hm11) _) _) _
              have hq12 : W12.heap[wr.heap.size]? = some (.cells #[.int .u16 (l[k]).1, .bool false, .string (l[k]).2.2] 51 (0, 0)) := by rw [hW12]; first | exact hq11 | exact blk_alloc (hq11) _ | exact blk_alloc (blk_alloc (hq11) _) _ | exact blk_alloc (blk_alloc (blk_alloc (hq11) _) _) _
              have hb12 : W12.heap[w9.heap.size]? = some (.cells #[.int .u8 lv, .int .u16 e, .int .u8 p, .string g, .int .i64 iv, .int .i64 h, .int .i64 x2, .int .u64 s2, .bool lost2, .bool far] 42 (0, 0)) := by rw [hW12]; first | exact hb11 | exact blk_alloc (hb11) _ | exact blk_alloc (blk_alloc (hb11) _) _ | exact blk_alloc (blk_alloc (blk_alloc (hb11) _) _) _
              have hB12 : Below w.heap.size w W12 := by rw [hW12]; first | exact hB11 | exact below_alloc (hB11) _ | exact below_alloc (below_alloc (hB11) _) _ | exact below_alloc (below_alloc (below_alloc (hB11) _) _) _
              have hn12 : W12.heap[w11.heap.size]? = some (.cells #[.int .u8 lv, .int .u16 e, .int .u8 p, .string g, .int .i64 iv, .int .i64 h, .int .i64 x2, .int .u64 s2, .bool lost2, .bool far] 47 (0, 0)) := by rw [hW12]; exact blk_new _ _
              clear hW12
              clear ta za0 fa0 za1 fa1 za2 fa2 za3 fa3 za4 fa4 za5 fa5 za6 fa6 za7 fa7 za8 fa8 za9 fa9 tm zm0 fm0 zm1 fm1 zm2 fm2 zm3 fm3 zm4 fm4 zm5 fm5 zm6 fm6 zm7 fm7 zm8 fm8 zm9 fm9 tq zq0 fq0 zq1 fq1 zq2 fq2 tb zb0 fb0 zb1 fb1 zb2 fb2 zb3 fb3 zb4 fb4 zb5 fb5 zb6 fb6 zb7 fb7 zb8 fb8 zb9 fb9
              have ta := blk_lt ha12
              have za0 : W12.cell? ⟨w2.heap.size, 0, none⟩ = some (.int .u8 lv) := (blk_cell ha12 0).trans rfl
              have fa0 := blk_frozen ha12 0
              have za1 : W12.cell? ⟨w2.heap.size, 1, none⟩ = some (.int .u16 e) := (blk_cell ha12 1).trans rfl
              have fa1 := blk_frozen ha12 1
              have za2 : W12.cell? ⟨w2.heap.size, 2, none⟩ = some (.int .u8 p) := (blk_cell ha12 2).trans rfl
              have fa2 := blk_frozen ha12 2
              have za3 : W12.cell? ⟨w2.heap.size, 3, none⟩ = some (.string g) := (blk_cell ha12 3).trans rfl
              have fa3 := blk_frozen ha12 3
              have za4 : W12.cell? ⟨w2.heap.size, 4, none⟩ = some (.int .i64 iv) := (blk_cell ha12 4).trans rfl
              have fa4 := blk_frozen ha12 4
              have za5 : W12.cell? ⟨w2.heap.size, 5, none⟩ = some (.int .i64 h) := (blk_cell ha12 5).trans rfl
              have fa5 := blk_frozen ha12 5
              have za6 : W12.cell? ⟨w2.heap.size, 6, none⟩ = some (.int .i64 x) := (blk_cell ha12 6).trans rfl
              have fa6 := blk_frozen ha12 6
              have za7 : W12.cell? ⟨w2.heap.size, 7, none⟩ = some (.int .u64 s) := (blk_cell ha12 7).trans rfl
              have fa7 := blk_frozen ha12 7
              have za8 : W12.cell? ⟨w2.heap.size, 8, none⟩ = some (.bool lost) := (blk_cell ha12 8).trans rfl
              have fa8 := blk_frozen ha12 8
              have za9 : W12.cell? ⟨w2.heap.size, 9, none⟩ = some (.bool far) := (blk_cell ha12 9).trans rfl
              have fa9 := blk_frozen ha12 9
              have tm := blk_lt hm12
              have zm0 : W12.cell? ⟨w4.heap.size, 0, none⟩ = some (.int .u8 lv) := (blk_cell hm12 0).trans rfl
              have fm0 := blk_frozen hm12 0
              have zm1 : W12.cell? ⟨w4.heap.size, 1, none⟩ = some (.int .u16 e) := (blk_cell hm12 1).trans rfl
              have fm1 := blk_frozen hm12 1
              have zm2 : W12.cell? ⟨w4.heap.size, 2, none⟩ = some (.int .u8 p) := (blk_cell hm12 2).trans rfl
              have fm2 := blk_frozen hm12 2
              have zm3 : W12.cell? ⟨w4.heap.size, 3, none⟩ = some (.string g) := (blk_cell hm12 3).trans rfl
              have fm3 := blk_frozen hm12 3
              have zm4 : W12.cell? ⟨w4.heap.size, 4, none⟩ = some (.int .i64 iv) := (blk_cell hm12 4).trans rfl
              have fm4 := blk_frozen hm12 4
              have zm5 : W12.cell? ⟨w4.heap.size, 5, none⟩ = some (.int .i64 h) := (blk_cell hm12 5).trans rfl
              have fm5 := blk_frozen hm12 5
              have zm6 : W12.cell? ⟨w4.heap.size, 6, none⟩ = some (.int .i64 x) := (blk_cell hm12 6).trans rfl
              have fm6 := blk_frozen hm12 6
              have zm7 : W12.cell? ⟨w4.heap.size, 7, none⟩ = some (.int .u64 s) := (blk_cell hm12 7).trans rfl
              have fm7 := blk_frozen hm12 7
              have zm8 : W12.cell? ⟨w4.heap.size, 8, none⟩ = some (.bool lost) := (blk_cell hm12 8).trans rfl
              have fm8 := blk_frozen hm12 8
              have zm9 : W12.cell? ⟨w4.heap.size, 9, none⟩ = some (.bool far) := (blk_cell hm12 9).trans rfl
              have fm9 := blk_frozen hm12 9
              have tq := blk_lt hq12
              have zq0 : W12.cell? ⟨wr.heap.size, 0, none⟩ = some (.int .u16 (l[k]).1) := (blk_cell hq12 0).trans rfl
              have fq0 := blk_frozen hq12 0
              have zq1 : W12.cell? ⟨wr.heap.size, 1, none⟩ = some (.bool false) := (blk_cell hq12 1).trans rfl
              have fq1 := blk_frozen hq12 1
              have zq2 : W12.cell? ⟨wr.heap.size, 2, none⟩ = some (.string (l[k]).2.2) := (blk_cell hq12 2).trans rfl
              have fq2 := blk_frozen hq12 2
              have tb := blk_lt hb12
              have zb0 : W12.cell? ⟨w9.heap.size, 0, none⟩ = some (.int .u8 lv) := (blk_cell hb12 0).trans rfl
              have fb0 := blk_frozen hb12 0
              have zb1 : W12.cell? ⟨w9.heap.size, 1, none⟩ = some (.int .u16 e) := (blk_cell hb12 1).trans rfl
              have fb1 := blk_frozen hb12 1
              have zb2 : W12.cell? ⟨w9.heap.size, 2, none⟩ = some (.int .u8 p) := (blk_cell hb12 2).trans rfl
              have fb2 := blk_frozen hb12 2
              have zb3 : W12.cell? ⟨w9.heap.size, 3, none⟩ = some (.string g) := (blk_cell hb12 3).trans rfl
              have fb3 := blk_frozen hb12 3
              have zb4 : W12.cell? ⟨w9.heap.size, 4, none⟩ = some (.int .i64 iv) := (blk_cell hb12 4).trans rfl
              have fb4 := blk_frozen hb12 4
              have zb5 : W12.cell? ⟨w9.heap.size, 5, none⟩ = some (.int .i64 h) := (blk_cell hb12 5).trans rfl
              have fb5 := blk_frozen hb12 5
              have zb6 : W12.cell? ⟨w9.heap.size, 6, none⟩ = some (.int .i64 x2) := (blk_cell hb12 6).trans rfl
              have fb6 := blk_frozen hb12 6
              have zb7 : W12.cell? ⟨w9.heap.size, 7, none⟩ = some (.int .u64 s2) := (blk_cell hb12 7).trans rfl
              have fb7 := blk_frozen hb12 7
              have zb8 : W12.cell? ⟨w9.heap.size, 8, none⟩ = some (.bool lost2) := (blk_cell hb12 8).trans rfl
              have fb8 := blk_frozen hb12 8
              have zb9 : W12.cell? ⟨w9.heap.size, 9, none⟩ = some (.bool far) := (blk_cell hb12 9).trans rfl
              have fb9 := blk_frozen hb12 9
              have tn := blk_lt hn12
              have zn0 : W12.cell? ⟨w11.heap.size, 0, none⟩ = some (.int .u8 lv) := (blk_cell hn12 0).trans rfl
              have fn0 := blk_frozen hn12 0
              have zn1 : W12.cell? ⟨w11.heap.size, 1, none⟩ = some (.int .u16 e) := (blk_cell hn12 1).trans rfl
              have fn1 := blk_frozen hn12 1
              have zn2 : W12.cell? ⟨w11.heap.size, 2, none⟩ = some (.int .u8 p) := (blk_cell hn12 2).trans rfl
              have fn2 := blk_frozen hn12 2
              have zn3 : W12.cell? ⟨w11.heap.size, 3, none⟩ = some (.string g) := (blk_cell hn12 3).trans rfl
              have fn3 := blk_frozen hn12 3
              have zn4 : W12.cell? ⟨w11.heap.size, 4, none⟩ = some (.int .i64 iv) := (blk_cell hn12 4).trans rfl
              have fn4 := blk_frozen hn12 4
              have zn5 : W12.cell? ⟨w11.heap.size, 5, none⟩ = some (.int .i64 h) := (blk_cell hn12 5).trans rfl
              have fn5 := blk_frozen hn12 5
              have zn6 : W12.cell? ⟨w11.heap.size, 6, none⟩ = some (.int .i64 x2) := (blk_cell hn12 6).trans rfl
              have fn6 := blk_frozen hn12 6
              have zn7 : W12.cell? ⟨w11.heap.size, 7, none⟩ = some (.int .u64 s2) := (blk_cell hn12 7).trans rfl
              have fn7 := blk_frozen hn12 7
              have zn8 : W12.cell? ⟨w11.heap.size, 8, none⟩ = some (.bool lost2) := (blk_cell hn12 8).trans rfl
              have fn8 := blk_frozen hn12 8
              have zn9 : W12.cell? ⟨w11.heap.size, 9, none⟩ = some (.bool far) := (blk_cell hn12 9).trans rfl
              have fn9 := blk_frozen hn12 9
              have na0 := Nat.ne_of_lt (blk_lt ha11)
              have nb0 := Nat.ne_of_gt (blk_lt ha11)
              have na1 := Nat.ne_of_lt (blk_lt hm11)
              have nb1 := Nat.ne_of_gt (blk_lt hm11)
              have na2 := Nat.ne_of_lt (blk_lt hb11)
              have nb2 := Nat.ne_of_gt (blk_lt hb11)
              have na3 := Nat.ne_of_lt (blk_lt hq11)
              have nb3 := Nat.ne_of_gt (blk_lt hq11)
              have na4 := Nat.ne_of_lt (blk_lt ha9)
              have nb4 := Nat.ne_of_gt (blk_lt ha9)
              have na5 := Nat.ne_of_lt (blk_lt hm9)
              have nb5 := Nat.ne_of_gt (blk_lt hm9)
              go_region_with fail
              all_goals
                refine then_W (fun W13 hW13 => ?_)
                obtain ⟨hau, hBu, hNu⟩ := box10 ha12 (by omega) hB12 (.int .u8 lv) (.int .u16 e) (.int .u8 p) (.string g) (.int .i64 iv) (.int .i64 h) (.int .i64 x2) (.int .u64 s2) (.bool lost2) (.bool far) _ rfl
                have hmu := hNu _ _ _ (by omega) hm12
                obtain ⟨hmv, hBv, hNv⟩ := box10 hmu (by omega) hBu (.int .u8 lv) (.int .u16 e) (.int .u8 p) (.string g) (.int .i64 iv) (.int .i64 h) (.int .i64 x2) (.int .u64 s2) (.bool lost2) (.bool far) _ rfl
                have hav := hNv _ _ _ (by omega) hau
                have ha13 : W13.heap[w2.heap.size]? = some (.cells #[.int .u8 lv, .int .u16 e, .int .u8 p, .string g, .int .i64 iv, .int .i64 h, .int .i64 x2, .int .u64 s2, .bool lost2, .bool far] 42 (0, 0)) := by rw [hW13]; exact blk_drew hav
                have hm13 : W13.heap[w4.heap.size]? = some (.cells #[.int .u8 lv, .int .u16 e, .int .u8 p, .string g, .int .i64 iv, .int .i64 h, .int .i64 x2, .int .u64 s2, .bool lost2, .bool far] 47 (0, 0)) := by rw [hW13]; exact blk_drew hmv
                have hB13 : Below w.heap.size w W13 := by rw [hW13]; exact below_drew1 hBv
                clear hW13 hau hBu hNu hmu hmv hBv hNv hav
                clear ta za0 fa0 za1 fa1 za2 fa2 za3 fa3 za4 fa4 za5 fa5 za6 fa6 za7 fa7 za8 fa8 za9 fa9 tm zm0 fm0 zm1 fm1 zm2 fm2 zm3 fm3 zm4 fm4 zm5 fm5 zm6 fm6 zm7 fm7 zm8 fm8 zm9 fm9 tq zq0 fq0 zq1 fq1 zq2 fq2 tb zb0 fb0 zb1 fb1 zb2 fb2 zb3 fb3 zb4 fb4 zb5 fb5 zb6 fb6 zb7 fb7 zb8 fb8 zb9 fb9 tn zn0 fn0 zn1 fn1 zn2 fn2 zn3 fn3 zn4 fn4 zn5 fn5 zn6 fn6 zn7 fn7 zn8 fn8 zn9 fn9
                have ta := blk_lt ha13
                have za0 : W13.cell? ⟨w2.heap.size, 0, none⟩ = some (.int .u8 lv) := (blk_cell ha13 0).trans rfl
                have fa0 := blk_frozen ha13 0
                have za1 : W13.cell? ⟨w2.heap.size, 1, none⟩ = some (.int .u16 e) := (blk_cell ha13 1).trans rfl
                have fa1 := blk_frozen ha13 1
                have za2 : W13.cell? ⟨w2.heap.size, 2, none⟩ = some (.int .u8 p) := (blk_cell ha13 2).trans rfl
                have fa2 := blk_frozen ha13 2
                have za3 : W13.cell? ⟨w2.heap.size, 3, none⟩ = some (.string g) := (blk_cell ha13 3).trans rfl
                have fa3 := blk_frozen ha13 3
                have za4 : W13.cell? ⟨w2.heap.size, 4, none⟩ = some (.int .i64 iv) := (blk_cell ha13 4).trans rfl
                have fa4 := blk_frozen ha13 4
                have za5 : W13.cell? ⟨w2.heap.size, 5, none⟩ = some (.int .i64 h) := (blk_cell ha13 5).trans rfl
                have fa5 := blk_frozen ha13 5
                have za6 : W13.cell? ⟨w2.heap.size, 6, none⟩ = some (.int .i64 x2) := (blk_cell ha13 6).trans rfl
                have fa6 := blk_frozen ha13 6
                have za7 : W13.cell? ⟨w2.heap.size, 7, none⟩ = some (.int .u64 s2) := (blk_cell ha13 7).trans rfl
                have fa7 := blk_frozen ha13 7
                have za8 : W13.cell? ⟨w2.heap.size, 8, none⟩ = some (.bool lost2) := (blk_cell ha13 8).trans rfl
                have fa8 := blk_frozen ha13 8
                have za9 : W13.cell? ⟨w2.heap.size, 9, none⟩ = some (.bool far) := (blk_cell ha13 9).trans rfl
                have fa9 := blk_frozen ha13 9
                have tm := blk_lt hm13
                have zm0 : W13.cell? ⟨w4.heap.size, 0, none⟩ = some (.int .u8 lv) := (blk_cell hm13 0).trans rfl
                have fm0 := blk_frozen hm13 0
                have zm1 : W13.cell? ⟨w4.heap.size, 1, none⟩ = some (.int .u16 e) := (blk_cell hm13 1).trans rfl
                have fm1 := blk_frozen hm13 1
                have zm2 : W13.cell? ⟨w4.heap.size, 2, none⟩ = some (.int .u8 p) := (blk_cell hm13 2).trans rfl
                have fm2 := blk_frozen hm13 2
                have zm3 : W13.cell? ⟨w4.heap.size, 3, none⟩ = some (.string g) := (blk_cell hm13 3).trans rfl
                have fm3 := blk_frozen hm13 3
                have zm4 : W13.cell? ⟨w4.heap.size, 4, none⟩ = some (.int .i64 iv) := (blk_cell hm13 4).trans rfl
                have fm4 := blk_frozen hm13 4
                have zm5 : W13.cell? ⟨w4.heap.size, 5, none⟩ = some (.int .i64 h) := (blk_cell hm13 5).trans rfl
                have fm5 := blk_frozen hm13 5
                have zm6 : W13.cell? ⟨w4.heap.size, 6, none⟩ = some (.int .i64 x2) := (blk_cell hm13 6).trans rfl
                have fm6 := blk_frozen hm13 6
                have zm7 : W13.cell? ⟨w4.heap.size, 7, none⟩ = some (.int .u64 s2) := (blk_cell hm13 7).trans rfl
                have fm7 := blk_frozen hm13 7
                have zm8 : W13.cell? ⟨w4.heap.size, 8, none⟩ = some (.bool lost2) := (blk_cell hm13 8).trans rfl
                have fm8 := blk_frozen hm13 8
                have zm9 : W13.cell? ⟨w4.heap.size, 9, none⟩ = some (.bool far) := (blk_cell hm13 9).trans rfl
                have fm9 := blk_frozen hm13 9
                go_wp2_with fail
                go_roundw
                case rel => exact ⟨k + 1, (wrap64 (now + wrap64 (l[k]).1)), h, x2, s2, lost2, far, by omega, rfl, wx_int k, hs2, ha13, hm13, hB13⟩
                case measure => simp [intOf]; omega
            · skip
              refine (awake_c _).mono ?_
              rintro e' w2 ⟨rfl, hb2⟩
              have hB2 := below_call (by repeat (with_reducible first | exact hB7 | apply below_alloc)) hb2
              go_wp2_with fail
              go_ret
              exact ⟨rfl, hB2⟩
          · have hje : k = l.length := by omega
            subst hje
            go_wp2_with fail
            refine (awake_c _).mono ?_
            rintro e' w2 ⟨rfl, hb2⟩
            have hB2 := below_call hB hb2
            go_wp2_with fail
            go_ret
            exact ⟨rfl, hB2⟩
      · go_wp2_with fail
        refine (awake_c _).mono ?_
        rintro e' w2 ⟨rfl, hb2⟩
        have hB2 := below_call (by repeat (with_reducible first | exact hB4 | apply below_alloc)) hb2
        go_wp2_with fail
        go_ret
        exact ⟨rfl, hB2⟩
end Go.Proofs.Ytapicoienpbdfaa.Wx
