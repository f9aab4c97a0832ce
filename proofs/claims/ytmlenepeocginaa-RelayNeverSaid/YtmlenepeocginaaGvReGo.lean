/- Relay: where a frame goes. -/
import Derived.Test.YtmlenepeocginaaGvFdAwake
import Derived.Test.YtmlenepeocginaaPRelayNeverx3
namespace Go.Proofs.Ytmlenepeocginaa.Gv
open Go.RowKit Go.Maps Go.WideElems Go.Lib Go.Proofs.YtmlenepeocginaaW.PrintWords Go.Proofs.YtmlenepeocginaaW.PrintLast Go.Proofs.YtmlenepeocginaaW.PrintMore Go.Proofs.Ytmlenepeocginaa.PRelayNever
set_option linter.unusedVariables false
set_option linter.unusedSimpArgs false
def opnI (sw se : Bool) (p : Int) : Bool := if p = 2 then true else if p = 0 then !sw else if p = 1 then !se else false
def datI (sw se : Bool) (i o : Int) : Bool := if i = o then false else (opnI sw se i && opnI sw se o)
def outsI (sw se : Bool) (i : Int) : List Int := [0, 1, 2].filter (datI sw se i)
def grpD (a : Int) : Bool := if a ≤ 281474976710655 then grpI a else false
theorem open_f (sw se : Bool) (p : Int) : filter_Open.f sw se p = some (opnI sw se p) := rfl
theorem data_f (sw se : Bool) (i o : Int) : filter_Data.f sw se i o = some (datI sw se i o) := by
  unfold filter_Data.f datI
  by_cases h : i = o
  · rw [if_pos h, if_pos h]
  · rw [if_neg h, if_neg h, open_f, open_f]
    show (if opnI sw se i = true then _ else _) = _
    cases opnI sw se i <;> rfl
theorem outs_f (sw se : Bool) (i : Int) : filter_Outs.f 4 sw se i = some (outsI sw se i) := by
  have e1 : wrap64 1 = 1 := by unfold wrap64; omega
  have e2 : wrap64 2 = 2 := by unfold wrap64; omega
  have e3 : wrap64 3 = 3 := by unfold wrap64; omega
  unfold filter_Outs.f outsI
  simp only [filter_Outs.l0, data_f, Option.bind_some, List.filter_cons, List.filter_nil]
  cases h0 : datI sw se i 0 <;> cases h1 : datI sw se i 1 <;> cases h2 : datI sw se i 2 <;> simp [e1, e2, e3, h0, h1, h2]
theorem group_f (a : Int) : mac_Addr_Group.f a = some (grpD a) := by
  unfold mac_Addr_Group.f mac_Addr_May.f grpD grpI
  by_cases h : a ≤ 281474976710655 <;> simp [h]
theorem group_calls (a : Int) (w : World) : Calls Try.prog 19 #[.int .u64 a] w fun e w' => e = .returned (.bool (grpD a)) ∧ Below w.heap.size w w' := by
  refine (mac_Addr_Group.calls a _ w (group_f a)).mono ?_
  rintro e w' ⟨h, n, rfl⟩
  exact ⟨h, by first | exact pw_below_drewN (Below.refl _ _) n | exact Below.refl _ _⟩
/-- A slice of numbers. -/
def IntsAt (w : World) (v : Value) (xs : List Int) : Prop := ∃ A c, v = .slice A xs.length c ∧ xs.length ≤ c ∧ Kd.C (Kd.int .i64) w A xs.length xs
theorem IntsAt.below {w w' : World} {v : Value} {xs : List Int} (h : IntsAt w v xs) (hb : Below w.heap.size w w') : IntsAt w' v xs := by
  obtain ⟨A, c, h1, h2, h3⟩ := h
  exact ⟨A, c, h1, h2, Kd.C_below h3 hb⟩
theorem IntsAt.nil (w : World) : IntsAt w (.slice none 0 0) [] := ⟨none, 0, rfl, by simp, Kd.C_nil _ w⟩
/-- What a look answers. -/
def LKI (age now : Int) (L : List Rw) (k : Int × Int) (p : Int) (kn : Bool) : Prop := ∃ (r : Rw) (ok : Bool), FND L k r ok ∧ ((ok = true ∧ wrap64 (now - r.2.2.2) < age ∧ p = r.2.2.1 ∧ kn = true) ∨ ((ok = false ∨ age ≤ wrap64 (now - r.2.2.2)) ∧ p = -1 ∧ kn = false))
/-- Where a frame goes. -/
def GOR (room age now : Int) (sw se : Bool) (inn dst src vlan : Int) (L L' : List Rw) (xs : List Int) (all : Bool) (code : Int) : Prop :=
  (code ≠ 0 ∧ xs = [] ∧ all = false ∧ L' = L ∧ (inn < 0 ∨ 2 < inn ∨ opnI sw se inn = false)) ∨
  (code = 0 ∧ 0 ≤ inn ∧ inn ≤ 2 ∧ opnI sw se inn = true ∧ (∃ c1, LN room now vlan src inn L c1 L') ∧ ∃ (p : Int) (kn : Bool), LKI age now L' (vlan, dst) p kn ∧
    (((grpD dst = true ∨ kn = false) ∧ all = true ∧ xs = outsI sw se inn) ∨ (grpD dst = false ∧ kn = true ∧ all = false ∧ xs = if datI sw se inn p = true then [p] else [])))
/-- What relay.Go answers. -/
def GOP (room age now : Int) (sw se : Bool) (inn dst src vlan : Int) (L : List Rw) (w : World) (e : Ending) (w' : World) : Prop := ∃ (mb' : Option Nat) (L' : List Rw) (v : Value) (xs : List Int) (all : Bool) (code : Int), e = .returned (.tuple #[.agg #[.int .i64 room, .int .i64 age, .map mb'], v, .bool all, .int .i64 code]) ∧ GOR room age now sw se inn dst src vlan L L' xs all code ∧ Tab w' mb' L' ∧ IntsAt w' v xs ∧ Below w.heap.size w w'
theorem look_calls2 (room age now k0 k1 : Int) (mb : Option Nat) (L : List Rw) (h1 : (Lit.int .u16 k0).wf = true) (h2 : (Lit.int .u64 k1).wf = true) (w : World) (hT : Tab w mb L) : Calls Try.prog 10 #[.agg #[.int .i64 room, .int .i64 age, .map mb], .int .i64 now, .int .u16 k0, .int .u64 k1] w fun e w' => ∃ p kn, e = .returned (.tuple #[.int .i64 p, .bool kn]) ∧ LKI age now L (k0, k1) p kn ∧ Below w.heap.size w w' := by
  refine (look_calls room age now k0 k1 mb L h1 h2 w hT).mono ?_
  rintro e w' ⟨⟨r, ok, hf, h⟩, hb⟩
  rcases h with ⟨a, b, rfl⟩ | ⟨a, rfl⟩
  · exact ⟨_, _, rfl, ⟨r, ok, hf, .inl ⟨a, b, rfl, rfl⟩⟩, hb⟩
  · exact ⟨_, _, rfl, ⟨r, ok, hf, .inr ⟨a, rfl, rfl⟩⟩, hb⟩
theorem outs_calls (sw se : Bool) (i : Int) (w : World) : Calls Try.prog 41 #[.agg #[.bool sw, .bool se], .int .i64 i] w fun e w' => ∃ v, e = .returned v ∧ IntsAt w' v (outsI sw se i) ∧ Below w.heap.size w w' ∧ ∀ k, v.ownBlock = some k → w.heap.size ≤ k := by
  refine (filter_Outs.calls 4 sw se i _ w (outs_f sw se i)).mono ?_
  rintro e w' ⟨v, he, hR, hb⟩
  exact ⟨v, he, Kd.R_reads hR, hb, fun k hk => ((Kd.R_bound hR).1 k hk).2.1⟩
theorem results_cttt {P : Program} {fn : Func} {p u v x : Tmp} {ty : TypeId} (h : fn.results = #[.cell p ty, .tmp u, .tmp v, .tmp x]) (tmps : Array Value) (w : World) (g : Nat) (t : TypeId) (cs : Array Value) (fr : Nat × Nat) (d : TypeDesc)
    (hp : tmps.getD p undef = .pointer (some ⟨g, 0, none⟩)) (hg : w.heap[g]? = some (.cells cs t fr))
    (hu : P.underlying ty = some d) (hd : (match d with | .struct _ | .array _ _ => true | _ => false) = true) (hi : (P.info? ty).map (·.size) = some cs.size) :
    (results fn tmps).run P w = .ok (.tuple #[.agg cs, tmps.getD u undef, tmps.getD v undef, tmps.getD x undef]) w := by
  have hp' : tmps[p]?.getD undef = .pointer (some ⟨g, 0, none⟩) := by simpa using hp
  simp [results, h, hp', asAddr, run_loadVar_row w g t ty cs fr d hg hu hd hi]
theorem ints_put3 {w : World} {g : Nat} {cs : Array Value} {v : Value} {xs : List Int} {x y z : Value} (h : IntsAt w v xs) (hg : w.heap[g]? = some (.cells cs 26 (0, 0))) (hne : ∀ A c, v = .slice A xs.length c → 0 < xs.length → ∀ ad, A = some ad → ad.block ≠ g) : IntsAt (((w.setCell ⟨g, 0, none⟩ x).setCell ⟨g, 1, none⟩ y).setCell ⟨g, 2, none⟩ z) v xs := by
  obtain ⟨A, c, rfl, h2, h3⟩ := h
  refine ⟨A, c, rfl, h2, Kd.C_foot_ne (g := g) (fun h => h) h3 (fun ad ha hn => hne A c rfl hn ad ha) _ ?_⟩
  exact ((KeepBut.set_ (KeepBut.refl w g none) 0 x).set_ 1 y).set_ 2 z
theorem ints_mk {w : World} {g : Nat} {t : TypeId} (xs : List Int) (hx : xs.length ≤ 9223372036854775807) (hg : w.heap[g]? = some (.cells (xs.map (Value.int .i64)).toArray t (0, 0))) : Kd.C (Kd.int .i64) w (some ⟨g, 0, none⟩) xs.length xs := by
  refine Kd.C_of_reads (d := 0) ⟨rfl, hx, fun _ => ⟨_, rfl, fun j hj => ?_⟩⟩
  have h := blk_cell hg j
  have e : Addr.add ⟨g, 0, none⟩ j = ⟨g, j, none⟩ := by simp [Addr.add] <;> omega
  rw [e, h]
  simp [List.getD_eq_getElem?_getD, List.getElem?_eq_getElem hj]
theorem blk_newk {w : World} {n : Nat} (o : Obj) (h : w.heap.size = n) : (w.alloc o).heap[n]? = some o := by subst h; exact blk_new w o
theorem go_ret4 {W : World} {room age : Int} {mb' : Option Nat} {g : Nat} {tmps : Array Value} {v : Value} {all : Bool} {code : Int} {R : Ending → World → Prop}
    (hg : W.heap[g]? = some (.cells #[.int .i64 room, .int .i64 age, .map mb'] 26)) (hp : tmps.getD 10 undef = .pointer (some ⟨g, 0, none⟩)) (e1 : tmps.getD 11 undef = v) (e2 : tmps.getD 12 undef = .bool all) (e3 : tmps.getD 13 undef = .int .i64 code)
    (hR : R (.returned (.tuple #[.agg #[.int .i64 room, .int .i64 age, .map mb'], v, .bool all, .int .i64 code])) W) : bodyPost Try.prog Try.f18 R .ret ⟨tmps, []⟩ W := by
  refine bodyPost_ret (results_cttt rfl _ _ g 26 #[.int .i64 room, .int .i64 age, .map mb'] (0, 0) _ hp hg Try.underlying26 rfl (by kernel_rfl)) rfl ?_
  rw [e1, e2, e3]
  exact hR
set_option maxHeartbeats 16000000 in
set_option maxRecDepth 100000 in
theorem go_calls (room age now : Int) (sw se : Bool) (inn dst src pri vlan typ : Int) (drop : Bool) (body : ByteArray) (mb : Option Nat) (L : List Rw) (hL : L.length ≤ 100000) (h1 : (Lit.int .u16 vlan).wf = true) (h2 : (Lit.int .u64 src).wf = true) (h3 : (Lit.int .u64 dst).wf = true) (w : World) (hT : Tab w mb L) :
    Calls Try.prog 18 #[.agg #[.int .i64 room, .int .i64 age, .map mb], .agg #[.bool sw, .bool se], .int .i64 now, .int .i64 inn, .agg #[.int .u64 dst, .int .u64 src, .int .u8 pri, .bool drop, .int .u16 vlan, .int .u16 typ, .string body]] w fun e w' => GOP room age now sw se inn dst src vlan L w e w' := by
  go_enter Try.func18, Try.ntmps18
  have HT := Lib.hid hT
  clear hT
  by_cases hi : 0 ≤ inn ∧ inn ≤ 2
  · obtain ⟨hi0, hi1⟩ := hi
    go_wp2_with fail
    refine fd_calls_W ?_
    intro W0 hW0
    have hF0 : W0.heap[w.heap.size]? = some (.cells #[.int .i64 room, .int .i64 age, .map mb] 26) ∧ W0.heap[w.heap.size + 1]? = some (.cells #[.bool sw, .bool se] 60) ∧ W0.heap[w.heap.size + 1 + 1]? = some (.cells #[.int .u64 dst, .int .u64 src, .int .u8 pri, .bool drop, .int .u16 vlan, .int .u16 typ, .string body] 54) ∧ W0.heap[w.heap.size + 1 + 1 + 1]? = some (.cells #[.int .i64 0, .int .i64 0, .map none] 26) := by
      rw [hW0]
      exact ⟨blk_alloc (blk_alloc (blk_alloc (blk_new _ _) _) _) _, blk_alloc (blk_alloc (blk_newk _ (by simp)) _) _, blk_alloc (blk_newk _ (by simp)) _, blk_newk _ (by simp)⟩
    have hb0 : Below w.heap.size w W0 := by rw [hW0]; repeat (first | exact Below.refl _ _ | apply below_alloc)
    clear hW0
    refine (filter_Open.calls sw se inn _ W0 (open_f sw se inn)).mono ?_
    rintro e' w1 ⟨rfl, hb1⟩
    have hF1 : (w1.heap[w.heap.size]? = some (.cells #[.int .i64 room, .int .i64 age, .map mb] 26) ∧ w1.heap[w.heap.size + 1]? = some (.cells #[.bool sw, .bool se] 60) ∧ w1.heap[w.heap.size + 1 + 1]? = some (.cells #[.int .u64 dst, .int .u64 src, .int .u8 pri, .bool drop, .int .u16 vlan, .int .u16 typ, .string body] 54) ∧ w1.heap[w.heap.size + 1 + 1 + 1]? = some (.cells #[.int .i64 0, .int .i64 0, .map none] 26)) ∧ Below w.heap.size w w1 := ⟨⟨blk_below hF0.1 hb1, blk_below hF0.2.1 hb1, blk_below hF0.2.2.1 hb1, blk_below hF0.2.2.2 hb1⟩, hb0.trans (hb1.mono hb0.size)⟩
    have H1 := Lib.hid hF1
    clear hF0 hF1 hb0 hb1
    have cT0 : w1.cell? ⟨w.heap.size, 0, none⟩ = some (.int .i64 room) := (blk_cell (H1.out.1.1) 0).trans rfl
    have fT0 := blk_frozen (H1.out.1.1) 0
    have cT1 : w1.cell? ⟨w.heap.size, 1, none⟩ = some (.int .i64 age) := (blk_cell (H1.out.1.1) 1).trans rfl
    have fT1 := blk_frozen (H1.out.1.1) 1
    have cT2 : w1.cell? ⟨w.heap.size, 2, none⟩ = some (.map mb) := (blk_cell (H1.out.1.1) 2).trans rfl
    have fT2 := blk_frozen (H1.out.1.1) 2
    have ltT := blk_lt (H1.out.1.1)
    have cS0 : w1.cell? ⟨w.heap.size + 1, 0, none⟩ = some (.bool sw) := (blk_cell (H1.out.1.2.1) 0).trans rfl
    have cS1 : w1.cell? ⟨w.heap.size + 1, 1, none⟩ = some (.bool se) := (blk_cell (H1.out.1.2.1) 1).trans rfl
    have ltS := blk_lt (H1.out.1.2.1)
    have cF0 : w1.cell? ⟨w.heap.size + 1 + 1, 0, none⟩ = some (.int .u64 dst) := (blk_cell (H1.out.1.2.2.1) 0).trans rfl
    have cF1 : w1.cell? ⟨w.heap.size + 1 + 1, 1, none⟩ = some (.int .u64 src) := (blk_cell (H1.out.1.2.2.1) 1).trans rfl
    have cF2 : w1.cell? ⟨w.heap.size + 1 + 1, 2, none⟩ = some (.int .u8 pri) := (blk_cell (H1.out.1.2.2.1) 2).trans rfl
    have cF3 : w1.cell? ⟨w.heap.size + 1 + 1, 3, none⟩ = some (.bool drop) := (blk_cell (H1.out.1.2.2.1) 3).trans rfl
    have cF4 : w1.cell? ⟨w.heap.size + 1 + 1, 4, none⟩ = some (.int .u16 vlan) := (blk_cell (H1.out.1.2.2.1) 4).trans rfl
    have cF5 : w1.cell? ⟨w.heap.size + 1 + 1, 5, none⟩ = some (.int .u16 typ) := (blk_cell (H1.out.1.2.2.1) 5).trans rfl
    have cF6 : w1.cell? ⟨w.heap.size + 1 + 1, 6, none⟩ = some (.string body) := (blk_cell (H1.out.1.2.2.1) 6).trans rfl
    have ltF := blk_lt (H1.out.1.2.2.1)
    have cR0 : w1.cell? ⟨w.heap.size + 1 + 1 + 1, 0, none⟩ = some (.int .i64 0) := (blk_cell (H1.out.1.2.2.2) 0).trans rfl
    have fR0 := blk_frozen (H1.out.1.2.2.2) 0
    have cR1 : w1.cell? ⟨w.heap.size + 1 + 1 + 1, 1, none⟩ = some (.int .i64 0) := (blk_cell (H1.out.1.2.2.2) 1).trans rfl
    have fR1 := blk_frozen (H1.out.1.2.2.2) 1
    have cR2 : w1.cell? ⟨w.heap.size + 1 + 1 + 1, 2, none⟩ = some (.map none) := (blk_cell (H1.out.1.2.2.2) 2).trans rfl
    have fR2 := blk_frozen (H1.out.1.2.2.2) 2
    have ltR := blk_lt (H1.out.1.2.2.2)
    by_cases ho : opnI sw se inn = true
    rotate_left
    · rw [Bool.eq_false_iff.2 ho]
      go_wp2_with fail
      refine go_ret4 (mb' := mb) (g := w.heap.size + 1 + 1 + 1) (by refine blk_put (cs := #[.int .i64 room, .int .i64 age, .map none]) ?_ 2 _ rfl; refine blk_put (cs := #[.int .i64 room, .int .i64 0, .map none]) ?_ 1 _ rfl; refine blk_put (cs := #[.int .i64 0, .int .i64 0, .map none]) ?_ 0 _ rfl; exact H1.out.1.2.2.2) rfl rfl rfl rfl ?_
      unfold GOP
      refine ⟨mb, L, _, [], false, 12, rfl, .inl ⟨by decide, rfl, rfl, rfl, .inr (.inr (Bool.eq_false_iff.2 ho))⟩, ?_, ?_, ?_⟩
      · exact tab_put3 (HT.out.below H1.out.2) (H1.out.1.2.2.2)
      · exact IntsAt.nil _
      · exact below_set (below_set (below_set (H1.out.2) (by omega)) (by omega)) (by omega)
    rw [ho]
    go_wp2_with fail
    clear cT0 fT0 cT1 fT1 cT2 fT2 ltT cS0 cS1 ltS cF0 cF1 cF2 cF3 cF4 cF5 cF6 ltF cR0 fR0 cR1 fR1 cR2 fR2 ltR
    refine (learn_calls room age now vlan src inn mb L hL h1 h2 w1 (HT.out.below H1.out.2)).mono ?_
    rintro e' w2 ⟨mb', L', c1, rfl, hLN, hT2, hb2⟩
    have hF2 : (w2.heap[w.heap.size]? = some (.cells #[.int .i64 room, .int .i64 age, .map mb] 26) ∧ w2.heap[w.heap.size + 1]? = some (.cells #[.bool sw, .bool se] 60) ∧ w2.heap[w.heap.size + 1 + 1]? = some (.cells #[.int .u64 dst, .int .u64 src, .int .u8 pri, .bool drop, .int .u16 vlan, .int .u16 typ, .string body] 54) ∧ w2.heap[w.heap.size + 1 + 1 + 1]? = some (.cells #[.int .i64 0, .int .i64 0, .map none] 26)) ∧ Below w.heap.size w w2 := ⟨⟨blk_below H1.out.1.1 hb2, blk_below H1.out.1.2.1 hb2, blk_below H1.out.1.2.2.1 hb2, blk_below H1.out.1.2.2.2 hb2⟩, H1.out.2.trans (hb2.mono H1.out.2.size)⟩
    have H2 := Lib.hid (And.intro hF2 (And.intro hLN hT2))
    clear hF2 hLN hT2 hb2 H1
    have cT0 : w2.cell? ⟨w.heap.size, 0, none⟩ = some (.int .i64 room) := (blk_cell (H2.out.1.1.1) 0).trans rfl
    have fT0 := blk_frozen (H2.out.1.1.1) 0
    have cT1 : w2.cell? ⟨w.heap.size, 1, none⟩ = some (.int .i64 age) := (blk_cell (H2.out.1.1.1) 1).trans rfl
    have fT1 := blk_frozen (H2.out.1.1.1) 1
    have cT2 : w2.cell? ⟨w.heap.size, 2, none⟩ = some (.map mb) := (blk_cell (H2.out.1.1.1) 2).trans rfl
    have fT2 := blk_frozen (H2.out.1.1.1) 2
    have ltT := blk_lt (H2.out.1.1.1)
    have cS0 : w2.cell? ⟨w.heap.size + 1, 0, none⟩ = some (.bool sw) := (blk_cell (H2.out.1.1.2.1) 0).trans rfl
    have cS1 : w2.cell? ⟨w.heap.size + 1, 1, none⟩ = some (.bool se) := (blk_cell (H2.out.1.1.2.1) 1).trans rfl
    have ltS := blk_lt (H2.out.1.1.2.1)
    have cF0 : w2.cell? ⟨w.heap.size + 1 + 1, 0, none⟩ = some (.int .u64 dst) := (blk_cell (H2.out.1.1.2.2.1) 0).trans rfl
    have cF1 : w2.cell? ⟨w.heap.size + 1 + 1, 1, none⟩ = some (.int .u64 src) := (blk_cell (H2.out.1.1.2.2.1) 1).trans rfl
    have cF2 : w2.cell? ⟨w.heap.size + 1 + 1, 2, none⟩ = some (.int .u8 pri) := (blk_cell (H2.out.1.1.2.2.1) 2).trans rfl
    have cF3 : w2.cell? ⟨w.heap.size + 1 + 1, 3, none⟩ = some (.bool drop) := (blk_cell (H2.out.1.1.2.2.1) 3).trans rfl
    have cF4 : w2.cell? ⟨w.heap.size + 1 + 1, 4, none⟩ = some (.int .u16 vlan) := (blk_cell (H2.out.1.1.2.2.1) 4).trans rfl
    have cF5 : w2.cell? ⟨w.heap.size + 1 + 1, 5, none⟩ = some (.int .u16 typ) := (blk_cell (H2.out.1.1.2.2.1) 5).trans rfl
    have cF6 : w2.cell? ⟨w.heap.size + 1 + 1, 6, none⟩ = some (.string body) := (blk_cell (H2.out.1.1.2.2.1) 6).trans rfl
    have ltF := blk_lt (H2.out.1.1.2.2.1)
    have cR0 : w2.cell? ⟨w.heap.size + 1 + 1 + 1, 0, none⟩ = some (.int .i64 0) := (blk_cell (H2.out.1.1.2.2.2) 0).trans rfl
    have fR0 := blk_frozen (H2.out.1.1.2.2.2) 0
    have cR1 : w2.cell? ⟨w.heap.size + 1 + 1 + 1, 1, none⟩ = some (.int .i64 0) := (blk_cell (H2.out.1.1.2.2.2) 1).trans rfl
    have fR1 := blk_frozen (H2.out.1.1.2.2.2) 1
    have cR2 : w2.cell? ⟨w.heap.size + 1 + 1 + 1, 2, none⟩ = some (.map none) := (blk_cell (H2.out.1.1.2.2.2) 2).trans rfl
    have fR2 := blk_frozen (H2.out.1.1.2.2.2) 2
    have ltR := blk_lt (H2.out.1.1.2.2.2)
    go_wp2_with fail
    refine fd_calls_W ?_
    intro W3 hW3
    clear cT0 fT0 cT1 fT1 cT2 fT2 ltT cS0 cS1 ltS cF0 cF1 cF2 cF3 cF4 cF5 cF6 ltF cR0 fR0 cR1 fR1 cR2 fR2 ltR
    have hF3 : (W3.heap[w.heap.size]? = some (.cells #[.int .i64 room, .int .i64 age, .map mb'] 26) ∧ W3.heap[w.heap.size + 1]? = some (.cells #[.bool sw, .bool se] 60) ∧ W3.heap[w.heap.size + 1 + 1]? = some (.cells #[.int .u64 dst, .int .u64 src, .int .u8 pri, .bool drop, .int .u16 vlan, .int .u16 typ, .string body] 54) ∧ W3.heap[w.heap.size + 1 + 1 + 1]? = some (.cells #[.int .i64 0, .int .i64 0, .map none] 26)) ∧ Below w.heap.size w W3 := by
      rw [hW3]
      exact ⟨⟨blk_put (blk_put (blk_put H2.out.1.1.1 0 _ rfl) 1 _ rfl) 2 _ rfl, blk_far (blk_far (blk_far H2.out.1.1.2.1 (by simp) _) (by simp) _) (by simp) _, blk_far (blk_far (blk_far H2.out.1.1.2.2.1 (by simp; omega) _) (by simp; omega) _) (by simp; omega) _, blk_far (blk_far (blk_far H2.out.1.1.2.2.2 (by simp; omega) _) (by simp; omega) _) (by simp; omega) _⟩, below_set (below_set (below_set H2.out.1.2 (by omega)) (by omega)) (by omega)⟩
    have hT3 : Tab W3 mb' L' := by rw [hW3]; exact tab_put3 H2.out.2.2 H2.out.1.1.1
    clear hW3
    refine (look_calls2 room age now vlan dst mb' L' h1 h3 W3 hT3).mono ?_
    rintro e' w4 ⟨p, kn, rfl, hLK, hb4⟩
    have hF4 : (w4.heap[w.heap.size]? = some (.cells #[.int .i64 room, .int .i64 age, .map mb'] 26) ∧ w4.heap[w.heap.size + 1]? = some (.cells #[.bool sw, .bool se] 60) ∧ w4.heap[w.heap.size + 1 + 1]? = some (.cells #[.int .u64 dst, .int .u64 src, .int .u8 pri, .bool drop, .int .u16 vlan, .int .u16 typ, .string body] 54) ∧ w4.heap[w.heap.size + 1 + 1 + 1]? = some (.cells #[.int .i64 0, .int .i64 0, .map none] 26)) ∧ Below w.heap.size w w4 := ⟨⟨blk_below hF3.1.1 hb4, blk_below hF3.1.2.1 hb4, blk_below hF3.1.2.2.1 hb4, blk_below hF3.1.2.2.2 hb4⟩, hF3.2.trans (hb4.mono hF3.2.size)⟩
    have H4 := Lib.hid (And.intro hF4 (And.intro H2.out.2.1 (And.intro (hT3.below hb4) hLK)))
    clear hF3 hF4 hT3 hLK hb4 H2
    have cT0 : w4.cell? ⟨w.heap.size, 0, none⟩ = some (.int .i64 room) := (blk_cell (H4.out.1.1.1) 0).trans rfl
    have fT0 := blk_frozen (H4.out.1.1.1) 0
    have cT1 : w4.cell? ⟨w.heap.size, 1, none⟩ = some (.int .i64 age) := (blk_cell (H4.out.1.1.1) 1).trans rfl
    have fT1 := blk_frozen (H4.out.1.1.1) 1
    have cT2 : w4.cell? ⟨w.heap.size, 2, none⟩ = some (.map mb') := (blk_cell (H4.out.1.1.1) 2).trans rfl
    have fT2 := blk_frozen (H4.out.1.1.1) 2
    have ltT := blk_lt (H4.out.1.1.1)
    have cS0 : w4.cell? ⟨w.heap.size + 1, 0, none⟩ = some (.bool sw) := (blk_cell (H4.out.1.1.2.1) 0).trans rfl
    have cS1 : w4.cell? ⟨w.heap.size + 1, 1, none⟩ = some (.bool se) := (blk_cell (H4.out.1.1.2.1) 1).trans rfl
    have ltS := blk_lt (H4.out.1.1.2.1)
    have cF0 : w4.cell? ⟨w.heap.size + 1 + 1, 0, none⟩ = some (.int .u64 dst) := (blk_cell (H4.out.1.1.2.2.1) 0).trans rfl
    have cF1 : w4.cell? ⟨w.heap.size + 1 + 1, 1, none⟩ = some (.int .u64 src) := (blk_cell (H4.out.1.1.2.2.1) 1).trans rfl
    have cF2 : w4.cell? ⟨w.heap.size + 1 + 1, 2, none⟩ = some (.int .u8 pri) := (blk_cell (H4.out.1.1.2.2.1) 2).trans rfl
    have cF3 : w4.cell? ⟨w.heap.size + 1 + 1, 3, none⟩ = some (.bool drop) := (blk_cell (H4.out.1.1.2.2.1) 3).trans rfl
    have cF4 : w4.cell? ⟨w.heap.size + 1 + 1, 4, none⟩ = some (.int .u16 vlan) := (blk_cell (H4.out.1.1.2.2.1) 4).trans rfl
    have cF5 : w4.cell? ⟨w.heap.size + 1 + 1, 5, none⟩ = some (.int .u16 typ) := (blk_cell (H4.out.1.1.2.2.1) 5).trans rfl
    have cF6 : w4.cell? ⟨w.heap.size + 1 + 1, 6, none⟩ = some (.string body) := (blk_cell (H4.out.1.1.2.2.1) 6).trans rfl
    have ltF := blk_lt (H4.out.1.1.2.2.1)
    have cR0 : w4.cell? ⟨w.heap.size + 1 + 1 + 1, 0, none⟩ = some (.int .i64 0) := (blk_cell (H4.out.1.1.2.2.2) 0).trans rfl
    have fR0 := blk_frozen (H4.out.1.1.2.2.2) 0
    have cR1 : w4.cell? ⟨w.heap.size + 1 + 1 + 1, 1, none⟩ = some (.int .i64 0) := (blk_cell (H4.out.1.1.2.2.2) 1).trans rfl
    have fR1 := blk_frozen (H4.out.1.1.2.2.2) 1
    have cR2 : w4.cell? ⟨w.heap.size + 1 + 1 + 1, 2, none⟩ = some (.map none) := (blk_cell (H4.out.1.1.2.2.2) 2).trans rfl
    have fR2 := blk_frozen (H4.out.1.1.2.2.2) 2
    have ltR := blk_lt (H4.out.1.1.2.2.2)
    go_wp2_with fail
    refine fd_calls_W ?_
    intro W5 hW5
    have hbn : Below w4.heap.size w4 W5 := by rw [hW5]; repeat (first | exact Below.refl _ _ | apply below_alloc | apply below_drew1)
    clear hW5
    clear cT0 fT0 cT1 fT1 cT2 fT2 ltT cS0 cS1 ltS cF0 cF1 cF2 cF3 cF4 cF5 cF6 ltF cR0 fR0 cR1 fR1 cR2 fR2 ltR
    refine (group_calls dst W5).mono ?_
    rintro e' w6 ⟨rfl, hb⟩
    have hbm := hbn.trans (hb.mono hbn.size)
    have hFn : (w6.heap[w.heap.size]? = some (.cells #[.int .i64 room, .int .i64 age, .map mb'] 26) ∧ w6.heap[w.heap.size + 1]? = some (.cells #[.bool sw, .bool se] 60) ∧ w6.heap[w.heap.size + 1 + 1]? = some (.cells #[.int .u64 dst, .int .u64 src, .int .u8 pri, .bool drop, .int .u16 vlan, .int .u16 typ, .string body] 54) ∧ w6.heap[w.heap.size + 1 + 1 + 1]? = some (.cells #[.int .i64 0, .int .i64 0, .map none] 26)) ∧ Below w.heap.size w w6 := ⟨⟨blk_below H4.out.1.1.1 hbm, blk_below H4.out.1.1.2.1 hbm, blk_below H4.out.1.1.2.2.1 hbm, blk_below H4.out.1.1.2.2.2 hbm⟩, H4.out.1.2.trans (hbm.mono H4.out.1.2.size)⟩
    have H6 := Lib.hid (And.intro hFn (And.intro H4.out.2.1 (And.intro (H4.out.2.2.1.below hbm) H4.out.2.2.2)))
    clear hFn hbm hbn hb H4
    have cT0 : w6.cell? ⟨w.heap.size, 0, none⟩ = some (.int .i64 room) := (blk_cell (H6.out.1.1.1) 0).trans rfl
    have fT0 := blk_frozen (H6.out.1.1.1) 0
    have cT1 : w6.cell? ⟨w.heap.size, 1, none⟩ = some (.int .i64 age) := (blk_cell (H6.out.1.1.1) 1).trans rfl
    have fT1 := blk_frozen (H6.out.1.1.1) 1
    have cT2 : w6.cell? ⟨w.heap.size, 2, none⟩ = some (.map mb') := (blk_cell (H6.out.1.1.1) 2).trans rfl
    have fT2 := blk_frozen (H6.out.1.1.1) 2
    have ltT := blk_lt (H6.out.1.1.1)
    have cS0 : w6.cell? ⟨w.heap.size + 1, 0, none⟩ = some (.bool sw) := (blk_cell (H6.out.1.1.2.1) 0).trans rfl
    have cS1 : w6.cell? ⟨w.heap.size + 1, 1, none⟩ = some (.bool se) := (blk_cell (H6.out.1.1.2.1) 1).trans rfl
    have ltS := blk_lt (H6.out.1.1.2.1)
    have cF0 : w6.cell? ⟨w.heap.size + 1 + 1, 0, none⟩ = some (.int .u64 dst) := (blk_cell (H6.out.1.1.2.2.1) 0).trans rfl
    have cF1 : w6.cell? ⟨w.heap.size + 1 + 1, 1, none⟩ = some (.int .u64 src) := (blk_cell (H6.out.1.1.2.2.1) 1).trans rfl
    have cF2 : w6.cell? ⟨w.heap.size + 1 + 1, 2, none⟩ = some (.int .u8 pri) := (blk_cell (H6.out.1.1.2.2.1) 2).trans rfl
    have cF3 : w6.cell? ⟨w.heap.size + 1 + 1, 3, none⟩ = some (.bool drop) := (blk_cell (H6.out.1.1.2.2.1) 3).trans rfl
    have cF4 : w6.cell? ⟨w.heap.size + 1 + 1, 4, none⟩ = some (.int .u16 vlan) := (blk_cell (H6.out.1.1.2.2.1) 4).trans rfl
    have cF5 : w6.cell? ⟨w.heap.size + 1 + 1, 5, none⟩ = some (.int .u16 typ) := (blk_cell (H6.out.1.1.2.2.1) 5).trans rfl
    have cF6 : w6.cell? ⟨w.heap.size + 1 + 1, 6, none⟩ = some (.string body) := (blk_cell (H6.out.1.1.2.2.1) 6).trans rfl
    have ltF := blk_lt (H6.out.1.1.2.2.1)
    have cR0 : w6.cell? ⟨w.heap.size + 1 + 1 + 1, 0, none⟩ = some (.int .i64 0) := (blk_cell (H6.out.1.1.2.2.2) 0).trans rfl
    have fR0 := blk_frozen (H6.out.1.1.2.2.2) 0
    have cR1 : w6.cell? ⟨w.heap.size + 1 + 1 + 1, 1, none⟩ = some (.int .i64 0) := (blk_cell (H6.out.1.1.2.2.2) 1).trans rfl
    have fR1 := blk_frozen (H6.out.1.1.2.2.2) 1
    have cR2 : w6.cell? ⟨w.heap.size + 1 + 1 + 1, 2, none⟩ = some (.map none) := (blk_cell (H6.out.1.1.2.2.2) 2).trans rfl
    have fR2 := blk_frozen (H6.out.1.1.2.2.2) 2
    have ltR := blk_lt (H6.out.1.1.2.2.2)
    by_cases hg : grpD dst = true
    · rw [hg]
      go_wp2_with fail
      have hstep : ∀ w7 : World, w7.heap[w.heap.size]? = some (.cells #[.int .i64 room, .int .i64 age, .map mb'] 26) → w7.heap[w.heap.size + 1]? = some (.cells #[.bool sw, .bool se] 60) → (fun w' : World => w'.cell? ⟨w.heap.size, 0, none⟩ = some (.int .i64 room) ∧ w'.cell? ⟨w.heap.size, 1, none⟩ = some (.int .i64 age) ∧ w'.cell? ⟨w.heap.size, 2, none⟩ = some (.map mb') ∧ w'.cell? ⟨w.heap.size + 1, 0, none⟩ = some (.bool sw) ∧ w'.cell? ⟨w.heap.size + 1, 1, none⟩ = some (.bool se)) w7 := fun w7 hU hN => ⟨(blk_cell hU 0).trans rfl, (blk_cell hU 1).trans rfl, (blk_cell hU 2).trans rfl, (blk_cell hN 0).trans rfl, (blk_cell hN 1).trans rfl⟩
      have HS := Lib.hid hstep
      clear hstep
      go_region_held3 (fun w' : World => w'.cell? ⟨w.heap.size, 0, none⟩ = some (.int .i64 room) ∧ w'.cell? ⟨w.heap.size, 1, none⟩ = some (.int .i64 age) ∧ w'.cell? ⟨w.heap.size, 2, none⟩ = some (.map mb') ∧ w'.cell? ⟨w.heap.size + 1, 0, none⟩ = some (.bool sw) ∧ w'.cell? ⟨w.heap.size + 1, 1, none⟩ = some (.bool se)) (first | (with_reducible assumption) | exact HS.out _ (by repeat (first | with_reducible exact H8.out.1.1.1 | with_reducible exact H8.out.1.1.2.1 | with_reducible exact H6.out.1.1.1 | with_reducible exact H6.out.1.1.2.1 | with_reducible apply blk_drew | with_reducible refine blk_far ?_ (by first | (simp; done) | (simp; omega)) _)) (by repeat (first | with_reducible exact H8.out.1.1.1 | with_reducible exact H8.out.1.1.2.1 | with_reducible exact H6.out.1.1.1 | with_reducible exact H6.out.1.1.2.1 | with_reducible apply blk_drew | with_reducible refine blk_far ?_ (by first | (simp; done) | (simp; omega)) _))) (first | (go_at_call 41; refine fd_calls_W ?_; intro W7 hW7; have hbn : Below w6.heap.size w6 W7 := (by rw [hW7]; repeat (first | exact Below.refl _ _ | apply below_alloc | apply below_drew1)); clear hW7; refine (outs_calls sw se inn W7).mono ?_; rintro e' w8 ⟨v, rfl, hI, hb, hfr⟩; have hbm := hbn.trans (hb.mono hbn.size); have hFn : (w8.heap[w.heap.size]? = some (.cells #[.int .i64 room, .int .i64 age, .map mb'] 26) ∧ w8.heap[w.heap.size + 1]? = some (.cells #[.bool sw, .bool se] 60) ∧ w8.heap[w.heap.size + 1 + 1]? = some (.cells #[.int .u64 dst, .int .u64 src, .int .u8 pri, .bool drop, .int .u16 vlan, .int .u16 typ, .string body] 54) ∧ w8.heap[w.heap.size + 1 + 1 + 1]? = some (.cells #[.int .i64 0, .int .i64 0, .map none] 26)) ∧ Below w.heap.size w w8 := ⟨⟨blk_below H6.out.1.1.1 hbm, blk_below H6.out.1.1.2.1 hbm, blk_below H6.out.1.1.2.2.1 hbm, blk_below H6.out.1.1.2.2.2 hbm⟩, H6.out.1.2.trans (hbm.mono H6.out.1.2.size)⟩; have H8 := Lib.hid (And.intro hFn (And.intro H6.out.2.1 (And.intro (H6.out.2.2.1.below hbm) (And.intro H6.out.2.2.2 (And.intro hI (fun ad h => Nat.lt_of_lt_of_le (Nat.lt_of_lt_of_le (blk_lt H6.out.1.1.2.2.2) hbn.size) (hfr ad h))))))); have cRR0 : w8.cell? ⟨w.heap.size + 1 + 1 + 1, 0, none⟩ = some (.int .i64 0) := (blk_cell H8.out.1.1.2.2.2 0).trans rfl; have fRR0 := blk_frozen H8.out.1.1.2.2.2 0; have fRR1 := blk_frozen H8.out.1.1.2.2.2 1; have fRR2 := blk_frozen H8.out.1.1.2.2.2 2; have cRR1 : w8.cell? ⟨w.heap.size + 1 + 1 + 1, 1, none⟩ = some (.int .i64 0) := (blk_cell H8.out.1.1.2.2.2 1).trans rfl; have cRR2 : w8.cell? ⟨w.heap.size + 1 + 1 + 1, 2, none⟩ = some (.map none) := (blk_cell H8.out.1.1.2.2.2 2).trans rfl; clear hFn hbm hbn hb hfr hI))
      go_wp2_with fail
      refine go_ret4 (mb' := mb') (g := w.heap.size + 1 + 1 + 1) (by refine blk_put (cs := #[.int .i64 room, .int .i64 age, .map none]) ?_ 2 _ rfl; refine blk_put (cs := #[.int .i64 room, .int .i64 0, .map none]) ?_ 1 _ rfl; refine blk_put (cs := #[.int .i64 0, .int .i64 0, .map none]) ?_ 0 _ rfl; exact H8.out.1.1.2.2.2) rfl rfl rfl rfl ?_
      unfold GOP
      refine ⟨mb', L', _, outsI sw se inn, true, 0, rfl, .inr ⟨rfl, hi0, hi1, ho, ⟨c1, H8.out.2.1⟩, p, kn, H8.out.2.2.2.1, .inl ⟨.inl hg, rfl, rfl⟩⟩, ?_, ?_, ?_⟩
      · exact tab_put3 H8.out.2.2.1 (H8.out.1.1.2.2.2)
      · exact ints_put3 H8.out.2.2.2.2.1 H8.out.1.1.2.2.2 (fun A c e hn ad h => by subst h; exact Nat.ne_of_gt (H8.out.2.2.2.2.2 ad.block (by have e2 : v = .slice (some ad) _ c := e; rw [e2]; rfl)))
      · exact below_set (below_set (below_set (H8.out.1.2) (by omega)) (by omega)) (by omega)
    rw [Bool.eq_false_iff.2 hg]
    by_cases hk : kn = true
    rotate_left
    · have hk := Bool.eq_false_iff.2 hk
      subst hk
      go_wp2_with fail
      have hstep : ∀ w7 : World, w7.heap[w.heap.size]? = some (.cells #[.int .i64 room, .int .i64 age, .map mb'] 26) → w7.heap[w.heap.size + 1]? = some (.cells #[.bool sw, .bool se] 60) → (fun w' : World => w'.cell? ⟨w.heap.size, 0, none⟩ = some (.int .i64 room) ∧ w'.cell? ⟨w.heap.size, 1, none⟩ = some (.int .i64 age) ∧ w'.cell? ⟨w.heap.size, 2, none⟩ = some (.map mb') ∧ w'.cell? ⟨w.heap.size + 1, 0, none⟩ = some (.bool sw) ∧ w'.cell? ⟨w.heap.size + 1, 1, none⟩ = some (.bool se)) w7 := fun w7 hU hN => ⟨(blk_cell hU 0).trans rfl, (blk_cell hU 1).trans rfl, (blk_cell hU 2).trans rfl, (blk_cell hN 0).trans rfl, (blk_cell hN 1).trans rfl⟩
      have HS := Lib.hid hstep
      clear hstep
      go_region_held3 (fun w' : World => w'.cell? ⟨w.heap.size, 0, none⟩ = some (.int .i64 room) ∧ w'.cell? ⟨w.heap.size, 1, none⟩ = some (.int .i64 age) ∧ w'.cell? ⟨w.heap.size, 2, none⟩ = some (.map mb') ∧ w'.cell? ⟨w.heap.size + 1, 0, none⟩ = some (.bool sw) ∧ w'.cell? ⟨w.heap.size + 1, 1, none⟩ = some (.bool se)) (first | (with_reducible assumption) | exact HS.out _ (by repeat (first | with_reducible exact H8.out.1.1.1 | with_reducible exact H8.out.1.1.2.1 | with_reducible exact H6.out.1.1.1 | with_reducible exact H6.out.1.1.2.1 | with_reducible apply blk_drew | with_reducible refine blk_far ?_ (by first | (simp; done) | (simp; omega)) _)) (by repeat (first | with_reducible exact H8.out.1.1.1 | with_reducible exact H8.out.1.1.2.1 | with_reducible exact H6.out.1.1.1 | with_reducible exact H6.out.1.1.2.1 | with_reducible apply blk_drew | with_reducible refine blk_far ?_ (by first | (simp; done) | (simp; omega)) _))) (first | (go_at_call 41; refine fd_calls_W ?_; intro W7 hW7; have hbn : Below w6.heap.size w6 W7 := (by rw [hW7]; repeat (first | exact Below.refl _ _ | apply below_alloc | apply below_drew1)); clear hW7; refine (outs_calls sw se inn W7).mono ?_; rintro e' w8 ⟨v, rfl, hI, hb, hfr⟩; have hbm := hbn.trans (hb.mono hbn.size); have hFn : (w8.heap[w.heap.size]? = some (.cells #[.int .i64 room, .int .i64 age, .map mb'] 26) ∧ w8.heap[w.heap.size + 1]? = some (.cells #[.bool sw, .bool se] 60) ∧ w8.heap[w.heap.size + 1 + 1]? = some (.cells #[.int .u64 dst, .int .u64 src, .int .u8 pri, .bool drop, .int .u16 vlan, .int .u16 typ, .string body] 54) ∧ w8.heap[w.heap.size + 1 + 1 + 1]? = some (.cells #[.int .i64 0, .int .i64 0, .map none] 26)) ∧ Below w.heap.size w w8 := ⟨⟨blk_below H6.out.1.1.1 hbm, blk_below H6.out.1.1.2.1 hbm, blk_below H6.out.1.1.2.2.1 hbm, blk_below H6.out.1.1.2.2.2 hbm⟩, H6.out.1.2.trans (hbm.mono H6.out.1.2.size)⟩; have H8 := Lib.hid (And.intro hFn (And.intro H6.out.2.1 (And.intro (H6.out.2.2.1.below hbm) (And.intro H6.out.2.2.2 (And.intro hI (fun ad h => Nat.lt_of_lt_of_le (Nat.lt_of_lt_of_le (blk_lt H6.out.1.1.2.2.2) hbn.size) (hfr ad h))))))); have cRR0 : w8.cell? ⟨w.heap.size + 1 + 1 + 1, 0, none⟩ = some (.int .i64 0) := (blk_cell H8.out.1.1.2.2.2 0).trans rfl; have fRR0 := blk_frozen H8.out.1.1.2.2.2 0; have fRR1 := blk_frozen H8.out.1.1.2.2.2 1; have fRR2 := blk_frozen H8.out.1.1.2.2.2 2; have cRR1 : w8.cell? ⟨w.heap.size + 1 + 1 + 1, 1, none⟩ = some (.int .i64 0) := (blk_cell H8.out.1.1.2.2.2 1).trans rfl; have cRR2 : w8.cell? ⟨w.heap.size + 1 + 1 + 1, 2, none⟩ = some (.map none) := (blk_cell H8.out.1.1.2.2.2 2).trans rfl; clear hFn hbm hbn hb hfr hI))
      go_wp2_with fail
      refine go_ret4 (mb' := mb') (g := w.heap.size + 1 + 1 + 1) (by refine blk_put (cs := #[.int .i64 room, .int .i64 age, .map none]) ?_ 2 _ rfl; refine blk_put (cs := #[.int .i64 room, .int .i64 0, .map none]) ?_ 1 _ rfl; refine blk_put (cs := #[.int .i64 0, .int .i64 0, .map none]) ?_ 0 _ rfl; exact H8.out.1.1.2.2.2) rfl rfl rfl rfl ?_
      unfold GOP
      refine ⟨mb', L', _, outsI sw se inn, true, 0, rfl, .inr ⟨rfl, hi0, hi1, ho, ⟨c1, H8.out.2.1⟩, p, false, H8.out.2.2.2.1, .inl ⟨.inr rfl, rfl, rfl⟩⟩, ?_, ?_, ?_⟩
      · exact tab_put3 H8.out.2.2.1 (H8.out.1.1.2.2.2)
      · exact ints_put3 H8.out.2.2.2.2.1 H8.out.1.1.2.2.2 (fun A c e hn ad h => by subst h; exact Nat.ne_of_gt (H8.out.2.2.2.2.2 ad.block (by have e2 : v = .slice (some ad) _ c := e; rw [e2]; rfl)))
      · exact below_set (below_set (below_set (H8.out.1.2) (by omega)) (by omega)) (by omega)
    subst hk
    go_wp2_with fail
    refine fd_calls_W ?_
    intro W7 hW7
    have hbn : Below w6.heap.size w6 W7 := by rw [hW7]; repeat (first | exact Below.refl _ _ | apply below_alloc | apply below_drew1)
    clear hW7
    clear cT0 fT0 cT1 fT1 cT2 fT2 ltT cS0 cS1 ltS cF0 cF1 cF2 cF3 cF4 cF5 cF6 ltF cR0 fR0 cR1 fR1 cR2 fR2 ltR
    refine (filter_Data.calls sw se inn p _ W7 (data_f sw se inn p)).mono ?_
    rintro e' w8 ⟨rfl, hb⟩
    have hbm := hbn.trans (hb.mono hbn.size)
    have hFn : (w8.heap[w.heap.size]? = some (.cells #[.int .i64 room, .int .i64 age, .map mb'] 26) ∧ w8.heap[w.heap.size + 1]? = some (.cells #[.bool sw, .bool se] 60) ∧ w8.heap[w.heap.size + 1 + 1]? = some (.cells #[.int .u64 dst, .int .u64 src, .int .u8 pri, .bool drop, .int .u16 vlan, .int .u16 typ, .string body] 54) ∧ w8.heap[w.heap.size + 1 + 1 + 1]? = some (.cells #[.int .i64 0, .int .i64 0, .map none] 26)) ∧ Below w.heap.size w w8 := ⟨⟨blk_below H6.out.1.1.1 hbm, blk_below H6.out.1.1.2.1 hbm, blk_below H6.out.1.1.2.2.1 hbm, blk_below H6.out.1.1.2.2.2 hbm⟩, H6.out.1.2.trans (hbm.mono H6.out.1.2.size)⟩
    have H8 := Lib.hid (And.intro hFn (And.intro H6.out.2.1 (And.intro (H6.out.2.2.1.below hbm) H6.out.2.2.2)))
    clear hFn hbm hbn hb H6
    have cT0 : w8.cell? ⟨w.heap.size, 0, none⟩ = some (.int .i64 room) := (blk_cell (H8.out.1.1.1) 0).trans rfl
    have fT0 := blk_frozen (H8.out.1.1.1) 0
    have cT1 : w8.cell? ⟨w.heap.size, 1, none⟩ = some (.int .i64 age) := (blk_cell (H8.out.1.1.1) 1).trans rfl
    have fT1 := blk_frozen (H8.out.1.1.1) 1
    have cT2 : w8.cell? ⟨w.heap.size, 2, none⟩ = some (.map mb') := (blk_cell (H8.out.1.1.1) 2).trans rfl
    have fT2 := blk_frozen (H8.out.1.1.1) 2
    have ltT := blk_lt (H8.out.1.1.1)
    have cS0 : w8.cell? ⟨w.heap.size + 1, 0, none⟩ = some (.bool sw) := (blk_cell (H8.out.1.1.2.1) 0).trans rfl
    have cS1 : w8.cell? ⟨w.heap.size + 1, 1, none⟩ = some (.bool se) := (blk_cell (H8.out.1.1.2.1) 1).trans rfl
    have ltS := blk_lt (H8.out.1.1.2.1)
    have cF0 : w8.cell? ⟨w.heap.size + 1 + 1, 0, none⟩ = some (.int .u64 dst) := (blk_cell (H8.out.1.1.2.2.1) 0).trans rfl
    have cF1 : w8.cell? ⟨w.heap.size + 1 + 1, 1, none⟩ = some (.int .u64 src) := (blk_cell (H8.out.1.1.2.2.1) 1).trans rfl
    have cF2 : w8.cell? ⟨w.heap.size + 1 + 1, 2, none⟩ = some (.int .u8 pri) := (blk_cell (H8.out.1.1.2.2.1) 2).trans rfl
    have cF3 : w8.cell? ⟨w.heap.size + 1 + 1, 3, none⟩ = some (.bool drop) := (blk_cell (H8.out.1.1.2.2.1) 3).trans rfl
    have cF4 : w8.cell? ⟨w.heap.size + 1 + 1, 4, none⟩ = some (.int .u16 vlan) := (blk_cell (H8.out.1.1.2.2.1) 4).trans rfl
    have cF5 : w8.cell? ⟨w.heap.size + 1 + 1, 5, none⟩ = some (.int .u16 typ) := (blk_cell (H8.out.1.1.2.2.1) 5).trans rfl
    have cF6 : w8.cell? ⟨w.heap.size + 1 + 1, 6, none⟩ = some (.string body) := (blk_cell (H8.out.1.1.2.2.1) 6).trans rfl
    have ltF := blk_lt (H8.out.1.1.2.2.1)
    have cR0 : w8.cell? ⟨w.heap.size + 1 + 1 + 1, 0, none⟩ = some (.int .i64 0) := (blk_cell (H8.out.1.1.2.2.2) 0).trans rfl
    have fR0 := blk_frozen (H8.out.1.1.2.2.2) 0
    have cR1 : w8.cell? ⟨w.heap.size + 1 + 1 + 1, 1, none⟩ = some (.int .i64 0) := (blk_cell (H8.out.1.1.2.2.2) 1).trans rfl
    have fR1 := blk_frozen (H8.out.1.1.2.2.2) 1
    have cR2 : w8.cell? ⟨w.heap.size + 1 + 1 + 1, 2, none⟩ = some (.map none) := (blk_cell (H8.out.1.1.2.2.2) 2).trans rfl
    have fR2 := blk_frozen (H8.out.1.1.2.2.2) 2
    have ltR := blk_lt (H8.out.1.1.2.2.2)
    by_cases hd : datI sw se inn p = true
    · rw [hd]
      go_wp2_with fail
      refine go_ret4 (mb' := mb') (g := w.heap.size + 1 + 1 + 1) (by refine blk_alloc ?_ _; refine blk_put (cs := #[.int .i64 room, .int .i64 age, .map none]) ?_ 2 _ rfl; refine blk_put (cs := #[.int .i64 room, .int .i64 0, .map none]) ?_ 1 _ rfl; refine blk_put (cs := #[.int .i64 0, .int .i64 0, .map none]) ?_ 0 _ rfl; exact H8.out.1.1.2.2.2) rfl rfl rfl rfl ?_
      unfold GOP
      refine ⟨mb', L', _, [p], false, 0, rfl, .inr ⟨rfl, hi0, hi1, ho, ⟨c1, H8.out.2.1⟩, p, true, H8.out.2.2.2, .inr ⟨Bool.eq_false_iff.2 hg, rfl, rfl, (if_pos hd).symm⟩⟩, ?_, ?_, ?_⟩
      · exact (tab_put3 H8.out.2.2.1 H8.out.1.1.2.2.2).below (below_alloc (Below.refl _ _) _)
      · exact ⟨_, 1, rfl, Nat.le_refl _, ints_mk [p] (by simp) (blk_newk _ (by simp))⟩
      · exact below_alloc (below_set (below_set (below_set H8.out.1.2 (by omega)) (by omega)) (by omega)) _
    rw [Bool.eq_false_iff.2 hd]
    go_wp2_with fail
    refine go_ret4 (mb' := mb') (g := w.heap.size + 1 + 1 + 1) (by refine blk_put (cs := #[.int .i64 room, .int .i64 age, .map none]) ?_ 2 _ rfl; refine blk_put (cs := #[.int .i64 room, .int .i64 0, .map none]) ?_ 1 _ rfl; refine blk_put (cs := #[.int .i64 0, .int .i64 0, .map none]) ?_ 0 _ rfl; exact H8.out.1.1.2.2.2) rfl rfl rfl rfl ?_
    unfold GOP
    refine ⟨mb', L', _, _, false, 0, rfl, .inr ⟨rfl, hi0, hi1, ho, ⟨c1, H8.out.2.1⟩, p, true, H8.out.2.2.2, .inr ⟨Bool.eq_false_iff.2 hg, rfl, rfl, rfl⟩⟩, ?_, ?_, ?_⟩
    · exact tab_put3 H8.out.2.2.1 (H8.out.1.1.2.2.2)
    · exact (by rw [if_neg hd]; exact IntsAt.nil _)
    · exact below_set (below_set (below_set (H8.out.1.2) (by omega)) (by omega)) (by omega)
  · go_wp2_with fail
    all_goals
      refine go_ret4 (mb' := mb) (g := w.heap.size + 1 + 1 + 1) (blk_newk _ (by simp)) rfl rfl rfl rfl ?_
      unfold GOP
      have hb : Below w.heap.size w _ := below_alloc (below_alloc (below_alloc (below_alloc (Below.refl w.heap.size w) (.cells #[.int .i64 room, .int .i64 age, .map mb] 26)) (.cells #[.bool sw, .bool se] 60)) (.cells #[.int .u64 dst, .int .u64 src, .int .u8 pri, .bool drop, .int .u16 vlan, .int .u16 typ, .string body] 54)) (.cells #[.int .i64 room, .int .i64 age, .map mb] 26)
      exact ⟨mb, L, _, [], false, 11, rfl, .inl ⟨by decide, rfl, rfl, rfl, by omega⟩, HT.out.below hb, IntsAt.nil _, hb⟩
end Go.Proofs.Ytmlenepeocginaa.Gv
