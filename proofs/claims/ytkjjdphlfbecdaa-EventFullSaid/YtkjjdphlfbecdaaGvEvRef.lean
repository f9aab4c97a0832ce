/- The document's Close, and a kind's word, walked by hand. -/
import Derived.Test.YtkjjdphlfbecdaaGvEvClose
import Derived.Lib.ConvBytes
import Derived.Deep.RegionHeld3
namespace Go.Proofs.Ytkjjdphlfbecdaa.Gv
open Go.RowKit Go.Proofs.YtkjjdphlfbecdaaW.PrintWords Go.Proofs.YtkjjdphlfbecdaaW.PrintLast Go.Proofs.YtkjjdphlfbecdaaW.PrintMore
set_option linter.unusedVariables false
set_option linter.unusedSimpArgs false
def Mk (p : Prop) : Prop := p
theorem Mk_in {p : Prop} (h : Mk p) : p := h
theorem bytesWorld_below (w : World) (e : TypeId) (s : ByteArray) : Below w.heap.size w (Lib.bytesWorld w e s) :=
  ⟨by simp [Lib.bytesWorld, World.freeze, World.alloc, World.drew, -World.alloc_eq, -World.drew_eq], by simp [Lib.bytesWorld, World.freeze, World.alloc, World.drew, -World.alloc_eq, -World.drew_eq], by simp [Lib.bytesWorld, World.freeze, World.alloc, World.drew, -World.alloc_eq, -World.drew_eq], by rw [Lib.bytesWorld_size]; omega, fun k hk => Lib.bytesWorld_at_old w e s k hk⟩
theorem row_below {w w' : World} {base n : Nat} {e : TypeId} {size : Nat} {v : Value} {xs : List Value} (h : w.ownsRow base e size v n xs) (hb : Below w.heap.size w w') : w'.ownsRow base e size v n xs := by
  refine ⟨h.1, ?_⟩
  rcases h.2 with ho | ⟨g, cap, cur, hv, hg0, hg, rest⟩
  · exact .inl ho
  · exact .inr ⟨g, cap, cur, hv, hg0, blk_below hg hb, rest⟩
theorem byteCells_u8s (l : List Int) (h : ∀ n ∈ l, 0 ≤ n ∧ n ≤ 255) : Lib.byteCells (u8s l) = l.map (Value.int .u8) := by
  induction l with
  | nil => rfl
  | cons a l ih =>
    have h1 := h a (by simp)
    have h2 := ih (fun n hn => h n (by simp [hn]))
    show Value.int .u8 ((UInt8.ofNat a.toNat).toNat : Int) :: Lib.byteCells (u8s l) = _
    rw [h2, List.map_cons]
    congr 2
    rw [UInt8.toNat_ofNat', Nat.mod_eq_of_lt (by omega)]
    omega
def evNums (l : List Ev) : List Int := (evAll l).map fun b => (b.toNat : Int)
theorem byteCells_nums (l : List UInt8) : Lib.byteCells l = (l.map fun b => (b.toNat : Int)).map (Value.int .u8) := by simp [Lib.byteCells]
theorem evNums_string (l : List Ev) : strOfNums (evNums l) = ⟨(evAll l).toArray⟩ := by
  unfold strOfNums evNums
  congr 2
  rw [List.map_map]
  exact (List.map_congr_left (fun b _ => by simp)).trans (List.map_id _)
/-- A slice of bytes that the walk owns. -/
def Row (w wr : World) (v : Value) (l : List UInt8) : Prop := wr.ownsRow w.heap.size 5 1 v l.length (Lib.byteCells l) ∧ Below w.heap.size w wr
set_option maxHeartbeats 4000000 in
set_option maxRecDepth 100000 in
theorem ref_calls (A : Option Addr) (c : Nat) (l : List Ev) (w : World) (hp : EvAt w A l) (hc : l.length ≤ c) (hlen : l.length ≤ 1000000) (hin : ∀ e ∈ l, EvIn e) :
    Calls Try.prog 11 #[.slice A l.length c] w fun e w' => e = .returned (.tuple #[.string (evClose l).1, .int .i64 (evClose l).2]) ∧ Below w.heap.size w w' := by
  have HP := Lib.hid hp
  have HI := Lib.hid hin
  clear hp hin
  go_enter Try.func11, Try.ntmps11
  go_wp2_with fail
  go_loopw [4, 5] (fun v i wr => ∃ k : Nat, k ≤ l.length ∧ i = .int .i64 k ∧ Row w wr v (evAll (l.take k)) ∧ Hid (∀ e ∈ l.take k, evWrong e = 0)) (fun _ i _ => l.length - (intOf i).toNat)
  case atStart => exact ⟨0, Nat.zero_le _, rfl, ⟨World.ownsRow_nil _ _ _ _, Below.refl _ _⟩, Lib.hid (by simp)⟩
  case round =>
    obtain ⟨k, hk, rfl, ⟨hrow, hB⟩, hok⟩ := hrel
    by_cases hlt : k < l.length
    · obtain ⟨ad, rfl, q0, q1, q2, q3, q4⟩ := (HP.out.below hB) k hlt
      obtain ⟨⟨ek, ea, eb, ec, es⟩, he⟩ : ∃ e, l.getD k ez = e := ⟨_, rfl⟩
      have hmem : (ek, ea, eb, ec, es) ∈ l := by rw [← he, List.getD_eq_getElem?_getD, List.getElem?_eq_getElem hlt]; exact List.getElem_mem hlt
      have HE := Lib.hid he
      simp only [he] at q0 q1 q2 q3 q4
      have hie := HI.out _ hmem
      have HIE := Lib.hid hie
      clear hie he
      have HR := Lib.hid hrow
      clear hrow
      have hbad : ∀ x, evWrong (ek, ea, eb, ec, es) = x → x ≠ 0 → evClose l = (⟨#[]⟩, x) := by
        intro x hx hx0
        have h := evFirst_at l k hlt hok.out (by rw [HE.out, hx]; exact hx0)
        rw [HE.out, hx] at h
        unfold evClose
        rw [h, if_neg hx0]
      by_cases h7 : ek > 7
      · have r1 : decide (ek > 7) = true := decide_eq_true h7
        have r2 : decide (7 < ek) = true := decide_eq_true h7
        have HCL := Lib.hid (hbad 10 (if_pos h7) (by decide))
        clear hbad
        go_wp2_with fail
        go_ret2
        exact ⟨by rw [HCL.out]; rfl, hB⟩
      · have r1 : decide (ek > 7) = false := decide_eq_false h7
        have r2 : decide (7 < ek) = false := decide_eq_false h7
        by_cases h16 : 1600 < es.size
        · have r3 : decide ((es.size : Int) > 1600) = true := decide_eq_true (by omega)
          have r4 : decide (1600 < (es.size : Int)) = true := decide_eq_true (by omega)
          have r5 : decide (1600 < es.size) = true := decide_eq_true h16
          have HCL := Lib.hid (hbad 2 ((if_neg h7).trans (if_pos (by show (1600 : Int) < (es.size : Int); omega))) (by decide))
          clear hbad
          go_wp2_with fail
          go_ret2
          exact ⟨by rw [HCL.out]; rfl, hB⟩
        · have r3 : decide ((es.size : Int) > 1600) = false := decide_eq_false (by omega)
          have r4 : decide (1600 < (es.size : Int)) = false := decide_eq_false (by omega)
          have r5 : decide (1600 < es.size) = false := decide_eq_false h16
          have HWR := Lib.hid (show evWrong (ek, ea, eb, ec, es) = 0 from (if_neg h7).trans (if_neg (by show ¬ (1600 : Int) < (es.size : Int); omega)))
          have HS6 := Lib.hid (show es.size ≤ 1600 by omega)
          have hie := HIE.out
          have u1 : ((es.size : Nat) : Int).tdiv 256 = (es.size : Int) / 256 := Int.tdiv_eq_ediv_of_nonneg (by omega)
          have u2 : ((es.size : Nat) : Int).tmod 256 = (es.size : Int) % 256 := Int.tmod_eq_emod_of_nonneg (by omega)
          have u5 : IntKind.i64.wrap ((es.size : Int) / 256) = (es.size : Int) / 256 := by simp [IntKind.wrap, IntKind.bits, IntKind.signed]; omega
          have u3 : IntKind.u8.wrap ((es.size : Int) / 256) = (es.size : Int) / 256 := by simp [IntKind.wrap, IntKind.bits, IntKind.signed]; omega
          have u4 : IntKind.u8.wrap ((es.size : Int) % 256) = (es.size : Int) % 256 := by simp [IntKind.wrap, IntKind.bits, IntKind.signed]
          clear hbad hie
          go_wp2_with fail
          obtain ⟨i0, hi, hz0, hz1, hz2⟩ := info_parts infoU8
          have hadl : (ad.add (k * 5)).block < w.heap.size := by
            obtain ⟨ad', e, p0, _⟩ := HP.out k hlt
            obtain rfl := Option.some.inj e
            exact World.block_lt_of_cell? w _ p0
          have hS0 : (fun w' : World => w'.cell? (ad.add (k * 5)) = some (.int .u8 ek) ∧ w'.cell? ⟨(ad.add (k * 5)).block, (ad.add (k * 5)).off + 1, none⟩ = some (.int .u8 ea) ∧ w'.cell? ⟨(ad.add (k * 5)).block, (ad.add (k * 5)).off + 2, none⟩ = some (.int .u8 eb) ∧ w'.cell? ⟨(ad.add (k * 5)).block, (ad.add (k * 5)).off + 3, none⟩ = some (.int .u8 ec)) wr.drew := ⟨q0, q1, q2, q3⟩
          have hb1 := fun o => below_alloc (Below.refl wr.drew.heap.size wr.drew) o
          have hS1 : ∀ o, (fun w' : World => w'.cell? (ad.add (k * 5)) = some (.int .u8 ek) ∧ w'.cell? ⟨(ad.add (k * 5)).block, (ad.add (k * 5)).off + 1, none⟩ = some (.int .u8 ea) ∧ w'.cell? ⟨(ad.add (k * 5)).block, (ad.add (k * 5)).off + 2, none⟩ = some (.int .u8 eb) ∧ w'.cell? ⟨(ad.add (k * 5)).block, (ad.add (k * 5)).off + 3, none⟩ = some (.int .u8 ec)) (wr.drew.alloc o) := fun o => ⟨((hb1 o).cell (World.block_lt_of_cell? wr _ q0)).trans q0, ((hb1 o).cell (World.block_lt_of_cell? wr _ q1)).trans q1, ((hb1 o).cell (World.block_lt_of_cell? wr _ q2)).trans q2, ((hb1 o).cell (World.block_lt_of_cell? wr _ q3)).trans q3⟩
          have hnews : ∀ j u, ([Value.int .u8 ek, .int .u8 ea, .int .u8 eb, .int .u8 ec, .int .u8 ((es.size : Int) / 256), .int .u8 ((es.size : Int) % 256)])[j]? = some u → (wr.drew.alloc (.cells #[Value.int .u8 ek, .int .u8 ea, .int .u8 eb, .int .u8 ec, .int .u8 ((es.size : Int) / 256), .int .u8 ((es.size : Int) % 256)] 5)).cell? ((⟨wr.heap.size, 0, none⟩ : Addr).add j) = some u := by
            intro j u hj
            rw [show ((⟨wr.heap.size, 0, none⟩ : Addr).add j) = ⟨wr.heap.size, j, none⟩ from by unfold Addr.add; by_cases hj0 : j = 0 <;> simp [hj0]]
            rw [show (wr.drew.alloc (.cells #[Value.int .u8 ek, .int .u8 ea, .int .u8 eb, .int .u8 ec, .int .u8 ((es.size : Int) / 256), .int .u8 ((es.size : Int) % 256)] 5)).cell? ⟨wr.heap.size, j, none⟩ = _ from blk_cell (blk_new wr.drew _) j]
            simpa using hj
          have hone : ∀ u ∈ [Value.int .u8 ek, .int .u8 ea, .int .u8 eb, .int .u8 ec, .int .u8 ((es.size : Int) / 256), .int .u8 ((es.size : Int) % 256)], u.oneCell' = true := by intro u hu; simp at hu; rcases hu with rfl | rfl | rfl | rfl | rfl | rfl <;> rfl
          have hle := evAll_length (l.take k) hok.out
          have hle2 : (evAll (l.take k)).length ≤ 1606000000 := by rw [List.length_take] at hle; omega
          have hm63 : (evAll (l.take k)).length + 6 ≤ maxLen := by unfold maxLen; omega
          have hm64 : ((evAll (l.take k)).length + 6) * 1 ≤ 140737488355328 := by omega
          have hbs : w.heap.size ≤ (wr.drew.alloc (.cells #[Value.int .u8 ek, .int .u8 ea, .int .u8 eb, .int .u8 ec, .int .u8 ((es.size : Int) / 256), .int .u8 ((es.size : Int) % 256)] 5)).heap.size := Nat.le_trans hB.size (below_alloc (Below.refl wr.drew.heap.size wr.drew) _).size
          clear hle
          go_region_held3 (fun w' : World => w'.cell? (ad.add (k * 5)) = some (.int .u8 ek) ∧ w'.cell? ⟨(ad.add (k * 5)).block, (ad.add (k * 5)).off + 1, none⟩ = some (.int .u8 ea) ∧ w'.cell? ⟨(ad.add (k * 5)).block, (ad.add (k * 5)).off + 2, none⟩ = some (.int .u8 eb) ∧ w'.cell? ⟨(ad.add (k * 5)).block, (ad.add (k * 5)).off + 3, none⟩ = some (.int .u8 ec)) (first | assumption | exact hS0 | exact hS1 _) ((rw [if_pos (by rfl)]; refine wp_append_own _ (.tmp 27) (.tmp 54) 46 rfl w.heap.size 5 i0 (.int .u8 0) 1 1 Try.underlying46 hi hz0 hz1 hz2 rfl (by decide) _ _ _ rfl (World.ownsRow.alloc (World.ownsRow.drew HR.out) _) ⟨wr.heap.size, 0, none⟩ 6 6 [Value.int .u8 ek, .int .u8 ea, .int .u8 eb, .int .u8 ec, .int .u8 ((es.size : Int) / 256), .int .u8 ((es.size : Int) % 256)] rfl rfl hnews hone hm63 hm64 hbs ?_; intro v5 w5 hown5 hgrow5 _; have hne5 : ∀ x : Nat, x < w.heap.size → some x ≠ _ := fun x hx e => Nat.lt_irrefl _ (Nat.lt_of_lt_of_le hx (HR.out.lt x e.symm).1); have hS5 : w5.cell? (ad.add (k * 5)) = some (.int .u8 ek) ∧ w5.cell? ⟨(ad.add (k * 5)).block, (ad.add (k * 5)).off + 1, none⟩ = some (.int .u8 ea) ∧ w5.cell? ⟨(ad.add (k * 5)).block, (ad.add (k * 5)).off + 2, none⟩ = some (.int .u8 eb) ∧ w5.cell? ⟨(ad.add (k * 5)).block, (ad.add (k * 5)).off + 3, none⟩ = some (.int .u8 ec) := ⟨hgrow5.cell (hS1 _).1 (hne5 _ hadl), hgrow5.cell (hS1 _).2.1 (hne5 _ hadl), hgrow5.cell (hS1 _).2.2.1 (hne5 _ hadl), hgrow5.cell (hS1 _).2.2.2 (hne5 _ hadl)⟩; have HO5 := Lib.hid hown5; have HG5 := Lib.hid hgrow5; clear hown5 hgrow5))
          have hq4 : w5.cell? ⟨(ad.add (k * 5)).block, (ad.add (k * 5)).off + 4, none⟩ = some (.string es) := HG5.out.cell (((below_alloc (Below.refl wr.heap.size wr) _).cell (World.block_lt_of_cell? wr _ q4)).trans q4) (hne5 _ hadl)
          have hb5 : Below w.heap.size w w5 := (below_drew (below_alloc hB _)).grown HG5.out (Nat.le_trans hB.size (below_alloc (Below.refl wr.heap.size wr) _).size) (fun k hk => (HR.out.lt k hk).1)
          clear hS0 hS1 hS5 hnews hone hm63 hm64 hbs q0 q1 q2 q3 q4 u1 u2 u3 u4 u5 hb1 HG5 hne5 HR hB
          have hconv := fun W => Lib.run_convert_string_bytes (P := Try.prog) W 9 46 5 es Try.underlying9 Try.underlying46 Try.underlying5
          have hB5w := bytesWorld_below w5 5 es
          have hown6 := row_below HO5.out hB5w
          have hnw : ∀ j u, (Lib.strCells es)[j]? = some u → (Lib.bytesWorld w5 5 es).cell? ((⟨w5.heap.size, 0, none⟩ : Addr).add j) = some u := by
            intro j u hj
            rw [show ((⟨w5.heap.size, 0, none⟩ : Addr).add j) = ⟨w5.heap.size, j, none⟩ from by unfold Addr.add; by_cases hj0 : j = 0 <;> simp [hj0]]
            have hj2 := (List.getElem?_eq_some_iff.1 hj)
            obtain ⟨hj3, hj4⟩ := hj2
            rw [Lib.strCells_length] at hj3
            rw [Lib.bytesWorld_cell w5 5 es j hj3, ← hj4]
            simp [Lib.strCells, List.getD_eq_getElem?_getD, hj3]
          have hm63 : (evAll (l.take k)).length + 6 + es.size ≤ maxLen := by have := HS6.out; unfold maxLen; omega
          have hm64 : ((evAll (l.take k)).length + 6 + es.size) * 1 ≤ 140737488355328 := by have := HS6.out; omega
          have hbs : w.heap.size ≤ (Lib.bytesWorld w5 5 es).heap.size := Nat.le_trans hb5.size hB5w.size
          have hB6 := below_call hb5 hB5w
          go_wp2_with (at_builtin; refine wpList_append_own _ rfl _ _ 46 rfl w.heap.size 5 i0 (.int .u8 0) 1 1 Try.underlying46 hi hz0 hz1 hz2 rfl (by decide) _ _ _ rfl hown6 ⟨w5.heap.size, 0, none⟩ es.size _ (Lib.strCells es) rfl (by rw [Lib.strCells_length, Nat.mul_one]) hnw (Lib.strCells_oneCell es) hm63 hm64 hbs ?_)
          intro v7 w7 hown7 hgrow7 _
          have hB7 := hB6.grown hgrow7 hbs (fun x hx => (hown6.lt x hx).1)
          have HO7 := Lib.hid hown7
          clear hown7 hgrow7 hown6 hnw hm63 hm64 hbs hconv hB5w hq4 HO5
          go_wp2_with fail
          go_roundw
          case rel =>
            have hsn := evAll_snoc l k hlt
            rw [HE.out] at hsn
            have hcells : Lib.byteCells (evAll (l.take k)) ++ [Value.int .u8 ek, .int .u8 ea, .int .u8 eb, .int .u8 ec, .int .u8 ((es.size : Int) / 256), .int .u8 ((es.size : Int) % 256)] ++ Lib.strCells es = Lib.byteCells (evAll (l.take (k + 1))) := by
              rw [hsn]
              show _ = Lib.byteCells (evAll (l.take k) ++ (u8s (evHead (ek, ea, eb, ec, es)) ++ es.data.toList))
              rw [Lib.byteCells_append, Lib.byteCells_append, List.append_assoc, byteCells_u8s]
              · rfl
              · intro n hn
                have h := HIE.out
                have h6 := HS6.out
                simp only [evHead, List.mem_cons, List.not_mem_nil, or_false] at hn
                obtain ⟨⟨a0, a1⟩, ⟨b0, b1⟩, ⟨c0, c1⟩, d0, d1⟩ := h
                simp only at a0 a1 b0 b1 c0 c1 d0 d1
                rcases hn with rfl | rfl | rfl | rfl | rfl | rfl <;> omega
            have hlen2 : (evAll (l.take k)).length + 6 + es.size = (evAll (l.take (k + 1))).length := by
              rw [hsn, List.length_append, evBytes_length]; show _ + 6 + es.size = _ + (6 + es.size); omega
            have hO : w7.ownsRow w.heap.size 5 1 v7 ((evAll (l.take k)).length + 6 + es.size) (Lib.byteCells (evAll (l.take k)) ++ [Value.int .u8 ek, .int .u8 ea, .int .u8 eb, .int .u8 ec, .int .u8 ((es.size : Int) / 256), .int .u8 ((es.size : Int) % 256)] ++ Lib.strCells es) := by rw [List.append_assoc]; exact HO7.out
            rw [hcells, hlen2] at hO
            refine ⟨k + 1, by omega, by go_num, ⟨hO, hB7⟩, Lib.hid (fun e he => ?_)⟩
            rw [ev_snoc l k hlt, HE.out] at he
            rcases List.mem_append.1 he with he | he
            · exact hok.out e he
            · rw [List.mem_singleton.1 he]; exact HWR.out
          case measure => simp [intOf]; omega
    · have hkl : k = l.length := by omega
      subst hkl
      rw [List.take_length] at hrow
      have hok2 := hok.out
      rw [List.take_length] at hok2
      have hfi := evFirst_ok l hok2
      have HR := Lib.hid hrow
      clear hrow hok hok2
      by_cases hbig : 10000 < l.length
      · have HCL := Lib.hid (show evClose l = (⟨#[]⟩, 9) from by unfold evClose; rw [if_pos hfi, if_pos hbig])
        have r1 : decide ((l.length : Int) > 10000) = true := decide_eq_true (by omega)
        have r2 : decide (10000 < (l.length : Int)) = true := decide_eq_true (by omega)
        have r3 : decide (10000 < l.length) = true := decide_eq_true hbig
        clear hfi
        go_wp2_with fail
        go_ret2
        exact ⟨by rw [HCL.out]; rfl, hB⟩
      · have HCL := Lib.hid (show evClose l = (⟨(evAll l).toArray⟩, 0) from by unfold evClose; rw [if_pos hfi, if_neg hbig])
        have r1 : decide ((l.length : Int) > 10000) = false := decide_eq_false (by omega)
        have r2 : decide (10000 < (l.length : Int)) = false := decide_eq_false (by omega)
        have r3 : decide (10000 < l.length) = false := decide_eq_false hbig
        clear hfi
        have hrow2 := HR.out
        rw [show Lib.byteCells (evAll l) = (evNums l).map (Value.int .u8) from byteCells_nums _] at hrow2
        have hconv := own_string (P := Try.prog) (src := 46) (dst := 9) (xs := evNums l) Try.underlying46 Try.underlying5 Try.underlying9 hrow2
        rw [evNums_string] at hconv
        clear hrow2
        go_wp2_with fail
        go_ret2
        exact ⟨by rw [HCL.out]; rfl, hB⟩
end Go.Proofs.Ytkjjdphlfbecdaa.Gv
