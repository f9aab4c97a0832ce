/- Counters, walked by hand. -/
import Derived.Test.YtehicbehljfkhaaGwTallyD
import Derived.Deep.QuietTactic
import Derived.BigQuiet
namespace Go.Proofs.Ytehicbehljfkhaa.Ta
set_option linter.unusedVariables false
set_option linter.unusedSimpArgs false
open Go.RowKit Go.Proofs.YtehicbehljfkhaaW.PrintWords Go.Proofs.YtehicbehljfkhaaW.PrintLast Go.Proofs.YtehicbehljfkhaaW.PrintMore
/-- The acts that came in: their cells. -/
def Acts (w : World) (A0 : Option Addr) (l : List (Int × Int × Bool)) : Prop := ∀ k (hk : k < l.length), ∃ b o, A0 = some ⟨b, o, none⟩ ∧ b < w.heap.size ∧ w.cell? ⟨b, o + k * 3, none⟩ = some (.int .i64 (l[k]).1) ∧ w.cell? ⟨b, o + k * 3 + 1, none⟩ = some (.int .u64 (l[k]).2.1) ∧ w.cell? ⟨b, o + k * 3 + 2, none⟩ = some (.bool (l[k]).2.2)
theorem Acts.below {w w1 : World} {A0 : Option Addr} {l : List (Int × Int × Bool)} (h : Acts w A0 l) (hb : Below w.heap.size w w1) : Acts w1 A0 l := by
  intro k hk
  obtain ⟨b, o, e, hlt, h0, h1, h2⟩ := h k hk
  exact ⟨b, o, e, Nat.lt_of_lt_of_le hlt hb.size, (hb.cell (p := ⟨b, _, none⟩) hlt).trans h0, (hb.cell (p := ⟨b, _, none⟩) hlt).trans h1, (hb.cell (p := ⟨b, _, none⟩) hlt).trans h2⟩
def adds (s : List Int) (l : List (Int × Int × Bool)) : List Int := l.foldl (fun s a => addL s a.1 a.2.1) s
theorem adds_snoc (s : List Int) (l : List (Int × Int × Bool)) (a : Int × Int × Bool) : adds s (l ++ [a]) = addL (adds s l) a.1 a.2.1 := by simp [adds, List.foldl_append]
theorem adds_good {s : List Int} (hs : Good s) (l : List (Int × Int × Bool)) (hn : ∀ a ∈ l, 0 ≤ a.2.1) : Good (adds s l) := by
  induction l generalizing s with
  | nil => exact hs
  | cons a l ih => exact ih (addL_good hs a.1 (hn a List.mem_cons_self)) (fun b hb => hn b (List.mem_cons_of_mem a hb))
def O1 (ba bb : Nat) (w wr : World) (x y : List Int) : Prop := TIs wr ba x ∧ TIs wr bb y ∧ Below w.heap.size w wr
theorem O1_W {ba bb : Nat} {w W : World} {x y : List Int} (h : ∀ W', W' = W → O1 ba bb w W' x y) : O1 ba bb w W x y := h W rfl
theorem ta_W {P : Program} {C : Code} {Q : Exit → Act → World → Prop} {a : Act} {W : World} (h : ∀ W', W' = W → Code.wp P C Q a W') : Code.wp P C Q a W := h W rfl
theorem sat_comm (x n m : Int) (hx : 0 ≤ x) (hn : 0 ≤ n) (hm : 0 ≤ m) : sat (sat x n) m = sat (sat x m) n := by unfold sat; split <;> split <;> split <;> omega
theorem addL_comm (s : List Int) (hs : Good s) (k n k' n' : Int) (hn : 0 ≤ n) (hn' : 0 ≤ n') : addL (addL s k n) k' n' = addL (addL s k' n') k n := by
  unfold addL
  by_cases h : 0 ≤ k ∧ k < 16
  · by_cases h' : 0 ≤ k' ∧ k' < 16
    · simp only [if_pos h, if_pos h']
      have hl : k.toNat < s.length := by rw [hs.1]; omega
      have hl' : k'.toNat < s.length := by rw [hs.1]; omega
      by_cases e : k.toNat = k'.toNat
      · rw [← e]
        simp only [List.getD_eq_getElem?_getD, List.getElem?_set_self hl, List.set_set, Option.getD_some]
        have hx := hs.2 _ (List.getElem_mem hl)
        rw [List.getElem?_eq_getElem hl, Option.getD_some, sat_comm _ _ _ hx.1 hn hn']
      · rw [List.getD_eq_getElem?_getD, List.getD_eq_getElem?_getD, List.getD_eq_getElem?_getD, List.getD_eq_getElem?_getD, List.getElem?_set_ne e, List.getElem?_set_ne (Ne.symm e), List.set_comm _ _ e]
    · simp only [if_pos h, if_neg h']
  · simp only [if_neg h]
theorem adds_perm {s : List Int} (hs : Good s) {l l' : List (Int × Int × Bool)} (p : l.Perm l') (hn : ∀ a ∈ l, 0 ≤ a.2.1) : adds s l = adds s l' := by
  induction p generalizing s with
  | nil => rfl
  | cons a _ ih => exact ih (addL_good hs _ (hn a List.mem_cons_self)) (fun b hb => hn b (List.mem_cons_of_mem a hb))
  | swap a b l =>
    show adds (addL (addL s b.1 b.2.1) a.1 a.2.1) l = adds (addL (addL s a.1 a.2.1) b.1 b.2.1) l
    rw [addL_comm s hs _ _ _ _ (hn b List.mem_cons_self) (hn a (List.mem_cons_of_mem _ List.mem_cons_self))]
  | trans p1 _ ih1 ih2 => rw [ih1 hs hn, ih2 hs (fun b hb => hn b (p1.symm.subset hb))]
def turned (l : List (Int × Int × Bool)) (kk : Nat) : List (Int × Int × Bool) := l.drop kk ++ l.take kk
theorem turned_perm (l : List (Int × Int × Bool)) (kk : Nat) : (turned l kk).Perm l := by
  have h : (l.drop kk ++ l.take kk).Perm (l.take kk ++ l.drop kk) := List.perm_append_comm
  rw [List.take_append_drop] at h
  exact h
theorem turned_length (l : List (Int × Int × Bool)) (kk : Nat) : (turned l kk).length = l.length := (turned_perm l kk).length_eq
theorem turned_all (l : List (Int × Int × Bool)) (kk : Nat) : (turned l kk).take l.length = turned l kk := by rw [← turned_length l kk, List.take_length]
theorem turned_mem {l : List (Int × Int × Bool)} {kk k : Nat} {a : Int × Int × Bool} (h : a ∈ (turned l kk).take k) : a ∈ l := (turned_perm l kk).subset (List.mem_of_mem_take h)
theorem turned_get (l : List (Int × Int × Bool)) (kk k : Nat) (hkk : kk < l.length) (hk : k < l.length) (hj : (k + kk) % l.length < l.length) : (turned l kk)[k]'(by rw [turned_length]; exact hk) = l[(k + kk) % l.length] := by
  unfold turned
  by_cases h : k < l.length - kk
  · rw [List.getElem_append_left (by rw [List.length_drop]; exact h), List.getElem_drop]
    congr 1
    rw [Nat.mod_eq_of_lt (by omega)]; omega
  · rw [List.getElem_append_right (by rw [List.length_drop]; omega), List.getElem_take]
    congr 1
    rw [List.length_drop, Nat.mod_eq_sub_mod (by omega), Nat.mod_eq_of_lt (by omega)]; omega
theorem turned_snoc (l : List (Int × Int × Bool)) (kk k : Nat) (hkk : kk < l.length) (hk : k < l.length) (hj : (k + kk) % l.length < l.length) : (turned l kk).take (k + 1) = (turned l kk).take k ++ [l[(k + kk) % l.length]] := by
  rw [List.take_succ_eq_append_getElem (by rw [turned_length]; exact hk), turned_get l kk k hkk hk hj]
theorem turned_zero (l : List (Int × Int × Bool)) (k : Nat) (hk : k < l.length) : (turned l 0).take (k + 1) = (turned l 0).take k ++ [l[k]] := by
  unfold turned
  rw [List.drop_zero, List.take_zero, List.append_nil, List.take_succ_eq_append_getElem hk]
theorem turned_adds (l : List (Int × Int × Bool)) (kk : Nat) (hn : ∀ a ∈ l, 0 ≤ a.2.1) : adds zero16 (turned l kk) = adds zero16 l :=
  adds_perm zero_good (turned_perm l kk) (fun a ha => hn a ((turned_perm l kk).subset ha))
def EndRel (A5 A6 : Option Addr) (s : List Int) (w wr : World) : Prop := Kd.C (Kd.int .u64) wr A5 s.length s ∧ Kd.C (Kd.int .u64) wr A6 s.length s ∧ Below w.heap.size w wr
set_option maxHeartbeats 8000000 in
set_option maxRecDepth 100000 in
theorem orders (A0 : Option Addr) (c0 : Nat) (l : List (Int × Int × Bool)) (turn : Int) (w : World) (ha : Acts w A0 l) (hc0 : l.length ≤ c0) (hn : ∀ a ∈ l, 0 ≤ a.2.1 ∧ a.2.1 ≤ 18446744073709551615) (ht0 : -9223372036854775808 ≤ turn) (ht1 : turn ≤ 9223372036854775807) :
    Calls Try.prog 5 #[.slice A0 l.length c0, .int .i64 turn] w fun e w' => e = .returned (.bool true) ∧ Below w.heap.size w w' := by
  have hu52 := Try.underlying52
  have HA := Lib.hid ha
  have HN := Lib.hid hn
  clear ha hn
  by_cases hl : l.length > 200
  · have q1 : decide ((l.length : Int) > 200) = true := decide_eq_true (by omega)
    have q2 : decide (200 < (l.length : Int)) = true := decide_eq_true (by omega)
    have q3 : decide (200 < l.length) = true := decide_eq_true (by omega)
    go_enter Try.func5, Try.ntmps5
    go_wp2_with fail
    refine (new_ok _).mono ?_
    rintro e' w1 ⟨rfl, _, hb1⟩
    go_wp2_with fail
    refine (new_ok _).mono ?_
    rintro e' w2 ⟨rfl, _, hb2⟩
    have hB2 := below_call hb1 hb2
    go_wp2_with fail
    refine (awake_ok _).mono ?_
    rintro e' w3 ⟨rfl, hb3⟩
    have hB3 := below_call hB2 hb3
    go_wp2_with fail
    go_ret
    exact ⟨rfl, hB3⟩
  · have q3 : decide (200 < l.length) = false := decide_eq_false hl
    have hl2 : l.length ≤ 200 := by omega
    clear hl
    by_cases hk : 0 < l.length ∧ 0 ≤ turn
    · obtain ⟨hk1, hk2⟩ := hk
      obtain ⟨tn, rfl⟩ := Int.eq_ofNat_of_zero_le hk2
      have p1 : decide (0 < l.length) = true := decide_eq_true hk1
      have p3 : (tn : Int).tmod (l.length : Int) = ((tn % l.length : Nat) : Int) := by rw [Int.tmod_eq_emod_of_nonneg (by omega)]; exact (Int.natCast_emod tn l.length).symm
      have p4 : (tn : Int) % (l.length : Int) = ((tn % l.length : Nat) : Int) := (Int.natCast_emod tn l.length).symm
      have hkl : tn % l.length < l.length := Nat.mod_lt _ hk1
      generalize tn % l.length = kk at p3 p4 hkl
      go_enter Try.func5, Try.ntmps5
      go_wp2_with fail
      refine (new_ok _).mono ?_
      rintro e' w1 ⟨rfl, hTa, hb1⟩
      have HTa := Lib.hid hTa
      clear hTa
      go_wp2_with fail
      refine (new_ok _).mono ?_
      rintro e' w2 ⟨rfl, hTb, hb2⟩
      have HTa2 := Lib.hid (HTa.out.below hb2)
      have HTb := Lib.hid hTb
      have hB2 := below_call hb1 hb2
      have hab : w.heap.size ≠ w1.heap.size := Nat.ne_of_lt (blk_lt HTa.out)
      have hs1 := hb1.size
      clear hTb HTa hb1 hb2
      go_wp2_with fail
      go_loopw [50] (fun i wr => ∃ k : Nat, k ≤ l.length ∧ i = .int .i64 k ∧ O1 w.heap.size w1.heap.size w wr (adds zero16 (l.take k)) zero16) (fun i _ => l.length - (intOf i).toNat)
      case atStart => exact ⟨0, Nat.zero_le _, rfl, by rw [List.take_zero]; exact HTa2.out, HTb.out, hB2⟩
      case round =>
        clear HTa2 HTb hB2
        obtain ⟨k, hk, rfl, hTa, hTb, hB⟩ := hrel
        by_cases hlt : k < l.length
        · have hk0 := hlt
          obtain ⟨b, o, rfl, hbl, hc0', hc1', hc2'⟩ := (HA.out.below hB) k hlt
          have hn := HN.out _ (List.getElem_mem (l := l) (n := k) hlt)
          have HX := Lib.hid hTa
          have HY := Lib.hid hTb
          clear hTa hTb
          go_wp2_with fail
          refine calls_W (fun W3 hW3 => ?_)
          have hb3 : Below wr.heap.size wr W3 := by rw [hW3]; exact below_alloc (Below.refl _ _) _
          clear hW3
          have HX3 := Lib.hid (HX.out.below hb3)
          have HY3 := Lib.hid (HY.out.below hb3)
          have hB3 := below_call hB hb3
          refine (add_ok w.heap.size _ _ _ _ HX3.out (adds_good zero_good _ (fun a ha => (HN.out a (List.mem_of_mem_take ha)).1)) hn.1 hn.2).mono ?_
          rintro e' w4 ⟨rfl, hT4, hsz4, hk4, hb4⟩
          have hB4 : Below w.heap.size w w4 := hB3.trans (hb4 w.heap.size (Nat.le_refl _))
          have HO4 := Lib.hid (show TIs w4 w1.heap.size zero16 from (hk4 w1.heap.size (Ne.symm hab)).trans HY3.out)
          have HT4 := Lib.hid hT4
          clear hT4 hk4 hb4 HX HY
          go_wp2_with fail
          go_roundw
          case rel =>
            refine ⟨k + 1, by omega, by go_num, by rw [List.take_succ_eq_append_getElem hlt, adds_snoc]; exact HT4.out, HO4.out, hB4⟩
          case measure => simp [intOf]; omega
        · have hkl : k = l.length := by omega
          subst hkl
          rw [List.take_length] at hTa
          have HX := Lib.hid hTa
          have HY := Lib.hid hTb
          clear hTa hTb
          go_wp2_with fail
          go_loopw [63] (fun i wr => ∃ k : Nat, k ≤ l.length ∧ i = .int .i64 k ∧ O1 w.heap.size w1.heap.size w wr (adds zero16 l) (adds zero16 ((turned l kk).take k))) (fun i _ => l.length - (intOf i).toNat)
          case atStart => exact ⟨0, Nat.zero_le _, rfl, HX.out, by rw [List.take_zero]; exact HY.out, hB⟩
          case round =>
            clear HX HY hB hlt hk
            obtain ⟨k, hk, rfl, hTa, hTb, hB⟩ := hrel
            by_cases hlt : k < l.length
            · have hj : (k + kk) % l.length < l.length := Nat.mod_lt _ (by omega)
              have e0 : ((k : Int) + (kk : Int)) % (l.length : Int) = (((k + kk) % l.length : Nat) : Int) := by rw [← Int.natCast_add]; exact (Int.natCast_emod _ _).symm
              have e1 : ((k : Int) + (kk : Int)).tmod (l.length : Int) = (((k + kk) % l.length : Nat) : Int) := by rw [Int.tmod_eq_emod_of_nonneg (by omega), e0]
              have et : (turned l kk).take (k + 1) = (turned l kk).take k ++ [l[(k + kk) % l.length]] := turned_snoc l kk k hkl hlt hj
              have hne0 : ¬ ((l.length : Int) = 0) := by omega
              have hne1 : ((l.length : Int) == 0) = false := beq_eq_false_iff_ne.2 hne0
              generalize hjj : (k + kk) % l.length = j at hj e0 e1 et
              clear hjj
              have hjr : decide ((j : Int) < (l.length : Int)) = true := decide_eq_true (by omega)
              obtain ⟨b, o, rfl, hbl, hc0', hc1', hc2'⟩ := (HA.out.below hB) j hj
              have hn := HN.out _ (List.getElem_mem (l := l) (n := j) hj)
              have HX := Lib.hid hTa
              have HY := Lib.hid hTb
              clear hTa hTb
              go_wp2_with fail
              refine calls_W (fun W3 hW3 => ?_)
              have hb3 : Below wr.heap.size wr W3 := by rw [hW3]; exact below_alloc (Below.refl _ _) _
              clear hW3
              have HX3 := Lib.hid (HX.out.below hb3)
              have HY3 := Lib.hid (HY.out.below hb3)
              have hB3 := below_call hB hb3
              refine (add_ok w1.heap.size _ _ _ _ HY3.out (adds_good zero_good _ (fun a ha => (HN.out a (turned_mem ha)).1)) hn.1 hn.2).mono ?_
              rintro e' w4 ⟨rfl, hT4, hsz4, hk4, hb4⟩
              have hB4 : Below w.heap.size w w4 := hB3.trans (hb4 w.heap.size hs1)
              have HO4 := Lib.hid (show TIs w4 w.heap.size (adds zero16 l) from (hk4 w.heap.size hab).trans HX3.out)
              have HT4 := Lib.hid hT4
              clear hT4 hk4 hb4 HX HY
              go_wp2_with fail
              go_roundw
              case rel =>
                refine ⟨k + 1, by omega, by go_num, HO4.out, by rw [et, adds_snoc]; exact HT4.out, hB4⟩
              case measure => simp [intOf]; omega
            · have hkl : k = l.length := by omega
              subst hkl
              rw [turned_all] at hTb
              have HX := Lib.hid hTa
              have HY := Lib.hid hTb
              clear hTa hTb
              go_wp2_with fail
              have hgl : (adds zero16 l).length = 16 := (adds_good zero_good l (fun a ha => (HN.out a ha).1)).1
              refine (all_ok _ _ _ HX.out hgl).mono ?_
              rintro e' w5 ⟨v5, rfl, hR5, hb5⟩
              have hB5 := below_call hB hb5
              have HY5 := Lib.hid (HY.out.below hb5)
              have HR5 := Lib.hid hR5
              clear hR5 HX HY
              go_wp2_with fail
              rw [turned_adds l kk (fun a ha => (HN.out a ha).1)] at HY5
              refine (all_ok _ _ _ HY5.out hgl).mono ?_
              rintro e' w6 ⟨v6, rfl, hR6, hb6⟩
              have hB6 := below_call hB5 hb6
              obtain ⟨A5, c5, rfl⟩ := Kd.R_slice HR5.out
              obtain ⟨A6, c6, rfl⟩ := Kd.R_slice hR6
              have hC5 := Kd.C_below (Kd.R_reads' HR5.out).2.2 hb6
              have hC6 := (Kd.R_reads' hR6).2.2
              generalize adds zero16 l = s at hgl hC5 hC6
              have HC5 := Lib.hid hC5
              have HC6 := Lib.hid hC6
              clear hR6 HR5 HY5 hC5 hC6
              rw [hgl]
              go_wp2_with fail
              go_loopw [86] (fun i wr => ∃ k : Nat, k ≤ 16 ∧ i = .int .i64 k ∧ EndRel A5 A6 s w wr) (fun i _ => 16 - (intOf i).toNat)
              case atStart => exact ⟨0, by omega, rfl, HC5.out, HC6.out, hB6⟩
              case round =>
                clear HC5 HC6 hB6 hB
                obtain ⟨k, hk, rfl, hC5, hC6, hB⟩ := hrel
                by_cases hlt : k < 16
                · obtain ⟨a5, rfl, h5⟩ := Kd.at_int hC5 (k : Int) (by omega) (by omega)
                  obtain ⟨a6, rfl, h6⟩ := Kd.at_int hC6 (k : Int) (by omega) (by omega)
                  rw [Int.toNat_natCast] at h5 h6
                  have HC5 := Lib.hid hC5
                  have HC6 := Lib.hid hC6
                  clear hC5 hC6
                  go_wp2_with fail
                  go_quiet (fail)
                  go_wp2_with fail
                  go_roundw
                  case rel => exact ⟨k + 1, by omega, by go_num, Kd.C_drewN HC5.out _, Kd.C_drewN HC6.out _, pw_below_drewN hB _⟩
                  case measure => simp [intOf]; omega
                · have hk16 : k = 16 := by omega
                  subst hk16
                  have HC5 := Lib.hid hC5
                  have HC6 := Lib.hid hC6
                  clear hC5 hC6
                  go_wp2_with fail
                  refine (awake_ok _).mono ?_
                  rintro e' w7 ⟨rfl, hb7⟩
                  have hB7 := below_call hB hb7
                  go_wp2_with fail
                  go_ret
                  exact ⟨rfl, hB7⟩
    · by_cases hz : 0 < l.length
      · have p1 : decide (0 < l.length) = true := decide_eq_true hz
        have p2 : decide (turn ≥ 0) = false := decide_eq_false (by omega)
        have p3 : decide (0 ≤ turn) = false := decide_eq_false (by omega)
        clear hk
        go_enter Try.func5, Try.ntmps5
        go_wp2_with fail
        refine (new_ok _).mono ?_
        rintro e' w1 ⟨rfl, hTa, hb1⟩
        have HTa := Lib.hid hTa
        clear hTa
        go_wp2_with fail
        refine (new_ok _).mono ?_
        rintro e' w2 ⟨rfl, hTb, hb2⟩
        have HTa2 := Lib.hid (HTa.out.below hb2)
        have HTb := Lib.hid hTb
        have hB2 := below_call hb1 hb2
        have hab : w.heap.size ≠ w1.heap.size := Nat.ne_of_lt (blk_lt HTa.out)
        have hs1 := hb1.size
        clear hTb HTa hb1 hb2
        go_wp2_with fail
        go_loopw [50] (fun i wr => ∃ k : Nat, k ≤ l.length ∧ i = .int .i64 k ∧ O1 w.heap.size w1.heap.size w wr (adds zero16 (l.take k)) zero16) (fun i _ => l.length - (intOf i).toNat)
        case atStart => exact ⟨0, Nat.zero_le _, rfl, by rw [List.take_zero]; exact HTa2.out, HTb.out, hB2⟩
        case round =>
          clear HTa2 HTb hB2
          obtain ⟨k, hk, rfl, hTa, hTb, hB⟩ := hrel
          by_cases hlt : k < l.length
          · have hk0 := hlt
            obtain ⟨b, o, rfl, hbl, hc0', hc1', hc2'⟩ := (HA.out.below hB) k hlt
            have hn := HN.out _ (List.getElem_mem (l := l) (n := k) hlt)
            have HX := Lib.hid hTa
            have HY := Lib.hid hTb
            clear hTa hTb
            go_wp2_with fail
            refine calls_W (fun W3 hW3 => ?_)
            have hb3 : Below wr.heap.size wr W3 := by rw [hW3]; exact below_alloc (Below.refl _ _) _
            clear hW3
            have HX3 := Lib.hid (HX.out.below hb3)
            have HY3 := Lib.hid (HY.out.below hb3)
            have hB3 := below_call hB hb3
            refine (add_ok w.heap.size _ _ _ _ HX3.out (adds_good zero_good _ (fun a ha => (HN.out a (List.mem_of_mem_take ha)).1)) hn.1 hn.2).mono ?_
            rintro e' w4 ⟨rfl, hT4, hsz4, hk4, hb4⟩
            have hB4 : Below w.heap.size w w4 := hB3.trans (hb4 w.heap.size (Nat.le_refl _))
            have HO4 := Lib.hid (show TIs w4 w1.heap.size zero16 from (hk4 w1.heap.size (Ne.symm hab)).trans HY3.out)
            have HT4 := Lib.hid hT4
            clear hT4 hk4 hb4 HX HY
            go_wp2_with fail
            go_roundw
            case rel =>
              refine ⟨k + 1, by omega, by go_num, by rw [List.take_succ_eq_append_getElem hlt, adds_snoc]; exact HT4.out, HO4.out, hB4⟩
            case measure => simp [intOf]; omega
          · have hkl : k = l.length := by omega
            subst hkl
            rw [List.take_length] at hTa
            have HX := Lib.hid hTa
            have HY := Lib.hid hTb
            clear hTa hTb
            go_wp2_with fail
            go_loopw [63] (fun i wr => ∃ k : Nat, k ≤ l.length ∧ i = .int .i64 k ∧ O1 w.heap.size w1.heap.size w wr (adds zero16 l) (adds zero16 ((turned l 0).take k))) (fun i _ => l.length - (intOf i).toNat)
            case atStart => exact ⟨0, Nat.zero_le _, rfl, HX.out, by rw [List.take_zero]; exact HY.out, hB⟩
            case round =>
              clear HX HY hB hlt hk
              obtain ⟨k, hk, rfl, hTa, hTb, hB⟩ := hrel
              by_cases hlt : k < l.length
              · have hj : k < l.length := hlt
                have e0 : (k : Int) % (l.length : Int) = (k : Int) := Int.emod_eq_of_lt (by omega) (by omega)
                have e1 : (k : Int).tmod (l.length : Int) = (k : Int) := by rw [Int.tmod_eq_emod_of_nonneg (by omega), e0]
                have et : (turned l 0).take (k + 1) = (turned l 0).take k ++ [l[k]] := turned_zero l k hlt
                have hne0 : ¬ ((l.length : Int) = 0) := by omega
                have hne1 : ((l.length : Int) == 0) = false := beq_eq_false_iff_ne.2 hne0
                obtain ⟨b, o, rfl, hbl, hc0', hc1', hc2'⟩ := (HA.out.below hB) k hj
                have hn := HN.out _ (List.getElem_mem (l := l) (n := k) hj)
                have HX := Lib.hid hTa
                have HY := Lib.hid hTb
                clear hTa hTb
                go_wp2_with fail
                refine calls_W (fun W3 hW3 => ?_)
                have hb3 : Below wr.heap.size wr W3 := by rw [hW3]; exact below_alloc (Below.refl _ _) _
                clear hW3
                have HX3 := Lib.hid (HX.out.below hb3)
                have HY3 := Lib.hid (HY.out.below hb3)
                have hB3 := below_call hB hb3
                refine (add_ok w1.heap.size _ _ _ _ HY3.out (adds_good zero_good _ (fun a ha => (HN.out a (turned_mem ha)).1)) hn.1 hn.2).mono ?_
                rintro e' w4 ⟨rfl, hT4, hsz4, hk4, hb4⟩
                have hB4 : Below w.heap.size w w4 := hB3.trans (hb4 w.heap.size hs1)
                have HO4 := Lib.hid (show TIs w4 w.heap.size (adds zero16 l) from (hk4 w.heap.size hab).trans HX3.out)
                have HT4 := Lib.hid hT4
                clear hT4 hk4 hb4 HX HY
                go_wp2_with fail
                go_roundw
                case rel =>
                  refine ⟨k + 1, by omega, by go_num, HO4.out, by rw [et, adds_snoc]; exact HT4.out, hB4⟩
                case measure => simp [intOf]; omega
              · have hkl : k = l.length := by omega
                subst hkl
                rw [turned_all] at hTb
                have HX := Lib.hid hTa
                have HY := Lib.hid hTb
                clear hTa hTb
                go_wp2_with fail
                have hgl : (adds zero16 l).length = 16 := (adds_good zero_good l (fun a ha => (HN.out a ha).1)).1
                refine (all_ok _ _ _ HX.out hgl).mono ?_
                rintro e' w5 ⟨v5, rfl, hR5, hb5⟩
                have hB5 := below_call hB hb5
                have HY5 := Lib.hid (HY.out.below hb5)
                have HR5 := Lib.hid hR5
                clear hR5 HX HY
                go_wp2_with fail
                rw [turned_adds l 0 (fun a ha => (HN.out a ha).1)] at HY5
                refine (all_ok _ _ _ HY5.out hgl).mono ?_
                rintro e' w6 ⟨v6, rfl, hR6, hb6⟩
                have hB6 := below_call hB5 hb6
                obtain ⟨A5, c5, rfl⟩ := Kd.R_slice HR5.out
                obtain ⟨A6, c6, rfl⟩ := Kd.R_slice hR6
                have hC5 := Kd.C_below (Kd.R_reads' HR5.out).2.2 hb6
                have hC6 := (Kd.R_reads' hR6).2.2
                generalize adds zero16 l = s at hgl hC5 hC6
                have HC5 := Lib.hid hC5
                have HC6 := Lib.hid hC6
                clear hR6 HR5 HY5 hC5 hC6
                rw [hgl]
                go_wp2_with fail
                go_loopw [86] (fun i wr => ∃ k : Nat, k ≤ 16 ∧ i = .int .i64 k ∧ EndRel A5 A6 s w wr) (fun i _ => 16 - (intOf i).toNat)
                case atStart => exact ⟨0, by omega, rfl, HC5.out, HC6.out, hB6⟩
                case round =>
                  clear HC5 HC6 hB6 hB
                  obtain ⟨k, hk, rfl, hC5, hC6, hB⟩ := hrel
                  by_cases hlt : k < 16
                  · obtain ⟨a5, rfl, h5⟩ := Kd.at_int hC5 (k : Int) (by omega) (by omega)
                    obtain ⟨a6, rfl, h6⟩ := Kd.at_int hC6 (k : Int) (by omega) (by omega)
                    rw [Int.toNat_natCast] at h5 h6
                    have HC5 := Lib.hid hC5
                    have HC6 := Lib.hid hC6
                    clear hC5 hC6
                    go_wp2_with fail
                    go_quiet (fail)
                    go_wp2_with fail
                    go_roundw
                    case rel => exact ⟨k + 1, by omega, by go_num, Kd.C_drewN HC5.out _, Kd.C_drewN HC6.out _, pw_below_drewN hB _⟩
                    case measure => simp [intOf]; omega
                  · have hk16 : k = 16 := by omega
                    subst hk16
                    have HC5 := Lib.hid hC5
                    have HC6 := Lib.hid hC6
                    clear hC5 hC6
                    go_wp2_with fail
                    refine (awake_ok _).mono ?_
                    rintro e' w7 ⟨rfl, hb7⟩
                    have hB7 := below_call hB hb7
                    go_wp2_with fail
                    go_ret
                    exact ⟨rfl, hB7⟩
      · have p1 : decide (0 < l.length) = false := decide_eq_false hz
        clear hk
        go_enter Try.func5, Try.ntmps5
        go_wp2_with fail
        refine (new_ok _).mono ?_
        rintro e' w1 ⟨rfl, hTa, hb1⟩
        have HTa := Lib.hid hTa
        clear hTa
        go_wp2_with fail
        refine (new_ok _).mono ?_
        rintro e' w2 ⟨rfl, hTb, hb2⟩
        have HTa2 := Lib.hid (HTa.out.below hb2)
        have HTb := Lib.hid hTb
        have hB2 := below_call hb1 hb2
        have hab : w.heap.size ≠ w1.heap.size := Nat.ne_of_lt (blk_lt HTa.out)
        have hs1 := hb1.size
        clear hTb HTa hb1 hb2
        go_wp2_with fail
        go_loopw [50] (fun i wr => ∃ k : Nat, k ≤ l.length ∧ i = .int .i64 k ∧ O1 w.heap.size w1.heap.size w wr (adds zero16 (l.take k)) zero16) (fun i _ => l.length - (intOf i).toNat)
        case atStart => exact ⟨0, Nat.zero_le _, rfl, by rw [List.take_zero]; exact HTa2.out, HTb.out, hB2⟩
        case round =>
          clear HTa2 HTb hB2
          obtain ⟨k, hk, rfl, hTa, hTb, hB⟩ := hrel
          by_cases hlt : k < l.length
          · exact absurd hlt (by omega)
          · have hkl : k = l.length := by omega
            subst hkl
            rw [List.take_length] at hTa
            have HX := Lib.hid hTa
            have HY := Lib.hid hTb
            clear hTa hTb
            go_wp2_with fail
            go_loopw [63] (fun i wr => ∃ k : Nat, k ≤ l.length ∧ i = .int .i64 k ∧ O1 w.heap.size w1.heap.size w wr (adds zero16 l) (adds zero16 ((turned l 0).take k))) (fun i _ => l.length - (intOf i).toNat)
            case atStart => exact ⟨0, Nat.zero_le _, rfl, HX.out, by rw [List.take_zero]; exact HY.out, hB⟩
            case round =>
              clear HX HY hB hlt hk
              obtain ⟨k, hk, rfl, hTa, hTb, hB⟩ := hrel
              by_cases hlt : k < l.length
              · exact absurd hlt (by omega)
              · have hkl : k = l.length := by omega
                subst hkl
                rw [turned_all] at hTb
                have HX := Lib.hid hTa
                have HY := Lib.hid hTb
                clear hTa hTb
                go_wp2_with fail
                have hgl : (adds zero16 l).length = 16 := (adds_good zero_good l (fun a ha => (HN.out a ha).1)).1
                refine (all_ok _ _ _ HX.out hgl).mono ?_
                rintro e' w5 ⟨v5, rfl, hR5, hb5⟩
                have hB5 := below_call hB hb5
                have HY5 := Lib.hid (HY.out.below hb5)
                have HR5 := Lib.hid hR5
                clear hR5 HX HY
                go_wp2_with fail
                rw [turned_adds l 0 (fun a ha => (HN.out a ha).1)] at HY5
                refine (all_ok _ _ _ HY5.out hgl).mono ?_
                rintro e' w6 ⟨v6, rfl, hR6, hb6⟩
                have hB6 := below_call hB5 hb6
                obtain ⟨A5, c5, rfl⟩ := Kd.R_slice HR5.out
                obtain ⟨A6, c6, rfl⟩ := Kd.R_slice hR6
                have hC5 := Kd.C_below (Kd.R_reads' HR5.out).2.2 hb6
                have hC6 := (Kd.R_reads' hR6).2.2
                generalize adds zero16 l = s at hgl hC5 hC6
                have HC5 := Lib.hid hC5
                have HC6 := Lib.hid hC6
                clear hR6 HR5 HY5 hC5 hC6
                rw [hgl]
                go_wp2_with fail
                go_loopw [86] (fun i wr => ∃ k : Nat, k ≤ 16 ∧ i = .int .i64 k ∧ EndRel A5 A6 s w wr) (fun i _ => 16 - (intOf i).toNat)
                case atStart => exact ⟨0, by omega, rfl, HC5.out, HC6.out, hB6⟩
                case round =>
                  clear HC5 HC6 hB6 hB
                  obtain ⟨k, hk, rfl, hC5, hC6, hB⟩ := hrel
                  by_cases hlt : k < 16
                  · obtain ⟨a5, rfl, h5⟩ := Kd.at_int hC5 (k : Int) (by omega) (by omega)
                    obtain ⟨a6, rfl, h6⟩ := Kd.at_int hC6 (k : Int) (by omega) (by omega)
                    rw [Int.toNat_natCast] at h5 h6
                    have HC5 := Lib.hid hC5
                    have HC6 := Lib.hid hC6
                    clear hC5 hC6
                    go_wp2_with fail
                    go_quiet (fail)
                    go_wp2_with fail
                    go_roundw
                    case rel => exact ⟨k + 1, by omega, by go_num, Kd.C_drewN HC5.out _, Kd.C_drewN HC6.out _, pw_below_drewN hB _⟩
                    case measure => simp [intOf]; omega
                  · have hk16 : k = 16 := by omega
                    subst hk16
                    have HC5 := Lib.hid hC5
                    have HC6 := Lib.hid hC6
                    clear hC5 hC6
                    go_wp2_with fail
                    refine (awake_ok _).mono ?_
                    rintro e' w7 ⟨rfl, hb7⟩
                    have hB7 := below_call hB hb7
                    go_wp2_with fail
                    go_ret
                    exact ⟨rfl, hB7⟩
end Go.Proofs.Ytehicbehljfkhaa.Ta
