/- Relay: what a table knows is gone to (plain). -/
import Derived.Test.YtmlenepeocginaaGvReAwake
namespace Go.Proofs.Ytmlenepeocginaa.Gv
open Go.RowKit Go.Maps Go.WideElems Go.Lib Go.Proofs.YtmlenepeocginaaW.PrintWords Go.Proofs.YtmlenepeocginaaW.PrintLast Go.Proofs.YtmlenepeocginaaW.PrintMore Go.Proofs.Ytmlenepeocginaa.PRelayNever
set_option linter.unusedVariables false
set_option linter.unusedSimpArgs false
theorem dat_out {sw se : Bool} {i o : Int} (h : datI sw se i o = true) : o ≠ i ∧ ((o = 0 ∧ sw = false) ∨ (o = 1 ∧ se = false) ∨ o = 2) := by
  unfold datI at h
  by_cases hio : i = o
  · rw [if_pos hio] at h; cases h
  · rw [if_neg hio] at h
    have h2 : opnI sw se o = true := by
      cases h3 : opnI sw se o with
      | true => rfl
      | false => rw [h3, Bool.and_false] at h; cases h
    refine ⟨fun e => hio e.symm, ?_⟩
    unfold opnI at h2
    by_cases e2 : o = 2
    · exact .inr (.inr e2)
    · rw [if_neg e2] at h2
      by_cases e0 : o = 0
      · rw [if_pos e0] at h2
        exact .inl ⟨e0, by simpa using h2⟩
      · rw [if_neg e0] at h2
        by_cases e1 : o = 1
        · rw [if_pos e1] at h2
          exact .inr (.inl ⟨e1, by simpa using h2⟩)
        · rw [if_neg e1] at h2; cases h2
theorem gor_out {room age now inn dst src vlan code : Int} {sw se all : Bool} {L L' : List Rw} {xs : List Int} (h : GOR room age now sw se inn dst src vlan L L' xs all code) {o : Int} (ho : o ∈ xs) : code = 0 ∧ o ≠ inn ∧ ((o = 0 ∧ sw = false) ∨ (o = 1 ∧ se = false) ∨ o = 2) := by
  rcases h with h | ⟨h0, _, _, _, _, p, kn, _, h⟩
  · rw [h.2.1] at ho; cases ho
  · refine ⟨h0, ?_⟩
    rcases h with ⟨_, _, h⟩ | ⟨_, _, _, h⟩
    · rw [h] at ho
      exact dat_out (List.mem_filter.1 ho).2
    · by_cases hd : datI sw se inn p = true
      · rw [if_pos hd] at h
        rw [h] at ho
        obtain rfl : o = p := by simpa using ho
        exact dat_out hd
      · rw [if_neg hd] at h
        rw [h] at ho
        cases ho
/-- A table's rows: one a key, each of a port. -/
def GoodL (L : List Rw) : Prop := L.Pairwise (fun a b => rk a ≠ rk b) ∧ ∀ q ∈ L, 0 ≤ q.2.2.1 ∧ q.2.2.1 ≤ 2
theorem good_ln {room now k0 k1 port c1 : Int} {L L' : List Rw} (h : LN room now k0 k1 port L c1 L') (hL : GoodL L) : GoodL L' ∧ L'.length ≤ L.length + 1 := by
  have stay : L' = L → GoodL L' ∧ L'.length ≤ L.length + 1 := by rintro rfl; exact ⟨hL, by omega⟩
  rcases h with h | h | h | h | h
  · exact stay h.2.1
  · exact stay h.2.1
  · exact stay h.2.1
  · exact stay h.2.1
  · rw [h.2.1]
    refine ⟨⟨?_, ?_⟩, ?_⟩
    · rw [List.pairwise_cons]
      refine ⟨fun q hq e => ?_, hL.1.filter _⟩
      have := of_decide_eq_true (List.mem_filter.1 hq).2
      exact this e.symm
    · intro q hq
      rw [List.mem_cons] at hq
      rcases hq with rfl | hq
      · exact ⟨h.2.2.2.2.2.2.1, h.2.2.2.2.2.2.2.1⟩
      · exact hL.2 q (List.mem_filter.1 hq).1
    · exact Nat.succ_le_succ (List.length_filter_le _ _)
theorem good_gor {room age now inn dst src vlan code : Int} {sw se all : Bool} {L L' : List Rw} {xs : List Int} (h : GOR room age now sw se inn dst src vlan L L' xs all code) (hL : GoodL L) : GoodL L' ∧ L'.length ≤ L.length + 1 := by
  rcases h with h | ⟨_, _, _, _, ⟨c1, h⟩, _⟩
  · rw [h.2.2.2.1]; exact ⟨hL, by omega⟩
  · exact good_ln h hL
theorem key_one {L : List Rw} (h : L.Pairwise (fun a b => rk a ≠ rk b)) {x y : Rw} (hx : x ∈ L) (hy : y ∈ L) (e : rk x = rk y) : x = y := by
  obtain ⟨i, hi, rfl⟩ := List.getElem_of_mem hx
  obtain ⟨j, hj, rfl⟩ := List.getElem_of_mem hy
  have hg := List.pairwise_iff_getElem.1 h
  by_cases hij : i < j
  · exact absurd e (hg i j hi hj hij)
  · by_cases hji : j < i
    · exact absurd e.symm (hg j i hj hi hji)
    · have : i = j := by omega
      subst this
      rfl
/-- What is known is known still when another address is learned. -/
theorem lki_stay {room age now vlan src s2 inn c1 p p2 : Int} {kn2 : Bool} {L L2 : List Rw} (hL : GoodL L) (hLN : LN room now vlan s2 inn L c1 L2) (hne : s2 ≠ src) (h : LKI age now L (vlan, src) p true) (h2 : LKI age now L2 (vlan, src) p2 kn2) : kn2 = true ∧ p2 = p ∧ 0 ≤ p ∧ p ≤ 2 := by
  obtain ⟨r, ok, hf, h⟩ := h
  rcases h with ⟨hok, hold, hp, _⟩ | ⟨_, _, e⟩
  rotate_left
  · cases e
  rcases hf with ⟨_, hr, hk⟩ | ⟨e, _⟩
  rotate_left
  · rw [hok] at e; cases e
  have hr2 : r ∈ L2 := by
    rcases hLN with h | h | h | h | h
    · rw [h.2.1]; exact hr
    · rw [h.2.1]; exact hr
    · rw [h.2.1]; exact hr
    · rw [h.2.1]; exact hr
    · rw [h.2.1]
      refine List.mem_cons_of_mem _ (List.mem_filter.2 ⟨hr, decide_eq_true ?_⟩)
      rw [hk]
      intro e
      exact hne (Prod.mk.inj e).2.symm
  have hg2 := (good_ln hLN hL).1
  obtain ⟨r2, ok2, hf2, h2⟩ := h2
  rcases hf2 with ⟨ho2, hm2, hk2⟩ | ⟨_, _, hno⟩
  · have : r2 = r := key_one hg2.1 hm2 hr2 (by rw [hk2, hk])
    subst this
    rcases h2 with ⟨_, _, hp2, hkn⟩ | ⟨h2, _⟩
    · have := hL.2 _ hr
      exact ⟨hkn, by rw [hp2, hp], by omega, by omega⟩
    · rcases h2 with h2 | h2
      · rw [ho2] at h2; cases h2
      · omega
  · exact absurd hk (hno r hr2)
theorem never_plain {room age now vlan src s2 b1 port h : Int} {all2 : Bool} {L L2 : List Rw} {xs2 : List Int} (hL : GoodL L) (hk : LKI age now L (vlan, src) port true) (hne : s2 ≠ src) (h0 : h = 0) (hg : GOR room age now false false b1 src s2 vlan L L2 xs2 all2 h) :
    (grpD src = true ∧ all2 = true) ∨ (grpD src = false ∧ all2 = false ∧ ((xs2 = [port] ∧ port ≠ b1) ∨ (xs2 = [] ∧ port = b1))) := by
  rcases hg with hg | ⟨_, i0, i1, _, ⟨c1, hLN⟩, p2, kn2, hk2, hg⟩
  · exact absurd h0 hg.1
  · obtain ⟨rfl, rfl, q0, q1⟩ := lki_stay hL hLN hne hk hk2
    rcases hg with ⟨h1 | h1, h2, h3⟩ | ⟨h1, _, h2, h3⟩
    · exact .inl ⟨h1, h2⟩
    · cases h1
    · refine .inr ⟨h1, h2, ?_⟩
      by_cases hd : datI false false b1 p2 = true
      · rw [if_pos hd] at h3
        exact .inl ⟨h3, (dat_out hd).1⟩
      · rw [if_neg hd] at h3
        refine .inr ⟨h3, ?_⟩
        unfold datI at hd
        by_cases e : b1 = p2
        · exact e.symm
        · rw [if_neg e] at hd
          exfalso
          apply hd
          have ho : ∀ x : Int, 0 ≤ x → x ≤ 2 → opnI false false x = true := by
            intro x x0 x1
            have : x = 0 ∨ x = 1 ∨ x = 2 := by omega
            rcases this with rfl | rfl | rfl <;> decide
          rw [ho _ i0 i1, ho _ q0 q1]
          rfl
theorem ints_at {w : World} {A : Option Addr} {n : Nat} {xs : List Int} (h : Kd.C (Kd.int .i64) w A n xs) (k : Nat) (hk : k < xs.length) : ∃ ad, A = some ad ∧ w.cell? (ad.add k) = some (.int .i64 xs[k]) := by
  have hn := Kd.C_len h
  obtain ⟨ad, c, e, _, hK, hc⟩ := Kd.C_get h 0 (k : Int) (by omega) (by omega)
  refine ⟨ad, e, ?_⟩
  have h1 := hc 0 (.int .i64 xs[k]) (by rw [show c = [Value.int .i64 (xs.getD (k : Int).toNat 0)] from hK]; simp [List.getD_eq_getElem?_getD, List.getElem?_eq_getElem hk])
  simpa [show (Kd.int .i64).sz = 1 from rfl] using h1
end Go.Proofs.Ytmlenepeocginaa.Gv
