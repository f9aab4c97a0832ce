/- Tables of addresses: one act, the table's and the document's answers held together (plain). -/
import Derived.Test.YtmlenepeocginaaGvFdSame
import Derived.Test.YtmlenepeocginaaGvBit
namespace Go.Proofs.Ytmlenepeocginaa.Gv
open Go.RowKit Go.Maps Go.WideElems Go.Lib Go.Proofs.YtmlenepeocginaaW.PrintWords Go.Proofs.YtmlenepeocginaaW.PrintLast Go.Proofs.YtmlenepeocginaaW.PrintMore Go.Proofs.Ytmlenepeocginaa.PFdbPlays
set_option linter.unusedVariables false
set_option linter.unusedSimpArgs false
theorem bef_iff (x y : S79) : befS x y = true ↔ (x.f0 < y.f0 ∨ (x.f0 = y.f0 ∧ x.f1 < y.f1)) := by
  unfold befS befI
  rw [decide_eq_true_eq]
theorem grp_same (a : Int) (h0 : 0 ≤ a) (h1 : a ≤ 281474976710655) : grpI a = grpR a := by
  unfold grpI grpR
  rw [and_one _ (by omega) (by omega), Int.tdiv_eq_ediv_of_nonneg h0]
  have e : IntKind.u64.wrap (a / 1099511627776) = a / 1099511627776 := by
    show (a / 1099511627776) % 18446744073709551616 = _
    omega
  rw [e, Int.tmod_eq_emod_of_nonneg (by omega)]
/-- In order: no row ahead of an earlier one; all keys apart. -/
theorem sorted_key {l : List S79} (hs : l.Pairwise (fun x y => befS x y = true)) {x y : S79} (hx : x ∈ l) (hy : y ∈ l) (h : x.f0 = y.f0 ∧ x.f1 = y.f1) : x = y := by
  obtain ⟨i, hi, rfl⟩ := List.getElem_of_mem hx
  obtain ⟨j, hj, rfl⟩ := List.getElem_of_mem hy
  have hg := List.pairwise_iff_getElem.1 hs
  by_cases hij : i < j
  · have := (bef_iff _ _).1 (hg i j hi hj hij); omega
  · by_cases hji : j < i
    · have := (bef_iff _ _).1 (hg j i hj hi hji); omega
    · have : i = j := by omega
      subst this
      rfl
theorem take_filter {l : List S79} (x : S79) (hs : l.Pairwise (fun x y => befS x y = true)) : l.takeWhile (fun y => befS y x) = l.filter (fun y => befS y x) := by
  induction l with
  | nil => rfl
  | cons y l ih =>
    rw [List.pairwise_cons] at hs
    by_cases h : befS y x = true
    · rw [List.takeWhile_cons_of_pos (p := fun y => befS y x) h, List.filter_cons_of_pos (p := fun y => befS y x) h, ih hs.2]
    · rw [List.takeWhile_cons_of_neg (p := fun y => befS y x) h, List.filter_cons_of_neg (p := fun y => befS y x) h]
      symm
      rw [List.filter_eq_nil_iff]
      intro z hz hzx
      have h1 := (bef_iff _ _).1 (hs.1 z hz)
      have h2 := (bef_iff _ _).1 hzx
      exact h ((bef_iff _ _).2 (by omega))
theorem ins_sorted {l : List S79} (x : S79) (hs : l.Pairwise (fun x y => befS x y = true)) : (insS l x).Pairwise (fun x y => befS x y = true) := by
  unfold insS
  rw [take_filter x hs, List.pairwise_append]
  refine ⟨hs.filter _, ?_, ?_⟩
  · rw [List.pairwise_cons]
    refine ⟨?_, hs.filter _⟩
    intro y hy
    exact (List.mem_filter.1 hy).2
  · intro y hy z hz
    have h1 := (bef_iff _ _).1 (List.mem_filter.1 hy).2
    rw [List.mem_cons] at hz
    rcases hz with rfl | hz
    · exact (List.mem_filter.1 hy).2
    · have h2 := (bef_iff _ _).1 (List.mem_filter.1 hz).2
      exact (bef_iff _ _).2 (by omega)
/-- The rows apart from one key's. -/
theorem split_perm {l : List S79} (x : S79) : (l.filter (fun y => decide (¬ (y.f0 = x.f0 ∧ y.f1 = x.f1)))).Perm (l.filter (fun y => befS y x) ++ l.filter (fun y => befS x y)) := by
  induction l with
  | nil => exact List.Perm.refl _
  | cons y l ih =>
    by_cases h1 : befS y x = true
    · have e1 := (bef_iff _ _).1 h1
      have h2 : ¬ befS x y = true := fun h => by have := (bef_iff _ _).1 h; omega
      have h3 : ¬ (y.f0 = x.f0 ∧ y.f1 = x.f1) := by omega
      rw [List.filter_cons_of_pos (by exact decide_eq_true h3), List.filter_cons_of_pos (p := fun y => befS y x) h1, List.filter_cons_of_neg (p := fun y => befS x y) h2]
      exact ih.cons y
    · by_cases h2 : befS x y = true
      · have e2 := (bef_iff _ _).1 h2
        have h3 : ¬ (y.f0 = x.f0 ∧ y.f1 = x.f1) := by omega
        rw [List.filter_cons_of_pos (by exact decide_eq_true h3), List.filter_cons_of_neg (p := fun y => befS y x) h1, List.filter_cons_of_pos (p := fun y => befS x y) h2]
        exact (ih.cons y).trans List.perm_middle.symm
      · have e1 : ¬ _ := fun h => h1 ((bef_iff y x).2 h)
        have e2 : ¬ _ := fun h => h2 ((bef_iff x y).2 h)
        have h3 : y.f0 = x.f0 ∧ y.f1 = x.f1 := by omega
        rw [List.filter_cons_of_neg (by simpa using h3), List.filter_cons_of_neg (p := fun y => befS y x) h1, List.filter_cons_of_neg (p := fun y => befS x y) h2]
        exact ih
theorem ins_perm {l : List S79} (x : S79) (hs : l.Pairwise (fun x y => befS x y = true)) : (insS l x).Perm (x :: l.filter (fun y => decide (¬ (y.f0 = x.f0 ∧ y.f1 = x.f1)))) := by
  unfold insS
  rw [take_filter x hs]
  exact List.perm_middle.trans ((split_perm x).symm.cons x)
theorem st_learn {L L' : List Rw} {lm l' : List S79} {code code' : Int} (hp : L.Perm (lm.map toRw)) (hs : lm.Pairwise (fun x y => befS x y = true)) (room now k0 k1 port : Int) (h0 : 0 ≤ k0) (h1 : 0 ≤ k1)
    (hLN : LN room now k0 k1 port L code L') (hLNR : LNR room now k0 k1 port lm code' l') : code = code' ∧ L'.Perm (l'.map toRw) ∧ l'.Pairwise (fun x y => befS x y = true) ∧ L'.length ≤ L.length + 1 := by
  have hlen : L.length = lm.length := by rw [hp.length_eq, List.length_map]
  have hkey : (∃ q ∈ L, rk q = (k0, k1)) ↔ ∃ x ∈ lm, x.f0 = k0 ∧ x.f1 = k1 := by
    constructor
    · rintro ⟨q, hq, e⟩
      obtain ⟨x, hx, rfl⟩ := List.mem_map.1 (hp.mem_iff.1 hq)
      have e1 : x.f0 = k0 ∧ x.f1 = k1 := by simpa [rk, toRw] using e
      exact ⟨x, hx, e1⟩
    · rintro ⟨x, hx, e1, e2⟩
      exact ⟨toRw x, hp.mem_iff.2 (List.mem_map_of_mem hx), by simp [rk, toRw, e1, e2]⟩
  have HK := Lib.hid hkey
  clear hkey
  have stay : L' = L → l' = lm → L'.Perm (l'.map toRw) ∧ l'.Pairwise (fun x y => befS x y = true) ∧ L'.length ≤ L.length + 1 := by
    rintro rfl rfl
    exact ⟨hp, hs, by omega⟩
  unfold LN at hLN
  unfold LNR at hLNR
  by_cases c1 : k0 < 1 ∨ 4094 < k0
  · have a : code = 4 ∧ L' = L := by rcases hLN with h | h | h | h | h <;> first | exact ⟨h.1, h.2.1⟩ | (exfalso; omega)
    have b : code' = 4 ∧ l' = lm := by rcases hLNR with h | h | h | h | h <;> first | exact ⟨h.1, h.2.1⟩ | (exfalso; omega)
    exact ⟨by rw [a.1, b.1], stay a.2 b.2⟩
  by_cases c2 : 281474976710655 < k1 ∨ grpI k1 = true
  · have c2' : 281474976710656 ≤ k1 ∨ grpR k1 = true := by
      by_cases h : 281474976710655 < k1
      · exact .inl (by omega)
      · rw [← grp_same k1 h1 (by omega)]
        rcases c2 with h2 | h2
        · exact absurd h2 h
        · exact .inr h2
    have a : code = 3 ∧ L' = L := by
      rcases hLN with h | h | h | h | h
      · omega
      · exact ⟨h.1, h.2.1⟩
      all_goals
        rcases c2 with c | c
        · omega
        · rw [h.2.2.2.2.2.1] at c; cases c
    have b : code' = 3 ∧ l' = lm := by
      rcases hLNR with h | h | h | h | h
      · omega
      · exact ⟨h.1, h.2.1⟩
      all_goals
        rcases c2' with c | c
        · omega
        · rw [h.2.2.2.2.2.1] at c; cases c
    exact ⟨by rw [a.1, b.1], stay a.2 b.2⟩
  have c2a : k1 ≤ 281474976710655 := by omega
  have c2b : grpI k1 = false := by
    cases h : grpI k1 with
    | false => rfl
    | true => exact absurd (.inr h) c2
  have c2c : grpR k1 = false := by rw [← grp_same k1 h1 c2a]; exact c2b
  have n3 : ∀ {P : Prop}, (281474976710655 < k1 ∨ grpI k1 = true) → P := fun h => absurd h c2
  have n3' : ∀ {P : Prop}, (281474976710656 ≤ k1 ∨ grpR k1 = true) → P := fun h => by
    rcases h with h | h
    · exact absurd h (by omega)
    · rw [c2c] at h; cases h
  by_cases c3 : port < 0 ∨ 2 < port
  · have n4 : ∀ {P : Prop}, 0 ≤ port → port ≤ 2 → P := fun h h' => by exfalso; omega
    have a : code = 11 ∧ L' = L := by
      rcases hLN with h | h | h | h | h
      · omega
      · exact n3 h.2.2.2.2
      · exact ⟨h.1, h.2.1⟩
      · exact n4 h.2.2.2.2.2.2.1 h.2.2.2.2.2.2.2.1
      · exact n4 h.2.2.2.2.2.2.1 h.2.2.2.2.2.2.2.1
    have b : code' = 11 ∧ l' = lm := by
      rcases hLNR with h | h | h | h | h
      · omega
      · exact n3' h.2.2.2.2
      · exact ⟨h.1, h.2.1⟩
      · exact n4 h.2.2.2.2.2.2.1 h.2.2.2.2.2.2.2.1
      · exact n4 h.2.2.2.2.2.2.1 h.2.2.2.2.2.2.2.1
    exact ⟨by rw [a.1, b.1], stay a.2 b.2⟩
  by_cases c4 : (∀ q ∈ L, rk q ≠ (k0, k1)) ∧ room ≤ L.length
  · have c4' : (∀ x ∈ lm, ¬ (x.f0 = k0 ∧ x.f1 = k1)) ∧ room ≤ lm.length := by
      refine ⟨fun x hx e => ?_, by rw [← hlen]; exact c4.2⟩
      obtain ⟨q, hq, e2⟩ := HK.out.2 ⟨x, hx, e⟩
      exact c4.1 q hq e2
    have a : code = 9 ∧ L' = L := by
      rcases hLN with h | h | h | h | h
      · omega
      · exact n3 h.2.2.2.2
      · omega
      · exact ⟨h.1, h.2.1⟩
      · rcases h.2.2.2.2.2.2.2.2 with ⟨q, hq, e⟩ | h2
        · exact absurd e (c4.1 q hq)
        · omega
    have b : code' = 9 ∧ l' = lm := by
      rcases hLNR with h | h | h | h | h
      · omega
      · exact n3' h.2.2.2.2
      · omega
      · exact ⟨h.1, h.2.1⟩
      · rcases h.2.2.2.2.2.2.2.2 with ⟨q, hq, e⟩ | h2
        · exact absurd e (c4'.1 q hq)
        · omega
    exact ⟨by rw [a.1, b.1], stay a.2 b.2⟩
  · have a : code = 0 ∧ L' = (k0, k1, port, now) :: L.filter (fun q => decide (rk q ≠ (k0, k1))) := by
      rcases hLN with h | h | h | h | h
      · omega
      · exact n3 h.2.2.2.2
      · omega
      · exact absurd ⟨h.2.2.2.2.2.2.2.2.1, h.2.2.2.2.2.2.2.2.2⟩ c4
      · exact ⟨h.1, h.2.1⟩
    have b : code' = 0 ∧ l' = insS lm ⟨k0, k1, port, now⟩ := by
      rcases hLNR with h | h | h | h | h
      · omega
      · exact n3' h.2.2.2.2
      · omega
      · refine absurd ⟨fun q hq e => ?_, ?_⟩ c4
        · obtain ⟨x, hx, e2⟩ := HK.out.1 ⟨q, hq, e⟩
          exact h.2.2.2.2.2.2.2.2.1 x hx e2
        · rw [hlen]; exact h.2.2.2.2.2.2.2.2.2
      · exact ⟨h.1, h.2.1⟩
    refine ⟨by rw [a.1, b.1], ?_, ?_, ?_⟩
    · rw [a.2, b.2]
      have h2 := (ins_perm ⟨k0, k1, port, now⟩ hs).map toRw
      refine List.Perm.trans ?_ h2.symm
      rw [List.map_cons]
      refine List.Perm.cons _ ?_
      have h3 := hp.filter (fun q => decide (rk q ≠ (k0, k1)))
      refine h3.trans ?_
      rw [List.filter_map]
      refine List.Perm.of_eq ?_
      congr 1
      refine List.filter_congr ?_
      intro y _
      show decide (rk (toRw y) ≠ (k0, k1)) = decide _
      rw [decide_eq_decide]
      simp [rk, toRw]
    · rw [b.2]; exact ins_sorted _ hs
    · rw [a.2, List.length_cons]
      exact Nat.succ_le_succ (List.length_filter_le _ _)
theorem st_filter {L : List Rw} {lm : List S79} (hp : L.Perm (lm.map toRw)) (hs : lm.Pairwise (fun x y => befS x y = true)) (p : Rw → Bool) (p' : S79 → Bool) (h : ∀ x, p (toRw x) = p' x) :
    (L.filter p).Perm ((lm.filter p').map toRw) ∧ (lm.filter p').Pairwise (fun x y => befS x y = true) ∧ (L.filter p).length ≤ L.length := by
  refine ⟨?_, hs.filter _, List.length_filter_le _ _⟩
  refine (hp.filter p).trans ?_
  rw [List.filter_map]
  refine List.Perm.of_eq ?_
  congr 1
  exact List.filter_congr (fun y _ => h y)
theorem st_look {L : List Rw} {lm : List S79} (hp : L.Perm (lm.map toRw)) (hs : lm.Pairwise (fun x y => befS x y = true)) (age now k0 k1 : Int) {e : Ending} {r1 : Int} {r2 : Bool}
    (h : ∃ (r : Rw) (ok : Bool), FND L (k0, k1) r ok ∧ ((ok = true ∧ wrap64 (now - r.2.2.2) < age ∧ e = .returned (.tuple #[.int .i64 r.2.2.1, .bool true])) ∨ ((ok = false ∨ age ≤ wrap64 (now - r.2.2.2)) ∧ e = .returned (.tuple #[.int .i64 (-1), .bool false]))))
    (hl : LKR age now k0 k1 lm r1 r2) : e = .returned (.tuple #[.int .i64 r1, .bool r2]) := by
  obtain ⟨r, ok, hf, hr⟩ := h
  rcases hf with ⟨hok, hrL, hrk⟩ | ⟨hok, hr0, hno⟩
  · obtain ⟨x, hx, rfl⟩ := List.mem_map.1 (hp.mem_iff.1 hrL)
    have hxk : x.f0 = k0 ∧ x.f1 = k1 := by simpa [rk, toRw] using hrk
    rcases hl with ⟨y, hy, h1, h2, h3, rfl, rfl⟩ | ⟨rfl, rfl, h⟩
    · have : x = y := sorted_key hs hx hy ⟨by omega, by omega⟩
      subst this
      rcases hr with ⟨_, _, he⟩ | ⟨h4, _⟩
      · exact he
      · rcases h4 with h4 | h4
        · rw [hok] at h4; cases h4
        · have h4 : age ≤ wrap64 (now - x.f3) := h4
          omega
    · rcases hr with ⟨_, h4, he⟩ | ⟨_, he⟩
      · rcases h with h | ⟨y, hy, h1, h2, h3⟩
        · exact absurd hxk (h x hx)
        · have : x = y := sorted_key hs hx hy ⟨by omega, by omega⟩
          subst this
          have h4 : wrap64 (now - x.f3) < age := h4
          omega
      · exact he
  · rcases hl with ⟨y, hy, h1, h2, h3, rfl, rfl⟩ | ⟨rfl, rfl, h⟩
    · exact absurd (by simp [rk, toRw, h1, h2]) (hno (toRw y) (hp.mem_iff.2 (List.mem_map_of_mem hy)))
    · rcases hr with ⟨h4, _, _⟩ | ⟨_, he⟩
      · rw [hok] at h4; cases h4
      · exact he
end Go.Proofs.Ytmlenepeocginaa.Gv
