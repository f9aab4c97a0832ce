/- Tables of addresses: the document's answers (printed), plain. -/
import Derived.Test.YtmlenepeocginaaGvFdGone
import Derived.Test.YtmlenepeocginaaPFdbPlaysx2
import Derived.Test.YtmlenepeocginaaPFdbPlaysx4
namespace Go.Proofs.Ytmlenepeocginaa.Gv
open Go.RowKit Go.Maps Go.WideElems Go.Lib Go.Proofs.YtmlenepeocginaaW.PrintWords Go.Proofs.YtmlenepeocginaaW.PrintLast Go.Proofs.YtmlenepeocginaaW.PrintMore Go.Proofs.Ytmlenepeocginaa.PFdbPlays
set_option linter.unusedVariables false
set_option linter.unusedSimpArgs false
def toRw (x : S79) : Rw := (x.f0, x.f1, x.f2, x.f3)
theorem rd_at (l : List S79) (k : Nat) (h : k < l.length) : rd_T79 l (k : Int) = l[k] := by
  unfold rd_T79
  rw [Int.toNat_natCast, List.getD_eq_getElem?_getD, List.getElem?_eq_getElem h]
  rfl
theorem wr1 (k : Nat) (h : k ≤ 1000000) : wrap64 ((k : Int) + 1) = ((k + 1 : Nat) : Int) := by
  unfold wrap64; omega
theorem find_plain (a0 a1 v a : Int) (l : List S79) (hl : l.length ≤ 1000000) : ∀ d k, k + d = l.length → (∀ i, (h : i < l.length) → i < k → ¬ (l[i].f0 = v ∧ l[i].f1 = a)) →
    ∃ r, carouselref11_find.l0 (d + 1) v a (k : Int) a0 a1 l = some r ∧ ((r = -1 ∧ ∀ x ∈ l, ¬ (x.f0 = v ∧ x.f1 = a)) ∨ ∃ j, ∃ h : j < l.length, r = (j : Int) ∧ l[j].f0 = v ∧ l[j].f1 = a) := by
  intro d
  induction d with
  | zero =>
    intro k hk hno
    refine ⟨-1, ?_, .inl ⟨rfl, ?_⟩⟩
    · rw [carouselref11_find.l0, if_neg (by omega)]
    · intro x hx
      obtain ⟨i, hi, rfl⟩ := List.getElem_of_mem hx
      exact hno i hi (by omega)
  | succ d ih =>
    intro k hk hno
    have hlt : k < l.length := by omega
    rw [carouselref11_find.l0, if_pos (by omega), if_pos (by omega), rd_at l k hlt, wr1 k (by omega)]
    by_cases h0 : l[k].f0 = v
    · rw [if_pos h0]
      by_cases h1 : l[k].f1 = a
      · rw [if_pos h1]
        exact ⟨_, rfl, .inr ⟨k, hlt, rfl, h0, h1⟩⟩
      · rw [if_neg h1]
        refine ih (k + 1) (by omega) ?_
        intro i hi hik
        by_cases hik2 : i = k
        · subst hik2; exact fun h => h1 h.2
        · exact hno i hi (by omega)
    · rw [if_neg h0]
      refine ih (k + 1) (by omega) ?_
      intro i hi hik
      by_cases hik2 : i = k
      · subst hik2; exact fun h => h0 h.1
      · exact hno i hi (by omega)
theorem find_f (a0 a1 v a : Int) (l : List S79) (hl : l.length ≤ 1000000) :
    ∃ r, carouselref11_find.f (l.length + 1) a0 a1 l v a = some r ∧ ((r = -1 ∧ ∀ x ∈ l, ¬ (x.f0 = v ∧ x.f1 = a)) ∨ ∃ j, ∃ h : j < l.length, r = (j : Int) ∧ l[j].f0 = v ∧ l[j].f1 = a) :=
  find_plain a0 a1 v a l hl l.length 0 (by omega) (fun i _ h => by omega)
/-- What the document's Look answers. -/
def LKR (age now v a : Int) (l : List S79) (r1 : Int) (r2 : Bool) : Prop :=
  (∃ x ∈ l, x.f0 = v ∧ x.f1 = a ∧ wrap64 (now - x.f3) < age ∧ r1 = x.f2 ∧ r2 = true) ∨
  (r1 = -1 ∧ r2 = false ∧ ((∀ x ∈ l, ¬ (x.f0 = v ∧ x.f1 = a)) ∨ ∃ x ∈ l, x.f0 = v ∧ x.f1 = a ∧ age ≤ wrap64 (now - x.f3)))
theorem look_f (a0 a1 now v a : Int) (l : List S79) (hl : l.length ≤ 1000000) : ∃ r1 r2, carouselref11_Look.f (l.length + 1) a0 a1 l now v a = some (r1, r2) ∧ LKR a1 now v a l r1 r2 := by
  obtain ⟨r, hf, hr⟩ := find_f a0 a1 v a l hl
  unfold carouselref11_Look.f
  rw [hf]
  rcases hr with ⟨rfl, hno⟩ | ⟨j, hj, rfl, h0, h1⟩
  · exact ⟨-1, false, rfl, .inr ⟨rfl, rfl, .inl hno⟩⟩
  · rw [Option.bind_some, if_neg (by omega), if_pos (by omega), if_pos (by omega), rd_at l j hj]
    by_cases ho : a1 ≤ wrap64 (now - l[j].f3)
    · rw [if_pos ho]
      exact ⟨-1, false, rfl, .inr ⟨rfl, rfl, .inr ⟨_, List.getElem_mem hj, h0, h1, ho⟩⟩⟩
    · rw [if_neg ho]
      exact ⟨_, _, rfl, .inl ⟨_, List.getElem_mem hj, h0, h1, by omega, rfl, rfl⟩⟩
theorem sweep_plain (a0 a1 now : Int) (l : List S79) (hl : l.length ≤ 1000000) : ∀ d k out, k + d = l.length → out.length ≤ k →
    carouselref11_Sweep.l0 (d + 1) now out (k : Int) a0 a1 l = some (a0, a1, out ++ (l.drop k).filter (fun x => decide (wrap64 (now - x.f3) < a1))) := by
  intro d
  induction d with
  | zero =>
    intro k out hk ho
    rw [carouselref11_Sweep.l0, if_neg (by omega), List.drop_of_length_le (by omega)]
    simp
  | succ d ih =>
    intro k out hk ho
    have hlt : k < l.length := by omega
    rw [carouselref11_Sweep.l0, if_pos (by omega), if_pos (by omega), rd_at l k hlt, wr1 k (by omega), List.drop_eq_getElem_cons hlt, List.filter_cons]
    by_cases h0 : wrap64 (now - l[k].f3) < a1
    · rw [if_pos h0, if_pos (by omega), ih (k + 1) _ (by omega) (by rw [List.length_append, List.length_singleton]; omega)]
      simp [h0]
    · rw [if_neg h0, ih (k + 1) _ (by omega) (by omega)]
      simp [h0]
theorem sweep_f (a0 a1 now : Int) (l : List S79) (hl : l.length ≤ 1000000) : carouselref11_Sweep.f (l.length + 1) a0 a1 l now = some (a0, a1, l.filter (fun x => decide (wrap64 (now - x.f3) < a1))) := by
  have := sweep_plain a0 a1 now l hl l.length 0 [] (by omega) (by simp)
  simpa [carouselref11_Sweep.f] using this
theorem flush_plain (a0 a1 port : Int) (l : List S79) (hl : l.length ≤ 1000000) : ∀ d k out, k + d = l.length → out.length ≤ k →
    carouselref11_Flush.l0 (d + 1) port out (k : Int) a0 a1 l = some (a0, a1, out ++ (l.drop k).filter (fun x => decide (0 ≤ port ∧ x.f2 ≠ port))) := by
  intro d
  induction d with
  | zero =>
    intro k out hk ho
    rw [carouselref11_Flush.l0, if_neg (by omega), List.drop_of_length_le (by omega)]
    simp
  | succ d ih =>
    intro k out hk ho
    have hlt : k < l.length := by omega
    rw [carouselref11_Flush.l0, if_pos (by omega), rd_at l k hlt, wr1 k (by omega), List.drop_eq_getElem_cons hlt, List.filter_cons]
    by_cases hp : 0 ≤ port
    · rw [if_pos hp, if_pos (by omega)]
      by_cases h0 : l[k].f2 = port
      · rw [if_pos h0, ih (k + 1) _ (by omega) (by omega)]
        simp [h0]
      · rw [if_neg h0, if_pos (by omega), ih (k + 1) _ (by omega) (by rw [List.length_append, List.length_singleton]; omega)]
        simp [h0, hp]
    · rw [if_neg hp, ih (k + 1) _ (by omega) (by omega)]
      simp [hp]
theorem flush_f (a0 a1 port : Int) (l : List S79) (hl : l.length ≤ 1000000) : carouselref11_Flush.f (l.length + 1) a0 a1 l port = some (a0, a1, l.filter (fun x => decide (0 ≤ port ∧ x.f2 ≠ port))) := by
  have := flush_plain a0 a1 port l hl l.length 0 [] (by omega) (by simp)
  simpa [carouselref11_Flush.f] using this
/-- A list that the document's table holds. -/
def RefAt (w : World) (v : Value) (l : List S79) : Prop := ∃ A c, v = .slice A l.length c ∧ l.length ≤ c ∧ Kd.C k79 w A l.length l
theorem RefAt.below {w w' : World} {v : Value} {l : List S79} (h : RefAt w v l) (hb : Below w.heap.size w w') : RefAt w' v l := by
  obtain ⟨A, c, h1, h2, h3⟩ := h
  exact ⟨A, c, h1, h2, Kd.C_below h3 hb⟩
theorem RefAt.nil (w : World) : RefAt w (.slice none 0 0) [] := ⟨none, 0, rfl, by simp, Kd.C_nil k79 w⟩
theorem rlook_calls (room age now v a : Int) (u : Value) (l : List S79) (hl : l.length ≤ 1000000) (w : World) (hr : RefAt w u l) :
    Calls Try.prog 11 #[.agg #[.int .i64 room, .int .i64 age, u], .int .i64 now, .int .u16 v, .int .u64 a] w fun e w' => ∃ r1 r2, e = .returned (.tuple #[.int .i64 r1, .bool r2]) ∧ LKR age now v a l r1 r2 ∧ Below w.heap.size w w' := by
  obtain ⟨A, c, rfl, h2, h3⟩ := hr
  obtain ⟨r1, r2, hf, hk⟩ := look_f room age now v a l hl
  refine (carouselref11_Look.calls _ room age A c l now v a r1 r2 w h3 h2 hf).mono ?_
  rintro e w' ⟨he, hb⟩
  exact ⟨r1, r2, he, hk, hb⟩
theorem rsweep_calls (room age now : Int) (u : Value) (l : List S79) (hl : l.length ≤ 1000000) (w : World) (hr : RefAt w u l) :
    Calls Try.prog 13 #[.agg #[.int .i64 room, .int .i64 age, u], .int .i64 now] w fun e w' => ∃ u', e = .returned (.agg #[.int .i64 room, .int .i64 age, u']) ∧ RefAt w' u' (l.filter (fun x => decide (wrap64 (now - x.f3) < age))) ∧ Below w.heap.size w w' := by
  obtain ⟨A, c, rfl, h2, h3⟩ := hr
  refine (carouselref11_Sweep.calls _ room age A c l now _ _ _ w h3 h2 (sweep_f room age now l hl)).mono ?_
  rintro e w' ⟨v2, he, hR, hb⟩
  exact ⟨v2, he, Kd.R_reads hR, hb⟩
theorem rflush_calls (room age port : Int) (u : Value) (l : List S79) (hl : l.length ≤ 1000000) (w : World) (hr : RefAt w u l) :
    Calls Try.prog 15 #[.agg #[.int .i64 room, .int .i64 age, u], .int .i64 port] w fun e w' => ∃ u', e = .returned (.agg #[.int .i64 room, .int .i64 age, u']) ∧ RefAt w' u' (l.filter (fun x => decide (0 ≤ port ∧ x.f2 ≠ port))) ∧ Below w.heap.size w w' := by
  obtain ⟨A, c, rfl, h2, h3⟩ := hr
  refine (carouselref11_Flush.calls _ room age A c l port _ _ _ w h3 h2 (flush_f room age port l hl)).mono ?_
  rintro e w' ⟨v2, he, hR, hb⟩
  exact ⟨v2, he, Kd.R_reads hR, hb⟩
end Go.Proofs.Ytmlenepeocginaa.Gv
