/- Tables of addresses: the document's Learn, plain (the printed contract mended by fixlearn.py). -/
import Derived.Test.YtmlenepeocginaaGvFdPlain
import Derived.Test.YtmlenepeocginaaPFdbPlaysx3
namespace Go.Proofs.Ytmlenepeocginaa.Gv
open Go.RowKit Go.Maps Go.WideElems Go.Lib Go.Proofs.YtmlenepeocginaaW.PrintWords Go.Proofs.YtmlenepeocginaaW.PrintLast Go.Proofs.YtmlenepeocginaaW.PrintMore Go.Proofs.Ytmlenepeocginaa.PFdbPlays
set_option linter.unusedVariables false
set_option linter.unusedSimpArgs false
/-- Does a row stand ahead of another one? -/
def befI (a b c d : Int) : Bool := decide (a < c ∨ (a = c ∧ b < d))
def befS (x y : S79) : Bool := befI x.f0 x.f1 y.f0 y.f1
theorem before_f (a0 a1 a2 a3 b0 b1 b2 b3 : Int) : carouselref11_before.f a0 a1 a2 a3 b0 b1 b2 b3 = some (befI a0 a1 b0 b1) := by
  unfold carouselref11_before.f befI
  by_cases h0 : a0 < b0
  · rw [if_pos h0]; simp [h0]
  · rw [if_neg h0]
    by_cases h1 : a0 = b0
    · rw [if_pos h1]; simp [h0, h1]
    · rw [if_neg h1]; simp [h0, h1]
theorem find_more (a0 a1 v a : Int) (l : List S79) (hl : l.length ≤ 1000000) (e : Nat) : ∃ r, carouselref11_find.f (l.length + 1 + e) a0 a1 l v a = some r ∧ ((r = -1 ∧ ∀ x ∈ l, ¬ (x.f0 = v ∧ x.f1 = a)) ∨ (0 ≤ r ∧ ∃ x ∈ l, x.f0 = v ∧ x.f1 = a)) := by
  have key : ∃ r, carouselref11_find.f (l.length + 1 + e) a0 a1 l v a = some r ∧ ((r = -1 ∧ ∀ x ∈ l, ¬ (x.f0 = v ∧ x.f1 = a)) ∨ ∃ j, ∃ h : j < l.length, r = (j : Int) ∧ l[j].f0 = v ∧ l[j].f1 = a) := by
    induction e with
    | zero => exact find_f a0 a1 v a l hl
    | succ e ih =>
      obtain ⟨r, h1, h2⟩ := ih
      refine ⟨r, ?_, h2⟩
      have := carouselref11_find.mono a0 a1 l v a (l.length + 1 + e)
      exact this r h1
  obtain ⟨r, h1, h2⟩ := key
  refine ⟨r, h1, ?_⟩
  rcases h2 with h | ⟨j, hj, rfl, h0, h1⟩
  · exact .inl h
  · exact .inr ⟨by omega, _, List.getElem_mem hj, h0, h1⟩
/-- Where a row comes to stand. -/
def insS (l : List S79) (x : S79) : List S79 := l.takeWhile (fun y => befS y x) ++ x :: l.filter (fun y => befS x y)
theorem l1_plain (room age v a port now : Int) (l : List S79) (hl : l.length ≤ 1000000) : ∀ d k F out, k + d = l.length → d < F → out.length ≤ l.length + 1 + k →
    carouselref11_Learn.l1 F out (k : Int) room age l v a port now = some (room, age, out ++ (l.drop k).filter (fun y => befS ⟨v, a, port, now⟩ y), 0) := by
  intro d
  induction d with
  | zero =>
    intro k F out hk hF ho
    obtain ⟨F, rfl⟩ := Nat.exists_eq_succ_of_ne_zero (show F ≠ 0 by omega)
    rw [carouselref11_Learn.l1, if_neg (by omega), List.drop_of_length_le (by omega)]
    simp
  | succ d ih =>
    intro k F out hk hF ho
    obtain ⟨F, rfl⟩ := Nat.exists_eq_succ_of_ne_zero (show F ≠ 0 by omega)
    have hlt : k < l.length := by omega
    rw [carouselref11_Learn.l1, if_pos (by omega), if_pos (by omega), rd_at l k hlt, wr1 k (by omega), before_f, Option.bind_some, List.drop_eq_getElem_cons hlt, List.filter_cons]
    by_cases h0 : befI v a l[k].f0 l[k].f1 = true
    · rw [if_pos h0, if_pos (by omega), ih (k + 1) F _ (by omega) (by omega) (by rw [List.length_append, List.length_singleton]; omega)]
      have h0' : befS ⟨v, a, port, now⟩ l[k] = true := h0
      simp [h0']
    · rw [if_neg h0, ih (k + 1) F _ (by omega) (by omega) (by omega)]
      have h0' : befS ⟨v, a, port, now⟩ l[k] = false := by simpa [befS] using h0
      simp [h0']
theorem j5_plain (room age v a port now : Int) (l : List S79) (hl : l.length ≤ 1000000) (F : Nat) (out : List S79) (hF : l.length + 1 < F) (ho : out.length ≤ l.length) :
    carouselref11_Learn.j5 F out room age l v a port now = some (room, age, out ++ ⟨v, a, port, now⟩ :: l.filter (fun y => befS ⟨v, a, port, now⟩ y), 0) := by
  obtain ⟨F, rfl⟩ := Nat.exists_eq_succ_of_ne_zero (show F ≠ 0 by omega)
  rw [carouselref11_Learn.j5, if_pos (by omega)]
  have := l1_plain room age v a port now l hl l.length 0 F (out ++ [⟨v, a, port, now⟩]) (by omega) (by omega) (by rw [List.length_append, List.length_singleton]; omega)
  simpa using this
theorem l0_plain (room age v a port now : Int) (l : List S79) (hl : l.length ≤ 1000000) : ∀ d k F out, k + d = l.length → d + l.length + 3 < F → out.length ≤ k →
    carouselref11_Learn.l0 F out (k : Int) room age l v a port now = some (room, age, (out ++ (l.drop k).takeWhile (fun y => befS y ⟨v, a, port, now⟩)) ++ ⟨v, a, port, now⟩ :: l.filter (fun y => befS ⟨v, a, port, now⟩ y), 0) := by
  intro d
  induction d with
  | zero =>
    intro k F out hk hF ho
    obtain ⟨F, rfl⟩ := Nat.exists_eq_succ_of_ne_zero (show F ≠ 0 by omega)
    rw [carouselref11_Learn.l0, if_neg (by omega), List.drop_of_length_le (by omega), List.takeWhile_nil, List.append_nil]
    exact j5_plain room age v a port now l hl F out (by omega) (by omega)
  | succ d ih =>
    intro k F out hk hF ho
    obtain ⟨F, rfl⟩ := Nat.exists_eq_succ_of_ne_zero (show F ≠ 0 by omega)
    have hlt : k < l.length := by omega
    rw [carouselref11_Learn.l0, if_pos (by omega), if_pos (by omega), rd_at l k hlt, wr1 k (by omega), before_f, Option.bind_some, List.drop_eq_getElem_cons hlt]
    by_cases h0 : befI l[k].f0 l[k].f1 v a = true
    · have h0' : befS l[k] ⟨v, a, port, now⟩ = true := h0
      rw [if_pos h0, if_pos (by omega), ih (k + 1) F _ (by omega) (by omega) (by rw [List.length_append, List.length_singleton]; omega), List.takeWhile_cons_of_pos (p := fun y => befS y ⟨v, a, port, now⟩) h0']
      simp
    · have h0' : ¬ befS l[k] ⟨v, a, port, now⟩ = true := h0
      rw [if_neg h0, List.takeWhile_cons_of_neg (p := fun y => befS y ⟨v, a, port, now⟩) h0', List.append_nil]
      exact j5_plain room age v a port now l hl F out (by omega) (by omega)
/-- What the document's Learn answers, and what rows there are then. -/
def grpR (a : Int) : Bool := (IntKind.u64.wrap (a.tdiv 1099511627776)).tmod 2 == 1
def LNR (room now k0 k1 port : Int) (l : List S79) (code : Int) (l' : List S79) : Prop :=
  (code = 4 ∧ l' = l ∧ (k0 = 0 ∨ 4094 < k0)) ∨
  (code = 3 ∧ l' = l ∧ k0 ≠ 0 ∧ k0 ≤ 4094 ∧ (281474976710656 ≤ k1 ∨ grpR k1 = true)) ∨
  (code = 11 ∧ l' = l ∧ k0 ≠ 0 ∧ k0 ≤ 4094 ∧ k1 < 281474976710656 ∧ grpR k1 = false ∧ (port < 0 ∨ 2 < port)) ∨
  (code = 9 ∧ l' = l ∧ k0 ≠ 0 ∧ k0 ≤ 4094 ∧ k1 < 281474976710656 ∧ grpR k1 = false ∧ 0 ≤ port ∧ port ≤ 2 ∧ (∀ x ∈ l, ¬ (x.f0 = k0 ∧ x.f1 = k1)) ∧ room ≤ l.length) ∨
  (code = 0 ∧ l' = insS l ⟨k0, k1, port, now⟩ ∧ k0 ≠ 0 ∧ k0 ≤ 4094 ∧ k1 < 281474976710656 ∧ grpR k1 = false ∧ 0 ≤ port ∧ port ≤ 2 ∧ ((∃ x ∈ l, x.f0 = k0 ∧ x.f1 = k1) ∨ (l.length : Int) < room))
theorem j3_plain (room age v a port now : Int) (l : List S79) (hl : l.length ≤ 1000000) (F : Nat) (hF : l.length + l.length + 4 < F) (b : Bool) :
    carouselref11_Learn.j3 F now v a port b room age l = some (room, age, if b = true then l else insS l ⟨v, a, port, now⟩, if b = true then 9 else 0) := by
  obtain ⟨F, rfl⟩ := Nat.exists_eq_succ_of_ne_zero (show F ≠ 0 by omega)
  rw [carouselref11_Learn.j3]
  cases b with
  | true => simp
  | false =>
    have := l0_plain room age v a port now l hl l.length 0 F [] (by omega) (by omega) (by simp)
    simpa [insS] using this
theorem learn_f (room age now v a port : Int) (l : List S79) (hl : l.length ≤ 1000000) : ∃ l' code, carouselref11_Learn.f (l.length + 1 + (l.length + 20) + 3) room age l now v a port = some (room, age, l', code) ∧ LNR room now v a port l code l' := by
  have hj0 : ∀ b, b = decide (v = 0 ∨ 4094 < v) → ∃ l' code, carouselref11_Learn.j0 (l.length + 1 + (l.length + 20) + 3) now v a port b room age l = some (room, age, l', code) ∧ LNR room now v a port l code l' := by
    intro b hb
    rw [carouselref11_Learn.j0]
    by_cases hv : v = 0 ∨ 4094 < v
    · rw [hb, if_pos (by simpa using hv)]
      exact ⟨l, 4, rfl, .inl ⟨rfl, rfl, hv⟩⟩
    · rw [hb, if_neg (by simpa using hv)]
      have hj1 : ∀ g, g = (decide (281474976710656 ≤ a) || grpR a) → ∃ l' code, carouselref11_Learn.j1 (l.length + 1 + (l.length + 20) + 2) now v a port g room age l = some (room, age, l', code) ∧ LNR room now v a port l code l' := by
        intro g hg
        rw [carouselref11_Learn.j1]
        by_cases hg2 : 281474976710656 ≤ a ∨ grpR a = true
        · rw [hg, if_pos (by simpa using hg2)]
          exact ⟨l, 3, rfl, .inr (.inl ⟨rfl, rfl, by omega, by omega, hg2⟩)⟩
        · have hg3 : a < 281474976710656 := by omega
          have hg4 : grpR a = false := by
            cases hh : grpR a with
            | false => rfl
            | true => exact absurd (.inr hh) hg2
          rw [hg, if_neg (by simp [hg3, hg4])]
          have hj2 : ∀ p, p = decide (port < 0 ∨ 2 < port) → ∃ l' code, carouselref11_Learn.j2 (l.length + 1 + (l.length + 20) + 1) now v a port p room age l = some (room, age, l', code) ∧ LNR room now v a port l code l' := by
            intro p hp
            rw [carouselref11_Learn.j2]
            by_cases hp2 : port < 0 ∨ 2 < port
            · rw [hp, if_pos (by simpa using hp2)]
              exact ⟨l, 11, rfl, .inr (.inr (.inl ⟨rfl, rfl, by omega, by omega, hg3, hg4, hp2⟩))⟩
            · rw [hp, if_neg (by simpa using hp2)]
              obtain ⟨r, hr, hk⟩ := find_more room age v a l hl (l.length + 20)
              rw [hr, Option.bind_some]
              rcases hk with ⟨rfl, hno⟩ | ⟨h0, hyes⟩
              · rw [if_pos (by omega), j3_plain room age v a port now l hl _ (by omega)]
                by_cases hfull : (l.length : Int) ≥ room
                · rw [if_pos (by simpa using hfull), if_pos (by simpa using hfull)]
                  exact ⟨l, 9, rfl, .inr (.inr (.inr (.inl ⟨rfl, rfl, by omega, by omega, hg3, hg4, by omega, by omega, hno, hfull⟩)))⟩
                · rw [if_neg (by simpa using hfull), if_neg (by simpa using hfull)]
                  exact ⟨_, 0, rfl, .inr (.inr (.inr (.inr ⟨rfl, rfl, by omega, by omega, hg3, hg4, by omega, by omega, .inr (by omega)⟩)))⟩
              · rw [if_neg (by omega), j3_plain room age v a port now l hl _ (by omega)]
                exact ⟨_, 0, rfl, .inr (.inr (.inr (.inr ⟨rfl, rfl, by omega, by omega, hg3, hg4, by omega, by omega, .inl hyes⟩)))⟩
          by_cases hp : port < 0
          · rw [if_pos hp]
            exact hj2 true (by simp [hp])
          · rw [if_neg hp]
            exact hj2 _ (by simp [hp])
      unfold carouselref02_Group.f carouselref02_May.f
      simp only [Option.bind_some]
      by_cases hm : a < 281474976710656
      · rw [if_pos (by simpa using hm), if_pos (by simpa using hm), Option.bind_some]
        refine hj1 _ ?_
        have : ¬ (281474976710656 ≤ a) := by omega
        simp [this, grpR]
      · rw [if_neg (by simpa using hm)]
        refine hj1 true ?_
        have : 281474976710656 ≤ a := by omega
        simp [this]
  unfold carouselref11_Learn.f
  by_cases hv : v = 0
  · rw [if_pos hv]
    exact hj0 true (by simp [hv])
  · rw [if_neg hv]
    exact hj0 _ (by simp [hv])
theorem rlearn_calls (room age now k0 k1 port : Int) (u : Value) (l : List S79) (hl : l.length ≤ 1000000) (w0 w : World) (hB : Below w0.heap.size w0 w) (P0 : Nat → Prop) (hr : Kd.R k79 79 w w0.heap.size P0 u l) :
    Calls Try.prog 9 #[.agg #[.int .i64 room, .int .i64 age, u], .int .i64 now, .int .u16 k0, .int .u64 k1, .int .i64 port] w fun e w' => ∃ (u' : Value) (l' : List S79) (code : Int), e = .returned (.tuple #[.agg #[.int .i64 room, .int .i64 age, u'], .int .i64 code]) ∧ LNR room now k0 k1 port l code l' ∧ Kd.R k79 79 w' w0.heap.size (fun _ => True) u' l' ∧ Below w.heap.size w w' := by
  obtain ⟨l', code, hf, hk⟩ := learn_f room age now k0 k1 port l hl
  refine (carouselref11_Learn.calls _ room age (fun k => some k = u.ownBlock) u l now k0 k1 port _ _ _ _ w0 w hB (Kd.R_tight rfl hr) (fun _ h => h) hf).mono ?_
  rintro e w' ⟨v2, he, hR, hb, hkk⟩
  exact ⟨v2, l', code, he, hk, Kd.R_mono hR (fun _ _ => trivial), ⟨hb.os.trans hB.os.symm, hb.tape.trans hB.tape.symm, hb.output.trans hB.output.symm, hkk.1, fun i hi => hkk.2 i hi (fun h => h)⟩⟩
end Go.Proofs.Ytmlenepeocginaa.Gv
