/- Tables of addresses: the map's keys and rows. -/
import Derived.Test.YtmlenepeocginaaGvFdCmp
import Derived.DeepKeys4
import Derived.Maps.RangeWalk
import Derived.Maps.OwnIn
namespace Go.Proofs.Ytmlenepeocginaa.Gv
open Go.RowKit Go.Maps Go.WideElems Go.Proofs.YtmlenepeocginaaW.PrintWords Go.Proofs.YtmlenepeocginaaW.PrintLast Go.Proofs.YtmlenepeocginaaW.PrintMore
set_option linter.unusedVariables false
set_option linter.unusedSimpArgs false
/-- A row: its VLAN, its address, its port, when it was seen. -/
abbrev Rw := Int × Int × Int × Int
def rowV (r : Rw) : Value := .agg #[.int .u16 r.1, .int .u64 r.2.1, .int .i64 r.2.2.1, .int .i64 r.2.2.2]
def keyV (k : Int × Int) : Value := .agg #[.int .u16 k.1, .int .u64 k.2]
/-- How an element reads. -/
def RR (v : Value) : Option (DataW Rw × List MemPlace) :=
  match v with
  | .agg cs => match cs.toList with
    | [.int .u16 a, .int .u64 b, .int .i64 c, .int .i64 d] => some (.held (a, b, c, d), [])
    | _ => none
  | _ => none
theorem RR_mk (r : Rw) : RR (rowV r) = some (.held r, []) := rfl
theorem RR_inv {v : Value} {y : DataW Rw × List MemPlace} (h : RR v = some y) : ∃ r, v = rowV r ∧ y = (.held r, []) := by
  unfold RR at h
  split at h
  · rename_i cs
    split at h
    · rename_i a b c d e
      refine ⟨(a, b, c, d), ?_, (Option.some.inj h).symm⟩
      rw [rowV]
      congr 1
      exact Array.toList_inj.1 e
    · cases h
  · cases h
theorem fd_laid : laidOutB Try.prog = true := by kernel_rfl
theorem fd_law : WideMaps.KeyLaw Try.prog 69 := deep_law_laid fd_laid (m := 2) (by omega) (of_decide_eq_true (by kernel_rfl)) (by kernel_rfl) (by rw [Try.underlying69])
theorem fd_keyed : Keyed Try.prog 69 := Keyed.of_law fd_law
/-- A key's literal. -/
def kl (k : Int × Int) : Lit := .string (keyBytes [.int .u16 k.1, .int .u64 k.2])
theorem fd_keyOf (k : Int × Int) (h1 : (Lit.int .u16 k.1).wf = true) (h2 : (Lit.int .u64 k.2).wf = true) : keyOf Try.prog 69 (keyV k) = some (kl k) := by
  have hk : Try.prog.keyType 69 = true := by kernel_rfl
  have hc : Try.prog.cellsOf 69 = 2 := by kernel_rfl
  have c1 : Try.prog.cellsOf 35 = 1 := by kernel_rfl
  have c2 : Try.prog.cellsOf 40 = 1 := by kernel_rfl
  have hsz : Try.prog.types.size ≠ 0 := of_decide_eq_true (by kernel_rfl)
  obtain ⟨m, hm⟩ := Nat.exists_eq_succ_of_ne_zero hsz
  have e1 : Try.prog.keyLits (m + 1) 35 [.int .u16 k.1] = some [.int .u16 k.1] := by
    unfold Program.keyLits
    rw [Try.underlying35]
    simp [h1]
  have e2 : Try.prog.keyLits (m + 1) 40 [.int .u64 k.2] = some [.int .u64 k.2] := by
    unfold Program.keyLits
    rw [Try.underlying40]
    simp [h2]
  have hf : Value.formed Try.prog 69 (keyV k) = true := by simp [keyV, Value.formed, Try.underlying69, hc]
  have e3 : Try.prog.keyLits (m + 1 + 1) 69 (keyV k).cells.toList = some [.int .u16 k.1, .int .u64 k.2] := by
    unfold Program.keyLits
    rw [Try.underlying69]
    simp [keyV, Value.cells, hc, c1, c2, e1, e2]
  unfold keyOf
  rw [Try.underlying69]
  simp only [hk, hf, Bool.and_self, if_true, hm]
  rw [show m.succ + 1 = m + 1 + 1 from rfl, e3]
  rfl
theorem kl_inj {k k' : Int × Int} (h1 : (Lit.int .u16 k.1).wf = true) (h2 : (Lit.int .u64 k.2).wf = true) (h3 : (Lit.int .u16 k'.1).wf = true) (h4 : (Lit.int .u64 k'.2).wf = true) (h : kl k = kl k') : k = k' := by
  have e := fd_keyed.inj (fd_keyOf k h1 h2) (by rw [h]; exact fd_keyOf k' h3 h4)
  simp [keyV] at e
  exact Prod.ext e.1 e.2
theorem kl_same (k k' : Int × Int) : (kl k).sameKey (kl k') = true ↔ kl k = kl k' := by simp [kl, Lit.sameKey]
/-- What may lie in a table. -/
def RwIn (r : Rw) : Prop := (Lit.int .u16 r.1).wf = true ∧ (Lit.int .u64 r.2.1).wf = true
def rk (r : Rw) : Int × Int := (r.1, r.2.1)
def ent (r : Rw) : Lit × DataW Rw := (kl (rk r), .held r)
/-- The datum of a table of rows (in whatever order). -/
def TD (L : List Rw) (D : DataW Rw) : Prop := (∀ r ∈ L, RwIn r) ∧ L.Pairwise (fun r q => rk r ≠ rk q) ∧ ∃ E, D = .map E ∧ E.Perm (L.map ent)
theorem TD_nil : TD [] (.map []) := ⟨by simp, List.Pairwise.nil, [], rfl, List.Perm.refl _⟩
theorem TD_perm {L L' : List Rw} {D : DataW Rw} (h : TD L D) (p : L.Perm L') : TD L' D := by
  obtain ⟨h1, h2, E, h3, h4⟩ := h
  exact ⟨fun r hr => h1 r (p.mem_iff.2 hr), p.pairwise h2 (fun {_ _} h => Ne.symm h), E, h3, h4.trans (p.map _)⟩
theorem TD_size {L : List Rw} {D : DataW Rw} (h : TD L D) : Maps.size D = L.length := by
  obtain ⟨_, _, E, rfl, h4⟩ := h
  rw [Maps.size_eq, h4.length_eq, List.length_map]
theorem TD_has {L : List Rw} {D : DataW Rw} (h : TD L D) (k : Int × Int) (h1 : (Lit.int .u16 k.1).wf = true) (h2 : (Lit.int .u64 k.2).wf = true) : Maps.has D (kl k) = true ↔ ∃ r ∈ L, rk r = k := by
  obtain ⟨hi, _, E, rfl, h4⟩ := h
  rw [Maps.has_eq, List.any_eq_true]
  constructor
  · rintro ⟨p, hp, hs⟩
    obtain ⟨r, hr, rfl⟩ := List.mem_map.1 (h4.mem_iff.1 hp)
    exact ⟨r, hr, kl_inj (hi r hr).1 (hi r hr).2 h1 h2 ((kl_same _ _).1 hs)⟩
  · rintro ⟨r, hr, rfl⟩
    exact ⟨ent r, h4.mem_iff.2 (List.mem_map.2 ⟨r, hr, rfl⟩), (kl_same _ _).2 rfl⟩
theorem at_find (E : List (Lit × DataW Rw)) (l : Lit) (zd : DataW Rw) : (DataW.map E).atKey l zd = ((E.find? (fun p => p.1.sameKey l)).map (·.2)).getD zd := by
  simp only [DataW.atKey]
  cases h : E.find? (fun p => p.1.sameKey l) <;> rfl
theorem pw_inj {L : List Rw} (hp : L.Pairwise (fun r q => rk r ≠ rk q)) : ∀ {q r : Rw}, q ∈ L → r ∈ L → rk q = rk r → q = r := by
  induction hp with
  | nil => intro q r h; simp at h
  | cons h1 _ ih =>
    intro q r hq hr e
    rcases List.mem_cons.1 hq with e1 | hq2
    · rcases List.mem_cons.1 hr with e2 | hr2
      · rw [e1, e2]
      · rw [e1] at e; exact absurd e (h1 _ hr2)
    · rcases List.mem_cons.1 hr with e2 | hr2
      · rw [e2] at e; exact absurd e.symm (h1 _ hq2)
      · exact ih hq2 hr2 e
/-- What is found at a key. -/
theorem TD_at {L : List Rw} {D : DataW Rw} (h : TD L D) (r : Rw) (hr : r ∈ L) (zd : DataW Rw) : D.atKey (kl (rk r)) zd = .held r := by
  obtain ⟨hi, hp, E, rfl, h4⟩ := h
  have hmem : ent r ∈ E := h4.mem_iff.2 (List.mem_map.2 ⟨r, hr, rfl⟩)
  rw [at_find]
  cases hf : E.find? (fun p => p.1.sameKey (kl (rk r))) with
  | none => exact absurd ((kl_same _ _).2 rfl) (by have := List.find?_eq_none.1 hf _ hmem; exact this)
  | some p =>
    have hs := List.find?_some hf
    obtain ⟨q, hq, rfl⟩ := List.mem_map.1 (h4.mem_iff.1 (List.mem_of_find?_eq_some hf))
    have hk := kl_inj (hi q hq).1 (hi q hq).2 (hi r hr).1 (hi r hr).2 ((kl_same _ _).1 hs)
    have hqr : q = r := pw_inj hp hq hr hk
    rw [hqr]
    rfl
theorem TD_none {L : List Rw} {D : DataW Rw} (h : TD L D) (k : Int × Int) (h1 : (Lit.int .u16 k.1).wf = true) (h2 : (Lit.int .u64 k.2).wf = true) (hn : ∀ r ∈ L, rk r ≠ k) (zd : DataW Rw) : D.atKey (kl k) zd = zd := by
  obtain ⟨hi, hp, E, rfl, h4⟩ := h
  rw [at_find, List.find?_eq_none.2 fun p hp' hs => by
    obtain ⟨q, hq, rfl⟩ := List.mem_map.1 (h4.mem_iff.1 hp')
    exact hn q hq (kl_inj (hi q hq).1 (hi q hq).2 h1 h2 ((kl_same _ _).1 hs))]
  rfl
theorem TD_filter {L : List Rw} {E : List (Lit × DataW Rw)} (hi : ∀ r ∈ L, RwIn r) (h4 : E.Perm (L.map ent)) (k : Int × Int) (h1 : (Lit.int .u16 k.1).wf = true) (h2 : (Lit.int .u64 k.2).wf = true) :
    (E.filter fun p => !p.1.sameKey (kl k)).Perm ((L.filter fun r => decide (rk r ≠ k)).map ent) := by
  refine (h4.filter _).trans ?_
  rw [List.filter_map]
  refine List.Perm.of_eq (congrArg _ (List.filter_congr fun r hr => ?_))
  show (!(kl (rk r)).sameKey (kl k)) = decide (rk r ≠ k)
  by_cases e : rk r = k
  · rw [decide_eq_false (by simp [e]), show (kl (rk r)).sameKey (kl k) = true from (kl_same _ _).2 (by rw [e])]; rfl
  · have : (kl (rk r)).sameKey (kl k) = false := by
      rw [Bool.eq_false_iff]
      exact fun hs => e (kl_inj (hi r hr).1 (hi r hr).2 h1 h2 ((kl_same _ _).1 hs))
    rw [decide_eq_true e, this]; rfl
theorem TD_del {L : List Rw} {D : DataW Rw} (h : TD L D) (k : Int × Int) (h1 : (Lit.int .u16 k.1).wf = true) (h2 : (Lit.int .u64 k.2).wf = true) : TD (L.filter fun r => decide (rk r ≠ k)) (D.del (kl k)) := by
  obtain ⟨hi, hp, E, rfl, h4⟩ := h
  exact ⟨fun r hr => hi r (List.mem_filter.1 hr).1, hp.filter _, _, rfl, TD_filter hi h4 k h1 h2⟩
theorem insert_perm (x : Lit × DataW Rw) : ∀ l : List (Lit × DataW Rw), (DataW.insert x l).Perm (x :: l)
  | [] => List.Perm.refl _
  | y :: l => by
    unfold DataW.insert
    split
    · exact List.Perm.refl _
    · exact ((insert_perm x l).cons y).trans (List.Perm.swap x y l)
theorem TD_put {L : List Rw} {D : DataW Rw} (h : TD L D) (r : Rw) (hr : RwIn r) : TD (r :: L.filter fun q => decide (rk q ≠ rk r)) (D.put (kl (rk r)) (.held r)) := by
  obtain ⟨hi, hp, E, rfl, h4⟩ := h
  refine ⟨?_, ?_, _, rfl, ?_⟩
  · intro q hq
    rcases List.mem_cons.1 hq with rfl | h2
    · exact hr
    · exact hi q (List.mem_filter.1 h2).1
  · refine List.Pairwise.cons (fun q hq => ?_) (hp.filter _)
    exact Ne.symm (of_decide_eq_true (List.mem_filter.1 hq).2)
  · exact (insert_perm _ _).trans ((TD_filter hi h4 (rk r) hr.1 hr.2).cons _)
end Go.Proofs.Ytmlenepeocginaa.Gv
