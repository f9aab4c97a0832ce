/- The law FieldPacks holds: the bytes of any parts, or what is wrong with them, are the document's: for every input. -/
import Derived.Test.YtmdaaphjndjakaaLFieldFieldPacks
import Derived.Test.YtmdaaphjndjakaaPFieldPacksx3
namespace Go.Proofs.Ytmdaaphjndjakaa.Pure
open Go.RowKit Go.Proofs.Ytmdaaphjndjakaa.PFieldPacks Go.Proofs.YtmdaaphjndjakaaW.PrintWords Go.Proofs.YtmdaaphjndjakaaW.PrintLast Go.Proofs.YtmdaaphjndjakaaW.PrintMore Go.Proofs.Ytmdaaphjndjakaa Go.Proofs.Ytmdaaphjndjakaa.LFieldPacks
set_option linter.unusedVariables false

theorem fp_i64 {a : Int} (h : (Lit.int .i64 a).wf = true) : -9223372036854775808 ≤ a ∧ a ≤ 9223372036854775807 := by
  have h' : IntKind.i64.min ≤ a ∧ a ≤ IntKind.i64.max := by simpa [Lit.wf] using h
  exact h'
theorem fp_u64 {a : Int} (h : (Lit.int .u64 a).wf = true) : 0 ≤ a ∧ a ≤ 18446744073709551615 := by
  have h' : IntKind.u64.min ≤ a ∧ a ≤ IntKind.u64.max := by simpa [Lit.wf] using h
  exact h'
theorem fp_awake : carousellaw01_Awake.f = some true := by decide +kernel

def conv (x : S34) : S35 := ⟨x.f0, x.f1⟩

theorem fp_loop (l : List S34) (hl : l.length ≤ 60) (hw : Wf (l.map conv)) (d : Nat) : ∀ i : Nat, l.length - i = d → i ≤ l.length →
    Ev (fun k => carousellaw01_FieldPacks.l0 k l ((l.map conv).take i) l (l.length : Int) (i : Int)) true := by
  have hp : field_Pack.f l = some (packR (pairs (l.map conv))) := by
    unfold field_Pack.f
    have e : (l.map fun x => (x.f0, x.f1)) = pairs (l.map conv) := by simp [pairs, conv]
    rw [e]
    refine pack_eq _ ?_ (by simp [pairs]; omega)
    simp only [Gv.isU64, List.all_eq_true]
    intro p hp
    simp only [pairs, List.mem_map] at hp
    obtain ⟨x, ⟨y, hy, rfl⟩, rfl⟩ := hp
    have := hw (conv y) (List.mem_map.2 ⟨y, hy, rfl⟩)
    simp only [Gv.u64max, Bool.and_eq_true, decide_eq_true_eq]
    exact ⟨this.2.2.1, decide_eq_true this.2.2.2⟩
  induction d with
  | zero =>
    intro i hi hi2
    have hil : i = l.length := by omega
    rw [List.take_of_length_le (by simp; omega)]
    have hr := ev_refpack (l.map conv) hw (by simp; omega)
    refine Ev.step (fun k => ?_) (Ev.bind hr (Ev.congr (fun k => ?_) (Ev.now true)) (f := fun k bt => (carousellaw01_Awake.f).bind fun t => (if t = true then (if (packR (pairs (l.map conv))).1.toList = bt.1.toList then (some ((packR (pairs (l.map conv))).2 == bt.2)) else (some false)) else (some false))))
    · simp only [carousellaw01_FieldPacks.l0]
      rw [if_neg (by omega), hp]
      simp only [Option.bind_some]
    · rw [fp_awake]
      simp
  | succ d ih =>
    intro i hi hi2
    have h := ih (i + 1) (by omega) (by omega)
    have hil : i < l.length := by omega
    have hrd : rd_T34 l (i : Int) = l[i] := by unfold rd_T34; simp [List.getD_eq_getElem?_getD, hil]
    have htake : (l.map conv).take (i + 1) = (l.map conv).take i ++ [conv l[i]] := by
      rw [List.take_succ_eq_append_getElem (by simpa using hil)]; simp
    rw [htake] at h
    refine Ev.step (fun k => ?_) h
    simp only [carousellaw01_FieldPacks.l0]
    rw [if_pos (by omega), if_pos (by omega), if_pos (by omega), if_pos (by rw [List.length_take]; omega), hrd, wrap_id (by omega) (by omega)]
    rfl

theorem FieldPacks : carousellaw01_FieldPacks.Pure := by
  intro l h1 h2 h3
  by_cases hl : (l.length : Int) > 60
  · refine ⟨0, ?_⟩
    unfold carousellaw01_FieldPacks.f
    rw [if_pos hl, fp_awake]; rfl
  · have hw : Wf (l.map conv) := by
      intro x hx
      simp only [List.mem_map] at hx
      obtain ⟨y, hy, rfl⟩ := hx
      have := h3 y hy
      have a := fp_i64 this.1
      have b := fp_u64 this.2
      exact ⟨a.1, a.2, b.1, b.2⟩
    have h := fp_loop l (by omega) hw _ 0 rfl (by omega)
    obtain ⟨k, hk⟩ := h.rounds
    refine ⟨k, ?_⟩
    unfold carousellaw01_FieldPacks.f
    rw [if_neg hl]
    simpa using hk

end Go.Proofs.Ytmdaaphjndjakaa.Pure
