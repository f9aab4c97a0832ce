-- Written by a program of this work, after the translation.
import Derived.Test.YtbciaapkahfcaaaPFlushHearsx0
import Derived.ChangeKeysEq
namespace Go.Proofs.Ytbciaapkahfcaaa.PFlushHears
open Go.RowKit Go.Proofs.YtbciaapkahfcaaaW.PrintWords Go.Proofs.YtbciaapkahfcaaaW.PrintLast Go.Proofs.YtbciaapkahfcaaaW.PrintMore
attribute [local go_sem] max2_int min2_int max_two min_two max_three min_three max_four min_four   -- for this text's walks alone
set_option linter.unusedVariables false
set_option linter.unusedSimpArgs false

theorem eqA31 (d : Nat) (w : World) (x0 y0 : Bool) (x1 y1 : Bool) (x2 y2 : Int) :
    (Op.equalIn (d + 2) 31 (.agg #[.bool x0, .bool x1, .int .u64 x2]) (.agg #[.bool y0, .bool y1, .int .u64 y2])).run Try.prog w = .ok (x0 == y0 && (x1 == y1 && (x2 == y2))) w := by
  refine eqA_of Try.underlying31 (by kernel_rfl) ?_
  refine eqf_cons (by rfl) (by go_simp; rfl) (by go_simp; rfl) (by go_simp) ?_
  refine eqf_cons (by rfl) (by go_simp; rfl) (by go_simp; rfl) (by go_simp) ?_
  exact eqf_last (by rfl) (by go_simp; rfl) (by go_simp; rfl) (by go_simp)
theorem eqA32 (d : Nat) (w : World) (x0 y0 : Bool) (x1 y1 : Bool) (x2 y2 : Int) (x3 y3 : Bool) (x4 y4 : Bool) (x5 y5 : Int) :
    (Op.equalIn (d + 3) 32 (.agg #[.bool x0, .bool x1, .int .u64 x2, .bool x3, .bool x4, .int .u64 x5]) (.agg #[.bool y0, .bool y1, .int .u64 y2, .bool y3, .bool y4, .int .u64 y5])).run Try.prog w = .ok ((x0 == y0 && (x1 == y1 && (x2 == y2))) && ((x3 == y3 && (x4 == y4 && (x5 == y5))))) w := by
  have hi0 : (Try.prog.info? 31).isSome = true := by kernel_rfl
  obtain ⟨i, hi⟩ := Option.isSome_iff_exists.1 hi0
  have hc : Try.prog.cellsOf 31 = 3 := by kernel_rfl
  rw [run_equalIn_array w (d + 2) _ _ Try.underlying32 hi, hc]
  have a0 : (part 31 #[.bool x0, .bool x1, .int .u64 x2, .bool x3, .bool x4, .int .u64 x5] (0 * 3)).run Try.prog w = .ok (.agg #[.bool x0, .bool x1, .int .u64 x2]) w := by go_simp
  have b0 : (part 31 #[.bool y0, .bool y1, .int .u64 y2, .bool y3, .bool y4, .int .u64 y5] (0 * 3)).run Try.prog w = .ok (.agg #[.bool y0, .bool y1, .int .u64 y2]) w := by go_simp
  have a1 : (part 31 #[.bool x0, .bool x1, .int .u64 x2, .bool x3, .bool x4, .int .u64 x5] (1 * 3)).run Try.prog w = .ok (.agg #[.bool x3, .bool x4, .int .u64 x5]) w := by go_simp
  have b1 : (part 31 #[.bool y0, .bool y1, .int .u64 y2, .bool y3, .bool y4, .int .u64 y5] (1 * 3)).run Try.prog w = .ok (.agg #[.bool y3, .bool y4, .int .u64 y5]) w := by go_simp
  rw [show List.range 2 = [0, 1] from rfl]
  have h1 := eqA31 d w x0 y0 x1 y1 x2 y2
  have h2 := eqA31 d w x3 y3 x4 y4 x5 y5
  simp only [Op.eqItems, Sem.run_bind, a0, b0, Result.andThen_ok, h1]
  clear h1
  revert h2
  generalize (x0 == y0 && (x1 == y1 && (x2 == y2))) = p
  generalize (x3 == y3 && (x4 == y4 && (x5 == y5))) = q
  intro h2
  cases p
  · simp [go_sem]
  · simp only [Bool.not_true, Bool.false_eq_true, if_false, Sem.run_bind, a1, b1, Result.andThen_ok, h2, Bool.true_and]
    cases q <;> simp [go_sem]
end Go.Proofs.Ytbciaapkahfcaaa.PFlushHears
