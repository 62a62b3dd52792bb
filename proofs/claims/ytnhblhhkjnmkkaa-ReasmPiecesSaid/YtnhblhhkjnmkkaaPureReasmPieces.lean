/- The plain law of ReasmPieces: its contract's condition holds of all arguments. -/
import Derived.Test.YtnhblhhkjnmkkaaRp
namespace Go.Proofs.Ytnhblhhkjnmkkaa.Pure
set_option linter.unusedVariables false
set_option linter.unusedSimpArgs false
open Go.RowKit Go.Proofs.YtnhblhhkjnmkkaaW.PrintWords Go.Proofs.YtnhblhhkjnmkkaaW.PrintLast Go.Proofs.YtnhblhhkjnmkkaaW.PrintMore
open Go.Proofs.Ytnhblhhkjnmkkaa.Sp Go.Proofs.Ytnhblhhkjnmkkaa.Va Go.Proofs.Ytnhblhhkjnmkkaa.Q
theorem ReasmPieces (l0 : (List Int)) (g0 : (l0.length * 1 ≤ 140737488351232 ∧ ∀ y0 ∈ l0, (Lit.int .u8 y0).wf = true)) (a1 : Int) (w1 : (Lit.int .i64 a1).wf = true) (l2 : (List Int)) (g2 : (l2.length * 8 ≤ 140737488351232 ∧ ∀ y0 ∈ l2, (Lit.int .i64 y0).wf = true)) (l3 : (List Int)) (g3 : (l3.length * 8 ≤ 140737488351232 ∧ ∀ y0 ∈ l3, (Lit.int .i64 y0).wf = true)) : ∃ k, turncocklaw4_ReasmPieces.f k l0 a1 l2 l3 = some true := by
  refine ⟨0, ?_⟩
  unfold turncocklaw4_ReasmPieces.f
  rw [if_pos ⟨bytes_of_wf g0.2, by omega, g2.1, g3.1⟩]
end Go.Proofs.Ytnhblhhkjnmkkaa.Pure
