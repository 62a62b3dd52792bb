/- The plain law of ReasmOff: its contract's condition holds of all arguments. -/
import Derived.Test.YtnhblhhkjnmkkaaRo
namespace Go.Proofs.Ytnhblhhkjnmkkaa.Pure
set_option linter.unusedVariables false
set_option linter.unusedSimpArgs false
open Go.RowKit Go.Proofs.YtnhblhhkjnmkkaaW.PrintWords Go.Proofs.YtnhblhhkjnmkkaaW.PrintLast Go.Proofs.YtnhblhhkjnmkkaaW.PrintMore
open Go.Proofs.Ytnhblhhkjnmkkaa.Sp Go.Proofs.Ytnhblhhkjnmkkaa.Va Go.Proofs.Ytnhblhhkjnmkkaa.Q
theorem ReasmOff (a0 : Int) (w0 : (Lit.int .i64 a0).wf = true) (l1 : (List Int)) (g1 : (l1.length * 1 ≤ 140737488351232 ∧ ∀ y0 ∈ l1, (Lit.int .u8 y0).wf = true)) (l2 : (List (List Int))) (g2 : (l2.length * 24 ≤ 140737488351232 ∧ ∀ y0 ∈ l2, (y0.length * 1 ≤ 140737488351232 ∧ ∀ y1 ∈ y0, (Lit.int .u8 y1).wf = true))) : ∃ k, turncocklaw4_ReasmOff.f k a0 l1 l2 = some true := by
  refine ⟨0, ?_⟩
  unfold turncocklaw4_ReasmOff.f
  rw [if_pos ⟨bytes_of_wf g1.2, g2.1⟩]
end Go.Proofs.Ytnhblhhkjnmkkaa.Pure
