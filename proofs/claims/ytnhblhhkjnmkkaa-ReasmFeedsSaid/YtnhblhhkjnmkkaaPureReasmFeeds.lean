/- The plain law of ReasmFeeds: its contract's condition holds of all arguments. -/
import Derived.Test.YtnhblhhkjnmkkaaRf
namespace Go.Proofs.Ytnhblhhkjnmkkaa.Pure
set_option linter.unusedVariables false
set_option linter.unusedSimpArgs false
open Go.RowKit Go.Proofs.YtnhblhhkjnmkkaaW.PrintWords Go.Proofs.YtnhblhhkjnmkkaaW.PrintLast Go.Proofs.YtnhblhhkjnmkkaaW.PrintMore
open Go.Proofs.Ytnhblhhkjnmkkaa.Sp Go.Proofs.Ytnhblhhkjnmkkaa.Va Go.Proofs.Ytnhblhhkjnmkkaa.Q
theorem ReasmFeeds (a0 : Int) (w0 : (Lit.int .i64 a0).wf = true) (l1 : (List (List Int))) (g1 : (l1.length * 24 ≤ 140737488351232 ∧ ∀ y0 ∈ l1, (y0.length * 1 ≤ 140737488351232 ∧ ∀ y1 ∈ y0, (Lit.int .u8 y1).wf = true))) : ∃ k, turncocklaw4_ReasmFeeds.f k a0 l1 = some true := by
  refine ⟨0, ?_⟩
  unfold turncocklaw4_ReasmFeeds.f
  rw [if_pos ⟨fun b hb => bytes_of_wf (g1.2 b hb).2, g1.1⟩]
end Go.Proofs.Ytnhblhhkjnmkkaa.Pure
