/- The plain law of ConnsAnew: its contract's condition holds of all arguments. -/
import Derived.Test.YtnhblhhkjnmkkaaCn
namespace Go.Proofs.Ytnhblhhkjnmkkaa.Pure
set_option linter.unusedVariables false
set_option linter.unusedSimpArgs false
open Go.RowKit Go.Proofs.YtnhblhhkjnmkkaaW.PrintWords Go.Proofs.YtnhblhhkjnmkkaaW.PrintLast Go.Proofs.YtnhblhhkjnmkkaaW.PrintMore
open Go.Proofs.Ytnhblhhkjnmkkaa.Sp Go.Proofs.Ytnhblhhkjnmkkaa.Va Go.Proofs.Ytnhblhhkjnmkkaa.Q
theorem ConnsAnew (l0 : (List Int)) (g0 : (l0.length * 1 ≤ 140737488351232 ∧ ∀ y0 ∈ l0, (Lit.int .u8 y0).wf = true)) (l1 : (List Int)) (g1 : (l1.length * 1 ≤ 140737488351232 ∧ ∀ y0 ∈ l1, (Lit.int .u8 y0).wf = true)) (a2 : Int) (w2 : (Lit.int .i64 a2).wf = true) : ∃ k, turncocklaw32_ConnsAnew.f k l0 l1 a2 = some true := by
  refine ⟨0, ?_⟩
  unfold turncocklaw32_ConnsAnew.f
  rw [if_pos ⟨bytes_of_wf g0.2, bytes_of_wf g1.2, by omega, by omega⟩]
end Go.Proofs.Ytnhblhhkjnmkkaa.Pure
