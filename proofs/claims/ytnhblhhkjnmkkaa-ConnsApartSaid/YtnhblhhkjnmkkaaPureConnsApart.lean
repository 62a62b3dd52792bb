/- The plain law of ConnsApart: its contract's condition holds of all arguments. -/
import Derived.Test.YtnhblhhkjnmkkaaCq
namespace Go.Proofs.Ytnhblhhkjnmkkaa.Pure
set_option linter.unusedVariables false
set_option linter.unusedSimpArgs false
open Go.RowKit Go.Proofs.YtnhblhhkjnmkkaaW.PrintWords Go.Proofs.YtnhblhhkjnmkkaaW.PrintLast Go.Proofs.YtnhblhhkjnmkkaaW.PrintMore
open Go.Proofs.Ytnhblhhkjnmkkaa.Sp Go.Proofs.Ytnhblhhkjnmkkaa.Va Go.Proofs.Ytnhblhhkjnmkkaa.Q
theorem ConnsApart (l0 : (List S67)) (g0 : (l0.length * 40 ≤ 140737488351232 ∧ ∀ y0 ∈ l0, good67 y0)) (l1 : (List S67)) (g1 : (l1.length * 40 ≤ 140737488351232 ∧ ∀ y0 ∈ l1, good67 y0)) : ∃ k, turncocklaw32_ConnsApart.f k l0 l1 = some true := by
  refine ⟨0, ?_⟩
  unfold turncocklaw32_ConnsApart.f
  rw [if_pos ⟨fun x hx => bytes_of_wf (g0.2 x hx).2.2.2, g0.1, fun x hx => bytes_of_wf (g1.2 x hx).2.2.2, g1.1⟩]
end Go.Proofs.Ytnhblhhkjnmkkaa.Pure
