/- The plain law of ConnsActs: its contract's condition holds of all arguments. -/
import Derived.Test.YtnhblhhkjnmkkaaCt
namespace Go.Proofs.Ytnhblhhkjnmkkaa.Pure
set_option linter.unusedVariables false
set_option linter.unusedSimpArgs false
open Go.RowKit Go.Proofs.YtnhblhhkjnmkkaaW.PrintWords Go.Proofs.YtnhblhhkjnmkkaaW.PrintLast Go.Proofs.YtnhblhhkjnmkkaaW.PrintMore
open Go.Proofs.Ytnhblhhkjnmkkaa.Sp Go.Proofs.Ytnhblhhkjnmkkaa.Va Go.Proofs.Ytnhblhhkjnmkkaa.Q
theorem ConnsActs (a0 : Int) (w0 : (Lit.int .i64 a0).wf = true) (a1 : Int) (w1 : (Lit.int .i64 a1).wf = true) (l2 : (List S67)) (g2 : (l2.length * 40 ≤ 140737488351232 ∧ ∀ y0 ∈ l2, good67 y0)) : ∃ k, turncocklaw32_ConnsActs.f k a0 a1 l2 = some true := by
  refine ⟨0, ?_⟩
  unfold turncocklaw32_ConnsActs.f
  rw [if_pos ⟨fun x hx => bytes_of_wf (g2.2 x hx).2.2.2, g2.1⟩]
end Go.Proofs.Ytnhblhhkjnmkkaa.Pure
