/- The plain law of AskCut: its contract's condition holds of all arguments. -/
import Derived.Test.YtnhblhhkjnmkkaaAc
namespace Go.Proofs.Ytnhblhhkjnmkkaa.Pure
set_option linter.unusedVariables false
set_option linter.unusedSimpArgs false
open Go.RowKit Go.Proofs.YtnhblhhkjnmkkaaW.PrintWords Go.Proofs.YtnhblhhkjnmkkaaW.PrintLast Go.Proofs.YtnhblhhkjnmkkaaW.PrintMore
open Go.Proofs.Ytnhblhhkjnmkkaa.Sp Go.Proofs.Ytnhblhhkjnmkkaa.Va Go.Proofs.Ytnhblhhkjnmkkaa.Q
theorem AskCut (x0_0 : Int) (g0_0 : (Lit.int .i64 x0_0).wf = true) (x0_1 : ByteArray) (g0_1 : x0_1.size ≤ 140737488351232) (x0_2 : Int) (g0_2 : (Lit.int .i64 x0_2).wf = true) (x0_3 : (List S140)) (g0_3 : (x0_3.length * 24 ≤ 140737488351232 ∧ ∀ y0 ∈ x0_3, good140 y0)) (a1 : Int) (w1 : (Lit.int .i64 a1).wf = true) (l2 : (List Int)) (g2 : (l2.length * 1 ≤ 140737488351232 ∧ ∀ y0 ∈ l2, (Lit.int .u8 y0).wf = true)) : ∃ k, turncocklaw7_AskCut.f k x0_0 x0_1 x0_2 x0_3 a1 l2 = some true := by
  refine ⟨0, ?_⟩
  unfold turncocklaw7_AskCut.f
  rw [if_pos ⟨bytes_of_wf g2.2, int_of_wf w1, by omega, g0_3.1, fun d hd => (g0_3.2 d hd).1⟩]
end Go.Proofs.Ytnhblhhkjnmkkaa.Pure
