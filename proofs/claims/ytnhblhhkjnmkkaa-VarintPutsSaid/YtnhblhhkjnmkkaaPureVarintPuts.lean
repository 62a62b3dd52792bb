/- VarintPuts, as plain Lean: the arguments are bytes and a number of 64 bits, which is all that its walk asks. -/
import Derived.Test.YtnhblhhkjnmkkaaVp
namespace Go.Proofs.Ytnhblhhkjnmkkaa.Pure
open Go.RowKit Go.Proofs.Ytnhblhhkjnmkkaa.Q Go.Proofs.Ytnhblhhkjnmkkaa.Va
set_option linter.unusedVariables false
theorem VarintPuts (l0 : List Int) (g0 : l0.length * 1 ≤ 140737488351232 ∧ ∀ y0 ∈ l0, (Lit.int .u8 y0).wf = true) (a1 : Int) (w1 : (Lit.int .u64 a1).wf = true) (l2 : List Int) (g2 : l2.length * 1 ≤ 140737488351232 ∧ ∀ y0 ∈ l2, (Lit.int .u8 y0).wf = true) : ∃ k, turncocklaw2_VarintPuts.f k l0 a1 l2 = some true := by
  refine ⟨0, ?_⟩
  obtain ⟨n, rfl, hn⟩ := nat_of_wf w1
  unfold turncocklaw2_VarintPuts.f
  rw [if_pos ⟨bytes_of_wf g0.2, bytes_of_wf g2.2, by omega, by omega⟩]
end Go.Proofs.Ytnhblhhkjnmkkaa.Pure
