/- VarintGets, as plain Lean: of any bytes the number at their front, or what is wrong, is as the document says. No condition beyond the row's own. -/
import Derived.Test.YtnhblhhkjnmkkaaQ5
import Derived.Test.YtnhblhhkjnmkkaaVa
namespace Go.Proofs.Ytnhblhhkjnmkkaa.Pure
open Go.RowKit Go.Proofs.Ytnhblhhkjnmkkaa.Q Go.Proofs.YtnhblhhkjnmkkaaW.PrintWords Go.Proofs.YtnhblhhkjnmkkaaW.PrintLast Go.Proofs.YtnhblhhkjnmkkaaW.PrintMore
open Go.Proofs.Ytnhblhhkjnmkkaa.Sp Go.Proofs.Ytnhblhhkjnmkkaa.Va
theorem VarintGets : turncocklaw2_VarintGets.Pure := by
  intro l hm hl hw
  have hb := bytes_of_wf hw
  refine ⟨30, ?_⟩
  unfold turncocklaw2_VarintGets.f
  rw [get_f l hb (by omega) 30 (by omega), ref_get_f l hb (by omega) 30 (by omega), awake2]
  simp
end Go.Proofs.Ytnhblhhkjnmkkaa.Pure
