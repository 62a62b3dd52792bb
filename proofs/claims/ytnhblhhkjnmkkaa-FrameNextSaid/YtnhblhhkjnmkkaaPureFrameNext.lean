/- FrameNext, as plain Lean: of any bytes, under any bound, the first frame, or what is wrong, is as the document says. No condition beyond the row's own. -/
import Derived.Test.YtnhblhhkjnmkkaaQ8
import Derived.Test.YtnhblhhkjnmkkaaFr
namespace Go.Proofs.Ytnhblhhkjnmkkaa.Pure
open Go.RowKit Go.Proofs.Ytnhblhhkjnmkkaa.Q Go.Proofs.YtnhblhhkjnmkkaaW.PrintWords Go.Proofs.YtnhblhhkjnmkkaaW.PrintLast Go.Proofs.YtnhblhhkjnmkkaaW.PrintMore
open Go.Proofs.Ytnhblhhkjnmkkaa.Sp Go.Proofs.Ytnhblhhkjnmkkaa.Va Go.Proofs.Ytnhblhhkjnmkkaa.Fr
theorem FrameNext : turncocklaw3_FrameNext.Pure := by
  intro l a hm hl hw ha
  have hb := bytes_of_wf hw
  refine ⟨30, ?_⟩
  unfold turncocklaw3_FrameNext.f
  rw [next_f l hb (by omega) a 30 (by omega), ref_next_f l hb (by omega) a 30 (by omega)]
  simp [bytes_self, turncocklaw3_awake.f]
end Go.Proofs.Ytnhblhhkjnmkkaa.Pure
