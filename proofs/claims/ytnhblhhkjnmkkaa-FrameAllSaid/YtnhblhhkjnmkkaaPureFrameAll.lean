/- FrameAll, as plain Lean: of any bytes, under any bound, all frames, where they end, and what is wrong there, are as the document says. No condition beyond the row's own. -/
import Derived.Test.YtnhblhhkjnmkkaaQ8
import Derived.Test.YtnhblhhkjnmkkaaFr
namespace Go.Proofs.Ytnhblhhkjnmkkaa.Pure
open Go.RowKit Go.Proofs.Ytnhblhhkjnmkkaa.Q Go.Proofs.YtnhblhhkjnmkkaaW.PrintWords Go.Proofs.YtnhblhhkjnmkkaaW.PrintLast Go.Proofs.YtnhblhhkjnmkkaaW.PrintMore
open Go.Proofs.Ytnhblhhkjnmkkaa.Sp Go.Proofs.Ytnhblhhkjnmkkaa.Va Go.Proofs.Ytnhblhhkjnmkkaa.Fr
theorem FrameAll : turncocklaw3_FrameAll.Pure := by
  intro l a hm hl hw ha
  have hb := bytes_of_wf hw
  refine ⟨l.length + 40, ?_⟩
  unfold turncocklaw3_FrameAll.f
  by_cases c : (l.length : Int) > 5000
  · rw [if_pos c]
    simp [turncocklaw3_awake.f]
  · rw [if_neg c, all_f l hb (by omega) a _ (by omega), ref_all_f l hb (by omega) a _ (by omega)]
    have h1 := (allv_len (lim a) l.length l hb).1
    simp only [Option.bind_some, toldAll]
    rw [rows_self _ (by omega) _ (by omega)]
    simp [turncocklaw3_awake.f]
end Go.Proofs.Ytnhblhhkjnmkkaa.Pure
