/- FrameBack, as plain Lean: frames laid behind one another are told again, in their order, whole, whatever the bound, if none is longer. No condition beyond the row's own. -/
import Derived.Test.YtnhblhhkjnmkkaaFs
namespace Go.Proofs.Ytnhblhhkjnmkkaa.Pure
open Go.RowKit Go.Proofs.Ytnhblhhkjnmkkaa.Q Go.Proofs.YtnhblhhkjnmkkaaW.PrintWords Go.Proofs.YtnhblhhkjnmkkaaW.PrintLast Go.Proofs.YtnhblhhkjnmkkaaW.PrintMore
open Go.Proofs.Ytnhblhhkjnmkkaa.Sp Go.Proofs.Ytnhblhhkjnmkkaa.Va Go.Proofs.Ytnhblhhkjnmkkaa.Fr Go.Proofs.Ytnhblhhkjnmkkaa.Fs
set_option linter.unusedSimpArgs false
set_option linter.unusedVariables false
theorem FrameBack (l0 : (List (List Int))) (g0 : (l0.length * 24 ≤ 140737488351232 ∧ ∀ y0 ∈ l0, (y0.length * 1 ≤ 140737488351232 ∧ ∀ y1 ∈ y0, (Lit.int .u8 y1).wf = true))) (a1 : Int) (w1 : (Lit.int .i64 a1).wf = true) : ∃ k, turncocklaw3_FrameBack.f k l0 a1 = some true := by
  have hb : ∀ x ∈ l0, Bytes x := fun x hx => bytes_of_wf (g0.2 x hx).2
  have hx : ∀ x ∈ l0, x.length ≤ 140737488351232 := fun x hx => by have := (g0.2 x hx).1; omega
  refine ⟨l0.length + 500000, ?_⟩
  obtain ⟨r, hr, hr2⟩ := weight_f l0 (by omega) hx (l0.length + 500000) (by omega)
  unfold turncocklaw3_FrameBack.f
  rw [hr]
  simp only [Option.bind_some]
  by_cases c : r ≤ 20000
  · rw [if_neg (by omega)]
    have h := back_l0 l0 hb (hr2 c) a1 l0.length (l0.length + 500000) 0 0 (by omega) (by omega) (by omega) (by omega) (by simp)
    simpa [enc] using h
  · rw [if_pos (by omega)]
    simp [turncocklaw3_awake.f]
end Go.Proofs.Ytnhblhhkjnmkkaa.Pure
