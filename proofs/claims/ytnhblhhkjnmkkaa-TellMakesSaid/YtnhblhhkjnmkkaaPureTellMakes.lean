/- The plain law of TellMakes: whether a reply may be, and its bytes, are as the reference says. -/
import Derived.Test.YtnhblhhkjnmkkaaPt
import Derived.Test.YtnhblhhkjnmkkaaQ42
namespace Go.Proofs.Ytnhblhhkjnmkkaa.Pure
set_option linter.unusedVariables false
set_option linter.unusedSimpArgs false
open Go.RowKit Go.Proofs.YtnhblhhkjnmkkaaW.PrintWords Go.Proofs.YtnhblhhkjnmkkaaW.PrintLast Go.Proofs.YtnhblhhkjnmkkaaW.PrintMore
open Go.Proofs.Ytnhblhhkjnmkkaa.Sp Go.Proofs.Ytnhblhhkjnmkkaa.Va Go.Proofs.Ytnhblhhkjnmkkaa.Q
theorem TellMakes (x0_0 : Int) (g0_0 : (Lit.int .i64 x0_0).wf = true) (x0_1 : Int) (g0_1 : (Lit.int .i64 x0_1).wf = true) (x0_2 : Bool) (g0_2 : True) (x0_3 : (List S154)) (g0_3 : (x0_3.length * 40 ≤ 140737488351232 ∧ ∀ y0 ∈ x0_3, good154 y0)) (x0_4 : (List S152)) (g0_4 : (x0_4.length * 32 ≤ 140737488351232 ∧ ∀ y0 ∈ x0_4, good152 y0)) : ∃ k, turncocklaw8_TellMakes.f k x0_0 x0_1 x0_2 x0_3 x0_4 = some true := by
  obtain ⟨K, v, hk, hb⟩ := heavy8_f x0_0 x0_1 x0_2 x0_3 x0_4 g0_3.1 g0_4.1
  refine ⟨K + 30000, ?_⟩
  unfold turncocklaw8_TellMakes.f
  rw [hk _ (by omega), Option.bind_some]
  cases v with
  | true => rw [if_pos rfl, awake8]; rfl
  | false =>
    have hL := hb rfl
    rw [if_neg (by decide), tenc_f _ _ _ _ _ hL, Option.bind_some, ref_tenc_f _ _ _ _ _ hL _ (by omega), Option.bind_some, tcheck_f _ _ _ _ _ hL, Option.bind_some, ref_tell_f _ _ _ _ _ hL _ (by omega), Option.bind_some, awake8]
    cases tellB x0_0 x0_1 x0_3 x0_4 <;> simp [same_self]
end Go.Proofs.Ytnhblhhkjnmkkaa.Pure
