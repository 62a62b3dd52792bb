/- The plain law of TellBack: a reply that may be is decoded as it was encoded. -/
import Derived.Test.YtnhblhhkjnmkkaaPt
import Derived.Test.YtnhblhhkjnmkkaaPs
import Derived.Test.YtnhblhhkjnmkkaaQ43
namespace Go.Proofs.Ytnhblhhkjnmkkaa.Pure
set_option linter.unusedVariables false
set_option linter.unusedSimpArgs false
open Go.RowKit Go.Proofs.YtnhblhhkjnmkkaaW.PrintWords Go.Proofs.YtnhblhhkjnmkkaaW.PrintLast Go.Proofs.YtnhblhhkjnmkkaaW.PrintMore
open Go.Proofs.Ytnhblhhkjnmkkaa.Sp Go.Proofs.Ytnhblhhkjnmkkaa.Va Go.Proofs.Ytnhblhhkjnmkkaa.Q
theorem TellBack (x0_0 : Int) (g0_0 : (Lit.int .i64 x0_0).wf = true) (x0_1 : Int) (g0_1 : (Lit.int .i64 x0_1).wf = true) (x0_2 : Bool) (g0_2 : True) (x0_3 : (List S154)) (g0_3 : (x0_3.length * 40 ≤ 140737488351232 ∧ ∀ y0 ∈ x0_3, good154 y0)) (x0_4 : (List S152)) (g0_4 : (x0_4.length * 32 ≤ 140737488351232 ∧ ∀ y0 ∈ x0_4, good152 y0)) : ∃ k, turncocklaw8_TellBack.f k x0_0 x0_1 x0_2 x0_3 x0_4 = some true := by
  obtain ⟨K, v, hk, hb⟩ := heavy8_f x0_0 x0_1 x0_2 x0_3 x0_4 g0_3.1 g0_4.1
  refine ⟨K + 30000, ?_⟩
  unfold turncocklaw8_TellBack.f
  rw [hk _ (by omega), Option.bind_some]
  cases v with
  | true => rw [if_pos rfl, awake8]; rfl
  | false =>
    have hL := hb rfl
    have l1 := hL.1
    have l2 := hL.2.1
    rw [if_neg (by decide), tenc_f _ _ _ _ _ hL, Option.bind_some]
    cases h : tellB x0_0 x0_1 x0_3 x0_4 with
    | true =>
      simp only [if_true]
      rw [tdec_back _ _ _ _ _ h, Option.bind_some]
      simp only [if_true]
      rw [rtsame_f _ _ _ _ _ _ _ _ _ _ (by omega) (by omega) _ (by omega), Option.bind_some, tsame_f _ _ _ _ _ _ _ _ _ _ (by omega) (by omega) _ (by omega), Option.bind_some, awake8]
      simp
    | false =>
      simp only [Bool.false_eq_true, if_false]
      rw [ref_tell_f _ _ _ _ _ hL _ (by omega), Option.bind_some, h, awake8]
      simp
end Go.Proofs.Ytnhblhhkjnmkkaa.Pure
