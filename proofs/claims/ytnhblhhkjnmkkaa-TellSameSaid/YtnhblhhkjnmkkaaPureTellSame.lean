/- The plain law of TellSame: two replies are the same just if all in them is alike. -/
import Derived.Test.YtnhblhhkjnmkkaaPt
import Derived.Test.YtnhblhhkjnmkkaaPs
import Derived.Test.YtnhblhhkjnmkkaaQ44
namespace Go.Proofs.Ytnhblhhkjnmkkaa.Pure
set_option linter.unusedVariables false
set_option linter.unusedSimpArgs false
open Go.RowKit Go.Proofs.YtnhblhhkjnmkkaaW.PrintWords Go.Proofs.YtnhblhhkjnmkkaaW.PrintLast Go.Proofs.YtnhblhhkjnmkkaaW.PrintMore
open Go.Proofs.Ytnhblhhkjnmkkaa.Sp Go.Proofs.Ytnhblhhkjnmkkaa.Va Go.Proofs.Ytnhblhhkjnmkkaa.Q
theorem tsame_j0 (k : Nat) (hk : 20000 ≤ k) (a0 a1 : Int) (b : Bool) (ss : List S154) (hs : List S152) (c0 c1 : Int) (d : Bool) (ts : List S154) (gs : List S152) (h1 : ss.length ≤ 5000) (h2 : hs.length ≤ 5000) : turncocklaw8_TellSame.j0 (k + 1) false a0 a1 b ss hs c0 c1 d ts gs = some true := by
  simp only [turncocklaw8_TellSame.j0]
  rw [if_neg (by decide), tsame_f _ _ _ _ _ _ _ _ _ _ (by omega) (by omega) _ (by omega), Option.bind_some, rtsame_f _ _ _ _ _ _ _ _ _ _ (by omega) (by omega) _ (by omega), Option.bind_some, tsame_f _ _ _ _ _ _ _ _ _ _ (by omega) (by omega) _ (by omega), awake8]
  simp
theorem TellSame (x0_0 : Int) (g0_0 : (Lit.int .i64 x0_0).wf = true) (x0_1 : Int) (g0_1 : (Lit.int .i64 x0_1).wf = true) (x0_2 : Bool) (g0_2 : True) (x0_3 : (List S154)) (g0_3 : (x0_3.length * 40 ≤ 140737488351232 ∧ ∀ y0 ∈ x0_3, good154 y0)) (x0_4 : (List S152)) (g0_4 : (x0_4.length * 32 ≤ 140737488351232 ∧ ∀ y0 ∈ x0_4, good152 y0)) (x1_0 : Int) (g1_0 : (Lit.int .i64 x1_0).wf = true) (x1_1 : Int) (g1_1 : (Lit.int .i64 x1_1).wf = true) (x1_2 : Bool) (g1_2 : True) (x1_3 : (List S154)) (g1_3 : (x1_3.length * 40 ≤ 140737488351232 ∧ ∀ y0 ∈ x1_3, good154 y0)) (x1_4 : (List S152)) (g1_4 : (x1_4.length * 32 ≤ 140737488351232 ∧ ∀ y0 ∈ x1_4, good152 y0)) : ∃ k, turncocklaw8_TellSame.f k x0_0 x0_1 x0_2 x0_3 x0_4 x1_0 x1_1 x1_2 x1_3 x1_4 = some true := by
  obtain ⟨K, v, hk, hb⟩ := heavy8_f x0_0 x0_1 x0_2 x0_3 x0_4 g0_3.1 g0_4.1
  obtain ⟨K', v', hk', hb'⟩ := heavy8_f x1_0 x1_1 x1_2 x1_3 x1_4 g1_3.1 g1_4.1
  refine ⟨K + K' + 20000 + 1, ?_⟩
  unfold turncocklaw8_TellSame.f
  rw [hk _ (by omega), Option.bind_some]
  cases v with
  | true => rw [if_pos rfl]; simp only [turncocklaw8_TellSame.j0, awake8]; simp
  | false =>
    rw [if_neg (by decide), hk' _ (by omega), Option.bind_some]
    cases v' with
    | true => simp only [turncocklaw8_TellSame.j0, awake8]; simp
    | false => exact tsame_j0 _ (by omega) _ _ _ _ _ _ _ _ _ _ (hb rfl).1 (hb rfl).2.1
end Go.Proofs.Ytnhblhhkjnmkkaa.Pure
