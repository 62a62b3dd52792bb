/- The plain law of AskBack: a request that may be is decoded as it was encoded. -/
import Derived.Test.YtnhblhhkjnmkkaaGd
import Derived.Test.YtnhblhhkjnmkkaaSr
import Derived.Test.YtnhblhhkjnmkkaaQ36
namespace Go.Proofs.Ytnhblhhkjnmkkaa.Pure
set_option linter.unusedVariables false
set_option linter.unusedSimpArgs false
open Go.RowKit Go.Proofs.YtnhblhhkjnmkkaaW.PrintWords Go.Proofs.YtnhblhhkjnmkkaaW.PrintLast Go.Proofs.YtnhblhhkjnmkkaaW.PrintMore
open Go.Proofs.Ytnhblhhkjnmkkaa.Sp Go.Proofs.Ytnhblhhkjnmkkaa.Va Go.Proofs.Ytnhblhhkjnmkkaa.Q
theorem AskBack (x0_0 : Int) (g0_0 : (Lit.int .i64 x0_0).wf = true) (x0_1 : ByteArray) (g0_1 : x0_1.size ≤ 140737488351232) (x0_2 : Int) (g0_2 : (Lit.int .i64 x0_2).wf = true) (x0_3 : (List S140)) (g0_3 : (x0_3.length * 24 ≤ 140737488351232 ∧ ∀ y0 ∈ x0_3, good140 y0)) : ∃ k, turncocklaw7_AskBack.f k x0_0 x0_1 x0_2 x0_3 = some true := by
  obtain ⟨K, b, hk, hb⟩ := heavy_f x0_0 x0_1 x0_2 x0_3 (by omega) (by omega) (fun d hd => (g0_3.2 d hd).1)
  refine ⟨K + 20000, ?_⟩
  unfold turncocklaw7_AskBack.f
  rw [hk _ (by omega), Option.bind_some]
  cases b with
  | true => rw [if_pos rfl, awake7]; rfl
  | false =>
    have hs := hb rfl
    have hs2 : x0_3.length ≤ 5000 ∧ ∀ d ∈ x0_3, d.f0.length ≤ 5000 := ⟨hs.2.1, fun d hd => (hs.2.2 d hd).1⟩
    rw [if_neg (by decide), enc_f _ _ _ _ hs, Option.bind_some]
    cases h : askB x0_0 x0_1 x0_2 x0_3 with
    | true =>
      simp only [if_true]
      rw [dec_back _ _ _ _ h, Option.bind_some]
      simp only [if_true]
      rw [ref_sameA_f _ _ _ _ _ _ _ _ 5000 (by omega) hs2 _ (by omega), Option.bind_some, same_ask_f _ _ _ _ _ _ _ _ hs, Option.bind_some, awake7]
      simp
    | false =>
      simp only [Bool.false_eq_true, if_false]
      rw [ref_ask_f _ _ _ _ 5000 (by omega) hs _ (by omega), Option.bind_some, h, awake7]
      simp
end Go.Proofs.Ytnhblhhkjnmkkaa.Pure
