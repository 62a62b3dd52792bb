/- The plain law of AskMakes: whether a request may be, its hits and its bytes are as the reference says. -/
import Derived.Test.YtnhblhhkjnmkkaaGd
import Derived.Test.YtnhblhhkjnmkkaaQ35
namespace Go.Proofs.Ytnhblhhkjnmkkaa.Pure
set_option linter.unusedVariables false
set_option linter.unusedSimpArgs false
open Go.RowKit Go.Proofs.YtnhblhhkjnmkkaaW.PrintWords Go.Proofs.YtnhblhhkjnmkkaaW.PrintLast Go.Proofs.YtnhblhhkjnmkkaaW.PrintMore
open Go.Proofs.Ytnhblhhkjnmkkaa.Sp Go.Proofs.Ytnhblhhkjnmkkaa.Va Go.Proofs.Ytnhblhhkjnmkkaa.Q
theorem AskMakes (x0_0 : Int) (g0_0 : (Lit.int .i64 x0_0).wf = true) (x0_1 : ByteArray) (g0_1 : x0_1.size ≤ 140737488351232) (x0_2 : Int) (g0_2 : (Lit.int .i64 x0_2).wf = true) (x0_3 : (List S140)) (g0_3 : (x0_3.length * 24 ≤ 140737488351232 ∧ ∀ y0 ∈ x0_3, good140 y0)) : ∃ k, turncocklaw7_AskMakes.f k x0_0 x0_1 x0_2 x0_3 = some true := by
  obtain ⟨K, b, hk, hb⟩ := heavy_f x0_0 x0_1 x0_2 x0_3 (by omega) (by omega) (fun d hd => (g0_3.2 d hd).1)
  refine ⟨K + 20000, ?_⟩
  unfold turncocklaw7_AskMakes.f
  rw [hk _ (by omega), Option.bind_some]
  cases b with
  | true => rw [if_pos rfl, awake7]; rfl
  | false =>
    have hs := hb rfl
    rw [if_neg (by decide), enc_f _ _ _ _ hs, Option.bind_some, ref_enc_f _ _ _ _ hs _ (by omega), Option.bind_some, ask_f _ _ _ _ 5000 (by omega) hs _ (by omega), Option.bind_some, ref_ask_f _ _ _ _ 5000 (by omega) hs _ (by omega), Option.bind_some]
    simp only [turncocklaw7_code.f, ask_Hits.f, turncockref1_Hits.f, Option.bind_some, hits_eq, awake7]
    cases askB x0_0 x0_1 x0_2 x0_3 <;> simp [same_self]
end Go.Proofs.Ytnhblhhkjnmkkaa.Pure
