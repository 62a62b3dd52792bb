/- VarintOnly, as plain Lean: what is got has no other bytes than those that are put. No condition beyond the row's own. -/
import Derived.Test.YtnhblhhkjnmkkaaQ6
import Derived.Test.YtnhblhhkjnmkkaaVa
namespace Go.Proofs.Ytnhblhhkjnmkkaa.Pure
open Go.RowKit Go.Proofs.Ytnhblhhkjnmkkaa.Q Go.Proofs.YtnhblhhkjnmkkaaW.PrintWords Go.Proofs.YtnhblhhkjnmkkaaW.PrintLast Go.Proofs.YtnhblhhkjnmkkaaW.PrintMore
open Go.Proofs.Ytnhblhhkjnmkkaa.Sp Go.Proofs.Ytnhblhhkjnmkkaa.Va
theorem VarintOnly : turncocklaw2_VarintOnly.Pure := by
  intro l hm hl hw
  have hb := bytes_of_wf hw
  refine ⟨30, ?_⟩
  unfold turncocklaw2_VarintOnly.f
  rw [get_f l hb (by omega) 30 (by omega), awake2]
  obtain ⟨v, n, h | h | h⟩ := getv_cases l 0 0
  · obtain ⟨u, hv, hn1, hn2, hn3, hp, _, hlt⟩ := getv_only l 0 0 v n hb (by omega) (by omega) h
    have e : u = v := by rw [hv]; simp
    subst e
    have h10 := putv_le10 u hlt
    rw [h]
    simp only [told, Option.bind_some, if_true]
    rw [if_pos (by omega), if_pos (by omega), if_pos (by omega), put_f u [] 30 (by omega) (by simp; omega)]
    simp only [Option.bind_some]
    rw [if_pos (by omega), hp]
    simp [turncockref1_Bytes.f]
  · rw [h]
    simp [told]
  · rw [h]
    simp [told]
end Go.Proofs.Ytnhblhhkjnmkkaa.Pure
