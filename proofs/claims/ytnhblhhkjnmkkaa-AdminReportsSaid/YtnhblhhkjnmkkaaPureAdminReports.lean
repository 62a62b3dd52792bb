/- The plain law of AdminReports: what is encoded is as the reference says, and is decoded as it was. -/
import Derived.Test.YtnhblhhkjnmkkaaPd
import Derived.Test.YtnhblhhkjnmkkaaQ19
import Derived.Test.YtnhblhhkjnmkkaaQ18
import Derived.Test.YtnhblhhkjnmkkaaQ15
namespace Go.Proofs.Ytnhblhhkjnmkkaa.Q
open Go.RowKit Go.Proofs.YtnhblhhkjnmkkaaW.PrintWords Go.Proofs.YtnhblhhkjnmkkaaW.PrintLast Go.Proofs.YtnhblhhkjnmkkaaW.PrintMore
open Go.Proofs.Ytnhblhhkjnmkkaa.Sp Go.Proofs.Ytnhblhhkjnmkkaa.Va
set_option linter.unusedVariables false
set_option linter.unusedSimpArgs false
theorem encR (a1 a2 : Int) (s : ByteArray) (hs : s.size ≤ 1000000000) : admin_EncodeReport.f a1 a2 s = if 0 ≤ a1 ∧ a1 ≤ 2147483647 ∧ 1 ≤ a2 ∧ a2 ≤ 6 ∧ s.size ≤ 60000 then some ([4] ++ putv a1.toNat ++ putv a2.toNat ++ putv s.size ++ bytesOf s, 0) else some ([], 1) := by
  unfold admin_EncodeReport.f admin_encode.f
  by_cases h : 0 ≤ a1 ∧ a1 ≤ 2147483647 ∧ 1 ≤ a2 ∧ a2 ≤ 6 ∧ s.size ≤ 60000
  · rw [if_pos (by omega), if_pos hs, if_pos h]; rfl
  · rw [if_neg (by omega), if_neg h]; rfl
theorem refR (a1 a2 : Int) (s : ByteArray) (hs : s.size ≤ 1000000000) (k : Nat) (hk : 11 ≤ k) : turncockref1_EncodeReport.f k a1 a2 s = if 0 ≤ a1 ∧ a1 ≤ 2147483647 ∧ 1 ≤ a2 ∧ a2 ≤ 6 ∧ s.size ≤ 60000 then some ([4] ++ putv a1.toNat ++ putv a2.toNat ++ putv s.size ++ bytesOf s, 0) else some ([], 1) := by
  obtain ⟨k, rfl⟩ : ∃ j, k = j + 1 := ⟨k - 1, by omega⟩
  unfold turncockref1_EncodeReport.f
  rw [ref_asked_f]
  simp only [Option.bind_some, turncockref1_EncodeReport.j0]
  by_cases h : 0 ≤ a1 ∧ a1 ≤ 2147483647 ∧ 1 ≤ a2 ∧ a2 ≤ 6
  · rw [if_pos (by simpa using h)]
    by_cases h5 : s.size ≤ 60000
    · have b1 := put_len a1.toNat (by omega)
      have b2 := put_len a2.toNat (by omega)
      rw [if_neg (by simp; omega), if_pos (by omega), ref_num_f [4] a1 (by omega) (by omega) k (by omega) (by simp)]
      simp only [Option.bind_some]
      rw [ref_num_f _ a2 (by omega) (by omega) k (by omega) (by simp; omega)]
      simp only [Option.bind_some]
      rw [ref_text_f _ s k (by omega) hs (by simp; omega)]
      rfl
    · rw [if_pos (by simp; omega), if_neg (by omega)]
  · rw [if_neg (by simpa using h)]
    simp only [if_true]
    rw [if_neg (by omega)]
end Go.Proofs.Ytnhblhhkjnmkkaa.Q
namespace Go.Proofs.Ytnhblhhkjnmkkaa.Pure
set_option linter.unusedVariables false
set_option linter.unusedSimpArgs false
open Go.RowKit Go.Proofs.YtnhblhhkjnmkkaaW.PrintWords Go.Proofs.YtnhblhhkjnmkkaaW.PrintLast Go.Proofs.YtnhblhhkjnmkkaaW.PrintMore
open Go.Proofs.Ytnhblhhkjnmkkaa.Sp Go.Proofs.Ytnhblhhkjnmkkaa.Va Go.Proofs.Ytnhblhhkjnmkkaa.Q
theorem AdminReports (x0_0 : Int) (g0_0 : (Lit.int .i64 x0_0).wf = true) (x0_1 : Int) (g0_1 : (Lit.int .i64 x0_1).wf = true) (x0_2 : ByteArray) (g0_2 : x0_2.size ≤ 140737488351232) : ∃ k, turncocklaw9_AdminReports.f k x0_0 x0_1 x0_2 = some true := by
  refine ⟨20, ?_⟩
  unfold turncocklaw9_AdminReports.f
  by_cases hs : (x0_2.size : Int) > 60010
  · rw [if_pos hs, awake9]; rfl
  · rw [if_neg hs, encR _ _ _ (by omega), refR _ _ _ (by omega) 20 (by omega)]
    split
    · rename_i h
      obtain ⟨h1, h2, h3, h4, h5⟩ := h
      have hd := decode_f_back 4 x0_0 x0_1 x0_2 60000 (by omega) h1 h2 h3 h4 h5 (by omega)
      simp only [Option.bind_some]
      unfold admin_DecodeReport.f
      rw [show ((60000 : Nat) : Int) = 60000 from rfl] at hd
      rw [hd]
      simp only [Option.bind_some, same_self, awake9]
      simp
    · simp only [Option.bind_some]
      have hd : ∃ a b c d, admin_DecodeReport.f [] = some (a, b, c, d) := ⟨0, 0, ⟨#[]⟩, 2, by decide +kernel⟩
      obtain ⟨a, b, c, d, hd⟩ := hd
      rw [hd]
      simp only [Option.bind_some, same_self, awake9]
      simp
end Go.Proofs.Ytnhblhhkjnmkkaa.Pure
