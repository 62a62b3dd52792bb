/- The plain law of AdminOops: what is encoded is as the reference says, and is decoded as it was. -/
import Derived.Test.YtnhblhhkjnmkkaaPd
import Derived.Test.YtnhblhhkjnmkkaaQ21
import Derived.Test.YtnhblhhkjnmkkaaQ20
namespace Go.Proofs.Ytnhblhhkjnmkkaa.Q
open Go.RowKit Go.Proofs.YtnhblhhkjnmkkaaW.PrintWords Go.Proofs.YtnhblhhkjnmkkaaW.PrintLast Go.Proofs.YtnhblhhkjnmkkaaW.PrintMore
open Go.Proofs.Ytnhblhhkjnmkkaa.Sp Go.Proofs.Ytnhblhhkjnmkkaa.Va
set_option linter.unusedVariables false
set_option linter.unusedSimpArgs false
theorem oops_f_back (a0 a1 a2 a3 : Int) (h : MayO a0 a1 a2 a3) : admin_DecodeOops.f ([5] ++ putv a0.toNat ++ putv a1.toNat ++ putv a2.toNat ++ putv a3.toNat) = some (a0, a1, a2, a3, 0) := by
  obtain ⟨q1, q2, q3, q4, q5, q6, q7, q8⟩ := h
  have b1 := put_len a0.toNat (by omega)
  have b2 := put_len a1.toNat (by omega)
  have b3 := put_len a2.toNat (by omega)
  have b4 := put_len a3.toNat (by omega)
  have hB : Bytes ([5] ++ putv a0.toNat ++ putv a1.toNat ++ putv a2.toNat ++ putv a3.toNat) := by
    refine Bytes.append (Bytes.append (Bytes.append (Bytes.append ?_ (putv_bytes _)) (putv_bytes _)) (putv_bytes _)) (putv_bytes _)
    intro x hx
    rw [List.mem_singleton] at hx
    subst hx; omega
  have hr : roops ([5] ++ putv a0.toNat ++ putv a1.toNat ++ putv a2.toNat ++ putv a3.toNat) = some (a0.toNat, a1.toNat, a2.toNat, a3.toNat) := by
    have e : [5] ++ putv a0.toNat ++ putv a1.toNat ++ putv a2.toNat ++ putv a3.toNat = (5 : Int) :: (putv a0.toNat ++ (putv a1.toNat ++ (putv a2.toNat ++ (putv a3.toNat ++ [])))) := by simp
    rw [e]
    unfold roops
    simp only [ropen, if_true, Option.bind_some, rnum_put 2147483647 a0.toNat _ (by omega) (by omega), rnum_put 8 a1.toNat _ (by omega) (by omega), rnum_put 17 a2.toNat _ (by omega) (by omega), rnum_put 4294967295 a3.toNat _ (by omega) (by omega)]
    rw [if_pos ⟨trivial, by omega⟩]
  unfold admin_DecodeOops.f
  rw [if_pos ⟨hB, by simp only [List.length_append, List.length_cons, List.length_nil]; omega⟩, hr]
  simp only []
  rw [show ((a0.toNat : Nat) : Int) = a0 from by omega, show ((a1.toNat : Nat) : Int) = a1 from by omega, show ((a2.toNat : Nat) : Int) = a2 from by omega, show ((a3.toNat : Nat) : Int) = a3 from by omega]
theorem refO (a0 a1 a2 a3 : Int) (k : Nat) (hk : 11 ≤ k) : turncockref1_EncodeOops.f k a0 a1 a2 a3 = admin_EncodeOops.f a0 a1 a2 a3 := by
  obtain ⟨k, rfl⟩ : ∃ j, k = j + 1 := ⟨k - 1, by omega⟩
  unfold turncockref1_EncodeOops.f admin_EncodeOops.f
  by_cases h : MayO a0 a1 a2 a3
  · rw [if_pos h]
    obtain ⟨q1, q2, q3, q4, q5, q6, q7, q8⟩ := h
    rw [if_neg (by omega), if_neg (by omega), if_neg (by omega), if_neg (by omega), if_neg (by omega), if_neg (by omega), if_neg (by omega)]
    have b1 := put_len a0.toNat (by omega)
    have b2 := put_len a1.toNat (by omega)
    have b3 := put_len a2.toNat (by omega)
    simp only [turncockref1_EncodeOops.j0]
    rw [if_neg (by simp; omega), ref_num_f [5] a0 (by omega) (by omega) k (by omega) (by simp)]
    simp only [Option.bind_some]
    rw [ref_num_f _ a1 (by omega) (by omega) k (by omega) (by simp; omega)]
    simp only [Option.bind_some]
    rw [ref_num_f _ a2 (by omega) (by omega) k (by omega) (by simp; omega)]
    simp only [Option.bind_some]
    rw [ref_num_f _ a3 (by omega) (by omega) k (by omega) (by simp; omega)]
    rfl
  · rw [if_neg h]
    unfold MayO at h
    repeat' split
    all_goals first | rfl | skip
    simp only [turncockref1_EncodeOops.j0]
    rw [if_pos (by simp; omega)]
end Go.Proofs.Ytnhblhhkjnmkkaa.Q
namespace Go.Proofs.Ytnhblhhkjnmkkaa.Pure
set_option linter.unusedVariables false
set_option linter.unusedSimpArgs false
open Go.RowKit Go.Proofs.YtnhblhhkjnmkkaaW.PrintWords Go.Proofs.YtnhblhhkjnmkkaaW.PrintLast Go.Proofs.YtnhblhhkjnmkkaaW.PrintMore
open Go.Proofs.Ytnhblhhkjnmkkaa.Sp Go.Proofs.Ytnhblhhkjnmkkaa.Va Go.Proofs.Ytnhblhhkjnmkkaa.Q
theorem AdminOops (x0_0 : Int) (g0_0 : (Lit.int .i64 x0_0).wf = true) (x0_1 : Int) (g0_1 : (Lit.int .i64 x0_1).wf = true) (x0_2 : Int) (g0_2 : (Lit.int .i64 x0_2).wf = true) (x0_3 : Int) (g0_3 : (Lit.int .i64 x0_3).wf = true) : ∃ k, turncocklaw9_AdminOops.f k x0_0 x0_1 x0_2 x0_3 = some true := by
  refine ⟨20, ?_⟩
  unfold turncocklaw9_AdminOops.f
  rw [refO _ _ _ _ 20 (by omega)]
  by_cases h : MayO x0_0 x0_1 x0_2 x0_3
  · have e : admin_EncodeOops.f x0_0 x0_1 x0_2 x0_3 = some ([5] ++ putv x0_0.toNat ++ putv x0_1.toNat ++ putv x0_2.toNat ++ putv x0_3.toNat, 0) := by unfold admin_EncodeOops.f; rw [if_pos h]
    rw [e]
    simp only [Option.bind_some]
    rw [oops_f_back _ _ _ _ h]
    simp only [Option.bind_some, same_self, awake9]
    simp
  · have e : admin_EncodeOops.f x0_0 x0_1 x0_2 x0_3 = some ([], 1) := by unfold admin_EncodeOops.f; rw [if_neg h]
    rw [e]
    simp only [Option.bind_some]
    rw [show admin_DecodeOops.f [] = some (0, 0, 0, 0, 2) from by decide +kernel]
    simp only [Option.bind_some, same_self, awake9]
    simp
end Go.Proofs.Ytnhblhhkjnmkkaa.Pure
