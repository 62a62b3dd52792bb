/- Plain facts of the admin messages: what was written is read back. -/
import Derived.Test.YtnhblhhkjnmkkaaPl
import Derived.Test.YtnhblhhkjnmkkaaDo
import Derived.Test.YtnhblhhkjnmkkaaAw9
import Derived.Test.YtnhblhhkjnmkkaaQ16
namespace Go.Proofs.Ytnhblhhkjnmkkaa.Q
open Go.RowKit Go.Proofs.YtnhblhhkjnmkkaaW.PrintWords Go.Proofs.YtnhblhhkjnmkkaaW.PrintLast Go.Proofs.YtnhblhhkjnmkkaaW.PrintMore
open Go.Proofs.Ytnhblhhkjnmkkaa.Sp Go.Proofs.Ytnhblhhkjnmkkaa.Va
set_option linter.unusedVariables false
set_option linter.unusedSimpArgs false
theorem rdecode_back (first : Int) (most id kind : Nat) (s : ByteArray) (h1 : id ≤ 2147483647) (h2 : 1 ≤ kind) (h3 : kind ≤ 6) (h4 : s.size ≤ most) (hm : most ≤ 9223372036854775807) :
    rdecode first most ([first] ++ putv id ++ putv kind ++ putv s.size ++ bytesOf s) = some (id, kind, s) := by
  have e : [first] ++ putv id ++ putv kind ++ putv s.size ++ bytesOf s = first :: (putv id ++ (putv kind ++ (putv s.size ++ bytesOf s ++ []))) := by simp
  rw [e]
  unfold rdecode
  simp only [ropen, if_true, Option.bind_some, rnum_put 2147483647 id _ h1 (by omega), rnum_put 6 kind _ h3 (by omega), rtext_put most s [] h4 hm]
  rw [if_pos ⟨trivial, h2⟩]
theorem decode_f_back (a0 a1 a2 : Int) (s : ByteArray) (most : Nat) (h0 : 0 ≤ a0 ∧ a0 ≤ 255) (h1 : 0 ≤ a1) (h2 : a1 ≤ 2147483647) (h3 : 1 ≤ a2) (h4 : a2 ≤ 6) (h5 : s.size ≤ most) (hm : most ≤ 1000000000) :
    admin_decode.f ([a0] ++ putv a1.toNat ++ putv a2.toNat ++ putv s.size ++ bytesOf s) a0 (most : Int) = some (a1, a2, s, 0) := by
  have b1 := put_len a1.toNat (by omega)
  have b2 := put_len a2.toNat (by omega)
  have b3 := put_len s.size (by omega)
  have b4 := bytesOf_length s
  have hB : Bytes ([a0] ++ putv a1.toNat ++ putv a2.toNat ++ putv s.size ++ bytesOf s) := by
    refine Bytes.append (Bytes.append (Bytes.append (Bytes.append ?_ (putv_bytes _)) (putv_bytes _)) (putv_bytes _)) (bytesOf_bytes s)
    intro x hx
    rw [List.mem_singleton] at hx
    subst hx; exact h0
  unfold admin_decode.f
  rw [if_pos ⟨hB, by simp only [List.length_append, List.length_cons, List.length_nil]; omega, by omega, by omega⟩]
  rw [show ((most : Int)).toNat = most from by omega, rdecode_back a0 most a1.toNat a2.toNat s (by omega) (by omega) (by omega) h5 (by omega)]
  simp only []
  rw [show ((a1.toNat : Nat) : Int) = a1 from by omega, show ((a2.toNat : Nat) : Int) = a2 from by omega]
theorem ref_asked_f (a0 a1 : Int) : turncockref1_asked.f a0 a1 = some (decide (0 ≤ a0 ∧ a0 ≤ 2147483647 ∧ 1 ≤ a1 ∧ a1 ≤ 6)) := by
  unfold turncockref1_asked.f
  repeat' split
  all_goals first | (congr 1; exact decide_eq_decide.2 (by omega)) | (congr 1; exact (decide_eq_false (by omega)).symm)
theorem awake9 : turncocklaw9_awake.f = some true := rfl
end Go.Proofs.Ytnhblhhkjnmkkaa.Q
