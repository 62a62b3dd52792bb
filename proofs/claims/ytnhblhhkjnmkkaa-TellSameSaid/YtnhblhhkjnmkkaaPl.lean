/- Plain facts of what is written and read back: numbers and texts of a message; the reference's num and text. -/
import Derived.Test.YtnhblhhkjnmkkaaRd
import Derived.Test.YtnhblhhkjnmkkaaQ13
namespace Go.Proofs.Ytnhblhhkjnmkkaa.Q
open Go.RowKit Go.Proofs.YtnhblhhkjnmkkaaW.PrintWords Go.Proofs.YtnhblhhkjnmkkaaW.PrintLast Go.Proofs.YtnhblhhkjnmkkaaW.PrintMore
open Go.Proofs.Ytnhblhhkjnmkkaa.Sp Go.Proofs.Ytnhblhhkjnmkkaa.Va
set_option linter.unusedVariables false
set_option linter.unusedSimpArgs false
theorem str_back (s : ByteArray) : strOfNums (bytesOf s) = s := by
  apply ByteArray.ext
  rw [← Array.toList_inj]
  simp [strOfNums, bytesOf, List.map_map, Function.comp_def]
theorem bytesOf_bytes (s : ByteArray) : Bytes (bytesOf s) := by
  intro x hx
  simp only [bytesOf, List.mem_map] at hx
  obtain ⟨b, _, rfl⟩ := hx
  have := b.toNat_lt
  omega
theorem same_self (l : List Int) : turncockref1_Bytes.f l l = some true := by simp [turncockref1_Bytes.f]
theorem rnum_put (most v : Nat) (tail : List Int) (h : v ≤ most) (hm : most ≤ 9223372036854775807) : rnum most (putv v ++ tail) = some (v, tail) := by
  have hg := getv_putv v 0 0 tail (by omega) (Or.inl rfl)
  simp only [Nat.pow_zero, Nat.mul_one, Nat.zero_add] at hg
  unfold rnum
  rw [hg]
  simp [h]
theorem rtext_put (most : Nat) (s : ByteArray) (tail : List Int) (h : s.size ≤ most) (hm : most ≤ 9223372036854775807) : rtext most (putv s.size ++ bytesOf s ++ tail) = some (s, tail) := by
  unfold rtext
  rw [List.append_assoc, rnum_put most s.size _ h hm]
  have hl := bytesOf_length s
  simp only [Option.bind_some, List.length_append, hl]
  rw [if_pos (by omega), List.take_left' hl, List.drop_left' hl, str_back]
theorem ref_num_f (l : List Int) (n : Int) (h0 : 0 ≤ n) (h1 : n ≤ 9223372036854775807) (k : Nat) (hk : 10 ≤ k) (hl : l.length ≤ 140737488350000) : turncockref1_num.f k l n = some (l ++ putv n.toNat) := by
  have h10 := putv_le10 n.toNat (by omega)
  have h := ref_put_f n.toNat (by omega) l k (by omega) (by omega)
  rw [show ((n.toNat : Nat) : Int) = n from by omega] at h
  unfold turncockref1_num.f
  rw [u64w h0 (by omega), h]
  rfl
theorem ref_text_f (l : List Int) (s : ByteArray) (k : Nat) (hk : 10 ≤ k) (hs : s.size ≤ 1000000000) (hl : l.length ≤ 140736488350000) : turncockref1_text.f k l s = some (l ++ putv s.size ++ bytesOf s) := by
  have h10 := putv_le10 s.size (by omega)
  have h := ref_put_f s.size (by omega) l k (by omega) (by omega)
  unfold turncockref1_text.f
  rw [u64w (by omega) (by omega), h]
  simp only [Option.bind_some, List.length_append]
  rw [if_pos (by omega)]
theorem put_len (v : Nat) (h : v ≤ 9223372036854775807) : (putv v).length ≤ 10 := putv_le10 v (by omega)
end Go.Proofs.Ytnhblhhkjnmkkaa.Q
