/- The printed functions Get of the reference. -/
import Derived.Test.YtnhblhhkjnmkkaaQ9
import Derived.Test.YtnhblhhkjnmkkaaVa
namespace Go.Proofs.Ytnhblhhkjnmkkaa.Va
open Go.RowKit Go.Proofs.YtnhblhhkjnmkkaaW.PrintWords Go.Proofs.YtnhblhhkjnmkkaaW.PrintLast Go.Proofs.YtnhblhhkjnmkkaaW.PrintMore
open Go.Proofs.Ytnhblhhkjnmkkaa.Q Go.Proofs.Ytnhblhhkjnmkkaa.Sp
theorem ref_get_l0 (l : List Int) (hb : Bytes l) (hl : l.length ≤ 140737488355328) : ∀ (d k i acc : Nat), i + d = 9 → 3 * d + 3 ≤ k → i ≤ l.length → acc < 128 ^ i →
    turncockref1_Get.l0 k l (acc : Int) ((128 ^ i : Nat) : Int) (i : Int) = some (told (getv i acc (l.drop i))) := by
  intro d
  induction d with
  | zero =>
    intro k i acc hid hk hi hacc
    obtain rfl : i = 9 := by omega
    obtain ⟨k, rfl⟩ : ∃ m, k = m + 3 := ⟨k - 3, by omega⟩
    simp only [turncockref1_Get.l0, turncockref1_Get.j1]
    by_cases hlt : 9 < l.length
    · have hc := rd_byte hb 9 hlt
      rw [drop_at l 9 hlt]
      rw [if_pos (show ((9 : Nat) : Int) < (l.length : Int) from by omega), if_pos (show decide (((9 : Nat) : Int) < 10) = true from by decide), if_pos (show (0 : Int) ≤ ((9 : Nat) : Int) from by omega), if_pos (show ((9 : Nat) : Int) < (l.length : Int) from by omega), if_pos (show ((9 : Nat) : Int) = 9 from rfl)]
      simp only [getv, turncockref1_Get.j2]
      generalize rd l ((9 : Nat) : Int) = c at *
      by_cases h1 : c > 1
      · rw [if_pos (by simpa using h1), if_pos ⟨trivial, h1⟩]
        rfl
      · rw [if_neg (by simpa using h1), if_neg (show ¬ (True ∧ c > 1) from fun h => h1 h.2), if_pos (show c < 128 from by omega), if_neg (show ¬ c ≥ 128 from by omega)]
        rw [pow9] at hacc ⊢
        have e1 : Int.tmod c 128 = c := by rw [Int.tmod_eq_emod_of_nonneg (by omega)]; omega
        rw [e1, u64w (n := c) (by omega) (by omega), u64w (n := c * ((9223372036854775808 : Nat) : Int)) (by omega) (by omega), u64w (by omega) (by omega)]
        by_cases h3 : c = 0
        · rw [if_pos h3, if_pos (show ((9 : Nat) : Int) > 0 from by omega), if_pos (show c = 0 ∧ 9 > 0 from ⟨h3, by omega⟩)]
          rfl
        · rw [if_neg h3, if_neg (show ¬ (c = 0 ∧ 9 > 0) from fun h => h3 h.1), w64 (by omega) (by omega)]
          obtain rfl : c = 1 := by omega
          rfl
    · rw [if_neg (show ¬ ((9 : Nat) : Int) < (l.length : Int) from by omega)]
      rw [if_neg (by decide)]
      rw [List.drop_eq_nil_of_le (by omega)]
      rfl
  | succ d ih =>
    intro k i acc hid hk hi hacc
    obtain ⟨k, rfl⟩ : ∃ m, k = m + 3 := ⟨k - 3, by omega⟩
    simp only [turncockref1_Get.l0, turncockref1_Get.j1]
    by_cases hlt : i < l.length
    · have hc := rd_byte hb i hlt
      rw [drop_at l i hlt]
      rw [if_pos (show (i : Int) < (l.length : Int) from by omega), if_pos (show decide ((i : Int) < 10) = true from decide_eq_true (by omega)), if_pos (show (0 : Int) ≤ (i : Int) from by omega), if_pos (show (i : Int) < (l.length : Int) from by omega), if_neg (show ¬ (i : Int) = 9 from by omega)]
      simp only [getv, turncockref1_Get.j2]
      generalize rd l (i : Int) = c at *
      have hle : 128 ^ i ≤ 128 ^ 8 := Nat.pow_le_pow_right (by omega) (by omega)
      have e8 : (128 : Nat) ^ 8 = 72057594037927936 := by decide
      obtain ⟨n, rfl⟩ := Int.eq_ofNat_of_zero_le hc.1
      have hm : n % 128 * 128 ^ i ≤ 127 * 128 ^ i := Nat.mul_le_mul_right _ (by omega)
      have e1 : Int.tmod (n : Int) 128 = ((n % 128 : Nat) : Int) := by rw [Int.tmod_eq_emod_of_nonneg (by omega)]; omega
      have e2 : ((n % 128 : Nat) : Int) * ((128 ^ i : Nat) : Int) = ((n % 128 * 128 ^ i : Nat) : Int) := by rw [Int.natCast_mul]
      rw [e1, u64w (n := ((n % 128 : Nat) : Int)) (by omega) (by omega), e2, u64w (n := ((n % 128 * 128 ^ i : Nat) : Int)) (by omega) (by omega), u64w (n := (acc : Int) + ((n % 128 * 128 ^ i : Nat) : Int)) (by omega) (by omega), w64 (n := (i : Int) + 1) (by omega) (by omega), if_neg (show ¬ (i = 9 ∧ (n : Int) > 1) from fun h => by omega)]
      rw [show (acc : Int) + ((n % 128 * 128 ^ i : Nat) : Int) = ((acc + n % 128 * 128 ^ i : Nat) : Int) from by omega]
      rw [Int.toNat_natCast]
      by_cases h2 : (n : Int) < 128
      · rw [if_pos h2, if_neg (show ¬ (n : Int) ≥ 128 from by omega)]
        have e : n % 128 = n := by omega
        rw [e]
        by_cases h3 : (n : Int) = 0
        · rw [if_pos h3]
          by_cases h4 : (i : Int) > 0
          · rw [if_pos h4, if_pos (show (n : Int) = 0 ∧ i > 0 from ⟨h3, by omega⟩)]
            rfl
          · rw [if_neg h4, if_neg (show ¬ ((n : Int) = 0 ∧ i > 0) from fun h => by omega)]
            rfl
        · rw [if_neg h3, if_neg (show ¬ ((n : Int) = 0 ∧ i > 0) from fun h => h3 h.1)]
          rfl
      · rw [if_neg h2, if_pos (show (n : Int) ≥ 128 from by omega)]
        have e : n % 128 = n - 128 := by omega
        rw [e] at hm ⊢
        have e3 : ((128 ^ i : Nat) : Int) * 128 = ((128 ^ (i + 1) : Nat) : Int) := by rw [Nat.pow_succ, Int.natCast_mul]; rfl
        have e4 : 128 ^ (i + 1) = 128 ^ i * 128 := Nat.pow_succ ..
        rw [e3, u64w (n := ((128 ^ (i + 1) : Nat) : Int)) (by omega) (by omega), show ((i : Int) + 1) = ((i + 1 : Nat) : Int) from by omega]
        exact ih k (i + 1) _ (by omega) (by omega) (by omega) (by omega)
    · rw [if_neg (show ¬ (i : Int) < (l.length : Int) from by omega)]
      rw [if_neg (by decide)]
      rw [List.drop_eq_nil_of_le (by omega)]
      rfl

theorem ref_get_f (l : List Int) (hb : Bytes l) (hl : l.length ≤ 140737488355328) (k : Nat) (hk : 30 ≤ k) : turncockref1_Get.f k l = some (told (getv 0 0 l)) := by
  have h := ref_get_l0 l hb hl 9 k 0 0 (by omega) (by omega) (by omega) (by omega)
  rw [show ((128 ^ 0 : Nat) : Int) = 1 from rfl] at h
  exact h

end Go.Proofs.Ytnhblhhkjnmkkaa.Va
