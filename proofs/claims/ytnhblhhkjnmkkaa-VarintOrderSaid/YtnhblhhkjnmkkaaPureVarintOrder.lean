/- VarintOrder, as plain Lean: a greater number has no fewer bytes; each byte more stands for seven bits more. No condition beyond the row's own. -/
import Derived.Test.YtnhblhhkjnmkkaaQ7
import Derived.Test.YtnhblhhkjnmkkaaVa
namespace Go.Proofs.Ytnhblhhkjnmkkaa.Pure
open Go.RowKit Go.Proofs.Ytnhblhhkjnmkkaa.Q Go.Proofs.YtnhblhhkjnmkkaaW.PrintWords Go.Proofs.YtnhblhhkjnmkkaaW.PrintLast Go.Proofs.YtnhblhhkjnmkkaaW.PrintMore
open Go.Proofs.Ytnhblhhkjnmkkaa.Sp Go.Proofs.Ytnhblhhkjnmkkaa.Va
theorem shr_nat (v n : Nat) (hn : n ≤ 9) : shr .u64 (v : Int) (7 * (n : Int)) = ((v / 128 ^ n : Nat) : Int) := by
  unfold shr
  rw [show (7 * (n : Int)).toNat = 7 * n from by omega, Nat.min_eq_left (by show 7 * n ≤ 64; omega)]
  rw [show ((2 : Int) ^ (7 * n)) = ((2 ^ (7 * n) : Nat) : Int) from by push_cast; rfl, pow7]
  exact (Int.natCast_ediv v _).symm
theorem VarintOrder : turncocklaw2_VarintOrder.Pure := by
  intro a0 a1 h0 h1
  obtain ⟨v, rfl, hv⟩ := nat_of_wf h0
  obtain ⟨w, rfl, hw⟩ := nat_of_wf h1
  refine ⟨30, ?_⟩
  obtain ⟨hi, ehi, hhi⟩ : ∃ hi : Nat, mx (v : Int) (w : Int) = (hi : Int) ∧ hi < 18446744073709551616 := by
    unfold mx
    split
    · exact ⟨w, rfl, hw⟩
    · exact ⟨v, rfl, hv⟩
  obtain ⟨lo, elo, hlo⟩ : ∃ lo : Nat, mn (v : Int) (w : Int) = (lo : Int) ∧ lo ≤ hi := by
    unfold mx at ehi
    unfold mn
    split at ehi
    · split
      · exact ⟨w, rfl, by omega⟩
      · exact ⟨v, rfl, by omega⟩
    · split
      · exact ⟨w, rfl, by omega⟩
      · exact ⟨v, rfl, by omega⟩
  unfold turncocklaw2_VarintOrder.f
  rw [ehi, elo, len_f hi hhi 30 (by omega), len_f lo (by omega) 30 (by omega), awake2]
  have hmono := putv_mono lo hi hlo
  have hpos := putv_pos hi
  have h10 := putv_le10 hi hhi
  obtain ⟨g1, g2⟩ := putv_len hi
  generalize (putv hi).length = n at *
  generalize (putv lo).length = m at *
  simp only [Option.bind_some]
  have hs : n < 10 → shr .u64 (hi : Int) (7 * (n : Int)) = 0 := fun h => by
    rw [shr_nat hi n (by omega), Nat.div_eq_of_lt g1]
    rfl
  rw [if_pos (show (m : Int) ≤ (n : Int) from by omega), if_pos (show (n : Int) ≥ 1 from by omega), if_pos (show (n : Int) ≤ 10 from by omega)]
  rw [u64w (n := (n : Int)) (by omega) (by omega), u64w (n := 7 * (n : Int)) (by omega) (by omega), w64 (n := (n : Int) - 1) (by omega) (by omega), u64w (n := (n : Int) - 1) (by omega) (by omega), u64w (n := 7 * ((n : Int) - 1)) (by omega) (by omega)]
  by_cases e1 : n = 1
  · subst e1
    rw [if_pos (show ((1 : Nat) : Int) = 1 from rfl), if_neg (show ¬ ((1 : Nat) : Int) = 10 from by omega), if_pos (show (0 : Int) ≤ 7 * ((1 : Nat) : Int) from by omega), if_pos (hs (by omega))]
  · rw [if_neg (show ¬ (n : Int) = 1 from by omega), if_pos (show (0 : Int) ≤ 7 * ((n : Int) - 1) from by omega)]
    have hp : shr .u64 (hi : Int) (7 * ((n : Int) - 1)) > 0 := by
      rw [show ((n : Int) - 1) = ((n - 1 : Nat) : Int) from by omega, shr_nat hi (n - 1) (by omega)]
      have h3 := Nat.div_pos (g2 (by omega)) (pow_pos' (n - 1))
      omega
    rw [if_pos hp]
    by_cases e2 : n = 10
    · rw [if_pos (show (n : Int) = 10 from by omega)]
    · rw [if_neg (show ¬ (n : Int) = 10 from by omega), if_pos (show (0 : Int) ≤ 7 * (n : Int) from by omega), if_pos (hs (by omega))]
end Go.Proofs.Ytnhblhhkjnmkkaa.Pure
