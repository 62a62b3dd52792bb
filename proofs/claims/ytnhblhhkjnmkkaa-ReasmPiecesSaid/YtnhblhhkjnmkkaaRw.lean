/- What the reasm laws' walks share: the weight of pieces; two readers beside each other. -/
import Derived.Test.YtnhblhhkjnmkkaaRa
import Derived.Test.YtnhblhhkjnmkkaaRb
import Derived.Test.YtnhblhhkjnmkkaaAw4
import Derived.Test.YtnhblhhkjnmkkaaQ28
import Derived.Test.YtnhblhhkjnmkkaaQ12
namespace Go.Proofs.Ytnhblhhkjnmkkaa.Q
open Go.RowKit Go.Proofs.YtnhblhhkjnmkkaaW.PrintWords Go.Proofs.YtnhblhhkjnmkkaaW.PrintLast Go.Proofs.YtnhblhhkjnmkkaaW.PrintMore
open Go.Proofs.Ytnhblhhkjnmkkaa.Sp Go.Proofs.Ytnhblhhkjnmkkaa.Va Go.Proofs.Ytnhblhhkjnmkkaa.Fr
set_option linter.unusedVariables false
set_option linter.unusedSimpArgs false
def tot (l : List (List Int)) : Nat := (l.map List.length).sum
theorem tot_cons (b : List Int) (l : List (List Int)) : tot (b :: l) = b.length + tot l := by simp [tot]
theorem drop_L1 (l : List (List Int)) (i : Nat) (h : i < l.length) : l.drop i = rd_L1 l (i : Int) :: l.drop (i + 1) := by
  rw [List.drop_eq_getElem_cons h, rd_L1, Int.toNat_natCast, List.getD_eq_getElem?_getD, List.getElem?_eq_getElem h]; rfl
theorem mem_L1 (l : List (List Int)) (i : Nat) (h : i < l.length) : rd_L1 l (i : Int) ∈ l := List.mem_of_mem_drop (i := i) (by rw [drop_L1 l i h]; exact List.mem_cons_self ..)
theorem weight_l0 (l : List (List Int)) (hl : l.length ≤ 100000000000000) : ∀ (d i : Nat) (n : Int), l.length - i ≤ d → i ≤ l.length → 0 ≤ n → n ≤ 1000000000000000 → ∃ r, (∀ k, d + 1 ≤ k → turncocklaw4_weight.l0 k l n (i : Int) = some r) ∧ (r ≤ 5000 → n + (tot (l.drop i) : Int) ≤ 5000) := by
  have out : ∀ (d i : Nat) (n : Int), ¬ (i < l.length ∧ n ≤ 5000) → i ≤ l.length → ∃ r, (∀ k, d + 1 ≤ k → turncocklaw4_weight.l0 k l n (i : Int) = some r) ∧ (r ≤ 5000 → n + (tot (l.drop i) : Int) ≤ 5000) := by
    intro d i n h1 h2
    refine ⟨n, fun k hk => ?_, fun hv => ?_⟩
    · obtain ⟨k, rfl⟩ : ∃ j, k = j + 1 := ⟨k - 1, by omega⟩
      simp only [turncocklaw4_weight.l0]
      by_cases hi : i < l.length
      · rw [if_pos (by omega), if_neg (by omega)]
      · rw [if_neg (by omega)]
    · rw [List.drop_eq_nil_of_le (by omega)]
      simp [tot]; omega
  intro d
  induction d with
  | zero => intro i n h1 h2 h3 h4; exact out 0 i n (by omega) h2
  | succ d ih =>
    intro i n h1 h2 h3 h4
    by_cases hi : i < l.length ∧ n ≤ 5000
    · have q0 : 0 ≤ mn ((rd_L1 l (i : Int)).length : Int) 5001 ∧ mn ((rd_L1 l (i : Int)).length : Int) 5001 ≤ 5001 := by unfold mn; split <;> omega
      obtain ⟨r, hk, hb⟩ := ih (i + 1) (n + mn ((rd_L1 l (i : Int)).length : Int) 5001) (by omega) (by omega) (by omega) (by omega)
      refine ⟨r, fun k hK => ?_, fun hv => ?_⟩
      · obtain ⟨k, rfl⟩ : ∃ j, k = j + 1 := ⟨k - 1, by omega⟩
        simp only [turncocklaw4_weight.l0]
        rw [if_pos (by omega), if_pos hi.2, if_pos (by omega), w64 (n := n + mn _ 5001) (by omega) (by omega), w64 (n := (i : Int) + 1) (by omega) (by omega)]
        exact hk k (by omega)
      · have h5 := hb hv
        rw [drop_L1 l i hi.1, tot_cons]
        have r0 : mn ((rd_L1 l (i : Int)).length : Int) 5001 ≤ 5000 := by omega
        have r1 : mn ((rd_L1 l (i : Int)).length : Int) 5001 = ((rd_L1 l (i : Int)).length : Int) := by
          unfold mn at r0 ⊢
          split at r0
          · omega
          · rename_i hc; rw [if_neg hc]
        omega
    · exact out _ i n hi h2
theorem weight_f (l : List (List Int)) (hl : l.length * 24 ≤ 140737488351232) : ∃ r, (∀ k, l.length + 1 ≤ k → turncocklaw4_weight.f k l = some r) ∧ (r ≤ 5000 → l.length ≤ 5000 ∧ tot l ≤ 5000) ∧ (r ≤ 3000 → tot l ≤ 5000) := by
  obtain ⟨r, hk, hb⟩ := weight_l0 l (by omega) l.length 0 (l.length : Int) (by omega) (by omega) (by omega) (by omega)
  rw [List.drop_zero] at hb
  exact ⟨r, fun k hK => hk k hK, fun hr => by have := hb hr; omega, fun hr => by have := hb (by omega); omega⟩
/-- A reader over another's feeding. -/
theorem Rdr.kept {W0 W W1 : World} {g g' : Nat} {t : TypeId} {most : Int} {w : List Int} {off : Bool} {u : Value} {row : Option Nat} {t' : TypeId} {cells : Array Value} (h : Rdr W0 W g t most w off u) (hk : KeepBut W W1 g' row) (hg : g ≠ g') (hrow : some g ≠ row) (hap : ∀ k, u.ownBlock = some k → some k ≠ row) (hb : W.heap[g']? = some (.cells cells t' (0, 0))) (ht : 5 ≠ t') (hB : Below W0.heap.size W0 W1) : Rdr W0 W1 g t most w off u :=
  ⟨(hk.2 g (blk_lt h.1) hg hrow).trans h.1,
   Kd.R_mono (Kd.R_step (Kd.R_types (Kd.R_tight rfl h.2.1) hb (fun q hq => by rcases List.mem_cons.1 hq with rfl | hq; exact ht; cases hq)) (fun k hk' hlt => hk.2 k hlt hk'.2 (hap k hk'.1.symm))) (fun _ _ => trivial), hB, h.2.2.2⟩
theorem a4_awake (W : World) : Calls Try.prog 43 #[] W fun e w' => e = .returned (.bool true) ∧ Below W.heap.size W w' := turncocklaw4_awake.calls true W rfl
end Go.Proofs.Ytnhblhhkjnmkkaa.Q
