/- Plain: the reference's sameness of descriptors and requests comes to equality. -/
import Derived.Test.YtnhblhhkjnmkkaaSm
import Derived.Test.YtnhblhhkjnmkkaaQ33
import Derived.Test.YtnhblhhkjnmkkaaQ34
namespace Go.Proofs.Ytnhblhhkjnmkkaa.Q
open Go.RowKit Go.Proofs.YtnhblhhkjnmkkaaW.PrintWords Go.Proofs.YtnhblhhkjnmkkaaW.PrintLast Go.Proofs.YtnhblhhkjnmkkaaW.PrintMore
open Go.Proofs.Ytnhblhhkjnmkkaa.Sp Go.Proofs.Ytnhblhhkjnmkkaa.Va
set_option linter.unusedVariables false
set_option linter.unusedSimpArgs false
theorem ref_same_l0 (es fs : List S142) (hl : es.length = fs.length) (hs : es.length ≤ 1000000000) : ∀ (d k i : Nat), es.length - i ≤ d → i ≤ es.length → d + 1 ≤ k → turncockref1_SameDesc.l0 k (i : Int) es fs = some (decide (es.drop i = fs.drop i)) := by
  intro d
  induction d with
  | zero =>
    intro k i h1 h2 h3
    obtain ⟨k, rfl⟩ : ∃ j, k = j + 1 := ⟨k - 1, by omega⟩
    simp only [turncockref1_SameDesc.l0]
    rw [if_neg (by omega), List.drop_eq_nil_of_le (by omega), List.drop_eq_nil_of_le (by omega)]; simp
  | succ d ih =>
    intro k i h1 h2 h3
    obtain ⟨k, rfl⟩ : ∃ j, k = j + 1 := ⟨k - 1, by omega⟩
    simp only [turncockref1_SameDesc.l0]
    by_cases hi : i < es.length
    · rw [if_pos (by omega), if_pos (by omega), if_pos (by omega), entry_ne, drop_T142 es i hi, drop_T142 fs i (by omega)]
      by_cases c : rd_T142 es (i : Int) = rd_T142 fs (i : Int)
      · rw [if_neg (by simp [c]), w64 (by omega) (by omega), show ((i : Int) + 1) = ((i + 1 : Nat) : Int) from by omega, ih k (i + 1) (by omega) (by omega) (by omega)]
        simp [c]
      · rw [if_pos (by simp [c])]; simp [c]
    · rw [if_neg (by omega), List.drop_eq_nil_of_le (by omega), List.drop_eq_nil_of_le (by omega)]; simp
theorem ref_same_f (es fs : List S142) (hs : es.length ≤ 1000000000) (k : Nat) (hk : es.length + 1 ≤ k) : turncockref1_SameDesc.f k es fs = some (decide (es = fs)) := by
  unfold turncockref1_SameDesc.f
  by_cases c : (es.length : Int) = (fs.length : Int)
  · have h := ref_same_l0 es fs (by omega) hs es.length k 0 (by omega) (by omega) (by omega)
    rw [show ((0 : Nat) : Int) = 0 from rfl] at h
    rw [if_pos c, h]; rfl
  · rw [if_neg c, decide_eq_false (fun e => c (by rw [e]))]
theorem ref_sameA_l0 (a0 : Int) (s : ByteArray) (a2 : Int) (ds : List S140) (b0 : Int) (t : ByteArray) (b2 : Int) (fs : List S140) (hl : ds.length = fs.length) (M : Nat) (hM : M ≤ 1000000000) (hs : ds.length ≤ M ∧ ∀ d ∈ ds, d.f0.length ≤ M) : ∀ (d k i : Nat), ds.length - i ≤ d → i ≤ ds.length → d + M + 2 ≤ k → turncockref1_SameAsk.l0 k (i : Int) a0 s a2 ds b0 t b2 fs = some (decide (ds.drop i = fs.drop i)) := by
  intro d
  induction d with
  | zero =>
    intro k i h1 h2 h3
    obtain ⟨k, rfl⟩ : ∃ j, k = j + 1 := ⟨k - 1, by omega⟩
    simp only [turncockref1_SameAsk.l0]
    rw [if_neg (by omega), List.drop_eq_nil_of_le (by omega), List.drop_eq_nil_of_le (by omega)]; simp
  | succ d ih =>
    intro k i h1 h2 h3
    obtain ⟨k, rfl⟩ : ∃ j, k = j + 1 := ⟨k - 1, by omega⟩
    simp only [turncockref1_SameAsk.l0]
    by_cases hi : i < ds.length
    · have hd := drop_T140 ds i hi
      have hm : rd_T140 ds (i : Int) ∈ ds := List.mem_of_mem_drop (i := i) (by rw [hd]; exact List.mem_cons_self ..)
      have hz := hs.2 _ hm
      have h0 := hs.1
      rw [if_pos (by omega), if_pos (by omega), if_pos (by omega), ref_same_f _ _ (by omega) k (by omega), hd, drop_T140 fs i (by omega)]
      simp only [Option.bind_some]
      by_cases c : (rd_T140 ds (i : Int)).f0 = (rd_T140 fs (i : Int)).f0
      · have e : rd_T140 ds (i : Int) = rd_T140 fs (i : Int) := by
          revert c; generalize rd_T140 ds (i : Int) = x; generalize rd_T140 fs (i : Int) = y; intro c; cases x; cases y; simp_all
        rw [if_pos (by simp [c]), w64 (by omega) (by omega), show ((i : Int) + 1) = ((i + 1 : Nat) : Int) from by omega, ih k (i + 1) (by omega) (by omega) (by omega)]
        simp [e]
      · have e : rd_T140 ds (i : Int) ≠ rd_T140 fs (i : Int) := fun e => c (by rw [e])
        rw [if_neg (by simp [c])]; simp [e]
    · rw [if_neg (by omega), List.drop_eq_nil_of_le (by omega), List.drop_eq_nil_of_le (by omega)]; simp
theorem ref_sameA_f (a0 : Int) (s : ByteArray) (a2 : Int) (ds : List S140) (b0 : Int) (t : ByteArray) (b2 : Int) (fs : List S140) (M : Nat) (hM : M ≤ 1000000000) (hs : ds.length ≤ M ∧ ∀ d ∈ ds, d.f0.length ≤ M) (k : Nat) (hk : 2 * M + 4 ≤ k) : turncockref1_SameAsk.f k a0 s a2 ds b0 t b2 fs = some (decide (a0 = b0 ∧ s = t ∧ a2 = b2 ∧ ds = fs)) := by
  obtain ⟨k, rfl⟩ : ∃ j, k = j + 1 := ⟨k - 1, by omega⟩
  unfold turncockref1_SameAsk.f
  simp only [turncockref1_SameAsk.j0]
  by_cases c0 : a0 = b0
  · rw [if_pos c0]
    by_cases c1 : s = t
    · rw [if_pos (by rw [c1])]
      by_cases c2 : a2 = b2
      · rw [if_pos c2]
        by_cases c3 : ds.length = fs.length
        · rw [if_neg (by simp [c3])]
          have h := ref_sameA_l0 a0 s a2 ds b0 t b2 fs c3 M hM hs ds.length k 0 (by omega) (by omega) (by have := hs.1; omega)
          rw [show ((0 : Nat) : Int) = 0 from rfl] at h
          rw [h]; simp [c0, c1, c2]
        · have e : ds ≠ fs := fun e => c3 (by rw [e])
          rw [if_pos (by simp; omega)]; simp [e]
      · rw [if_neg c2]; simp [c2]
    · rw [if_neg (fun e => c1 (str_inj e))]; simp [c1]
  · rw [if_neg c0]; simp [c0]
end Go.Proofs.Ytnhblhhkjnmkkaa.Q
