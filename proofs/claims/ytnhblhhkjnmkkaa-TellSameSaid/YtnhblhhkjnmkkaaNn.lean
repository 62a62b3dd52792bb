/- Plain: names: the printed checks of program and reference come to one plain test; small facts. -/
import Derived.Test.YtnhblhhkjnmkkaaVa
import Derived.Laws.Strings
import Derived.Test.YtnhblhhkjnmkkaaQ15
namespace Go.Proofs.Ytnhblhhkjnmkkaa.Q
open Go.RowKit Go.Proofs.YtnhblhhkjnmkkaaW.PrintWords Go.Proofs.YtnhblhhkjnmkkaaW.PrintLast Go.Proofs.YtnhblhhkjnmkkaaW.PrintMore
open Go.Proofs.Ytnhblhhkjnmkkaa.Sp Go.Proofs.Ytnhblhhkjnmkkaa.Va
set_option linter.unusedVariables false
set_option linter.unusedSimpArgs false
/-- A sign of a name. -/
def signB (b : Int) : Bool := decide (33 ≤ b) && decide (b ≤ 126)
def nameB (s : ByteArray) : Bool := decide (1 ≤ s.size ∧ s.size ≤ 64) && (bytesOf s).all signB
theorem drop_bt (s : ByteArray) (i : Nat) (h : i < s.size) : (bytesOf s).drop i = bt s (i : Int) :: (bytesOf s).drop (i + 1) := by
  rw [drop_at (bytesOf s) i (by rw [bytesOf_length]; exact h), rd_bytesOf]
theorem name_l0 (s : ByteArray) (hs : s.size ≤ 1000000000) : ∀ (d k i : Nat), s.size - i ≤ d → i ≤ s.size → d + 1 ≤ k → desc_Name.l0 k s (s.size : Int) (i : Int) = some (decide (1 ≤ s.size ∧ s.size ≤ 64) && ((bytesOf s).drop i).all signB) := by
  intro d
  induction d with
  | zero =>
    intro k i h1 h2 h3
    obtain ⟨k, rfl⟩ : ∃ j, k = j + 1 := ⟨k - 1, by omega⟩
    simp only [desc_Name.l0]
    have hi : i = s.size := by omega
    rw [if_neg (by omega), List.drop_eq_nil_of_le (by rw [bytesOf_length]; omega)]
    by_cases c : (s.size : Int) ≥ 1
    · rw [if_pos c, List.all_nil, Bool.and_true]; exact congrArg some (decide_eq_decide.2 (by omega))
    · rw [if_neg c, List.all_nil, Bool.and_true]; exact congrArg some (decide_eq_false (by omega)).symm
  | succ d ih =>
    intro k i h1 h2 h3
    obtain ⟨k, rfl⟩ : ∃ j, k = j + 1 := ⟨k - 1, by omega⟩
    simp only [desc_Name.l0]
    by_cases hi : i < s.size
    · rw [if_pos (by omega), if_pos (by omega), if_pos (by omega), drop_bt s i hi]
      by_cases c1 : bt s (i : Int) < 33
      · rw [if_pos c1]; simp [signB]; intro; omega
      · rw [if_neg c1]
        by_cases c2 : bt s (i : Int) > 126
        · rw [if_pos c2]; simp [signB]; intro; omega
        · rw [if_neg c2, w64 (by omega) (by omega), show ((i : Int) + 1) = ((i + 1 : Nat) : Int) from by omega, ih k (i + 1) (by omega) (by omega) (by omega)]
          have e : signB (bt s (i : Int)) = true := by simp [signB]; omega
          simp [e]
    · have hi : i = s.size := by omega
      rw [if_neg (by omega), List.drop_eq_nil_of_le (by rw [bytesOf_length]; omega)]
      by_cases c : (s.size : Int) ≥ 1
      · rw [if_pos c, List.all_nil, Bool.and_true]; exact congrArg some (decide_eq_decide.2 (by omega))
      · rw [if_neg c, List.all_nil, Bool.and_true]; exact congrArg some (decide_eq_false (by omega)).symm
theorem name_f (s : ByteArray) (hs : s.size ≤ 1000000000) (k : Nat) (hk : s.size + 1 ≤ k) : desc_Name.f k s = some (nameB s) := by
  unfold desc_Name.f
  have h := name_l0 s hs s.size k 0 (by omega) (by omega) hk
  simpa [nameB] using h
theorem ref_name_l0 (s : ByteArray) (hs : s.size ≤ 1000000000) : ∀ (d k i : Nat), s.size - i ≤ d → i ≤ s.size → d + 1 ≤ k → turncockref1_Name.l0 k s (i : Int) = some (((bytesOf s).drop i).all signB) := by
  intro d
  induction d with
  | zero =>
    intro k i h1 h2 h3
    obtain ⟨k, rfl⟩ : ∃ j, k = j + 1 := ⟨k - 1, by omega⟩
    simp only [turncockref1_Name.l0]
    rw [if_neg (by omega), List.drop_eq_nil_of_le (by rw [bytesOf_length]; omega)]
    rfl
  | succ d ih =>
    intro k i h1 h2 h3
    obtain ⟨k, rfl⟩ : ∃ j, k = j + 1 := ⟨k - 1, by omega⟩
    simp only [turncockref1_Name.l0]
    by_cases hi : i < s.size
    · rw [if_pos (by omega), if_pos (by omega), drop_bt s i hi]
      by_cases c1 : bt s (i : Int) < 33
      · rw [if_pos c1]; simp [signB]; intro; omega
      · rw [if_neg c1]
        by_cases c2 : bt s (i : Int) > 126
        · rw [if_pos c2]; simp [signB]; intro; omega
        · rw [if_neg c2, w64 (by omega) (by omega), show ((i : Int) + 1) = ((i + 1 : Nat) : Int) from by omega, ih k (i + 1) (by omega) (by omega) (by omega)]
          have e : signB (bt s (i : Int)) = true := by simp [signB]; omega
          simp [e]
    · rw [if_neg (by omega), List.drop_eq_nil_of_le (by rw [bytesOf_length]; omega)]
      rfl
theorem ref_name_f (s : ByteArray) (hs : s.size ≤ 1000000000) (k : Nat) (hk : s.size + 2 ≤ k) : turncockref1_Name.f k s = some (nameB s) := by
  obtain ⟨k, rfl⟩ : ∃ j, k = j + 1 := ⟨k - 1, by omega⟩
  unfold turncockref1_Name.f
  simp only [turncockref1_Name.j0]
  have h := ref_name_l0 s hs s.size k 0 (by omega) (by omega) (by omega)
  by_cases c : (s.size : Int) < 1
  · rw [if_pos c]; simp [nameB]; intro; omega
  · rw [if_neg c]
    by_cases c2 : (s.size : Int) > 64
    · rw [if_pos (by simpa using c2)]; simp [nameB]; intro; omega
    · rw [if_neg (by simpa using c2)]
      rw [show ((0 : Nat) : Int) = 0 from rfl, List.drop_zero] at h
      rw [h, nameB, decide_eq_true (by omega), Bool.true_and]
theorem putv_len9 {v : Nat} (h : v ≤ 9223372036854775807) : (putv v).length ≤ 10 := putv_le10 v (by omega)
theorem all_take {α : Type} (p : α → Bool) (l : List α) (i : Nat) (h : l.all p = true) : (l.take i).all p = true := by
  rw [List.all_eq_true] at h ⊢
  exact fun x hx => h x (List.mem_of_mem_take hx)
theorem str_toList (s : ByteArray) : s.toList = s.data.toList := ByteArray.toList_eq s
theorem str_inj {a b : ByteArray} (h : a.toList = b.toList) : a = b := by
  rw [str_toList, str_toList] at h
  exact ByteArray.ext (Array.toList_inj.1 h)
theorem str_beq (a b : ByteArray) : (a.toList == b.toList) = decide (a = b) := by
  by_cases h : a = b
  · subst h; simp
  · rw [decide_eq_false h]
    exact beq_eq_false_iff_ne.2 fun e => h (str_inj e)
end Go.Proofs.Ytnhblhhkjnmkkaa.Q
