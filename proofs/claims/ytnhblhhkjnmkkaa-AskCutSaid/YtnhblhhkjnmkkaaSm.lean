/- Plain: sameness of descriptors and requests: the printed comparisons come to equality. -/
import Derived.Test.YtnhblhhkjnmkkaaNm
import Derived.Laws.Strings
import Derived.Test.YtnhblhhkjnmkkaaQ30
namespace Go.Proofs.Ytnhblhhkjnmkkaa.Q
open Go.RowKit Go.Proofs.YtnhblhhkjnmkkaaW.PrintWords Go.Proofs.YtnhblhhkjnmkkaaW.PrintLast Go.Proofs.YtnhblhhkjnmkkaaW.PrintMore
open Go.Proofs.Ytnhblhhkjnmkkaa.Sp Go.Proofs.Ytnhblhhkjnmkkaa.Va
set_option linter.unusedVariables false
set_option linter.unusedSimpArgs false
theorem str_toList (s : ByteArray) : s.toList = s.data.toList := ByteArray.toList_eq s
theorem str_inj {a b : ByteArray} (h : a.toList = b.toList) : a = b := by
  rw [str_toList, str_toList] at h
  exact ByteArray.ext (Array.toList_inj.1 h)
theorem str_beq (a b : ByteArray) : (a.toList == b.toList) = decide (a = b) := by
  by_cases h : a = b
  · subst h; simp
  · rw [decide_eq_false h]
    exact beq_eq_false_iff_ne.2 fun e => h (str_inj e)
instance : DecidableEq S142 := fun a b => decidable_of_iff (a.f0 = b.f0 ∧ a.f1 = b.f1) ⟨fun h => by cases a; cases b; simp_all, fun h => by subst h; exact ⟨rfl, rfl⟩⟩
instance : DecidableEq S140 := fun a b => decidable_of_iff (a.f0 = b.f0) ⟨fun h => by cases a; cases b; simp_all, fun h => by subst h; rfl⟩
theorem entry_ne (a b : S142) : (!(a.f0.toList == b.f0.toList) || !(a.f1.toList == b.f1.toList)) = !decide (a = b) := by
  rw [str_beq, str_beq]
  by_cases h : a = b
  · subst h; simp
  · rw [decide_eq_false h]
    by_cases h0 : a.f0 = b.f0
    · have h1 : a.f1 ≠ b.f1 := fun h1 => h (by cases a; cases b; simp_all)
      simp [h0, h1]
    · simp [h0]
theorem same_l0 (es fs : List S142) (hl : es.length = fs.length) (hs : es.length ≤ 1000000000) : ∀ (d k i : Nat), es.length - i ≤ d → i ≤ es.length → d + 1 ≤ k → api_Entry.l0 k es fs (es.length : Int) (i : Int) = some (decide (es.drop i = fs.drop i)) := by
  intro d
  induction d with
  | zero =>
    intro k i h1 h2 h3
    obtain ⟨k, rfl⟩ : ∃ j, k = j + 1 := ⟨k - 1, by omega⟩
    simp only [api_Entry.l0]
    rw [if_neg (by omega), List.drop_eq_nil_of_le (by omega), List.drop_eq_nil_of_le (by omega)]; simp
  | succ d ih =>
    intro k i h1 h2 h3
    obtain ⟨k, rfl⟩ : ∃ j, k = j + 1 := ⟨k - 1, by omega⟩
    simp only [api_Entry.l0]
    by_cases hi : i < es.length
    · rw [if_pos (by omega), if_pos (by omega), if_pos (by omega), if_pos (by omega), entry_ne, drop_T142 es i hi, drop_T142 fs i (by omega)]
      by_cases c : rd_T142 es (i : Int) = rd_T142 fs (i : Int)
      · rw [if_neg (by simp [c]), w64 (by omega) (by omega), show ((i : Int) + 1) = ((i + 1 : Nat) : Int) from by omega, ih k (i + 1) (by omega) (by omega) (by omega)]
        simp [c]
      · rw [if_pos (by simp [c])]; simp [c]
    · rw [if_neg (by omega), List.drop_eq_nil_of_le (by omega), List.drop_eq_nil_of_le (by omega)]; simp
theorem same_f (es fs : List S142) (hs : es.length ≤ 1000000000) (k : Nat) (hk : es.length + 1 ≤ k) : desc_Same.f k es fs = some (decide (es = fs)) := by
  unfold desc_Same.f api_Entry.f
  by_cases c : (es.length : Int) = (fs.length : Int)
  · have h := same_l0 es fs (by omega) hs es.length k 0 (by omega) (by omega) (by omega)
    rw [show ((0 : Nat) : Int) = 0 from rfl] at h
    rw [if_pos c, h]; rfl
  · rw [if_neg c, decide_eq_false (fun e => c (by rw [e]))]; rfl
end Go.Proofs.Ytnhblhhkjnmkkaa.Q
