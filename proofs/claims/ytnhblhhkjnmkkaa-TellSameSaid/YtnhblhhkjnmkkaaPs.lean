/- Plain: the sameness of replies is equality. -/
import Derived.Test.YtnhblhhkjnmkkaaAw8
import Derived.Test.YtnhblhhkjnmkkaaNn
import Derived.Test.YtnhblhhkjnmkkaaQ38
import Derived.Test.YtnhblhhkjnmkkaaQ41
namespace Go.Proofs.Ytnhblhhkjnmkkaa.Q
open Go.RowKit Go.Proofs.YtnhblhhkjnmkkaaW.PrintWords Go.Proofs.YtnhblhhkjnmkkaaW.PrintLast Go.Proofs.YtnhblhhkjnmkkaaW.PrintMore
open Go.Proofs.Ytnhblhhkjnmkkaa.Sp Go.Proofs.Ytnhblhhkjnmkkaa.Va
set_option linter.unusedVariables false
set_option linter.unusedSimpArgs false
theorem ne_152 (a b : S152) : (!(a.f0.toList == b.f0.toList) || !(a.f1.toList == b.f1.toList)) = !decide (a = b) := by
  rw [str_beq, str_beq]
  by_cases h : a = b
  · subst h; simp
  · rw [decide_eq_false h]
    by_cases h0 : a.f0 = b.f0
    · have h1 : a.f1 ≠ b.f1 := fun h1 => h (by cases a; cases b; simp_all)
      simp [h0, h1]
    · simp [h0]
theorem ne_154 (a b : S154) : (!(a.f0 == b.f0) || (!(a.f1 == b.f1) || (!(a.f2 == b.f2) || (!(a.f3 == b.f3) || (!(a.f4 == b.f4)))))) = !decide (a = b) := by
  by_cases h : a = b
  · subst h; simp
  · rw [decide_eq_false h]
    by_cases h0 : a.f0 = b.f0
    · by_cases h1 : a.f1 = b.f1
      · by_cases h2 : a.f2 = b.f2
        · by_cases h3 : a.f3 = b.f3
          · have h4 : a.f4 ≠ b.f4 := fun h4 => h (by cases a; cases b; simp_all)
            simp [h0, h1, h2, h3, h4]
          · simp [h0, h1, h2, h3]
        · simp [h0, h1, h2]
      · simp [h0, h1]
    · simp [h0]
theorem st_l0 (es fs : List S154) (hl : es.length = fs.length) (hs : es.length ≤ 1000000000) : ∀ (d k i : Nat), es.length - i ≤ d → i ≤ es.length → d + 1 ≤ k → api_Status_135.l0 k es fs (es.length : Int) (i : Int) = some (decide (es.drop i = fs.drop i)) := by
  intro d
  induction d with
  | zero =>
    intro k i h1 h2 h3
    obtain ⟨k, rfl⟩ : ∃ j, k = j + 1 := ⟨k - 1, by omega⟩
    simp only [api_Status_135.l0]
    rw [if_neg (by omega), List.drop_eq_nil_of_le (by omega), List.drop_eq_nil_of_le (by omega)]; simp
  | succ d ih =>
    intro k i h1 h2 h3
    obtain ⟨k, rfl⟩ : ∃ j, k = j + 1 := ⟨k - 1, by omega⟩
    simp only [api_Status_135.l0]
    by_cases hi : i < es.length
    · rw [if_pos (by omega), if_pos (by omega), if_pos (by omega), if_pos (by omega), ne_154, drop_T154 es i hi, drop_T154 fs i (by omega)]
      by_cases c : rd_T154 es (i : Int) = rd_T154 fs (i : Int)
      · rw [if_neg (by simp [c]), w64 (by omega) (by omega), show ((i : Int) + 1) = ((i + 1 : Nat) : Int) from by omega, ih k (i + 1) (by omega) (by omega) (by omega)]
        simp [c]
      · rw [if_pos (by simp [c])]; simp [c]
    · rw [if_neg (by omega), List.drop_eq_nil_of_le (by omega), List.drop_eq_nil_of_le (by omega)]; simp
theorem st_f (es fs : List S154) (hs : es.length ≤ 1000000000) (k : Nat) (hk : es.length + 1 ≤ k) : api_Status_135.f k es fs = some (decide (es = fs)) := by
  unfold api_Status_135.f
  by_cases c : (es.length : Int) = (fs.length : Int)
  · have h := st_l0 es fs (by omega) hs es.length k 0 (by omega) (by omega) (by omega)
    rw [show ((0 : Nat) : Int) = 0 from rfl] at h
    rw [if_pos c, h]; rfl
  · rw [if_neg c, decide_eq_false (fun e => c (by rw [e]))]
theorem hd_l0 (es fs : List S152) (hl : es.length = fs.length) (hs : es.length ≤ 1000000000) : ∀ (d k i : Nat), es.length - i ≤ d → i ≤ es.length → d + 1 ≤ k → api_Head_136.l0 k es fs (es.length : Int) (i : Int) = some (decide (es.drop i = fs.drop i)) := by
  intro d
  induction d with
  | zero =>
    intro k i h1 h2 h3
    obtain ⟨k, rfl⟩ : ∃ j, k = j + 1 := ⟨k - 1, by omega⟩
    simp only [api_Head_136.l0]
    rw [if_neg (by omega), List.drop_eq_nil_of_le (by omega), List.drop_eq_nil_of_le (by omega)]; simp
  | succ d ih =>
    intro k i h1 h2 h3
    obtain ⟨k, rfl⟩ : ∃ j, k = j + 1 := ⟨k - 1, by omega⟩
    simp only [api_Head_136.l0]
    by_cases hi : i < es.length
    · rw [if_pos (by omega), if_pos (by omega), if_pos (by omega), if_pos (by omega), ne_152, drop_T152 es i hi, drop_T152 fs i (by omega)]
      by_cases c : rd_T152 es (i : Int) = rd_T152 fs (i : Int)
      · rw [if_neg (by simp [c]), w64 (by omega) (by omega), show ((i : Int) + 1) = ((i + 1 : Nat) : Int) from by omega, ih k (i + 1) (by omega) (by omega) (by omega)]
        simp [c]
      · rw [if_pos (by simp [c])]; simp [c]
    · rw [if_neg (by omega), List.drop_eq_nil_of_le (by omega), List.drop_eq_nil_of_le (by omega)]; simp
theorem hd_f (es fs : List S152) (hs : es.length ≤ 1000000000) (k : Nat) (hk : es.length + 1 ≤ k) : api_Head_136.f k es fs = some (decide (es = fs)) := by
  unfold api_Head_136.f
  by_cases c : (es.length : Int) = (fs.length : Int)
  · have h := hd_l0 es fs (by omega) hs es.length k 0 (by omega) (by omega) (by omega)
    rw [show ((0 : Nat) : Int) = 0 from rfl] at h
    rw [if_pos c, h]; rfl
  · rw [if_neg c, decide_eq_false (fun e => c (by rw [e]))]
theorem rst_l0 (es fs : List S154) (hl : es.length = fs.length) (hs : es.length ≤ 1000000000) : ∀ (d k i : Nat), es.length - i ≤ d → i ≤ es.length → d + 1 ≤ k → turncockref1_SameStatuses.l0 k es fs (i : Int) = some (decide (es.drop i = fs.drop i)) := by
  intro d
  induction d with
  | zero =>
    intro k i h1 h2 h3
    obtain ⟨k, rfl⟩ : ∃ j, k = j + 1 := ⟨k - 1, by omega⟩
    simp only [turncockref1_SameStatuses.l0]
    rw [if_neg (by omega), List.drop_eq_nil_of_le (by omega), List.drop_eq_nil_of_le (by omega)]; simp
  | succ d ih =>
    intro k i h1 h2 h3
    obtain ⟨k, rfl⟩ : ∃ j, k = j + 1 := ⟨k - 1, by omega⟩
    simp only [turncockref1_SameStatuses.l0]
    by_cases hi : i < es.length
    · rw [if_pos (by omega), if_pos (by omega), if_pos (by omega), ne_154, drop_T154 es i hi, drop_T154 fs i (by omega)]
      by_cases c : rd_T154 es (i : Int) = rd_T154 fs (i : Int)
      · rw [if_neg (by simp [c]), w64 (by omega) (by omega), show ((i : Int) + 1) = ((i + 1 : Nat) : Int) from by omega, ih k (i + 1) (by omega) (by omega) (by omega)]
        simp [c]
      · rw [if_pos (by simp [c])]; simp [c]
    · rw [if_neg (by omega), List.drop_eq_nil_of_le (by omega), List.drop_eq_nil_of_le (by omega)]; simp
theorem rst_f (es fs : List S154) (hs : es.length ≤ 1000000000) (k : Nat) (hk : es.length + 1 ≤ k) : turncockref1_SameStatuses.f k es fs = some (decide (es = fs)) := by
  unfold turncockref1_SameStatuses.f
  by_cases c : (es.length : Int) = (fs.length : Int)
  · have h := rst_l0 es fs (by omega) hs es.length k 0 (by omega) (by omega) (by omega)
    rw [show ((0 : Nat) : Int) = 0 from rfl] at h
    rw [if_pos c, h]; rfl
  · rw [if_neg c, decide_eq_false (fun e => c (by rw [e]))]
theorem rhd_l0 (es fs : List S152) (hl : es.length = fs.length) (hs : es.length ≤ 1000000000) : ∀ (d k i : Nat), es.length - i ≤ d → i ≤ es.length → d + 1 ≤ k → turncockref1_SameHeads.l0 k es fs (i : Int) = some (decide (es.drop i = fs.drop i)) := by
  intro d
  induction d with
  | zero =>
    intro k i h1 h2 h3
    obtain ⟨k, rfl⟩ : ∃ j, k = j + 1 := ⟨k - 1, by omega⟩
    simp only [turncockref1_SameHeads.l0]
    rw [if_neg (by omega), List.drop_eq_nil_of_le (by omega), List.drop_eq_nil_of_le (by omega)]; simp
  | succ d ih =>
    intro k i h1 h2 h3
    obtain ⟨k, rfl⟩ : ∃ j, k = j + 1 := ⟨k - 1, by omega⟩
    simp only [turncockref1_SameHeads.l0]
    by_cases hi : i < es.length
    · rw [if_pos (by omega), if_pos (by omega), if_pos (by omega), ne_152, drop_T152 es i hi, drop_T152 fs i (by omega)]
      by_cases c : rd_T152 es (i : Int) = rd_T152 fs (i : Int)
      · rw [if_neg (by simp [c]), w64 (by omega) (by omega), show ((i : Int) + 1) = ((i + 1 : Nat) : Int) from by omega, ih k (i + 1) (by omega) (by omega) (by omega)]
        simp [c]
      · rw [if_pos (by simp [c])]; simp [c]
    · rw [if_neg (by omega), List.drop_eq_nil_of_le (by omega), List.drop_eq_nil_of_le (by omega)]; simp
theorem rhd_f (es fs : List S152) (hs : es.length ≤ 1000000000) (k : Nat) (hk : es.length + 1 ≤ k) : turncockref1_SameHeads.f k es fs = some (decide (es = fs)) := by
  unfold turncockref1_SameHeads.f
  by_cases c : (es.length : Int) = (fs.length : Int)
  · have h := rhd_l0 es fs (by omega) hs es.length k 0 (by omega) (by omega) (by omega)
    rw [show ((0 : Nat) : Int) = 0 from rfl] at h
    rw [if_pos c, h]; rfl
  · rw [if_neg c, decide_eq_false (fun e => c (by rw [e]))]
theorem tsame_f (a0 a1 : Int) (b : Bool) (ss : List S154) (hs : List S152) (c0 c1 : Int) (d : Bool) (ts : List S154) (gs : List S152) (h1 : ss.length ≤ 10000) (h2 : hs.length ≤ 10000) (k : Nat) (hk : 20000 ≤ k) : tell_Same.f k a0 a1 b ss hs c0 c1 d ts gs = some (decide (a0 = c0 ∧ a1 = c1 ∧ b = d ∧ ss = ts ∧ hs = gs)) := by
  unfold tell_Same.f
  rw [st_f ss ts (by omega) k (by omega), hd_f hs gs (by omega) k (by omega)]
  simp only [Option.bind_some]
  by_cases p0 : a0 = c0
  · rw [if_pos p0]
    by_cases p1 : a1 = c1
    · rw [if_pos p1]
      by_cases p2 : b = d
      · rw [if_pos (by simp [p2])]
        by_cases p3 : ss = ts
        · rw [if_pos (decide_eq_true p3)]; simp [p0, p1, p2, p3]
        · rw [if_neg (by simp [p3])]; simp [p3]
      · rw [if_neg (by simp [p2])]; simp [p2]
    · rw [if_neg p1]; simp [p1]
  · rw [if_neg p0]; simp [p0]
theorem rtsame_f (a0 a1 : Int) (b : Bool) (ss : List S154) (hs : List S152) (c0 c1 : Int) (d : Bool) (ts : List S154) (gs : List S152) (h1 : ss.length ≤ 10000) (h2 : hs.length ≤ 10000) (k : Nat) (hk : 20000 ≤ k) : turncockref1_SameTell.f k a0 a1 b ss hs c0 c1 d ts gs = some (decide (a0 = c0 ∧ a1 = c1 ∧ b = d ∧ ss = ts ∧ hs = gs)) := by
  unfold turncockref1_SameTell.f
  rw [rst_f ss ts (by omega) k (by omega), rhd_f hs gs (by omega) k (by omega)]
  simp only [Option.bind_some]
  by_cases p0 : a0 = c0
  · rw [if_pos p0]
    by_cases p1 : a1 = c1
    · rw [if_pos p1]
      by_cases p2 : b = d
      · rw [if_pos (by simp [p2])]
        by_cases p3 : ss = ts
        · rw [if_pos (decide_eq_true p3)]; simp [p0, p1, p2, p3]
        · rw [if_neg (by simp [p3])]; simp [p3]
      · rw [if_neg (by simp [p2])]; simp [p2]
    · rw [if_neg p1]; simp [p1]
  · rw [if_neg p0]; simp [p0]
end Go.Proofs.Ytnhblhhkjnmkkaa.Q
