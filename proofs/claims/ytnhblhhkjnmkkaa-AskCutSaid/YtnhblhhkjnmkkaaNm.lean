/- Plain: may a name, a descriptor, a request be: the printed checks of the program and of the reference come to the same plain tests. -/
import Derived.Test.YtnhblhhkjnmkkaaVa
import Derived.Test.YtnhblhhkjnmkkaaQ29
import Derived.Test.YtnhblhhkjnmkkaaQ30
import Derived.Test.YtnhblhhkjnmkkaaQ15
import Derived.Test.YtnhblhhkjnmkkaaQ31
namespace Go.Proofs.Ytnhblhhkjnmkkaa.Q
open Go.RowKit Go.Proofs.YtnhblhhkjnmkkaaW.PrintWords Go.Proofs.YtnhblhhkjnmkkaaW.PrintLast Go.Proofs.YtnhblhhkjnmkkaaW.PrintMore
open Go.Proofs.Ytnhblhhkjnmkkaa.Sp Go.Proofs.Ytnhblhhkjnmkkaa.Va
set_option linter.unusedVariables false
set_option linter.unusedSimpArgs false
/-- A sign of a name. -/
def signB (b : Int) : Bool := decide (33 ≤ b) && decide (b ≤ 126)
def nameB (s : ByteArray) : Bool := decide (1 ≤ s.size ∧ s.size ≤ 64) && (bytesOf s).all signB
def entryB (e : S142) : Bool := nameB e.f0 && decide (e.f1.size ≤ 128)
def descB (es : List S142) : Bool := decide (1 ≤ es.length ∧ es.length ≤ 8) && es.all entryB
def askB (a0 : Int) (s : ByteArray) (a2 : Int) (ds : List S140) : Bool := decide (0 ≤ a0 ∧ a0 ≤ 2147483647 ∧ 0 ≤ a2 ∧ a2 ≤ 4294967295 ∧ 1 ≤ ds.length ∧ ds.length ≤ 16) && nameB s && ds.all fun d => descB d.f0
theorem drop_T142 (l : List S142) (i : Nat) (h : i < l.length) : l.drop i = rd_T142 l (i : Int) :: l.drop (i + 1) := by
  rw [List.drop_eq_getElem_cons h, rd_T142, Int.toNat_natCast, List.getD_eq_getElem?_getD, List.getElem?_eq_getElem h]; rfl
theorem drop_T140 (l : List S140) (i : Nat) (h : i < l.length) : l.drop i = rd_T140 l (i : Int) :: l.drop (i + 1) := by
  rw [List.drop_eq_getElem_cons h, rd_T140, Int.toNat_natCast, List.getD_eq_getElem?_getD, List.getElem?_eq_getElem h]; rfl
theorem drop_bt (s : ByteArray) (i : Nat) (h : i < s.size) : (bytesOf s).drop i = bt s (i : Int) :: (bytesOf s).drop (i + 1) := by
  rw [drop_at (bytesOf s) i (by rw [bytesOf_length]; exact h), rd_bytesOf]
theorem name_l0 (s : ByteArray) (hs : s.size ≤ 1000000000) : ∀ (d k i : Nat), s.size - i ≤ d → i ≤ s.size → d + 1 ≤ k → desc_Name.l0 k s (s.size : Int) (i : Int) = some (decide (1 ≤ s.size ∧ s.size ≤ 64) && ((bytesOf s).drop i).all signB) := by
  intro d
  induction d with
  | zero =>
    intro k i h1 h2 h3
    obtain ⟨k, rfl⟩ : ∃ j, k = j + 1 := ⟨k - 1, by omega⟩
    simp only [desc_Name.l0]
    have hi : i = s.size := by omega
    rw [if_neg (by omega), List.drop_eq_nil_of_le (by rw [bytesOf_length]; omega)]
    by_cases c : (s.size : Int) ≥ 1
    · rw [if_pos c, List.all_nil, Bool.and_true]; exact congrArg some (decide_eq_decide.2 (by omega))
    · rw [if_neg c, List.all_nil, Bool.and_true]; exact congrArg some (decide_eq_false (by omega)).symm
  | succ d ih =>
    intro k i h1 h2 h3
    obtain ⟨k, rfl⟩ : ∃ j, k = j + 1 := ⟨k - 1, by omega⟩
    simp only [desc_Name.l0]
    by_cases hi : i < s.size
    · rw [if_pos (by omega), if_pos (by omega), if_pos (by omega), drop_bt s i hi]
      by_cases c1 : bt s (i : Int) < 33
      · rw [if_pos c1]; simp [signB]; intro; omega
      · rw [if_neg c1]
        by_cases c2 : bt s (i : Int) > 126
        · rw [if_pos c2]; simp [signB]; intro; omega
        · rw [if_neg c2, w64 (by omega) (by omega), show ((i : Int) + 1) = ((i + 1 : Nat) : Int) from by omega, ih k (i + 1) (by omega) (by omega) (by omega)]
          have e : signB (bt s (i : Int)) = true := by simp [signB]; omega
          simp [e]
    · have hi : i = s.size := by omega
      rw [if_neg (by omega), List.drop_eq_nil_of_le (by rw [bytesOf_length]; omega)]
      by_cases c : (s.size : Int) ≥ 1
      · rw [if_pos c, List.all_nil, Bool.and_true]; exact congrArg some (decide_eq_decide.2 (by omega))
      · rw [if_neg c, List.all_nil, Bool.and_true]; exact congrArg some (decide_eq_false (by omega)).symm
theorem name_f (s : ByteArray) (hs : s.size ≤ 1000000000) (k : Nat) (hk : s.size + 1 ≤ k) : desc_Name.f k s = some (nameB s) := by
  unfold desc_Name.f
  have h := name_l0 s hs s.size k 0 (by omega) (by omega) hk
  simpa [nameB] using h
theorem ref_name_l0 (s : ByteArray) (hs : s.size ≤ 1000000000) : ∀ (d k i : Nat), s.size - i ≤ d → i ≤ s.size → d + 1 ≤ k → turncockref1_Name.l0 k s (i : Int) = some (((bytesOf s).drop i).all signB) := by
  intro d
  induction d with
  | zero =>
    intro k i h1 h2 h3
    obtain ⟨k, rfl⟩ : ∃ j, k = j + 1 := ⟨k - 1, by omega⟩
    simp only [turncockref1_Name.l0]
    rw [if_neg (by omega), List.drop_eq_nil_of_le (by rw [bytesOf_length]; omega)]
    rfl
  | succ d ih =>
    intro k i h1 h2 h3
    obtain ⟨k, rfl⟩ : ∃ j, k = j + 1 := ⟨k - 1, by omega⟩
    simp only [turncockref1_Name.l0]
    by_cases hi : i < s.size
    · rw [if_pos (by omega), if_pos (by omega), drop_bt s i hi]
      by_cases c1 : bt s (i : Int) < 33
      · rw [if_pos c1]; simp [signB]; intro; omega
      · rw [if_neg c1]
        by_cases c2 : bt s (i : Int) > 126
        · rw [if_pos c2]; simp [signB]; intro; omega
        · rw [if_neg c2, w64 (by omega) (by omega), show ((i : Int) + 1) = ((i + 1 : Nat) : Int) from by omega, ih k (i + 1) (by omega) (by omega) (by omega)]
          have e : signB (bt s (i : Int)) = true := by simp [signB]; omega
          simp [e]
    · rw [if_neg (by omega), List.drop_eq_nil_of_le (by rw [bytesOf_length]; omega)]
      rfl
theorem ref_name_f (s : ByteArray) (hs : s.size ≤ 1000000000) (k : Nat) (hk : s.size + 2 ≤ k) : turncockref1_Name.f k s = some (nameB s) := by
  obtain ⟨k, rfl⟩ : ∃ j, k = j + 1 := ⟨k - 1, by omega⟩
  unfold turncockref1_Name.f
  simp only [turncockref1_Name.j0]
  have h := ref_name_l0 s hs s.size k 0 (by omega) (by omega) (by omega)
  by_cases c : (s.size : Int) < 1
  · rw [if_pos c]; simp [nameB]; intro; omega
  · rw [if_neg c]
    by_cases c2 : (s.size : Int) > 64
    · rw [if_pos (by simpa using c2)]; simp [nameB]; intro; omega
    · rw [if_neg (by simpa using c2)]
      rw [show ((0 : Nat) : Int) = 0 from rfl, List.drop_zero] at h
      rw [h, nameB, decide_eq_true (by omega), Bool.true_and]
/-- No text is very long. -/
def Small (M : Nat) (es : List S142) : Prop := es.length ≤ M ∧ ∀ e ∈ es, e.f0.size ≤ M
theorem check_l0 (es : List S142) (M : Nat) (hM : M ≤ 1000000000) (hs : Small M es) : ∀ (d k i : Nat), es.length - i ≤ d → i ≤ es.length → d + M + 2 ≤ k → desc_Check.l0 k es (es.length : Int) (i : Int) = some (if (es.drop i).all entryB then 0 else 1) := by
  intro d
  induction d with
  | zero =>
    intro k i h1 h2 h3
    obtain ⟨k, rfl⟩ : ∃ j, k = j + 1 := ⟨k - 1, by omega⟩
    simp only [desc_Check.l0]
    rw [if_neg (by omega), List.drop_eq_nil_of_le (by omega)]
    rfl
  | succ d ih =>
    intro k i h1 h2 h3
    obtain ⟨k, rfl⟩ : ∃ j, k = j + 1 := ⟨k - 1, by omega⟩
    simp only [desc_Check.l0]
    by_cases hi : i < es.length
    · have hl := hs.1
      have hd := drop_T142 es i hi
      have hm : rd_T142 es (i : Int) ∈ es := List.mem_of_mem_drop (i := i) (by rw [hd]; exact List.mem_cons_self ..)
      have hz := hs.2 _ hm
      rw [if_pos (by omega), if_pos (by omega), if_pos (by omega), name_f _ (by omega) k (by omega), hd]
      simp only [Option.bind_some]
      by_cases c1 : nameB (rd_T142 es (i : Int)).f0 = true
      · rw [if_pos c1]
        by_cases c2 : ((rd_T142 es (i : Int)).f1.size : Int) > 128
        · have e : entryB (rd_T142 es (i : Int)) = false := by simp [entryB]; intro; omega
          rw [if_pos c2]; simp [e]
        · have e : entryB (rd_T142 es (i : Int)) = true := by simp [entryB, c1]; omega
          rw [if_neg c2, w64 (by omega) (by omega), show ((i : Int) + 1) = ((i + 1 : Nat) : Int) from by omega, ih k (i + 1) (by omega) (by omega) (by omega)]
          simp [e]
      · have e : entryB (rd_T142 es (i : Int)) = false := by simp [entryB, c1]
        rw [if_neg c1]; simp [e]
    · rw [if_neg (by omega), List.drop_eq_nil_of_le (by omega)]
      rfl
theorem check_f (es : List S142) (M : Nat) (hM : M ≤ 1000000000) (hs : Small M es) (k : Nat) (hk : 2 * M + 3 ≤ k) : desc_Check.f k es = some (if descB es then 0 else 1) := by
  obtain ⟨k, rfl⟩ : ∃ j, k = j + 1 := ⟨k - 1, by omega⟩
  unfold desc_Check.f
  simp only [desc_Check.j0]
  have h := check_l0 es M hM hs es.length k 0 (by omega) (by omega) (by have := hs.1; omega)
  rw [show ((0 : Nat) : Int) = 0 from rfl, List.drop_zero] at h
  by_cases c : (es.length : Int) < 1
  · have e : descB es = false := by simp [descB]; intro; omega
    rw [if_pos c, e]; simp
  · rw [if_neg c]
    by_cases c2 : (es.length : Int) > 8
    · have e : descB es = false := by simp [descB]; intro; omega
      rw [if_pos (by simpa using c2), e]; simp
    · rw [if_neg (by simpa using c2), h, descB, decide_eq_true (by omega), Bool.true_and]
theorem ref_check_l0 (es : List S142) (M : Nat) (hM : M ≤ 1000000000) (hs : Small M es) : ∀ (d k i : Nat), es.length - i ≤ d → i ≤ es.length → d + M + 3 ≤ k → turncockref1_CheckDesc.l0 k (i : Int) es = some ((es.drop i).all entryB) := by
  intro d
  induction d with
  | zero =>
    intro k i h1 h2 h3
    obtain ⟨k, rfl⟩ : ∃ j, k = j + 1 := ⟨k - 1, by omega⟩
    simp only [turncockref1_CheckDesc.l0]
    rw [if_neg (by omega), List.drop_eq_nil_of_le (by omega)]
    rfl
  | succ d ih =>
    intro k i h1 h2 h3
    obtain ⟨k, rfl⟩ : ∃ j, k = j + 1 := ⟨k - 1, by omega⟩
    simp only [turncockref1_CheckDesc.l0]
    by_cases hi : i < es.length
    · have hl := hs.1
      have hd := drop_T142 es i hi
      have hm : rd_T142 es (i : Int) ∈ es := List.mem_of_mem_drop (i := i) (by rw [hd]; exact List.mem_cons_self ..)
      have hz := hs.2 _ hm
      rw [if_pos (by omega), if_pos (by omega), ref_name_f _ (by omega) k (by omega), hd]
      simp only [Option.bind_some]
      by_cases c1 : nameB (rd_T142 es (i : Int)).f0 = true
      · rw [if_pos c1]
        by_cases c2 : ((rd_T142 es (i : Int)).f1.size : Int) > 128
        · have e : entryB (rd_T142 es (i : Int)) = false := by simp [entryB]; intro; omega
          rw [if_pos c2]; simp [e]
        · have e : entryB (rd_T142 es (i : Int)) = true := by simp [entryB, c1]; omega
          rw [if_neg c2, w64 (by omega) (by omega), show ((i : Int) + 1) = ((i + 1 : Nat) : Int) from by omega, ih k (i + 1) (by omega) (by omega) (by omega)]
          simp [e]
      · have e : entryB (rd_T142 es (i : Int)) = false := by simp [entryB, c1]
        rw [if_neg c1]; simp [e]
    · rw [if_neg (by omega), List.drop_eq_nil_of_le (by omega)]
      rfl
theorem ref_check_f (es : List S142) (M : Nat) (hM : M ≤ 1000000000) (hs : Small M es) (k : Nat) (hk : 2 * M + 4 ≤ k) : turncockref1_CheckDesc.f k es = some (descB es) := by
  obtain ⟨k, rfl⟩ : ∃ j, k = j + 1 := ⟨k - 1, by omega⟩
  unfold turncockref1_CheckDesc.f
  simp only [turncockref1_CheckDesc.j0]
  have h := ref_check_l0 es M hM hs es.length k 0 (by omega) (by omega) (by have := hs.1; omega)
  rw [show ((0 : Nat) : Int) = 0 from rfl, List.drop_zero] at h
  by_cases c : (es.length : Int) < 1
  · have e : descB es = false := by simp [descB]; intro; omega
    rw [if_pos c, e]; simp
  · rw [if_neg c]
    by_cases c2 : (es.length : Int) > 8
    · have e : descB es = false := by simp [descB]; intro; omega
      rw [if_pos (by simpa using c2), e]
    · rw [if_neg (by simpa using c2), h, descB, decide_eq_true (by omega), Bool.true_and]
/-- No text and no list of a request is very long. -/
def SmallA (M : Nat) (s : ByteArray) (ds : List S140) : Prop := s.size ≤ M ∧ ds.length ≤ M ∧ ∀ d ∈ ds, Small M d.f0
theorem ask_l0 (s : ByteArray) (ds : List S140) (M : Nat) (hM : M ≤ 1000000000) (hs : SmallA M s ds) : ∀ (d k i : Nat), ds.length - i ≤ d → i ≤ ds.length → d + 2 * M + 4 ≤ k → ask_Check.l0 k ds (ds.length : Int) (i : Int) = some (if (ds.drop i).all (fun d => descB d.f0) then 0 else 1) := by
  intro d
  induction d with
  | zero =>
    intro k i h1 h2 h3
    obtain ⟨k, rfl⟩ : ∃ j, k = j + 1 := ⟨k - 1, by omega⟩
    simp only [ask_Check.l0]
    rw [if_neg (by omega), List.drop_eq_nil_of_le (by omega)]
    rfl
  | succ d ih =>
    intro k i h1 h2 h3
    obtain ⟨k, rfl⟩ : ∃ j, k = j + 1 := ⟨k - 1, by omega⟩
    simp only [ask_Check.l0]
    by_cases hi : i < ds.length
    · have hl := hs.2.1
      have hd := drop_T140 ds i hi
      have hm : rd_T140 ds (i : Int) ∈ ds := List.mem_of_mem_drop (i := i) (by rw [hd]; exact List.mem_cons_self ..)
      rw [if_pos (by omega), if_pos (by omega), if_pos (by omega), check_f _ M hM (hs.2.2 _ hm) k (by omega), hd]
      simp only [Option.bind_some]
      by_cases c1 : descB (rd_T140 ds (i : Int)).f0 = true
      · rw [if_pos (by simp [c1]), w64 (by omega) (by omega), show ((i : Int) + 1) = ((i + 1 : Nat) : Int) from by omega, ih k (i + 1) (by omega) (by omega) (by omega)]
        simp [c1]
      · rw [if_neg (by simp [c1])]; simp [c1]
    · rw [if_neg (by omega), List.drop_eq_nil_of_le (by omega)]
      rfl
theorem ask_f (a0 : Int) (s : ByteArray) (a2 : Int) (ds : List S140) (M : Nat) (hM : M ≤ 1000000000) (hs : SmallA M s ds) (k : Nat) (hk : 3 * M + 5 ≤ k) : ask_Check.f k a0 s a2 ds = some (if askB a0 s a2 ds then 0 else 1) := by
  obtain ⟨k, rfl⟩ : ∃ j, k = j + 1 := ⟨k - 1, by omega⟩
  unfold ask_Check.f
  have h0 := hs.1
  have h1 := hs.2.1
  have h := ask_l0 s ds M hM hs ds.length k 0 (by omega) (by omega) (by omega)
  rw [show ((0 : Nat) : Int) = 0 from rfl, List.drop_zero] at h
  rw [name_f s (by omega) (k + 1) (by omega)]
  simp only [Option.bind_some, ask_Check.j0, if_true]
  by_cases c : 0 ≤ a0 ∧ a0 ≤ 2147483647 ∧ 0 ≤ a2 ∧ a2 ≤ 4294967295 ∧ 1 ≤ ds.length ∧ ds.length ≤ 16
  · rw [if_neg (by omega), if_neg (by omega), askB, decide_eq_true c, Bool.true_and]
    by_cases c1 : nameB s = true
    · rw [if_pos c1, if_neg (by omega), if_neg (by omega), if_neg (by omega), if_neg (by simp; omega), h, c1, Bool.true_and]
    · rw [if_neg c1]; simp [c1]
  · have e : askB a0 s a2 ds = false := by rw [askB, decide_eq_false c, Bool.false_and, Bool.false_and]
    rw [e]
    simp only [Bool.false_eq_true, if_false]
    repeat' split
    all_goals first | rfl | (exfalso; omega) | (rename_i q; exfalso; simp only [decide_eq_true_eq] at q; omega)
theorem ref_ask_l0 (a0 : Int) (s : ByteArray) (a2 : Int) (ds : List S140) (M : Nat) (hM : M ≤ 1000000000) (hs : SmallA M s ds) : ∀ (d k i : Nat), ds.length - i ≤ d → i ≤ ds.length → d + 2 * M + 5 ≤ k → turncockref1_CheckAsk.l0 k (i : Int) a0 s a2 ds = some ((ds.drop i).all (fun d => descB d.f0)) := by
  intro d
  induction d with
  | zero =>
    intro k i h1 h2 h3
    obtain ⟨k, rfl⟩ : ∃ j, k = j + 1 := ⟨k - 1, by omega⟩
    simp only [turncockref1_CheckAsk.l0]
    rw [if_neg (by omega), List.drop_eq_nil_of_le (by omega)]
    rfl
  | succ d ih =>
    intro k i h1 h2 h3
    obtain ⟨k, rfl⟩ : ∃ j, k = j + 1 := ⟨k - 1, by omega⟩
    simp only [turncockref1_CheckAsk.l0]
    by_cases hi : i < ds.length
    · have hl := hs.2.1
      have hd := drop_T140 ds i hi
      have hm : rd_T140 ds (i : Int) ∈ ds := List.mem_of_mem_drop (i := i) (by rw [hd]; exact List.mem_cons_self ..)
      rw [if_pos (by omega), if_pos (by omega), ref_check_f _ M hM (hs.2.2 _ hm) k (by omega), hd]
      simp only [Option.bind_some]
      by_cases c1 : descB (rd_T140 ds (i : Int)).f0 = true
      · rw [if_pos c1, w64 (by omega) (by omega), show ((i : Int) + 1) = ((i + 1 : Nat) : Int) from by omega, ih k (i + 1) (by omega) (by omega) (by omega)]
        simp [c1]
      · rw [if_neg c1]; simp [c1]
    · rw [if_neg (by omega), List.drop_eq_nil_of_le (by omega)]
      rfl
theorem ref_ask_f (a0 : Int) (s : ByteArray) (a2 : Int) (ds : List S140) (M : Nat) (hM : M ≤ 1000000000) (hs : SmallA M s ds) (k : Nat) (hk : 3 * M + 6 ≤ k) : turncockref1_CheckAsk.f k a0 s a2 ds = some (askB a0 s a2 ds) := by
  obtain ⟨k, rfl⟩ : ∃ j, k = j + 1 := ⟨k - 1, by omega⟩
  unfold turncockref1_CheckAsk.f
  have h0 := hs.1
  have h1 := hs.2.1
  have h := ref_ask_l0 a0 s a2 ds M hM hs ds.length k 0 (by omega) (by omega) (by omega)
  rw [show ((0 : Nat) : Int) = 0 from rfl, List.drop_zero] at h
  rw [ref_name_f s (by omega) (k + 1) (by omega)]
  simp only [Option.bind_some, turncockref1_CheckAsk.j0, if_true]
  by_cases c : 0 ≤ a0 ∧ a0 ≤ 2147483647 ∧ 0 ≤ a2 ∧ a2 ≤ 4294967295 ∧ 1 ≤ ds.length ∧ ds.length ≤ 16
  · rw [if_neg (by omega), if_neg (by omega), askB, decide_eq_true c, Bool.true_and]
    by_cases c1 : nameB s = true
    · rw [if_pos c1, if_neg (by omega), if_neg (by omega), if_neg (by omega), if_neg (by simp; omega), h, c1, Bool.true_and]
    · rw [if_neg c1]; simp [c1]
  · have e : askB a0 s a2 ds = false := by rw [askB, decide_eq_false c, Bool.false_and, Bool.false_and]
    rw [e]
    repeat' split
    all_goals first | rfl | (exfalso; omega) | (rename_i q; exfalso; simp only [decide_eq_true_eq] at q; omega)
end Go.Proofs.Ytnhblhhkjnmkkaa.Q
