/- Plain: the guard of the tell laws bounds all sizes; the reference's check and bytes of a reply are the program's; sameness is equality. -/
import Derived.Test.YtnhblhhkjnmkkaaNt
import Derived.Test.YtnhblhhkjnmkkaaTe
import Derived.Test.YtnhblhhkjnmkkaaAw8
import Derived.Test.YtnhblhhkjnmkkaaQ38
import Derived.Test.YtnhblhhkjnmkkaaQ39
import Derived.Test.YtnhblhhkjnmkkaaQ40
namespace Go.Proofs.Ytnhblhhkjnmkkaa.Q
open Go.RowKit Go.Proofs.YtnhblhhkjnmkkaaW.PrintWords Go.Proofs.YtnhblhhkjnmkkaaW.PrintLast Go.Proofs.YtnhblhhkjnmkkaaW.PrintMore
open Go.Proofs.Ytnhblhhkjnmkkaa.Sp Go.Proofs.Ytnhblhhkjnmkkaa.Va
set_option linter.unusedVariables false
set_option linter.unusedSimpArgs false
theorem heavy8_l0 (a0 a1 : Int) (b : Bool) (ss : List S154) (hs : List S152) (hl : hs.length ≤ 100000000000000) : ∀ (d i : Nat) (n : Int), hs.length - i ≤ d → i ≤ hs.length → 0 ≤ n → n ≤ 1000000000000000 → ∃ v, (∀ k, d + 1 ≤ k → turncocklaw8_heavy.l0 k n (i : Int) a0 a1 b ss hs = some v) ∧ (v = false → n ≤ 5000 ∧ ∀ h ∈ hs.drop i, h.f0.size ≤ 5000 ∧ h.f1.size ≤ 5000) := by
  have out : ∀ (d i : Nat) (n : Int), ¬ (i < hs.length ∧ n ≤ 5000) → i ≤ hs.length → 0 ≤ n → n ≤ 1000000000000000 → ∃ v, (∀ k, d + 1 ≤ k → turncocklaw8_heavy.l0 k n (i : Int) a0 a1 b ss hs = some v) ∧ (v = false → n ≤ 5000 ∧ ∀ h ∈ hs.drop i, h.f0.size ≤ 5000 ∧ h.f1.size ≤ 5000) := by
    intro d i n h1 h2 h3 h4
    refine ⟨decide (n > 5000), fun k hk => ?_, fun hv => ?_⟩
    · obtain ⟨k, rfl⟩ : ∃ j, k = j + 1 := ⟨k - 1, by omega⟩
      simp only [turncocklaw8_heavy.l0]
      by_cases hi : i < hs.length
      · rw [if_pos (by omega), if_neg (by omega)]
      · rw [if_neg (by omega)]
    · have hn : n ≤ 5000 := by simpa using hv
      refine ⟨hn, ?_⟩
      rw [List.drop_eq_nil_of_le (by omega)]
      exact fun _ h => by cases h
  intro d
  induction d with
  | zero => intro i n h1 h2 h3 h4; exact out 0 i n (by omega) h2 h3 h4
  | succ d ih =>
    intro i n h1 h2 h3 h4
    by_cases hi : i < hs.length ∧ n ≤ 5000
    · have q0 : 0 ≤ mn ((rd_T152 hs (i : Int)).f0.size : Int) 5001 ∧ mn ((rd_T152 hs (i : Int)).f0.size : Int) 5001 ≤ 5001 := by unfold mn; split <;> omega
      have q1 : 0 ≤ mn ((rd_T152 hs (i : Int)).f1.size : Int) 5001 ∧ mn ((rd_T152 hs (i : Int)).f1.size : Int) 5001 ≤ 5001 := by unfold mn; split <;> omega
      obtain ⟨v, hk, hb⟩ := ih (i + 1) (n + mn ((rd_T152 hs (i : Int)).f0.size : Int) 5001 + mn ((rd_T152 hs (i : Int)).f1.size : Int) 5001) (by omega) (by omega) (by omega) (by omega)
      refine ⟨v, fun k hK => ?_, fun hv => ?_⟩
      · obtain ⟨k, rfl⟩ : ∃ j, k = j + 1 := ⟨k - 1, by omega⟩
        simp only [turncocklaw8_heavy.l0]
        rw [if_pos (by omega), if_pos hi.2, if_pos (by omega), w64 (n := n + mn _ 5001) (by omega) (by omega), w64 (n := n + _ + _) (by omega) (by omega), w64 (n := (i : Int) + 1) (by omega) (by omega)]
        exact hk k (by omega)
      · obtain ⟨g1, g2⟩ := hb hv
        refine ⟨hi.2, ?_⟩
        rw [drop_T152 hs i hi.1]
        intro x hx
        rcases List.mem_cons.1 hx with rfl | hx
        · have r0 : mn ((rd_T152 hs (i : Int)).f0.size : Int) 5001 ≤ 5000 := by omega
          have r1 : mn ((rd_T152 hs (i : Int)).f1.size : Int) 5001 ≤ 5000 := by omega
          unfold mn at r0 r1
          split at r0 <;> split at r1 <;> omega
        · exact g2 x hx
    · exact out _ i n hi h2 h3 h4
def lightT (ss : List S154) (hs : List S152) : Prop := ss.length ≤ 5000 ∧ hs.length ≤ 5000 ∧ ∀ h ∈ hs, h.f0.size ≤ 5000 ∧ h.f1.size ≤ 5000
theorem heavy8_f (a0 a1 : Int) (b : Bool) (ss : List S154) (hs : List S152) (h1 : ss.length * 40 ≤ 140737488351232) (h2 : hs.length * 32 ≤ 140737488351232) : ∃ K v, (∀ k, K ≤ k → turncocklaw8_heavy.f k a0 a1 b ss hs = some v) ∧ (v = false → lightT ss hs) := by
  obtain ⟨v, hk, hb⟩ := heavy8_l0 a0 a1 b ss hs (by omega) hs.length 0 ((ss.length : Int) + (hs.length : Int)) (by omega) (by omega) (by omega) (by omega)
  refine ⟨hs.length + 1, v, fun k hK => ?_, fun hv => ?_⟩
  · unfold turncocklaw8_heavy.f
    rw [w64 (by omega) (by omega)]
    exact hk k hK
  · obtain ⟨g1, g2⟩ := hb hv
    rw [List.drop_zero] at g2
    exact ⟨by omega, by omega, g2⟩
theorem ref_coded_f (a : Int) : turncockref1_coded.f a = some (codeB a) := by
  unfold turncockref1_coded.f codeB
  by_cases h : a = 1
  · rw [if_pos h]; exact congrArg some (decide_eq_true (by omega)).symm
  · rw [if_neg h]; exact congrArg some (Bool.eq_iff_iff.2 (by simp; omega))
theorem print_l0 (v : ByteArray) (hv : v.size ≤ 1000000) : ∀ (d k i : Nat), v.size - i ≤ d → i ≤ v.size → d + 1 ≤ k → turncockref1_printable.l0 k v (i : Int) = some (((bytesOf v).drop i).all signV) := by
  intro d
  induction d with
  | zero =>
    intro k i h1 h2 h3
    obtain ⟨k, rfl⟩ : ∃ j, k = j + 1 := ⟨k - 1, by omega⟩
    simp only [turncockref1_printable.l0]
    rw [if_neg (by omega), List.drop_eq_nil_of_le (by rw [bytesOf_length]; omega)]
    rfl
  | succ d ih =>
    intro k i h1 h2 h3
    obtain ⟨k, rfl⟩ : ∃ j, k = j + 1 := ⟨k - 1, by omega⟩
    simp only [turncockref1_printable.l0]
    by_cases hi : i < v.size
    · rw [if_pos (by omega), if_pos (by omega), drop_bt v i hi]
      by_cases c1 : bt v (i : Int) < 32
      · rw [if_pos c1]; simp [signV]; intro h; omega
      · rw [if_neg c1]
        by_cases c2 : bt v (i : Int) > 126
        · rw [if_pos c2]; simp [signV]; intro h; omega
        · rw [if_neg c2, w64 (by omega) (by omega), show ((i : Int) + 1) = ((i + 1 : Nat) : Int) from by omega, ih k (i + 1) (by omega) (by omega) (by omega)]
          have e : signV (bt v (i : Int)) = true := by simp [signV]; omega
          simp [e]
    · rw [if_neg (by omega), List.drop_eq_nil_of_le (by rw [bytesOf_length]; omega)]
      rfl
theorem print_f (v : ByteArray) (hv : v.size ≤ 1000000) (k : Nat) (hk : v.size + 1 ≤ k) : turncockref1_printable.f k v = some (decide (v.size ≤ 400) && (bytesOf v).all signV) := by
  unfold turncockref1_printable.f
  by_cases c : (v.size : Int) > 400
  · rw [if_pos c, decide_eq_false (by omega)]; rfl
  · have h := print_l0 v hv v.size k 0 (by omega) (by omega) (by omega)
    rw [show ((0 : Nat) : Int) = 0 from rfl, List.drop_zero] at h
    rw [if_neg c, h, decide_eq_true (by omega)]; rfl
theorem ref_tell_l1 (a0 a1 : Int) (b : Bool) (ss : List S154) (hs : List S152) (hL : lightT ss hs) : ∀ (d k i : Nat), hs.length - i ≤ d → i ≤ hs.length → d + 5010 ≤ k → turncockref1_CheckTell.l1 k (i : Int) a0 a1 b ss hs = some ((hs.drop i).all headB) := by
  have out : ∀ (k i : Nat), ¬ i < hs.length → 1 ≤ k → turncockref1_CheckTell.l1 k (i : Int) a0 a1 b ss hs = some ((hs.drop i).all headB) := by
    intro k i h1 h2
    obtain ⟨k, rfl⟩ : ∃ j, k = j + 1 := ⟨k - 1, by omega⟩
    simp only [turncockref1_CheckTell.l1]
    rw [if_neg (by omega), List.drop_eq_nil_of_le (by omega)]; rfl
  intro d
  induction d with
  | zero => intro k i h1 h2 h3; exact out k i (by omega) (by omega)
  | succ d ih =>
    intro k i h1 h2 h3
    by_cases hi : i < hs.length
    · obtain ⟨k, rfl⟩ : ∃ j, k = j + 1 := ⟨k - 1, by omega⟩
      have hm : rd_T152 hs (i : Int) ∈ hs := List.mem_of_mem_drop (i := i) (by rw [drop_T152 hs i hi]; exact List.mem_cons_self ..)
      obtain ⟨z0, z1⟩ := hL.2.2 _ hm
      have hlen := hL.2.1
      simp only [turncockref1_CheckTell.l1]
      rw [if_pos (by omega), if_pos (by omega), ref_name_f _ (by omega) k (by omega), Option.bind_some, print_f _ (by omega) k (by omega), drop_T152 hs i hi, List.all_cons, w64 (by omega) (by omega), show ((i : Int) + 1) = ((i + 1 : Nat) : Int) from by omega, ih k (i + 1) (by omega) (by omega) (by omega)]
      unfold headB
      cases nameB (rd_T152 hs (i : Int)).f0 <;> cases decide ((rd_T152 hs (i : Int)).f1.size ≤ 400) <;> cases (bytesOf (rd_T152 hs (i : Int)).f1).all signV <;> simp
    · exact out k i hi (by omega)
theorem statB_false (x : S154) (h : ¬ ((x.f0 = 1 ∨ x.f0 = 2) ∧ 0 ≤ x.f1 ∧ x.f1 ≤ 4294967295 ∧ 0 ≤ x.f2 ∧ x.f2 ≤ 4 ∧ 0 ≤ x.f3 ∧ x.f3 ≤ 4294967295 ∧ 0 ≤ x.f4 ∧ x.f4 ≤ 86400)) : statB x = false := decide_eq_false h
theorem ref_tell_l0 (a0 a1 : Int) (b : Bool) (ss : List S154) (hs : List S152) (hL : lightT ss hs) : ∀ (d k i : Nat), ss.length - i ≤ d → i ≤ ss.length → d + 10020 ≤ k → turncockref1_CheckTell.l0 k (i : Int) a0 a1 b ss hs = some ((ss.drop i).all statB && hs.all headB) := by
  have out : ∀ (k i : Nat), ¬ i < ss.length → 10020 ≤ k → turncockref1_CheckTell.l0 k (i : Int) a0 a1 b ss hs = some ((ss.drop i).all statB && hs.all headB) := by
    intro k i h1 h2
    obtain ⟨k, rfl⟩ : ∃ j, k = j + 1 := ⟨k - 1, by omega⟩
    simp only [turncockref1_CheckTell.l0]
    have h := ref_tell_l1 a0 a1 b ss hs hL hs.length k 0 (by omega) (by omega) (by have := hL.2.1; omega)
    rw [show ((0 : Nat) : Int) = 0 from rfl, List.drop_zero] at h
    rw [if_neg (by omega), List.drop_eq_nil_of_le (by omega), h]; rfl
  intro d
  induction d with
  | zero => intro k i h1 h2 h3; exact out k i (by omega) (by omega)
  | succ d ih =>
    intro k i h1 h2 h3
    by_cases hi : i < ss.length
    · obtain ⟨k, rfl⟩ : ∃ j, k = j + 1 := ⟨k - 1, by omega⟩
      simp only [turncockref1_CheckTell.l0]
      have hlen := hL.1
      rw [if_pos (by omega), if_pos (by omega), ref_coded_f, Option.bind_some, drop_T154 ss i hi, List.all_cons, w64 (by omega) (by omega), show ((i : Int) + 1) = ((i + 1 : Nat) : Int) from by omega, ih k (i + 1) (by omega) (by omega) (by omega)]
      obtain ⟨x, hx⟩ : ∃ x, x = rd_T154 ss (i : Int) := ⟨_, rfl⟩
      rw [← hx]
      by_cases hB : ((x.f0 = 1 ∨ x.f0 = 2) ∧ 0 ≤ x.f1 ∧ x.f1 ≤ 4294967295 ∧ 0 ≤ x.f2 ∧ x.f2 ≤ 4 ∧ 0 ≤ x.f3 ∧ x.f3 ≤ 4294967295 ∧ 0 ≤ x.f4 ∧ x.f4 ≤ 86400)
      · have e : statB x = true := decide_eq_true hB
        have e2 : codeB x.f0 = true := decide_eq_true hB.1
        rw [e, e2, if_pos rfl, if_neg (by omega), if_neg (by omega), if_neg (by omega), if_neg (by omega), if_neg (by omega), if_neg (by omega), if_neg (by omega), if_neg (by omega), Bool.true_and]
      · rw [statB_false x hB]
        simp only [Bool.false_and]
        by_cases hc : x.f0 = 1 ∨ x.f0 = 2
        · have e2 : codeB x.f0 = true := decide_eq_true hc
          rw [e2, if_pos rfl]
          repeat' split
          all_goals first | rfl | (exfalso; omega)
        · have e2 : codeB x.f0 = false := decide_eq_false hc
          rw [e2]; rfl
    · exact out k i hi (by omega)
theorem ref_tell_f (a0 a1 : Int) (b : Bool) (ss : List S154) (hs : List S152) (hL : lightT ss hs) (k : Nat) (hk : 20000 ≤ k) : turncockref1_CheckTell.f k a0 a1 b ss hs = some (tellB a0 a1 ss hs) := by
  obtain ⟨k, rfl⟩ : ∃ j, k = j + 1 := ⟨k - 1, by omega⟩
  have h := ref_tell_l0 a0 a1 b ss hs hL ss.length k 0 (by omega) (by omega) (by have := hL.1; omega)
  rw [show ((0 : Nat) : Int) = 0 from rfl, List.drop_zero] at h
  unfold turncockref1_CheckTell.f
  simp only [turncockref1_CheckTell.j0, if_true, ref_coded_f, Option.bind_some]
  by_cases hB : 0 ≤ a0 ∧ a0 ≤ 2147483647 ∧ (a1 = 1 ∨ a1 = 2) ∧ ss.length ≤ 16 ∧ hs.length ≤ 4
  · have e2 : codeB a1 = true := decide_eq_true hB.2.2.1
    rw [if_neg (by omega), if_neg (by omega), e2, if_pos rfl, if_neg (by omega), if_neg (by simp; omega), h]
    unfold tellB
    rw [decide_eq_true hB, Bool.true_and]
  · rw [tellB_no a0 a1 ss hs hB]
    by_cases hc : a1 = 1 ∨ a1 = 2
    · have e2 : codeB a1 = true := decide_eq_true hc
      rw [e2]
      repeat' split
      all_goals first | rfl | (exfalso; simp at *; omega)
    · have e2 : codeB a1 = false := decide_eq_false hc
      rw [e2]
      repeat' split
      all_goals first | rfl | (exfalso; simp at *; done)
set_option maxRecDepth 100000 in
theorem ref_tenc_l1 (a0 a1 : Int) (b : Bool) (ss : List S154) (hs : List S152) (hl : hs.length ≤ 4) (hB : hs.all headB = true) : ∀ (d k i : Nat) (x : List Int), hs.length - i ≤ d → i ≤ hs.length → d + 20 ≤ k → x.length ≤ 2000 + 500 * i → turncockref1_EncodeTell.l1 k x (i : Int) a0 a1 b ss hs = some ((hs.drop i).foldl headW x, 0) := by
  have out : ∀ (k i : Nat) (x : List Int), ¬ i < hs.length → 1 ≤ k → turncockref1_EncodeTell.l1 k x (i : Int) a0 a1 b ss hs = some ((hs.drop i).foldl headW x, 0) := by
    intro k i x h1 h2
    obtain ⟨k, rfl⟩ : ∃ j, k = j + 1 := ⟨k - 1, by omega⟩
    simp only [turncockref1_EncodeTell.l1]
    rw [if_neg (by omega), List.drop_eq_nil_of_le (by omega)]; rfl
  intro d
  induction d with
  | zero => intro k i x h1 h2 h3 h4; exact out k i x (by omega) (by omega)
  | succ d ih =>
    intro k i x h1 h2 h3 h4
    by_cases hi : i < hs.length
    · have hh := all_T152 hs i hi hB
      have hlx := headW_len x _ hh
      simp only [headB, nameB, Bool.and_eq_true, decide_eq_true_eq] at hh
      obtain ⟨k, rfl⟩ : ∃ j, k = j + 1 := ⟨k - 1, by omega⟩
      simp only [turncockref1_EncodeTell.l1]
      have p1 := putv_len9 (v := (rd_T152 hs (i : Int)).f0.size) (by omega)
      have p2 := bytesOf_length (rd_T152 hs (i : Int)).f0
      rw [if_pos (by omega), if_pos (by omega), ref_text_f x _ k (by omega) (by omega) (by omega), Option.bind_some, ref_text_f _ _ k (by omega) (by omega) (by simp only [List.length_append]; omega), Option.bind_some, w64 (by omega) (by omega)]
      have h5 := ih k (i + 1) (headW x (rd_T152 hs (i : Int))) (by omega) (by omega) (by omega) (by omega)
      rw [drop_T152 hs i hi, List.foldl_cons]
      simpa [headW] using h5
    · exact out k i x hi (by omega)
set_option maxRecDepth 100000 in
theorem ref_tenc_l0 (a0 a1 : Int) (b : Bool) (ss : List S154) (hs : List S152) (hl : hs.length ≤ 4) (hB : hs.all headB = true) (hl2 : ss.length ≤ 16) (hB2 : ss.all statB = true) : ∀ (d k i : Nat) (x : List Int), ss.length - i ≤ d → i ≤ ss.length → d + 50 ≤ k → x.length ≤ 100 + 50 * i → turncockref1_EncodeTell.l0 k x (i : Int) a0 a1 b ss hs = some (hs.foldl headW ((ss.drop i).foldl statW x ++ putv hs.length), 0) := by
  have out : ∀ (k i : Nat) (x : List Int), ¬ i < ss.length → i ≤ ss.length → 50 ≤ k → x.length ≤ 100 + 50 * i → turncockref1_EncodeTell.l0 k x (i : Int) a0 a1 b ss hs = some (hs.foldl headW ((ss.drop i).foldl statW x ++ putv hs.length), 0) := by
    intro k i x h1 h0 h2 h3
    obtain ⟨k, rfl⟩ : ∃ j, k = j + 1 := ⟨k - 1, by omega⟩
    simp only [turncockref1_EncodeTell.l0]
    have p5 := putv_len9 (v := hs.length) (by omega)
    rw [if_neg (by omega), List.drop_eq_nil_of_le (by omega), ref_num_f x _ (by omega) (by omega) k (by omega) (by omega), Option.bind_some]
    have h := ref_tenc_l1 a0 a1 b ss hs hl hB hs.length k 0 (x ++ putv hs.length) (by omega) (by omega) (by omega) (by rw [List.length_append]; omega)
    simpa using h
  intro d
  induction d with
  | zero => intro k i x h1 h2 h3 h4; exact out k i x (by omega) h2 (by omega) h4
  | succ d ih =>
    intro k i x h1 h2 h3 h4
    by_cases hi : i < ss.length
    · have hh := all_T154 ss i hi hB2
      have hlx := statW_len x _ hh
      simp only [statB, decide_eq_true_eq] at hh
      obtain ⟨k, rfl⟩ : ∃ j, k = j + 1 := ⟨k - 1, by omega⟩
      simp only [turncockref1_EncodeTell.l0]
      have p0 := putv_len9 (v := (rd_T154 ss (i : Int)).f0.toNat) (by omega)
      have p1 := putv_len9 (v := (rd_T154 ss (i : Int)).f1.toNat) (by omega)
      have p2 := putv_len9 (v := (rd_T154 ss (i : Int)).f2.toNat) (by omega)
      have p3 := putv_len9 (v := (rd_T154 ss (i : Int)).f3.toNat) (by omega)
      rw [if_pos (by omega), if_pos (by omega), ref_num_f x _ (by omega) (by omega) k (by omega) (by omega), Option.bind_some, ref_num_f _ _ (by omega) (by omega) k (by omega) (by simp only [List.length_append]; omega), Option.bind_some, ref_num_f _ _ (by omega) (by omega) k (by omega) (by simp only [List.length_append]; omega), Option.bind_some, ref_num_f _ _ (by omega) (by omega) k (by omega) (by simp only [List.length_append]; omega), Option.bind_some, ref_num_f _ _ (by omega) (by omega) k (by omega) (by simp only [List.length_append]; omega), Option.bind_some, w64 (by omega) (by omega)]
      have h5 := ih k (i + 1) (statW x (rd_T154 ss (i : Int))) (by omega) (by omega) (by omega) (by omega)
      rw [drop_T154 ss i hi, List.foldl_cons]
      simpa [statW] using h5
    · exact out k i x hi h2 (by omega) h4
set_option maxRecDepth 100000 in
theorem ref_tenc_f (a0 a1 : Int) (b : Bool) (ss : List S154) (hs : List S152) (hL : lightT ss hs) (k : Nat) (hk : 30000 ≤ k) : turncockref1_EncodeTell.f k a0 a1 b ss hs = some (if tellB a0 a1 ss hs then (tellW a0 a1 b ss hs, 0) else ([], 1)) := by
  unfold turncockref1_EncodeTell.f
  rw [ref_tell_f a0 a1 b ss hs hL k (by omega), Option.bind_some]
  cases h : tellB a0 a1 ss hs with
  | false => rfl
  | true =>
    rw [if_pos rfl]
    simp only [tellB, Bool.and_eq_true, decide_eq_true_eq] at h
    obtain ⟨⟨⟨q1, q2, q3, q4, q5⟩, q6⟩, q7⟩ := h
    obtain ⟨k, rfl⟩ : ∃ j, k = j + 1 := ⟨k - 1, by omega⟩
    have p1 := putv_len9 (v := a0.toNat) (by omega)
    have p2 := putv_len9 (v := a1.toNat) (by omega)
    have p3 : (putv (fullN b)).length ≤ 10 := putv_len9 (by cases b <;> decide)
    have p4 := putv_len9 (v := ss.length) (by omega)
    have key : turncockref1_EncodeTell.j0 (k + 1) (fullN b : Int) a0 a1 b ss hs = some (tellW a0 a1 b ss hs, 0) := by
      simp only [turncockref1_EncodeTell.j0]
      have hf : (fullN b : Int) ≤ 1 := by cases b <;> decide
      rw [ref_num_f [2] a0 (by omega) (by omega) k (by omega) (by simp), Option.bind_some, ref_num_f _ a1 (by omega) (by omega) k (by omega) (by simp; omega), Option.bind_some, ref_num_f _ (fullN b : Int) (by omega) (by omega) k (by omega) (by simp; omega), Option.bind_some, ref_num_f _ (ss.length : Int) (by omega) (by omega) k (by omega) (by simp only [Int.toNat_natCast, List.length_append, List.length_cons, List.length_nil]; omega), Option.bind_some]
      simp only [Int.toNat_natCast]
      have h6 := ref_tenc_l0 a0 a1 b ss hs (by omega) q7 (by omega) q6 ss.length k 0 ([2] ++ putv a0.toNat ++ putv a1.toNat ++ putv (fullN b) ++ putv ss.length) (by omega) (by omega) (by omega) (by simp only [List.length_append, List.length_cons, List.length_nil]; omega)
      rw [show ((0 : Nat) : Int) = 0 from rfl, List.drop_zero] at h6
      exact h6
    cases b
    · exact key
    · exact key
theorem smallT_light (ss : List S154) (hs : List S152) (h : lightT ss hs) : smallT ss hs = true := by
  simp only [smallT, Bool.and_eq_true, decide_eq_true_eq, List.all_eq_true]
  exact ⟨by have := h.1; omega, by have := h.2.1; omega, fun x hx => by have := h.2.2 x hx; omega⟩
theorem tcheck_f (a0 a1 : Int) (b : Bool) (ss : List S154) (hs : List S152) (h : lightT ss hs) : tell_Check.f a0 a1 b ss hs = some (if tellB a0 a1 ss hs then 0 else 1) := by
  unfold tell_Check.f; rw [if_pos (smallT_light ss hs h)]
theorem tenc_f (a0 a1 : Int) (b : Bool) (ss : List S154) (hs : List S152) (h : lightT ss hs) : tell_Encode.f a0 a1 b ss hs = some (if tellB a0 a1 ss hs then (tellW a0 a1 b ss hs, 0) else ([], 1)) := by
  unfold tell_Encode.f; rw [if_pos (smallT_light ss hs h)]
  cases tellB a0 a1 ss hs <;> rfl
theorem tdec_back (a0 a1 : Int) (b : Bool) (ss : List S154) (hs : List S152) (h : tellB a0 a1 ss hs = true) : tell_Decode.f (tellW a0 a1 b ss hs) = some (a0, a1, b, ss, hs, 0) := by
  have hl := tellW_len a0 a1 b ss hs h
  unfold tell_Decode.f
  rw [if_pos ⟨tellW_bytes a0 a1 b ss hs, by omega⟩, rtell_put a0 a1 b ss hs h]
  simp only [tellB, Bool.and_eq_true, decide_eq_true_eq] at h
  simp only []
  rw [show ((a0.toNat : Nat) : Int) = a0 from by omega, show ((a1.toNat : Nat) : Int) = a1 from by omega]
def good154 (x : S154) : Prop := (Lit.int .i64 x.f0).wf = true ∧ (Lit.int .i64 x.f1).wf = true ∧ (Lit.int .i64 x.f2).wf = true ∧ (Lit.int .i64 x.f3).wf = true ∧ (Lit.int .i64 x.f4).wf = true
def good152 (x : S152) : Prop := x.f0.size ≤ 140737488351232 ∧ x.f1.size ≤ 140737488351232
end Go.Proofs.Ytnhblhhkjnmkkaa.Q
