/- Plain facts on frames laid behind one another: they are told again, whole; cut off anywhere, those are told that are whole. -/
import Derived.Test.YtnhblhhkjnmkkaaFr
namespace Go.Proofs.Ytnhblhhkjnmkkaa.Fs
set_option linter.unusedSimpArgs false
set_option linter.unusedVariables false
open Go.RowKit Go.Proofs.YtnhblhhkjnmkkaaW.PrintWords Go.Proofs.YtnhblhhkjnmkkaaW.PrintLast Go.Proofs.YtnhblhhkjnmkkaaW.PrintMore
open Go.Proofs.Ytnhblhhkjnmkkaa.Q Go.Proofs.Ytnhblhhkjnmkkaa.Sp Go.Proofs.Ytnhblhhkjnmkkaa.Va Go.Proofs.Ytnhblhhkjnmkkaa.Fr

/-- A frame. -/
def putf (x : List Int) : List Int := putv x.length ++ x
def enc (l : List (List Int)) : List Int := l.flatMap putf
theorem enc_nil : enc [] = [] := rfl
theorem enc_cons (x : List Int) (l : List (List Int)) : enc (x :: l) = putf x ++ enc l := rfl
theorem enc_snoc (l : List (List Int)) (x : List Int) : enc (l ++ [x]) = enc l ++ putf x := by simp [enc]
theorem putf_len (x : List Int) : (putf x).length = (putv x.length).length + x.length := by simp [putf]
theorem putf_pos (x : List Int) : 1 ≤ (putf x).length := by
  have := putv_pos x.length
  rw [putf_len]
  omega
theorem putf_bytes {x : List Int} (h : Bytes x) : Bytes (putf x) := (putv_bytes _).append h
theorem enc_bytes {l : List (List Int)} (h : ∀ x ∈ l, Bytes x) : Bytes (enc l) := by
  induction l with
  | nil => exact Bytes.nil
  | cons x l ih => exact (putf_bytes (h x (List.mem_cons_self ..))).append (ih fun y hy => h y (List.mem_cons_of_mem _ hy))

theorem put_frame (b x : List Int) (k : Nat) (hk : 10 ≤ k) (hl : b.length + x.length ≤ 1000000000) : frame_Put.f k b x = some (b ++ putf x) := by
  have h10 := putv_le10 x.length (by omega)
  unfold frame_Put.f
  rw [u64w (n := (x.length : Int)) (by omega) (by omega), put_f x.length b k (by omega) (by omega)]
  simp only [Option.bind_some]
  rw [if_pos (by simp; omega)]
  simp [putf]

theorem next_putf (m : Nat) (x t : List Int) (hm : x.length ≤ m) (hx : x.length < 18446744073709551616) : nextv m (putf x ++ t) = (x, (putf x).length, 0) := by
  have h := getv_putv x.length 0 0 (x ++ t) (by omega) (Or.inl rfl)
  unfold nextv
  rw [show putf x ++ t = putv x.length ++ (x ++ t) from by simp [putf], h]
  simp only [if_true]
  rw [if_neg (by omega), if_neg (by simp)]
  refine Prod.ext ?_ (Prod.ext ?_ rfl)
  · show (List.take (0 + (putv x.length).length + (0 + x.length * 128 ^ 0)) (putv x.length ++ (x ++ t))).drop (0 + (putv x.length).length) = x
    rw [List.drop_take]
    simp
  · simp [putf]

theorem next_cut (m : Nat) (x : List Int) (j : Nat) (hm : x.length ≤ m) (hx : x.length < 18446744073709551616) (hj : j < (putf x).length) : nextv m ((putf x).take j) = ([], 0, 3) := by
  rw [putf_len] at hj
  unfold nextv
  by_cases c : j < (putv x.length).length
  · have h := getv_cut x.length 0 0 j (by omega) (Or.inl rfl) c
    rw [show (putf x).take j = (putv x.length).take j from by rw [putf, List.take_append_of_le_length (by omega)], h]
    simp
  · have h := getv_putv x.length 0 0 (x.take (j - (putv x.length).length)) (by omega) (Or.inl rfl)
    rw [show (putf x).take j = putv x.length ++ x.take (j - (putv x.length).length) from by rw [putf, List.take_append]; rw [List.take_of_length_le (l := putv x.length) (by omega)], h]
    simp only [if_true]
    rw [if_neg (by omega), if_pos]
    simp
    omega

theorem all_enc (m : Nat) : ∀ (l : List (List Int)) (f : Nat), (∀ x ∈ l, x.length ≤ m ∧ x.length < 18446744073709551616) → (enc l).length ≤ f → allv m f (enc l) = (l, (enc l).length, 0) := by
  intro l
  induction l with
  | nil => intro f _ _; rw [enc_nil, allv_nil]; rfl
  | cons x l ih =>
    intro f h hf
    have hp := putf_pos x
    rw [enc_cons] at hf ⊢
    simp only [List.length_append] at hf
    obtain ⟨f, rfl⟩ : ∃ g, f = g + 1 := ⟨f - 1, by omega⟩
    obtain ⟨h1, h2⟩ := h x (List.mem_cons_self ..)
    simp only [allv]
    rw [if_neg, next_putf m x _ h1 h2]
    · simp only [if_true]
      rw [List.drop_left, ih f (fun y hy => h y (List.mem_cons_of_mem _ hy)) (by omega)]
      simp
    · intro e
      have := congrArg List.length e
      simp only [List.length_append, List.length_nil] at this
      omega

/-- Cut off anywhere: those are told that are whole. -/
theorem all_cut (m : Nat) : ∀ (l : List (List Int)) (f j : Nat), (∀ x ∈ l, x.length ≤ m ∧ x.length < 18446744073709551616) → j ≤ (enc l).length → j ≤ f →
    ∃ n, n ≤ l.length ∧ (enc (l.take n)).length ≤ j ∧ (n < l.length → j < (enc (l.take (n + 1))).length) ∧
      allv m f ((enc l).take j) = (l.take n, (enc (l.take n)).length, if (enc (l.take n)).length = j then 0 else 3) := by
  intro l
  induction l with
  | nil =>
    intro f j _ hj _
    obtain rfl : j = 0 := by simpa [enc] using hj
    exact ⟨0, by simp, by simp [enc], by simp, by rw [List.take_zero, allv_nil]; simp [enc]⟩
  | cons x l ih =>
    intro f j h hj hf
    have hp := putf_pos x
    obtain ⟨h1, h2⟩ := h x (List.mem_cons_self ..)
    by_cases c : j < (putf x).length
    · refine ⟨0, by simp, by simp [enc], fun _ => by simpa [enc] using c, ?_⟩
      rw [enc_cons, List.take_append_of_le_length (by omega)]
      cases j with
      | zero => rw [List.take_zero, allv_nil]; simp [enc]
      | succ j =>
        obtain ⟨f, rfl⟩ : ∃ g, f = g + 1 := ⟨f - 1, by omega⟩
        simp only [allv]
        rw [if_neg, next_cut m x (j + 1) h1 h2 c]
        · simp [enc]
        · intro e
          have := congrArg List.length e
          simp only [List.length_append, List.length_take, List.length_nil] at this
          omega
    · rw [enc_cons] at hj
      simp only [List.length_append] at hj
      obtain ⟨f, rfl⟩ : ∃ g, f = g + 1 := ⟨f - 1, by omega⟩
      obtain ⟨n, hn1, hn2, hn3, hn4⟩ := ih f (j - (putf x).length) (fun y hy => h y (List.mem_cons_of_mem _ hy)) (by omega) (by omega)
      refine ⟨n + 1, by simp; omega, ?_, ?_, ?_⟩
      · rw [List.take_succ_cons, enc_cons, List.length_append]; omega
      · intro hlt
        simp only [List.length_cons] at hlt
        have := hn3 (by omega)
        rw [List.take_succ_cons, enc_cons, List.length_append]
        omega
      · rw [enc_cons, List.take_append, List.take_of_length_le (l := putf x) (by omega)]
        simp only [allv]
        rw [if_neg, next_putf m x _ h1 h2]
        · simp only [if_true]
          rw [List.drop_left, hn4, List.take_succ_cons, enc_cons, List.length_append]
          refine Prod.ext rfl (Prod.ext rfl ?_)
          show (if (enc (l.take n)).length = j - (putf x).length then (0 : Int) else 3) = (if (putf x).length + (enc (l.take n)).length = j then 0 else 3)
          by_cases e : (enc (l.take n)).length = j - (putf x).length
          · rw [if_pos e, if_pos (by omega)]
          · rw [if_neg e, if_neg (by omega)]
        · intro e
          have := congrArg List.length e
          simp only [List.length_append, List.length_take, List.length_nil] at this
          omega

/-- How many bytes there are, together. -/
def tot : List (List Int) → Nat
  | [] => 0
  | x :: l => x.length + tot l
theorem tot_mem {l : List (List Int)} {x : List Int} (h : x ∈ l) : x.length ≤ tot l := by
  induction l with
  | nil => cases h
  | cons y l ih =>
    rcases List.mem_cons.1 h with rfl | h
    · simp only [tot]; omega
    · have := ih h; simp only [tot]; omega
theorem enc_len (l : List (List Int)) (h : tot l < 18446744073709551616) : (enc l).length ≤ tot l + 10 * l.length := by
  induction l with
  | nil => simp [enc]
  | cons x l ih =>
    simp only [tot] at h
    have h1 := ih (by omega)
    have h2 := putv_le10 x.length (by omega)
    rw [enc_cons, List.length_append, putf_len]
    simp only [tot, List.length_cons]
    omega
theorem rd_at (l : List (List Int)) (i : Nat) (h : i < l.length) : l.drop i = rd_L1 l (i : Int) :: l.drop (i + 1) := by
  rw [List.drop_eq_getElem_cons h]
  congr 1
  unfold rd_L1
  rw [Int.toNat_natCast, List.getD_eq_getElem?_getD, List.getElem?_eq_getElem h]
  rfl
theorem take_at (l : List (List Int)) (i : Nat) (h : i < l.length) : l.take (i + 1) = l.take i ++ [rd_L1 l (i : Int)] := by
  rw [List.take_succ_eq_append_getElem h]
  congr 2
  unfold rd_L1
  rw [Int.toNat_natCast, List.getD_eq_getElem?_getD, List.getElem?_eq_getElem h]
  rfl
theorem rd_mem (l : List (List Int)) (i : Nat) (h : i < l.length) : rd_L1 l (i : Int) ∈ l := by
  unfold rd_L1
  rw [Int.toNat_natCast, List.getD_eq_getElem?_getD, List.getElem?_eq_getElem h]
  exact List.getElem_mem h

theorem weight_l0 (l : List (List Int)) (hl : l.length ≤ 140737488351232) (hx : ∀ x ∈ l, x.length ≤ 140737488351232) : ∀ (d k n i : Nat), l.length - i ≤ d → i ≤ l.length → d + 1 ≤ k → n ≤ 140737488400000 →
    ∃ r : Nat, turncocklaw3_weight.l0 k l (n : Int) (i : Int) = some (r : Int) ∧ (r ≤ 20000 → n + tot (l.drop i) ≤ 20000) := by
  intro d
  induction d with
  | zero =>
    intro k n i h1 h2 hk hn
    obtain ⟨k, rfl⟩ : ∃ m, k = m + 1 := ⟨k - 1, by omega⟩
    simp only [turncocklaw3_weight.l0]
    rw [if_neg (by omega), List.drop_eq_nil_of_le (by omega)]
    exact ⟨n, rfl, fun h => by simpa [tot] using h⟩
  | succ d ih =>
    intro k n i h1 h2 hk hn
    obtain ⟨k, rfl⟩ : ∃ m, k = m + 1 := ⟨k - 1, by omega⟩
    simp only [turncocklaw3_weight.l0]
    by_cases c : i < l.length
    · rw [if_pos (by omega)]
      by_cases c2 : n ≤ 20000
      · rw [if_pos (by omega), if_pos (by omega)]
        have hm := hx _ (rd_mem l i c)
        obtain ⟨q, hq, hq2⟩ : ∃ q : Nat, mn ((rd_L1 l (i : Int)).length : Int) 20001 = (q : Int) ∧ (q ≤ 20001 ∧ (q ≤ 20000 → q = (rd_L1 l (i : Int)).length)) := by
          unfold mn
          split
          · exact ⟨20001, rfl, by omega, by omega⟩
          · exact ⟨_, rfl, by omega, by omega⟩
        rw [hq, w64 (n := (n : Int) + (q : Int)) (by omega) (by omega), w64 (n := (i : Int) + 1) (by omega) (by omega), show ((n : Int) + (q : Int)) = ((n + q : Nat) : Int) from by omega, show ((i : Int) + 1) = ((i + 1 : Nat) : Int) from by omega]
        obtain ⟨r, hr, hr2⟩ := ih k (n + q) (i + 1) (by omega) (by omega) (by omega) (by omega)
        refine ⟨r, hr, fun h => ?_⟩
        have h3 := hr2 h
        rw [rd_at l i c]
        simp only [tot]
        have := hq2.2 (by omega)
        omega
      · rw [if_neg (by omega)]
        exact ⟨n, rfl, fun h => by omega⟩
    · rw [if_neg (by omega), List.drop_eq_nil_of_le (by omega)]
      exact ⟨n, rfl, fun h => by simpa [tot] using h⟩

theorem weight_f (l : List (List Int)) (hl : l.length ≤ 140737488351232) (hx : ∀ x ∈ l, x.length ≤ 140737488351232) (k : Nat) (hk : l.length + 1 ≤ k) :
    ∃ r : Nat, turncocklaw3_weight.f k l = some (r : Int) ∧ (r ≤ 20000 → l.length + tot l ≤ 20000) := by
  obtain ⟨r, h1, h2⟩ := weight_l0 l hl hx l.length k l.length 0 (by omega) (by omega) hk (by omega)
  exact ⟨r, h1, by simpa using h2⟩

theorem back_l0 (l : List (List Int)) (hb : ∀ x ∈ l, Bytes x) (ht : l.length + tot l ≤ 20000) (a : Int) : ∀ (d k i : Nat) (long : Nat), l.length - i ≤ d → i ≤ l.length → d + 500000 ≤ k → long ≤ 20000 → (∀ x ∈ l.take i, x.length ≤ long) →
    turncocklaw3_FrameBack.l0 k l a (enc (l.take i)) (long : Int) (i : Int) = some true := by
  have htk : ∀ i, (enc (l.take i)).length ≤ 220000 := fun i => by
    have h1 := enc_len (l.take i) (by
      have : tot (l.take i) ≤ tot l := by
        clear hb ht
        induction l generalizing i with
        | nil => simp
        | cons x l ih => cases i with | zero => simp [tot] | succ i => simp only [List.take_succ_cons, tot]; have := ih i; omega
      omega)
    have h2 : tot (l.take i) ≤ tot l := by
      clear hb ht h1
      induction l generalizing i with
      | nil => simp
      | cons x l ih => cases i with | zero => simp [tot] | succ i => simp only [List.take_succ_cons, tot]; have := ih i; omega
    have h3 : (l.take i).length ≤ l.length := by simp; omega
    omega
  intro d
  induction d with
  | zero =>
    intro k i long h1 h2 hk hl hlong
    obtain ⟨k, rfl⟩ : ∃ m, k = m + 1 := ⟨k - 1, by omega⟩
    obtain rfl : i = l.length := by omega
    have hlen := htk l.length
    rw [List.take_length] at hlong hlen ⊢
    simp only [turncocklaw3_FrameBack.l0]
    rw [if_neg (by omega)]
    have hlim : ∀ x ∈ l, x.length ≤ lim (mx a (long : Int)) ∧ x.length < 18446744073709551616 := fun x hx => by
      have := hlong x hx
      unfold lim mx
      split <;> omega
    rw [all_f (enc l) (enc_bytes hb) (by omega) _ _ (by omega), all_enc _ l _ hlim (Nat.le_refl _)]
    simp only [Option.bind_some, toldAll]
    rw [rows_self l (by omega) _ (by omega)]
    simp [turncocklaw3_awake.f]
  | succ d ih =>
    intro k i long h1 h2 hk hl hlong
    by_cases c : i < l.length
    · obtain ⟨k, rfl⟩ : ∃ m, k = m + 1 := ⟨k - 1, by omega⟩
      have hlen := htk i
      have hm := tot_mem (rd_mem l i c)
      simp only [turncocklaw3_FrameBack.l0]
      rw [if_pos (by omega), if_pos (by omega), put_frame _ _ k (by omega) (by omega)]
      simp only [Option.bind_some]
      rw [← enc_snoc, ← take_at l i c]
      obtain ⟨q, hq, hq2⟩ : ∃ q : Nat, mx (long : Int) ((rd_L1 l (i : Int)).length : Int) = (q : Int) ∧ (q ≤ 20000 ∧ long ≤ q ∧ (rd_L1 l (i : Int)).length ≤ q) := by
        unfold mx
        split
        · exact ⟨_, rfl, by omega⟩
        · exact ⟨_, rfl, by omega⟩
      rw [hq, w64 (n := (i : Int) + 1) (by omega) (by omega), show ((i : Int) + 1) = ((i + 1 : Nat) : Int) from by omega]
      refine ih k (i + 1) q (by omega) (by omega) (by omega) hq2.1 (fun x hx => ?_)
      rw [take_at l i c] at hx
      rcases List.mem_append.1 hx with hx | hx
      · have := hlong x hx; omega
      · obtain rfl := List.mem_singleton.1 hx; omega
    · have h0 := ih k i long (by omega) (by omega) (by omega) hl hlong
      exact h0

theorem enc_append (a b : List (List Int)) : enc (a ++ b) = enc a ++ enc b := by simp [enc]
theorem enc_mono (l : List (List Int)) (a b : Nat) (h : a ≤ b) : (enc (l.take a)).length ≤ (enc (l.take b)).length := by
  have e : l.take b = l.take a ++ (l.take b).drop a := by
    have h1 := List.take_append_drop a (l.take b)
    rw [List.take_take, Nat.min_eq_left h] at h1
    exact h1.symm
  rw [e, enc_append, List.length_append]
  omega
theorem enc_one (l : List (List Int)) (n : Nat) (h : 1 ≤ n) (hn : n ≤ l.length) : 1 ≤ (enc (l.take n)).length := by
  cases l with
  | nil => simp at hn; omega
  | cons x l =>
    obtain ⟨n, rfl⟩ : ∃ m, n = m + 1 := ⟨n - 1, by omega⟩
    rw [List.take_succ_cons, enc_cons, List.length_append]
    have := putf_pos x
    omega
theorem tot_take (l : List (List Int)) (i : Nat) : tot (l.take i) ≤ tot l := by
  induction l generalizing i with
  | nil => simp
  | cons x l ih => cases i with | zero => simp [tot] | succ i => simp only [List.take_succ_cons, tot]; have := ih i; omega

end Go.Proofs.Ytnhblhhkjnmkkaa.Fs
