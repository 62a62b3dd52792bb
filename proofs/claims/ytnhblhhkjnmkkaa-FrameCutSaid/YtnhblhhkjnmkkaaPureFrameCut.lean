/- FrameCut, as plain Lean: of frames that are cut off anywhere those are told that are whole; one that is not wants more bytes. No condition beyond the row's own. -/
import Derived.Test.YtnhblhhkjnmkkaaFs
import Derived.Test.YtnhblhhkjnmkkaaQ9
namespace Go.Proofs.Ytnhblhhkjnmkkaa.Pure
open Go.RowKit Go.Proofs.Ytnhblhhkjnmkkaa.Q Go.Proofs.YtnhblhhkjnmkkaaW.PrintWords Go.Proofs.YtnhblhhkjnmkkaaW.PrintLast Go.Proofs.YtnhblhhkjnmkkaaW.PrintMore
open Go.Proofs.Ytnhblhhkjnmkkaa.Sp Go.Proofs.Ytnhblhhkjnmkkaa.Va Go.Proofs.Ytnhblhhkjnmkkaa.Fr Go.Proofs.Ytnhblhhkjnmkkaa.Fs
set_option linter.unusedSimpArgs false
set_option linter.unusedVariables false
theorem cut_l0 (l : List (List Int)) (hb : ∀ x ∈ l, Bytes x) (ht : l.length + tot l ≤ 20000) (a : Int) (ha : -9223372036854775808 ≤ a ∧ a ≤ 9223372036854775807) : ∀ (d k i W E : Nat), l.length - i ≤ d → i ≤ l.length → d + 500000 ≤ k →
    W ≤ i → E = (enc (l.take W)).length → (W = 0 ∨ (E : Int) ≤ a) → (∀ j, W < j → j ≤ i → a < ((enc (l.take j)).length : Int)) →
    turncocklaw3_FrameCut.l0 k l a (enc (l.take i)) (W : Int) (E : Int) (i : Int) = some true := by
  have htk : ∀ i, (enc (l.take i)).length ≤ 220000 := fun i => by
    have h2 := tot_take l i
    have h1 := enc_len (l.take i) (by omega)
    have h3 : (l.take i).length ≤ l.length := by simp; omega
    omega
  intro d
  induction d with
  | zero =>
    intro k i W E h1 h2 hk hW hE hWa hWj
    obtain ⟨k, rfl⟩ : ∃ m, k = m + 1 := ⟨k - 1, by omega⟩
    obtain rfl : i = l.length := by omega
    have hlen := htk l.length
    have hEl := enc_mono l W l.length hW
    rw [List.take_length] at hlen hEl ⊢
    simp only [turncocklaw3_FrameCut.l0]
    rw [if_neg (by omega)]
    obtain ⟨j, hj, hj1, hj2, hj3⟩ : ∃ j : Nat, mx (mn a ((enc l).length : Int)) 0 = (j : Int) ∧ j ≤ (enc l).length ∧ ((j : Int) ≤ a ∨ j = 0) ∧ (∀ q : Nat, q ≤ (enc l).length → (q : Int) ≤ a → q ≤ j) := by
      unfold mx mn
      split
      · split
        · exact ⟨0, rfl, by omega, by omega, fun q _ _ => by omega⟩
        · exact ⟨(enc l).length, rfl, by omega, by omega, fun q _ _ => by omega⟩
      · split
        · exact ⟨0, rfl, by omega, by omega, fun q _ _ => by omega⟩
        · exact ⟨a.toNat, by omega, by omega, by omega, fun q _ _ => by omega⟩
    rw [hj, if_pos (by omega), if_pos (by omega), Int.toNat_natCast]
    have hlim : ∀ x ∈ l, x.length ≤ 65536 ∧ x.length < 18446744073709551616 := fun x hx => by have := tot_mem hx; omega
    obtain ⟨n, hn1, hn2, hn3, hn4⟩ := all_cut 65536 l (enc l).length j hlim hj1 hj1
    have hjl : ((enc l).take j).length = j := by simp; omega
    have hnW : n = W := by
      rcases Nat.lt_trichotomy n W with h | h | h
      · have h5 := hn3 (by omega)
        have h6 := enc_mono l (n + 1) W (by omega)
        have h7 : E ≤ j := by
          rcases hWa with rfl | h8
          · omega
          · exact hj3 E (by omega) h8
        omega
      · exact h
      · have h5 := hWj (W + 1) (by omega) (by omega)
        have h6 := enc_mono l (W + 1) n (by omega)
        have h7 := enc_one l n (by omega) hn1
        omega
    subst hnW
    rw [all_f ((enc l).take j) ((enc_bytes hb).take j) (by omega) _ _ (by omega), show lim 65536 = 65536 from rfl, allv_rounds 65536 _ (enc l).length _ ((enc_bytes hb).take j) (Nat.le_refl _) (by omega), hn4]
    simp only [Option.bind_some, toldAll]
    rw [if_pos (by omega), if_pos (by omega), Int.toNat_natCast, rows_self (l.take n) (by simp; omega) _ (by simp; omega)]
    simp only [Option.bind_some, if_true]
    rw [← hE, if_pos rfl]
    by_cases e : E = j
    · subst e
      simp [turncocklaw3_awake.f]
    · rw [if_neg e]
      have e2 : ((j : Int) == (E : Int)) = false := by simp; omega
      rw [e2]
      simp [turncocklaw3_awake.f]
  | succ d ih =>
    intro k i W E h1 h2 hk hW hE hWa hWj
    by_cases c : i < l.length
    · obtain ⟨k, rfl⟩ : ∃ m, k = m + 1 := ⟨k - 1, by omega⟩
      have hlen := htk i
      have hlen2 := htk (i + 1)
      have hm := tot_mem (rd_mem l i c)
      simp only [turncocklaw3_FrameCut.l0]
      rw [if_pos (by omega), if_pos (by omega), put_frame _ _ k (by omega) (by omega)]
      simp only [Option.bind_some]
      rw [← enc_snoc, ← take_at l i c, w64 (n := (i : Int) + 1) (by omega) (by omega), show ((i : Int) + 1) = ((i + 1 : Nat) : Int) from by omega]
      by_cases c2 : a ≥ ((enc (l.take (i + 1))).length : Int)
      · rw [if_pos c2]
        exact ih k (i + 1) (i + 1) _ (by omega) (by omega) (by omega) (Nat.le_refl _) rfl (Or.inr c2) (fun j _ _ => by omega)
      · rw [if_neg c2]
        refine ih k (i + 1) W E (by omega) (by omega) (by omega) (by omega) hE hWa (fun j hj1 hj2 => ?_)
        rcases Nat.lt_or_ge i j with h | h
        · obtain rfl : j = i + 1 := by omega
          omega
        · exact hWj j hj1 h
    · exact ih k i W E (by omega) (by omega) (by omega) hW hE hWa hWj
theorem FrameCut (l0 : (List (List Int))) (g0 : (l0.length * 24 ≤ 140737488351232 ∧ ∀ y0 ∈ l0, (y0.length * 1 ≤ 140737488351232 ∧ ∀ y1 ∈ y0, (Lit.int .u8 y1).wf = true))) (a1 : Int) (w1 : (Lit.int .i64 a1).wf = true) : ∃ k, turncocklaw3_FrameCut.f k l0 a1 = some true := by
  have hb : ∀ x ∈ l0, Bytes x := fun x hx => bytes_of_wf (g0.2 x hx).2
  have hx : ∀ x ∈ l0, x.length ≤ 140737488351232 := fun x hx => by have := (g0.2 x hx).1; omega
  refine ⟨l0.length + 500000, ?_⟩
  obtain ⟨r, hr, hr2⟩ := weight_f l0 (by omega) hx (l0.length + 500000) (by omega)
  unfold turncocklaw3_FrameCut.f
  rw [hr]
  simp only [Option.bind_some]
  by_cases c : r ≤ 5000
  · rw [if_neg (by omega)]
    have h := cut_l0 l0 hb (hr2 (by omega)) a1 (int_of_wf w1) l0.length (l0.length + 500000) 0 0 0 (by omega) (by omega) (by omega) (by omega) (by simp [enc]) (Or.inl rfl) (fun j _ _ => by omega)
    simpa [enc] using h
  · rw [if_pos (by omega)]
    simp [turncocklaw3_awake.f]
end Go.Proofs.Ytnhblhhkjnmkkaa.Pure
