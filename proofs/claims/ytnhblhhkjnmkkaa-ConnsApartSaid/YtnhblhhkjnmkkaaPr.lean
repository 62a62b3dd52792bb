/- Plain facts of the reader of a stream (reasm): what one feeding comes to; how the bytes are cut does not matter. -/
import Derived.Test.YtnhblhhkjnmkkaaFr
namespace Go.Proofs.Ytnhblhhkjnmkkaa.Fr
set_option linter.unusedSimpArgs false
set_option linter.unusedVariables false
open Go.RowKit Go.Proofs.YtnhblhhkjnmkkaaW.PrintWords Go.Proofs.YtnhblhhkjnmkkaaW.PrintLast Go.Proofs.YtnhblhhkjnmkkaaW.PrintMore
open Go.Proofs.Ytnhblhhkjnmkkaa.Q Go.Proofs.Ytnhblhhkjnmkkaa.Sp Go.Proofs.Ytnhblhhkjnmkkaa.Va
/-- Is that error one that ends a stream? -/
def badE (e : Int) : Bool := decide (e = 2) || decide (e = 4)
theorem badE_cases {e : Int} (h : e = 0 ∨ e = 2 ∨ e = 3 ∨ e = 4) : (badE e = true ∧ (e = 2 ∨ e = 4)) ∨ (badE e = false ∧ (e = 0 ∨ e = 3)) := by
  unfold badE
  rcases h with rfl | rfl | rfl | rfl <;> simp
theorem nextv_more {m : Nat} {w b x : List Int} {n : Nat} {e : Int} (hw : Bytes w) (h : nextv m w = (x, n, e)) (he : e ≠ 3) : nextv m (w ++ b) = (x, n, e) := by
  unfold nextv at h ⊢
  obtain ⟨v, p, hg | hg | hg⟩ := getv_cases w 0 0
  · have hm := getv_more w b 0 0 (by rw [hg]; intro h; simp at h)
    obtain ⟨h1, h2, h3, h4, h5⟩ := getv_ok hw hg
    rw [hg] at h
    rw [hm, hg]
    simp only [if_true] at h ⊢
    by_cases c1 : v > m
    · rw [if_pos c1] at h ⊢; exact h
    · rw [if_neg c1] at h ⊢
      by_cases c2 : v > w.length - p
      · rw [if_pos c2] at h
        simp only [Prod.mk.injEq] at h
        exact absurd h.2.2.symm he
      · rw [if_neg c2] at h
        rw [if_neg (by rw [List.length_append]; omega), List.take_append_of_le_length (by omega)]
        exact h
  · have hm := getv_more w b 0 0 (by rw [hg]; intro h; simp at h)
    rw [hg] at h
    rw [hm, hg]
    exact h
  · rw [hg] at h
    simp at h
    exact absurd h.2.2.symm he
theorem allv_err (m : Nat) : ∀ (f : Nat) (b : List Int), Bytes b → (allv m f b).2.2 = 0 ∨ (allv m f b).2.2 = 2 ∨ (allv m f b).2.2 = 3 ∨ (allv m f b).2.2 = 4 := by
  intro f
  induction f with
  | zero => intro b _; simp [allv]
  | succ f ih =>
    intro b hb
    simp only [allv]
    split
    · simp
    · split
      · exact ih _ (hb.drop _)
      · rename_i h1 h2
        have h3 := nextv_no (m := m) (b := b) (x := (nextv m b).1) (n := (nextv m b).2.1) (e := (nextv m b).2.2) rfl h2
        simp only
        omega
/-- All frames of bytes behind others: those of the first, then those of what waits and the others. -/
theorem allv_app (m : Nat) : ∀ (f g : Nat) (w b : List Int), Bytes w → Bytes b → w.length ≤ f → (w ++ b).length ≤ g →
    allv m g (w ++ b) = if badE (allv m f w).2.2 then allv m f w else
      ((allv m f w).1 ++ (allv m g (w.drop (allv m f w).2.1 ++ b)).1, (allv m f w).2.1 + (allv m g (w.drop (allv m f w).2.1 ++ b)).2.1, (allv m g (w.drop (allv m f w).2.1 ++ b)).2.2) := by
  intro f
  induction f with
  | zero =>
    intro g w b hw hb hf hg
    have : w = [] := List.length_eq_zero_iff.1 (by omega)
    subst this
    simp [allv, badE]
  | succ f ih =>
    intro g w b hw hb hf hg
    by_cases c0 : w = []
    · subst c0; simp [allv, badE]
    · obtain ⟨x, n, e, hn⟩ : ∃ x n e, nextv m w = (x, n, e) := ⟨_, _, _, rfl⟩
      by_cases c1 : e = 0
      · subst c1
        obtain ⟨h1, h2, h3, h4, h5⟩ := nextv_ok hw hn
        have hn2 := nextv_more (b := b) hw hn (by omega)
        obtain ⟨g, rfl⟩ : ∃ j, g = j + 1 := ⟨g - 1, by rw [List.length_append] at hg; omega⟩
        have hd : (w ++ b).drop n = w.drop n ++ b := List.drop_append_of_le_length h2
        rw [List.length_append] at hg
        have hi := ih g (w.drop n) b (hw.drop n) hb (by rw [List.length_drop]; omega) (by rw [List.length_append, List.length_drop]; omega)
        have e1 : allv m (g + 1) (w ++ b) = (x :: (allv m g (w.drop n ++ b)).1, n + (allv m g (w.drop n ++ b)).2.1, (allv m g (w.drop n ++ b)).2.2) := by
          rw [allv, if_neg (by simp [c0]), hn2, hd]; simp
        have e2 : allv m (f + 1) w = (x :: (allv m f (w.drop n)).1, n + (allv m f (w.drop n)).2.1, (allv m f (w.drop n)).2.2) := by
          rw [allv, if_neg c0, hn]; simp
        rw [e1, e2, hi]
        simp only []
        split
        · rfl
        · rw [List.drop_drop]
          have hlen : ((w.drop (n + (allv m f (w.drop n)).2.1)) ++ b).length ≤ g := by
            rw [List.length_append, List.length_drop]; omega
          have hr := allv_rounds m g (g + 1) ((w.drop (n + (allv m f (w.drop n)).2.1)) ++ b) (Bytes.append (hw.drop _) hb) hlen (by omega)
          rw [hr]
          simp [Nat.add_assoc]
      · have e2 : allv m (f + 1) w = ([], 0, e) := by
          rw [allv, if_neg c0, hn]; simp [c1]
        have h3 := nextv_no hn c1
        rw [e2]
        simp only [List.drop_zero, List.nil_append, Nat.zero_add]
        by_cases c2 : e = 3
        · subst c2; simp [badE]
        · have hn2 := nextv_more (b := b) hw hn c2
          obtain ⟨g, rfl⟩ : ∃ j, g = j + 1 := ⟨g - 1, by
            have : 0 < w.length := List.length_pos_iff.2 c0
            rw [List.length_append] at hg; omega⟩
          have hbe : badE e = true := by unfold badE; rcases h3.2.2 with h | h | h <;> simp [h] at c2 ⊢
          rw [if_pos hbe, allv, if_neg (by simp [c0]), hn2]
          simp [c1]
end Go.Proofs.Ytnhblhhkjnmkkaa.Fr
