/- Plain facts on frames: nextv is the first frame of bytes, allv all frames; the printed functions of package frame, and the reference's, tell what these tell. -/
import Derived.Test.YtnhblhhkjnmkkaaQ11
import Derived.Test.YtnhblhhkjnmkkaaQ12
import Derived.Test.YtnhblhhkjnmkkaaVr
namespace Go.Proofs.Ytnhblhhkjnmkkaa.Fr
open Go.RowKit Go.Proofs.YtnhblhhkjnmkkaaW.PrintWords Go.Proofs.YtnhblhhkjnmkkaaW.PrintLast Go.Proofs.YtnhblhhkjnmkkaaW.PrintMore
open Go.Proofs.Ytnhblhhkjnmkkaa.Q Go.Proofs.Ytnhblhhkjnmkkaa.Sp Go.Proofs.Ytnhblhhkjnmkkaa.Va

/-- How long a frame may be. -/
def lim (most : Int) : Nat := min most.toNat 65536
theorem lim_le (m : Int) : lim m ≤ 65536 := Nat.min_le_right _ _
theorem lim_mn (a : Int) : mn (mx a 0) 65536 = (lim a : Int) := by
  unfold mn mx lim
  split <;> split <;> omega
theorem lim_most (a : Int) : mx (mn a 65536) 0 = (lim a : Int) := by
  unfold mn mx lim
  split <;> split <;> omega

/-- The first frame of bytes, where it ends, what is wrong. -/
def nextv (m : Nat) (b : List Int) : List Int × Nat × Int :=
  if (getv 0 0 b).2.2 = 0 then
    if (getv 0 0 b).1 > m then ([], 0, 4)
    else if (getv 0 0 b).1 > b.length - (getv 0 0 b).2.1 then ([], 0, 3)
    else ((b.take ((getv 0 0 b).2.1 + (getv 0 0 b).1)).drop (getv 0 0 b).2.1, (getv 0 0 b).2.1 + (getv 0 0 b).1, 0)
  else ([], 0, (getv 0 0 b).2.2)

theorem getv_ok {b : List Int} {v n : Nat} (hb : Bytes b) (h : getv 0 0 b = (v, n, 0)) : 1 ≤ n ∧ n ≤ 10 ∧ n ≤ b.length ∧ putv v = b.take n ∧ v < 18446744073709551616 := by
  obtain ⟨u, hv, h1, h2, h3, h4, _, h5⟩ := getv_only b 0 0 v n hb (by omega) (by omega) h
  have e : u = v := by rw [hv]; simp
  subst e
  exact ⟨by omega, h2, by omega, by simpa using h4, h5⟩

def told3 (r : List Int × Nat × Int) : List Int × Int × Int := (r.1, (r.2.1 : Int), r.2.2)

theorem next_f (b : List Int) (hb : Bytes b) (hl : b.length ≤ 140737488351232) (a : Int) (k : Nat) (hk : 20 ≤ k) : frame_Next.f k b a = some (told3 (nextv (lim a) b)) := by
  have hlim := lim_le a
  unfold frame_Next.f nextv
  rw [get_f b hb (by omega) k hk, lim_mn]
  obtain ⟨v, n, h | h | h⟩ := getv_cases b 0 0
  · obtain ⟨h1, h2, h3, h4, h5⟩ := getv_ok hb h
    rw [h]
    simp only [told, Option.bind_some, if_true]
    by_cases c1 : v > lim a
    · rw [if_pos (by omega), if_pos c1]; rfl
    · rw [if_neg (by omega), if_neg c1]
      rw [w64 (n := (v : Int)) (by omega) (by omega), w64 (n := (b.length : Int) - (n : Int)) (by omega) (by omega), w64 (n := (n : Int) + (v : Int)) (by omega) (by omega)]
      by_cases c2 : v > b.length - n
      · rw [if_pos (by omega), if_pos c2]; rfl
      · rw [if_neg (by omega), if_neg c2, if_pos (by omega), if_pos (by omega), if_pos (by omega)]
        unfold slices_Clone_byte_byte.f
        rw [show ((n : Int) + (v : Int)).toNat = n + v from by omega, show (n : Int).toNat = n from by omega]
        rw [if_pos (by simp; omega)]
        simp only [Option.bind_some, told3]
        rw [show ((n : Int) + (v : Int)) = ((n + v : Nat) : Int) from by omega]
  · rw [h]; simp [told, told3]
  · rw [h]; simp [told, told3]

theorem ref_next_f (b : List Int) (hb : Bytes b) (hl : b.length ≤ 140737488351232) (a : Int) (k : Nat) (hk : 30 ≤ k) : turncockref1_Next.f k b a = some (told3 (nextv (lim a) b)) := by
  have hlim := lim_le a
  unfold turncockref1_Next.f nextv turncockref1_most.f
  rw [ref_get_f b hb (by omega) k hk, lim_most]
  obtain ⟨v, n, h | h | h⟩ := getv_cases b 0 0
  · obtain ⟨h1, h2, h3, h4, h5⟩ := getv_ok hb h
    rw [h]
    simp only [told, Option.bind_some, if_true]
    rw [u64w (n := (lim a : Int)) (by omega) (by omega)]
    by_cases c1 : v > lim a
    · rw [if_pos (by omega), if_pos c1]; rfl
    · rw [if_neg (by omega), if_neg c1]
      rw [w64 (n := (v : Int)) (by omega) (by omega), w64 (n := (b.length : Int) - (n : Int)) (by omega) (by omega), w64 (n := (n : Int) + (v : Int)) (by omega) (by omega)]
      by_cases c2 : v > b.length - n
      · rw [if_pos (by omega), if_pos c2]; rfl
      · rw [if_neg (by omega), if_neg c2, if_pos (by omega), if_pos (by omega), if_pos (by omega)]
        rw [show ((n : Int) + (v : Int)).toNat = n + v from by omega, show (n : Int).toNat = n from by omega]
        rw [if_pos (by simp; omega)]
        simp only [told3]
        rw [show ((n : Int) + (v : Int)) = ((n + v : Nat) : Int) from by omega]
        rfl
  · rw [h]; simp [told, told3]
  · rw [h]; simp [told, told3]

/-- A frame that is told is at least one byte, and lies in the bytes. -/
theorem nextv_ok {m : Nat} {b x : List Int} {n : Nat} (hb : Bytes b) (h : nextv m b = (x, n, 0)) : 1 ≤ n ∧ n ≤ b.length ∧ x.length ≤ m ∧ x.length < n ∧ putv x.length ++ x = b.take n := by
  unfold nextv at h
  obtain ⟨v, p, hg | hg | hg⟩ := getv_cases b 0 0
  · obtain ⟨h1, h2, h3, h4, h5⟩ := getv_ok hb hg
    rw [hg] at h
    simp only [if_true] at h
    by_cases c1 : v > m
    · rw [if_pos c1] at h; simp at h
    · rw [if_neg c1] at h
      by_cases c2 : v > b.length - p
      · rw [if_pos c2] at h; simp at h
      · rw [if_neg c2] at h
        simp only [Prod.mk.injEq, and_true] at h
        obtain ⟨rfl, rfl⟩ := h
        have e : ((b.take (p + v)).drop p).length = v := by simp; omega
        refine ⟨by omega, by omega, by omega, by omega, ?_⟩
        rw [e, h4]
        have h6 := List.take_append_drop p (b.take (p + v))
        rw [List.take_take, Nat.min_eq_left (by omega)] at h6
        exact h6
  · rw [hg] at h; simp at h
  · rw [hg] at h; simp at h

theorem nextv_no {m : Nat} {b x : List Int} {n : Nat} {e : Int} (h : nextv m b = (x, n, e)) (he : e ≠ 0) : x = [] ∧ n = 0 ∧ (e = 2 ∨ e = 3 ∨ e = 4) := by
  unfold nextv at h
  obtain ⟨v, p, hg | hg | hg⟩ := getv_cases b 0 0
  · rw [hg] at h
    simp only [if_true] at h
    by_cases c1 : v > m
    · rw [if_pos c1] at h; simp at h; obtain ⟨rfl, rfl, rfl⟩ := h; simp
    · rw [if_neg c1] at h
      by_cases c2 : v > b.length - p
      · rw [if_pos c2] at h; simp at h; obtain ⟨rfl, rfl, rfl⟩ := h; simp
      · rw [if_neg c2] at h
        simp only [Prod.mk.injEq] at h
        exact absurd h.2.2.symm he
  · rw [hg] at h; simp at h; obtain ⟨rfl, rfl, rfl⟩ := h; simp
  · rw [hg] at h; simp at h; obtain ⟨rfl, rfl, rfl⟩ := h; simp

/-- All frames of bytes, where they end, what is wrong there. The first number is the rounds that may be taken. -/
def allv (m : Nat) : Nat → List Int → List (List Int) × Nat × Int
  | 0, _ => ([], 0, 0)
  | f + 1, b => if b = [] then ([], 0, 0) else
      if (nextv m b).2.2 = 0 then ((nextv m b).1 :: (allv m f (b.drop (nextv m b).2.1)).1, (nextv m b).2.1 + (allv m f (b.drop (nextv m b).2.1)).2.1, (allv m f (b.drop (nextv m b).2.1)).2.2)
      else ([], 0, (nextv m b).2.2)

theorem allv_nil (m f : Nat) : allv m f [] = ([], 0, 0) := by cases f <;> simp [allv]
theorem allv_len (m : Nat) : ∀ (f : Nat) (b : List Int), Bytes b → (allv m f b).1.length ≤ b.length ∧ (allv m f b).2.1 ≤ b.length := by
  intro f
  induction f with
  | zero => intro b _; simp [allv]
  | succ f ih =>
    intro b hb
    simp only [allv]
    split
    · simp
    · split
      · rename_i h
        obtain ⟨x, n, e⟩ : ∃ x n, nextv m b = (x, n, 0) := ⟨_, _, Prod.ext rfl (Prod.ext rfl h)⟩
        obtain ⟨h1, h2, _⟩ := nextv_ok hb e
        rw [e]
        have := ih (b.drop n) (hb.drop n)
        simp only [List.length_drop] at this
        simp only [List.length_cons]
        omega
      · simp

/-- Enough rounds are enough. -/
theorem allv_rounds (m : Nat) : ∀ (f g : Nat) (b : List Int), Bytes b → b.length ≤ f → b.length ≤ g → allv m f b = allv m g b := by
  intro f
  induction f with
  | zero =>
    intro g b _ hf _
    obtain rfl : b = [] := List.eq_nil_of_length_eq_zero (by omega)
    rw [allv_nil, allv_nil]
  | succ f ih =>
    intro g b hb hf hg
    cases g with
    | zero =>
      obtain rfl : b = [] := List.eq_nil_of_length_eq_zero (by omega)
      rw [allv_nil, allv_nil]
    | succ g =>
      simp only [allv]
      split
      · rfl
      · split
        · rename_i h
          obtain ⟨x, n, e⟩ : ∃ x n, nextv m b = (x, n, 0) := ⟨_, _, Prod.ext rfl (Prod.ext rfl h)⟩
          obtain ⟨h1, h2, _⟩ := nextv_ok hb e
          rw [e]
          simp only
          rw [ih g (b.drop n) (hb.drop n) (by simp; omega) (by simp; omega)]
        · rfl

def toldAll (r : List (List Int) × Nat × Int) : List (List Int) × Int × Int := (r.1, (r.2.1 : Int), r.2.2)

theorem all_l0 (b : List Int) (hb : Bytes b) (hl : b.length ≤ 1000000) (a : Int) : ∀ (f k i : Nat) (x4 : List (List Int)), i ≤ b.length → b.length - i ≤ f → x4.length ≤ i → f + 40 ≤ k →
    frame_All.l0 k b a x4 (i : Int) = some (toldAll (x4 ++ (allv (lim a) f (b.drop i)).1, i + (allv (lim a) f (b.drop i)).2.1, (allv (lim a) f (b.drop i)).2.2)) := by
  intro f
  induction f with
  | zero =>
    intro k i x4 hi hf hx hk
    obtain ⟨k, rfl⟩ : ∃ m, k = m + 1 := ⟨k - 1, by omega⟩
    simp only [frame_All.l0]
    rw [if_neg (by omega), List.drop_eq_nil_of_le (by omega), allv_nil]
    simp [toldAll]
  | succ f ih =>
    intro k i x4 hi hf hx hk
    obtain ⟨k, rfl⟩ : ∃ m, k = m + 1 := ⟨k - 1, by omega⟩
    simp only [frame_All.l0]
    by_cases c : i < b.length
    · rw [if_pos (by omega), if_pos (by omega), if_pos (by omega), Int.toNat_natCast]
      rw [next_f (b.drop i) (hb.drop i) (by simp; omega) a k (by omega)]
      have hne : b.drop i ≠ [] := by
        intro e
        have := congrArg List.length e
        simp at this
        omega
      simp only [Option.bind_some, told3, allv]
      rw [if_neg hne]
      by_cases h : (nextv (lim a) (b.drop i)).2.2 = 0
      · rw [if_pos h, if_pos h, if_pos (by omega)]
        obtain ⟨x, n, e⟩ : ∃ x n, nextv (lim a) (b.drop i) = (x, n, 0) := ⟨_, _, Prod.ext rfl (Prod.ext rfl h)⟩
        obtain ⟨h1, h2, _⟩ := nextv_ok (hb.drop i) e
        rw [e]
        simp only [List.length_drop] at h2
        simp only
        rw [w64 (by omega) (by omega), show ((i : Int) + (n : Int)) = ((i + n : Nat) : Int) from by omega]
        rw [ih k (i + n) _ (by omega) (by omega) (by simp; omega) (by omega), List.drop_drop]
        simp only [toldAll, List.append_assoc, List.cons_append, List.nil_append, Nat.add_assoc]
      · rw [if_neg h, if_neg h]
        simp [toldAll]
    · rw [if_neg (by omega), List.drop_eq_nil_of_le (by omega), allv_nil]
      simp [toldAll]

theorem all_f (b : List Int) (hb : Bytes b) (hl : b.length ≤ 1000000) (a : Int) (k : Nat) (hk : b.length + 40 ≤ k) : frame_All.f k b a = some (toldAll (allv (lim a) b.length b)) := by
  have h := all_l0 b hb hl a b.length k 0 [] (by omega) (by omega) (by simp) hk
  unfold frame_All.f
  simpa [toldAll] using h

theorem ref_all_l0 (b : List Int) (hb : Bytes b) (hl : b.length ≤ 1000000) (a : Int) : ∀ (f k i : Nat) (x4 : List (List Int)), i ≤ b.length → b.length - i ≤ f → x4.length ≤ i → f + 40 ≤ k →
    turncockref1_All.l0 k b a x4 (i : Int) = some (toldAll (x4 ++ (allv (lim a) f (b.drop i)).1, i + (allv (lim a) f (b.drop i)).2.1, (allv (lim a) f (b.drop i)).2.2)) := by
  intro f
  induction f with
  | zero =>
    intro k i x4 hi hf hx hk
    obtain ⟨k, rfl⟩ : ∃ m, k = m + 1 := ⟨k - 1, by omega⟩
    simp only [turncockref1_All.l0]
    rw [if_neg (by omega), List.drop_eq_nil_of_le (by omega), allv_nil]
    simp [toldAll]
  | succ f ih =>
    intro k i x4 hi hf hx hk
    obtain ⟨k, rfl⟩ : ∃ m, k = m + 1 := ⟨k - 1, by omega⟩
    simp only [turncockref1_All.l0]
    by_cases c : i < b.length
    · rw [if_pos (by omega), if_pos (by omega), if_pos (by omega), Int.toNat_natCast]
      rw [ref_next_f (b.drop i) (hb.drop i) (by simp; omega) a k (by omega)]
      have hne : b.drop i ≠ [] := by
        intro e
        have := congrArg List.length e
        simp at this
        omega
      simp only [Option.bind_some, told3, allv]
      rw [if_neg hne]
      by_cases h : (nextv (lim a) (b.drop i)).2.2 = 0
      · rw [if_pos h, if_pos h, if_pos (by omega)]
        obtain ⟨x, n, e⟩ : ∃ x n, nextv (lim a) (b.drop i) = (x, n, 0) := ⟨_, _, Prod.ext rfl (Prod.ext rfl h)⟩
        obtain ⟨h1, h2, _⟩ := nextv_ok (hb.drop i) e
        rw [e]
        simp only [List.length_drop] at h2
        simp only
        rw [w64 (by omega) (by omega), show ((i : Int) + (n : Int)) = ((i + n : Nat) : Int) from by omega]
        rw [ih k (i + n) _ (by omega) (by omega) (by simp; omega) (by omega), List.drop_drop]
        simp only [toldAll, List.append_assoc, List.cons_append, List.nil_append, Nat.add_assoc]
      · rw [if_neg h, if_neg h]
        simp [toldAll]
    · rw [if_neg (by omega), List.drop_eq_nil_of_le (by omega), allv_nil]
      simp [toldAll]

theorem ref_all_f (b : List Int) (hb : Bytes b) (hl : b.length ≤ 1000000) (a : Int) (k : Nat) (hk : b.length + 40 ≤ k) : turncockref1_All.f k b a = some (toldAll (allv (lim a) b.length b)) := by
  have h := ref_all_l0 b hb hl a b.length k 0 [] (by omega) (by omega) (by simp) hk
  unfold turncockref1_All.f
  simpa [toldAll] using h

theorem bytes_self (l : List Int) : turncockref1_Bytes.f l l = some true := by simp [turncockref1_Bytes.f]

theorem rows_l0 (x : List (List Int)) (hl : x.length ≤ 1000000000) : ∀ (d k i : Nat), x.length - i ≤ d → i ≤ x.length → d + 1 ≤ k → turncockref1_Rows.l0 k x x (i : Int) = some true := by
  intro d
  induction d with
  | zero =>
    intro k i h1 h2 hk
    obtain ⟨k, rfl⟩ : ∃ m, k = m + 1 := ⟨k - 1, by omega⟩
    simp only [turncockref1_Rows.l0]
    rw [if_neg (by omega)]
  | succ d ih =>
    intro k i h1 h2 hk
    obtain ⟨k, rfl⟩ : ∃ m, k = m + 1 := ⟨k - 1, by omega⟩
    simp only [turncockref1_Rows.l0]
    by_cases c : i < x.length
    · rw [if_pos (by omega), if_pos (by omega), if_pos (by omega), bytes_self]
      simp only [Option.bind_some, if_true]
      rw [w64 (by omega) (by omega), show ((i : Int) + 1) = ((i + 1 : Nat) : Int) from by omega]
      exact ih k (i + 1) (by omega) (by omega) (by omega)
    · rw [if_neg (by omega)]

theorem rows_self (x : List (List Int)) (hl : x.length ≤ 1000000000) (k : Nat) (hk : x.length + 1 ≤ k) : turncockref1_Rows.f k x x = some true := by
  unfold turncockref1_Rows.f
  rw [if_pos rfl]
  exact rows_l0 x hl x.length k 0 (by omega) (by omega) hk
end Go.Proofs.Ytnhblhhkjnmkkaa.Fr
