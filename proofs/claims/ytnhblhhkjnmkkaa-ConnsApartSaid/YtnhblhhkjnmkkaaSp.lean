/- Plain facts on numbers as bytes (seven bits a byte): putv and getv are each other's inverse. -/
import Derived.Laws.BitsAllLaws
namespace Go.Proofs.Ytnhblhhkjnmkkaa.Sp

/-- A number's bytes, the low seven bits first. -/
def putv (v : Nat) : List Int := if v < 128 then [(v : Int)] else ((v % 128 + 128 : Nat) : Int) :: putv (v / 128)
termination_by v
decreasing_by omega

theorem putv_small {v : Nat} (h : v < 128) : putv v = [(v : Int)] := by rw [putv, if_pos h]
theorem putv_big {v : Nat} (h : ¬ v < 128) : putv v = ((v % 128 + 128 : Nat) : Int) :: putv (v / 128) := by rw [putv, if_neg h]

/-- The number at the front, how many bytes it has, what is wrong. -/
def getv (i acc : Nat) : List Int → Nat × Nat × Int
  | [] => (0, 0, 3)
  | c :: t => if i = 9 ∧ c > 1 then (0, 0, 2) else if c ≥ 128 then getv (i + 1) (acc + (c.toNat - 128) * 128 ^ i) t else if c = 0 ∧ i > 0 then (0, 0, 2) else (acc + c.toNat * 128 ^ i, i + 1, 0)

def Bytes (l : List Int) : Prop := ∀ x ∈ l, 0 ≤ x ∧ x ≤ 255
theorem Bytes.nil : Bytes [] := fun _ h => by cases h
theorem Bytes.append {a b : List Int} (ha : Bytes a) (hb : Bytes b) : Bytes (a ++ b) := fun x hx => (List.mem_append.1 hx).elim (ha x) (hb x)
theorem Bytes.left {a b : List Int} (h : Bytes (a ++ b)) : Bytes a := fun x hx => h x (List.mem_append_left _ hx)
theorem Bytes.right {a b : List Int} (h : Bytes (a ++ b)) : Bytes b := fun x hx => h x (List.mem_append_right _ hx)
theorem Bytes.take {a : List Int} (h : Bytes a) (n : Nat) : Bytes (a.take n) := fun x hx => h x (List.mem_of_mem_take hx)
theorem Bytes.drop {a : List Int} (h : Bytes a) (n : Nat) : Bytes (a.drop n) := fun x hx => h x (List.mem_of_mem_drop hx)
theorem Bytes.head {c : Int} {t : List Int} (h : Bytes (c :: t)) : 0 ≤ c ∧ c ≤ 255 := h c (List.mem_cons_self ..)
theorem Bytes.tail {c : Int} {t : List Int} (h : Bytes (c :: t)) : Bytes t := fun x hx => h x (List.mem_cons_of_mem _ hx)

theorem putv_bytes (v : Nat) : Bytes (putv v) := by
  induction v using Nat.strongRecOn with
  | _ v ih =>
    by_cases h : v < 128
    · rw [putv_small h]
      intro x hx
      simp at hx
      omega
    · rw [putv_big h]
      intro x hx
      rcases List.mem_cons.1 hx with rfl | hx
      · omega
      · exact ih _ (by omega) x hx

theorem putv_pos (v : Nat) : 1 ≤ (putv v).length := by
  by_cases h : v < 128
  · rw [putv_small h]; simp
  · rw [putv_big h]; simp

theorem pow_ge (i : Nat) (h : 10 ≤ i) : 18446744073709551616 ≤ 128 ^ i := by
  have := Nat.pow_le_pow_right (n := 128) (by omega) h
  have h2 : (128 : Nat) ^ 10 = 1180591620717411303424 := by decide
  omega
theorem pow_pos' (i : Nat) : 0 < 128 ^ i := Nat.pow_pos (by omega)
theorem pow9 : (128 : Nat) ^ 9 = 9223372036854775808 := by decide

/-- What is put is got, whatever stands behind it. -/
theorem getv_putv (v : Nat) : ∀ (i acc : Nat) (tail : List Int), v * 128 ^ i < 18446744073709551616 → (i = 0 ∨ 0 < v) →
    getv i acc (putv v ++ tail) = (acc + v * 128 ^ i, i + (putv v).length, 0) := by
  induction v using Nat.strongRecOn with
  | _ v ih =>
    intro i acc tail hv hi
    have hp := pow_pos' i
    have hlt : i < 10 := by
      rcases hi with rfl | hi
      · omega
      · rcases Nat.lt_or_ge i 10 with h | h
        · exact h
        · have h1 := pow_ge i h
          have h2 : 1 * 128 ^ i ≤ v * 128 ^ i := Nat.mul_le_mul_right _ hi
          omega
    by_cases h : v < 128
    · rw [putv_small h]
      simp only [List.cons_append, List.nil_append, getv]
      rw [if_neg, if_neg (by omega), if_neg (by omega)]
      · simp
      · rintro ⟨rfl, h1⟩
        rw [pow9] at hv
        omega
    · rw [putv_big h]
      simp only [List.cons_append, getv]
      rw [if_neg, if_pos (by omega)]
      · have e1 : ((v % 128 + 128 : Nat) : Int).toNat - 128 = v % 128 := by omega
        rw [e1]
        have hv2 : v / 128 * 128 ^ (i + 1) ≤ v * 128 ^ i := by
          rw [Nat.pow_succ, Nat.mul_comm (128 ^ i) 128, ← Nat.mul_assoc]
          exact Nat.mul_le_mul_right _ (by omega)
        rw [ih (v / 128) (by omega) (i + 1) _ tail (by omega) (by omega)]
        have e2 : v % 128 * 128 ^ i + v / 128 * 128 ^ (i + 1) = v * 128 ^ i := by
          rw [Nat.pow_succ, Nat.mul_comm (128 ^ i) 128, ← Nat.mul_assoc, ← Nat.add_mul]
          have e3 : v % 128 + v / 128 * 128 = v := by omega
          rw [e3]
        simp only [List.length_cons]
        refine Prod.ext ?_ (Prod.ext ?_ rfl)
        · show acc + v % 128 * 128 ^ i + v / 128 * 128 ^ (i + 1) = acc + v * 128 ^ i
          omega
        · show i + 1 + (putv (v / 128)).length = i + ((putv (v / 128)).length + 1)
          omega
      · rintro ⟨rfl, h1⟩
        rw [pow9] at hv
        omega

/-- What is got has no other bytes than those that are put. -/
theorem getv_only (b : List Int) : ∀ (i acc v n : Nat), Bytes b → i ≤ 9 → acc < 128 ^ i → getv i acc b = (v, n, 0) →
    ∃ u, v = acc + u * 128 ^ i ∧ i + 1 ≤ n ∧ n ≤ 10 ∧ n - i ≤ b.length ∧ putv u = b.take (n - i) ∧ (0 < i → 0 < u) ∧ v < 18446744073709551616 := by
  induction b with
  | nil => intro i acc v n _ _ _ h; simp [getv] at h
  | cons c t ih =>
    intro i acc v n hb hi hacc h
    have hc := hb.head
    have hp := pow_pos' i
    simp only [getv] at h
    by_cases h1 : i = 9 ∧ c > 1
    · rw [if_pos h1] at h; simp at h
    · rw [if_neg h1] at h
      have hle : 128 ^ i ≤ 128 ^ 9 := Nat.pow_le_pow_right (by omega) hi
      rw [pow9] at hle
      by_cases h2 : c ≥ 128
      · rw [if_pos h2] at h
        have hi9 : i ≠ 9 := fun e => h1 ⟨e, by omega⟩
        have hacc2 : acc + (c.toNat - 128) * 128 ^ i < 128 ^ (i + 1) := by
          rw [Nat.pow_succ, Nat.mul_comm (128 ^ i) 128]
          have : (c.toNat - 128) * 128 ^ i ≤ 127 * 128 ^ i := Nat.mul_le_mul_right _ (by omega)
          omega
        obtain ⟨u, hv, hn1, hn2, hn3, hp2, hu, hlt⟩ := ih (i + 1) _ v n hb.tail (by omega) hacc2 h
        have hu0 := hu (by omega)
        refine ⟨u * 128 + (c.toNat - 128), ?_, by omega, hn2, by simp; omega, ?_, fun _ => by omega, hlt⟩
        · rw [hv, Nat.pow_succ, Nat.mul_comm (128 ^ i) 128, ← Nat.mul_assoc, Nat.add_mul]
          omega
        · rw [putv_big (by omega)]
          have e1 : (u * 128 + (c.toNat - 128)) / 128 = u := by omega
          have e2 : (((u * 128 + (c.toNat - 128)) % 128 + 128 : Nat) : Int) = c := by omega
          rw [e1, e2, hp2]
          have e3 : n - i = (n - (i + 1)) + 1 := by omega
          rw [e3, List.take_succ_cons]
      · rw [if_neg h2] at h
        by_cases h3 : c = 0 ∧ i > 0
        · rw [if_pos h3] at h; simp at h
        · rw [if_neg h3] at h
          simp only [Prod.mk.injEq, and_true] at h
          obtain ⟨rfl, rfl⟩ := h
          refine ⟨c.toNat, rfl, by omega, by omega, by simp, ?_, fun h0 => by omega, ?_⟩
          · rw [putv_small (by omega)]
            have e : i + 1 - i = 1 := by omega
            rw [e]
            simp
            omega
          · rcases Nat.lt_or_ge i 9 with h9 | h9
            · have : 128 ^ i ≤ 128 ^ 8 := Nat.pow_le_pow_right (by omega) (by omega)
              have e8 : (128 : Nat) ^ 8 = 72057594037927936 := by decide
              have : c.toNat * 128 ^ i ≤ 127 * 128 ^ i := Nat.mul_le_mul_right _ (by omega)
              omega
            · obtain rfl : i = 9 := by omega
              rw [pow9] at hacc ⊢
              have : c.toNat ≤ 1 := by omega
              omega

theorem getv_cases (b : List Int) : ∀ (i acc : Nat), ∃ v n, getv i acc b = (v, n, 0) ∨ getv i acc b = (0, 0, 2) ∨ getv i acc b = (0, 0, 3) := by
  induction b with
  | nil => intro i acc; exact ⟨0, 0, .inr (.inr rfl)⟩
  | cons c t ih =>
    intro i acc
    simp only [getv]
    split
    · exact ⟨0, 0, .inr (.inl rfl)⟩
    · split
      · exact ih _ _
      · split
        · exact ⟨0, 0, .inr (.inl rfl)⟩
        · exact ⟨_, _, .inl rfl⟩

/-- What is told of bytes is told of them with more behind them, unless more were wanted. -/
theorem getv_more (b t : List Int) : ∀ (i acc : Nat), getv i acc b ≠ (0, 0, 3) → getv i acc (b ++ t) = getv i acc b := by
  induction b with
  | nil => intro i acc h; exact absurd rfl h
  | cons c s ih =>
    intro i acc h
    simp only [List.cons_append, getv] at h ⊢
    by_cases h1 : i = 9 ∧ c > 1
    · rw [if_pos h1, if_pos h1]
    · rw [if_neg h1] at h
      rw [if_neg h1, if_neg h1]
      by_cases h2 : c ≥ 128
      · rw [if_pos h2] at h
        rw [if_pos h2, if_pos h2]
        exact ih _ _ h
      · rw [if_neg h2, if_neg h2]

/-- A piece of a number's bytes wants more. -/
theorem getv_cut (v : Nat) : ∀ (i acc m : Nat), v * 128 ^ i < 18446744073709551616 → (i = 0 ∨ 0 < v) → m < (putv v).length → getv i acc ((putv v).take m) = (0, 0, 3) := by
  induction v using Nat.strongRecOn with
  | _ v ih =>
    intro i acc m hv hi hm
    by_cases h : v < 128
    · rw [putv_small h] at hm ⊢
      obtain rfl : m = 0 := by simp at hm; omega
      rfl
    · rw [putv_big h] at hm ⊢
      cases m with
      | zero => rfl
      | succ m =>
        simp only [List.take_succ_cons, getv]
        have hv2 : v / 128 * 128 ^ (i + 1) ≤ v * 128 ^ i := by
          rw [Nat.pow_succ, Nat.mul_comm (128 ^ i) 128, ← Nat.mul_assoc]
          exact Nat.mul_le_mul_right _ (by omega)
        rw [if_neg, if_pos (by omega)]
        · exact ih (v / 128) (by omega) (i + 1) _ m (by omega) (by omega) (by simp at hm; omega)
        · rintro ⟨rfl, h1⟩
          rw [pow9] at hv
          omega

theorem putv_mono (v : Nat) : ∀ w, v ≤ w → (putv v).length ≤ (putv w).length := by
  induction v using Nat.strongRecOn with
  | _ v ih =>
    intro w h
    by_cases hv : v < 128
    · rw [putv_small hv]; exact putv_pos w
    · rw [putv_big hv, putv_big (v := w) (by omega)]
      simp only [List.length_cons]
      have := ih (v / 128) (by omega) (w / 128) (Nat.div_le_div_right h)
      omega

/-- Each byte more stands for seven bits more. -/
theorem putv_len (v : Nat) : v < 128 ^ (putv v).length ∧ (1 < (putv v).length → 128 ^ ((putv v).length - 1) ≤ v) := by
  induction v using Nat.strongRecOn with
  | _ v ih =>
    by_cases h : v < 128
    · rw [putv_small h]
      exact ⟨by simpa using h, fun h => by simp at h⟩
    · rw [putv_big h]
      have h1 := ih (v / 128) (by omega)
      have hpos := putv_pos (v / 128)
      simp only [List.length_cons]
      generalize (putv (v / 128)).length = n at *
      refine ⟨by rw [Nat.pow_succ]; omega, fun _ => ?_⟩
      rw [Nat.add_sub_cancel]
      rcases Nat.lt_or_ge 1 n with hn | hn
      · have h2 := h1.2 hn
        have e : 128 ^ n = 128 ^ (n - 1) * 128 := by rw [← Nat.pow_succ]; congr 1; omega
        omega
      · obtain rfl : n = 1 := by omega
        omega

theorem putv_le10 (v : Nat) (h : v < 18446744073709551616) : (putv v).length ≤ 10 := by
  rcases Nat.lt_or_ge 10 (putv v).length with hn | hn
  · have h1 := (putv_len v).2 (by omega)
    have h2 := pow_ge ((putv v).length - 1) (by omega)
    omega
  · exact hn
end Go.Proofs.Ytnhblhhkjnmkkaa.Sp
