import Derived.Test.YtnpkeganpkobjaaGreatDoorXA
import Derived.Below
import Derived.Laws.Append
import Derived.Laws.Entries
import Derived.Laws.BytesString
import Derived.Laws.Concat
import Derived.Laws.ComplexArith
import Derived.Laws.DeepStrings4
set_option linter.all false
namespace Go.Proofs.YtnpkeganpkobjaaGreatDoor.Ev
open Go Go.RowKit
noncomputable section
section lists
variable {α : Type}
theorem lget_eq (l : List α) (i : Nat) : lget l i = l[i]? := by
  induction l generalizing i with
  | nil => simp [lget]
  | cons a l ih => cases i <;> simp [lget, ih]
theorem llen_eq (l : List α) : llen l = l.length := by
  induction l with
  | nil => rfl
  | cons a l ih => simp [llen, ih]
theorem ltake_some {n : Nat} {l r : List α} (h : ltake n l = some r) : n ≤ l.length ∧ r = l.take n := by
  induction n generalizing l r with
  | zero => simp only [ltake, Option.some.injEq] at h; subst h; simp
  | succ n ih =>
    cases l with
    | nil => simp [ltake] at h
    | cons a l =>
      simp only [ltake] at h
      cases h2 : ltake n l with
      | none => rw [h2] at h; cases h
      | some q =>
        rw [h2] at h
        obtain ⟨h3, h4⟩ := ih h2
        cases h
        exact ⟨by simp; omega, by simp [h4]⟩
theorem ldrop_some {n : Nat} {l r : List α} (h : ldrop n l = some r) : n ≤ l.length ∧ r = l.drop n := by
  induction n generalizing l r with
  | zero => simp only [ldrop, Option.some.injEq] at h; subst h; simp
  | succ n ih =>
    cases l with
    | nil => simp [ldrop] at h
    | cons a l =>
      simp only [ldrop] at h
      obtain ⟨h3, h4⟩ := ih h
      exact ⟨by simp; omega, by simp [h4]⟩
theorem lcut_some {l r : List α} {off n : Nat} (h : lcut l off n = some r) : off + n ≤ l.length ∧ r = (l.drop off).take n := by
  unfold lcut at h
  cases h2 : ldrop off l with
  | none => rw [h2] at h; cases h
  | some q =>
    rw [h2] at h
    obtain ⟨h3, h4⟩ := ldrop_some h2
    obtain ⟨h5, h6⟩ := ltake_some h
    subst h4
    simp only [List.length_drop] at h5
    exact ⟨by omega, h6⟩
theorem lcut_get {l r : List α} {off n i : Nat} (h : lcut l off n = some r) (hi : i < n) : r[i]? = l[off + i]? := by
  obtain ⟨_, rfl⟩ := lcut_some h
  simp [List.getElem?_take, hi, List.getElem?_drop]
theorem lcut_len {l r : List α} {off n : Nat} (h : lcut l off n = some r) : r.length = n := by
  obtain ⟨h1, rfl⟩ := lcut_some h
  simp; omega
theorem lset_eq (l : List α) (i : Nat) (v : α) : lset l i v = l.set i v := by
  induction l generalizing i with
  | nil => simp [lset]
  | cons a l ih => cases i <;> simp [lset, ih]
theorem lsets_len (r : List α) : ∀ (l : List α) (k : Nat), (lsets l k r).length = l.length := by
  induction r with
  | nil => intro l k; simp [lsets]
  | cons a r ih => intro l k; simp [lsets, ih, lset_eq]
theorem lsets_get (r : List α) : ∀ (l : List α) (k i : Nat), i < l.length → (lsets l k r)[i]? = if k ≤ i ∧ i < k + r.length then r[i - k]? else l[i]? := by
  induction r with
  | nil => intro l k i hi; simp [lsets]; intros; omega
  | cons a r ih =>
    intro l k i hi
    simp only [lsets]
    rw [ih _ _ _ (by rw [lset_eq]; simpa using hi), lset_eq]
    simp only [List.length_cons]
    by_cases h1 : i = k
    · subst h1
      rw [if_neg (by omega), if_pos (by omega)]
      simp [hi]
    · by_cases h2 : k + 1 ≤ i ∧ i < k + 1 + r.length
      · rw [if_pos h2, if_pos (by omega)]
        obtain ⟨q, hq⟩ : ∃ q, i - k = q + 1 := ⟨i - k - 1, by omega⟩
        have : i - (k + 1) = q := by omega
        rw [hq, this]; simp
      · rw [if_neg h2, if_neg (by omega)]
        rw [List.getElem?_set_ne (by omega)]
theorem rep_len (l : List α) : ∀ n, (rep n l).length = n * l.length := by
  intro n
  induction n with
  | zero => simp [rep]
  | succ n ih => simp [rep, ih, Nat.add_mul]; omega
theorem rep_get (l : List α) (hl : 0 < l.length) : ∀ n i, i < n * l.length → (rep n l)[i]? = l[i % l.length]? := by
  intro n
  induction n with
  | zero => intro i hi; omega
  | succ n ih =>
    intro i hi
    simp only [rep]
    by_cases h : i < l.length
    · rw [List.getElem?_append_left h, Nat.mod_eq_of_lt h]
    · rw [List.getElem?_append_right (by omega), ih _ (by rw [Nat.add_mul] at hi; omega), ← Nat.mod_eq_sub_mod (by omega)]
end lists
section trees
variable {α : Type}
theorem T.get_e (k : Nat) : (T.e : T α).get k = none := rfl
theorem T.get_n0 (l : T α) (v : Option α) (r : T α) : (T.n l v r).get 0 = v := rfl
theorem T.get_nl (l : T α) (v : Option α) (r : T α) (k : Nat) (h : Nat.beq (k % 2) 0 = true) : (T.n l v r).get (k + 1) = l.get (k / 2) :=
  congrArg (fun b => Bool.rec (motive := fun _ => Option α) (r.get (k / 2)) (l.get (k / 2)) b) h
theorem T.get_nr (l : T α) (v : Option α) (r : T α) (k : Nat) (h : Nat.beq (k % 2) 0 = false) : (T.n l v r).get (k + 1) = r.get (k / 2) :=
  congrArg (fun b => Bool.rec (motive := fun _ => Option α) (r.get (k / 2)) (l.get (k / 2)) b) h
theorem T.set_e (k : Nat) (x : Option α) : (T.e : T α).set k x = .e := rfl
theorem T.set_n0 (l : T α) (v : Option α) (r : T α) (x : Option α) : (T.n l v r).set 0 x = .n l (match v with | some _ => x | none => none) r := by cases v <;> rfl
theorem T.set_nl (l : T α) (v : Option α) (r : T α) (k : Nat) (x : Option α) (h : Nat.beq (k % 2) 0 = true) : (T.n l v r).set (k + 1) x = .n (l.set (k / 2) x) v r :=
  congrArg (fun b => Bool.rec (motive := fun _ => T α) (.n l v (r.set (k / 2) x)) (.n (l.set (k / 2) x) v r) b) h
theorem T.set_nr (l : T α) (v : Option α) (r : T α) (k : Nat) (x : Option α) (h : Nat.beq (k % 2) 0 = false) : (T.n l v r).set (k + 1) x = .n l v (r.set (k / 2) x) :=
  congrArg (fun b => Bool.rec (motive := fun _ => T α) (.n l v (r.set (k / 2) x)) (.n (l.set (k / 2) x) v r) b) h
theorem half {j k : Nat} (h : j ≠ k) (hb : Nat.beq (j % 2) 0 = Nat.beq (k % 2) 0) : j / 2 ≠ k / 2 := by
  intro e
  have h1 : (j % 2 = 0) ↔ (k % 2 = 0) := by
    rw [← Nat.beq_eq, ← Nat.beq_eq, hb]
  omega
theorem T.get_set_ne (t : T α) : ∀ (k j : Nat) (x : Option α), j ≠ k → (t.set k x).get j = t.get j := by
  induction t with
  | e => intro k j x h; rfl
  | n l v r il ir =>
    intro k j x h
    cases k with
    | zero =>
      rw [T.set_n0]
      cases j with
      | zero => exact absurd rfl h
      | succ j => rfl
    | succ k =>
      cases hk : Nat.beq (k % 2) 0 with
      | true =>
        rw [T.set_nl _ _ _ _ _ hk]
        cases j with
        | zero => rfl
        | succ j =>
          cases hj : Nat.beq (j % 2) 0 with
          | true => rw [T.get_nl _ _ _ _ hj, T.get_nl _ _ _ _ hj]; exact il _ _ _ (half (by omega) (hj.trans hk.symm))
          | false => rw [T.get_nr _ _ _ _ hj, T.get_nr _ _ _ _ hj]
      | false =>
        rw [T.set_nr _ _ _ _ _ hk]
        cases j with
        | zero => rfl
        | succ j =>
          cases hj : Nat.beq (j % 2) 0 with
          | true => rw [T.get_nl _ _ _ _ hj, T.get_nl _ _ _ _ hj]
          | false => rw [T.get_nr _ _ _ _ hj, T.get_nr _ _ _ _ hj]; exact ir _ _ _ (half (by omega) (hj.trans hk.symm))
theorem T.get_set (t : T α) : ∀ (k : Nat) (x : Option α) (v : α), (t.set k x).get k = some v → x = some v := by
  induction t with
  | e => intro k x v h; cases h
  | n l w r il ir =>
    intro k x v h
    cases k with
    | zero =>
      rw [T.set_n0] at h
      cases w with
      | none => cases h
      | some q => exact h
    | succ k =>
      cases hk : Nat.beq (k % 2) 0 with
      | true => rw [T.set_nl _ _ _ _ _ hk, T.get_nl _ _ _ _ hk] at h; exact il _ _ _ h
      | false => rw [T.set_nr _ _ _ _ _ hk, T.get_nr _ _ _ _ hk] at h; exact ir _ _ _ h
theorem T.get_set_dom (t : T α) : ∀ (k : Nat) (x : Option α) (v : α), (t.set k x).get k = some v → (t.get k).isSome := by
  induction t with
  | e => intro k x v h; cases h
  | n l w r il ir =>
    intro k x v h
    cases k with
    | zero =>
      rw [T.set_n0] at h
      cases w with
      | none => cases h
      | some q => rfl
    | succ k =>
      cases hk : Nat.beq (k % 2) 0 with
      | true => rw [T.set_nl _ _ _ _ _ hk, T.get_nl _ _ _ _ hk] at h; rw [T.get_nl _ _ _ _ hk]; exact il _ _ _ h
      | false => rw [T.set_nr _ _ _ _ _ hk, T.get_nr _ _ _ _ hk] at h; rw [T.get_nr _ _ _ _ hk]; exact ir _ _ _ h
theorem T.get_add : ∀ (f : Nat) (t : T α) (k : Nat) (x : Option α) (j : Nat), (T.add f t k x).get j = t.get j ∨ (j = k ∧ (T.add f t k x).get j = x) := by
  intro f
  induction f with
  | zero => intro t k x j; exact .inl rfl
  | succ f ih =>
    intro t k x j
    have go : ∀ (l : T α) (v : Option α) (r : T α), (match k with
      | 0 => T.n l x r
      | k + 1 => match Nat.beq (k % 2) 0 with
        | true => .n (T.add f l (k / 2) x) v r
        | false => .n l v (T.add f r (k / 2) x)).get j = (T.n l v r).get j ∨ (j = k ∧ (match k with
      | 0 => T.n l x r
      | k + 1 => match Nat.beq (k % 2) 0 with
        | true => .n (T.add f l (k / 2) x) v r
        | false => .n l v (T.add f r (k / 2) x)).get j = x) := by
      intro l v r
      cases k with
      | zero => cases j with
        | zero => exact .inr ⟨rfl, rfl⟩
        | succ j => exact .inl rfl
      | succ k =>
        cases hk : Nat.beq (k % 2) 0 with
        | true =>
          simp only [hk]
          cases j with
          | zero => exact .inl rfl
          | succ j =>
            cases hj : Nat.beq (j % 2) 0 with
            | true =>
              simp only [T.get_nl _ _ _ _ hj]
              rcases ih l (k / 2) x (j / 2) with h | ⟨h1, h2⟩
              · exact .inl h
              · refine .inr ⟨?_, h2⟩
                by_cases e : j = k
                · rw [e]
                · exact absurd h1 (half e (hj.trans hk.symm))
            | false => exact .inl (by simp only [T.get_nr _ _ _ _ hj])
        | false =>
          simp only [hk]
          cases j with
          | zero => exact .inl rfl
          | succ j =>
            cases hj : Nat.beq (j % 2) 0 with
            | true => exact .inl (by simp only [T.get_nl _ _ _ _ hj])
            | false =>
              simp only [T.get_nr _ _ _ _ hj]
              rcases ih r (k / 2) x (j / 2) with h | ⟨h1, h2⟩
              · exact .inl h
              · refine .inr ⟨?_, h2⟩
                by_cases e : j = k
                · rw [e]
                · exact absurd h1 (half e (hj.trans hk.symm))
    cases t with
    | n l v r => exact go l v r
    | e =>
      have := go .e none .e
      have e0 : ∀ j, (T.n (T.e : T α) none .e).get j = none := by
        intro j
        cases j with
        | zero => rfl
        | succ j => cases hj : Nat.beq (j % 2) 0 with
          | true => rw [T.get_nl _ _ _ _ hj]; rfl
          | false => rw [T.get_nr _ _ _ _ hj]; rfl
      rw [e0] at this
      exact this
end trees
abbrev Rho := Nat → Option (Nat × Nat)
def byteN (σ : Nat → Int) (c : Nat) : Nat := match Nat.blt c 256 with | true => c | false => (σ (c - 256)).toNat
def byteOf (σ : Nat → Int) (c : Nat) : UInt8 := UInt8.ofNat (byteN σ c)
def BR (σ : Nat → Int) (l : List Nat) (s : ByteArray) : Prop := s.data.toList = l.map (byteOf σ)
mutual
def VR (σ : Nat → Int) (ρ : Rho) : V → Value → Prop
  | .undef, u => u = Go.undef
  | .bool b, u => u = .bool b
  | .int k n, u => u = .int k n
  | .sint k i, u => u = .int k (σ i)
  | .flt n, u => u = .float .f64 n
  | .sflt i, u => u = .float .f64 (σ i).toNat
  | .str l, u => ∃ s, BR σ l s ∧ u = .string s
  | .nilp, u => u = .pointer none
  | .ptr id off, u => ∃ b n, ρ id = some (b, n) ∧ u = .pointer (some ⟨b, off, none⟩)
  | .nils, u => u = .slice none 0 0
  | .slz, u => ∃ a cap, u = .slice (some a) 0 cap
  | .sl id off len es, u => ∃ b n cap, ρ id = some (b, n) ∧ off + cap * es ≤ n ∧ len ≤ cap ∧ 0 < es ∧ u = .slice (some ⟨b, off, none⟩) len cap
  | .nilm, u => u = .map none
  | .map id, u => ∃ b n, ρ id = some (b, n) ∧ u = .map (some b)
  | .nilf, u => u = .nilFunc
  | .fn f l, u => ∃ us, VRs σ ρ l us ∧ u = .func (.func f) #[] us.toArray
  | .nili, u => u = .nilIface
  | .ifc t v, u => ∃ w, VR σ ρ v w ∧ u = .iface t w
  | .agg l, u => ∃ us, VRs σ ρ l us ∧ u = .agg us.toArray
  | .tup l, u => ∃ us, VRs σ ρ l us ∧ u = .tuple us.toArray
  | .any, _ => True
  | .iany k, u => ∃ n, u = .int k n
  | .nan, u => ∃ b, binF .neq b (.flt b) = some (.bool true) ∧ u = .float .f64 b
def VRs (σ : Nat → Int) (ρ : Rho) : List V → List Value → Prop
  | [], us => us = []
  | v :: l, us => ∃ u r, VR σ ρ v u ∧ VRs σ ρ l r ∧ us = u :: r
end
section rel
variable {σ : Nat → Int} {ρ ρ' : Rho}
theorem VRs.len {l : List V} {us : List Value} (h : VRs σ ρ l us) : us.length = l.length := by
  induction l generalizing us with
  | nil => simp only [VRs] at h; simp [h]
  | cons v l ih =>
    simp only [VRs] at h
    obtain ⟨u, r, _, h2, rfl⟩ := h
    simp [ih h2]
theorem VRs.get {l : List V} {us : List Value} (h : VRs σ ρ l us) {i : Nat} {v : V} (hi : l[i]? = some v) : ∃ u, us[i]? = some u ∧ VR σ ρ v u := by
  induction l generalizing us i with
  | nil => simp at hi
  | cons v l ih =>
    simp only [VRs] at h
    obtain ⟨u, r, h1, h2, rfl⟩ := h
    cases i with
    | zero => simp at hi; subst hi; exact ⟨u, by simp, h1⟩
    | succ i => simp at hi ⊢; exact ih h2 hi
theorem VRs.of_get {l : List V} {us : List Value} (hl : us.length = l.length) (h : ∀ (i : Nat) (v : V), l[i]? = some v → ∃ u, us[i]? = some u ∧ VR σ ρ v u) : VRs σ ρ l us := by
  induction l generalizing us with
  | nil => simp at hl; simp [VRs, hl]
  | cons v l ih =>
    cases us with
    | nil => simp at hl
    | cons u us =>
      simp only [VRs]
      refine ⟨u, us, ?_, ih (by simpa using hl) (fun i w hw => ?_), rfl⟩
      · obtain ⟨u', h1, h2⟩ := h 0 v (by simp); simp at h1; exact h1 ▸ h2
      · obtain ⟨u', h1, h2⟩ := h (i + 1) w (by simpa using hw); exact ⟨u', by simpa using h1, h2⟩
theorem VRs.append {l m : List V} {us ws : List Value} (h : VRs σ ρ l us) (k : VRs σ ρ m ws) : VRs σ ρ (l ++ m) (us ++ ws) := by
  induction l generalizing us with
  | nil => simp only [VRs] at h; simpa [h] using k
  | cons v l ih =>
    simp only [VRs] at h
    obtain ⟨u, r, h1, h2, rfl⟩ := h
    simp only [List.cons_append, VRs]
    exact ⟨u, r ++ ws, h1, ih h2, rfl⟩
mutual
theorem VR.congr (n : Nat) (hρ : ∀ id, id < n → ∀ p, ρ id = some p → ρ' id = some p) : ∀ (v : V) (u : Value), below n v = true → VR σ ρ v u → VR σ ρ' v u
  | .undef, u, _, h => by simpa [VR] using h
  | .any, u, _, _ => by simp only [VR]
  | .iany k, u, _, h => by simpa [VR] using h
  | .nan, u, _, h => by simp only [VR] at h ⊢; exact h
  | .bool b, u, _, h => by simpa [VR] using h
  | .int k m, u, _, h => by simpa [VR] using h
  | .sint k i, u, _, h => by simpa [VR] using h
  | .flt m, u, _, h => by simpa [VR] using h
  | .sflt m, u, _, h => by simpa [VR] using h
  | .str l, u, _, h => by simpa [VR] using h
  | .nilp, u, _, h => by simpa [VR] using h
  | .ptr id off, u, hb, h => by
    simp only [VR, below] at h hb ⊢
    obtain ⟨b, m, h1, h2⟩ := h
    exact ⟨b, m, hρ id (by simpa [Nat.blt_eq] using hb) _ h1, h2⟩
  | .nils, u, _, h => by simpa [VR] using h
  | .slz, u, _, h => by simpa [VR] using h
  | .sl id off len es, u, hb, h => by
    simp only [VR, below] at h hb ⊢
    obtain ⟨b, m, cap, h1, h2⟩ := h
    exact ⟨b, m, cap, hρ id (by simpa [Nat.blt_eq] using hb) _ h1, h2⟩
  | .nilm, u, _, h => by simpa [VR] using h
  | .map id, u, hb, h => by
    simp only [VR, below] at h hb ⊢
    obtain ⟨b, m, h1, h2⟩ := h
    exact ⟨b, m, hρ id (by simpa [Nat.blt_eq] using hb) _ h1, h2⟩
  | .nilf, u, _, h => by simpa [VR] using h
  | .fn f l, u, hb, h => by
    simp only [VR, below] at h hb ⊢
    obtain ⟨us, h1, h2⟩ := h
    exact ⟨us, VRs.congr n hρ l us hb h1, h2⟩
  | .nili, u, _, h => by simpa [VR] using h
  | .ifc t v, u, hb, h => by
    simp only [VR, below] at h hb ⊢
    obtain ⟨w, h1, h2⟩ := h
    exact ⟨w, VR.congr n hρ v w hb h1, h2⟩
  | .agg l, u, hb, h => by
    simp only [VR, below] at h hb ⊢
    obtain ⟨us, h1, h2⟩ := h
    exact ⟨us, VRs.congr n hρ l us hb h1, h2⟩
  | .tup l, u, hb, h => by
    simp only [VR, below] at h hb ⊢
    obtain ⟨us, h1, h2⟩ := h
    exact ⟨us, VRs.congr n hρ l us hb h1, h2⟩
theorem VRs.congr (n : Nat) (hρ : ∀ id, id < n → ∀ p, ρ id = some p → ρ' id = some p) : ∀ (l : List V) (us : List Value), belows n l = true → VRs σ ρ l us → VRs σ ρ' l us
  | [], us, _, h => by simpa [VRs] using h
  | v :: l, us, hb, h => by
    simp only [VRs, belows, Bool.and_eq_true] at h hb ⊢
    obtain ⟨u, r, h1, h2, h3⟩ := h
    exact ⟨u, r, VR.congr n hρ v u hb.1 h1, VRs.congr n hρ l r hb.2 h2, h3⟩
end
mutual
theorem VR.mono (hρ : ∀ id p, ρ id = some p → ρ' id = some p) : ∀ (v : V) (u : Value), VR σ ρ v u → VR σ ρ' v u
  | .undef, u, h => by simpa [VR] using h
  | .any, u, _ => by simp only [VR]
  | .iany k, u, h => by simpa [VR] using h
  | .nan, u, h => by simp only [VR] at h ⊢; exact h
  | .bool b, u, h => by simpa [VR] using h
  | .int k m, u, h => by simpa [VR] using h
  | .sint k i, u, h => by simpa [VR] using h
  | .flt m, u, h => by simpa [VR] using h
  | .sflt m, u, h => by simpa [VR] using h
  | .str l, u, h => by simpa [VR] using h
  | .nilp, u, h => by simpa [VR] using h
  | .ptr id off, u, h => by
    simp only [VR] at h ⊢
    obtain ⟨b, m, h1, h2⟩ := h
    exact ⟨b, m, hρ id _ h1, h2⟩
  | .nils, u, h => by simpa [VR] using h
  | .slz, u, h => by simpa [VR] using h
  | .sl id off len es, u, h => by
    simp only [VR] at h ⊢
    obtain ⟨b, m, cap, h1, h2⟩ := h
    exact ⟨b, m, cap, hρ id _ h1, h2⟩
  | .nilm, u, h => by simpa [VR] using h
  | .map id, u, h => by
    simp only [VR] at h ⊢
    obtain ⟨b, m, h1, h2⟩ := h
    exact ⟨b, m, hρ id _ h1, h2⟩
  | .nilf, u, h => by simpa [VR] using h
  | .fn f l, u, h => by
    simp only [VR] at h ⊢
    obtain ⟨us, h1, h2⟩ := h
    exact ⟨us, VRs.mono hρ l us h1, h2⟩
  | .nili, u, h => by simpa [VR] using h
  | .ifc t v, u, h => by
    simp only [VR] at h ⊢
    obtain ⟨w, h1, h2⟩ := h
    exact ⟨w, VR.mono hρ v w h1, h2⟩
  | .agg l, u, h => by
    simp only [VR] at h ⊢
    obtain ⟨us, h1, h2⟩ := h
    exact ⟨us, VRs.mono hρ l us h1, h2⟩
  | .tup l, u, h => by
    simp only [VR] at h ⊢
    obtain ⟨us, h1, h2⟩ := h
    exact ⟨us, VRs.mono hρ l us h1, h2⟩
theorem VRs.mono (hρ : ∀ id p, ρ id = some p → ρ' id = some p) : ∀ (l : List V) (us : List Value), VRs σ ρ l us → VRs σ ρ' l us
  | [], us, h => by simpa [VRs] using h
  | v :: l, us, h => by
    simp only [VRs] at h ⊢
    obtain ⟨u, r, h1, h2, h3⟩ := h
    exact ⟨u, r, VR.mono hρ v u h1, VRs.mono hρ l r h2, h3⟩
end
end rel
def CR (σ : Nat → Int) (ρ : Rho) (l : List V) (c : Array Value) : Prop := ∀ (i : Nat) (v : V), l[i]? = some v → ∃ u, c[i]? = some u ∧ VR σ ρ v u
def OR (σ : Nat → Int) (ρ : Rho) (n : Nat) : B → Obj → Prop
  | .cells l, o => ∃ c t fz, o = .cells c t fz ∧ c.size = n ∧ CR σ ρ l c ∧ ∀ i, i < n → ¬ (fz.1 ≤ i ∧ i < fz.2)
  | .map l, o => ∃ es ck, o = .map es ck ∧ es.size = l.length ∧ ∀ (i : Nat) (p : V × V), l[i]? = some p → ∃ e : MapEntry, es[i]? = some e ∧ VR σ ρ p.1 e.key ∧ VR σ ρ p.2 e.val ∧ e.born < ck
  | .iter l p, o => ∃ s, BR σ l s ∧ o = .stringIter s p
  | .smap, o => ∃ (es : Array MapEntry) (ck : Nat), o = .map es ck ∧ ∀ e ∈ es.toList, (∃ x, e.key = .string x) ∧ ∃ m, e.val = .int .i64 m
  | .typ w t l, o => ∃ c fz, o = .cells c t fz ∧ c.size = n ∧ (CR σ ρ l c ∧ (w = true → l.length = n)) ∧ ∀ i, i < n → ¬ (fz.1 ≤ i ∧ i < fz.2)
structure Sim (σ : Nat → Int) (ρ : Rho) (s : St) (W : World) : Prop where
  blk : ∀ id x, s.heap.get id = some x → ∃ b n o, ρ id = some (b, n) ∧ W.heap[b]? = some o ∧ OR σ ρ n x o
  inj : ∀ i j b n m, (s.heap.get i).isSome → (s.heap.get j).isSome → ρ i = some (b, n) → ρ j = some (b, m) → i = j
  dom : ∀ id, s.next ≤ id → ρ id = none
  old : ∀ id b n, ρ id = some (b, n) → b < W.heap.size
structure Stp (σ : Nat → Int) (ρ : Rho) (s : St) (W : World) (ρ' : Rho) (s' : St) (W' : World) : Prop where
  sim : Sim σ ρ' s' W'
  ext : ∀ id, id < s.next → ρ' id = ρ id
  next : s.next ≤ s'.next
  size : W.heap.size ≤ W'.heap.size
  frame : ∀ j, j < W.heap.size → (∀ id n, (s.heap.get id).isSome → ρ id ≠ some (j, n)) → W'.heap[j]? = W.heap[j]?
  live : ∀ id b n, (s'.heap.get id).isSome → ρ' id = some (b, n) → b < W.heap.size → ∃ j, (s.heap.get j).isSome ∧ ρ j = some (b, n)
  low : s'.low ≤ s.low
  kept : ∀ id, id < s.next → id < s'.low → s'.heap.get id = s.heap.get id
  os : W'.os = W.os
  tape : W'.tape = W.tape
  output : W'.output = W.output
theorem minN_left (a b : Nat) : minN a b ≤ a := by
  unfold minN
  cases h : Nat.ble a b with
  | true => exact Nat.le_refl _
  | false =>
    have : ¬ a ≤ b := by rw [← Nat.ble_eq, h]; simp
    show b ≤ a; omega
theorem minN_right (a b : Nat) : minN a b ≤ b := by
  unfold minN
  cases h : Nat.ble a b with
  | true => rw [Nat.ble_eq] at h; exact h
  | false => exact Nat.le_refl _
section stp
variable {σ : Nat → Int} {ρ ρ1 ρ2 : Rho} {s s1 s2 : St} {W W1 W2 : World}
theorem Sim.lt (h : Sim σ ρ s W) {id : Nat} (hs : (s.heap.get id).isSome) : id < s.next := by
  obtain ⟨x, hx⟩ := Option.isSome_iff_exists.1 hs
  obtain ⟨b, n, o, h1, _⟩ := h.blk id x hx
  by_cases c : id < s.next
  · exact c
  · rw [h.dom id (by omega)] at h1; cases h1
theorem Sim.def_lt (h : Sim σ ρ s W) {id : Nat} {p : Nat × Nat} (hp : ρ id = some p) : id < s.next := by
  by_cases c : id < s.next
  · exact c
  · rw [h.dom id (by omega)] at hp; cases hp
theorem Stp.mono (h : Stp σ ρ s W ρ1 s1 W1) (h0 : Sim σ ρ s W) : ∀ id p, ρ id = some p → ρ1 id = some p := by
  intro id p hp
  rw [h.ext id (h0.def_lt hp)]; exact hp
theorem Stp.refl (h : Sim σ ρ s W) : Stp σ ρ s W ρ s W :=
  ⟨h, fun _ _ => rfl, Nat.le_refl _, Nat.le_refl _, fun _ _ _ => rfl, fun id b n h1 h2 _ => ⟨id, h1, h2⟩, Nat.le_refl _, fun _ _ _ => rfl, rfl, rfl, rfl⟩
theorem Stp.trans (h : Stp σ ρ s W ρ1 s1 W1) (k : Stp σ ρ1 s1 W1 ρ2 s2 W2) : Stp σ ρ s W ρ2 s2 W2 where
  sim := k.sim
  ext id hid := (k.ext id (Nat.lt_of_lt_of_le hid h.next)).trans (h.ext id hid)
  next := Nat.le_trans h.next k.next
  size := Nat.le_trans h.size k.size
  frame j hj hn := by
    rw [k.frame j (Nat.lt_of_lt_of_le hj h.size) ?_, h.frame j hj hn]
    intro id n hs hr
    obtain ⟨i, h1, h2⟩ := h.live id j n hs hr hj
    exact hn i n h1 h2
  live id b n h1 h2 h3 := by
    obtain ⟨j, h4, h5⟩ := k.live id b n h1 h2 (Nat.lt_of_lt_of_le h3 h.size)
    exact h.live j b n h4 h5 h3
  low := Nat.le_trans k.low h.low
  kept id h1 h2 := by
    rw [k.kept id (Nat.lt_of_lt_of_le h1 h.next) h2]
    exact h.kept id h1 (Nat.lt_of_lt_of_le h2 k.low)
  os := k.os.trans h.os
  tape := k.tape.trans h.tape
  output := k.output.trans h.output
theorem Sim.heap (h : Sim σ ρ s W) (e : W1.heap = W.heap) : Sim σ ρ s W1 where
  blk := by rw [e]; exact h.blk
  inj := h.inj
  dom := h.dom
  old := by rw [e]; exact h.old
theorem Stp.heap (h : Sim σ ρ s W) (e : W1.heap = W.heap) (e2 : W1.os = W.os) (e3 : W1.tape = W.tape) (e4 : W1.output = W.output) : Stp σ ρ s W ρ s W1 :=
  ⟨h.heap e, fun _ _ => rfl, Nat.le_refl _, by rw [e]; exact Nat.le_refl _, fun _ _ _ => by rw [e], fun id b n h1 h2 _ => ⟨id, h1, h2⟩, Nat.le_refl _, fun _ _ _ => rfl, e2, e3, e4⟩
theorem OR.mono (hρ : ∀ id p, ρ id = some p → ρ1 id = some p) {n : Nat} {x : B} {o : Obj} (h : OR σ ρ n x o) : OR σ ρ1 n x o := by
  cases x with
  | cells l =>
    obtain ⟨c, t, fz, h1, h2, h3, h4⟩ := h
    exact ⟨c, t, fz, h1, h2, fun i v hv => let ⟨u, a, b⟩ := h3 i v hv; ⟨u, a, VR.mono hρ v u b⟩, h4⟩
  | map l =>
    obtain ⟨es, ck, h1, h2, h3⟩ := h
    exact ⟨es, ck, h1, h2, fun i p hp => let ⟨e, a, b, c⟩ := h3 i p hp; ⟨e, a, VR.mono hρ _ _ b, VR.mono hρ _ _ c.1, c.2⟩⟩
  | iter l p => exact h
  | smap => exact h
  | typ w t l =>
    obtain ⟨c, fz, h1, h2, ⟨h3, h5⟩, h4⟩ := h
    exact ⟨c, fz, h1, h2, ⟨fun i v hv => let ⟨u, a, b⟩ := h3 i v hv; ⟨u, a, VR.mono hρ v u b⟩, h5⟩, h4⟩
theorem OR.row {b : Bool} {e t : TypeId} {n : Nat} {l : List V} {c : Array Value} {fz : Nat × Nat} (h2 : c.size = n) (h3 : CR σ ρ l c) (h4 : ∀ i, i < n → ¬ (fz.1 ≤ i ∧ i < fz.2)) (ht : b = true → t = e) : OR σ ρ n (rowB b e l) (.cells c t fz) := by
  cases b with
  | false => exact ⟨c, t, fz, rfl, h2, h3, h4⟩
  | true => have := ht rfl; subst this; exact ⟨c, fz, rfl, h2, ⟨h3, fun h => by cases h⟩, h4⟩
theorem tag_sound {e : TypeId} {id b n : Nat} {c : Array Value} {ct : TypeId} {fz : Nat × Nat} (hs : Sim σ ρ s W) (h : tagB e (s.heap.get id) = true) (hr : ρ id = some (b, n)) (hb : W.heap[b]? = some (.cells c ct fz)) : ct = e := by
  unfold tagB at h
  split at h
  · rename_i w u l hg
    rw [Nat.beq_eq] at h
    obtain ⟨b', n', o, h1, h2, h3⟩ := hs.blk id _ hg
    obtain ⟨c', fz', rfl, _⟩ := h3
    rw [hr] at h1; cases h1
    rw [hb] at h2; cases h2
    exact h
  · cases h
theorem Stp.set (h : Sim σ ρ s W) {id : Nat} {x : B} (hx : (s.heap.get id).isSome) {b n : Nat} (hr : ρ id = some (b, n)) {o : Obj} {W1 : World}
    (ho : W1.heap[b]? = some o) (hOR : OR σ ρ n x o) (hf : ∀ j, j ≠ b → W1.heap[j]? = W.heap[j]?) (hz : W1.heap.size = W.heap.size)
    (e2 : W1.os = W.os) (e3 : W1.tape = W.tape) (e4 : W1.output = W.output) : Stp σ ρ s W ρ (s.set id (some x)) W1 := by
  have hlive : ∀ i, ((s.set id (some x)).heap.get i).isSome → (s.heap.get i).isSome := by
    intro i hi
    by_cases e : i = id
    · exact e ▸ hx
    · rwa [show (s.set id (some x)).heap.get i = s.heap.get i from T.get_set_ne _ _ _ _ e] at hi
  refine ⟨⟨?_, fun i j b n m h1 h2 => h.inj i j b n m (hlive i h1) (hlive j h2), h.dom, by rw [hz]; exact h.old⟩, fun _ _ => rfl, Nat.le_refl _, by omega, ?_, ?_, ?_, ?_, e2, e3, e4⟩
  · intro i y hy
    by_cases e : i = id
    · subst e
      have := T.get_set _ _ _ _ hy
      cases this
      exact ⟨b, n, o, hr, ho, hOR⟩
    · rw [show (s.set id (some x)).heap.get i = s.heap.get i from T.get_set_ne _ _ _ _ e] at hy
      obtain ⟨b', n', o', h1, h2, h3⟩ := h.blk i y hy
      refine ⟨b', n', o', h1, ?_, h3⟩
      rw [hf b' ?_, h2]
      intro e'
      subst e'
      exact e (h.inj i id _ _ _ (by rw [hy]; rfl) hx h1 hr)
  · intro j hj hn
    exact hf j (fun e => hn id n hx (e ▸ hr))
  · intro i b n h1 h2 _
    exact ⟨i, hlive i h1, h2⟩
  · exact minN_left _ _
  · intro i hi hl
    refine T.get_set_ne _ _ _ _ ?_
    intro e
    subst e
    have hl : i < minN s.low i := hl
    have := minN_right s.low i
    omega
theorem Stp.drop (h : Sim σ ρ s W) (id : Nat) : Stp σ ρ s W ρ (s.set id none) W := by
  have hlive : ∀ i x, (s.set id none).heap.get i = some x → s.heap.get i = some x := by
    intro i x hi
    by_cases e : i = id
    · subst e
      have := T.get_set _ _ _ _ hi
      cases this
    · rwa [show (s.set id none).heap.get i = s.heap.get i from T.get_set_ne _ _ _ _ e] at hi
  have hl2 : ∀ i, ((s.set id none).heap.get i).isSome → (s.heap.get i).isSome := by
    intro i hi
    obtain ⟨x, hx⟩ := Option.isSome_iff_exists.1 hi
    rw [hlive i x hx]; rfl
  refine ⟨⟨fun i x hi => h.blk i x (hlive i x hi), fun i j b n m h1 h2 => h.inj i j b n m (hl2 i h1) (hl2 j h2), h.dom, h.old⟩, fun _ _ => rfl, Nat.le_refl _, Nat.le_refl _, fun _ _ _ => rfl, fun i b n h1 h2 _ => ⟨i, hl2 i h1, h2⟩, ?_, ?_, rfl, rfl, rfl⟩
  · exact minN_left _ _
  · intro i hi hl
    refine T.get_set_ne _ _ _ _ ?_
    intro e
    subst e
    have hl : i < minN s.low i := hl
    have := minN_right s.low i
    omega
def ext1 (ρ : Rho) (id : Nat) (p : Nat × Nat) : Rho := fun j => if j = id then some p else ρ j
theorem ext1_mono (h : Sim σ ρ s W) (p : Nat × Nat) : ∀ id q, ρ id = some q → ext1 ρ s.next p id = some q := by
  intro id q hq
  have := h.def_lt hq
  unfold ext1; rw [if_neg (by omega)]; exact hq
theorem Stp.new (h : Sim σ ρ s W) {x : B} {b n : Nat} {o : Obj} {W1 : World} (hb : ∀ i m, (s.heap.get i).isSome → ρ i ≠ some (b, m))
    (ho : W1.heap[b]? = some o) (hOR : OR σ (ext1 ρ s.next (b, n)) n x o) (hf : ∀ j, j ≠ b → j < W.heap.size → W1.heap[j]? = W.heap[j]?) (hz : W.heap.size ≤ W1.heap.size)
    (hnew : W.heap.size ≤ b) (e2 : W1.os = W.os) (e3 : W1.tape = W.tape) (e4 : W1.output = W.output) : Stp σ ρ s W (ext1 ρ s.next (b, n)) (s.new x) W1 := by
  have hget : ∀ i y, (s.new x).heap.get i = some y → (s.heap.get i = some y ∧ i ≠ s.next) ∨ (i = s.next ∧ x = y) := by
    intro i y hy
    rcases T.get_add 40 s.heap s.next (some x) i with e | ⟨e1, e2⟩
    · rw [show (s.new x).heap.get i = s.heap.get i from e] at hy
      refine .inl ⟨hy, ?_⟩
      have := h.lt (id := i) (by rw [hy]; rfl)
      omega
    · refine .inr ⟨e1, ?_⟩
      rw [show (s.new x).heap.get i = some x from e2] at hy
      exact Option.some.inj hy
  have hlive : ∀ i, ((s.new x).heap.get i).isSome → ((s.heap.get i).isSome ∧ i ≠ s.next) ∨ i = s.next := by
    intro i hi
    obtain ⟨y, hy⟩ := Option.isSome_iff_exists.1 hi
    rcases hget i y hy with ⟨h1, h2⟩ | ⟨h1, _⟩
    · exact .inl ⟨by rw [h1]; rfl, h2⟩
    · exact .inr h1
  have hm := ext1_mono h (b, n)
  have hbs : b < W1.heap.size := by
    rcases Nat.lt_or_ge b W1.heap.size with c | c
    · exact c
    · rw [Array.getElem?_eq_none c] at ho; cases ho
  refine ⟨⟨?_, ?_, ?_, ?_⟩, ?_, Nat.le_succ _, hz, ?_, ?_, Nat.le_refl _, ?_, e2, e3, e4⟩
  · intro i y hy
    rcases hget i y hy with ⟨h1, h2⟩ | ⟨h1, h2⟩
    · obtain ⟨b', n', o', h3, h4, h5⟩ := h.blk i y h1
      have hlt := h.old i b' n' h3
      refine ⟨b', n', o', hm _ _ h3, ?_, OR.mono hm h5⟩
      rw [hf b' (by omega) hlt, h4]
    · subst h1; subst h2
      exact ⟨b, n, o, by simp [ext1], ho, hOR⟩
  · intro i j b' n' m' hi hj ri rj
    unfold ext1 at ri rj
    rcases hlive i hi with ⟨a1, a2⟩ | a <;> rcases hlive j hj with ⟨c1, c2⟩ | c
    · rw [if_neg a2] at ri; rw [if_neg c2] at rj; exact h.inj i j _ _ _ a1 c1 ri rj
    · rw [if_neg a2] at ri; rw [if_pos c] at rj
      obtain ⟨rfl, rfl⟩ : b = b' ∧ n = m' := by simpa using rj
      exact absurd ri (hb i _ a1)
    · rw [if_pos a] at ri; rw [if_neg c2] at rj
      obtain ⟨rfl, rfl⟩ : b = b' ∧ n = n' := by simpa using ri
      exact absurd rj (hb j _ c1)
    · rw [a, c]
  · intro i hi
    have hi : s.next + 1 ≤ i := hi
    unfold ext1; rw [if_neg (by omega)]; exact h.dom i (by omega)
  · intro i b' n' hi
    unfold ext1 at hi
    split at hi
    · obtain ⟨rfl, rfl⟩ : b = b' ∧ n = n' := by simpa using hi
      exact hbs
    · exact Nat.lt_of_lt_of_le (h.old i b' n' hi) hz
  · intro i hi; unfold ext1; rw [if_neg (by omega)]
  · intro j hj _
    exact hf j (by omega) hj
  · intro i b' n' hi ri hlt
    unfold ext1 at ri
    rcases hlive i hi with ⟨a1, a2⟩ | a
    · rw [if_neg a2] at ri; exact ⟨i, a1, ri⟩
    · rw [if_pos a] at ri
      obtain ⟨rfl, rfl⟩ : b = b' ∧ n = n' := by simpa using ri
      omega
  · intro i hi _
    rcases T.get_add 40 s.heap s.next (some x) i with e | ⟨e1, _⟩
    · exact e
    · omega
end stp
section basic
variable {σ : Nat → Int} {ρ : Rho} {s : St} {W : World} {P : Program}
theorem ofBytes_BR (a : ByteArray) : BR σ (ofBytes a) a := by
  unfold BR ofBytes
  rw [List.map_map]
  conv => lhs; rw [← List.map_id a.data.toList]
  apply List.map_congr_left
  intro x _
  have h : Nat.blt x.toNat 256 = true := by rw [Nat.blt_eq]; exact x.toNat_lt
  simp [Function.comp, byteOf, byteN, h]
theorem ofLeaf_VR {u : Value} {v : V} (h : ofLeaf u = some v) : VR σ ρ v u := by
  unfold ofLeaf at h
  split at h <;> cases h <;> simp only [VR]
  exact ⟨_, ofBytes_BR _, rfl⟩
theorem ofLeaves_VRs : ∀ {us : List Value} {l : List V}, ofLeaves us = some l → VRs σ ρ l us := by
  intro us
  induction us with
  | nil => intro l h; simp only [ofLeaves, Option.some.injEq] at h; subst h; simp [VRs]
  | cons u us ih =>
    intro l h
    simp only [ofLeaves] at h
    cases h1 : ofLeaf u with
    | none => rw [h1] at h; cases h
    | some v =>
      cases h2 : ofLeaves us with
      | none => rw [h1, h2] at h; cases h
      | some r =>
        rw [h1, h2] at h; cases h
        simp only [VRs]
        exact ⟨u, us, ofLeaf_VR h1, ih h2, rfl⟩
theorem ofLeaf_any {u : Value} {v : V} (h : ofLeaf u = some v) : isAny v = false := by
  unfold ofLeaf at h
  split at h <;> cases h <;> rfl
theorem ofV_any {u : Value} {v : V} (h : ofV u = some v) : isAny v = false := by
  unfold ofV at h
  split at h
  · split at h
    · cases h; rfl
    · cases h
  · exact ofLeaf_any h
theorem ofV_VR {u : Value} {v : V} (h : ofV u = some v) : VR σ ρ v u := by
  unfold ofV at h
  split at h
  · rename_i a
    cases h2 : ofLeaves a.toList with
    | none => rw [h2] at h; cases h
    | some r =>
      rw [h2] at h; cases h
      simp only [VR]
      exact ⟨a.toList, ofLeaves_VRs h2, by simp⟩
  · exact ofLeaf_VR h
theorem VR.cells {v : V} {u : Value} (h : VR σ ρ v u) (hn : isAny v = false) : VRs σ ρ v.cells u.cells.toList := by
  cases v
  case any => cases hn
  case agg l => obtain ⟨us, h1, rfl⟩ := h; simpa [V.cells, Value.cells] using h1
  all_goals (
    have h' := h
    simp only [VR] at h'
    simp only [V.cells, VRs])
  case undef => exact ⟨u, [], h, rfl, by subst h'; rfl⟩
  case str => obtain ⟨a, _, rfl⟩ := h'; exact ⟨_, [], h, rfl, rfl⟩
  case ptr => obtain ⟨a, _, _, rfl⟩ := h'; exact ⟨_, [], h, rfl, rfl⟩
  case slz => obtain ⟨a, _, rfl⟩ := h'; exact ⟨_, [], h, rfl, rfl⟩
  case sl => obtain ⟨a, b, c, _, _, _, _, rfl⟩ := h'; exact ⟨_, [], h, rfl, rfl⟩
  case map => obtain ⟨a, _, _, rfl⟩ := h'; exact ⟨_, [], h, rfl, rfl⟩
  case fn => obtain ⟨a, _, rfl⟩ := h'; exact ⟨_, [], h, rfl, rfl⟩
  case ifc => obtain ⟨a, _, rfl⟩ := h'; exact ⟨_, [], h, rfl, rfl⟩
  case tup => obtain ⟨a, _, rfl⟩ := h'; exact ⟨_, [], h, rfl, rfl⟩
  case iany => obtain ⟨a, rfl⟩ := h'; exact ⟨_, [], h, rfl, rfl⟩
  case nan => obtain ⟨a, _, rfl⟩ := h'; exact ⟨_, [], h, rfl, rfl⟩
  all_goals (subst h'; exact ⟨_, [], h, rfl, rfl⟩)
theorem leaf_one {v : V} {u : Value} (hl : leaf v = true) (h : VR σ ρ v u) : u.oneCell' = true := by
  cases v <;> simp only [leaf] at hl <;> try contradiction
  all_goals simp only [VR] at h
  case str => obtain ⟨a, _, rfl⟩ := h; rfl
  case ptr => obtain ⟨a, _, _, rfl⟩ := h; rfl
  case slz => obtain ⟨a, _, rfl⟩ := h; rfl
  case sl => obtain ⟨a, b, c, _, _, _, _, rfl⟩ := h; rfl
  case map => obtain ⟨a, _, _, rfl⟩ := h; rfl
  case fn => obtain ⟨a, _, rfl⟩ := h; rfl
  case ifc => obtain ⟨a, _, rfl⟩ := h; rfl
  case iany => obtain ⟨a, rfl⟩ := h; rfl
  case nan => obtain ⟨a, _, rfl⟩ := h; rfl
  all_goals (subst h; rfl)
theorem leaves_all : ∀ {l : List V} {us : List Value}, leaves l = true → VRs σ ρ l us → ∀ u ∈ us, u.oneCell' = true := by
  intro l
  induction l with
  | nil => intro us _ h; simp only [VRs] at h; subst h; simp
  | cons v l ih =>
    intro us hl h
    simp only [VRs] at h
    obtain ⟨u, r, h1, h2, rfl⟩ := h
    simp only [leaves] at hl
    cases hv : leaf v with
    | false => rw [hv] at hl; cases hl
    | true =>
      rw [hv] at hl
      intro x hx
      simp only [List.mem_cons] at hx
      rcases hx with rfl | hx
      · exact leaf_one hv h1
      · exact ih hl h2 x hx
theorem addr_add (b o n : Nat) : (⟨b, o, none⟩ : Addr).add n = ⟨b, o + n, none⟩ := by unfold Addr.add; split <;> simp_all
theorem cell_of {b o : Nat} {c : Array Value} {t : TypeId} {fz : Nat × Nat} {u : Value} (h : W.heap[b]? = some (.cells c t fz)) (hu : c[o]? = some u) : W.cell? ⟨b, o, none⟩ = some u := by
  simp [World.cell?, h, hu]
theorem run_aggT {t : TypeId} {d : TypeDesc} (h : P.underlying t = some d) : (isAgg t).run P W = .ok (aggT d) W := by
  cases d <;> simp [isAgg, run_underlying h, aggT]
theorem run_sizeT {t : TypeId} {n : Nat} (h : sizeT P t = some n) : (sizeOf t).run P W = .ok n W := by
  unfold sizeT at h
  split at h
  · rename_i i hi; cases h; simp [sizeOf, typeInfo, hi]
  · cases h
theorem zeroI_any {i : TypeInfo} {z : V} (h : zeroI i = some z) : isAny z = false := by
  unfold zeroI at h
  split at h
  · exact ofV_any h
  · cases h
theorem zeroV_any {t : TypeId} {z : V} (h : zeroV P t = some z) : isAny z = false := by
  unfold zeroV at h
  split at h
  · exact zeroI_any h
  · cases h
theorem run_zeroV {t : TypeId} {v : V} (h : zeroV P t = some v) : ∃ u, (zeroValue t).run P W = .ok u W ∧ VR σ ρ v u := by
  unfold zeroV zeroI at h
  split at h
  · rename_i i hi
    split at h
    · rename_i u hu; exact ⟨u, by simp [zeroValue, typeInfo, hi, hu], ofV_VR h⟩
    · cases h
  · cases h
theorem run_cut {l c : List V} {off n b : Nat} {ca : Array Value} {t : TypeId} {fz : Nat × Nat} (hl : CR σ ρ l ca) (hb : W.heap[b]? = some (.cells ca t fz)) (hc : lcut l off n = some c) :
    ∃ us, VRs σ ρ c us ∧ us.length = n ∧ (loadCells ⟨b, off, none⟩ n).run P W = .ok us.toArray W ∧ ∀ j u, us[j]? = some u → ca[off + j]? = some u := by
  have hlen := lcut_len hc
  have hget : ∀ j, j < n → ∃ u v, c[j]? = some v ∧ ca[off + j]? = some u ∧ VR σ ρ v u := by
    intro j hj
    have h1 : c[j]? = some c[j] := List.getElem?_eq_getElem (by omega)
    obtain ⟨u, h2, h3⟩ := hl (off + j) c[j] (by rw [← lcut_get hc hj, h1])
    exact ⟨u, c[j], h1, h2, h3⟩
  refine ⟨(List.range n).map fun j => (ca[off + j]?).getD .nilFunc, ?_, by simp, ?_, ?_⟩
  · refine VRs.of_get (by simp [hlen]) fun i v hv => ?_
    have hi : i < n := by rw [← hlen]; exact (List.getElem?_eq_some_iff.1 hv).1
    obtain ⟨u, v', h1, h2, h3⟩ := hget i hi
    rw [hv] at h1; cases h1
    exact ⟨u, by simp [hi, h2], h3⟩
  · have := run_loadCells_list (P := P) W ⟨b, off, none⟩ ((List.range n).map fun j => (ca[off + j]?).getD .nilFunc) (fun j u hu => by
      simp only [List.getElem?_map] at hu
      have hj : j < n := by
        rcases Nat.lt_or_ge j n with h | h
        · exact h
        · rw [List.getElem?_eq_none (by simpa using h)] at hu; cases hu
      obtain ⟨u', v', h1, h2, h3⟩ := hget j hj
      rw [addr_add]
      refine cell_of hb ?_
      rw [List.getElem?_range hj] at hu
      simp [h2] at hu
      rw [h2, hu])
    simpa using this
  · intro j u hu
    simp only [List.getElem?_map] at hu
    have hj : j < n := by
      rcases Nat.lt_or_ge j n with h | h
      · exact h
      · rw [List.getElem?_eq_none (by simpa using h)] at hu; cases hu
    obtain ⟨u', v', h1, h2, h3⟩ := hget j hj
    rw [List.getElem?_range hj] at hu
    simp [h2] at hu
    rw [h2, hu]
theorem cellsOf_some {id : Nat} {l : List V} (hs : Sim σ ρ s W) (h : cellsOf s id = some l) : ∃ b n c t fz, ρ id = some (b, n) ∧ W.heap[b]? = some (.cells c t fz) ∧ c.size = n ∧ CR σ ρ l c ∧ (∀ i, i < n → ¬ (fz.1 ≤ i ∧ i < fz.2)) ∧ (s.heap.get id).isSome := by
  unfold cellsOf cellsB at h
  split at h
  · rename_i l' hg
    cases h
    obtain ⟨b, n, o, h1, h2, h3⟩ := hs.blk id _ hg
    obtain ⟨c, t, fz, rfl, h4, h5, h6⟩ := h3
    exact ⟨b, n, c, t, fz, h1, h2, h4, h5, h6, by rw [hg]; rfl⟩
  · rename_i w t l' hg
    cases h
    obtain ⟨b, n, o, h1, h2, h3⟩ := hs.blk id _ hg
    obtain ⟨c, fz, rfl, h4, ⟨h5, h7⟩, h6⟩ := h3
    exact ⟨b, n, c, t, fz, h1, h2, h4, h5, h6, by rw [hg]; rfl⟩
  · cases h
theorem mk1_VR {t : TypeId} {c : List V} {v : V} {us : List Value} (h : mk1 P t c = some v) (hc : VRs σ ρ c us) : ∃ d, P.underlying t = some d ∧
    ((aggT d = true ∧ VR σ ρ v (.agg us.toArray)) ∨ (aggT d = false ∧ ∃ u, us = [u] ∧ VR σ ρ v u)) := by
  unfold mk1 at h
  split at h
  · rename_i d hd
    refine ⟨d, hd, ?_⟩
    cases ha : aggT d with
    | true => rw [ha] at h; cases h; exact .inl ⟨rfl, by simp only [VR]; exact ⟨us, hc, rfl⟩⟩
    | false =>
      rw [ha] at h
      have h : one c = some v := h
      refine .inr ⟨rfl, ?_⟩
      unfold one at h
      split at h
      · cases h
        simp only [VRs] at hc
        obtain ⟨u, r, h1, rfl, rfl⟩ := hc
        exact ⟨u, rfl, h1⟩
      · cases h
  · cases h
theorem run_loadT {t : TypeId} {id off b n : Nat} {v : V} (hs : Sim σ ρ s W) (h : loadT P s t id off = some v) (hr : ρ id = some (b, n)) :
    ∃ u, (loadVar t ⟨b, off, none⟩).run P W = .ok u W ∧ VR σ ρ v u := by
  unfold loadT at h
  split at h
  · rename_i l hl
    obtain ⟨b', n', c, t', fz, h1, h2, h3, h4, h5, h6⟩ := cellsOf_some hs hl
    rw [hr] at h1; cases h1
    unfold loadC at h
    split at h
    · rename_i m hm
      split at h
      · rename_i r hc
        obtain ⟨us, k1, k2, k3, k4⟩ := run_cut (P := P) h4 h2 hc
        obtain ⟨d, hd, q⟩ := mk1_VR h k1
        rcases q with ⟨ha, hv⟩ | ⟨ha, u, rfl, hv⟩
        · exact ⟨_, by simp [loadVar, run_aggT hd, ha, run_sizeT hm, k3], hv⟩
        · have hcell : W.cell? ⟨b, off, none⟩ = some u := cell_of h2 (by have := k4 0 u (by simp); simpa using this)
          exact ⟨u, by simp [loadVar, run_aggT hd, ha, hcell], hv⟩
      · cases h
    · cases h
  · cases h
theorem run_stores (b off : Nat) (t : TypeId) (fz : Nat × Nat) : ∀ (us : List Value) (i : Nat) (c : Array Value) (W : World), W.heap[b]? = some (.cells c t fz) → (∀ j, j < c.size → ¬ (fz.1 ≤ j ∧ j < fz.2)) → off + i + us.length ≤ c.size → (∀ u ∈ us, u.oneCell' = true) →
    ∃ W' c', (storeCells ⟨b, off, none⟩ us i).run P W = .ok () W' ∧ W'.heap[b]? = some (.cells c' t fz) ∧ c'.size = c.size ∧ (∀ j, j < c.size → c'[j]? = if off + i ≤ j ∧ j < off + i + us.length then us[j - (off + i)]? else c[j]?) ∧ (∀ j, j ≠ b → W'.heap[j]? = W.heap[j]?) ∧ W'.heap.size = W.heap.size ∧ W'.os = W.os ∧ W'.tape = W.tape ∧ W'.output = W.output := by
  intro us
  induction us with
  | nil =>
    intro i c W hb hf hl h1
    refine ⟨W, c, rfl, hb, rfl, fun j hj => ?_, fun _ _ => rfl, rfl, rfl, rfl, rfl⟩
    rw [if_neg (by simp only [List.length_nil]; omega)]
  | cons u us ih =>
    intro i c W hb hf hl h1
    simp only [List.length_cons] at hl
    have hi : off + i < c.size := by omega
    have hcell : W.cell? ⟨b, off + i, none⟩ = some c[off + i] := cell_of hb (by simp [hi])
    have hfr : W.frozen? ⟨b, off + i, none⟩ = false := by
      have := hf (off + i) hi
      simp only [World.frozen?, hb, decide_eq_false_iff_not, Bool.and_eq_false_iff]
      by_cases c1 : fz.1 ≤ off + i
      · exact .inr (by simpa using fun c2 => this ⟨c1, c2⟩)
      · exact .inl (by simpa using c1)
    have hW1 : (W.setCell ⟨b, off + i, none⟩ u).heap[b]? = some (.cells (c.setIfInBounds (off + i) u) t fz) := by
      simp [World.setCell, Array.getElem?_modify, hb]
    obtain ⟨W', c', k1, k2, k3, k4, k5, k6, k7, k8, k9⟩ := ih (i + 1) (c.setIfInBounds (off + i) u) (W.setCell ⟨b, off + i, none⟩ u) hW1 (by simpa using hf) (by simp; omega) (fun x hx => h1 x (by simp [hx]))
    refine ⟨W', c', ?_, k2, by simpa using k3, fun j hj => ?_, fun j hj => ?_, by rw [k6]; simp [World.setCell], k7, k8, k9⟩
    · simp only [storeCells, Sem.run_bind, addr_add, run_store P W _ u _ (h1 u (by simp)), hcell, hfr, Bool.false_eq_true, if_false, Result.andThen_ok, k1]
    · rw [k4 j (by simpa using hj)]
      simp only [List.length_cons]
      by_cases e : j = off + i
      · subst e
        rw [if_neg (by omega), if_pos (by omega)]
        simp [hi]
      · by_cases c1 : off + (i + 1) ≤ j ∧ j < off + (i + 1) + us.length
        · rw [if_pos c1, if_pos (by omega)]
          obtain ⟨q, hq⟩ : ∃ q, j - (off + i) = q + 1 := ⟨j - (off + i) - 1, by omega⟩
          have : j - (off + (i + 1)) = q := by omega
          rw [hq, this]; simp
        · rw [if_neg c1, if_neg (by omega)]
          rw [Array.getElem?_setIfInBounds_ne (by omega)]
    · rw [k5 j hj]
      simp only [World.setCell, Array.getElem?_modify]
      rw [if_neg (fun e => hj e.symm)]
theorem CR.sets {l r : List V} {off : Nat} {c c' : Array Value} {us : List Value} (hl : CR σ ρ l c) (hr : VRs σ ρ r us) (hle : l.length ≤ c.size)
    (hc : ∀ j, j < c.size → c'[j]? = if off ≤ j ∧ j < off + us.length then us[j - off]? else c[j]?) : CR σ ρ (lsets l off r) c' := by
  intro i v hv
  have hi : i < l.length := by
    have := (List.getElem?_eq_some_iff.1 hv).1
    rwa [lsets_len] at this
  rw [lsets_get r l off i hi] at hv
  rw [hc i (by omega), hr.len]
  by_cases q : off ≤ i ∧ i < off + r.length
  · rw [if_pos q] at hv ⊢; exact hr.get hv
  · rw [if_neg q] at hv ⊢; exact hl i v hv
theorem CR.len_le {l : List V} {c : Array Value} (h : CR σ ρ l c) : l.length ≤ c.size := by
  rcases Nat.lt_or_ge c.size l.length with q | q
  · obtain ⟨u, hu, _⟩ := h c.size l[c.size] (List.getElem?_eq_getElem q)
    simp at hu
  · exact q
theorem run_storeT {t : TypeId} {id off b n : Nat} {v : V} {u : Value} {s' : St} (hs : Sim σ ρ s W) (h : storeT P s t id off v = some s') (hr : ρ id = some (b, n)) (hv : VR σ ρ v u) :
    ∃ W', (storeVar t ⟨b, off, none⟩ u).run P W = .ok () W' ∧ Stp σ ρ s W ρ s' W' := by
  unfold storeT at h
  split at h
  · rename_i l hl
    obtain ⟨b', n', c, t', fz, h1, h2, h3, h4, h5, h6⟩ := cellsOf_some hs hl
    rw [hr] at h1; cases h1
    split at h
    · rename_i m hm
      unfold storeC at h
      split at h
      · rename_i hc
        cases h
        simp only [Bool.and_eq_true] at hc
        obtain ⟨⟨hc1, hc2⟩, hc3⟩ := hc
        rw [Nat.beq_eq, llen_eq] at hc1
        rw [Nat.ble_eq, llen_eq] at hc2
        have hna : isAny v = false := by
          cases v <;> first | rfl | (simp only [V.cells, leaves, leaf] at hc3; cases hc3)
        have hu := hv.cells hna
        have hul : u.cells.toList.length = m := by rw [hu.len, hc1]
        have hll := h4.len_le
        obtain ⟨W', c', k1, k2, k3, k4, k5, k6, k7, k8, k9⟩ := run_stores (P := P) b off t' fz u.cells.toList 0 c W h2 (by rw [h3]; exact h5) (by omega) (leaves_all hc3 hu)
        refine ⟨W', ?_, Stp.set hs h6 hr k2 ⟨c', t', fz, rfl, by omega, CR.sets h4 hu hll (by simpa using k4), h5⟩ k5 k6 k7 k8 k9⟩
        simp only [storeVar, Sem.run_bind, run_sizeT hm, Result.andThen_ok]
        rw [if_neg (by simpa using hul)]
        exact k1
      · cases h
    · cases h
  · cases h
end basic
def Gok (G : Nat → Int × Int) (σ : Nat → Int) : Prop := ∀ i, (G i).1 ≤ σ i ∧ σ i ≤ (G i).2
section num
variable {σ : Nat → Int} {ρ : Rho} {s : St} {W : World} {P : Program} {G : Nat → Int × Int}
theorem ltI_sound {r q : Int × Int} {a b : Int} {c : Bool} (ha : r.1 ≤ a ∧ a ≤ r.2) (hb : q.1 ≤ b ∧ b ≤ q.2) (h : ltI r q = some c) : decide (a < b) = c := by
  unfold ltI at h
  split at h
  · cases h; rename_i h1; simp only [decide_eq_true_eq] at h1 ⊢; omega
  · split at h
    · cases h; rename_i h1; simp only [decide_eq_true_eq, decide_eq_false_iff_not] at h1 ⊢; omega
    · cases h
theorem eqI_sound {r q : Int × Int} {a b : Int} {c : Bool} (ha : r.1 ≤ a ∧ a ≤ r.2) (hb : q.1 ≤ b ∧ b ≤ q.2) (h : eqI r q = some c) : decide (a = b) = c := by
  unfold eqI at h
  split at h
  · cases h; rename_i h1; simp only [decide_eq_true_eq, decide_eq_false_iff_not] at h1 ⊢; omega
  · split at h
    · cases h; rename_i h1; simp only [decide_eq_true_eq, decide_eq_false_iff_not] at h1 ⊢; omega
    · split at h
      · rename_i _ h0 _ h1 _ h2
        cases h
        simp only [Bool.and_eq_true, decide_eq_true_eq, decide_eq_false_iff_not] at h0 h1 h2 ⊢; omega
      · cases h
theorem le_not_lt (a b : Int) : decide (b ≤ a) = !decide (a < b) := by
  rw [Bool.eq_iff_iff]; simp
theorem VR_bool {b : Bool} : VR σ ρ (.bool b) (.bool b) := by simp only [VR]
theorem VR_int {k : IntKind} {n : Int} : VR σ ρ (.int k n) (.int k n) := by simp only [VR]
theorem ob_some {o : Option Bool} {v : V} (h : ob o = some v) : ∃ c, o = some c ∧ v = .bool c := by
  unfold ob at h; split at h
  · cases h; exact ⟨_, rfl, rfl⟩
  · cases h
theorem on_some {o : Option Bool} {v : V} (h : on o = some v) : ∃ c, o = some c ∧ v = .bool (!c) := by
  unfold on at h; split at h
  · cases h; exact ⟨_, rfl, rfl⟩
  · cases h
theorem wrapK_eq (k : IntKind) (n : Int) : wrapK k n = k.wrap n := by
  unfold wrapK
  split
  · split
    · rename_i m
      split
      · rename_i h
        rw [Nat.blt_eq] at h
        unfold i64max at h
        have e : (Int.ofNat m) % (2 ^ 64 : Int) = Int.ofNat m := Int.emod_eq_of_lt (Int.natCast_nonneg m) (by show (m : Int) < _; omega)
        show Int.ofNat m = if true && decide (Int.ofNat m % (2 ^ 64 : Int) ≥ (2 ^ 63 : Int)) then Int.ofNat m % (2 ^ 64 : Int) - (2 ^ 64 : Int) else Int.ofNat m % (2 ^ 64 : Int)
        rw [e, if_neg]
        simp; omega
      · rfl
    · rfl
  · rfl
theorem binI_sound {op : BinOp} {k : IntKind} {a b : Int} {v : V} (t : TypeId) (hsh : isSh op = false) (h : binI op k a b = some v) :
    ∃ u, (binOp op t (.int k a) (.int k b)).run P W = .ok u W ∧ VR σ ρ v u := by
  cases op <;> simp only [binI, isSh, bitI] at h hsh <;> try contradiction
  case quo =>
    split at h
    · cases h
    · rename_i h0; cases h
      simp only [decide_eq_false_iff_not] at h0
      exact ⟨.int k (k.wrap (a.tdiv b)), by simp [binOp, Op.intDiv, h0], by simp only [VR, wrapK_eq]⟩
  case rem =>
    split at h
    · cases h
    · rename_i h0; cases h
      simp only [decide_eq_false_iff_not] at h0
      exact ⟨.int k (a.tmod b), by simp [binOp, Op.intDiv, h0], by simp only [VR]⟩
  all_goals cases h
  case add => exact ⟨.int k (k.wrap (a + b)), by simp only [binOp, ne_eq, not_true_eq_false, if_false]; rfl, by simp only [VR, wrapK_eq]⟩
  case sub => exact ⟨.int k (k.wrap (a - b)), by simp only [binOp, ne_eq, not_true_eq_false, if_false]; rfl, by simp only [VR, wrapK_eq]⟩
  case mul => exact ⟨.int k (k.wrap (a * b)), by simp only [binOp, ne_eq, not_true_eq_false, if_false]; rfl, by simp only [VR, wrapK_eq]⟩
  case and => exact ⟨_, by simp only [binOp, ne_eq, not_true_eq_false, if_false]; rfl, by simp only [VR]⟩
  case or => exact ⟨_, by simp only [binOp, ne_eq, not_true_eq_false, if_false]; rfl, by simp only [VR]⟩
  case xor => exact ⟨_, by simp only [binOp, ne_eq, not_true_eq_false, if_false]; rfl, by simp only [VR]⟩
  case andNot => exact ⟨_, by simp only [binOp, ne_eq, not_true_eq_false, if_false]; rfl, by simp only [VR]⟩
  case eql => exact ⟨.bool (decide (a = b)), by simp only [binOp, ne_eq, not_true_eq_false, if_false]; rfl, by simp only [VR]⟩
  case neq => exact ⟨.bool (!decide (a = b)), by simp only [binOp, ne_eq, not_true_eq_false, if_false]; rfl, by simp only [VR]⟩
  case lss => exact ⟨.bool (decide (a < b)), by simp only [binOp, ne_eq, not_true_eq_false, if_false]; rfl, by simp only [VR]⟩
  case leq => exact ⟨.bool (decide (a ≤ b)), by simp only [binOp, ne_eq, not_true_eq_false, if_false]; rfl, by simp only [VR]⟩
  case gtr => exact ⟨.bool (decide (b < a)), by simp only [binOp, ne_eq, not_true_eq_false, if_false]; rfl, by simp only [VR]⟩
  case geq => exact ⟨.bool (decide (b ≤ a)), by simp only [binOp, ne_eq, not_true_eq_false, if_false]; rfl, by simp only [VR]⟩
theorem shI_sound {op : BinOp} {k k' : IntKind} {a b : Int} {v : V} (t : TypeId) (hsh : isSh op = true) (hb : decide (b < 0) = false) (h : shI op k a b.toNat = some v) :
    ∃ u, (binOp op t (.int k a) (.int k' b)).run P W = .ok u W ∧ VR σ ρ v u := by
  simp only [decide_eq_false_iff_not] at hb
  cases op <;> simp only [shI, isSh] at h hsh <;> try contradiction
  case shl => cases h; exact ⟨.int k (k.wrap (a * 2 ^ (min b.toNat k.bits))), by simp [binOp, Op.shift, hb], by simp only [VR]⟩
  case shr => cases h; exact ⟨.int k (a.fdiv (2 ^ (min b.toNat k.bits))), by simp [binOp, Op.shift, hb], by simp only [VR]⟩
def Nm.val (σ : Nat → Int) : Nm → Int
  | .c n => n
  | .s i => σ i
def conc (σ : Nat → Int) : V → V
  | .sint k i => .int k (σ i)
  | .sflt i => .flt (σ i).toNat
  | v => v
theorem VR_conc {v : V} {u : Value} (h : VR σ ρ (conc σ v) u) : VR σ ρ v u := by
  cases v <;> first | exact h | (simp only [conc, VR] at h ⊢; exact h)
structure Fok (E : Env) (σ : Nat → Int) : Prop where
  ar : ∀ op k a b r, E.ar op k a b = some r → match isSh op with
    | true => decide (Nm.val σ b < 0) = false ∧ shI op k (Nm.val σ a) (Nm.val σ b).toNat = some (.int k (Nm.val σ r))
    | false => binI op k (Nm.val σ a) (Nm.val σ b) = some (.int k (Nm.val σ r))
  lt : ∀ a b c, E.lt a b = some c → decide (Nm.val σ a < Nm.val σ b) = c
  eq : ∀ a b c, E.eq a b = some c → decide (Nm.val σ a = Nm.val σ b) = c
  fb : ∀ op a b v, E.fb op a b = some v → binF op (Nm.val σ a).toNat (.flt (Nm.val σ b).toNat) = some (conc σ v)
  fc : ∀ a v, E.fc a = some v → conc σ v = .flt (FloatKind.f64.nearest (Nm.val σ a))
  fi : ∀ k a v, E.fi k a = some v → convF (.int k) (Nm.val σ a).toNat = some (conc σ v)
  fn : ∀ a v, E.fn a = some v → conc σ v = .flt (Op.negFloat .f64 (Nm.val σ a).toNat)
theorem rngN_sound (hG : Gok G σ) (a : Nm) : (rngN G a).1 ≤ a.val σ ∧ a.val σ ≤ (rngN G a).2 := by
  cases a with
  | c n => exact ⟨Int.le_refl _, Int.le_refl _⟩
  | s i => exact hG i
theorem nmV_VR (k : IntKind) (a : Nm) : VR σ ρ (nmV k a) (.int k (a.val σ)) := by
  cases a <;> simp only [nmV, Nm.val, VR]
theorem VR_nm {k : IntKind} {a : Nm} {u : Value} (h : VR σ ρ (nmV k a) u) : u = .int k (a.val σ) := by
  cases a <;> simpa only [nmV, Nm.val, VR] using h
theorem ltN_sound {E : Env} (hG : Gok E.G σ) (hF : Fok E σ) {a b : Nm} {c : Bool} (h : ltN E a b = some c) : decide (a.val σ < b.val σ) = c := by
  unfold ltN at h
  split at h
  · rename_i c' hc; cases h
    exact ltI_sound (rngN_sound hG a) (rngN_sound hG b) hc
  · exact hF.lt _ _ _ h
theorem eqN2_sound {E : Env} (hG : Gok E.G σ) (hF : Fok E σ) {a b : Nm} {c : Bool} (h : eqN2 E a b = some c) : decide (a.val σ = b.val σ) = c := by
  unfold eqN2 at h
  split at h
  · rename_i c' hc; cases h
    exact eqI_sound (rngN_sound hG a) (rngN_sound hG b) hc
  · exact hF.eq _ _ _ h
theorem nmR_some {k : IntKind} {o : Option Nm} {v : V} (h : nmR k o = some v) : ∃ r, o = some r ∧ v = nmV k r := by
  unfold nmR at h
  split at h
  · cases h; exact ⟨_, rfl, rfl⟩
  · cases h
theorem VR_int_nm {k : IntKind} {r : Nm} {u : Value} (h : VR σ ρ (.int k (r.val σ)) u) : VR σ ρ (nmV k r) u := by
  simp only [VR] at h; subst h; exact nmV_VR k r
theorem arN_sound {E : Env} (hF : Fok E σ) {op : BinOp} {k : IntKind} {a b : Nm} {v : V} (t : TypeId) (hsh : isSh op = false) (h : nmR k (E.ar op k a b) = some v) :
    ∃ u, (binOp op t (.int k (a.val σ)) (.int k (b.val σ))).run P W = .ok u W ∧ VR σ ρ v u := by
  obtain ⟨r, hr, rfl⟩ := nmR_some h
  have := hF.ar _ _ _ _ _ hr
  rw [hsh] at this
  obtain ⟨u, h1, h2⟩ := binI_sound (P := P) (W := W) (σ := σ) (ρ := ρ) t hsh this
  exact ⟨u, h1, VR_int_nm h2⟩
theorem cmpN_sound {E : Env} (hG : Gok E.G σ) (hF : Fok E σ) {op : BinOp} {k : IntKind} {a b : Nm} {v : V} (t : TypeId) (hsh : isSh op = false) (h : cmpN E op k a b = some v) :
    ∃ u, (binOp op t (.int k (a.val σ)) (.int k (b.val σ))).run P W = .ok u W ∧ VR σ ρ v u := by
  cases op <;> simp only [cmpN] at h <;> try exact arN_sound hF t hsh h
  case eql => obtain ⟨c, hc, rfl⟩ := ob_some h; exact ⟨.bool (decide (a.val σ = b.val σ)), by simp only [binOp, ne_eq, not_true_eq_false, if_false]; rfl, by rw [eqN2_sound hG hF hc]; simp only [VR]⟩
  case neq => obtain ⟨c, hc, rfl⟩ := on_some h; exact ⟨.bool (!decide (a.val σ = b.val σ)), by simp only [binOp, ne_eq, not_true_eq_false, if_false]; rfl, by rw [eqN2_sound hG hF hc]; simp only [VR]⟩
  case lss => obtain ⟨c, hc, rfl⟩ := ob_some h; exact ⟨.bool (decide (a.val σ < b.val σ)), by simp only [binOp, ne_eq, not_true_eq_false, if_false]; rfl, by rw [ltN_sound hG hF hc]; simp only [VR]⟩
  case leq => obtain ⟨c, hc, rfl⟩ := on_some h; exact ⟨.bool (decide (a.val σ ≤ b.val σ)), by simp only [binOp, ne_eq, not_true_eq_false, if_false]; rfl, by rw [le_not_lt, ltN_sound hG hF hc]; simp only [VR]⟩
  case gtr => obtain ⟨c, hc, rfl⟩ := ob_some h; exact ⟨.bool (decide (b.val σ < a.val σ)), by simp only [binOp, ne_eq, not_true_eq_false, if_false]; rfl, by rw [ltN_sound hG hF hc]; simp only [VR]⟩
  case geq => obtain ⟨c, hc, rfl⟩ := on_some h; exact ⟨.bool (decide (b.val σ ≤ a.val σ)), by simp only [binOp, ne_eq, not_true_eq_false, if_false]; rfl, by rw [le_not_lt, ltN_sound hG hF hc]; simp only [VR]⟩
theorem byteN_sound (hG : Gok G σ) {c : Nat} (h : okB G c = true) : byteN σ c < 256 ∧ (byteOf σ c).toNat = byteN σ c ∧ (byteRng G c).1 ≤ (byteN σ c : Int) ∧ (byteN σ c : Int) ≤ (byteRng G c).2 := by
  have key : byteN σ c < 256 ∧ (byteRng G c).1 ≤ (byteN σ c : Int) ∧ (byteN σ c : Int) ≤ (byteRng G c).2 := by
    unfold okB at h
    unfold byteN byteRng
    cases hc : Nat.blt c 256 with
    | true => rw [Nat.blt_eq] at hc; exact ⟨hc, by simp, by simp⟩
    | false =>
      rw [hc] at h
      have h : (decide (0 ≤ (G (c - 256)).1) && decide ((G (c - 256)).2 ≤ 255)) = true := h
      simp only [Bool.and_eq_true, decide_eq_true_eq] at h
      have := hG (c - 256)
      refine ⟨by show (σ (c - 256)).toNat < 256; omega, by show (G (c - 256)).1 ≤ ((σ (c - 256)).toNat : Int); omega, by show ((σ (c - 256)).toNat : Int) ≤ (G (c - 256)).2; omega⟩
  refine ⟨key.1, ?_, key.2⟩
  unfold byteOf
  simp [UInt8.toNat_ofNat, Nat.mod_eq_of_lt key.1]
theorem eqB_sound (hG : Gok G σ) {a b : Nat} {c : Bool} (h : eqB G a b = some c) : decide (byteOf σ a = byteOf σ b) = c := by
  unfold eqB at h
  split at h
  · rename_i h1; cases h; rw [Nat.beq_eq] at h1; subst h1; simp
  · rename_i h1
    split at h
    · rename_i h2
      cases h
      simp only [Bool.and_eq_true] at h2
      have ha := byteN_sound (G := G) hG (c := a) (by unfold okB; rw [h2.1])
      have hb := byteN_sound (G := G) hG (c := b) (by unfold okB; rw [h2.2])
      have e1 : byteN σ a = a := by unfold byteN; rw [h2.1]
      have e2 : byteN σ b = b := by unfold byteN; rw [h2.2]
      simp only [decide_eq_false_iff_not]
      intro e
      have : byteN σ a = byteN σ b := by rw [← ha.2.1, ← hb.2.1, e]
      rw [e1, e2] at this
      have h3 : ¬ a = b := by rw [← Nat.beq_eq, h1]; simp
      exact h3 this
    · split at h
      · rename_i h3
        simp only [Bool.and_eq_true] at h3
        have ha := byteN_sound hG h3.1
        have hb := byteN_sound hG h3.2
        have := eqI_sound ha.2.2 hb.2.2 h
        rw [← this]
        rw [decide_eq_decide]
        constructor
        · intro e
          have : byteN σ a = byteN σ b := by rw [← ha.2.1, ← hb.2.1, e]
          rw [this]
        · intro e
          have : byteN σ a = byteN σ b := by omega
          unfold byteOf; rw [this]
      · cases h
theorem eqS_sound (hG : Gok G σ) : ∀ {a b : List Nat} {c : Bool}, eqS G a b = some c → decide (a.map (byteOf σ) = b.map (byteOf σ)) = c := by
  intro a
  induction a with
  | nil => intro b c h; cases b <;> simp only [eqS] at h <;> cases h <;> simp
  | cons x a ih =>
    intro b c h
    cases b with
    | nil => simp only [eqS] at h; cases h; simp
    | cons y b =>
      simp only [eqS] at h
      split at h
      · rename_i h1
        have e := eqB_sound hG h1
        have := ih h
        simp only [List.map_cons, List.cons.injEq]
        simp only [decide_eq_true_eq] at e
        rw [← this]; simp [e]
      · rename_i h1
        have e := eqB_sound hG h1
        cases h
        simp only [decide_eq_false_iff_not] at e
        simp [e]
      · cases h
theorem str_eq {a b : List Nat} {x y : ByteArray} (ha : BR σ a x) (hb : BR σ b y) : (x.toList == y.toList) = decide (a.map (byteOf σ) = b.map (byteOf σ)) := by
  rw [ByteArray.toList_eq, ByteArray.toList_eq, ha, hb]
  rw [Bool.eq_iff_iff]; simp
theorem bytesLess_cons (x y : UInt8) (a b : List UInt8) : Op.bytesLess (x :: a) (y :: b) = (decide (x < y) || (x == y && Op.bytesLess a b)) := by rw [Op.bytesLess]
theorem ltS_sound (hG : Gok G σ) : ∀ {a b : List Nat} {c : Bool}, ltS G a b = some c → Op.bytesLess (a.map (byteOf σ)) (b.map (byteOf σ)) = c := by
  intro a
  induction a with
  | nil => intro b c h; cases b <;> simp only [ltS] at h <;> cases h <;> simp [Op.bytesLess]
  | cons x a ih =>
    intro b c h
    cases b with
    | nil => simp only [ltS] at h; cases h; simp [Op.bytesLess]
    | cons y b =>
      simp only [ltS] at h
      simp only [List.map_cons, bytesLess_cons]
      split at h
      · rename_i h1
        have e := eqB_sound hG h1
        simp only [decide_eq_true_eq] at e
        rw [e, ih h]
        simp [UInt8.lt_irrefl]
      · rename_i h1
        have e := eqB_sound hG h1
        simp only [decide_eq_false_iff_not] at e
        split at h
        · rename_i h3
          simp only [Bool.and_eq_true] at h3
          have ha := byteN_sound hG h3.1
          have hb := byteN_sound hG h3.2
          have := ltI_sound ha.2.2 hb.2.2 h
          rw [← this]
          have hne : (byteOf σ x == byteOf σ y) = false := by simpa using e
          rw [hne, Bool.false_and, Bool.or_false, decide_eq_decide, UInt8.lt_iff_toNat_lt, ha.2.1, hb.2.1]
          omega
        · cases h
      · cases h
theorem BR_size {a : List Nat} {x : ByteArray} (ha : BR σ a x) : x.size = a.length := by
  have : x.data.toList.length = (a.map (byteOf σ)).length := by rw [ha]
  simpa using this
theorem BR_append {a b : List Nat} {x y : ByteArray} (ha : BR σ a x) (hb : BR σ b y) : BR σ (a ++ b) (x ++ y) := by
  unfold BR at *
  rw [ByteArray.data_append, Array.toList_append, ha, hb, List.map_append]
theorem binS_sound (hG : Gok G σ) {op : BinOp} {a : List Nat} {y v : V} {x uy : Value} (t : TypeId) (hx : VR σ ρ (.str a) x) (hy : VR σ ρ y uy) (h : binS G op a y = some v) :
    ∃ u, (binOp op t x uy).run P W = .ok u W ∧ VR σ ρ v u := by
  simp only [VR] at hx
  obtain ⟨xa, hxa, rfl⟩ := hx
  unfold binS at h
  split at h
  · rename_i b
    simp only [VR] at hy
    obtain ⟨xb, hxb, rfl⟩ := hy
    split at h
    · split at h
      · rename_i hc
        cases h
        rw [Nat.ble_eq, llen_eq, llen_eq, ← BR_size hxa, ← BR_size hxb] at hc
        refine ⟨.string (xa ++ xb), ?_, by simp only [VR]; exact ⟨_, BR_append hxa hxb, rfl⟩⟩
        simp only [binOp]
        exact run_string_add_sum W xa xb (by omega)
      · cases h
    · unfold ob at h
      split at h
      · rename_i c hc; cases h
        refine ⟨.bool (xa.toList == xb.toList), by simp [binOp, Op.stringOp], ?_⟩
        rw [str_eq hxa hxb, eqS_sound hG hc]; simp only [VR]
      · cases h
    · unfold on at h
      split at h
      · rename_i c hc; cases h
        refine ⟨.bool (!(xa.toList == xb.toList)), by simp [binOp, Op.stringOp], ?_⟩
        rw [str_eq hxa hxb, eqS_sound hG hc]; simp only [VR]
      · cases h
    · unfold ob at h
      split at h
      · rename_i c hc; cases h
        refine ⟨.bool (Op.bytesLess xa.toList xb.toList), by simp [binOp, Op.stringOp], ?_⟩
        rw [ByteArray.toList_eq, ByteArray.toList_eq, hxa, hxb, ltS_sound hG hc]; simp only [VR]
      · cases h
    · unfold on at h
      split at h
      · rename_i c hc; cases h
        refine ⟨.bool (!(Op.bytesLess xa.toList xb.toList)), by simp [binOp, Op.stringOp], ?_⟩
        rw [ByteArray.toList_eq, ByteArray.toList_eq, hxa, hxb, ltS_sound hG hc]; simp only [VR]
      · cases h
    · cases h
  · cases h
theorem flt?_sound {o : Option Nat} {v : V} (h : flt? o = some v) : ∃ r, o = some r ∧ v = .flt r := by
  unfold flt? at h; split at h
  · cases h; exact ⟨_, rfl, rfl⟩
  · cases h
theorem binF_sound {op : BinOp} {a : Nat} {y v : V} {uy : Value} (t : TypeId) (hy : VR σ ρ y uy) (h : binF op a y = some v) :
    ∃ u, (binOp op t (.float .f64 a) uy).run P W = .ok u W ∧ VR σ ρ v u := by
  unfold binF at h
  split at h
  · rename_i b
    simp only [VR] at hy
    subst hy
    split at h
    · obtain ⟨r, hr, rfl⟩ := flt?_sound h
      exact ⟨_, by simp only [binOp, ne_eq, not_true_eq_false, if_false]; exact run_floatArith W (k := .f64) hr, by simp only [VR]⟩
    · obtain ⟨r, hr, rfl⟩ := flt?_sound h
      exact ⟨_, by simp only [binOp, ne_eq, not_true_eq_false, if_false]; exact run_floatArith W (k := .f64) hr, by simp only [VR]⟩
    · obtain ⟨r, hr, rfl⟩ := flt?_sound h
      exact ⟨_, by simp only [binOp, ne_eq, not_true_eq_false, if_false]; exact run_floatArith W (k := .f64) hr, by simp only [VR]⟩
    · obtain ⟨r, hr, rfl⟩ := flt?_sound h
      exact ⟨_, by simp only [binOp, ne_eq, not_true_eq_false, if_false]; exact run_floatArith W (k := .f64) hr, by simp only [VR]⟩
    all_goals first
      | (cases h; done)
      | (cases h; exact ⟨_, by simp only [binOp, ne_eq, not_true_eq_false, if_false]; rfl, by simp only [VR]; rfl⟩)
  · cases h
theorem eql_run (t : TypeId) (x y : Value) (h : binOp .eql t x y = (do pure (.bool (← Op.equal t x y)))) : (binOp .eql t x y).run P W = ((Op.equal t x y).run P W).andThen fun b w => .ok (.bool b) w := by
  rw [h]; simp
theorem neq_run (t : TypeId) (x y : Value) (h : binOp .neq t x y = (do pure (.bool (!(← Op.equal t x y))))) : (binOp .neq t x y).run P W = ((Op.equal t x y).run P W).andThen fun b w => .ok (.bool !b) w := by
  rw [h]; simp
theorem eqIn_bool (d : Nat) {t : TypeId} (hd : P.underlying t = some .bool) (a b : Bool) : (Op.equalIn (d + 1) t (.bool a) (.bool b)).run P W = .ok (a == b) W := by
  simp [Op.equalIn, run_underlying hd]
theorem eqIn_ptr (d : Nat) {t e : TypeId} (hd : P.underlying t = some (.pointer e)) (a : Option Addr) : (Op.equalIn (d + 1) t (.pointer a) (.pointer none)).run P W = .ok a.isNone W := by
  cases a <;> simp [Op.equalIn, run_underlying hd]
theorem eqIn_slice (d : Nat) {t e : TypeId} (hd : P.underlying t = some (.slice e)) (a : Option Addr) (l c : Nat) : (Op.equalIn (d + 1) t (.slice a l c) (.slice none 0 0)).run P W = .ok a.isNone W := by
  cases a <;> simp [Op.equalIn, run_underlying hd]
theorem eqIn_map (d : Nat) {t k e : TypeId} (hd : P.underlying t = some (.map k e)) (a : Option Nat) : (Op.equalIn (d + 1) t (.map a) (.map none)).run P W = .ok a.isNone W := by
  cases a <;> simp [Op.equalIn, run_underlying hd]
theorem eq_bool {t : TypeId} (hd : P.underlying t = some .bool) (a b : Bool) : (Op.equal t (.bool a) (.bool b)).run P W = .ok (a == b) W := eqIn_bool 9999 hd a b
theorem eq_ptr {t e : TypeId} (hd : P.underlying t = some (.pointer e)) (a : Option Addr) : (Op.equal t (.pointer a) (.pointer none)).run P W = .ok a.isNone W := eqIn_ptr 9999 hd a
theorem eq_slice {t e : TypeId} (hd : P.underlying t = some (.slice e)) (a : Option Addr) (l c : Nat) : (Op.equal t (.slice a l c) (.slice none 0 0)).run P W = .ok a.isNone W := eqIn_slice 9999 hd a l c
theorem eq_map {t k e : TypeId} (hd : P.underlying t = some (.map k e)) (a : Option Nat) : (Op.equal t (.map a) (.map none)).run P W = .ok a.isNone W := eqIn_map 9999 hd a
theorem eqBo_sound {op : BinOp} {t : TypeId} {a : Bool} {y v : V} {uy : Value} (hy : VR σ ρ y uy) (h : eqBo P op t a y = some v) :
    ∃ u, (binOp op t (.bool a) uy).run P W = .ok u W ∧ VR σ ρ v u := by
  unfold eqBo at h
  split at h
  · rename_i b
    simp only [VR] at hy
    subst hy
    split at h
    · rename_i hd
      split at h
      · cases h; exact ⟨.bool (a == b), by rw [eql_run t _ _ rfl, eq_bool hd]; rfl, by simp only [VR]⟩
      · cases h; exact ⟨.bool (a != b), by rw [neq_run t _ _ rfl, eq_bool hd]; rfl, by simp only [VR]⟩
      · cases h
    · cases h
  · cases h
theorem nil?_sound {t : TypeId} {x y : V} {ux uy : Value} {c : Bool} (hx : VR σ ρ x ux) (hy : VR σ ρ y uy) (h : nil? (P.underlying t) x = some c)
    (hk : y = .nilp ∧ (∃ e, P.underlying t = some (.pointer e)) ∨ y = .nils ∧ (∃ e, P.underlying t = some (.slice e)) ∨ y = .nilm ∧ (∃ k e, P.underlying t = some (.map k e))) :
    (Op.equal t ux uy).run P W = .ok c W ∧ (∀ op, binOp op t ux uy = (match op with | .eql => (do pure (.bool (← Op.equal t ux uy))) | .neq => (do pure (.bool (!(← Op.equal t ux uy)))) | op => binOp op t ux uy)) := by
  rcases hk with ⟨rfl, e, he⟩ | ⟨rfl, e, he⟩ | ⟨rfl, k, e, he⟩ <;> simp only [VR] at hy <;> subst hy <;> rw [he] at h <;> cases x <;> simp only [nil?] at h <;> try contradiction
  all_goals cases h
  case inl.nilp => simp only [VR] at hx; subst hx; exact ⟨eq_ptr he _, fun op => by cases op <;> rfl⟩
  case inl.ptr => simp only [VR] at hx; obtain ⟨b, n, _, rfl⟩ := hx; exact ⟨eq_ptr he _, fun op => by cases op <;> rfl⟩
  case inr.inl.nils => simp only [VR] at hx; subst hx; exact ⟨eq_slice he _ _ _, fun op => by cases op <;> rfl⟩
  case inr.inl.slz => simp only [VR] at hx; obtain ⟨b, n, rfl⟩ := hx; exact ⟨eq_slice he _ _ _, fun op => by cases op <;> rfl⟩
  case inr.inl.sl => simp only [VR] at hx; obtain ⟨b, n, cap, _, _, _, _, rfl⟩ := hx; exact ⟨eq_slice he _ _ _, fun op => by cases op <;> rfl⟩
  case inr.inr.nilm => simp only [VR] at hx; subst hx; exact ⟨eq_map he _, fun op => by cases op <;> rfl⟩
  case inr.inr.map => simp only [VR] at hx; obtain ⟨b, n, _, rfl⟩ := hx; exact ⟨eq_map he _, fun op => by cases op <;> rfl⟩
theorem nilY_sound {t : TypeId} {y : V} (h : nilY (P.underlying t) y = true) : y = .nilp ∧ (∃ e, P.underlying t = some (.pointer e)) ∨ y = .nils ∧ (∃ e, P.underlying t = some (.slice e)) ∨ y = .nilm ∧ (∃ k e, P.underlying t = some (.map k e)) := by
  unfold nilY at h
  split at h <;> try (cases h; done)
  all_goals (split at h <;> try (cases h; done))
  · rename_i hd; exact .inl ⟨rfl, _, hd⟩
  · rename_i hd; exact .inr (.inl ⟨rfl, _, hd⟩)
  · rename_i hd; exact .inr (.inr ⟨rfl, _, _, hd⟩)
theorem sameP_some {op : BinOp} {c : Bool} {v : V} (h : sameP op c = some v) : c = true ∧ (op = .eql ∧ v = .bool true ∨ op = .neq ∧ v = .bool false) := by
  unfold sameP at h
  split at h
  · refine ⟨rfl, ?_⟩
    split at h
    · cases h; exact .inl ⟨rfl, rfl⟩
    · cases h; exact .inr ⟨rfl, rfl⟩
    · cases h
  · cases h
theorem vars_some {d : Option TypeDesc} (h : vars P d = true) : ∃ e n, d = some (.pointer e) ∧ sizeT P e = some (n + 1) := by
  unfold vars at h
  split at h
  · split at h
    · rename_i hn; exact ⟨_, _, rfl, hn⟩
    · cases h
  · cases h
theorem eqIn_same (d : Nat) {t e : TypeId} {n : Nat} (hd : P.underlying t = some (.pointer e)) (hn : sizeT P e = some (n + 1)) (a : Addr) : (Op.equalIn (d + 1) t (.pointer (some a)) (.pointer (some a))).run P W = .ok true W := by
  simp [Op.equalIn, run_underlying hd, run_sizeT hn, sameAddr]
theorem eqP_sound {op : BinOp} {t : TypeId} {x y v : V} {ux uy : Value} (hx : VR σ ρ x ux) (hy : VR σ ρ y uy) (h : eqP P op t x y = some v) :
    ∃ u, (binOp op t ux uy).run P W = .ok u W ∧ VR σ ρ v u := by
  unfold eqP at h
  split at h
  · split at h
    · obtain ⟨h1, h2⟩ := sameP_some h
      simp only [Bool.and_eq_true, Nat.beq_eq] at h1
      obtain ⟨⟨h1, rfl⟩, rfl⟩ := h1
      obtain ⟨e, n, hd, hn⟩ := vars_some h1
      simp only [VR] at hx hy
      obtain ⟨b, m, k1, rfl⟩ := hx
      obtain ⟨b', m', k2, rfl⟩ := hy
      rw [k1] at k2; cases k2
      rcases h2 with ⟨rfl, rfl⟩ | ⟨rfl, rfl⟩
      · exact ⟨.bool true, by rw [eql_run t _ _ rfl, show (Op.equal t _ _).run P W = _ from eqIn_same 9999 hd hn _]; rfl, by simp only [VR]⟩
      · exact ⟨.bool false, by rw [neq_run t _ _ rfl, show (Op.equal t _ _).run P W = _ from eqIn_same 9999 hd hn _]; rfl, by simp only [VR]⟩
    · cases h
  · cases h
theorem eqN_sound {op : BinOp} {t : TypeId} {x y v : V} {ux uy : Value} (hx : VR σ ρ x ux) (hy : VR σ ρ y uy) (h : eqN P op t x y = some v) :
    ∃ u, (binOp op t ux uy).run P W = .ok u W ∧ VR σ ρ v u := by
  unfold eqN at h
  split at h
  · rename_i hn
    have hk := nilY_sound hn
    split at h
    · obtain ⟨c, hc, rfl⟩ := ob_some h
      obtain ⟨h1, h2⟩ := nil?_sound (W := W) hx hy hc hk
      exact ⟨.bool c, by rw [eql_run t _ _ (h2 .eql), h1]; rfl, by simp only [VR]⟩
    · obtain ⟨c, hc, rfl⟩ := on_some h
      obtain ⟨h1, h2⟩ := nil?_sound (W := W) hx hy hc hk
      exact ⟨.bool (!c), by rw [neq_run t _ _ (h2 .neq), h1]; rfl, by simp only [VR]⟩
    · cases h
  · exact eqP_sound hx hy h
theorem bin_sound {E : Env} (hG : Gok E.G σ) (hF : Fok E σ) {op : BinOp} {t : TypeId} {x y v : V} {ux uy : Value} (hx : VR σ ρ x ux) (hy : VR σ ρ y uy) (h : bin E op t x y = some v) :
    ∃ u, (binOp op t ux uy).run E.P W = .ok u W ∧ VR σ ρ v u := by
  unfold bin at h
  split at h
  · rename_i k a
    simp only [VR] at hx; subst hx
    unfold bin1 at h
    split at h
    · rename_i k' b
      simp only [VR] at hy; subst hy
      split at h
      · rename_i hsh
        split at h
        · cases h
        · rename_i hb; exact shI_sound t hsh hb h
      · rename_i hsh
        split at h
        · rename_i hk; simp only [decide_eq_true_eq] at hk; subst hk; exact binI_sound t hsh h
        · cases h
    · rename_i k' i
      simp only [VR] at hy; subst hy
      split at h
      · cases h
      · rename_i hsh
        split at h
        · rename_i hk; simp only [decide_eq_true_eq] at hk; subst hk
          exact cmpN_sound hG hF (a := .c a) (b := .s i) t hsh h
        · cases h
    · cases h
  · rename_i k i
    simp only [VR] at hx; subst hx
    unfold bin2 at h
    split at h
    · rename_i k' b
      simp only [VR] at hy; subst hy
      split at h
      · rename_i hsh
        split at h
        · cases h
        · obtain ⟨r, hr, rfl⟩ := nmR_some h
          have := hF.ar _ _ _ _ _ hr
          rw [hsh] at this
          obtain ⟨u, h1, h2⟩ := shI_sound (P := E.P) (W := W) (σ := σ) (ρ := ρ) (k' := k') t hsh this.1 this.2
          exact ⟨u, h1, VR_int_nm h2⟩
      · rename_i hsh
        split at h
        · rename_i hk; simp only [decide_eq_true_eq] at hk; subst hk
          exact cmpN_sound hG hF (a := .s i) (b := .c b) t hsh h
        · cases h
    · rename_i k' j
      simp only [VR] at hy; subst hy
      split at h
      · cases h
      · rename_i hsh
        split at h
        · rename_i hk; simp only [decide_eq_true_eq] at hk; subst hk
          exact cmpN_sound hG hF (a := .s i) (b := .s j) t hsh h
        · cases h
    · cases h
  · exact binS_sound hG t hx hy h
  · rename_i a
    simp only [VR] at hx; subst hx
    unfold binFF at h
    split at h
    · rename_i j
      simp only [VR] at hy; subst hy
      have := hF.fb _ _ _ _ h
      obtain ⟨u, h1, h2⟩ := binF_sound (P := E.P) (W := W) (σ := σ) (ρ := ρ) t (uy := .float .f64 (σ j).toNat) (by simp only [VR, Nm.val]) this
      exact ⟨u, h1, VR_conc h2⟩
    · exact binF_sound t hy h
  · rename_i i
    simp only [VR] at hx; subst hx
    unfold binSF at h
    split at h
    · rename_i b
      simp only [VR] at hy; subst hy
      have := hF.fb _ _ _ _ h
      obtain ⟨u, h1, h2⟩ := binF_sound (P := E.P) (W := W) (σ := σ) (ρ := ρ) t (uy := .float .f64 b) (by simp only [VR, Nm.val]; rfl) this
      exact ⟨u, h1, VR_conc h2⟩
    · rename_i j
      simp only [VR] at hy; subst hy
      have := hF.fb _ _ _ _ h
      obtain ⟨u, h1, h2⟩ := binF_sound (P := E.P) (W := W) (σ := σ) (ρ := ρ) t (uy := .float .f64 (σ j).toNat) (by simp only [VR, Nm.val]) this
      exact ⟨u, h1, VR_conc h2⟩
    · cases h
  · simp only [VR] at hx; subst hx; exact eqBo_sound hy h
  · exact eqN_sound hx hy h
end num
end
end Go.Proofs.YtnpkeganpkobjaaGreatDoor.Ev
