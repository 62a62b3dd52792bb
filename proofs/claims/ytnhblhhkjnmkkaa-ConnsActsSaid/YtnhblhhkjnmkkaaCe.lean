/- Tables of readers: what their steps keep of what lies beside them; what waits in all; and the conns laws' awake, walked once. -/
import Derived.Test.YtnhblhhkjnmkkaaCd
import Derived.Test.YtnhblhhkjnmkkaaAw4
namespace Go.Proofs.Ytnhblhhkjnmkkaa.Q
open Go.RowKit Go.Proofs.YtnhblhhkjnmkkaaW.PrintWords Go.Proofs.YtnhblhhkjnmkkaaW.PrintLast Go.Proofs.YtnhblhhkjnmkkaaW.PrintMore
open Go.Proofs.Ytnhblhhkjnmkkaa.Sp Go.Proofs.Ytnhblhhkjnmkkaa.Va Go.Proofs.Ytnhblhhkjnmkkaa.Fr
set_option linter.unusedVariables false
set_option linter.unusedSimpArgs false
/-- A table beside another's step. -/
theorem TabGo.beside {W0 W W1 : World} {g p g2 p2 : Nat} {t tp tr t2 tp2 tr2 : TypeId} {most most2 : Int} {ps ps' qs : List (Option (Nat × Value × List Int × Bool))} {S' : List (Option (List Int × Bool))} (h : TabGo W0 W W1 g p t tp tr most ps S' ps') (hM : Tab W0 W g2 p2 t2 tp2 tr2 most2 qs) (hd : ∀ k, foot g p ps k → ¬ foot g2 p2 qs k) : Tab W0 W1 g2 p2 t2 tp2 tr2 most2 qs ∧ (∀ k, foot g p ps' k → ¬ foot g2 p2 qs k) :=
  ⟨hM.kept h.2.2.1 (fun k hk hk2 => hd k hk2 hk) h.1.2.2.2.2.1, fun k hk hk2 => (h.2.2.2 k hk).elim (fun q => hd k q hk2) (fun q => by have := hM.lt hk2; omega)⟩
/-- Rows apart from a table, over its step. -/
theorem TabGo.rows {W0 W W1 : World} {g p base : Nat} {t tp tr : TypeId} {most : Int} {ps ps' : List (Option (Nat × Value × List Int × Bool))} {S' : List (Option (List Int × Bool))} {v : Value} {xs : List (List Int)} (h : TabGo W0 W W1 g p t tp tr most ps S' ps') (hs : Kd.S (Kd.slice 5 (Kd.int .u8)) 22 W base (fun k => ¬ foot g p ps k) v xs) : Kd.S (Kd.slice 5 (Kd.int .u8)) 22 W1 base (fun k => ¬ foot g p ps' k) v xs :=
  Kd.S_mono (Kd.S_kept (Kd.S_bound hs) h.2.2.1 (fun k hk => hk.1)) (fun k hk hf => (h.2.2.2 k hf).elim hk.1 (fun q => by have := hk.2.2.1; omega))
theorem TabGo.then_ {W0 W W1 W2 : World} {g p : Nat} {t tp tr : TypeId} {most : Int} {ps ps' ps2 : List (Option (Nat × Value × List Int × Bool))} {S' S2 : List (Option (List Int × Bool))} (h : TabGo W0 W W1 g p t tp tr most ps S' ps') (k : TabGo W0 W1 W2 g p t tp tr most ps' S2 ps2) : TabGo W0 W W2 g p t tp tr most ps S2 ps2 :=
  ⟨k.1, k.2.1, h.2.2.1.then_ k.2.2.1 h.2.2.2, fun j hj => (k.2.2.2 j hj).elim (h.2.2.2 j) (fun q => Or.inr (Nat.le_trans h.2.2.1.1 q))⟩
/-- How much waits. -/
def wl (x : Option (List Int × Bool)) : Nat := match x with | none => 0 | some y => y.1.length
def tw (S : List (Option (List Int × Bool))) : Nat := (S.map wl).sum
theorem tw_set : ∀ (S : List (Option (List Int × Bool))) (i : Nat) (x y : Option (List Int × Bool)), S[i]? = some x → tw (S.set i y) + wl x = tw S + wl y
  | [], i, x, y, h => by simp at h
  | a :: S, 0, x, y, h => by
    simp only [List.getElem?_cons_zero, Option.some.injEq] at h
    subst h
    simp only [List.set_cons_zero, tw, List.map_cons, List.sum_cons]
    omega
  | a :: S, i + 1, x, y, h => by
    have ih := tw_set S i x y (by simpa using h)
    simp only [List.set_cons_succ, tw, List.map_cons, List.sum_cons] at ih ⊢
    omega
theorem tw_le (S : List (Option (List Int × Bool))) (i : Nat) (x : Option (List Int × Bool)) (h : S[i]? = some x) : wl x ≤ tw S := by
  have h1 := tw_set S i x none h
  have h2 : wl none = 0 := rfl
  omega
/-- All that waits is bytes, and no more than so much. -/
def SB (S : List (Option (List Int × Bool))) (n : Nat) : Prop := (∀ (i : Nat) (y : List Int × Bool), S[i]? = some (some y) → Bytes y.1) ∧ tw S ≤ n
theorem SB.set_ {S : List (Option (List Int × Bool))} {n : Nat} (h : SB S n) (i : Nat) (x y : Option (List Int × Bool)) (hx : S[i]? = some x) (m : Nat) (hy : ∀ z, y = some z → Bytes z.1) (hm : n + wl y ≤ m + wl x) : SB (S.set i y) m := by
  refine ⟨fun j z hz => ?_, ?_⟩
  · rw [List.getElem?_set] at hz
    split at hz
    · split at hz
      · exact hy z (Option.some.inj hz)
      · cases hz
    · exact h.1 j z hz
  · have h1 := tw_set S i x y hx
    have h2 := h.2
    omega
theorem SB.mono {S : List (Option (List Int × Bool))} {n m : Nat} (h : SB S n) (hm : n ≤ m) : SB S m := ⟨h.1, Nat.le_trans h.2 hm⟩
theorem SB.new (k n : Nat) : SB (List.replicate k none) n := by
  refine ⟨fun i y hy => ?_, ?_⟩
  · rw [List.getElem?_replicate] at hy
    split at hy <;> cases hy
  · have : tw (List.replicate k none) = 0 := by simp [tw, wl]
    omega
theorem SB.open_ {S : List (Option (List Int × Bool))} {n : Nat} (h : SB S n) (id : Int) : SB (openS S id).2 n := by
  rcases slot_cases S id with h1 | h1 | ⟨i, rfl, hi, hx | ⟨x, hx⟩⟩
  · rw [openS_no _ _ (Or.inl h1)]; exact h
  · rw [openS_no _ _ (Or.inr (Or.inl h1))]; exact h
  · rw [openS_yes _ i hx]; exact h.set_ i none _ hx n (fun z hz => by obtain rfl := Option.some.inj hz; exact Bytes.nil) (by simp [wl])
  · rw [openS_no _ _ (Or.inr (Or.inr (isv_in _ _ _ hx)))]; exact h
theorem SB.close_ {S : List (Option (List Int × Bool))} {n : Nat} (h : SB S n) (id : Int) : SB (closeS S id).2 n := by
  cases hv : isv S id with
  | false => rw [closeS_no _ _ hv]; exact h
  | true =>
    obtain ⟨i, x, rfl, hi, hx⟩ := isv_some S id hv
    rw [closeS_yes _ i x hx]
    exact h.set_ i (some x) none hx n (fun z hz => by cases hz) (by simp [wl])
theorem SB.feed_ {S : List (Option (List Int × Bool))} {n : Nat} (h : SB S n) (m : Nat) (id : Int) (b : List Int) (hb : Bytes b) : SB (feedS m S id b).2.2 (n + b.length) := by
  cases hv : isv S id with
  | false => rw [feedS_no _ _ _ _ hv]; exact h.mono (by omega)
  | true =>
    obtain ⟨i, x, rfl, hi, hx⟩ := isv_some S id hv
    obtain ⟨wt, off⟩ := x
    have hf := feedv_bytes (m := m) (off := off) (h.1 i _ hx) hb
    rw [feedS_yes m S i b wt off hx]
    refine h.set_ i _ _ hx _ (fun z hz => by obtain rfl := Option.some.inj hz; exact hf.1) ?_
    have h2 := hf.2
    simp only [wl]
    simp only at h2
    omega
/-- What a feeding asks, out of what waits. -/
theorem SB.asks {S : List (Option (List Int × Bool))} {n : Nat} (h : SB S n) (ps : List (Option (Nat × Value × List Int × Bool))) (hS : ps.map ab = S) (k : Nat) (hn : n + k ≤ 1000000) : ∀ (i : Nat) (x : Nat × Value × List Int × Bool), ps[i]? = some (some x) → Bytes x.2.2.1 ∧ x.2.2.1.length + k ≤ 1000000 := by
  intro i x hx
  have hx' : S[i]? = some (some x.2.2) := by rw [← hS, List.getElem?_map, hx]; rfl
  refine ⟨h.1 i _ hx', ?_⟩
  have h1 := tw_le S i _ hx'
  have h2 := h.2
  simp only [wl] at h1
  omega
theorem openS_len (S : List (Option (List Int × Bool))) (id : Int) : (openS S id).2.length = S.length := by unfold openS; split <;> simp
theorem closeS_len (S : List (Option (List Int × Bool))) (id : Int) : (closeS S id).2.length = S.length := by unfold closeS; split <;> simp
theorem feedS_len (m : Nat) (S : List (Option (List Int × Bool))) (id : Int) (b : List Int) : (feedS m S id b).2.2.length = S.length := by unfold feedS; split <;> simp
theorem ab_len {ps : List (Option (Nat × Value × List Int × Bool))} {S : List (Option (List Int × Bool))} (h : ps.map ab = S) : ps.length = S.length := by rw [← h, List.length_map]
/-- Receivers that are nil. -/
theorem cis_nil (W : World) (id : Int) : Calls Try.prog 60 #[.pointer none, .int .i64 id] W fun e w' => e = .returned (.bool false) ∧ W = w' := by
  go_enter Try.func60, Try.ntmps60
  go_wp2_with fail
  go_ret
  exact ⟨rfl, rfl⟩
theorem copen_nil (W : World) (id : Int) : Calls Try.prog 54 #[.pointer none, .int .i64 id] W fun e w' => e = .returned (.bool false) ∧ W = w' := by
  go_enter Try.func54, Try.ntmps54
  go_wp2_with fail
  go_ret
  exact ⟨rfl, rfl⟩
theorem clist_nil (W : World) : Calls Try.prog 63 #[.pointer none] W fun e w' => e = .returned (.slice none 0 0) ∧ W = w' := by
  go_enter Try.func63, Try.ntmps63
  go_wp2_with fail
  go_ret
  exact ⟨rfl, rfl⟩
/-- The steps at states that are known. -/
theorem to_open (W0 W : World) (g p : Nat) (most : Int) (ps : List (Option (Nat × Value × List Int × Bool))) (h : Tab W0 W g p 121 45 118 most ps) (S : List (Option (List Int × Bool))) (hS : ps.map ab = S) (hl : S.length ≤ 1000) (id : Int) (r : Bool) (S' : List (Option (List Int × Bool))) (he : openS S id = (r, S')) :
    Calls Try.prog 54 #[.pointer (some ⟨g, 0, none⟩), .int .i64 id] W fun e w' => e = .returned (.bool r) ∧ ∃ ps', TabGo W0 W w' g p 121 45 118 most ps S' ps' := by
  have h1 := open_calls W0 W g p most ps h (by rw [ab_len hS]; exact hl) id
  rw [hS, he] at h1
  exact h1
theorem to_close (W0 W : World) (g p : Nat) (most : Int) (ps : List (Option (Nat × Value × List Int × Bool))) (h : Tab W0 W g p 121 45 118 most ps) (S : List (Option (List Int × Bool))) (hS : ps.map ab = S) (hl : S.length ≤ 1000) (id : Int) (r : Bool) (S' : List (Option (List Int × Bool))) (he : closeS S id = (r, S')) :
    Calls Try.prog 56 #[.pointer (some ⟨g, 0, none⟩), .int .i64 id] W fun e w' => e = .returned (.bool r) ∧ ∃ ps', TabGo W0 W w' g p 121 45 118 most ps S' ps' := by
  have h1 := close_calls W0 W g p most ps h (by rw [ab_len hS]; exact hl) id
  rw [hS, he] at h1
  exact h1
theorem to_feed (W0 W : World) (g p : Nat) (most : Int) (ps : List (Option (Nat × Value × List Int × Bool))) (h : Tab W0 W g p 121 45 118 most ps) (S : List (Option (List Int × Bool))) (hS : ps.map ab = S) (hl : S.length ≤ 1000) (n : Nat) (hB : SB S n) (id : Int) (A : Option Addr) (c : Nat) (b : List Int) (hC : Kd.C (Kd.int .u8) W A b.length b) (hcc : b.length ≤ c) (hb : Bytes b) (hn : n + b.length ≤ 1000000) (rows : List (List Int)) (err : Int) (S' : List (Option (List Int × Bool))) (he : feedS (lim most) S id b = (rows, err, S')) :
    Calls Try.prog 58 #[.pointer (some ⟨g, 0, none⟩), .int .i64 id, .slice A b.length c] W fun e w' => ∃ A' c' ps', e = .returned (.tuple #[.slice A' rows.length c', .int .i64 err]) ∧ Kd.S (Kd.slice 5 (Kd.int .u8)) 22 w' W.heap.size (fun k => ¬ foot g p ps' k) (.slice A' rows.length c') rows ∧ TabGo W0 W w' g p 121 45 118 most ps S' ps' := by
  have h1 := tfeed_calls W0 W g p most ps h (by rw [ab_len hS]; exact hl) id A c b hC hcc hb (hB.asks ps hS _ hn)
  rw [hS, he] at h1
  refine h1.mono ?_
  rintro e w' ⟨vl, ps', rfl, hs, ht⟩
  obtain ⟨A', c', ev⟩ := Kd.S_slice hs
  subst ev
  exact ⟨A', c', ps', rfl, hs, ht⟩
end Go.Proofs.Ytnhblhhkjnmkkaa.Q
