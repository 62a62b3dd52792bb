/- What the laws of acts share: whether acts are looked at, comparing rows of numbers, the steps of both tables. -/
import Derived.Test.YtnhblhhkjnmkkaaCw
import Derived.Test.YtnhblhhkjnmkkaaQ13
import Derived.Test.YtnhblhhkjnmkkaaQ12
namespace Go.Proofs.Ytnhblhhkjnmkkaa.Q
open Go.RowKit Go.Proofs.YtnhblhhkjnmkkaaW.PrintWords Go.Proofs.YtnhblhhkjnmkkaaW.PrintLast Go.Proofs.YtnhblhhkjnmkkaaW.PrintMore
open Go.Proofs.Ytnhblhhkjnmkkaa.Sp Go.Proofs.Ytnhblhhkjnmkkaa.Va Go.Proofs.Ytnhblhhkjnmkkaa.Fr
set_option linter.unusedVariables false
set_option linter.unusedSimpArgs false
def good67 (x : S67) : Prop := (Lit.int .i64 x.f0).wf = true ∧ (Lit.int .i64 x.f1).wf = true ∧ (x.f2.length * 1 ≤ 140737488351232 ∧ ∀ y0 ∈ x.f2, (Lit.int .u8 y0).wf = true)
/-- How many bytes come in all. -/
def totA (l : List S67) : Nat := (l.map (fun x => x.f2.length)).sum
theorem totA_cons (x : S67) (l : List S67) : totA (x :: l) = x.f2.length + totA l := by simp [totA]
theorem drop_T67 (l : List S67) (i : Nat) (h : i < l.length) : l.drop i = rd_T67 l (i : Int) :: l.drop (i + 1) := by
  rw [List.drop_eq_getElem_cons h, rd_T67, Int.toNat_natCast, List.getD_eq_getElem?_getD, List.getElem?_eq_getElem h]; rfl
theorem mem_T67 (l : List S67) (i : Nat) (h : i < l.length) : rd_T67 l (i : Int) ∈ l := List.mem_of_mem_drop (i := i) (by rw [drop_T67 l i h]; exact List.mem_cons_self ..)
theorem light_l0 (l : List S67) (hl : l.length ≤ 100000000000000) : ∀ (d i : Nat) (n : Int), l.length - i ≤ d → i ≤ l.length → 0 ≤ n → n ≤ 1000000000000000 → ∃ r, (∀ k, d + 1 ≤ k → turncocklaw32_light.l0 k l n (i : Int) = some r) ∧ (r = true → n + (totA (l.drop i) : Int) ≤ 5000) := by
  have out : ∀ (d i : Nat) (n : Int), ¬ (i < l.length ∧ n ≤ 5000) → i ≤ l.length → ∃ r, (∀ k, d + 1 ≤ k → turncocklaw32_light.l0 k l n (i : Int) = some r) ∧ (r = true → n + (totA (l.drop i) : Int) ≤ 5000) := by
    intro d i n h1 h2
    refine ⟨decide (n ≤ 5000), fun k hk => ?_, fun hv => ?_⟩
    · obtain ⟨k, rfl⟩ : ∃ j, k = j + 1 := ⟨k - 1, by omega⟩
      simp only [turncocklaw32_light.l0]
      by_cases hi : i < l.length
      · rw [if_pos (by omega), if_neg (by omega)]
      · rw [if_neg (by omega)]
    · have hv := of_decide_eq_true hv
      rw [List.drop_eq_nil_of_le (by omega)]
      simp [totA]; omega
  intro d
  induction d with
  | zero => intro i n h1 h2 h3 h4; exact out 0 i n (by omega) h2
  | succ d ih =>
    intro i n h1 h2 h3 h4
    by_cases hi : i < l.length ∧ n ≤ 5000
    · have q0 : 0 ≤ mn ((rd_T67 l (i : Int)).f2.length : Int) 5001 ∧ mn ((rd_T67 l (i : Int)).f2.length : Int) 5001 ≤ 5001 := by unfold mn; split <;> omega
      obtain ⟨r, hk, hb⟩ := ih (i + 1) (n + mn ((rd_T67 l (i : Int)).f2.length : Int) 5001) (by omega) (by omega) (by omega) (by omega)
      refine ⟨r, fun k hK => ?_, fun hv => ?_⟩
      · obtain ⟨k, rfl⟩ : ∃ j, k = j + 1 := ⟨k - 1, by omega⟩
        simp only [turncocklaw32_light.l0]
        rw [if_pos (by omega), if_pos hi.2, if_pos (by omega), w64 (n := n + mn _ 5001) (by omega) (by omega), w64 (n := (i : Int) + 1) (by omega) (by omega)]
        exact hk k (by omega)
      · have h5 := hb hv
        rw [drop_T67 l i hi.1, totA_cons]
        have r1 : mn ((rd_T67 l (i : Int)).f2.length : Int) 5001 = ((rd_T67 l (i : Int)).f2.length : Int) := by
          have r0 : mn ((rd_T67 l (i : Int)).f2.length : Int) 5001 ≤ 5000 := by omega
          unfold mn at r0 ⊢
          split at r0
          · omega
          · rename_i hc; rw [if_neg hc]
        omega
    · exact out _ i n hi h2
theorem light_f (l : List S67) (hl : l.length * 40 ≤ 140737488351232) : ∃ r, turncocklaw32_light.f (l.length + 1) l = some r ∧ (r = true → l.length ≤ 5000 ∧ totA l ≤ 5000) := by
  obtain ⟨r, hk, hb⟩ := light_l0 l (by omega) l.length 0 (l.length : Int) (by omega) (by omega) (by omega) (by omega)
  rw [List.drop_zero] at hb
  exact ⟨r, hk _ (Nat.le_refl _), fun hr => by have := hb hr; omega⟩
theorem ints_self (x : List Int) (hl : x.length ≤ 1000000000) : turncockref1_Ints.f (x.length + 1) x x = some true := by
  have go : ∀ (d i : Nat), x.length - i ≤ d → i ≤ x.length → ∀ k, d + 1 ≤ k → turncockref1_Ints.l0 k x x (i : Int) = some true := by
    intro d
    induction d with
    | zero =>
      intro i h1 h2 k hk
      obtain ⟨k, rfl⟩ : ∃ j, k = j + 1 := ⟨k - 1, by omega⟩
      simp only [turncockref1_Ints.l0]
      rw [if_neg (by omega)]
    | succ d ih =>
      intro i h1 h2 k hk
      obtain ⟨k, rfl⟩ : ∃ j, k = j + 1 := ⟨k - 1, by omega⟩
      simp only [turncockref1_Ints.l0]
      by_cases c : i < x.length
      · rw [if_pos (by omega), if_pos (by omega), if_pos (by omega), if_pos (by simp), w64 (n := (i : Int) + 1) (by omega) (by omega)]
        exact ih (i + 1) (by omega) (by omega) k (by omega)
      · rw [if_neg (by omega)]
  unfold turncockref1_Ints.f
  rw [if_pos rfl]
  exact go x.length 0 (by omega) (by omega) _ (Nat.le_refl _)
/-- What both tables are beside each other. -/
def Two (W0 W : World) (g p t tp tr g2 p2 t2 tp2 tr2 : Nat) (most : Int) (S S2 : List (Option (List Int × Bool))) (ps qs : List (Option (Nat × Value × List Int × Bool))) : Prop :=
  Tab W0 W g p t tp tr most ps ∧ Tab W0 W g2 p2 t2 tp2 tr2 most qs ∧ ps.map ab = S ∧ qs.map ab = S2 ∧ (∀ k, foot g p ps k → ¬ foot g2 p2 qs k)
theorem Two.left {W0 W W1 : World} {g p t tp tr g2 p2 t2 tp2 tr2 : Nat} {most : Int} {S S2 S' : List (Option (List Int × Bool))} {ps qs ps' : List (Option (Nat × Value × List Int × Bool))} (h : Two W0 W g p t tp tr g2 p2 t2 tp2 tr2 most S S2 ps qs) (ht : TabGo W0 W W1 g p t tp tr most ps S' ps') : Two W0 W1 g p t tp tr g2 p2 t2 tp2 tr2 most S' S2 ps' qs :=
  have hb := ht.beside h.2.1 h.2.2.2.2
  ⟨ht.1, hb.1, ht.2.1, h.2.2.2.1, hb.2⟩
theorem Two.right {W0 W W1 : World} {g p t tp tr g2 p2 t2 tp2 tr2 : Nat} {most : Int} {S S2 S' : List (Option (List Int × Bool))} {ps qs qs' : List (Option (Nat × Value × List Int × Bool))} (h : Two W0 W g p t tp tr g2 p2 t2 tp2 tr2 most S S2 ps qs) (ht : TabGo W0 W W1 g2 p2 t2 tp2 tr2 most qs S' qs') : Two W0 W1 g p t tp tr g2 p2 t2 tp2 tr2 most S S' ps qs' :=
  have hb := ht.beside h.1 (fun k hk hk2 => h.2.2.2.2 k hk2 hk)
  ⟨hb.1, ht.1, h.2.2.1, ht.2.1, fun k hk hk2 => hb.2 k hk2 hk⟩
theorem Two.more {W0 W W1 : World} {g p t tp tr g2 p2 t2 tp2 tr2 : Nat} {most : Int} {S S2 : List (Option (List Int × Bool))} {ps qs : List (Option (Nat × Value × List Int × Bool))} (h : Two W0 W g p t tp tr g2 p2 t2 tp2 tr2 most S S2 ps qs) (hb : Below W.heap.size W W1) : Two W0 W1 g p t tp tr g2 p2 t2 tp2 tr2 most S S2 ps qs :=
  ⟨h.1.more hb, h.2.1.more hb, h.2.2⟩
theorem Two.below {W0 W : World} {g p t tp tr g2 p2 t2 tp2 tr2 : Nat} {most : Int} {S S2 : List (Option (List Int × Bool))} {ps qs : List (Option (Nat × Value × List Int × Bool))} (h : Two W0 W g p t tp tr g2 p2 t2 tp2 tr2 most S S2 ps qs) : Below W0.heap.size W0 W := h.1.2.2.2.2.1
/-- Rows told by one table, over the other's step. -/
theorem rows_beside {W0 W W1 W2 : World} {g2 p2 base : Nat} {t2 tp2 tr2 : TypeId} {most : Int} {qs qs' : List (Option (Nat × Value × List Int × Bool))} {S' : List (Option (List Int × Bool))} {v : Value} {xs : List (List Int)} {ok : Nat → Prop} (hs : Kd.S (Kd.slice 5 (Kd.int .u8)) 22 W1 base ok v xs) (hq : ∀ k, foot g2 p2 qs k → k < base) (ht : TabGo W0 W1 W2 g2 p2 t2 tp2 tr2 most qs S' qs') : Kd.S (Kd.slice 5 (Kd.int .u8)) 22 W2 base (fun _ => True) v xs :=
  Kd.S_mono (Kd.S_kept (Kd.S_bound hs) ht.2.2.1 (fun k hk hf => by have := hq k hf; have := hk.2.1; omega)) (fun _ _ => trivial)
theorem to_is (W0 W : World) (g p : Nat) (most : Int) (ps : List (Option (Nat × Value × List Int × Bool))) (h : Tab W0 W g p 121 45 118 most ps) (S : List (Option (List Int × Bool))) (hS : ps.map ab = S) (hl : S.length ≤ 1000) (id : Int) :
    Calls Try.prog 60 #[.pointer (some ⟨g, 0, none⟩), .int .i64 id] W fun e w' => e = .returned (.bool (isv S id)) ∧ W = w' := by
  have h1 := is_calls W0 W g p most ps h (by rw [ab_len hS]; exact hl) id
  rw [← isv_ab, hS] at h1
  exact h1
theorem to_ris (W0 W : World) (g p : Nat) (most : Int) (ps : List (Option (Nat × Value × List Int × Bool))) (h : Tab W0 W g p 124 47 49 most ps) (S : List (Option (List Int × Bool))) (hS : ps.map ab = S) (hl : S.length ≤ 1000) (id : Int) :
    Calls Try.prog 61 #[.pointer (some ⟨g, 0, none⟩), .int .i64 id] W fun e w' => e = .returned (.bool (isv S id)) ∧ W = w' := by
  have h1 := ris_calls W0 W g p most ps h (by rw [ab_len hS]; exact hl) id
  rw [← isv_ab, hS] at h1
  exact h1
theorem to_ropen (W0 W : World) (g p : Nat) (most : Int) (ps : List (Option (Nat × Value × List Int × Bool))) (h : Tab W0 W g p 124 47 49 most ps) (S : List (Option (List Int × Bool))) (hS : ps.map ab = S) (hl : S.length ≤ 1000) (id : Int) :
    Calls Try.prog 55 #[.pointer (some ⟨g, 0, none⟩), .int .i64 id] W fun e w' => e = .returned (.bool (openS S id).1) ∧ ∃ ps', TabGo W0 W w' g p 124 47 49 most ps (openS S id).2 ps' := by
  have h1 := ropen_calls W0 W g p most ps h (by rw [ab_len hS]; exact hl) id
  rw [hS] at h1
  exact h1
theorem to_rclose (W0 W : World) (g p : Nat) (most : Int) (ps : List (Option (Nat × Value × List Int × Bool))) (h : Tab W0 W g p 124 47 49 most ps) (S : List (Option (List Int × Bool))) (hS : ps.map ab = S) (hl : S.length ≤ 1000) (id : Int) :
    Calls Try.prog 57 #[.pointer (some ⟨g, 0, none⟩), .int .i64 id] W fun e w' => e = .returned (.bool (closeS S id).1) ∧ ∃ ps', TabGo W0 W w' g p 124 47 49 most ps (closeS S id).2 ps' := by
  have h1 := rclose_calls W0 W g p most ps h (by rw [ab_len hS]; exact hl) id
  rw [hS] at h1
  exact h1
theorem to_rfeed (W0 W : World) (g p : Nat) (most : Int) (ps : List (Option (Nat × Value × List Int × Bool))) (h : Tab W0 W g p 124 47 49 most ps) (S : List (Option (List Int × Bool))) (hS : ps.map ab = S) (hl : S.length ≤ 1000) (n : Nat) (hB : SB S n) (id : Int) (A : Option Addr) (c : Nat) (b : List Int) (hC : Kd.C (Kd.int .u8) W A b.length b) (hcc : b.length ≤ c) (hb : Bytes b) (hn : n + b.length ≤ 1000000) (rows : List (List Int)) (err : Int) (S' : List (Option (List Int × Bool))) (he : feedS (lim most) S id b = (rows, err, S')) :
    Calls Try.prog 59 #[.pointer (some ⟨g, 0, none⟩), .int .i64 id, .slice A b.length c] W fun e w' => ∃ A' c' ps', e = .returned (.tuple #[.slice A' rows.length c', .int .i64 err]) ∧ Kd.S (Kd.slice 5 (Kd.int .u8)) 22 w' W.heap.size (fun k => ¬ foot g p ps' k) (.slice A' rows.length c') rows ∧ TabGo W0 W w' g p 124 47 49 most ps S' ps' := by
  have h1 := rtfeed_calls W0 W g p most ps h (by rw [ab_len hS]; exact hl) id A c b hC hcc hb (hB.asks ps hS _ hn)
  rw [hS, he] at h1
  refine h1.mono ?_
  rintro e w' ⟨vl, ps', rfl, hs, ht⟩
  obtain ⟨A', c', ev⟩ := Kd.S_slice hs
  subst ev
  exact ⟨A', c', ps', rfl, hs, ht⟩
/-- As many payloads as bytes, at most. -/
theorem feedS_rows (m : Nat) (S : List (Option (List Int × Bool))) (n : Nat) (hB : SB S n) (id : Int) (b : List Int) (hb : Bytes b) (hn : n + b.length ≤ 1000000) : (feedS m S id b).1.length ≤ 1000000000 := by
  cases hv : isv S id with
  | false => rw [feedS_no _ _ _ _ hv]; simp
  | true =>
    obtain ⟨i, x, rfl, hi, hx⟩ := isv_some S id hv
    obtain ⟨wt, off⟩ := x
    rw [feedS_yes m S i b wt off hx]
    have h1 := tw_le S i _ hx
    have h2 := hB.2
    have h3 := hB.1 i _ hx
    simp only [wl] at h1
    have h := (allv_len m (wt ++ b).length (wt ++ b) (Bytes.append h3 hb)).1
    rw [List.length_append] at h
    unfold feedv
    split
    · simp
    · split <;> (simp only [List.length_append] at *; omega)
end Go.Proofs.Ytnhblhhkjnmkkaa.Q
