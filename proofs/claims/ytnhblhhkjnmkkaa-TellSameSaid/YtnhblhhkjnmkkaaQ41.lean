/- Printed by this session's own program out of the translation: each function as a plain Lean function, and its contract. -/
import Derived.Test.YtnhblhhkjnmkkaaQ0
import Derived.Test.YtnhblhhkjnmkkaaQ5
import Derived.Test.YtnhblhhkjnmkkaaQ6
import Derived.Test.YtnhblhhkjnmkkaaQ15
import Derived.Test.YtnhblhhkjnmkkaaQ38
namespace Go.Proofs.Ytnhblhhkjnmkkaa.Q
open Go.RowKit Go.Proofs.YtnhblhhkjnmkkaaW.PrintWords Go.Proofs.YtnhblhhkjnmkkaaW.PrintLast Go.Proofs.YtnhblhhkjnmkkaaW.PrintMore
attribute [local go_sem] max2_int min2_int max_two min_two max_three min_three max_four min_four   -- for this text's walks alone
set_option linter.unusedVariables false
set_option linter.unusedSimpArgs false

attribute [local go_sem high] eqA152 eqA154
/-! ### turncockref1_SameStatuses: function 133 -/
def turncockref1_SameStatuses.l0 : Nat → List (S154) → List (S154) → Int → Option (Bool)
  | 0, _, _, _ => none
  | k + 1, x0, x1, x5 => if x5 < (x0.length : Int) then (if 0 ≤ x5 then (if x5 < (x1.length : Int) then (if (!(((rd_T154 x0 x5).f0) == ((rd_T154 x1 x5).f0)) || (!(((rd_T154 x0 x5).f1) == ((rd_T154 x1 x5).f1)) || (!(((rd_T154 x0 x5).f2) == ((rd_T154 x1 x5).f2)) || (!(((rd_T154 x0 x5).f3) == ((rd_T154 x1 x5).f3)) || (!(((rd_T154 x0 x5).f4) == ((rd_T154 x1 x5).f4))))))) = true then (some false) else (turncockref1_SameStatuses.l0 k x0 x1 (wrap64 (x5 + 1)))) else (none)) else (none)) else (some true)
def turncockref1_SameStatuses.f (k : Nat) (l0 : List (S154)) (l1 : List (S154)) : Option (Bool) := if (l0.length : Int) = (l1.length : Int) then (turncockref1_SameStatuses.l0 k l0 l1 0) else (some false)
theorem turncockref1_SameStatuses.mono_l : ∀ k, (∀ y0 y1 y2, LeO (turncockref1_SameStatuses.l0 k y0 y1 y2) (turncockref1_SameStatuses.l0 (k + 1) y0 y1 y2))
  | 0 => fun _ _ _ r h => by simp [turncockref1_SameStatuses.l0] at h
  | k + 1 => by
    have ih0 := turncockref1_SameStatuses.mono_l k
    · intro y0 y1 y2
      unfold turncockref1_SameStatuses.l0
      repeat' first
      | (with_reducible exact ih0 _ _ _)
      | (with_reducible exact LeO.refl _)
      | (with_reducible exact LeO.none _)
      | (with_reducible refine LeO.ite ?_ ?_)
      | (with_reducible refine LeO.bind ?_ (fun _ => ?_))
      | exact ih0 _ _ _
      | exact LeO.none _
      | refine LeO.ite ?_ ?_
      | refine LeO.bind ?_ (fun _ => ?_)
theorem turncockref1_SameStatuses.mono : ∀ a0 a1 k, LeO (turncockref1_SameStatuses.f k a0 a1) (turncockref1_SameStatuses.f (k + 1) a0 a1) := by
  intro a0 a1 k
  have ih0 := turncockref1_SameStatuses.mono_l k
  unfold turncockref1_SameStatuses.f
  repeat' first
      | (with_reducible exact ih0 _ _ _)
      | (with_reducible exact LeO.refl _)
      | (with_reducible exact LeO.none _)
      | (with_reducible refine LeO.ite ?_ ?_)
      | (with_reducible refine LeO.bind ?_ (fun _ => ?_))
      | exact ih0 _ _ _
      | exact LeO.none _
      | refine LeO.ite ?_ ?_
      | refine LeO.bind ?_ (fun _ => ?_)
set_option maxHeartbeats 8000000 in
set_option maxRecDepth 100000 in
theorem turncockref1_SameStatuses.calls (k : Nat) (A0 : Option Addr) (c0 : Nat) (l0 : List (S154)) (A1 : Option Addr) (c1 : Nat) (l1 : List (S154)) (r : Bool) (w : World) (hr0 : Kd.C k154 w A0 l0.length l0) (hc0 : l0.length ≤ c0) (hr1 : Kd.C k154 w A1 l1.length l1) (hc1 : l1.length ≤ c1) (h : turncockref1_SameStatuses.f k l0 l1 = some r) :
    Calls Try.prog 133 #[.slice A0 l0.length c0, .slice A1 l1.length c1] w fun e w' => e = .returned (.bool r) ∧ Drawn0 w w' := by
  have hu154 := Try.underlying154
  have HR0 := Aside0.mk hr0
  have HC0 := Aside0.mk hc0
  clear hr0 hc0
  have HR1 := Aside0.mk hr1
  have HC1 := Aside0.mk hc1
  clear hr1 hc1
  have H : (if (l0.length : Int) = (l1.length : Int) then (turncockref1_SameStatuses.l0 k l0 l1 0) else (some false)) = some r := h
  clear h
  by_cases c3 : (l0.length : Int) = (l1.length : Int)
  · rw [if_pos c3] at H
    have c3b0 : ((l0.length : Int) == (l1.length : Int)) = true := beq_iff_eq.mpr c3
    have c3b1 : ((l0.length : Int) != (l1.length : Int)) = false := bne_eq_false_iff_eq.mpr c3
    have c3b2 : (l0.length == l1.length) = true := by first | simpa using c3 | (simp at c3 ⊢; omega)
    clear c3
    have H' := Aside0.mk H
    clear H
    go_enter Try.func133, Try.ntmps133
    go_wp2
    repeat (go_quiet (fail); try go_wp2)
    go_loopg [5] k (fun kq v5 w' => ∃ (x5_1 : Int), v5 = .int .i64 x5_1 ∧ Aside0 (turncockref1_SameStatuses.l0 kq l0 l1 x5_1 = some r) ∧ Aside0 (kq ≤ k) ∧ Drawn0 w w')
    case atStart => exact ⟨(0), (by first | rfl | (simp; done) | (simp [*]; done)), H', ⟨Nat.le_refl _⟩, by repeat (first | exact Drawn0.refl _ | apply Drawn0.step)⟩
    case round =>
      clear H'
      try clear c1
      try clear p2
      try clear c3
      try clear c3b0
      try clear c3b1
      try clear c3b2
      obtain ⟨x5_1, rfl, HA, HK1, ⟨m1, rfl⟩⟩ := hrel
      cases gk with
      | zero => exact absurd HA.out (by simp [turncockref1_SameStatuses.l0])
      | succ k1 =>
        have H := HA.out
        clear HA
        simp only [turncockref1_SameStatuses.l0] at H
        by_cases c4 : x5_1 < (l0.length : Int)
        · rw [if_pos c4] at H
          have c4b0 : decide (x5_1 < (l0.length : Int)) = true := decide_eq_true c4
          clear c4
          by_cases c5 : 0 ≤ x5_1
          · rw [if_pos c5] at H
            have c5b0 : decide (0 ≤ x5_1) = true := decide_eq_true c5
            clear c5
            by_cases c6 : x5_1 < (l1.length : Int)
            · rw [if_pos c6] at H
              have c6b0 : decide (x5_1 < (l1.length : Int)) = true := decide_eq_true c6
              clear c6
              by_cases c7 : (!(((rd_T154 l0 x5_1).f0) == ((rd_T154 l1 x5_1).f0)) || (!(((rd_T154 l0 x5_1).f1) == ((rd_T154 l1 x5_1).f1)) || (!(((rd_T154 l0 x5_1).f2) == ((rd_T154 l1 x5_1).f2)) || (!(((rd_T154 l0 x5_1).f3) == ((rd_T154 l1 x5_1).f3)) || (!(((rd_T154 l0 x5_1).f4) == ((rd_T154 l1 x5_1).f4))))))) = true
              · rw [if_pos c7] at H
                have c7b0 : (!(((rd_T154 l0 x5_1).f0) == ((rd_T154 l1 x5_1).f0)) || (!(((rd_T154 l0 x5_1).f1) == ((rd_T154 l1 x5_1).f1)) || (!(((rd_T154 l0 x5_1).f2) == ((rd_T154 l1 x5_1).f2)) || (!(((rd_T154 l0 x5_1).f3) == ((rd_T154 l1 x5_1).f3)) || (!(((rd_T154 l0 x5_1).f4) == ((rd_T154 l1 x5_1).f4))))))) = true := c7
                clear c7
                obtain rfl := Option.some.inj H
                have p689 : 0 ≤ (x5_1 : Int) := of_decide_eq_true (by first | (with_reducible assumption) | assumption)
                have q689 : x5_1 < (l0.length : Int) := of_decide_eq_true (by first | (with_reducible assumption) | assumption)
                obtain ⟨ad689, e689, hx689_0, hx689_1, hx689_2, hx689_3, hx689_4⟩ := at_T154 HR0.out x5_1 p689 q689
                cases e689
                replace p689 := eq_true p689
                replace q689 := eq_true q689
                have p690 : 0 ≤ (x5_1 : Int) := of_decide_eq_true (by first | (with_reducible assumption) | assumption)
                have q690 : x5_1 < (l1.length : Int) := of_decide_eq_true (by first | (with_reducible assumption) | assumption)
                obtain ⟨ad690, e690, hx690_0, hx690_1, hx690_2, hx690_3, hx690_4⟩ := at_T154 HR1.out x5_1 p690 q690
                cases e690
                replace p690 := eq_true p690
                replace q690 := eq_true q690
                go_wp2
                repeat (go_quiet (fail); try go_wp2)
                go_ret
                exact ⟨by first | rfl | (simp; done) | (simp [*]; done), by repeat (first | exact Drawn0.refl _ | apply Drawn0.step)⟩
              · rw [if_neg c7] at H
                have c7b0 : (!(((rd_T154 l0 x5_1).f0) == ((rd_T154 l1 x5_1).f0)) || (!(((rd_T154 l0 x5_1).f1) == ((rd_T154 l1 x5_1).f1)) || (!(((rd_T154 l0 x5_1).f2) == ((rd_T154 l1 x5_1).f2)) || (!(((rd_T154 l0 x5_1).f3) == ((rd_T154 l1 x5_1).f3)) || (!(((rd_T154 l0 x5_1).f4) == ((rd_T154 l1 x5_1).f4))))))) = false := by simpa using c7
                clear c7
                have H' := Aside0.mk H
                clear H
                have p689 : 0 ≤ (x5_1 : Int) := of_decide_eq_true (by first | (with_reducible assumption) | assumption)
                have q689 : x5_1 < (l0.length : Int) := of_decide_eq_true (by first | (with_reducible assumption) | assumption)
                obtain ⟨ad689, e689, hx689_0, hx689_1, hx689_2, hx689_3, hx689_4⟩ := at_T154 HR0.out x5_1 p689 q689
                cases e689
                replace p689 := eq_true p689
                replace q689 := eq_true q689
                have p690 : 0 ≤ (x5_1 : Int) := of_decide_eq_true (by first | (with_reducible assumption) | assumption)
                have q690 : x5_1 < (l1.length : Int) := of_decide_eq_true (by first | (with_reducible assumption) | assumption)
                obtain ⟨ad690, e690, hx690_0, hx690_1, hx690_2, hx690_3, hx690_4⟩ := at_T154 HR1.out x5_1 p690 q690
                cases e690
                replace p690 := eq_true p690
                replace q690 := eq_true q690
                go_wp2
                repeat (go_quiet (fail); try go_wp2)
                go_roundg k1
                case measure => have := HK1.out; omega
                case rel => exact ⟨(wrap64 (x5_1 + 1)), (by first | rfl | (simp; done) | (simp [*]; done)), H', ⟨by have := HK1.out; omega⟩, by repeat (first | exact Drawn0.refl _ | apply Drawn0.step)⟩
            · rw [if_neg c6] at H
              exact absurd H (by simp)
          · rw [if_neg c5] at H
            exact absurd H (by simp)
        · rw [if_neg c4] at H
          have c4b0 : decide (x5_1 < (l0.length : Int)) = false := decide_eq_false c4
          clear c4
          obtain rfl := Option.some.inj H
          go_wp2
          repeat (go_quiet (fail); try go_wp2)
          go_ret
          exact ⟨by first | rfl | (simp; done) | (simp [*]; done), by repeat (first | exact Drawn0.refl _ | apply Drawn0.step)⟩
  · rw [if_neg c3] at H
    have c3b0 : ((l0.length : Int) == (l1.length : Int)) = false := beq_eq_false_iff_ne.mpr c3
    have c3b1 : ((l0.length : Int) != (l1.length : Int)) = true := bne_iff_ne.mpr c3
    have c3b2 : (l0.length == l1.length) = false := by first | simpa using c3 | (simp at c3 ⊢; omega)
    obtain rfl := Option.some.inj H
    go_enter Try.func133, Try.ntmps133
    go_wp2
    repeat (go_quiet (fail); try go_wp2)
    go_ret
    exact ⟨by first | rfl | (simp; done) | (simp [*]; done), by repeat (first | exact Drawn0.refl _ | apply Drawn0.step)⟩

/-! ### turncockref1_SameHeads: function 134 -/
def turncockref1_SameHeads.l0 : Nat → List (S152) → List (S152) → Int → Option (Bool)
  | 0, _, _, _ => none
  | k + 1, x0, x1, x5 => if x5 < (x0.length : Int) then (if 0 ≤ x5 then (if x5 < (x1.length : Int) then (if (!((((rd_T152 x0 x5).f0).toList) == (((rd_T152 x1 x5).f0).toList)) || (!((((rd_T152 x0 x5).f1).toList) == (((rd_T152 x1 x5).f1).toList)))) = true then (some false) else (turncockref1_SameHeads.l0 k x0 x1 (wrap64 (x5 + 1)))) else (none)) else (none)) else (some true)
def turncockref1_SameHeads.f (k : Nat) (l0 : List (S152)) (l1 : List (S152)) : Option (Bool) := if (l0.length : Int) = (l1.length : Int) then (turncockref1_SameHeads.l0 k l0 l1 0) else (some false)
theorem turncockref1_SameHeads.mono_l : ∀ k, (∀ y0 y1 y2, LeO (turncockref1_SameHeads.l0 k y0 y1 y2) (turncockref1_SameHeads.l0 (k + 1) y0 y1 y2))
  | 0 => fun _ _ _ r h => by simp [turncockref1_SameHeads.l0] at h
  | k + 1 => by
    have ih0 := turncockref1_SameHeads.mono_l k
    · intro y0 y1 y2
      unfold turncockref1_SameHeads.l0
      repeat' first
      | (with_reducible exact ih0 _ _ _)
      | (with_reducible exact LeO.refl _)
      | (with_reducible exact LeO.none _)
      | (with_reducible refine LeO.ite ?_ ?_)
      | (with_reducible refine LeO.bind ?_ (fun _ => ?_))
      | exact ih0 _ _ _
      | exact LeO.none _
      | refine LeO.ite ?_ ?_
      | refine LeO.bind ?_ (fun _ => ?_)
theorem turncockref1_SameHeads.mono : ∀ a0 a1 k, LeO (turncockref1_SameHeads.f k a0 a1) (turncockref1_SameHeads.f (k + 1) a0 a1) := by
  intro a0 a1 k
  have ih0 := turncockref1_SameHeads.mono_l k
  unfold turncockref1_SameHeads.f
  repeat' first
      | (with_reducible exact ih0 _ _ _)
      | (with_reducible exact LeO.refl _)
      | (with_reducible exact LeO.none _)
      | (with_reducible refine LeO.ite ?_ ?_)
      | (with_reducible refine LeO.bind ?_ (fun _ => ?_))
      | exact ih0 _ _ _
      | exact LeO.none _
      | refine LeO.ite ?_ ?_
      | refine LeO.bind ?_ (fun _ => ?_)
set_option maxHeartbeats 8000000 in
set_option maxRecDepth 100000 in
theorem turncockref1_SameHeads.calls (k : Nat) (A0 : Option Addr) (c0 : Nat) (l0 : List (S152)) (A1 : Option Addr) (c1 : Nat) (l1 : List (S152)) (r : Bool) (w : World) (hr0 : Kd.C k152 w A0 l0.length l0) (hc0 : l0.length ≤ c0) (hr1 : Kd.C k152 w A1 l1.length l1) (hc1 : l1.length ≤ c1) (h : turncockref1_SameHeads.f k l0 l1 = some r) :
    Calls Try.prog 134 #[.slice A0 l0.length c0, .slice A1 l1.length c1] w fun e w' => e = .returned (.bool r) ∧ Drawn0 w w' := by
  have hu152 := Try.underlying152
  have HR0 := Aside0.mk hr0
  have HC0 := Aside0.mk hc0
  clear hr0 hc0
  have HR1 := Aside0.mk hr1
  have HC1 := Aside0.mk hc1
  clear hr1 hc1
  have H : (if (l0.length : Int) = (l1.length : Int) then (turncockref1_SameHeads.l0 k l0 l1 0) else (some false)) = some r := h
  clear h
  by_cases c3 : (l0.length : Int) = (l1.length : Int)
  · rw [if_pos c3] at H
    have c3b0 : ((l0.length : Int) == (l1.length : Int)) = true := beq_iff_eq.mpr c3
    have c3b1 : ((l0.length : Int) != (l1.length : Int)) = false := bne_eq_false_iff_eq.mpr c3
    have c3b2 : (l0.length == l1.length) = true := by first | simpa using c3 | (simp at c3 ⊢; omega)
    clear c3
    have H' := Aside0.mk H
    clear H
    go_enter Try.func134, Try.ntmps134
    go_wp2
    repeat (go_quiet (fail); try go_wp2)
    go_loopg [5] k (fun kq v5 w' => ∃ (x5_1 : Int), v5 = .int .i64 x5_1 ∧ Aside0 (turncockref1_SameHeads.l0 kq l0 l1 x5_1 = some r) ∧ Aside0 (kq ≤ k) ∧ Drawn0 w w')
    case atStart => exact ⟨(0), (by first | rfl | (simp; done) | (simp [*]; done)), H', ⟨Nat.le_refl _⟩, by repeat (first | exact Drawn0.refl _ | apply Drawn0.step)⟩
    case round =>
      clear H'
      try clear c1
      try clear p2
      try clear c3
      try clear c3b0
      try clear c3b1
      try clear c3b2
      obtain ⟨x5_1, rfl, HA, HK1, ⟨m1, rfl⟩⟩ := hrel
      cases gk with
      | zero => exact absurd HA.out (by simp [turncockref1_SameHeads.l0])
      | succ k1 =>
        have H := HA.out
        clear HA
        simp only [turncockref1_SameHeads.l0] at H
        by_cases c4 : x5_1 < (l0.length : Int)
        · rw [if_pos c4] at H
          have c4b0 : decide (x5_1 < (l0.length : Int)) = true := decide_eq_true c4
          clear c4
          by_cases c5 : 0 ≤ x5_1
          · rw [if_pos c5] at H
            have c5b0 : decide (0 ≤ x5_1) = true := decide_eq_true c5
            clear c5
            by_cases c6 : x5_1 < (l1.length : Int)
            · rw [if_pos c6] at H
              have c6b0 : decide (x5_1 < (l1.length : Int)) = true := decide_eq_true c6
              clear c6
              by_cases c7 : (!((((rd_T152 l0 x5_1).f0).toList) == (((rd_T152 l1 x5_1).f0).toList)) || (!((((rd_T152 l0 x5_1).f1).toList) == (((rd_T152 l1 x5_1).f1).toList)))) = true
              · rw [if_pos c7] at H
                have c7b0 : (!((((rd_T152 l0 x5_1).f0).toList) == (((rd_T152 l1 x5_1).f0).toList)) || (!((((rd_T152 l0 x5_1).f1).toList) == (((rd_T152 l1 x5_1).f1).toList)))) = true := c7
                clear c7
                obtain rfl := Option.some.inj H
                have p691 : 0 ≤ (x5_1 : Int) := of_decide_eq_true (by first | (with_reducible assumption) | assumption)
                have q691 : x5_1 < (l0.length : Int) := of_decide_eq_true (by first | (with_reducible assumption) | assumption)
                obtain ⟨ad691, e691, hx691_0, hx691_1⟩ := at_T152 HR0.out x5_1 p691 q691
                cases e691
                replace p691 := eq_true p691
                replace q691 := eq_true q691
                have p692 : 0 ≤ (x5_1 : Int) := of_decide_eq_true (by first | (with_reducible assumption) | assumption)
                have q692 : x5_1 < (l1.length : Int) := of_decide_eq_true (by first | (with_reducible assumption) | assumption)
                obtain ⟨ad692, e692, hx692_0, hx692_1⟩ := at_T152 HR1.out x5_1 p692 q692
                cases e692
                replace p692 := eq_true p692
                replace q692 := eq_true q692
                go_wp2
                repeat (go_quiet (fail); try go_wp2)
                go_ret
                exact ⟨by first | rfl | (simp; done) | (simp [*]; done), by repeat (first | exact Drawn0.refl _ | apply Drawn0.step)⟩
              · rw [if_neg c7] at H
                have c7b0 : (!((((rd_T152 l0 x5_1).f0).toList) == (((rd_T152 l1 x5_1).f0).toList)) || (!((((rd_T152 l0 x5_1).f1).toList) == (((rd_T152 l1 x5_1).f1).toList)))) = false := by simpa using c7
                clear c7
                have H' := Aside0.mk H
                clear H
                have p691 : 0 ≤ (x5_1 : Int) := of_decide_eq_true (by first | (with_reducible assumption) | assumption)
                have q691 : x5_1 < (l0.length : Int) := of_decide_eq_true (by first | (with_reducible assumption) | assumption)
                obtain ⟨ad691, e691, hx691_0, hx691_1⟩ := at_T152 HR0.out x5_1 p691 q691
                cases e691
                replace p691 := eq_true p691
                replace q691 := eq_true q691
                have p692 : 0 ≤ (x5_1 : Int) := of_decide_eq_true (by first | (with_reducible assumption) | assumption)
                have q692 : x5_1 < (l1.length : Int) := of_decide_eq_true (by first | (with_reducible assumption) | assumption)
                obtain ⟨ad692, e692, hx692_0, hx692_1⟩ := at_T152 HR1.out x5_1 p692 q692
                cases e692
                replace p692 := eq_true p692
                replace q692 := eq_true q692
                go_wp2
                repeat (go_quiet (fail); try go_wp2)
                go_roundg k1
                case measure => have := HK1.out; omega
                case rel => exact ⟨(wrap64 (x5_1 + 1)), (by first | rfl | (simp; done) | (simp [*]; done)), H', ⟨by have := HK1.out; omega⟩, by repeat (first | exact Drawn0.refl _ | apply Drawn0.step)⟩
            · rw [if_neg c6] at H
              exact absurd H (by simp)
          · rw [if_neg c5] at H
            exact absurd H (by simp)
        · rw [if_neg c4] at H
          have c4b0 : decide (x5_1 < (l0.length : Int)) = false := decide_eq_false c4
          clear c4
          obtain rfl := Option.some.inj H
          go_wp2
          repeat (go_quiet (fail); try go_wp2)
          go_ret
          exact ⟨by first | rfl | (simp; done) | (simp [*]; done), by repeat (first | exact Drawn0.refl _ | apply Drawn0.step)⟩
  · rw [if_neg c3] at H
    have c3b0 : ((l0.length : Int) == (l1.length : Int)) = false := beq_eq_false_iff_ne.mpr c3
    have c3b1 : ((l0.length : Int) != (l1.length : Int)) = true := bne_iff_ne.mpr c3
    have c3b2 : (l0.length == l1.length) = false := by first | simpa using c3 | (simp at c3 ⊢; omega)
    obtain rfl := Option.some.inj H
    go_enter Try.func134, Try.ntmps134
    go_wp2
    repeat (go_quiet (fail); try go_wp2)
    go_ret
    exact ⟨by first | rfl | (simp; done) | (simp [*]; done), by repeat (first | exact Drawn0.refl _ | apply Drawn0.step)⟩

/-! ### turncockref1_SameTell: function 94 -/
def turncockref1_SameTell.f (k : Nat) (a0_0 : Int) (a0_1 : Int) (a0_2 : Bool) (l0_3 : List (S154)) (l0_4 : List (S152)) (a1_0 : Int) (a1_1 : Int) (a1_2 : Bool) (l1_3 : List (S154)) (l1_4 : List (S152)) : Option (Bool) := if a0_0 = a1_0 then (if a0_1 = a1_1 then (if (a0_2 == a1_2) = true then ((turncockref1_SameStatuses.f k l0_3 l1_3).bind fun t695 => (if t695 = true then ((turncockref1_SameHeads.f k l0_4 l1_4).bind fun t696 => (some t696)) else (some false))) else (some false)) else (some false)) else (some false)
theorem turncockref1_SameTell.mono : ∀ a0 a1 a2 a3 a4 a5 a6 a7 a8 a9 k, LeO (turncockref1_SameTell.f k a0 a1 a2 a3 a4 a5 a6 a7 a8 a9) (turncockref1_SameTell.f (k + 1) a0 a1 a2 a3 a4 a5 a6 a7 a8 a9) := by
  intro a0 a1 a2 a3 a4 a5 a6 a7 a8 a9 k
  unfold turncockref1_SameTell.f
  repeat' first
      | (with_reducible exact turncockref1_SameHeads.mono _ _ _)
      | (with_reducible exact turncockref1_SameStatuses.mono _ _ _)
      | (with_reducible exact LeO.refl _)
      | (with_reducible exact LeO.none _)
      | (with_reducible refine LeO.ite ?_ ?_)
      | (with_reducible refine LeO.bind ?_ (fun _ => ?_))
      | exact turncockref1_SameHeads.mono _ _ _
      | exact turncockref1_SameStatuses.mono _ _ _
      | exact LeO.none _
      | refine LeO.ite ?_ ?_
      | refine LeO.bind ?_ (fun _ => ?_)
set_option maxHeartbeats 8000000 in
set_option maxRecDepth 100000 in
theorem turncockref1_SameTell.calls (k : Nat) (a0_0 : Int) (a0_1 : Int) (a0_2 : Bool) (A0_3 : Option Addr) (c0_3 : Nat) (l0_3 : List (S154)) (A0_4 : Option Addr) (c0_4 : Nat) (l0_4 : List (S152)) (a1_0 : Int) (a1_1 : Int) (a1_2 : Bool) (A1_3 : Option Addr) (c1_3 : Nat) (l1_3 : List (S154)) (A1_4 : Option Addr) (c1_4 : Nat) (l1_4 : List (S152)) (r : Bool) (w : World) (hr0_3 : Kd.C k154 w A0_3 l0_3.length l0_3) (hc0_3 : l0_3.length ≤ c0_3) (hr0_4 : Kd.C k152 w A0_4 l0_4.length l0_4) (hc0_4 : l0_4.length ≤ c0_4) (hr1_3 : Kd.C k154 w A1_3 l1_3.length l1_3) (hc1_3 : l1_3.length ≤ c1_3) (hr1_4 : Kd.C k152 w A1_4 l1_4.length l1_4) (hc1_4 : l1_4.length ≤ c1_4) (h : turncockref1_SameTell.f k a0_0 a0_1 a0_2 l0_3 l0_4 a1_0 a1_1 a1_2 l1_3 l1_4 = some r) :
    Calls Try.prog 94 #[.agg #[.int .i64 a0_0, .int .i64 a0_1, .bool a0_2, .slice A0_3 l0_3.length c0_3, .slice A0_4 l0_4.length c0_4], .agg #[.int .i64 a1_0, .int .i64 a1_1, .bool a1_2, .slice A1_3 l1_3.length c1_3, .slice A1_4 l1_4.length c1_4]] w fun e w' => e = .returned (.bool r) ∧ Below w.heap.size w w' := by
  have hu108 := Try.underlying108
  have HR0_3 := Aside0.mk hr0_3
  have HC0_3 := Aside0.mk hc0_3
  clear hr0_3 hc0_3
  have HR0_4 := Aside0.mk hr0_4
  have HC0_4 := Aside0.mk hc0_4
  clear hr0_4 hc0_4
  have HR1_3 := Aside0.mk hr1_3
  have HC1_3 := Aside0.mk hc1_3
  clear hr1_3 hc1_3
  have HR1_4 := Aside0.mk hr1_4
  have HC1_4 := Aside0.mk hc1_4
  clear hr1_4 hc1_4
  have HB := Aside0.mk (Below.refl w.heap.size w)
  have H : (if a0_0 = a1_0 then (if a0_1 = a1_1 then (if (a0_2 == a1_2) = true then ((turncockref1_SameStatuses.f k l0_3 l1_3).bind fun t695 => (if t695 = true then ((turncockref1_SameHeads.f k l0_4 l1_4).bind fun t696 => (some t696)) else (some false))) else (some false)) else (some false)) else (some false)) = some r := h
  clear h
  by_cases c3 : a0_0 = a1_0
  · rw [if_pos c3] at H
    have c3b0 : (a0_0 == a1_0) = true := beq_iff_eq.mpr c3
    have c3b1 : (a0_0 != a1_0) = false := bne_eq_false_iff_eq.mpr c3
    clear c3
    by_cases c4 : a0_1 = a1_1
    · rw [if_pos c4] at H
      have c4b0 : (a0_1 == a1_1) = true := beq_iff_eq.mpr c4
      have c4b1 : (a0_1 != a1_1) = false := bne_eq_false_iff_eq.mpr c4
      clear c4
      by_cases c5 : (a0_2 == a1_2) = true
      · rw [if_pos c5] at H
        have c5b0 : (a0_2 == a1_2) = true := c5
        (try (have c5b1 : decide (a0_2 = a1_2) = true := by simpa using c5))
        (try (have c5b2 : (a0_2 == a1_2) = true := by simpa using c5))
        clear c5
        replace H := Option.bind_eq_some_iff.mp H
        obtain ⟨t695, A60, H⟩ := H
        replace H : (if t695 = true then ((turncockref1_SameHeads.f k l0_4 l1_4).bind fun t696 => (some t696)) else (some false)) = some r := H
        have A6 := Aside0.mk A60
        clear A60
        by_cases c7 : t695 = true
        · subst c7
          have H1 : ((turncockref1_SameHeads.f k l0_4 l1_4).bind fun t696 => (some t696)) = some r := by rw [if_pos rfl] at H; exact H
          clear H
          have H := H1
          clear H1
          replace H := Option.bind_eq_some_iff.mp H
          obtain ⟨t696, A80, H⟩ := H
          replace H : (some t696) = some r := H
          have A8 := Aside0.mk A80
          clear A80
          obtain rfl := Option.some.inj H
          go_enter Try.func94, Try.ntmps94
          go_wp2_with (first | ((with_reducible refine gate_dst (N := 2) rfl ?_); refine box_event ?hg (N := 2) ?hd (cs := #[.int .i64 a0_0, .int .i64 a0_1, .bool a0_2, .slice A0_3 l0_3.length c0_3, .slice A0_4 l0_4.length c0_4]) (t := 108) ?hr ?_; (case hd => rfl); (case hg => rfl); (case hr => first | (go_simp; done) | (go_simp; rfl)); intro gb693 hg w9 hbox hb; have n0_ := Aside0.mk (below_step (by repeat (first | (with_reducible first | exact HB.out | apply below_alloc | apply pw_below_drewN | apply below_drew1) | exact HB.out)) hb); have n1_ := Aside0.mk (hbox); have n2_ := Aside0.mk ((by rw [hg]; exact (below_size (by repeat (first | (with_reducible first | exact HB.out | apply below_alloc | apply pw_below_drewN | apply below_drew1) | exact HB.out))) : w.heap.size ≤ gb693)); have n3_ := Aside0.mk ((by rw [hg]; exact (below_size (by repeat (first | (with_reducible first | exact HB.out | apply below_alloc | apply pw_below_drewN | apply below_drew1) | exact HB.out))) : w.heap.size ≤ gb693)); clear HB; have HB := n0_; have BK693 := n1_; have GW693 := n2_; have GE693 := n3_; clear n0_ n1_ n2_ n3_; clear hb hbox hg) | ((with_reducible refine gate_dst (N := 3) rfl ?_); refine box_event ?hg (N := 3) ?hd (cs := #[.int .i64 a1_0, .int .i64 a1_1, .bool a1_2, .slice A1_3 l1_3.length c1_3, .slice A1_4 l1_4.length c1_4]) (t := 108) ?hr ?_; (case hd => rfl); (case hg => rfl); (case hr => first | (go_simp; done) | (go_simp; rfl)); intro gb694 hg w10 hbox hb; have n0_ := Aside0.mk (blk_below (g := gb693) (o := .cells #[.int .i64 a0_0, .int .i64 a0_1, .bool a0_2, .slice A0_3 l0_3.length c0_3, .slice A0_4 l0_4.length c0_4] 108 (0, 0)) (by (with_reducible repeat (first | refine blk_drewN ?_ _ | refine blk_drew ?_ | refine blk_alloc ?_ _)); exact BK693.out) hb); have n1_ := Aside0.mk (below_step (by repeat (first | (with_reducible first | exact HB.out | apply below_alloc | apply pw_below_drewN | apply below_drew1 | refine below_set ?_ GE693.out) | exact HB.out)) hb); have n2_ := Aside0.mk (hbox); have n3_ := Aside0.mk ((by rw [hg]; exact (below_size (by repeat (first | (with_reducible first | exact HB.out | apply below_alloc | apply pw_below_drewN | apply below_drew1 | refine below_set ?_ GE693.out) | exact HB.out))) : w.heap.size ≤ gb694)); have n4_ := Aside0.mk ((by rw [hg]; exact (below_size (by repeat (first | (with_reducible first | exact HB.out | apply below_alloc | apply pw_below_drewN | apply below_drew1 | refine below_set ?_ GE693.out) | exact HB.out))) : w.heap.size ≤ gb694)); have n5_ := Aside0.mk ((by rw [hg]; exact Nat.ne_of_lt (blk_lt (g := gb693) (o := .cells #[.int .i64 a0_0, .int .i64 a0_1, .bool a0_2, .slice A0_3 l0_3.length c0_3, .slice A0_4 l0_4.length c0_4] 108 (0, 0)) (by (with_reducible repeat (first | refine blk_drewN ?_ _ | refine blk_drew ?_ | refine blk_alloc ?_ _)); exact BK693.out)) : gb693 ≠ gb694)); have n6_ := Aside0.mk ((by rw [hg]; exact Nat.ne_of_gt (blk_lt (g := gb693) (o := .cells #[.int .i64 a0_0, .int .i64 a0_1, .bool a0_2, .slice A0_3 l0_3.length c0_3, .slice A0_4 l0_4.length c0_4] 108 (0, 0)) (by (with_reducible repeat (first | refine blk_drewN ?_ _ | refine blk_drew ?_ | refine blk_alloc ?_ _)); exact BK693.out)) : gb694 ≠ gb693)); clear BK693; clear HB; have BK693 := n0_; have HB := n1_; have BK694 := n2_; have GW694 := n3_; have GE694 := n4_; have NB693_694 := n5_; have NB694_693 := n6_; clear n0_ n1_ n2_ n3_ n4_ n5_ n6_; clear hb hbox hg; have hnb11 := NB693_694.out; have hnc11 := NB694_693.out; have hcz12_0 : w10.cell? ⟨gb693, 0, none⟩ = some (.int .i64 a0_0) := (blk_cell BK693.out 0).trans rfl; have hcz12_1 : w10.cell? ⟨gb693, 1, none⟩ = some (.int .i64 a0_1) := (blk_cell BK693.out 1).trans rfl; have hcz12_2 : w10.cell? ⟨gb693, 2, none⟩ = some (.bool a0_2) := (blk_cell BK693.out 2).trans rfl; have hcz12_3 : w10.cell? ⟨gb693, 3, none⟩ = some (.slice A0_3 l0_3.length c0_3) := (blk_cell BK693.out 3).trans rfl; have hcz12_4 : w10.cell? ⟨gb693, 4, none⟩ = some (.slice A0_4 l0_4.length c0_4) := (blk_cell BK693.out 4).trans rfl; have hfz12_0 := blk_frozen BK693.out 0; have hfz12_1 := blk_frozen BK693.out 1; have hfz12_2 := blk_frozen BK693.out 2; have hfz12_3 := blk_frozen BK693.out 3; have hfz12_4 := blk_frozen BK693.out 4; have hcz13_0 : w10.cell? ⟨gb694, 0, none⟩ = some (.int .i64 a1_0) := (blk_cell BK694.out 0).trans rfl; have hcz13_1 : w10.cell? ⟨gb694, 1, none⟩ = some (.int .i64 a1_1) := (blk_cell BK694.out 1).trans rfl; have hcz13_2 : w10.cell? ⟨gb694, 2, none⟩ = some (.bool a1_2) := (blk_cell BK694.out 2).trans rfl; have hcz13_3 : w10.cell? ⟨gb694, 3, none⟩ = some (.slice A1_3 l1_3.length c1_3) := (blk_cell BK694.out 3).trans rfl; have hcz13_4 : w10.cell? ⟨gb694, 4, none⟩ = some (.slice A1_4 l1_4.length c1_4) := (blk_cell BK694.out 4).trans rfl; have hfz13_0 := blk_frozen BK694.out 0; have hfz13_1 := blk_frozen BK694.out 1; have hfz13_2 := blk_frozen BK694.out 2; have hfz13_3 := blk_frozen BK694.out 3; have hfz13_4 := blk_frozen BK694.out 4) | (go_at_call 133; (with_reducible refine (turncockref1_SameStatuses.calls k _ _ l0_3 _ _ l1_3 true _ ?side1 ?side2 ?side3 ?side4 A6.out).mono ?_); (case side1 => repeat (first | exact (Kd.C_below HR0_3.out HB.out) | (with_reducible refine Kd.C_alloc ?_ _) | (with_reducible refine Kd.C_drewN ?_ _) | (with_reducible refine Kd.C_drew ?_))); (case side2 => exact HC0_3.out); (case side3 => repeat (first | exact (Kd.C_below HR1_3.out HB.out) | (with_reducible refine Kd.C_alloc ?_ _) | (with_reducible refine Kd.C_drewN ?_ _) | (with_reducible refine Kd.C_drew ?_))); (case side4 => exact HC1_3.out); rintro e w' ⟨rfl, ⟨nd, rfl⟩⟩) | (go_at_call 134; (with_reducible refine (turncockref1_SameHeads.calls k _ _ l0_4 _ _ l1_4 t696 _ ?side1 ?side2 ?side3 ?side4 A8.out).mono ?_); (case side1 => repeat (first | exact (Kd.C_below HR0_4.out (by repeat (first | (with_reducible first | exact HB.out | apply below_alloc | apply pw_below_drewN | apply below_drew1 | refine below_set ?_ GE693.out | refine below_set ?_ GE694.out) | exact HB.out))) | (with_reducible refine Kd.C_alloc ?_ _) | (with_reducible refine Kd.C_drewN ?_ _) | (with_reducible refine Kd.C_drew ?_))); (case side2 => exact HC0_4.out); (case side3 => repeat (first | exact (Kd.C_below HR1_4.out (by repeat (first | (with_reducible first | exact HB.out | apply below_alloc | apply pw_below_drewN | apply below_drew1 | refine below_set ?_ GE693.out | refine below_set ?_ GE694.out) | exact HB.out))) | (with_reducible refine Kd.C_alloc ?_ _) | (with_reducible refine Kd.C_drewN ?_ _) | (with_reducible refine Kd.C_drew ?_))); (case side4 => exact HC1_4.out); rintro e w' ⟨rfl, ⟨nd, rfl⟩⟩))
          go_ret
          exact ⟨by first | rfl | (simp [errW_none, errW_some] <;> rfl) | (simp [*, errW_none, errW_some] <;> rfl), by repeat (first | (with_reducible first | exact HB.out | apply below_alloc | apply pw_below_drewN | apply below_drew1 | refine below_set ?_ GE693.out | refine below_set ?_ GE694.out) | exact HB.out)⟩
        · replace c7 := Bool.eq_false_iff.mpr c7
          subst c7
          have H1 : (some false) = some r := by rw [if_neg (show ¬ (false = true) by decide)] at H; exact H
          clear H
          have H := H1
          clear H1
          obtain rfl := Option.some.inj H
          go_enter Try.func94, Try.ntmps94
          go_wp2_with (first | ((with_reducible refine gate_dst (N := 2) rfl ?_); refine box_event ?hg (N := 2) ?hd (cs := #[.int .i64 a0_0, .int .i64 a0_1, .bool a0_2, .slice A0_3 l0_3.length c0_3, .slice A0_4 l0_4.length c0_4]) (t := 108) ?hr ?_; (case hd => rfl); (case hg => rfl); (case hr => first | (go_simp; done) | (go_simp; rfl)); intro gb693 hg w14 hbox hb; have n0_ := Aside0.mk (below_step (by repeat (first | (with_reducible first | exact HB.out | apply below_alloc | apply pw_below_drewN | apply below_drew1) | exact HB.out)) hb); have n1_ := Aside0.mk (hbox); have n2_ := Aside0.mk ((by rw [hg]; exact (below_size (by repeat (first | (with_reducible first | exact HB.out | apply below_alloc | apply pw_below_drewN | apply below_drew1) | exact HB.out))) : w.heap.size ≤ gb693)); have n3_ := Aside0.mk ((by rw [hg]; exact (below_size (by repeat (first | (with_reducible first | exact HB.out | apply below_alloc | apply pw_below_drewN | apply below_drew1) | exact HB.out))) : w.heap.size ≤ gb693)); clear HB; have HB := n0_; have BK693 := n1_; have GW693 := n2_; have GE693 := n3_; clear n0_ n1_ n2_ n3_; clear hb hbox hg) | ((with_reducible refine gate_dst (N := 3) rfl ?_); refine box_event ?hg (N := 3) ?hd (cs := #[.int .i64 a1_0, .int .i64 a1_1, .bool a1_2, .slice A1_3 l1_3.length c1_3, .slice A1_4 l1_4.length c1_4]) (t := 108) ?hr ?_; (case hd => rfl); (case hg => rfl); (case hr => first | (go_simp; done) | (go_simp; rfl)); intro gb694 hg w15 hbox hb; have n0_ := Aside0.mk (blk_below (g := gb693) (o := .cells #[.int .i64 a0_0, .int .i64 a0_1, .bool a0_2, .slice A0_3 l0_3.length c0_3, .slice A0_4 l0_4.length c0_4] 108 (0, 0)) (by (with_reducible repeat (first | refine blk_drewN ?_ _ | refine blk_drew ?_ | refine blk_alloc ?_ _)); exact BK693.out) hb); have n1_ := Aside0.mk (below_step (by repeat (first | (with_reducible first | exact HB.out | apply below_alloc | apply pw_below_drewN | apply below_drew1 | refine below_set ?_ GE693.out) | exact HB.out)) hb); have n2_ := Aside0.mk (hbox); have n3_ := Aside0.mk ((by rw [hg]; exact (below_size (by repeat (first | (with_reducible first | exact HB.out | apply below_alloc | apply pw_below_drewN | apply below_drew1 | refine below_set ?_ GE693.out) | exact HB.out))) : w.heap.size ≤ gb694)); have n4_ := Aside0.mk ((by rw [hg]; exact (below_size (by repeat (first | (with_reducible first | exact HB.out | apply below_alloc | apply pw_below_drewN | apply below_drew1 | refine below_set ?_ GE693.out) | exact HB.out))) : w.heap.size ≤ gb694)); have n5_ := Aside0.mk ((by rw [hg]; exact Nat.ne_of_lt (blk_lt (g := gb693) (o := .cells #[.int .i64 a0_0, .int .i64 a0_1, .bool a0_2, .slice A0_3 l0_3.length c0_3, .slice A0_4 l0_4.length c0_4] 108 (0, 0)) (by (with_reducible repeat (first | refine blk_drewN ?_ _ | refine blk_drew ?_ | refine blk_alloc ?_ _)); exact BK693.out)) : gb693 ≠ gb694)); have n6_ := Aside0.mk ((by rw [hg]; exact Nat.ne_of_gt (blk_lt (g := gb693) (o := .cells #[.int .i64 a0_0, .int .i64 a0_1, .bool a0_2, .slice A0_3 l0_3.length c0_3, .slice A0_4 l0_4.length c0_4] 108 (0, 0)) (by (with_reducible repeat (first | refine blk_drewN ?_ _ | refine blk_drew ?_ | refine blk_alloc ?_ _)); exact BK693.out)) : gb694 ≠ gb693)); clear BK693; clear HB; have BK693 := n0_; have HB := n1_; have BK694 := n2_; have GW694 := n3_; have GE694 := n4_; have NB693_694 := n5_; have NB694_693 := n6_; clear n0_ n1_ n2_ n3_ n4_ n5_ n6_; clear hb hbox hg; have hnb16 := NB693_694.out; have hnc16 := NB694_693.out; have hcz17_0 : w15.cell? ⟨gb693, 0, none⟩ = some (.int .i64 a0_0) := (blk_cell BK693.out 0).trans rfl; have hcz17_1 : w15.cell? ⟨gb693, 1, none⟩ = some (.int .i64 a0_1) := (blk_cell BK693.out 1).trans rfl; have hcz17_2 : w15.cell? ⟨gb693, 2, none⟩ = some (.bool a0_2) := (blk_cell BK693.out 2).trans rfl; have hcz17_3 : w15.cell? ⟨gb693, 3, none⟩ = some (.slice A0_3 l0_3.length c0_3) := (blk_cell BK693.out 3).trans rfl; have hcz17_4 : w15.cell? ⟨gb693, 4, none⟩ = some (.slice A0_4 l0_4.length c0_4) := (blk_cell BK693.out 4).trans rfl; have hfz17_0 := blk_frozen BK693.out 0; have hfz17_1 := blk_frozen BK693.out 1; have hfz17_2 := blk_frozen BK693.out 2; have hfz17_3 := blk_frozen BK693.out 3; have hfz17_4 := blk_frozen BK693.out 4; have hcz18_0 : w15.cell? ⟨gb694, 0, none⟩ = some (.int .i64 a1_0) := (blk_cell BK694.out 0).trans rfl; have hcz18_1 : w15.cell? ⟨gb694, 1, none⟩ = some (.int .i64 a1_1) := (blk_cell BK694.out 1).trans rfl; have hcz18_2 : w15.cell? ⟨gb694, 2, none⟩ = some (.bool a1_2) := (blk_cell BK694.out 2).trans rfl; have hcz18_3 : w15.cell? ⟨gb694, 3, none⟩ = some (.slice A1_3 l1_3.length c1_3) := (blk_cell BK694.out 3).trans rfl; have hcz18_4 : w15.cell? ⟨gb694, 4, none⟩ = some (.slice A1_4 l1_4.length c1_4) := (blk_cell BK694.out 4).trans rfl; have hfz18_0 := blk_frozen BK694.out 0; have hfz18_1 := blk_frozen BK694.out 1; have hfz18_2 := blk_frozen BK694.out 2; have hfz18_3 := blk_frozen BK694.out 3; have hfz18_4 := blk_frozen BK694.out 4) | (go_at_call 133; (with_reducible refine (turncockref1_SameStatuses.calls k _ _ l0_3 _ _ l1_3 false _ ?side1 ?side2 ?side3 ?side4 A6.out).mono ?_); (case side1 => repeat (first | exact (Kd.C_below HR0_3.out HB.out) | (with_reducible refine Kd.C_alloc ?_ _) | (with_reducible refine Kd.C_drewN ?_ _) | (with_reducible refine Kd.C_drew ?_))); (case side2 => exact HC0_3.out); (case side3 => repeat (first | exact (Kd.C_below HR1_3.out HB.out) | (with_reducible refine Kd.C_alloc ?_ _) | (with_reducible refine Kd.C_drewN ?_ _) | (with_reducible refine Kd.C_drew ?_))); (case side4 => exact HC1_3.out); rintro e w' ⟨rfl, ⟨nd, rfl⟩⟩))
          go_ret
          exact ⟨by first | rfl | (simp [errW_none, errW_some] <;> rfl) | (simp [*, errW_none, errW_some] <;> rfl), by repeat (first | (with_reducible first | exact HB.out | apply below_alloc | apply pw_below_drewN | apply below_drew1 | refine below_set ?_ GE693.out | refine below_set ?_ GE694.out) | exact HB.out)⟩
      · rw [if_neg c5] at H
        have c5b0 : (a0_2 == a1_2) = false := by simpa using c5
        (try (have c5b1 : decide (a0_2 = a1_2) = false := by simpa using c5))
        (try (have c5b2 : (a0_2 == a1_2) = false := by simpa using c5))
        (try (have c5b3 : ¬ (a0_2 = a1_2) := by simpa using c5))
        clear c5
        obtain rfl := Option.some.inj H
        go_enter Try.func94, Try.ntmps94
        go_wp2_with (first | ((with_reducible refine gate_dst (N := 2) rfl ?_); refine box_event ?hg (N := 2) ?hd (cs := #[.int .i64 a0_0, .int .i64 a0_1, .bool a0_2, .slice A0_3 l0_3.length c0_3, .slice A0_4 l0_4.length c0_4]) (t := 108) ?hr ?_; (case hd => rfl); (case hg => rfl); (case hr => first | (go_simp; done) | (go_simp; rfl)); intro gb693 hg w19 hbox hb; have n0_ := Aside0.mk (below_step (by repeat (first | (with_reducible first | exact HB.out | apply below_alloc | apply pw_below_drewN | apply below_drew1) | exact HB.out)) hb); have n1_ := Aside0.mk (hbox); have n2_ := Aside0.mk ((by rw [hg]; exact (below_size (by repeat (first | (with_reducible first | exact HB.out | apply below_alloc | apply pw_below_drewN | apply below_drew1) | exact HB.out))) : w.heap.size ≤ gb693)); have n3_ := Aside0.mk ((by rw [hg]; exact (below_size (by repeat (first | (with_reducible first | exact HB.out | apply below_alloc | apply pw_below_drewN | apply below_drew1) | exact HB.out))) : w.heap.size ≤ gb693)); clear HB; have HB := n0_; have BK693 := n1_; have GW693 := n2_; have GE693 := n3_; clear n0_ n1_ n2_ n3_; clear hb hbox hg) | ((with_reducible refine gate_dst (N := 3) rfl ?_); refine box_event ?hg (N := 3) ?hd (cs := #[.int .i64 a1_0, .int .i64 a1_1, .bool a1_2, .slice A1_3 l1_3.length c1_3, .slice A1_4 l1_4.length c1_4]) (t := 108) ?hr ?_; (case hd => rfl); (case hg => rfl); (case hr => first | (go_simp; done) | (go_simp; rfl)); intro gb694 hg w20 hbox hb; have n0_ := Aside0.mk (blk_below (g := gb693) (o := .cells #[.int .i64 a0_0, .int .i64 a0_1, .bool a0_2, .slice A0_3 l0_3.length c0_3, .slice A0_4 l0_4.length c0_4] 108 (0, 0)) (by (with_reducible repeat (first | refine blk_drewN ?_ _ | refine blk_drew ?_ | refine blk_alloc ?_ _)); exact BK693.out) hb); have n1_ := Aside0.mk (below_step (by repeat (first | (with_reducible first | exact HB.out | apply below_alloc | apply pw_below_drewN | apply below_drew1 | refine below_set ?_ GE693.out) | exact HB.out)) hb); have n2_ := Aside0.mk (hbox); have n3_ := Aside0.mk ((by rw [hg]; exact (below_size (by repeat (first | (with_reducible first | exact HB.out | apply below_alloc | apply pw_below_drewN | apply below_drew1 | refine below_set ?_ GE693.out) | exact HB.out))) : w.heap.size ≤ gb694)); have n4_ := Aside0.mk ((by rw [hg]; exact (below_size (by repeat (first | (with_reducible first | exact HB.out | apply below_alloc | apply pw_below_drewN | apply below_drew1 | refine below_set ?_ GE693.out) | exact HB.out))) : w.heap.size ≤ gb694)); have n5_ := Aside0.mk ((by rw [hg]; exact Nat.ne_of_lt (blk_lt (g := gb693) (o := .cells #[.int .i64 a0_0, .int .i64 a0_1, .bool a0_2, .slice A0_3 l0_3.length c0_3, .slice A0_4 l0_4.length c0_4] 108 (0, 0)) (by (with_reducible repeat (first | refine blk_drewN ?_ _ | refine blk_drew ?_ | refine blk_alloc ?_ _)); exact BK693.out)) : gb693 ≠ gb694)); have n6_ := Aside0.mk ((by rw [hg]; exact Nat.ne_of_gt (blk_lt (g := gb693) (o := .cells #[.int .i64 a0_0, .int .i64 a0_1, .bool a0_2, .slice A0_3 l0_3.length c0_3, .slice A0_4 l0_4.length c0_4] 108 (0, 0)) (by (with_reducible repeat (first | refine blk_drewN ?_ _ | refine blk_drew ?_ | refine blk_alloc ?_ _)); exact BK693.out)) : gb694 ≠ gb693)); clear BK693; clear HB; have BK693 := n0_; have HB := n1_; have BK694 := n2_; have GW694 := n3_; have GE694 := n4_; have NB693_694 := n5_; have NB694_693 := n6_; clear n0_ n1_ n2_ n3_ n4_ n5_ n6_; clear hb hbox hg; have hnb21 := NB693_694.out; have hnc21 := NB694_693.out; have hcz22_0 : w20.cell? ⟨gb693, 0, none⟩ = some (.int .i64 a0_0) := (blk_cell BK693.out 0).trans rfl; have hcz22_1 : w20.cell? ⟨gb693, 1, none⟩ = some (.int .i64 a0_1) := (blk_cell BK693.out 1).trans rfl; have hcz22_2 : w20.cell? ⟨gb693, 2, none⟩ = some (.bool a0_2) := (blk_cell BK693.out 2).trans rfl; have hcz22_3 : w20.cell? ⟨gb693, 3, none⟩ = some (.slice A0_3 l0_3.length c0_3) := (blk_cell BK693.out 3).trans rfl; have hcz22_4 : w20.cell? ⟨gb693, 4, none⟩ = some (.slice A0_4 l0_4.length c0_4) := (blk_cell BK693.out 4).trans rfl; have hfz22_0 := blk_frozen BK693.out 0; have hfz22_1 := blk_frozen BK693.out 1; have hfz22_2 := blk_frozen BK693.out 2; have hfz22_3 := blk_frozen BK693.out 3; have hfz22_4 := blk_frozen BK693.out 4; have hcz23_0 : w20.cell? ⟨gb694, 0, none⟩ = some (.int .i64 a1_0) := (blk_cell BK694.out 0).trans rfl; have hcz23_1 : w20.cell? ⟨gb694, 1, none⟩ = some (.int .i64 a1_1) := (blk_cell BK694.out 1).trans rfl; have hcz23_2 : w20.cell? ⟨gb694, 2, none⟩ = some (.bool a1_2) := (blk_cell BK694.out 2).trans rfl; have hcz23_3 : w20.cell? ⟨gb694, 3, none⟩ = some (.slice A1_3 l1_3.length c1_3) := (blk_cell BK694.out 3).trans rfl; have hcz23_4 : w20.cell? ⟨gb694, 4, none⟩ = some (.slice A1_4 l1_4.length c1_4) := (blk_cell BK694.out 4).trans rfl; have hfz23_0 := blk_frozen BK694.out 0; have hfz23_1 := blk_frozen BK694.out 1; have hfz23_2 := blk_frozen BK694.out 2; have hfz23_3 := blk_frozen BK694.out 3; have hfz23_4 := blk_frozen BK694.out 4))
        go_ret
        exact ⟨by first | rfl | (simp [errW_none, errW_some] <;> rfl) | (simp [*, errW_none, errW_some] <;> rfl), by repeat (first | (with_reducible first | exact HB.out | apply below_alloc | apply pw_below_drewN | apply below_drew1 | refine below_set ?_ GE693.out | refine below_set ?_ GE694.out) | exact HB.out)⟩
    · rw [if_neg c4] at H
      have c4b0 : (a0_1 == a1_1) = false := beq_eq_false_iff_ne.mpr c4
      have c4b1 : (a0_1 != a1_1) = true := bne_iff_ne.mpr c4
      obtain rfl := Option.some.inj H
      go_enter Try.func94, Try.ntmps94
      go_wp2_with (first | ((with_reducible refine gate_dst (N := 2) rfl ?_); refine box_event ?hg (N := 2) ?hd (cs := #[.int .i64 a0_0, .int .i64 a0_1, .bool a0_2, .slice A0_3 l0_3.length c0_3, .slice A0_4 l0_4.length c0_4]) (t := 108) ?hr ?_; (case hd => rfl); (case hg => rfl); (case hr => first | (go_simp; done) | (go_simp; rfl)); intro gb693 hg w24 hbox hb; have n0_ := Aside0.mk (below_step (by repeat (first | (with_reducible first | exact HB.out | apply below_alloc | apply pw_below_drewN | apply below_drew1) | exact HB.out)) hb); have n1_ := Aside0.mk (hbox); have n2_ := Aside0.mk ((by rw [hg]; exact (below_size (by repeat (first | (with_reducible first | exact HB.out | apply below_alloc | apply pw_below_drewN | apply below_drew1) | exact HB.out))) : w.heap.size ≤ gb693)); have n3_ := Aside0.mk ((by rw [hg]; exact (below_size (by repeat (first | (with_reducible first | exact HB.out | apply below_alloc | apply pw_below_drewN | apply below_drew1) | exact HB.out))) : w.heap.size ≤ gb693)); clear HB; have HB := n0_; have BK693 := n1_; have GW693 := n2_; have GE693 := n3_; clear n0_ n1_ n2_ n3_; clear hb hbox hg) | ((with_reducible refine gate_dst (N := 3) rfl ?_); refine box_event ?hg (N := 3) ?hd (cs := #[.int .i64 a1_0, .int .i64 a1_1, .bool a1_2, .slice A1_3 l1_3.length c1_3, .slice A1_4 l1_4.length c1_4]) (t := 108) ?hr ?_; (case hd => rfl); (case hg => rfl); (case hr => first | (go_simp; done) | (go_simp; rfl)); intro gb694 hg w25 hbox hb; have n0_ := Aside0.mk (blk_below (g := gb693) (o := .cells #[.int .i64 a0_0, .int .i64 a0_1, .bool a0_2, .slice A0_3 l0_3.length c0_3, .slice A0_4 l0_4.length c0_4] 108 (0, 0)) (by (with_reducible repeat (first | refine blk_drewN ?_ _ | refine blk_drew ?_ | refine blk_alloc ?_ _)); exact BK693.out) hb); have n1_ := Aside0.mk (below_step (by repeat (first | (with_reducible first | exact HB.out | apply below_alloc | apply pw_below_drewN | apply below_drew1 | refine below_set ?_ GE693.out) | exact HB.out)) hb); have n2_ := Aside0.mk (hbox); have n3_ := Aside0.mk ((by rw [hg]; exact (below_size (by repeat (first | (with_reducible first | exact HB.out | apply below_alloc | apply pw_below_drewN | apply below_drew1 | refine below_set ?_ GE693.out) | exact HB.out))) : w.heap.size ≤ gb694)); have n4_ := Aside0.mk ((by rw [hg]; exact (below_size (by repeat (first | (with_reducible first | exact HB.out | apply below_alloc | apply pw_below_drewN | apply below_drew1 | refine below_set ?_ GE693.out) | exact HB.out))) : w.heap.size ≤ gb694)); have n5_ := Aside0.mk ((by rw [hg]; exact Nat.ne_of_lt (blk_lt (g := gb693) (o := .cells #[.int .i64 a0_0, .int .i64 a0_1, .bool a0_2, .slice A0_3 l0_3.length c0_3, .slice A0_4 l0_4.length c0_4] 108 (0, 0)) (by (with_reducible repeat (first | refine blk_drewN ?_ _ | refine blk_drew ?_ | refine blk_alloc ?_ _)); exact BK693.out)) : gb693 ≠ gb694)); have n6_ := Aside0.mk ((by rw [hg]; exact Nat.ne_of_gt (blk_lt (g := gb693) (o := .cells #[.int .i64 a0_0, .int .i64 a0_1, .bool a0_2, .slice A0_3 l0_3.length c0_3, .slice A0_4 l0_4.length c0_4] 108 (0, 0)) (by (with_reducible repeat (first | refine blk_drewN ?_ _ | refine blk_drew ?_ | refine blk_alloc ?_ _)); exact BK693.out)) : gb694 ≠ gb693)); clear BK693; clear HB; have BK693 := n0_; have HB := n1_; have BK694 := n2_; have GW694 := n3_; have GE694 := n4_; have NB693_694 := n5_; have NB694_693 := n6_; clear n0_ n1_ n2_ n3_ n4_ n5_ n6_; clear hb hbox hg; have hnb26 := NB693_694.out; have hnc26 := NB694_693.out; have hcz27_0 : w25.cell? ⟨gb693, 0, none⟩ = some (.int .i64 a0_0) := (blk_cell BK693.out 0).trans rfl; have hcz27_1 : w25.cell? ⟨gb693, 1, none⟩ = some (.int .i64 a0_1) := (blk_cell BK693.out 1).trans rfl; have hcz27_2 : w25.cell? ⟨gb693, 2, none⟩ = some (.bool a0_2) := (blk_cell BK693.out 2).trans rfl; have hcz27_3 : w25.cell? ⟨gb693, 3, none⟩ = some (.slice A0_3 l0_3.length c0_3) := (blk_cell BK693.out 3).trans rfl; have hcz27_4 : w25.cell? ⟨gb693, 4, none⟩ = some (.slice A0_4 l0_4.length c0_4) := (blk_cell BK693.out 4).trans rfl; have hfz27_0 := blk_frozen BK693.out 0; have hfz27_1 := blk_frozen BK693.out 1; have hfz27_2 := blk_frozen BK693.out 2; have hfz27_3 := blk_frozen BK693.out 3; have hfz27_4 := blk_frozen BK693.out 4; have hcz28_0 : w25.cell? ⟨gb694, 0, none⟩ = some (.int .i64 a1_0) := (blk_cell BK694.out 0).trans rfl; have hcz28_1 : w25.cell? ⟨gb694, 1, none⟩ = some (.int .i64 a1_1) := (blk_cell BK694.out 1).trans rfl; have hcz28_2 : w25.cell? ⟨gb694, 2, none⟩ = some (.bool a1_2) := (blk_cell BK694.out 2).trans rfl; have hcz28_3 : w25.cell? ⟨gb694, 3, none⟩ = some (.slice A1_3 l1_3.length c1_3) := (blk_cell BK694.out 3).trans rfl; have hcz28_4 : w25.cell? ⟨gb694, 4, none⟩ = some (.slice A1_4 l1_4.length c1_4) := (blk_cell BK694.out 4).trans rfl; have hfz28_0 := blk_frozen BK694.out 0; have hfz28_1 := blk_frozen BK694.out 1; have hfz28_2 := blk_frozen BK694.out 2; have hfz28_3 := blk_frozen BK694.out 3; have hfz28_4 := blk_frozen BK694.out 4))
      go_ret
      exact ⟨by first | rfl | (simp [errW_none, errW_some] <;> rfl) | (simp [*, errW_none, errW_some] <;> rfl), by repeat (first | (with_reducible first | exact HB.out | apply below_alloc | apply pw_below_drewN | apply below_drew1 | refine below_set ?_ GE693.out | refine below_set ?_ GE694.out) | exact HB.out)⟩
  · rw [if_neg c3] at H
    have c3b0 : (a0_0 == a1_0) = false := beq_eq_false_iff_ne.mpr c3
    have c3b1 : (a0_0 != a1_0) = true := bne_iff_ne.mpr c3
    obtain rfl := Option.some.inj H
    go_enter Try.func94, Try.ntmps94
    go_wp2_with (first | ((with_reducible refine gate_dst (N := 2) rfl ?_); refine box_event ?hg (N := 2) ?hd (cs := #[.int .i64 a0_0, .int .i64 a0_1, .bool a0_2, .slice A0_3 l0_3.length c0_3, .slice A0_4 l0_4.length c0_4]) (t := 108) ?hr ?_; (case hd => rfl); (case hg => rfl); (case hr => first | (go_simp; done) | (go_simp; rfl)); intro gb693 hg w29 hbox hb; have n0_ := Aside0.mk (below_step (by repeat (first | (with_reducible first | exact HB.out | apply below_alloc | apply pw_below_drewN | apply below_drew1) | exact HB.out)) hb); have n1_ := Aside0.mk (hbox); have n2_ := Aside0.mk ((by rw [hg]; exact (below_size (by repeat (first | (with_reducible first | exact HB.out | apply below_alloc | apply pw_below_drewN | apply below_drew1) | exact HB.out))) : w.heap.size ≤ gb693)); have n3_ := Aside0.mk ((by rw [hg]; exact (below_size (by repeat (first | (with_reducible first | exact HB.out | apply below_alloc | apply pw_below_drewN | apply below_drew1) | exact HB.out))) : w.heap.size ≤ gb693)); clear HB; have HB := n0_; have BK693 := n1_; have GW693 := n2_; have GE693 := n3_; clear n0_ n1_ n2_ n3_; clear hb hbox hg) | ((with_reducible refine gate_dst (N := 3) rfl ?_); refine box_event ?hg (N := 3) ?hd (cs := #[.int .i64 a1_0, .int .i64 a1_1, .bool a1_2, .slice A1_3 l1_3.length c1_3, .slice A1_4 l1_4.length c1_4]) (t := 108) ?hr ?_; (case hd => rfl); (case hg => rfl); (case hr => first | (go_simp; done) | (go_simp; rfl)); intro gb694 hg w30 hbox hb; have n0_ := Aside0.mk (blk_below (g := gb693) (o := .cells #[.int .i64 a0_0, .int .i64 a0_1, .bool a0_2, .slice A0_3 l0_3.length c0_3, .slice A0_4 l0_4.length c0_4] 108 (0, 0)) (by (with_reducible repeat (first | refine blk_drewN ?_ _ | refine blk_drew ?_ | refine blk_alloc ?_ _)); exact BK693.out) hb); have n1_ := Aside0.mk (below_step (by repeat (first | (with_reducible first | exact HB.out | apply below_alloc | apply pw_below_drewN | apply below_drew1 | refine below_set ?_ GE693.out) | exact HB.out)) hb); have n2_ := Aside0.mk (hbox); have n3_ := Aside0.mk ((by rw [hg]; exact (below_size (by repeat (first | (with_reducible first | exact HB.out | apply below_alloc | apply pw_below_drewN | apply below_drew1 | refine below_set ?_ GE693.out) | exact HB.out))) : w.heap.size ≤ gb694)); have n4_ := Aside0.mk ((by rw [hg]; exact (below_size (by repeat (first | (with_reducible first | exact HB.out | apply below_alloc | apply pw_below_drewN | apply below_drew1 | refine below_set ?_ GE693.out) | exact HB.out))) : w.heap.size ≤ gb694)); have n5_ := Aside0.mk ((by rw [hg]; exact Nat.ne_of_lt (blk_lt (g := gb693) (o := .cells #[.int .i64 a0_0, .int .i64 a0_1, .bool a0_2, .slice A0_3 l0_3.length c0_3, .slice A0_4 l0_4.length c0_4] 108 (0, 0)) (by (with_reducible repeat (first | refine blk_drewN ?_ _ | refine blk_drew ?_ | refine blk_alloc ?_ _)); exact BK693.out)) : gb693 ≠ gb694)); have n6_ := Aside0.mk ((by rw [hg]; exact Nat.ne_of_gt (blk_lt (g := gb693) (o := .cells #[.int .i64 a0_0, .int .i64 a0_1, .bool a0_2, .slice A0_3 l0_3.length c0_3, .slice A0_4 l0_4.length c0_4] 108 (0, 0)) (by (with_reducible repeat (first | refine blk_drewN ?_ _ | refine blk_drew ?_ | refine blk_alloc ?_ _)); exact BK693.out)) : gb694 ≠ gb693)); clear BK693; clear HB; have BK693 := n0_; have HB := n1_; have BK694 := n2_; have GW694 := n3_; have GE694 := n4_; have NB693_694 := n5_; have NB694_693 := n6_; clear n0_ n1_ n2_ n3_ n4_ n5_ n6_; clear hb hbox hg; have hnb31 := NB693_694.out; have hnc31 := NB694_693.out; have hcz32_0 : w30.cell? ⟨gb693, 0, none⟩ = some (.int .i64 a0_0) := (blk_cell BK693.out 0).trans rfl; have hcz32_1 : w30.cell? ⟨gb693, 1, none⟩ = some (.int .i64 a0_1) := (blk_cell BK693.out 1).trans rfl; have hcz32_2 : w30.cell? ⟨gb693, 2, none⟩ = some (.bool a0_2) := (blk_cell BK693.out 2).trans rfl; have hcz32_3 : w30.cell? ⟨gb693, 3, none⟩ = some (.slice A0_3 l0_3.length c0_3) := (blk_cell BK693.out 3).trans rfl; have hcz32_4 : w30.cell? ⟨gb693, 4, none⟩ = some (.slice A0_4 l0_4.length c0_4) := (blk_cell BK693.out 4).trans rfl; have hfz32_0 := blk_frozen BK693.out 0; have hfz32_1 := blk_frozen BK693.out 1; have hfz32_2 := blk_frozen BK693.out 2; have hfz32_3 := blk_frozen BK693.out 3; have hfz32_4 := blk_frozen BK693.out 4; have hcz33_0 : w30.cell? ⟨gb694, 0, none⟩ = some (.int .i64 a1_0) := (blk_cell BK694.out 0).trans rfl; have hcz33_1 : w30.cell? ⟨gb694, 1, none⟩ = some (.int .i64 a1_1) := (blk_cell BK694.out 1).trans rfl; have hcz33_2 : w30.cell? ⟨gb694, 2, none⟩ = some (.bool a1_2) := (blk_cell BK694.out 2).trans rfl; have hcz33_3 : w30.cell? ⟨gb694, 3, none⟩ = some (.slice A1_3 l1_3.length c1_3) := (blk_cell BK694.out 3).trans rfl; have hcz33_4 : w30.cell? ⟨gb694, 4, none⟩ = some (.slice A1_4 l1_4.length c1_4) := (blk_cell BK694.out 4).trans rfl; have hfz33_0 := blk_frozen BK694.out 0; have hfz33_1 := blk_frozen BK694.out 1; have hfz33_2 := blk_frozen BK694.out 2; have hfz33_3 := blk_frozen BK694.out 3; have hfz33_4 := blk_frozen BK694.out 4))
    go_ret
    exact ⟨by first | rfl | (simp [errW_none, errW_some] <;> rfl) | (simp [*, errW_none, errW_some] <;> rfl), by repeat (first | (with_reducible first | exact HB.out | apply below_alloc | apply pw_below_drewN | apply below_drew1 | refine below_set ?_ GE693.out | refine below_set ?_ GE694.out) | exact HB.out)⟩

/-! ### tell_status: function 126 -/
def tell_status.f (a0_0 : Int) (a0_1 : Int) (a0_2 : Int) (a0_3 : Int) (a0_4 : Int) : Option (Bool) := (tell_code.f a0_0).bind fun t730 => (if t730 = true then ((tell_within.f a0_1 4294967295).bind fun t731 => (if t731 = true then ((tell_within.f a0_3 4294967295).bind fun t732 => (if t732 = true then ((tell_within.f a0_2 4).bind fun t733 => (if t733 = true then ((tell_within.f a0_4 86400).bind fun t734 => (some t734)) else (some false))) else (some false))) else (some false))) else (some false))
set_option maxHeartbeats 8000000 in
set_option maxRecDepth 100000 in
theorem tell_status.calls (a0_0 : Int) (a0_1 : Int) (a0_2 : Int) (a0_3 : Int) (a0_4 : Int) (r : Bool) (w : World) (h : tell_status.f a0_0 a0_1 a0_2 a0_3 a0_4 = some r) :
    Calls Try.prog 126 #[.agg #[.int .i64 a0_0, .int .i64 a0_1, .int .i64 a0_2, .int .i64 a0_3, .int .i64 a0_4]] w fun e w' => e = .returned (.bool r) ∧ Below w.heap.size w w' := by
  have hu154 := Try.underlying154
  have HB := Aside0.mk (Below.refl w.heap.size w)
  have H : ((tell_code.f a0_0).bind fun t730 => (if t730 = true then ((tell_within.f a0_1 4294967295).bind fun t731 => (if t731 = true then ((tell_within.f a0_3 4294967295).bind fun t732 => (if t732 = true then ((tell_within.f a0_2 4).bind fun t733 => (if t733 = true then ((tell_within.f a0_4 86400).bind fun t734 => (some t734)) else (some false))) else (some false))) else (some false))) else (some false))) = some r := h
  clear h
  replace H := Option.bind_eq_some_iff.mp H
  obtain ⟨t730, A20, H⟩ := H
  replace H : (if t730 = true then ((tell_within.f a0_1 4294967295).bind fun t731 => (if t731 = true then ((tell_within.f a0_3 4294967295).bind fun t732 => (if t732 = true then ((tell_within.f a0_2 4).bind fun t733 => (if t733 = true then ((tell_within.f a0_4 86400).bind fun t734 => (some t734)) else (some false))) else (some false))) else (some false))) else (some false)) = some r := H
  have A2 := Aside0.mk A20
  clear A20
  by_cases c3 : t730 = true
  · subst c3
    have H1 : ((tell_within.f a0_1 4294967295).bind fun t731 => (if t731 = true then ((tell_within.f a0_3 4294967295).bind fun t732 => (if t732 = true then ((tell_within.f a0_2 4).bind fun t733 => (if t733 = true then ((tell_within.f a0_4 86400).bind fun t734 => (some t734)) else (some false))) else (some false))) else (some false))) = some r := by rw [if_pos rfl] at H; exact H
    clear H
    have H := H1
    clear H1
    replace H := Option.bind_eq_some_iff.mp H
    obtain ⟨t731, A40, H⟩ := H
    replace H : (if t731 = true then ((tell_within.f a0_3 4294967295).bind fun t732 => (if t732 = true then ((tell_within.f a0_2 4).bind fun t733 => (if t733 = true then ((tell_within.f a0_4 86400).bind fun t734 => (some t734)) else (some false))) else (some false))) else (some false)) = some r := H
    have A4 := Aside0.mk A40
    clear A40
    by_cases c5 : t731 = true
    · subst c5
      have H1 : ((tell_within.f a0_3 4294967295).bind fun t732 => (if t732 = true then ((tell_within.f a0_2 4).bind fun t733 => (if t733 = true then ((tell_within.f a0_4 86400).bind fun t734 => (some t734)) else (some false))) else (some false))) = some r := by rw [if_pos rfl] at H; exact H
      clear H
      have H := H1
      clear H1
      replace H := Option.bind_eq_some_iff.mp H
      obtain ⟨t732, A60, H⟩ := H
      replace H : (if t732 = true then ((tell_within.f a0_2 4).bind fun t733 => (if t733 = true then ((tell_within.f a0_4 86400).bind fun t734 => (some t734)) else (some false))) else (some false)) = some r := H
      have A6 := Aside0.mk A60
      clear A60
      by_cases c7 : t732 = true
      · subst c7
        have H1 : ((tell_within.f a0_2 4).bind fun t733 => (if t733 = true then ((tell_within.f a0_4 86400).bind fun t734 => (some t734)) else (some false))) = some r := by rw [if_pos rfl] at H; exact H
        clear H
        have H := H1
        clear H1
        replace H := Option.bind_eq_some_iff.mp H
        obtain ⟨t733, A80, H⟩ := H
        replace H : (if t733 = true then ((tell_within.f a0_4 86400).bind fun t734 => (some t734)) else (some false)) = some r := H
        have A8 := Aside0.mk A80
        clear A80
        by_cases c9 : t733 = true
        · subst c9
          have H1 : ((tell_within.f a0_4 86400).bind fun t734 => (some t734)) = some r := by rw [if_pos rfl] at H; exact H
          clear H
          have H := H1
          clear H1
          replace H := Option.bind_eq_some_iff.mp H
          obtain ⟨t734, A100, H⟩ := H
          replace H : (some t734) = some r := H
          have A10 := Aside0.mk A100
          clear A100
          obtain rfl := Option.some.inj H
          go_enter Try.func126, Try.ntmps126
          go_wp2_with (first | ((with_reducible refine gate_dst (N := 1) rfl ?_); refine box_event ?hg (N := 1) ?hd (cs := #[.int .i64 a0_0, .int .i64 a0_1, .int .i64 a0_2, .int .i64 a0_3, .int .i64 a0_4]) (t := 154) ?hr ?_; (case hd => rfl); (case hg => rfl); (case hr => first | (go_simp; done) | (go_simp; rfl)); intro gb729 hg w11 hbox hb; have n0_ := Aside0.mk (below_step (by repeat (first | (with_reducible first | exact HB.out | apply below_alloc | apply pw_below_drewN | apply below_drew1) | exact HB.out)) hb); have n1_ := Aside0.mk (hbox); have n2_ := Aside0.mk ((by rw [hg]; exact (below_size (by repeat (first | (with_reducible first | exact HB.out | apply below_alloc | apply pw_below_drewN | apply below_drew1) | exact HB.out))) : w.heap.size ≤ gb729)); have n3_ := Aside0.mk ((by rw [hg]; exact (below_size (by repeat (first | (with_reducible first | exact HB.out | apply below_alloc | apply pw_below_drewN | apply below_drew1) | exact HB.out))) : w.heap.size ≤ gb729)); clear HB; have HB := n0_; have BK729 := n1_; have GW729 := n2_; have GE729 := n3_; clear n0_ n1_ n2_ n3_; clear hb hbox hg; have hcz12_0 : w11.cell? ⟨gb729, 0, none⟩ = some (.int .i64 a0_0) := (blk_cell BK729.out 0).trans rfl; have hcz12_1 : w11.cell? ⟨gb729, 1, none⟩ = some (.int .i64 a0_1) := (blk_cell BK729.out 1).trans rfl; have hcz12_2 : w11.cell? ⟨gb729, 2, none⟩ = some (.int .i64 a0_2) := (blk_cell BK729.out 2).trans rfl; have hcz12_3 : w11.cell? ⟨gb729, 3, none⟩ = some (.int .i64 a0_3) := (blk_cell BK729.out 3).trans rfl; have hcz12_4 : w11.cell? ⟨gb729, 4, none⟩ = some (.int .i64 a0_4) := (blk_cell BK729.out 4).trans rfl; have hfz12_0 := blk_frozen BK729.out 0; have hfz12_1 := blk_frozen BK729.out 1; have hfz12_2 := blk_frozen BK729.out 2; have hfz12_3 := blk_frozen BK729.out 3; have hfz12_4 := blk_frozen BK729.out 4) | ((with_reducible refine gate_callee (f := 123) rfl ?_); refine goesL_ (some 5) rfl rfl Try.func123 (by kernel_rfl) rfl #[.int .i64 a0_0] rfl (by (try simp only [List.map_toArray, List.map_cons, List.map_nil]); first | done | rfl | (simp only [List.length_drop, List.length_take]; rfl)) ?_; (with_reducible refine (tell_code.calls a0_0 true _ A2.out).mono ?_); rintro e w' ⟨rfl, ⟨nd, rfl⟩⟩; refine ⟨_, rfl, ?_⟩) | (go_at_call 122; (with_reducible refine (tell_within.calls a0_1 4294967295 true _ A4.out).mono ?_); rintro e w' ⟨rfl, ⟨nd, rfl⟩⟩) | (go_at_call 122; (with_reducible refine (tell_within.calls a0_3 4294967295 true _ A6.out).mono ?_); rintro e w' ⟨rfl, ⟨nd, rfl⟩⟩) | (go_at_call 122; (with_reducible refine (tell_within.calls a0_2 4 true _ A8.out).mono ?_); rintro e w' ⟨rfl, ⟨nd, rfl⟩⟩) | (go_at_call 122; (with_reducible refine (tell_within.calls a0_4 86400 t734 _ A10.out).mono ?_); rintro e w' ⟨rfl, ⟨nd, rfl⟩⟩))
          go_ret
          exact ⟨by first | rfl | (simp [errW_none, errW_some] <;> rfl) | (simp [*, errW_none, errW_some] <;> rfl), by repeat (first | (with_reducible first | exact HB.out | apply below_alloc | apply pw_below_drewN | apply below_drew1 | refine below_set ?_ GE729.out) | exact HB.out)⟩
        · replace c9 := Bool.eq_false_iff.mpr c9
          subst c9
          have H1 : (some false) = some r := by rw [if_neg (show ¬ (false = true) by decide)] at H; exact H
          clear H
          have H := H1
          clear H1
          obtain rfl := Option.some.inj H
          go_enter Try.func126, Try.ntmps126
          go_wp2_with (first | ((with_reducible refine gate_dst (N := 1) rfl ?_); refine box_event ?hg (N := 1) ?hd (cs := #[.int .i64 a0_0, .int .i64 a0_1, .int .i64 a0_2, .int .i64 a0_3, .int .i64 a0_4]) (t := 154) ?hr ?_; (case hd => rfl); (case hg => rfl); (case hr => first | (go_simp; done) | (go_simp; rfl)); intro gb729 hg w13 hbox hb; have n0_ := Aside0.mk (below_step (by repeat (first | (with_reducible first | exact HB.out | apply below_alloc | apply pw_below_drewN | apply below_drew1) | exact HB.out)) hb); have n1_ := Aside0.mk (hbox); have n2_ := Aside0.mk ((by rw [hg]; exact (below_size (by repeat (first | (with_reducible first | exact HB.out | apply below_alloc | apply pw_below_drewN | apply below_drew1) | exact HB.out))) : w.heap.size ≤ gb729)); have n3_ := Aside0.mk ((by rw [hg]; exact (below_size (by repeat (first | (with_reducible first | exact HB.out | apply below_alloc | apply pw_below_drewN | apply below_drew1) | exact HB.out))) : w.heap.size ≤ gb729)); clear HB; have HB := n0_; have BK729 := n1_; have GW729 := n2_; have GE729 := n3_; clear n0_ n1_ n2_ n3_; clear hb hbox hg; have hcz14_0 : w13.cell? ⟨gb729, 0, none⟩ = some (.int .i64 a0_0) := (blk_cell BK729.out 0).trans rfl; have hcz14_1 : w13.cell? ⟨gb729, 1, none⟩ = some (.int .i64 a0_1) := (blk_cell BK729.out 1).trans rfl; have hcz14_2 : w13.cell? ⟨gb729, 2, none⟩ = some (.int .i64 a0_2) := (blk_cell BK729.out 2).trans rfl; have hcz14_3 : w13.cell? ⟨gb729, 3, none⟩ = some (.int .i64 a0_3) := (blk_cell BK729.out 3).trans rfl; have hcz14_4 : w13.cell? ⟨gb729, 4, none⟩ = some (.int .i64 a0_4) := (blk_cell BK729.out 4).trans rfl; have hfz14_0 := blk_frozen BK729.out 0; have hfz14_1 := blk_frozen BK729.out 1; have hfz14_2 := blk_frozen BK729.out 2; have hfz14_3 := blk_frozen BK729.out 3; have hfz14_4 := blk_frozen BK729.out 4) | ((with_reducible refine gate_callee (f := 123) rfl ?_); refine goesL_ (some 5) rfl rfl Try.func123 (by kernel_rfl) rfl #[.int .i64 a0_0] rfl (by (try simp only [List.map_toArray, List.map_cons, List.map_nil]); first | done | rfl | (simp only [List.length_drop, List.length_take]; rfl)) ?_; (with_reducible refine (tell_code.calls a0_0 true _ A2.out).mono ?_); rintro e w' ⟨rfl, ⟨nd, rfl⟩⟩; refine ⟨_, rfl, ?_⟩) | (go_at_call 122; (with_reducible refine (tell_within.calls a0_1 4294967295 true _ A4.out).mono ?_); rintro e w' ⟨rfl, ⟨nd, rfl⟩⟩) | (go_at_call 122; (with_reducible refine (tell_within.calls a0_3 4294967295 true _ A6.out).mono ?_); rintro e w' ⟨rfl, ⟨nd, rfl⟩⟩) | (go_at_call 122; (with_reducible refine (tell_within.calls a0_2 4 false _ A8.out).mono ?_); rintro e w' ⟨rfl, ⟨nd, rfl⟩⟩))
          go_ret
          exact ⟨by first | rfl | (simp [errW_none, errW_some] <;> rfl) | (simp [*, errW_none, errW_some] <;> rfl), by repeat (first | (with_reducible first | exact HB.out | apply below_alloc | apply pw_below_drewN | apply below_drew1 | refine below_set ?_ GE729.out) | exact HB.out)⟩
      · replace c7 := Bool.eq_false_iff.mpr c7
        subst c7
        have H1 : (some false) = some r := by rw [if_neg (show ¬ (false = true) by decide)] at H; exact H
        clear H
        have H := H1
        clear H1
        obtain rfl := Option.some.inj H
        go_enter Try.func126, Try.ntmps126
        go_wp2_with (first | ((with_reducible refine gate_dst (N := 1) rfl ?_); refine box_event ?hg (N := 1) ?hd (cs := #[.int .i64 a0_0, .int .i64 a0_1, .int .i64 a0_2, .int .i64 a0_3, .int .i64 a0_4]) (t := 154) ?hr ?_; (case hd => rfl); (case hg => rfl); (case hr => first | (go_simp; done) | (go_simp; rfl)); intro gb729 hg w15 hbox hb; have n0_ := Aside0.mk (below_step (by repeat (first | (with_reducible first | exact HB.out | apply below_alloc | apply pw_below_drewN | apply below_drew1) | exact HB.out)) hb); have n1_ := Aside0.mk (hbox); have n2_ := Aside0.mk ((by rw [hg]; exact (below_size (by repeat (first | (with_reducible first | exact HB.out | apply below_alloc | apply pw_below_drewN | apply below_drew1) | exact HB.out))) : w.heap.size ≤ gb729)); have n3_ := Aside0.mk ((by rw [hg]; exact (below_size (by repeat (first | (with_reducible first | exact HB.out | apply below_alloc | apply pw_below_drewN | apply below_drew1) | exact HB.out))) : w.heap.size ≤ gb729)); clear HB; have HB := n0_; have BK729 := n1_; have GW729 := n2_; have GE729 := n3_; clear n0_ n1_ n2_ n3_; clear hb hbox hg; have hcz16_0 : w15.cell? ⟨gb729, 0, none⟩ = some (.int .i64 a0_0) := (blk_cell BK729.out 0).trans rfl; have hcz16_1 : w15.cell? ⟨gb729, 1, none⟩ = some (.int .i64 a0_1) := (blk_cell BK729.out 1).trans rfl; have hcz16_2 : w15.cell? ⟨gb729, 2, none⟩ = some (.int .i64 a0_2) := (blk_cell BK729.out 2).trans rfl; have hcz16_3 : w15.cell? ⟨gb729, 3, none⟩ = some (.int .i64 a0_3) := (blk_cell BK729.out 3).trans rfl; have hcz16_4 : w15.cell? ⟨gb729, 4, none⟩ = some (.int .i64 a0_4) := (blk_cell BK729.out 4).trans rfl; have hfz16_0 := blk_frozen BK729.out 0; have hfz16_1 := blk_frozen BK729.out 1; have hfz16_2 := blk_frozen BK729.out 2; have hfz16_3 := blk_frozen BK729.out 3; have hfz16_4 := blk_frozen BK729.out 4) | ((with_reducible refine gate_callee (f := 123) rfl ?_); refine goesL_ (some 5) rfl rfl Try.func123 (by kernel_rfl) rfl #[.int .i64 a0_0] rfl (by (try simp only [List.map_toArray, List.map_cons, List.map_nil]); first | done | rfl | (simp only [List.length_drop, List.length_take]; rfl)) ?_; (with_reducible refine (tell_code.calls a0_0 true _ A2.out).mono ?_); rintro e w' ⟨rfl, ⟨nd, rfl⟩⟩; refine ⟨_, rfl, ?_⟩) | (go_at_call 122; (with_reducible refine (tell_within.calls a0_1 4294967295 true _ A4.out).mono ?_); rintro e w' ⟨rfl, ⟨nd, rfl⟩⟩) | (go_at_call 122; (with_reducible refine (tell_within.calls a0_3 4294967295 false _ A6.out).mono ?_); rintro e w' ⟨rfl, ⟨nd, rfl⟩⟩))
        go_ret
        exact ⟨by first | rfl | (simp [errW_none, errW_some] <;> rfl) | (simp [*, errW_none, errW_some] <;> rfl), by repeat (first | (with_reducible first | exact HB.out | apply below_alloc | apply pw_below_drewN | apply below_drew1 | refine below_set ?_ GE729.out) | exact HB.out)⟩
    · replace c5 := Bool.eq_false_iff.mpr c5
      subst c5
      have H1 : (some false) = some r := by rw [if_neg (show ¬ (false = true) by decide)] at H; exact H
      clear H
      have H := H1
      clear H1
      obtain rfl := Option.some.inj H
      go_enter Try.func126, Try.ntmps126
      go_wp2_with (first | ((with_reducible refine gate_dst (N := 1) rfl ?_); refine box_event ?hg (N := 1) ?hd (cs := #[.int .i64 a0_0, .int .i64 a0_1, .int .i64 a0_2, .int .i64 a0_3, .int .i64 a0_4]) (t := 154) ?hr ?_; (case hd => rfl); (case hg => rfl); (case hr => first | (go_simp; done) | (go_simp; rfl)); intro gb729 hg w17 hbox hb; have n0_ := Aside0.mk (below_step (by repeat (first | (with_reducible first | exact HB.out | apply below_alloc | apply pw_below_drewN | apply below_drew1) | exact HB.out)) hb); have n1_ := Aside0.mk (hbox); have n2_ := Aside0.mk ((by rw [hg]; exact (below_size (by repeat (first | (with_reducible first | exact HB.out | apply below_alloc | apply pw_below_drewN | apply below_drew1) | exact HB.out))) : w.heap.size ≤ gb729)); have n3_ := Aside0.mk ((by rw [hg]; exact (below_size (by repeat (first | (with_reducible first | exact HB.out | apply below_alloc | apply pw_below_drewN | apply below_drew1) | exact HB.out))) : w.heap.size ≤ gb729)); clear HB; have HB := n0_; have BK729 := n1_; have GW729 := n2_; have GE729 := n3_; clear n0_ n1_ n2_ n3_; clear hb hbox hg; have hcz18_0 : w17.cell? ⟨gb729, 0, none⟩ = some (.int .i64 a0_0) := (blk_cell BK729.out 0).trans rfl; have hcz18_1 : w17.cell? ⟨gb729, 1, none⟩ = some (.int .i64 a0_1) := (blk_cell BK729.out 1).trans rfl; have hcz18_2 : w17.cell? ⟨gb729, 2, none⟩ = some (.int .i64 a0_2) := (blk_cell BK729.out 2).trans rfl; have hcz18_3 : w17.cell? ⟨gb729, 3, none⟩ = some (.int .i64 a0_3) := (blk_cell BK729.out 3).trans rfl; have hcz18_4 : w17.cell? ⟨gb729, 4, none⟩ = some (.int .i64 a0_4) := (blk_cell BK729.out 4).trans rfl; have hfz18_0 := blk_frozen BK729.out 0; have hfz18_1 := blk_frozen BK729.out 1; have hfz18_2 := blk_frozen BK729.out 2; have hfz18_3 := blk_frozen BK729.out 3; have hfz18_4 := blk_frozen BK729.out 4) | ((with_reducible refine gate_callee (f := 123) rfl ?_); refine goesL_ (some 5) rfl rfl Try.func123 (by kernel_rfl) rfl #[.int .i64 a0_0] rfl (by (try simp only [List.map_toArray, List.map_cons, List.map_nil]); first | done | rfl | (simp only [List.length_drop, List.length_take]; rfl)) ?_; (with_reducible refine (tell_code.calls a0_0 true _ A2.out).mono ?_); rintro e w' ⟨rfl, ⟨nd, rfl⟩⟩; refine ⟨_, rfl, ?_⟩) | (go_at_call 122; (with_reducible refine (tell_within.calls a0_1 4294967295 false _ A4.out).mono ?_); rintro e w' ⟨rfl, ⟨nd, rfl⟩⟩))
      go_ret
      exact ⟨by first | rfl | (simp [errW_none, errW_some] <;> rfl) | (simp [*, errW_none, errW_some] <;> rfl), by repeat (first | (with_reducible first | exact HB.out | apply below_alloc | apply pw_below_drewN | apply below_drew1 | refine below_set ?_ GE729.out) | exact HB.out)⟩
  · replace c3 := Bool.eq_false_iff.mpr c3
    subst c3
    have H1 : (some false) = some r := by rw [if_neg (show ¬ (false = true) by decide)] at H; exact H
    clear H
    have H := H1
    clear H1
    obtain rfl := Option.some.inj H
    go_enter Try.func126, Try.ntmps126
    go_wp2_with (first | ((with_reducible refine gate_dst (N := 1) rfl ?_); refine box_event ?hg (N := 1) ?hd (cs := #[.int .i64 a0_0, .int .i64 a0_1, .int .i64 a0_2, .int .i64 a0_3, .int .i64 a0_4]) (t := 154) ?hr ?_; (case hd => rfl); (case hg => rfl); (case hr => first | (go_simp; done) | (go_simp; rfl)); intro gb729 hg w19 hbox hb; have n0_ := Aside0.mk (below_step (by repeat (first | (with_reducible first | exact HB.out | apply below_alloc | apply pw_below_drewN | apply below_drew1) | exact HB.out)) hb); have n1_ := Aside0.mk (hbox); have n2_ := Aside0.mk ((by rw [hg]; exact (below_size (by repeat (first | (with_reducible first | exact HB.out | apply below_alloc | apply pw_below_drewN | apply below_drew1) | exact HB.out))) : w.heap.size ≤ gb729)); have n3_ := Aside0.mk ((by rw [hg]; exact (below_size (by repeat (first | (with_reducible first | exact HB.out | apply below_alloc | apply pw_below_drewN | apply below_drew1) | exact HB.out))) : w.heap.size ≤ gb729)); clear HB; have HB := n0_; have BK729 := n1_; have GW729 := n2_; have GE729 := n3_; clear n0_ n1_ n2_ n3_; clear hb hbox hg; have hcz20_0 : w19.cell? ⟨gb729, 0, none⟩ = some (.int .i64 a0_0) := (blk_cell BK729.out 0).trans rfl; have hcz20_1 : w19.cell? ⟨gb729, 1, none⟩ = some (.int .i64 a0_1) := (blk_cell BK729.out 1).trans rfl; have hcz20_2 : w19.cell? ⟨gb729, 2, none⟩ = some (.int .i64 a0_2) := (blk_cell BK729.out 2).trans rfl; have hcz20_3 : w19.cell? ⟨gb729, 3, none⟩ = some (.int .i64 a0_3) := (blk_cell BK729.out 3).trans rfl; have hcz20_4 : w19.cell? ⟨gb729, 4, none⟩ = some (.int .i64 a0_4) := (blk_cell BK729.out 4).trans rfl; have hfz20_0 := blk_frozen BK729.out 0; have hfz20_1 := blk_frozen BK729.out 1; have hfz20_2 := blk_frozen BK729.out 2; have hfz20_3 := blk_frozen BK729.out 3; have hfz20_4 := blk_frozen BK729.out 4) | ((with_reducible refine gate_callee (f := 123) rfl ?_); refine goesL_ (some 5) rfl rfl Try.func123 (by kernel_rfl) rfl #[.int .i64 a0_0] rfl (by (try simp only [List.map_toArray, List.map_cons, List.map_nil]); first | done | rfl | (simp only [List.length_drop, List.length_take]; rfl)) ?_; (with_reducible refine (tell_code.calls a0_0 false _ A2.out).mono ?_); rintro e w' ⟨rfl, ⟨nd, rfl⟩⟩; refine ⟨_, rfl, ?_⟩))
    go_ret
    exact ⟨by first | rfl | (simp [errW_none, errW_some] <;> rfl) | (simp [*, errW_none, errW_some] <;> rfl), by repeat (first | (with_reducible first | exact HB.out | apply below_alloc | apply pw_below_drewN | apply below_drew1 | refine below_set ?_ GE729.out) | exact HB.out)⟩

/-! ### tell_head: function 129 -/
def tell_head.l0 : Nat → Int → Int → ByteArray → ByteArray → Option (Bool)
  | 0, _, _, _, _ => none
  | k + 1, x6, x7, x736000, x736001 => if x7 < x6 then (if 0 ≤ x7 then (if x7 < (x736001.size : Int) then (if (bt x736001 x7) < 32 then (some false) else (if (bt x736001 x7) > 126 then (some false) else (tell_head.l0 k x6 (wrap64 (x7 + 1)) x736000 x736001))) else (none)) else (none)) else ((desc_Name.f k x736000).bind fun t736 => (if t736 = true then (some (decide ((x736001.size : Int) ≤ 400))) else (some false)))
def tell_head.f (k : Nat) (a0_0 : ByteArray) (a0_1 : ByteArray) : Option (Bool) := tell_head.l0 k (a0_1.size : Int) 0 a0_0 a0_1
theorem tell_head.mono_l : ∀ k, (∀ y0 y1 y2 y3, LeO (tell_head.l0 k y0 y1 y2 y3) (tell_head.l0 (k + 1) y0 y1 y2 y3))
  | 0 => fun _ _ _ _ r h => by simp [tell_head.l0] at h
  | k + 1 => by
    have ih0 := tell_head.mono_l k
    · intro y0 y1 y2 y3
      unfold tell_head.l0
      repeat' first
      | (with_reducible exact ih0 _ _ _ _)
      | (with_reducible exact desc_Name.mono _ _)
      | (with_reducible exact LeO.refl _)
      | (with_reducible exact LeO.none _)
      | (with_reducible refine LeO.ite ?_ ?_)
      | (with_reducible refine LeO.bind ?_ (fun _ => ?_))
      | exact ih0 _ _ _ _
      | exact desc_Name.mono _ _
      | exact LeO.none _
      | refine LeO.ite ?_ ?_
      | refine LeO.bind ?_ (fun _ => ?_)
theorem tell_head.mono : ∀ a0 a1 k, LeO (tell_head.f k a0 a1) (tell_head.f (k + 1) a0 a1) := by
  intro a0 a1 k
  have ih0 := tell_head.mono_l k
  unfold tell_head.f
  repeat' first
      | (with_reducible exact ih0 _ _ _ _)
      | (with_reducible exact desc_Name.mono _ _)
      | (with_reducible exact LeO.refl _)
      | (with_reducible exact LeO.none _)
      | (with_reducible refine LeO.ite ?_ ?_)
      | (with_reducible refine LeO.bind ?_ (fun _ => ?_))
      | exact ih0 _ _ _ _
      | exact desc_Name.mono _ _
      | exact LeO.none _
      | refine LeO.ite ?_ ?_
      | refine LeO.bind ?_ (fun _ => ?_)
set_option maxHeartbeats 8000000 in
set_option maxRecDepth 100000 in
theorem tell_head.calls (k : Nat) (a0_0 : ByteArray) (a0_1 : ByteArray) (r : Bool) (w : World) (h : tell_head.f k a0_0 a0_1 = some r) :
    Calls Try.prog 129 #[.agg #[.string a0_0, .string a0_1]] w fun e w' => e = .returned (.bool r) ∧ Below w.heap.size w w' := by
  have hu152 := Try.underlying152
  have HB := Aside0.mk (Below.refl w.heap.size w)
  have H : (tell_head.l0 k (a0_1.size : Int) 0 a0_0 a0_1) = some r := h
  clear h
  have H' := Aside0.mk H
  clear H
  go_enter Try.func129, Try.ntmps129
  go_wp2_with (first | ((with_reducible refine gate_dst (N := 1) rfl ?_); (try (refine gate_guard (by rfl) ?_; dsimp only)); refine box_event ?hg (N := 1) ?hd (cs := #[.string a0_0, .string a0_1]) (t := 152) ?hr ?_; (case hd => rfl); (case hg => rfl); (case hr => first | (go_simp; done) | (go_simp; rfl)); intro gb735 hg w2 hbox hb; have n0_ := Aside0.mk (below_step (by repeat (first | (with_reducible first | exact HB.out | apply below_alloc | apply pw_below_drewN | apply below_drew1) | exact HB.out)) hb); have n1_ := Aside0.mk (hbox); have n2_ := Aside0.mk ((by rw [hg]; exact (below_size (by repeat (first | (with_reducible first | exact HB.out | apply below_alloc | apply pw_below_drewN | apply below_drew1) | exact HB.out))) : w.heap.size ≤ gb735)); have n3_ := Aside0.mk ((by rw [hg]; exact (below_size (by repeat (first | (with_reducible first | exact HB.out | apply below_alloc | apply pw_below_drewN | apply below_drew1) | exact HB.out))) : w.heap.size ≤ gb735)); clear HB; have HB := n0_; have BK735 := n1_; have GW735 := n2_; have GE735 := n3_; clear n0_ n1_ n2_ n3_; clear hb hbox hg; have hcz3_0 : w2.cell? ⟨gb735, 0, none⟩ = some (.string a0_0) := (blk_cell BK735.out 0).trans rfl; have hcz3_1 : w2.cell? ⟨gb735, 1, none⟩ = some (.string a0_1) := (blk_cell BK735.out 1).trans rfl; have hfz3_0 := blk_frozen BK735.out 0; have hfz3_1 := blk_frozen BK735.out 1))
  go_loopg [7] k (fun kq v7 w' => ∃ (x7_1 : Int), v7 = .int .i64 x7_1 ∧ Aside0 (tell_head.l0 kq (a0_1.size : Int) x7_1 a0_0 a0_1 = some r) ∧ Aside0 (kq ≤ k) ∧ Aside0 (w'.heap[gb735]? = some (.cells #[.string a0_0, .string a0_1] 152 (0, 0))) ∧ Aside0 (Below w.heap.size w w'))
  case atStart => exact ⟨(0), (by first | rfl | (simp; done) | (simp [*]; done)), H', ⟨Nat.le_refl _⟩, ⟨by (with_reducible repeat (first | refine blk_drewN ?_ _ | refine blk_drew ?_ | refine blk_alloc ?_ _)); exact BK735.out⟩, ⟨by repeat (first | (with_reducible first | exact HB.out | apply below_alloc | apply pw_below_drewN | apply below_drew1 | refine below_set ?_ GE735.out) | exact HB.out)⟩⟩
  case round =>
    clear H'
    try clear c1
    try clear p2
    try clear hcz3_0
    try clear hcz3_1
    try clear hfz3_0
    try clear hfz3_1
    obtain ⟨x7_1, rfl, HA, HK1, BK735, HB⟩ := hrel
    cases gk with
    | zero => exact absurd HA.out (by simp [tell_head.l0])
    | succ k1 =>
      have H := HA.out
      clear HA
      simp only [tell_head.l0] at H
      by_cases c4 : x7_1 < (a0_1.size : Int)
      · rw [if_pos c4] at H
        have c4b0 : decide (x7_1 < (a0_1.size : Int)) = true := decide_eq_true c4
        clear c4
        by_cases c5 : 0 ≤ x7_1
        · rw [if_pos c5] at H
          have c5b0 : decide (0 ≤ x7_1) = true := decide_eq_true c5
          clear c5
          by_cases c6 : x7_1 < (a0_1.size : Int)
          · rw [if_pos c6] at H
            have c6b0 : decide (x7_1 < (a0_1.size : Int)) = true := decide_eq_true c6
            clear c6
            by_cases c8 : (bt a0_1 x7_1) < 32
            · rw [if_pos c8] at H
              have c8b0 : decide ((bt a0_1 x7_1) < 32) = true := decide_eq_true c8
              clear c8
              obtain rfl := Option.some.inj H
              have hcz9_0 : wr.cell? ⟨gb735, 0, none⟩ = some (.string a0_0) := (blk_cell BK735.out 0).trans rfl
              have hcz9_1 : wr.cell? ⟨gb735, 1, none⟩ = some (.string a0_1) := (blk_cell BK735.out 1).trans rfl
              have hfz9_0 := blk_frozen BK735.out 0
              have hfz9_1 := blk_frozen BK735.out 1
              have p7 : 0 ≤ (x7_1 : Int) := of_decide_eq_true (by first | (with_reducible assumption) | assumption)
              have q7 : x7_1 < (a0_1.size : Int) := of_decide_eq_true (by first | (with_reducible assumption) | assumption)
              have hx7 := bt_at a0_1 x7_1
              replace p7 := eq_true p7
              replace q7 := eq_true q7
              go_wp2
              go_ret
              exact ⟨by first | rfl | (simp [errW_none, errW_some] <;> rfl) | (simp [*, errW_none, errW_some] <;> rfl), by repeat (first | (with_reducible first | exact HB.out | apply below_alloc | apply pw_below_drewN | apply below_drew1 | refine below_set ?_ GE735.out) | exact HB.out)⟩
            · rw [if_neg c8] at H
              have c8b0 : decide ((bt a0_1 x7_1) < 32) = false := decide_eq_false c8
              clear c8
              by_cases c11 : (bt a0_1 x7_1) > 126
              · rw [if_pos c11] at H
                have c11b0 : decide (126 < (bt a0_1 x7_1)) = true := decide_eq_true c11
                clear c11
                obtain rfl := Option.some.inj H
                have hcz12_0 : wr.cell? ⟨gb735, 0, none⟩ = some (.string a0_0) := (blk_cell BK735.out 0).trans rfl
                have hcz12_1 : wr.cell? ⟨gb735, 1, none⟩ = some (.string a0_1) := (blk_cell BK735.out 1).trans rfl
                have hfz12_0 := blk_frozen BK735.out 0
                have hfz12_1 := blk_frozen BK735.out 1
                have p7 : 0 ≤ (x7_1 : Int) := of_decide_eq_true (by first | (with_reducible assumption) | assumption)
                have q7 : x7_1 < (a0_1.size : Int) := of_decide_eq_true (by first | (with_reducible assumption) | assumption)
                have hx7 := bt_at a0_1 x7_1
                replace p7 := eq_true p7
                replace q7 := eq_true q7
                have p10 : 0 ≤ (x7_1 : Int) := of_decide_eq_true (by first | (with_reducible assumption) | assumption)
                have q10 : x7_1 < (a0_1.size : Int) := of_decide_eq_true (by first | (with_reducible assumption) | assumption)
                have hx10 := bt_at a0_1 x7_1
                replace p10 := eq_true p10
                replace q10 := eq_true q10
                go_wp2
                go_ret
                exact ⟨by first | rfl | (simp [errW_none, errW_some] <;> rfl) | (simp [*, errW_none, errW_some] <;> rfl), by repeat (first | (with_reducible first | exact HB.out | apply below_alloc | apply pw_below_drewN | apply below_drew1 | refine below_set ?_ GE735.out) | exact HB.out)⟩
              · rw [if_neg c11] at H
                have c11b0 : decide (126 < (bt a0_1 x7_1)) = false := decide_eq_false c11
                clear c11
                have H' := Aside0.mk H
                clear H
                have hcz13_0 : wr.cell? ⟨gb735, 0, none⟩ = some (.string a0_0) := (blk_cell BK735.out 0).trans rfl
                have hcz13_1 : wr.cell? ⟨gb735, 1, none⟩ = some (.string a0_1) := (blk_cell BK735.out 1).trans rfl
                have hfz13_0 := blk_frozen BK735.out 0
                have hfz13_1 := blk_frozen BK735.out 1
                have p7 : 0 ≤ (x7_1 : Int) := of_decide_eq_true (by first | (with_reducible assumption) | assumption)
                have q7 : x7_1 < (a0_1.size : Int) := of_decide_eq_true (by first | (with_reducible assumption) | assumption)
                have hx7 := bt_at a0_1 x7_1
                replace p7 := eq_true p7
                replace q7 := eq_true q7
                have p10 : 0 ≤ (x7_1 : Int) := of_decide_eq_true (by first | (with_reducible assumption) | assumption)
                have q10 : x7_1 < (a0_1.size : Int) := of_decide_eq_true (by first | (with_reducible assumption) | assumption)
                have hx10 := bt_at a0_1 x7_1
                replace p10 := eq_true p10
                replace q10 := eq_true q10
                go_wp2
                go_roundg k1
                case measure => have := HK1.out; omega
                case rel => exact ⟨(wrap64 (x7_1 + 1)), (by first | rfl | (simp; done) | (simp [*]; done)), H', ⟨by have := HK1.out; omega⟩, ⟨by (with_reducible repeat (first | refine blk_drewN ?_ _ | refine blk_drew ?_ | refine blk_alloc ?_ _)); exact BK735.out⟩, ⟨by repeat (first | (with_reducible first | exact HB.out | apply below_alloc | apply pw_below_drewN | apply below_drew1 | refine below_set ?_ GE735.out) | exact HB.out)⟩⟩
          · rw [if_neg c6] at H
            exact absurd H (by simp)
        · rw [if_neg c5] at H
          exact absurd H (by simp)
      · rw [if_neg c4] at H
        have c4b0 : decide (x7_1 < (a0_1.size : Int)) = false := decide_eq_false c4
        clear c4
        replace H := Option.bind_eq_some_iff.mp H
        obtain ⟨t736, A140, H⟩ := H
        replace H : (if t736 = true then (some (decide ((a0_1.size : Int) ≤ 400))) else (some false)) = some r := H
        have A14 := Aside0.mk A140
        clear A140
        by_cases c15 : t736 = true
        · subst c15
          have H1 : (some (decide ((a0_1.size : Int) ≤ 400))) = some r := by rw [if_pos rfl] at H; exact H
          clear H
          have H := H1
          clear H1
          obtain rfl := Option.some.inj H
          have hcz16_0 : wr.cell? ⟨gb735, 0, none⟩ = some (.string a0_0) := (blk_cell BK735.out 0).trans rfl
          have hcz16_1 : wr.cell? ⟨gb735, 1, none⟩ = some (.string a0_1) := (blk_cell BK735.out 1).trans rfl
          have hfz16_0 := blk_frozen BK735.out 0
          have hfz16_1 := blk_frozen BK735.out 1
          go_wp2_with (first | ((with_reducible refine gate_callee (f := 112) rfl ?_); refine goesL_ (some 25) rfl rfl Try.func112 (by kernel_rfl) rfl #[.string a0_0] rfl (by (try simp only [List.map_toArray, List.map_cons, List.map_nil]); first | done | rfl | (simp only [List.length_drop, List.length_take]; rfl)) ?_; (with_reducible refine (desc_Name.calls k1 a0_0 true _ A14.out).mono ?_); rintro e w' ⟨rfl, ⟨nd, rfl⟩⟩; refine ⟨_, rfl, ?_⟩))
          go_ret
          exact ⟨by first | rfl | (simp [errW_none, errW_some] <;> rfl) | (simp [*, errW_none, errW_some] <;> rfl), by repeat (first | (with_reducible first | exact HB.out | apply below_alloc | apply pw_below_drewN | apply below_drew1 | refine below_set ?_ GE735.out) | exact HB.out)⟩
        · replace c15 := Bool.eq_false_iff.mpr c15
          subst c15
          have H1 : (some false) = some r := by rw [if_neg (show ¬ (false = true) by decide)] at H; exact H
          clear H
          have H := H1
          clear H1
          obtain rfl := Option.some.inj H
          have hcz17_0 : wr.cell? ⟨gb735, 0, none⟩ = some (.string a0_0) := (blk_cell BK735.out 0).trans rfl
          have hcz17_1 : wr.cell? ⟨gb735, 1, none⟩ = some (.string a0_1) := (blk_cell BK735.out 1).trans rfl
          have hfz17_0 := blk_frozen BK735.out 0
          have hfz17_1 := blk_frozen BK735.out 1
          go_wp2_with (first | ((with_reducible refine gate_callee (f := 112) rfl ?_); refine goesL_ (some 25) rfl rfl Try.func112 (by kernel_rfl) rfl #[.string a0_0] rfl (by (try simp only [List.map_toArray, List.map_cons, List.map_nil]); first | done | rfl | (simp only [List.length_drop, List.length_take]; rfl)) ?_; (with_reducible refine (desc_Name.calls k1 a0_0 false _ A14.out).mono ?_); rintro e w' ⟨rfl, ⟨nd, rfl⟩⟩; refine ⟨_, rfl, ?_⟩))
          go_ret
          exact ⟨by first | rfl | (simp [errW_none, errW_some] <;> rfl) | (simp [*, errW_none, errW_some] <;> rfl), by repeat (first | (with_reducible first | exact HB.out | apply below_alloc | apply pw_below_drewN | apply below_drew1 | refine below_set ?_ GE735.out) | exact HB.out)⟩

end Go.Proofs.Ytnhblhhkjnmkkaa.Q
