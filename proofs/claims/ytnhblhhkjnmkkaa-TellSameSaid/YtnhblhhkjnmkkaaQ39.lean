/- Printed by this session's own program out of the translation: each function as a plain Lean function, and its contract. -/
import Derived.Test.YtnhblhhkjnmkkaaQ0
import Derived.Test.YtnhblhhkjnmkkaaQ15
import Derived.Test.YtnhblhhkjnmkkaaQ38
namespace Go.Proofs.Ytnhblhhkjnmkkaa.Q
open Go.RowKit Go.Proofs.YtnhblhhkjnmkkaaW.PrintWords Go.Proofs.YtnhblhhkjnmkkaaW.PrintLast Go.Proofs.YtnhblhhkjnmkkaaW.PrintMore
attribute [local go_sem] max2_int min2_int max_two min_two max_three min_three max_four min_four   -- for this text's walks alone
set_option linter.unusedVariables false
set_option linter.unusedSimpArgs false

/-! ### turncockref1_CheckTell: function 92 -/
mutual
def turncockref1_CheckTell.j0 : Nat → Bool → Int → Int → Bool → List (S154) → List (S152) → Option (Bool)
  | 0, _, _, _, _, _, _ => none
  | k + 1, x31, x621000, x621001, x621002, x621003, x621004 => if x31 = true then (some false) else (turncockref1_CheckTell.l0 k 0 x621000 x621001 x621002 x621003 x621004)
def turncockref1_CheckTell.l0 : Nat → Int → Int → Int → Bool → List (S154) → List (S152) → Option (Bool)
  | 0, _, _, _, _, _, _ => none
  | k + 1, x3, x621000, x621001, x621002, x621003, x621004 => if x3 < (x621003.length : Int) then (if 0 ≤ x3 then ((turncockref1_coded.f ((rd_T154 x621003 x3).f0)).bind fun t624 => (if t624 = true then (if ((rd_T154 x621003 x3).f1) < 0 then (some false) else (if ((rd_T154 x621003 x3).f1) > 4294967295 then (some false) else (if ((rd_T154 x621003 x3).f3) < 0 then (some false) else (if ((rd_T154 x621003 x3).f3) > 4294967295 then (some false) else (if ((rd_T154 x621003 x3).f2) < 0 then (some false) else (if ((rd_T154 x621003 x3).f2) > 4 then (some false) else (if ((rd_T154 x621003 x3).f4) < 0 then (some false) else (if ((rd_T154 x621003 x3).f4) > 86400 then (some false) else (turncockref1_CheckTell.l0 k (wrap64 (x3 + 1)) x621000 x621001 x621002 x621003 x621004))))))))) else (some false))) else (none)) else (turncockref1_CheckTell.l1 k 0 x621000 x621001 x621002 x621003 x621004)
def turncockref1_CheckTell.l1 : Nat → Int → Int → Int → Bool → List (S154) → List (S152) → Option (Bool)
  | 0, _, _, _, _, _, _ => none
  | k + 1, x5, x621000, x621001, x621002, x621003, x621004 => if x5 < (x621004.length : Int) then (if 0 ≤ x5 then ((turncockref1_Name.f k ((rd_T152 x621004 x5).f0)).bind fun t626 => (if t626 = true then ((turncockref1_printable.f k ((rd_T152 x621004 x5).f1)).bind fun t628 => (if t628 = true then (turncockref1_CheckTell.l1 k (wrap64 (x5 + 1)) x621000 x621001 x621002 x621003 x621004) else (some false))) else (some false))) else (none)) else (some true)
end
def turncockref1_CheckTell.f (k : Nat) (a0_0 : Int) (a0_1 : Int) (a0_2 : Bool) (l0_3 : List (S154)) (l0_4 : List (S152)) : Option (Bool) := if a0_0 < 0 then (turncockref1_CheckTell.j0 k true a0_0 a0_1 a0_2 l0_3 l0_4) else (if a0_0 > 2147483647 then (turncockref1_CheckTell.j0 k true a0_0 a0_1 a0_2 l0_3 l0_4) else ((turncockref1_coded.f a0_1).bind fun t621 => (if t621 = true then (if (l0_3.length : Int) > 16 then (turncockref1_CheckTell.j0 k true a0_0 a0_1 a0_2 l0_3 l0_4) else (turncockref1_CheckTell.j0 k (decide ((l0_4.length : Int) > 4)) a0_0 a0_1 a0_2 l0_3 l0_4)) else (turncockref1_CheckTell.j0 k true a0_0 a0_1 a0_2 l0_3 l0_4))))
theorem turncockref1_CheckTell.mono_l : ∀ k, (∀ y0 y1 y2 y3 y4 y5, LeO (turncockref1_CheckTell.j0 k y0 y1 y2 y3 y4 y5) (turncockref1_CheckTell.j0 (k + 1) y0 y1 y2 y3 y4 y5)) ∧ (∀ y0 y1 y2 y3 y4 y5, LeO (turncockref1_CheckTell.l0 k y0 y1 y2 y3 y4 y5) (turncockref1_CheckTell.l0 (k + 1) y0 y1 y2 y3 y4 y5)) ∧ (∀ y0 y1 y2 y3 y4 y5, LeO (turncockref1_CheckTell.l1 k y0 y1 y2 y3 y4 y5) (turncockref1_CheckTell.l1 (k + 1) y0 y1 y2 y3 y4 y5))
  | 0 => ⟨fun _ _ _ _ _ _ r h => by simp [turncockref1_CheckTell.j0] at h, fun _ _ _ _ _ _ r h => by simp [turncockref1_CheckTell.l0] at h, fun _ _ _ _ _ _ r h => by simp [turncockref1_CheckTell.l1] at h⟩
  | k + 1 => by
    obtain ⟨ih0, ih1, ih2⟩ := turncockref1_CheckTell.mono_l k
    refine ⟨?_, ?_, ?_⟩
    · intro y0 y1 y2 y3 y4 y5
      unfold turncockref1_CheckTell.j0
      repeat' first
      | (with_reducible exact ih0 _ _ _ _ _ _)
      | (with_reducible exact ih1 _ _ _ _ _ _)
      | (with_reducible exact ih2 _ _ _ _ _ _)
      | (with_reducible exact turncockref1_Name.mono _ _)
      | (with_reducible exact turncockref1_printable.mono _ _)
      | (with_reducible exact LeO.refl _)
      | (with_reducible exact LeO.none _)
      | (with_reducible refine LeO.ite ?_ ?_)
      | (with_reducible refine LeO.bind ?_ (fun _ => ?_))
      | exact ih0 _ _ _ _ _ _
      | exact ih1 _ _ _ _ _ _
      | exact ih2 _ _ _ _ _ _
      | exact turncockref1_Name.mono _ _
      | exact turncockref1_printable.mono _ _
      | exact LeO.none _
      | refine LeO.ite ?_ ?_
      | refine LeO.bind ?_ (fun _ => ?_)
    · intro y0 y1 y2 y3 y4 y5
      unfold turncockref1_CheckTell.l0
      repeat' first
      | (with_reducible exact ih0 _ _ _ _ _ _)
      | (with_reducible exact ih1 _ _ _ _ _ _)
      | (with_reducible exact ih2 _ _ _ _ _ _)
      | (with_reducible exact turncockref1_Name.mono _ _)
      | (with_reducible exact turncockref1_printable.mono _ _)
      | (with_reducible exact LeO.refl _)
      | (with_reducible exact LeO.none _)
      | (with_reducible refine LeO.ite ?_ ?_)
      | (with_reducible refine LeO.bind ?_ (fun _ => ?_))
      | exact ih0 _ _ _ _ _ _
      | exact ih1 _ _ _ _ _ _
      | exact ih2 _ _ _ _ _ _
      | exact turncockref1_Name.mono _ _
      | exact turncockref1_printable.mono _ _
      | exact LeO.none _
      | refine LeO.ite ?_ ?_
      | refine LeO.bind ?_ (fun _ => ?_)
    · intro y0 y1 y2 y3 y4 y5
      unfold turncockref1_CheckTell.l1
      repeat' first
      | (with_reducible exact ih0 _ _ _ _ _ _)
      | (with_reducible exact ih1 _ _ _ _ _ _)
      | (with_reducible exact ih2 _ _ _ _ _ _)
      | (with_reducible exact turncockref1_Name.mono _ _)
      | (with_reducible exact turncockref1_printable.mono _ _)
      | (with_reducible exact LeO.refl _)
      | (with_reducible exact LeO.none _)
      | (with_reducible refine LeO.ite ?_ ?_)
      | (with_reducible refine LeO.bind ?_ (fun _ => ?_))
      | exact ih0 _ _ _ _ _ _
      | exact ih1 _ _ _ _ _ _
      | exact ih2 _ _ _ _ _ _
      | exact turncockref1_Name.mono _ _
      | exact turncockref1_printable.mono _ _
      | exact LeO.none _
      | refine LeO.ite ?_ ?_
      | refine LeO.bind ?_ (fun _ => ?_)
theorem turncockref1_CheckTell.mono : ∀ a0 a1 a2 a3 a4 k, LeO (turncockref1_CheckTell.f k a0 a1 a2 a3 a4) (turncockref1_CheckTell.f (k + 1) a0 a1 a2 a3 a4) := by
  intro a0 a1 a2 a3 a4 k
  obtain ⟨ih0, ih1, ih2⟩ := turncockref1_CheckTell.mono_l k
  unfold turncockref1_CheckTell.f
  repeat' first
      | (with_reducible exact ih0 _ _ _ _ _ _)
      | (with_reducible exact ih1 _ _ _ _ _ _)
      | (with_reducible exact ih2 _ _ _ _ _ _)
      | (with_reducible exact turncockref1_Name.mono _ _)
      | (with_reducible exact turncockref1_printable.mono _ _)
      | (with_reducible exact LeO.refl _)
      | (with_reducible exact LeO.none _)
      | (with_reducible refine LeO.ite ?_ ?_)
      | (with_reducible refine LeO.bind ?_ (fun _ => ?_))
      | exact ih0 _ _ _ _ _ _
      | exact ih1 _ _ _ _ _ _
      | exact ih2 _ _ _ _ _ _
      | exact turncockref1_Name.mono _ _
      | exact turncockref1_printable.mono _ _
      | exact LeO.none _
      | refine LeO.ite ?_ ?_
      | refine LeO.bind ?_ (fun _ => ?_)
set_option maxHeartbeats 8000000 in
set_option maxRecDepth 100000 in
theorem turncockref1_CheckTell.calls (k : Nat) (a0_0 : Int) (a0_1 : Int) (a0_2 : Bool) (A0_3 : Option Addr) (c0_3 : Nat) (l0_3 : List (S154)) (A0_4 : Option Addr) (c0_4 : Nat) (l0_4 : List (S152)) (r : Bool) (w : World) (hr0_3 : Kd.C k154 w A0_3 l0_3.length l0_3) (hc0_3 : l0_3.length ≤ c0_3) (hr0_4 : Kd.C k152 w A0_4 l0_4.length l0_4) (hc0_4 : l0_4.length ≤ c0_4) (h : turncockref1_CheckTell.f k a0_0 a0_1 a0_2 l0_3 l0_4 = some r) :
    Calls Try.prog 92 #[.agg #[.int .i64 a0_0, .int .i64 a0_1, .bool a0_2, .slice A0_3 l0_3.length c0_3, .slice A0_4 l0_4.length c0_4]] w fun e w' => e = .returned (.bool r) ∧ Below w.heap.size w w' := by
  have hu108 := Try.underlying108
  have hu154 := Try.underlying154
  have HR0_3 := Aside0.mk hr0_3
  have HC0_3 := Aside0.mk hc0_3
  clear hr0_3 hc0_3
  have HR0_4 := Aside0.mk hr0_4
  have HC0_4 := Aside0.mk hc0_4
  clear hr0_4 hc0_4
  have HB := Aside0.mk (Below.refl w.heap.size w)
  have H : (if a0_0 < 0 then (turncockref1_CheckTell.j0 k true a0_0 a0_1 a0_2 l0_3 l0_4) else (if a0_0 > 2147483647 then (turncockref1_CheckTell.j0 k true a0_0 a0_1 a0_2 l0_3 l0_4) else ((turncockref1_coded.f a0_1).bind fun t621 => (if t621 = true then (if (l0_3.length : Int) > 16 then (turncockref1_CheckTell.j0 k true a0_0 a0_1 a0_2 l0_3 l0_4) else (turncockref1_CheckTell.j0 k (decide ((l0_4.length : Int) > 4)) a0_0 a0_1 a0_2 l0_3 l0_4)) else (turncockref1_CheckTell.j0 k true a0_0 a0_1 a0_2 l0_3 l0_4))))) = some r := h
  clear h
  have HC2 := Aside0.mk H
  clear H
  go_enter Try.func92, Try.ntmps92
  go_upto_region 1 with (first | ((with_reducible refine gate_dst (N := 1) rfl ?_); (try (refine gate_guard (by rfl) ?_; dsimp only)); refine box_event ?hg (N := 1) ?hd (cs := #[.int .i64 a0_0, .int .i64 a0_1, .bool a0_2, .slice A0_3 l0_3.length c0_3, .slice A0_4 l0_4.length c0_4]) (t := 108) ?hr ?_; (case hd => rfl); (case hg => rfl); (case hr => first | (go_simp; done) | (go_simp; rfl)); intro gb620 hg w3 hbox hb; have n0_ := Aside0.mk (below_step (by repeat (first | (with_reducible first | exact HB.out | apply below_alloc | apply pw_below_drewN | apply below_drew1) | exact HB.out)) hb); have n1_ := Aside0.mk (hbox); have n2_ := Aside0.mk ((by rw [hg]; exact (below_size (by repeat (first | (with_reducible first | exact HB.out | apply below_alloc | apply pw_below_drewN | apply below_drew1) | exact HB.out))) : w.heap.size ≤ gb620)); have n3_ := Aside0.mk ((by rw [hg]; exact (below_size (by repeat (first | (with_reducible first | exact HB.out | apply below_alloc | apply pw_below_drewN | apply below_drew1) | exact HB.out))) : w.heap.size ≤ gb620)); clear HB; have HB := n0_; have BK620 := n1_; have GW620 := n2_; have GE620 := n3_; clear n0_ n1_ n2_ n3_; clear hb hbox hg))
  (try simp only [Act.put, List.setIfInBounds_toArray, List.set_cons_zero, List.set_cons_succ])
  go_cut [31] (fun v31 wc => ∃ (kq : Nat) (x31_1 : Bool), v31 = .bool x31_1 ∧ Aside0 (turncockref1_CheckTell.j0 kq x31_1 a0_0 a0_1 a0_2 l0_3 l0_4 = some r) ∧ Aside0 (kq ≤ k) ∧ Aside0 (wc.heap[gb620]? = some (.cells #[.int .i64 a0_0, .int .i64 a0_1, .bool a0_2, (.slice A0_3 l0_3.length c0_3), (.slice A0_4 l0_4.length c0_4)] 108 (0, 0))) ∧ Aside0 (Below w.heap.size w wc))
  case first =>
    have H := HC2.out
    clear HC2
    by_cases c4 : a0_0 < 0
    · rw [if_pos c4] at H
      have c4b0 : decide (a0_0 < 0) = true := decide_eq_true c4
      clear c4
      (first | rw [c4b0] | (simp only [i64_w, i32_w]; rw [c4b0]) | skip)
      have H' := Aside0.mk H
      clear H
      have hcz5_0 : w3.cell? ⟨gb620, 0, none⟩ = some (.int .i64 a0_0) := (blk_cell BK620.out 0).trans rfl
      have hcz5_1 : w3.cell? ⟨gb620, 1, none⟩ = some (.int .i64 a0_1) := (blk_cell BK620.out 1).trans rfl
      have hcz5_2 : w3.cell? ⟨gb620, 2, none⟩ = some (.bool a0_2) := (blk_cell BK620.out 2).trans rfl
      have hcz5_3 : w3.cell? ⟨gb620, 3, none⟩ = some (.slice A0_3 l0_3.length c0_3) := (blk_cell BK620.out 3).trans rfl
      have hcz5_4 : w3.cell? ⟨gb620, 4, none⟩ = some (.slice A0_4 l0_4.length c0_4) := (blk_cell BK620.out 4).trans rfl
      have hfz5_0 := blk_frozen BK620.out 0
      have hfz5_1 := blk_frozen BK620.out 1
      have hfz5_2 := blk_frozen BK620.out 2
      have hfz5_3 := blk_frozen BK620.out 3
      have hfz5_4 := blk_frozen BK620.out 4
      go_wp2
      go_meet
      case rel => exact ⟨_, (true), (by first | rfl | (simp; done) | (simp [*]; done)), H', ⟨by first | omega | exact Nat.le_refl _⟩, ⟨by (with_reducible repeat (first | refine blk_drewN ?_ _ | refine blk_drew ?_ | refine blk_alloc ?_ _)); exact BK620.out⟩, ⟨by repeat (first | (with_reducible first | exact HB.out | apply below_alloc | apply pw_below_drewN | apply below_drew1 | refine below_set ?_ GE620.out) | exact HB.out)⟩⟩
    · rw [if_neg c4] at H
      have c4b0 : decide (a0_0 < 0) = false := decide_eq_false c4
      clear c4
      (first | rw [c4b0] | (simp only [i64_w, i32_w]; rw [c4b0]) | skip)
      by_cases c6 : a0_0 > 2147483647
      · rw [if_pos c6] at H
        have c6b0 : decide (2147483647 < a0_0) = true := decide_eq_true c6
        clear c6
        have H' := Aside0.mk H
        clear H
        have hcz7_0 : w3.cell? ⟨gb620, 0, none⟩ = some (.int .i64 a0_0) := (blk_cell BK620.out 0).trans rfl
        have hcz7_1 : w3.cell? ⟨gb620, 1, none⟩ = some (.int .i64 a0_1) := (blk_cell BK620.out 1).trans rfl
        have hcz7_2 : w3.cell? ⟨gb620, 2, none⟩ = some (.bool a0_2) := (blk_cell BK620.out 2).trans rfl
        have hcz7_3 : w3.cell? ⟨gb620, 3, none⟩ = some (.slice A0_3 l0_3.length c0_3) := (blk_cell BK620.out 3).trans rfl
        have hcz7_4 : w3.cell? ⟨gb620, 4, none⟩ = some (.slice A0_4 l0_4.length c0_4) := (blk_cell BK620.out 4).trans rfl
        have hfz7_0 := blk_frozen BK620.out 0
        have hfz7_1 := blk_frozen BK620.out 1
        have hfz7_2 := blk_frozen BK620.out 2
        have hfz7_3 := blk_frozen BK620.out 3
        have hfz7_4 := blk_frozen BK620.out 4
        go_wp2
        go_meet
        case rel => exact ⟨_, (true), (by first | rfl | (simp; done) | (simp [*]; done)), H', ⟨by first | omega | exact Nat.le_refl _⟩, ⟨by (with_reducible repeat (first | refine blk_drewN ?_ _ | refine blk_drew ?_ | refine blk_alloc ?_ _)); exact BK620.out⟩, ⟨by repeat (first | (with_reducible first | exact HB.out | apply below_alloc | apply pw_below_drewN | apply below_drew1 | refine below_set ?_ GE620.out) | exact HB.out)⟩⟩
      · rw [if_neg c6] at H
        have c6b0 : decide (2147483647 < a0_0) = false := decide_eq_false c6
        clear c6
        replace H := Option.bind_eq_some_iff.mp H
        obtain ⟨t621, A80, H⟩ := H
        replace H : (if t621 = true then (if (l0_3.length : Int) > 16 then (turncockref1_CheckTell.j0 k true a0_0 a0_1 a0_2 l0_3 l0_4) else (turncockref1_CheckTell.j0 k (decide ((l0_4.length : Int) > 4)) a0_0 a0_1 a0_2 l0_3 l0_4)) else (turncockref1_CheckTell.j0 k true a0_0 a0_1 a0_2 l0_3 l0_4)) = some r := H
        have A8 := Aside0.mk A80
        clear A80
        by_cases c9 : t621 = true
        · subst c9
          have H1 : (if (l0_3.length : Int) > 16 then (turncockref1_CheckTell.j0 k true a0_0 a0_1 a0_2 l0_3 l0_4) else (turncockref1_CheckTell.j0 k (decide ((l0_4.length : Int) > 4)) a0_0 a0_1 a0_2 l0_3 l0_4)) = some r := by rw [if_pos rfl] at H; exact H
          clear H
          have H := H1
          clear H1
          by_cases c10 : (l0_3.length : Int) > 16
          · rw [if_pos c10] at H
            have c10b0 : decide (16 < (l0_3.length : Int)) = true := decide_eq_true c10
            have c10b1 : decide (16 < l0_3.length) = true := decide_eq_true (by omega)
            clear c10
            have H' := Aside0.mk H
            clear H
            have hcz11_0 : w3.cell? ⟨gb620, 0, none⟩ = some (.int .i64 a0_0) := (blk_cell BK620.out 0).trans rfl
            have hcz11_1 : w3.cell? ⟨gb620, 1, none⟩ = some (.int .i64 a0_1) := (blk_cell BK620.out 1).trans rfl
            have hcz11_2 : w3.cell? ⟨gb620, 2, none⟩ = some (.bool a0_2) := (blk_cell BK620.out 2).trans rfl
            have hcz11_3 : w3.cell? ⟨gb620, 3, none⟩ = some (.slice A0_3 l0_3.length c0_3) := (blk_cell BK620.out 3).trans rfl
            have hcz11_4 : w3.cell? ⟨gb620, 4, none⟩ = some (.slice A0_4 l0_4.length c0_4) := (blk_cell BK620.out 4).trans rfl
            have hfz11_0 := blk_frozen BK620.out 0
            have hfz11_1 := blk_frozen BK620.out 1
            have hfz11_2 := blk_frozen BK620.out 2
            have hfz11_3 := blk_frozen BK620.out 3
            have hfz11_4 := blk_frozen BK620.out 4
            go_wp2_with (first | (go_at_call 130; (with_reducible refine (turncockref1_coded.calls a0_1 true _ A8.out).mono ?_); rintro e w' ⟨rfl, ⟨nd, rfl⟩⟩))
            go_meet
            case rel => exact ⟨_, (true), (by first | rfl | (simp; done) | (simp [*]; done)), H', ⟨by first | omega | exact Nat.le_refl _⟩, ⟨by (with_reducible repeat (first | refine blk_drewN ?_ _ | refine blk_drew ?_ | refine blk_alloc ?_ _)); exact BK620.out⟩, ⟨by repeat (first | (with_reducible first | exact HB.out | apply below_alloc | apply pw_below_drewN | apply below_drew1 | refine below_set ?_ GE620.out) | exact HB.out)⟩⟩
          · rw [if_neg c10] at H
            have c10b0 : decide (16 < (l0_3.length : Int)) = false := decide_eq_false c10
            have c10b1 : decide (16 < l0_3.length) = false := decide_eq_false (by omega)
            clear c10
            have H' := Aside0.mk H
            clear H
            have hcz12_0 : w3.cell? ⟨gb620, 0, none⟩ = some (.int .i64 a0_0) := (blk_cell BK620.out 0).trans rfl
            have hcz12_1 : w3.cell? ⟨gb620, 1, none⟩ = some (.int .i64 a0_1) := (blk_cell BK620.out 1).trans rfl
            have hcz12_2 : w3.cell? ⟨gb620, 2, none⟩ = some (.bool a0_2) := (blk_cell BK620.out 2).trans rfl
            have hcz12_3 : w3.cell? ⟨gb620, 3, none⟩ = some (.slice A0_3 l0_3.length c0_3) := (blk_cell BK620.out 3).trans rfl
            have hcz12_4 : w3.cell? ⟨gb620, 4, none⟩ = some (.slice A0_4 l0_4.length c0_4) := (blk_cell BK620.out 4).trans rfl
            have hfz12_0 := blk_frozen BK620.out 0
            have hfz12_1 := blk_frozen BK620.out 1
            have hfz12_2 := blk_frozen BK620.out 2
            have hfz12_3 := blk_frozen BK620.out 3
            have hfz12_4 := blk_frozen BK620.out 4
            go_wp2_with (first | (go_at_call 130; (with_reducible refine (turncockref1_coded.calls a0_1 true _ A8.out).mono ?_); rintro e w' ⟨rfl, ⟨nd, rfl⟩⟩))
            go_meet
            case rel => exact ⟨_, (decide ((l0_4.length : Int) > 4)), (by first | rfl | (simp; done) | (simp [*]; done)), H', ⟨by first | omega | exact Nat.le_refl _⟩, ⟨by (with_reducible repeat (first | refine blk_drewN ?_ _ | refine blk_drew ?_ | refine blk_alloc ?_ _)); exact BK620.out⟩, ⟨by repeat (first | (with_reducible first | exact HB.out | apply below_alloc | apply pw_below_drewN | apply below_drew1 | refine below_set ?_ GE620.out) | exact HB.out)⟩⟩
        · replace c9 := Bool.eq_false_iff.mpr c9
          subst c9
          have H1 : (turncockref1_CheckTell.j0 k true a0_0 a0_1 a0_2 l0_3 l0_4) = some r := by rw [if_neg (show ¬ (false = true) by decide)] at H; exact H
          clear H
          have H := H1
          clear H1
          have H' := Aside0.mk H
          clear H
          have hcz13_0 : w3.cell? ⟨gb620, 0, none⟩ = some (.int .i64 a0_0) := (blk_cell BK620.out 0).trans rfl
          have hcz13_1 : w3.cell? ⟨gb620, 1, none⟩ = some (.int .i64 a0_1) := (blk_cell BK620.out 1).trans rfl
          have hcz13_2 : w3.cell? ⟨gb620, 2, none⟩ = some (.bool a0_2) := (blk_cell BK620.out 2).trans rfl
          have hcz13_3 : w3.cell? ⟨gb620, 3, none⟩ = some (.slice A0_3 l0_3.length c0_3) := (blk_cell BK620.out 3).trans rfl
          have hcz13_4 : w3.cell? ⟨gb620, 4, none⟩ = some (.slice A0_4 l0_4.length c0_4) := (blk_cell BK620.out 4).trans rfl
          have hfz13_0 := blk_frozen BK620.out 0
          have hfz13_1 := blk_frozen BK620.out 1
          have hfz13_2 := blk_frozen BK620.out 2
          have hfz13_3 := blk_frozen BK620.out 3
          have hfz13_4 := blk_frozen BK620.out 4
          go_wp2_with (first | (go_at_call 130; (with_reducible refine (turncockref1_coded.calls a0_1 false _ A8.out).mono ?_); rintro e w' ⟨rfl, ⟨nd, rfl⟩⟩))
          go_meet
          case rel => exact ⟨_, (true), (by first | rfl | (simp; done) | (simp [*]; done)), H', ⟨by first | omega | exact Nat.le_refl _⟩, ⟨by (with_reducible repeat (first | refine blk_drewN ?_ _ | refine blk_drew ?_ | refine blk_alloc ?_ _)); exact BK620.out⟩, ⟨by repeat (first | (with_reducible first | exact HB.out | apply below_alloc | apply pw_below_drewN | apply below_drew1 | refine below_set ?_ GE620.out) | exact HB.out)⟩⟩
  case rest =>
    clear HC2
    try clear c1
    try clear p2
    try clear c4
    try clear c4b0
    try clear c6
    try clear c6b0
    try clear c9
    try clear c10
    try clear c10b0
    try clear c10b1
    try clear hcz11_0
    try clear hcz11_1
    try clear hcz11_2
    try clear hcz11_3
    try clear hcz11_4
    try clear hcz12_0
    try clear hcz12_1
    try clear hcz12_2
    try clear hcz12_3
    try clear hcz12_4
    try clear hcz13_0
    try clear hcz13_1
    try clear hcz13_2
    try clear hcz13_3
    try clear hcz13_4
    try clear hcz5_0
    try clear hcz5_1
    try clear hcz5_2
    try clear hcz5_3
    try clear hcz5_4
    try clear hcz7_0
    try clear hcz7_1
    try clear hcz7_2
    try clear hcz7_3
    try clear hcz7_4
    try clear hfz11_0
    try clear hfz11_1
    try clear hfz11_2
    try clear hfz11_3
    try clear hfz11_4
    try clear hfz12_0
    try clear hfz12_1
    try clear hfz12_2
    try clear hfz12_3
    try clear hfz12_4
    try clear hfz13_0
    try clear hfz13_1
    try clear hfz13_2
    try clear hfz13_3
    try clear hfz13_4
    try clear hfz5_0
    try clear hfz5_1
    try clear hfz5_2
    try clear hfz5_3
    try clear hfz5_4
    try clear hfz7_0
    try clear hfz7_1
    try clear hfz7_2
    try clear hfz7_3
    try clear hfz7_4
    obtain ⟨kq, x31_1, rfl, HA, HJ1, BK620, HB⟩ := hcut
    cases kq with
    | zero => exact absurd HA.out (by simp [turncockref1_CheckTell.j0])
    | succ kj1 =>
      have H := HA.out
      clear HA
      simp only [turncockref1_CheckTell.j0] at H
      by_cases c14 : x31_1 = true
      · subst c14
        have H1 : (some false) = some r := by rw [if_pos rfl] at H; exact H
        clear H
        have H := H1
        clear H1
        obtain rfl := Option.some.inj H
        go_wp2
        go_ret
        exact ⟨by first | rfl | (simp [errW_none, errW_some] <;> rfl) | (simp [*, errW_none, errW_some] <;> rfl), by repeat (first | (with_reducible first | exact HB.out | apply below_alloc | apply pw_below_drewN | apply below_drew1 | refine below_set ?_ GE620.out) | exact HB.out)⟩
      · replace c14 := Bool.eq_false_iff.mpr c14
        subst c14
        have H1 : (turncockref1_CheckTell.l0 kj1 0 a0_0 a0_1 a0_2 l0_3 l0_4) = some r := by rw [if_neg (show ¬ (false = true) by decide)] at H; exact H
        clear H
        have H := H1
        clear H1
        have H' := Aside0.mk H
        clear H
        go_wp2
        go_loopg [3] kj1 (fun kq v3 w' => ∃ (x3_2 : Int), v3 = .int .i64 x3_2 ∧ Aside0 (turncockref1_CheckTell.l0 kq x3_2 a0_0 a0_1 a0_2 l0_3 l0_4 = some r) ∧ Aside0 (kq ≤ kj1) ∧ Aside0 (w'.heap[gb620]? = some (.cells #[.int .i64 a0_0, .int .i64 a0_1, .bool a0_2, (.slice A0_3 l0_3.length c0_3), (.slice A0_4 l0_4.length c0_4)] 108 (0, 0))) ∧ Aside0 (Below w.heap.size w w'))
        case atStart => exact ⟨(0), (by first | rfl | (simp; done) | (simp [*]; done)), H', ⟨Nat.le_refl _⟩, ⟨by (with_reducible repeat (first | refine blk_drewN ?_ _ | refine blk_drew ?_ | refine blk_alloc ?_ _)); exact BK620.out⟩, ⟨by repeat (first | (with_reducible first | exact HB.out | apply below_alloc | apply pw_below_drewN | apply below_drew1 | refine below_set ?_ GE620.out) | exact HB.out)⟩⟩
        case round =>
          clear H'
          try clear c1
          try clear p2
          try clear c4
          try clear c4b0
          try clear c6
          try clear c6b0
          try clear c9
          try clear c10
          try clear c10b0
          try clear c10b1
          try clear c14
          try clear hcz11_0
          try clear hcz11_1
          try clear hcz11_2
          try clear hcz11_3
          try clear hcz11_4
          try clear hcz12_0
          try clear hcz12_1
          try clear hcz12_2
          try clear hcz12_3
          try clear hcz12_4
          try clear hcz13_0
          try clear hcz13_1
          try clear hcz13_2
          try clear hcz13_3
          try clear hcz13_4
          try clear hcz5_0
          try clear hcz5_1
          try clear hcz5_2
          try clear hcz5_3
          try clear hcz5_4
          try clear hcz7_0
          try clear hcz7_1
          try clear hcz7_2
          try clear hcz7_3
          try clear hcz7_4
          try clear hfz11_0
          try clear hfz11_1
          try clear hfz11_2
          try clear hfz11_3
          try clear hfz11_4
          try clear hfz12_0
          try clear hfz12_1
          try clear hfz12_2
          try clear hfz12_3
          try clear hfz12_4
          try clear hfz13_0
          try clear hfz13_1
          try clear hfz13_2
          try clear hfz13_3
          try clear hfz13_4
          try clear hfz5_0
          try clear hfz5_1
          try clear hfz5_2
          try clear hfz5_3
          try clear hfz5_4
          try clear hfz7_0
          try clear hfz7_1
          try clear hfz7_2
          try clear hfz7_3
          try clear hfz7_4
          try clear p2
          obtain ⟨x3_2, rfl, HA, HK2, BK620, HB⟩ := hrel
          cases gk with
          | zero => exact absurd HA.out (by simp [turncockref1_CheckTell.l0])
          | succ k2 =>
            have H := HA.out
            clear HA
            simp only [turncockref1_CheckTell.l0] at H
            by_cases c15 : x3_2 < (l0_3.length : Int)
            · rw [if_pos c15] at H
              have c15b0 : decide (x3_2 < (l0_3.length : Int)) = true := decide_eq_true c15
              clear c15
              by_cases c16 : 0 ≤ x3_2
              · rw [if_pos c16] at H
                have c16b0 : decide (0 ≤ x3_2) = true := decide_eq_true c16
                clear c16
                replace H := Option.bind_eq_some_iff.mp H
                obtain ⟨t624, A170, H⟩ := H
                replace H : (if t624 = true then (if ((rd_T154 l0_3 x3_2).f1) < 0 then (some false) else (if ((rd_T154 l0_3 x3_2).f1) > 4294967295 then (some false) else (if ((rd_T154 l0_3 x3_2).f3) < 0 then (some false) else (if ((rd_T154 l0_3 x3_2).f3) > 4294967295 then (some false) else (if ((rd_T154 l0_3 x3_2).f2) < 0 then (some false) else (if ((rd_T154 l0_3 x3_2).f2) > 4 then (some false) else (if ((rd_T154 l0_3 x3_2).f4) < 0 then (some false) else (if ((rd_T154 l0_3 x3_2).f4) > 86400 then (some false) else (turncockref1_CheckTell.l0 k2 (wrap64 (x3_2 + 1)) a0_0 a0_1 a0_2 l0_3 l0_4))))))))) else (some false)) = some r := H
                have A17 := Aside0.mk A170
                clear A170
                by_cases c18 : t624 = true
                · subst c18
                  have H1 : (if ((rd_T154 l0_3 x3_2).f1) < 0 then (some false) else (if ((rd_T154 l0_3 x3_2).f1) > 4294967295 then (some false) else (if ((rd_T154 l0_3 x3_2).f3) < 0 then (some false) else (if ((rd_T154 l0_3 x3_2).f3) > 4294967295 then (some false) else (if ((rd_T154 l0_3 x3_2).f2) < 0 then (some false) else (if ((rd_T154 l0_3 x3_2).f2) > 4 then (some false) else (if ((rd_T154 l0_3 x3_2).f4) < 0 then (some false) else (if ((rd_T154 l0_3 x3_2).f4) > 86400 then (some false) else (turncockref1_CheckTell.l0 k2 (wrap64 (x3_2 + 1)) a0_0 a0_1 a0_2 l0_3 l0_4))))))))) = some r := by rw [if_pos rfl] at H; exact H
                  clear H
                  have H := H1
                  clear H1
                  by_cases c19 : ((rd_T154 l0_3 x3_2).f1) < 0
                  · rw [if_pos c19] at H
                    have c19b0 : decide (((rd_T154 l0_3 x3_2).f1) < 0) = true := decide_eq_true c19
                    clear c19
                    obtain rfl := Option.some.inj H
                    have hcz20_0 : wr.cell? ⟨gb620, 0, none⟩ = some (.int .i64 a0_0) := (blk_cell BK620.out 0).trans rfl
                    have hcz20_1 : wr.cell? ⟨gb620, 1, none⟩ = some (.int .i64 a0_1) := (blk_cell BK620.out 1).trans rfl
                    have hcz20_2 : wr.cell? ⟨gb620, 2, none⟩ = some (.bool a0_2) := (blk_cell BK620.out 2).trans rfl
                    have hcz20_3 : wr.cell? ⟨gb620, 3, none⟩ = some (.slice A0_3 l0_3.length c0_3) := (blk_cell BK620.out 3).trans rfl
                    have hcz20_4 : wr.cell? ⟨gb620, 4, none⟩ = some (.slice A0_4 l0_4.length c0_4) := (blk_cell BK620.out 4).trans rfl
                    have hfz20_0 := blk_frozen BK620.out 0
                    have hfz20_1 := blk_frozen BK620.out 1
                    have hfz20_2 := blk_frozen BK620.out 2
                    have hfz20_3 := blk_frozen BK620.out 3
                    have hfz20_4 := blk_frozen BK620.out 4
                    have p622 : 0 ≤ (x3_2 : Int) := of_decide_eq_true (by first | (with_reducible assumption) | assumption)
                    have q622 : x3_2 < (l0_3.length : Int) := of_decide_eq_true (by first | (with_reducible assumption) | assumption)
                    obtain ⟨ad622, e622, hx622_0, hx622_1, hx622_2, hx622_3, hx622_4⟩ := at_T154 HR0_3.out x3_2 p622 q622
                    cases e622
                    replace hx622_0 := (HB.out.cell (World.block_lt_of_cell? w _ hx622_0)).trans hx622_0
                    replace hx622_1 := (HB.out.cell (World.block_lt_of_cell? w _ hx622_1)).trans hx622_1
                    replace hx622_2 := (HB.out.cell (World.block_lt_of_cell? w _ hx622_2)).trans hx622_2
                    replace hx622_3 := (HB.out.cell (World.block_lt_of_cell? w _ hx622_3)).trans hx622_3
                    replace hx622_4 := (HB.out.cell (World.block_lt_of_cell? w _ hx622_4)).trans hx622_4
                    replace p622 := eq_true p622
                    replace q622 := eq_true q622
                    go_wp2_with (first | ((with_reducible refine gate_dst (N := 4) rfl ?_); (try (refine gate_guard (by rfl) ?_; dsimp only)); refine box_event ?hg (N := 4) ?hd (cs := #[.int .i64 0, .int .i64 0, .int .i64 0, .int .i64 0, .int .i64 0]) (t := 154) ?hr ?_; (case hd => rfl); (case hg => rfl); (case hr => first | (go_simp; done) | (go_simp; rfl)); intro gb623 hg w21 hbox hb; have n0_ := Aside0.mk (blk_below (g := gb620) (o := .cells #[.int .i64 a0_0, .int .i64 a0_1, .bool a0_2, .slice (some ad622) l0_3.length c0_3, .slice A0_4 l0_4.length c0_4] 108 (0, 0)) (by (with_reducible repeat (first | refine blk_drewN ?_ _ | refine blk_drew ?_ | refine blk_alloc ?_ _)); exact BK620.out) hb); have n1_ := Aside0.mk (below_step (by repeat (first | (with_reducible first | exact HB.out | apply below_alloc | apply pw_below_drewN | apply below_drew1 | refine below_set ?_ GE620.out) | exact HB.out)) hb); have n2_ := Aside0.mk (hbox); have n3_ := Aside0.mk ((by rw [hg]; exact (below_size (by repeat (first | (with_reducible first | exact HB.out | apply below_alloc | apply pw_below_drewN | apply below_drew1 | refine below_set ?_ GE620.out) | exact HB.out))) : w.heap.size ≤ gb623)); have n4_ := Aside0.mk ((by rw [hg]; exact (below_size (by repeat (first | (with_reducible first | exact HB.out | apply below_alloc | apply pw_below_drewN | apply below_drew1 | refine below_set ?_ GE620.out) | exact HB.out))) : w.heap.size ≤ gb623)); have n5_ := Aside0.mk ((by rw [hg]; exact Nat.ne_of_lt (blk_lt (g := gb620) (o := .cells #[.int .i64 a0_0, .int .i64 a0_1, .bool a0_2, .slice (some ad622) l0_3.length c0_3, .slice A0_4 l0_4.length c0_4] 108 (0, 0)) (by (with_reducible repeat (first | refine blk_drewN ?_ _ | refine blk_drew ?_ | refine blk_alloc ?_ _)); exact BK620.out)) : gb620 ≠ gb623)); have n6_ := Aside0.mk ((by rw [hg]; exact Nat.ne_of_gt (blk_lt (g := gb620) (o := .cells #[.int .i64 a0_0, .int .i64 a0_1, .bool a0_2, .slice (some ad622) l0_3.length c0_3, .slice A0_4 l0_4.length c0_4] 108 (0, 0)) (by (with_reducible repeat (first | refine blk_drewN ?_ _ | refine blk_drew ?_ | refine blk_alloc ?_ _)); exact BK620.out)) : gb623 ≠ gb620)); clear BK620; clear HB; have BK620 := n0_; have HB := n1_; have BK623 := n2_; have GW623 := n3_; have GE623 := n4_; have NB620_623 := n5_; have NB623_620 := n6_; clear n0_ n1_ n2_ n3_ n4_ n5_ n6_; clear hb hbox hg; have hnb22 := NB623_620.out; have hnc22 := NB620_623.out; have hcz23_0 : w21.cell? ⟨gb623, 0, none⟩ = some (.int .i64 0) := (blk_cell BK623.out 0).trans rfl; have hcz23_1 : w21.cell? ⟨gb623, 1, none⟩ = some (.int .i64 0) := (blk_cell BK623.out 1).trans rfl; have hcz23_2 : w21.cell? ⟨gb623, 2, none⟩ = some (.int .i64 0) := (blk_cell BK623.out 2).trans rfl; have hcz23_3 : w21.cell? ⟨gb623, 3, none⟩ = some (.int .i64 0) := (blk_cell BK623.out 3).trans rfl; have hcz23_4 : w21.cell? ⟨gb623, 4, none⟩ = some (.int .i64 0) := (blk_cell BK623.out 4).trans rfl; have hfz23_0 := blk_frozen BK623.out 0; have hfz23_1 := blk_frozen BK623.out 1; have hfz23_2 := blk_frozen BK623.out 2; have hfz23_3 := blk_frozen BK623.out 3; have hfz23_4 := blk_frozen BK623.out 4) | ((with_reducible refine gate_callee (f := 130) rfl ?_); refine goesL_ (some 46) rfl rfl Try.func130 (by kernel_rfl) rfl #[.int .i64 ((rd_T154 l0_3 x3_2).f0)] rfl (by (try simp only [List.map_toArray, List.map_cons, List.map_nil]); first | done | rfl | (simp only [List.length_drop, List.length_take]; rfl)) ?_; (with_reducible refine (turncockref1_coded.calls ((rd_T154 l0_3 x3_2).f0) true _ A17.out).mono ?_); rintro e w' ⟨rfl, ⟨nd, rfl⟩⟩; refine ⟨_, rfl, ?_⟩))
                    go_ret
                    exact ⟨by first | rfl | (simp [errW_none, errW_some] <;> rfl) | (simp [*, errW_none, errW_some] <;> rfl), by repeat (first | (with_reducible first | exact HB.out | apply below_alloc | apply pw_below_drewN | apply below_drew1 | refine below_set ?_ GE620.out | refine below_set ?_ GE623.out) | exact HB.out)⟩
                  · rw [if_neg c19] at H
                    have c19b0 : decide (((rd_T154 l0_3 x3_2).f1) < 0) = false := decide_eq_false c19
                    clear c19
                    by_cases c24 : ((rd_T154 l0_3 x3_2).f1) > 4294967295
                    · rw [if_pos c24] at H
                      have c24b0 : decide (4294967295 < ((rd_T154 l0_3 x3_2).f1)) = true := decide_eq_true c24
                      clear c24
                      obtain rfl := Option.some.inj H
                      have hcz25_0 : wr.cell? ⟨gb620, 0, none⟩ = some (.int .i64 a0_0) := (blk_cell BK620.out 0).trans rfl
                      have hcz25_1 : wr.cell? ⟨gb620, 1, none⟩ = some (.int .i64 a0_1) := (blk_cell BK620.out 1).trans rfl
                      have hcz25_2 : wr.cell? ⟨gb620, 2, none⟩ = some (.bool a0_2) := (blk_cell BK620.out 2).trans rfl
                      have hcz25_3 : wr.cell? ⟨gb620, 3, none⟩ = some (.slice A0_3 l0_3.length c0_3) := (blk_cell BK620.out 3).trans rfl
                      have hcz25_4 : wr.cell? ⟨gb620, 4, none⟩ = some (.slice A0_4 l0_4.length c0_4) := (blk_cell BK620.out 4).trans rfl
                      have hfz25_0 := blk_frozen BK620.out 0
                      have hfz25_1 := blk_frozen BK620.out 1
                      have hfz25_2 := blk_frozen BK620.out 2
                      have hfz25_3 := blk_frozen BK620.out 3
                      have hfz25_4 := blk_frozen BK620.out 4
                      have p622 : 0 ≤ (x3_2 : Int) := of_decide_eq_true (by first | (with_reducible assumption) | assumption)
                      have q622 : x3_2 < (l0_3.length : Int) := of_decide_eq_true (by first | (with_reducible assumption) | assumption)
                      obtain ⟨ad622, e622, hx622_0, hx622_1, hx622_2, hx622_3, hx622_4⟩ := at_T154 HR0_3.out x3_2 p622 q622
                      cases e622
                      replace hx622_0 := (HB.out.cell (World.block_lt_of_cell? w _ hx622_0)).trans hx622_0
                      replace hx622_1 := (HB.out.cell (World.block_lt_of_cell? w _ hx622_1)).trans hx622_1
                      replace hx622_2 := (HB.out.cell (World.block_lt_of_cell? w _ hx622_2)).trans hx622_2
                      replace hx622_3 := (HB.out.cell (World.block_lt_of_cell? w _ hx622_3)).trans hx622_3
                      replace hx622_4 := (HB.out.cell (World.block_lt_of_cell? w _ hx622_4)).trans hx622_4
                      replace p622 := eq_true p622
                      replace q622 := eq_true q622
                      go_wp2_with (first | ((with_reducible refine gate_dst (N := 4) rfl ?_); (try (refine gate_guard (by rfl) ?_; dsimp only)); refine box_event ?hg (N := 4) ?hd (cs := #[.int .i64 0, .int .i64 0, .int .i64 0, .int .i64 0, .int .i64 0]) (t := 154) ?hr ?_; (case hd => rfl); (case hg => rfl); (case hr => first | (go_simp; done) | (go_simp; rfl)); intro gb623 hg w26 hbox hb; have n0_ := Aside0.mk (blk_below (g := gb620) (o := .cells #[.int .i64 a0_0, .int .i64 a0_1, .bool a0_2, .slice (some ad622) l0_3.length c0_3, .slice A0_4 l0_4.length c0_4] 108 (0, 0)) (by (with_reducible repeat (first | refine blk_drewN ?_ _ | refine blk_drew ?_ | refine blk_alloc ?_ _)); exact BK620.out) hb); have n1_ := Aside0.mk (below_step (by repeat (first | (with_reducible first | exact HB.out | apply below_alloc | apply pw_below_drewN | apply below_drew1 | refine below_set ?_ GE620.out) | exact HB.out)) hb); have n2_ := Aside0.mk (hbox); have n3_ := Aside0.mk ((by rw [hg]; exact (below_size (by repeat (first | (with_reducible first | exact HB.out | apply below_alloc | apply pw_below_drewN | apply below_drew1 | refine below_set ?_ GE620.out) | exact HB.out))) : w.heap.size ≤ gb623)); have n4_ := Aside0.mk ((by rw [hg]; exact (below_size (by repeat (first | (with_reducible first | exact HB.out | apply below_alloc | apply pw_below_drewN | apply below_drew1 | refine below_set ?_ GE620.out) | exact HB.out))) : w.heap.size ≤ gb623)); have n5_ := Aside0.mk ((by rw [hg]; exact Nat.ne_of_lt (blk_lt (g := gb620) (o := .cells #[.int .i64 a0_0, .int .i64 a0_1, .bool a0_2, .slice (some ad622) l0_3.length c0_3, .slice A0_4 l0_4.length c0_4] 108 (0, 0)) (by (with_reducible repeat (first | refine blk_drewN ?_ _ | refine blk_drew ?_ | refine blk_alloc ?_ _)); exact BK620.out)) : gb620 ≠ gb623)); have n6_ := Aside0.mk ((by rw [hg]; exact Nat.ne_of_gt (blk_lt (g := gb620) (o := .cells #[.int .i64 a0_0, .int .i64 a0_1, .bool a0_2, .slice (some ad622) l0_3.length c0_3, .slice A0_4 l0_4.length c0_4] 108 (0, 0)) (by (with_reducible repeat (first | refine blk_drewN ?_ _ | refine blk_drew ?_ | refine blk_alloc ?_ _)); exact BK620.out)) : gb623 ≠ gb620)); clear BK620; clear HB; have BK620 := n0_; have HB := n1_; have BK623 := n2_; have GW623 := n3_; have GE623 := n4_; have NB620_623 := n5_; have NB623_620 := n6_; clear n0_ n1_ n2_ n3_ n4_ n5_ n6_; clear hb hbox hg; have hnb27 := NB623_620.out; have hnc27 := NB620_623.out; have hcz28_0 : w26.cell? ⟨gb623, 0, none⟩ = some (.int .i64 0) := (blk_cell BK623.out 0).trans rfl; have hcz28_1 : w26.cell? ⟨gb623, 1, none⟩ = some (.int .i64 0) := (blk_cell BK623.out 1).trans rfl; have hcz28_2 : w26.cell? ⟨gb623, 2, none⟩ = some (.int .i64 0) := (blk_cell BK623.out 2).trans rfl; have hcz28_3 : w26.cell? ⟨gb623, 3, none⟩ = some (.int .i64 0) := (blk_cell BK623.out 3).trans rfl; have hcz28_4 : w26.cell? ⟨gb623, 4, none⟩ = some (.int .i64 0) := (blk_cell BK623.out 4).trans rfl; have hfz28_0 := blk_frozen BK623.out 0; have hfz28_1 := blk_frozen BK623.out 1; have hfz28_2 := blk_frozen BK623.out 2; have hfz28_3 := blk_frozen BK623.out 3; have hfz28_4 := blk_frozen BK623.out 4) | ((with_reducible refine gate_callee (f := 130) rfl ?_); refine goesL_ (some 46) rfl rfl Try.func130 (by kernel_rfl) rfl #[.int .i64 ((rd_T154 l0_3 x3_2).f0)] rfl (by (try simp only [List.map_toArray, List.map_cons, List.map_nil]); first | done | rfl | (simp only [List.length_drop, List.length_take]; rfl)) ?_; (with_reducible refine (turncockref1_coded.calls ((rd_T154 l0_3 x3_2).f0) true _ A17.out).mono ?_); rintro e w' ⟨rfl, ⟨nd, rfl⟩⟩; refine ⟨_, rfl, ?_⟩))
                      go_ret
                      exact ⟨by first | rfl | (simp [errW_none, errW_some] <;> rfl) | (simp [*, errW_none, errW_some] <;> rfl), by repeat (first | (with_reducible first | exact HB.out | apply below_alloc | apply pw_below_drewN | apply below_drew1 | refine below_set ?_ GE620.out | refine below_set ?_ GE623.out) | exact HB.out)⟩
                    · rw [if_neg c24] at H
                      have c24b0 : decide (4294967295 < ((rd_T154 l0_3 x3_2).f1)) = false := decide_eq_false c24
                      clear c24
                      by_cases c29 : ((rd_T154 l0_3 x3_2).f3) < 0
                      · rw [if_pos c29] at H
                        have c29b0 : decide (((rd_T154 l0_3 x3_2).f3) < 0) = true := decide_eq_true c29
                        clear c29
                        obtain rfl := Option.some.inj H
                        have hcz30_0 : wr.cell? ⟨gb620, 0, none⟩ = some (.int .i64 a0_0) := (blk_cell BK620.out 0).trans rfl
                        have hcz30_1 : wr.cell? ⟨gb620, 1, none⟩ = some (.int .i64 a0_1) := (blk_cell BK620.out 1).trans rfl
                        have hcz30_2 : wr.cell? ⟨gb620, 2, none⟩ = some (.bool a0_2) := (blk_cell BK620.out 2).trans rfl
                        have hcz30_3 : wr.cell? ⟨gb620, 3, none⟩ = some (.slice A0_3 l0_3.length c0_3) := (blk_cell BK620.out 3).trans rfl
                        have hcz30_4 : wr.cell? ⟨gb620, 4, none⟩ = some (.slice A0_4 l0_4.length c0_4) := (blk_cell BK620.out 4).trans rfl
                        have hfz30_0 := blk_frozen BK620.out 0
                        have hfz30_1 := blk_frozen BK620.out 1
                        have hfz30_2 := blk_frozen BK620.out 2
                        have hfz30_3 := blk_frozen BK620.out 3
                        have hfz30_4 := blk_frozen BK620.out 4
                        have p622 : 0 ≤ (x3_2 : Int) := of_decide_eq_true (by first | (with_reducible assumption) | assumption)
                        have q622 : x3_2 < (l0_3.length : Int) := of_decide_eq_true (by first | (with_reducible assumption) | assumption)
                        obtain ⟨ad622, e622, hx622_0, hx622_1, hx622_2, hx622_3, hx622_4⟩ := at_T154 HR0_3.out x3_2 p622 q622
                        cases e622
                        replace hx622_0 := (HB.out.cell (World.block_lt_of_cell? w _ hx622_0)).trans hx622_0
                        replace hx622_1 := (HB.out.cell (World.block_lt_of_cell? w _ hx622_1)).trans hx622_1
                        replace hx622_2 := (HB.out.cell (World.block_lt_of_cell? w _ hx622_2)).trans hx622_2
                        replace hx622_3 := (HB.out.cell (World.block_lt_of_cell? w _ hx622_3)).trans hx622_3
                        replace hx622_4 := (HB.out.cell (World.block_lt_of_cell? w _ hx622_4)).trans hx622_4
                        replace p622 := eq_true p622
                        replace q622 := eq_true q622
                        go_wp2_with (first | ((with_reducible refine gate_dst (N := 4) rfl ?_); (try (refine gate_guard (by rfl) ?_; dsimp only)); refine box_event ?hg (N := 4) ?hd (cs := #[.int .i64 0, .int .i64 0, .int .i64 0, .int .i64 0, .int .i64 0]) (t := 154) ?hr ?_; (case hd => rfl); (case hg => rfl); (case hr => first | (go_simp; done) | (go_simp; rfl)); intro gb623 hg w31 hbox hb; have n0_ := Aside0.mk (blk_below (g := gb620) (o := .cells #[.int .i64 a0_0, .int .i64 a0_1, .bool a0_2, .slice (some ad622) l0_3.length c0_3, .slice A0_4 l0_4.length c0_4] 108 (0, 0)) (by (with_reducible repeat (first | refine blk_drewN ?_ _ | refine blk_drew ?_ | refine blk_alloc ?_ _)); exact BK620.out) hb); have n1_ := Aside0.mk (below_step (by repeat (first | (with_reducible first | exact HB.out | apply below_alloc | apply pw_below_drewN | apply below_drew1 | refine below_set ?_ GE620.out) | exact HB.out)) hb); have n2_ := Aside0.mk (hbox); have n3_ := Aside0.mk ((by rw [hg]; exact (below_size (by repeat (first | (with_reducible first | exact HB.out | apply below_alloc | apply pw_below_drewN | apply below_drew1 | refine below_set ?_ GE620.out) | exact HB.out))) : w.heap.size ≤ gb623)); have n4_ := Aside0.mk ((by rw [hg]; exact (below_size (by repeat (first | (with_reducible first | exact HB.out | apply below_alloc | apply pw_below_drewN | apply below_drew1 | refine below_set ?_ GE620.out) | exact HB.out))) : w.heap.size ≤ gb623)); have n5_ := Aside0.mk ((by rw [hg]; exact Nat.ne_of_lt (blk_lt (g := gb620) (o := .cells #[.int .i64 a0_0, .int .i64 a0_1, .bool a0_2, .slice (some ad622) l0_3.length c0_3, .slice A0_4 l0_4.length c0_4] 108 (0, 0)) (by (with_reducible repeat (first | refine blk_drewN ?_ _ | refine blk_drew ?_ | refine blk_alloc ?_ _)); exact BK620.out)) : gb620 ≠ gb623)); have n6_ := Aside0.mk ((by rw [hg]; exact Nat.ne_of_gt (blk_lt (g := gb620) (o := .cells #[.int .i64 a0_0, .int .i64 a0_1, .bool a0_2, .slice (some ad622) l0_3.length c0_3, .slice A0_4 l0_4.length c0_4] 108 (0, 0)) (by (with_reducible repeat (first | refine blk_drewN ?_ _ | refine blk_drew ?_ | refine blk_alloc ?_ _)); exact BK620.out)) : gb623 ≠ gb620)); clear BK620; clear HB; have BK620 := n0_; have HB := n1_; have BK623 := n2_; have GW623 := n3_; have GE623 := n4_; have NB620_623 := n5_; have NB623_620 := n6_; clear n0_ n1_ n2_ n3_ n4_ n5_ n6_; clear hb hbox hg; have hnb32 := NB623_620.out; have hnc32 := NB620_623.out; have hcz33_0 : w31.cell? ⟨gb623, 0, none⟩ = some (.int .i64 0) := (blk_cell BK623.out 0).trans rfl; have hcz33_1 : w31.cell? ⟨gb623, 1, none⟩ = some (.int .i64 0) := (blk_cell BK623.out 1).trans rfl; have hcz33_2 : w31.cell? ⟨gb623, 2, none⟩ = some (.int .i64 0) := (blk_cell BK623.out 2).trans rfl; have hcz33_3 : w31.cell? ⟨gb623, 3, none⟩ = some (.int .i64 0) := (blk_cell BK623.out 3).trans rfl; have hcz33_4 : w31.cell? ⟨gb623, 4, none⟩ = some (.int .i64 0) := (blk_cell BK623.out 4).trans rfl; have hfz33_0 := blk_frozen BK623.out 0; have hfz33_1 := blk_frozen BK623.out 1; have hfz33_2 := blk_frozen BK623.out 2; have hfz33_3 := blk_frozen BK623.out 3; have hfz33_4 := blk_frozen BK623.out 4) | ((with_reducible refine gate_callee (f := 130) rfl ?_); refine goesL_ (some 46) rfl rfl Try.func130 (by kernel_rfl) rfl #[.int .i64 ((rd_T154 l0_3 x3_2).f0)] rfl (by (try simp only [List.map_toArray, List.map_cons, List.map_nil]); first | done | rfl | (simp only [List.length_drop, List.length_take]; rfl)) ?_; (with_reducible refine (turncockref1_coded.calls ((rd_T154 l0_3 x3_2).f0) true _ A17.out).mono ?_); rintro e w' ⟨rfl, ⟨nd, rfl⟩⟩; refine ⟨_, rfl, ?_⟩))
                        go_ret
                        exact ⟨by first | rfl | (simp [errW_none, errW_some] <;> rfl) | (simp [*, errW_none, errW_some] <;> rfl), by repeat (first | (with_reducible first | exact HB.out | apply below_alloc | apply pw_below_drewN | apply below_drew1 | refine below_set ?_ GE620.out | refine below_set ?_ GE623.out) | exact HB.out)⟩
                      · rw [if_neg c29] at H
                        have c29b0 : decide (((rd_T154 l0_3 x3_2).f3) < 0) = false := decide_eq_false c29
                        clear c29
                        by_cases c34 : ((rd_T154 l0_3 x3_2).f3) > 4294967295
                        · rw [if_pos c34] at H
                          have c34b0 : decide (4294967295 < ((rd_T154 l0_3 x3_2).f3)) = true := decide_eq_true c34
                          clear c34
                          obtain rfl := Option.some.inj H
                          have hcz35_0 : wr.cell? ⟨gb620, 0, none⟩ = some (.int .i64 a0_0) := (blk_cell BK620.out 0).trans rfl
                          have hcz35_1 : wr.cell? ⟨gb620, 1, none⟩ = some (.int .i64 a0_1) := (blk_cell BK620.out 1).trans rfl
                          have hcz35_2 : wr.cell? ⟨gb620, 2, none⟩ = some (.bool a0_2) := (blk_cell BK620.out 2).trans rfl
                          have hcz35_3 : wr.cell? ⟨gb620, 3, none⟩ = some (.slice A0_3 l0_3.length c0_3) := (blk_cell BK620.out 3).trans rfl
                          have hcz35_4 : wr.cell? ⟨gb620, 4, none⟩ = some (.slice A0_4 l0_4.length c0_4) := (blk_cell BK620.out 4).trans rfl
                          have hfz35_0 := blk_frozen BK620.out 0
                          have hfz35_1 := blk_frozen BK620.out 1
                          have hfz35_2 := blk_frozen BK620.out 2
                          have hfz35_3 := blk_frozen BK620.out 3
                          have hfz35_4 := blk_frozen BK620.out 4
                          have p622 : 0 ≤ (x3_2 : Int) := of_decide_eq_true (by first | (with_reducible assumption) | assumption)
                          have q622 : x3_2 < (l0_3.length : Int) := of_decide_eq_true (by first | (with_reducible assumption) | assumption)
                          obtain ⟨ad622, e622, hx622_0, hx622_1, hx622_2, hx622_3, hx622_4⟩ := at_T154 HR0_3.out x3_2 p622 q622
                          cases e622
                          replace hx622_0 := (HB.out.cell (World.block_lt_of_cell? w _ hx622_0)).trans hx622_0
                          replace hx622_1 := (HB.out.cell (World.block_lt_of_cell? w _ hx622_1)).trans hx622_1
                          replace hx622_2 := (HB.out.cell (World.block_lt_of_cell? w _ hx622_2)).trans hx622_2
                          replace hx622_3 := (HB.out.cell (World.block_lt_of_cell? w _ hx622_3)).trans hx622_3
                          replace hx622_4 := (HB.out.cell (World.block_lt_of_cell? w _ hx622_4)).trans hx622_4
                          replace p622 := eq_true p622
                          replace q622 := eq_true q622
                          go_wp2_with (first | ((with_reducible refine gate_dst (N := 4) rfl ?_); (try (refine gate_guard (by rfl) ?_; dsimp only)); refine box_event ?hg (N := 4) ?hd (cs := #[.int .i64 0, .int .i64 0, .int .i64 0, .int .i64 0, .int .i64 0]) (t := 154) ?hr ?_; (case hd => rfl); (case hg => rfl); (case hr => first | (go_simp; done) | (go_simp; rfl)); intro gb623 hg w36 hbox hb; have n0_ := Aside0.mk (blk_below (g := gb620) (o := .cells #[.int .i64 a0_0, .int .i64 a0_1, .bool a0_2, .slice (some ad622) l0_3.length c0_3, .slice A0_4 l0_4.length c0_4] 108 (0, 0)) (by (with_reducible repeat (first | refine blk_drewN ?_ _ | refine blk_drew ?_ | refine blk_alloc ?_ _)); exact BK620.out) hb); have n1_ := Aside0.mk (below_step (by repeat (first | (with_reducible first | exact HB.out | apply below_alloc | apply pw_below_drewN | apply below_drew1 | refine below_set ?_ GE620.out) | exact HB.out)) hb); have n2_ := Aside0.mk (hbox); have n3_ := Aside0.mk ((by rw [hg]; exact (below_size (by repeat (first | (with_reducible first | exact HB.out | apply below_alloc | apply pw_below_drewN | apply below_drew1 | refine below_set ?_ GE620.out) | exact HB.out))) : w.heap.size ≤ gb623)); have n4_ := Aside0.mk ((by rw [hg]; exact (below_size (by repeat (first | (with_reducible first | exact HB.out | apply below_alloc | apply pw_below_drewN | apply below_drew1 | refine below_set ?_ GE620.out) | exact HB.out))) : w.heap.size ≤ gb623)); have n5_ := Aside0.mk ((by rw [hg]; exact Nat.ne_of_lt (blk_lt (g := gb620) (o := .cells #[.int .i64 a0_0, .int .i64 a0_1, .bool a0_2, .slice (some ad622) l0_3.length c0_3, .slice A0_4 l0_4.length c0_4] 108 (0, 0)) (by (with_reducible repeat (first | refine blk_drewN ?_ _ | refine blk_drew ?_ | refine blk_alloc ?_ _)); exact BK620.out)) : gb620 ≠ gb623)); have n6_ := Aside0.mk ((by rw [hg]; exact Nat.ne_of_gt (blk_lt (g := gb620) (o := .cells #[.int .i64 a0_0, .int .i64 a0_1, .bool a0_2, .slice (some ad622) l0_3.length c0_3, .slice A0_4 l0_4.length c0_4] 108 (0, 0)) (by (with_reducible repeat (first | refine blk_drewN ?_ _ | refine blk_drew ?_ | refine blk_alloc ?_ _)); exact BK620.out)) : gb623 ≠ gb620)); clear BK620; clear HB; have BK620 := n0_; have HB := n1_; have BK623 := n2_; have GW623 := n3_; have GE623 := n4_; have NB620_623 := n5_; have NB623_620 := n6_; clear n0_ n1_ n2_ n3_ n4_ n5_ n6_; clear hb hbox hg; have hnb37 := NB623_620.out; have hnc37 := NB620_623.out; have hcz38_0 : w36.cell? ⟨gb623, 0, none⟩ = some (.int .i64 0) := (blk_cell BK623.out 0).trans rfl; have hcz38_1 : w36.cell? ⟨gb623, 1, none⟩ = some (.int .i64 0) := (blk_cell BK623.out 1).trans rfl; have hcz38_2 : w36.cell? ⟨gb623, 2, none⟩ = some (.int .i64 0) := (blk_cell BK623.out 2).trans rfl; have hcz38_3 : w36.cell? ⟨gb623, 3, none⟩ = some (.int .i64 0) := (blk_cell BK623.out 3).trans rfl; have hcz38_4 : w36.cell? ⟨gb623, 4, none⟩ = some (.int .i64 0) := (blk_cell BK623.out 4).trans rfl; have hfz38_0 := blk_frozen BK623.out 0; have hfz38_1 := blk_frozen BK623.out 1; have hfz38_2 := blk_frozen BK623.out 2; have hfz38_3 := blk_frozen BK623.out 3; have hfz38_4 := blk_frozen BK623.out 4) | ((with_reducible refine gate_callee (f := 130) rfl ?_); refine goesL_ (some 46) rfl rfl Try.func130 (by kernel_rfl) rfl #[.int .i64 ((rd_T154 l0_3 x3_2).f0)] rfl (by (try simp only [List.map_toArray, List.map_cons, List.map_nil]); first | done | rfl | (simp only [List.length_drop, List.length_take]; rfl)) ?_; (with_reducible refine (turncockref1_coded.calls ((rd_T154 l0_3 x3_2).f0) true _ A17.out).mono ?_); rintro e w' ⟨rfl, ⟨nd, rfl⟩⟩; refine ⟨_, rfl, ?_⟩))
                          go_ret
                          exact ⟨by first | rfl | (simp [errW_none, errW_some] <;> rfl) | (simp [*, errW_none, errW_some] <;> rfl), by repeat (first | (with_reducible first | exact HB.out | apply below_alloc | apply pw_below_drewN | apply below_drew1 | refine below_set ?_ GE620.out | refine below_set ?_ GE623.out) | exact HB.out)⟩
                        · rw [if_neg c34] at H
                          have c34b0 : decide (4294967295 < ((rd_T154 l0_3 x3_2).f3)) = false := decide_eq_false c34
                          clear c34
                          by_cases c39 : ((rd_T154 l0_3 x3_2).f2) < 0
                          · rw [if_pos c39] at H
                            have c39b0 : decide (((rd_T154 l0_3 x3_2).f2) < 0) = true := decide_eq_true c39
                            clear c39
                            obtain rfl := Option.some.inj H
                            have hcz40_0 : wr.cell? ⟨gb620, 0, none⟩ = some (.int .i64 a0_0) := (blk_cell BK620.out 0).trans rfl
                            have hcz40_1 : wr.cell? ⟨gb620, 1, none⟩ = some (.int .i64 a0_1) := (blk_cell BK620.out 1).trans rfl
                            have hcz40_2 : wr.cell? ⟨gb620, 2, none⟩ = some (.bool a0_2) := (blk_cell BK620.out 2).trans rfl
                            have hcz40_3 : wr.cell? ⟨gb620, 3, none⟩ = some (.slice A0_3 l0_3.length c0_3) := (blk_cell BK620.out 3).trans rfl
                            have hcz40_4 : wr.cell? ⟨gb620, 4, none⟩ = some (.slice A0_4 l0_4.length c0_4) := (blk_cell BK620.out 4).trans rfl
                            have hfz40_0 := blk_frozen BK620.out 0
                            have hfz40_1 := blk_frozen BK620.out 1
                            have hfz40_2 := blk_frozen BK620.out 2
                            have hfz40_3 := blk_frozen BK620.out 3
                            have hfz40_4 := blk_frozen BK620.out 4
                            have p622 : 0 ≤ (x3_2 : Int) := of_decide_eq_true (by first | (with_reducible assumption) | assumption)
                            have q622 : x3_2 < (l0_3.length : Int) := of_decide_eq_true (by first | (with_reducible assumption) | assumption)
                            obtain ⟨ad622, e622, hx622_0, hx622_1, hx622_2, hx622_3, hx622_4⟩ := at_T154 HR0_3.out x3_2 p622 q622
                            cases e622
                            replace hx622_0 := (HB.out.cell (World.block_lt_of_cell? w _ hx622_0)).trans hx622_0
                            replace hx622_1 := (HB.out.cell (World.block_lt_of_cell? w _ hx622_1)).trans hx622_1
                            replace hx622_2 := (HB.out.cell (World.block_lt_of_cell? w _ hx622_2)).trans hx622_2
                            replace hx622_3 := (HB.out.cell (World.block_lt_of_cell? w _ hx622_3)).trans hx622_3
                            replace hx622_4 := (HB.out.cell (World.block_lt_of_cell? w _ hx622_4)).trans hx622_4
                            replace p622 := eq_true p622
                            replace q622 := eq_true q622
                            go_wp2_with (first | ((with_reducible refine gate_dst (N := 4) rfl ?_); (try (refine gate_guard (by rfl) ?_; dsimp only)); refine box_event ?hg (N := 4) ?hd (cs := #[.int .i64 0, .int .i64 0, .int .i64 0, .int .i64 0, .int .i64 0]) (t := 154) ?hr ?_; (case hd => rfl); (case hg => rfl); (case hr => first | (go_simp; done) | (go_simp; rfl)); intro gb623 hg w41 hbox hb; have n0_ := Aside0.mk (blk_below (g := gb620) (o := .cells #[.int .i64 a0_0, .int .i64 a0_1, .bool a0_2, .slice (some ad622) l0_3.length c0_3, .slice A0_4 l0_4.length c0_4] 108 (0, 0)) (by (with_reducible repeat (first | refine blk_drewN ?_ _ | refine blk_drew ?_ | refine blk_alloc ?_ _)); exact BK620.out) hb); have n1_ := Aside0.mk (below_step (by repeat (first | (with_reducible first | exact HB.out | apply below_alloc | apply pw_below_drewN | apply below_drew1 | refine below_set ?_ GE620.out) | exact HB.out)) hb); have n2_ := Aside0.mk (hbox); have n3_ := Aside0.mk ((by rw [hg]; exact (below_size (by repeat (first | (with_reducible first | exact HB.out | apply below_alloc | apply pw_below_drewN | apply below_drew1 | refine below_set ?_ GE620.out) | exact HB.out))) : w.heap.size ≤ gb623)); have n4_ := Aside0.mk ((by rw [hg]; exact (below_size (by repeat (first | (with_reducible first | exact HB.out | apply below_alloc | apply pw_below_drewN | apply below_drew1 | refine below_set ?_ GE620.out) | exact HB.out))) : w.heap.size ≤ gb623)); have n5_ := Aside0.mk ((by rw [hg]; exact Nat.ne_of_lt (blk_lt (g := gb620) (o := .cells #[.int .i64 a0_0, .int .i64 a0_1, .bool a0_2, .slice (some ad622) l0_3.length c0_3, .slice A0_4 l0_4.length c0_4] 108 (0, 0)) (by (with_reducible repeat (first | refine blk_drewN ?_ _ | refine blk_drew ?_ | refine blk_alloc ?_ _)); exact BK620.out)) : gb620 ≠ gb623)); have n6_ := Aside0.mk ((by rw [hg]; exact Nat.ne_of_gt (blk_lt (g := gb620) (o := .cells #[.int .i64 a0_0, .int .i64 a0_1, .bool a0_2, .slice (some ad622) l0_3.length c0_3, .slice A0_4 l0_4.length c0_4] 108 (0, 0)) (by (with_reducible repeat (first | refine blk_drewN ?_ _ | refine blk_drew ?_ | refine blk_alloc ?_ _)); exact BK620.out)) : gb623 ≠ gb620)); clear BK620; clear HB; have BK620 := n0_; have HB := n1_; have BK623 := n2_; have GW623 := n3_; have GE623 := n4_; have NB620_623 := n5_; have NB623_620 := n6_; clear n0_ n1_ n2_ n3_ n4_ n5_ n6_; clear hb hbox hg; have hnb42 := NB623_620.out; have hnc42 := NB620_623.out; have hcz43_0 : w41.cell? ⟨gb623, 0, none⟩ = some (.int .i64 0) := (blk_cell BK623.out 0).trans rfl; have hcz43_1 : w41.cell? ⟨gb623, 1, none⟩ = some (.int .i64 0) := (blk_cell BK623.out 1).trans rfl; have hcz43_2 : w41.cell? ⟨gb623, 2, none⟩ = some (.int .i64 0) := (blk_cell BK623.out 2).trans rfl; have hcz43_3 : w41.cell? ⟨gb623, 3, none⟩ = some (.int .i64 0) := (blk_cell BK623.out 3).trans rfl; have hcz43_4 : w41.cell? ⟨gb623, 4, none⟩ = some (.int .i64 0) := (blk_cell BK623.out 4).trans rfl; have hfz43_0 := blk_frozen BK623.out 0; have hfz43_1 := blk_frozen BK623.out 1; have hfz43_2 := blk_frozen BK623.out 2; have hfz43_3 := blk_frozen BK623.out 3; have hfz43_4 := blk_frozen BK623.out 4) | ((with_reducible refine gate_callee (f := 130) rfl ?_); refine goesL_ (some 46) rfl rfl Try.func130 (by kernel_rfl) rfl #[.int .i64 ((rd_T154 l0_3 x3_2).f0)] rfl (by (try simp only [List.map_toArray, List.map_cons, List.map_nil]); first | done | rfl | (simp only [List.length_drop, List.length_take]; rfl)) ?_; (with_reducible refine (turncockref1_coded.calls ((rd_T154 l0_3 x3_2).f0) true _ A17.out).mono ?_); rintro e w' ⟨rfl, ⟨nd, rfl⟩⟩; refine ⟨_, rfl, ?_⟩))
                            go_ret
                            exact ⟨by first | rfl | (simp [errW_none, errW_some] <;> rfl) | (simp [*, errW_none, errW_some] <;> rfl), by repeat (first | (with_reducible first | exact HB.out | apply below_alloc | apply pw_below_drewN | apply below_drew1 | refine below_set ?_ GE620.out | refine below_set ?_ GE623.out) | exact HB.out)⟩
                          · rw [if_neg c39] at H
                            have c39b0 : decide (((rd_T154 l0_3 x3_2).f2) < 0) = false := decide_eq_false c39
                            clear c39
                            by_cases c44 : ((rd_T154 l0_3 x3_2).f2) > 4
                            · rw [if_pos c44] at H
                              have c44b0 : decide (4 < ((rd_T154 l0_3 x3_2).f2)) = true := decide_eq_true c44
                              clear c44
                              obtain rfl := Option.some.inj H
                              have hcz45_0 : wr.cell? ⟨gb620, 0, none⟩ = some (.int .i64 a0_0) := (blk_cell BK620.out 0).trans rfl
                              have hcz45_1 : wr.cell? ⟨gb620, 1, none⟩ = some (.int .i64 a0_1) := (blk_cell BK620.out 1).trans rfl
                              have hcz45_2 : wr.cell? ⟨gb620, 2, none⟩ = some (.bool a0_2) := (blk_cell BK620.out 2).trans rfl
                              have hcz45_3 : wr.cell? ⟨gb620, 3, none⟩ = some (.slice A0_3 l0_3.length c0_3) := (blk_cell BK620.out 3).trans rfl
                              have hcz45_4 : wr.cell? ⟨gb620, 4, none⟩ = some (.slice A0_4 l0_4.length c0_4) := (blk_cell BK620.out 4).trans rfl
                              have hfz45_0 := blk_frozen BK620.out 0
                              have hfz45_1 := blk_frozen BK620.out 1
                              have hfz45_2 := blk_frozen BK620.out 2
                              have hfz45_3 := blk_frozen BK620.out 3
                              have hfz45_4 := blk_frozen BK620.out 4
                              have p622 : 0 ≤ (x3_2 : Int) := of_decide_eq_true (by first | (with_reducible assumption) | assumption)
                              have q622 : x3_2 < (l0_3.length : Int) := of_decide_eq_true (by first | (with_reducible assumption) | assumption)
                              obtain ⟨ad622, e622, hx622_0, hx622_1, hx622_2, hx622_3, hx622_4⟩ := at_T154 HR0_3.out x3_2 p622 q622
                              cases e622
                              replace hx622_0 := (HB.out.cell (World.block_lt_of_cell? w _ hx622_0)).trans hx622_0
                              replace hx622_1 := (HB.out.cell (World.block_lt_of_cell? w _ hx622_1)).trans hx622_1
                              replace hx622_2 := (HB.out.cell (World.block_lt_of_cell? w _ hx622_2)).trans hx622_2
                              replace hx622_3 := (HB.out.cell (World.block_lt_of_cell? w _ hx622_3)).trans hx622_3
                              replace hx622_4 := (HB.out.cell (World.block_lt_of_cell? w _ hx622_4)).trans hx622_4
                              replace p622 := eq_true p622
                              replace q622 := eq_true q622
                              go_wp2_with (first | ((with_reducible refine gate_dst (N := 4) rfl ?_); (try (refine gate_guard (by rfl) ?_; dsimp only)); refine box_event ?hg (N := 4) ?hd (cs := #[.int .i64 0, .int .i64 0, .int .i64 0, .int .i64 0, .int .i64 0]) (t := 154) ?hr ?_; (case hd => rfl); (case hg => rfl); (case hr => first | (go_simp; done) | (go_simp; rfl)); intro gb623 hg w46 hbox hb; have n0_ := Aside0.mk (blk_below (g := gb620) (o := .cells #[.int .i64 a0_0, .int .i64 a0_1, .bool a0_2, .slice (some ad622) l0_3.length c0_3, .slice A0_4 l0_4.length c0_4] 108 (0, 0)) (by (with_reducible repeat (first | refine blk_drewN ?_ _ | refine blk_drew ?_ | refine blk_alloc ?_ _)); exact BK620.out) hb); have n1_ := Aside0.mk (below_step (by repeat (first | (with_reducible first | exact HB.out | apply below_alloc | apply pw_below_drewN | apply below_drew1 | refine below_set ?_ GE620.out) | exact HB.out)) hb); have n2_ := Aside0.mk (hbox); have n3_ := Aside0.mk ((by rw [hg]; exact (below_size (by repeat (first | (with_reducible first | exact HB.out | apply below_alloc | apply pw_below_drewN | apply below_drew1 | refine below_set ?_ GE620.out) | exact HB.out))) : w.heap.size ≤ gb623)); have n4_ := Aside0.mk ((by rw [hg]; exact (below_size (by repeat (first | (with_reducible first | exact HB.out | apply below_alloc | apply pw_below_drewN | apply below_drew1 | refine below_set ?_ GE620.out) | exact HB.out))) : w.heap.size ≤ gb623)); have n5_ := Aside0.mk ((by rw [hg]; exact Nat.ne_of_lt (blk_lt (g := gb620) (o := .cells #[.int .i64 a0_0, .int .i64 a0_1, .bool a0_2, .slice (some ad622) l0_3.length c0_3, .slice A0_4 l0_4.length c0_4] 108 (0, 0)) (by (with_reducible repeat (first | refine blk_drewN ?_ _ | refine blk_drew ?_ | refine blk_alloc ?_ _)); exact BK620.out)) : gb620 ≠ gb623)); have n6_ := Aside0.mk ((by rw [hg]; exact Nat.ne_of_gt (blk_lt (g := gb620) (o := .cells #[.int .i64 a0_0, .int .i64 a0_1, .bool a0_2, .slice (some ad622) l0_3.length c0_3, .slice A0_4 l0_4.length c0_4] 108 (0, 0)) (by (with_reducible repeat (first | refine blk_drewN ?_ _ | refine blk_drew ?_ | refine blk_alloc ?_ _)); exact BK620.out)) : gb623 ≠ gb620)); clear BK620; clear HB; have BK620 := n0_; have HB := n1_; have BK623 := n2_; have GW623 := n3_; have GE623 := n4_; have NB620_623 := n5_; have NB623_620 := n6_; clear n0_ n1_ n2_ n3_ n4_ n5_ n6_; clear hb hbox hg; have hnb47 := NB623_620.out; have hnc47 := NB620_623.out; have hcz48_0 : w46.cell? ⟨gb623, 0, none⟩ = some (.int .i64 0) := (blk_cell BK623.out 0).trans rfl; have hcz48_1 : w46.cell? ⟨gb623, 1, none⟩ = some (.int .i64 0) := (blk_cell BK623.out 1).trans rfl; have hcz48_2 : w46.cell? ⟨gb623, 2, none⟩ = some (.int .i64 0) := (blk_cell BK623.out 2).trans rfl; have hcz48_3 : w46.cell? ⟨gb623, 3, none⟩ = some (.int .i64 0) := (blk_cell BK623.out 3).trans rfl; have hcz48_4 : w46.cell? ⟨gb623, 4, none⟩ = some (.int .i64 0) := (blk_cell BK623.out 4).trans rfl; have hfz48_0 := blk_frozen BK623.out 0; have hfz48_1 := blk_frozen BK623.out 1; have hfz48_2 := blk_frozen BK623.out 2; have hfz48_3 := blk_frozen BK623.out 3; have hfz48_4 := blk_frozen BK623.out 4) | ((with_reducible refine gate_callee (f := 130) rfl ?_); refine goesL_ (some 46) rfl rfl Try.func130 (by kernel_rfl) rfl #[.int .i64 ((rd_T154 l0_3 x3_2).f0)] rfl (by (try simp only [List.map_toArray, List.map_cons, List.map_nil]); first | done | rfl | (simp only [List.length_drop, List.length_take]; rfl)) ?_; (with_reducible refine (turncockref1_coded.calls ((rd_T154 l0_3 x3_2).f0) true _ A17.out).mono ?_); rintro e w' ⟨rfl, ⟨nd, rfl⟩⟩; refine ⟨_, rfl, ?_⟩))
                              go_ret
                              exact ⟨by first | rfl | (simp [errW_none, errW_some] <;> rfl) | (simp [*, errW_none, errW_some] <;> rfl), by repeat (first | (with_reducible first | exact HB.out | apply below_alloc | apply pw_below_drewN | apply below_drew1 | refine below_set ?_ GE620.out | refine below_set ?_ GE623.out) | exact HB.out)⟩
                            · rw [if_neg c44] at H
                              have c44b0 : decide (4 < ((rd_T154 l0_3 x3_2).f2)) = false := decide_eq_false c44
                              clear c44
                              by_cases c49 : ((rd_T154 l0_3 x3_2).f4) < 0
                              · rw [if_pos c49] at H
                                have c49b0 : decide (((rd_T154 l0_3 x3_2).f4) < 0) = true := decide_eq_true c49
                                clear c49
                                obtain rfl := Option.some.inj H
                                have hcz50_0 : wr.cell? ⟨gb620, 0, none⟩ = some (.int .i64 a0_0) := (blk_cell BK620.out 0).trans rfl
                                have hcz50_1 : wr.cell? ⟨gb620, 1, none⟩ = some (.int .i64 a0_1) := (blk_cell BK620.out 1).trans rfl
                                have hcz50_2 : wr.cell? ⟨gb620, 2, none⟩ = some (.bool a0_2) := (blk_cell BK620.out 2).trans rfl
                                have hcz50_3 : wr.cell? ⟨gb620, 3, none⟩ = some (.slice A0_3 l0_3.length c0_3) := (blk_cell BK620.out 3).trans rfl
                                have hcz50_4 : wr.cell? ⟨gb620, 4, none⟩ = some (.slice A0_4 l0_4.length c0_4) := (blk_cell BK620.out 4).trans rfl
                                have hfz50_0 := blk_frozen BK620.out 0
                                have hfz50_1 := blk_frozen BK620.out 1
                                have hfz50_2 := blk_frozen BK620.out 2
                                have hfz50_3 := blk_frozen BK620.out 3
                                have hfz50_4 := blk_frozen BK620.out 4
                                have p622 : 0 ≤ (x3_2 : Int) := of_decide_eq_true (by first | (with_reducible assumption) | assumption)
                                have q622 : x3_2 < (l0_3.length : Int) := of_decide_eq_true (by first | (with_reducible assumption) | assumption)
                                obtain ⟨ad622, e622, hx622_0, hx622_1, hx622_2, hx622_3, hx622_4⟩ := at_T154 HR0_3.out x3_2 p622 q622
                                cases e622
                                replace hx622_0 := (HB.out.cell (World.block_lt_of_cell? w _ hx622_0)).trans hx622_0
                                replace hx622_1 := (HB.out.cell (World.block_lt_of_cell? w _ hx622_1)).trans hx622_1
                                replace hx622_2 := (HB.out.cell (World.block_lt_of_cell? w _ hx622_2)).trans hx622_2
                                replace hx622_3 := (HB.out.cell (World.block_lt_of_cell? w _ hx622_3)).trans hx622_3
                                replace hx622_4 := (HB.out.cell (World.block_lt_of_cell? w _ hx622_4)).trans hx622_4
                                replace p622 := eq_true p622
                                replace q622 := eq_true q622
                                go_wp2_with (first | ((with_reducible refine gate_dst (N := 4) rfl ?_); (try (refine gate_guard (by rfl) ?_; dsimp only)); refine box_event ?hg (N := 4) ?hd (cs := #[.int .i64 0, .int .i64 0, .int .i64 0, .int .i64 0, .int .i64 0]) (t := 154) ?hr ?_; (case hd => rfl); (case hg => rfl); (case hr => first | (go_simp; done) | (go_simp; rfl)); intro gb623 hg w51 hbox hb; have n0_ := Aside0.mk (blk_below (g := gb620) (o := .cells #[.int .i64 a0_0, .int .i64 a0_1, .bool a0_2, .slice (some ad622) l0_3.length c0_3, .slice A0_4 l0_4.length c0_4] 108 (0, 0)) (by (with_reducible repeat (first | refine blk_drewN ?_ _ | refine blk_drew ?_ | refine blk_alloc ?_ _)); exact BK620.out) hb); have n1_ := Aside0.mk (below_step (by repeat (first | (with_reducible first | exact HB.out | apply below_alloc | apply pw_below_drewN | apply below_drew1 | refine below_set ?_ GE620.out) | exact HB.out)) hb); have n2_ := Aside0.mk (hbox); have n3_ := Aside0.mk ((by rw [hg]; exact (below_size (by repeat (first | (with_reducible first | exact HB.out | apply below_alloc | apply pw_below_drewN | apply below_drew1 | refine below_set ?_ GE620.out) | exact HB.out))) : w.heap.size ≤ gb623)); have n4_ := Aside0.mk ((by rw [hg]; exact (below_size (by repeat (first | (with_reducible first | exact HB.out | apply below_alloc | apply pw_below_drewN | apply below_drew1 | refine below_set ?_ GE620.out) | exact HB.out))) : w.heap.size ≤ gb623)); have n5_ := Aside0.mk ((by rw [hg]; exact Nat.ne_of_lt (blk_lt (g := gb620) (o := .cells #[.int .i64 a0_0, .int .i64 a0_1, .bool a0_2, .slice (some ad622) l0_3.length c0_3, .slice A0_4 l0_4.length c0_4] 108 (0, 0)) (by (with_reducible repeat (first | refine blk_drewN ?_ _ | refine blk_drew ?_ | refine blk_alloc ?_ _)); exact BK620.out)) : gb620 ≠ gb623)); have n6_ := Aside0.mk ((by rw [hg]; exact Nat.ne_of_gt (blk_lt (g := gb620) (o := .cells #[.int .i64 a0_0, .int .i64 a0_1, .bool a0_2, .slice (some ad622) l0_3.length c0_3, .slice A0_4 l0_4.length c0_4] 108 (0, 0)) (by (with_reducible repeat (first | refine blk_drewN ?_ _ | refine blk_drew ?_ | refine blk_alloc ?_ _)); exact BK620.out)) : gb623 ≠ gb620)); clear BK620; clear HB; have BK620 := n0_; have HB := n1_; have BK623 := n2_; have GW623 := n3_; have GE623 := n4_; have NB620_623 := n5_; have NB623_620 := n6_; clear n0_ n1_ n2_ n3_ n4_ n5_ n6_; clear hb hbox hg; have hnb52 := NB623_620.out; have hnc52 := NB620_623.out; have hcz53_0 : w51.cell? ⟨gb623, 0, none⟩ = some (.int .i64 0) := (blk_cell BK623.out 0).trans rfl; have hcz53_1 : w51.cell? ⟨gb623, 1, none⟩ = some (.int .i64 0) := (blk_cell BK623.out 1).trans rfl; have hcz53_2 : w51.cell? ⟨gb623, 2, none⟩ = some (.int .i64 0) := (blk_cell BK623.out 2).trans rfl; have hcz53_3 : w51.cell? ⟨gb623, 3, none⟩ = some (.int .i64 0) := (blk_cell BK623.out 3).trans rfl; have hcz53_4 : w51.cell? ⟨gb623, 4, none⟩ = some (.int .i64 0) := (blk_cell BK623.out 4).trans rfl; have hfz53_0 := blk_frozen BK623.out 0; have hfz53_1 := blk_frozen BK623.out 1; have hfz53_2 := blk_frozen BK623.out 2; have hfz53_3 := blk_frozen BK623.out 3; have hfz53_4 := blk_frozen BK623.out 4) | ((with_reducible refine gate_callee (f := 130) rfl ?_); refine goesL_ (some 46) rfl rfl Try.func130 (by kernel_rfl) rfl #[.int .i64 ((rd_T154 l0_3 x3_2).f0)] rfl (by (try simp only [List.map_toArray, List.map_cons, List.map_nil]); first | done | rfl | (simp only [List.length_drop, List.length_take]; rfl)) ?_; (with_reducible refine (turncockref1_coded.calls ((rd_T154 l0_3 x3_2).f0) true _ A17.out).mono ?_); rintro e w' ⟨rfl, ⟨nd, rfl⟩⟩; refine ⟨_, rfl, ?_⟩))
                                go_ret
                                exact ⟨by first | rfl | (simp [errW_none, errW_some] <;> rfl) | (simp [*, errW_none, errW_some] <;> rfl), by repeat (first | (with_reducible first | exact HB.out | apply below_alloc | apply pw_below_drewN | apply below_drew1 | refine below_set ?_ GE620.out | refine below_set ?_ GE623.out) | exact HB.out)⟩
                              · rw [if_neg c49] at H
                                have c49b0 : decide (((rd_T154 l0_3 x3_2).f4) < 0) = false := decide_eq_false c49
                                clear c49
                                by_cases c54 : ((rd_T154 l0_3 x3_2).f4) > 86400
                                · rw [if_pos c54] at H
                                  have c54b0 : decide (86400 < ((rd_T154 l0_3 x3_2).f4)) = true := decide_eq_true c54
                                  clear c54
                                  obtain rfl := Option.some.inj H
                                  have hcz55_0 : wr.cell? ⟨gb620, 0, none⟩ = some (.int .i64 a0_0) := (blk_cell BK620.out 0).trans rfl
                                  have hcz55_1 : wr.cell? ⟨gb620, 1, none⟩ = some (.int .i64 a0_1) := (blk_cell BK620.out 1).trans rfl
                                  have hcz55_2 : wr.cell? ⟨gb620, 2, none⟩ = some (.bool a0_2) := (blk_cell BK620.out 2).trans rfl
                                  have hcz55_3 : wr.cell? ⟨gb620, 3, none⟩ = some (.slice A0_3 l0_3.length c0_3) := (blk_cell BK620.out 3).trans rfl
                                  have hcz55_4 : wr.cell? ⟨gb620, 4, none⟩ = some (.slice A0_4 l0_4.length c0_4) := (blk_cell BK620.out 4).trans rfl
                                  have hfz55_0 := blk_frozen BK620.out 0
                                  have hfz55_1 := blk_frozen BK620.out 1
                                  have hfz55_2 := blk_frozen BK620.out 2
                                  have hfz55_3 := blk_frozen BK620.out 3
                                  have hfz55_4 := blk_frozen BK620.out 4
                                  have p622 : 0 ≤ (x3_2 : Int) := of_decide_eq_true (by first | (with_reducible assumption) | assumption)
                                  have q622 : x3_2 < (l0_3.length : Int) := of_decide_eq_true (by first | (with_reducible assumption) | assumption)
                                  obtain ⟨ad622, e622, hx622_0, hx622_1, hx622_2, hx622_3, hx622_4⟩ := at_T154 HR0_3.out x3_2 p622 q622
                                  cases e622
                                  replace hx622_0 := (HB.out.cell (World.block_lt_of_cell? w _ hx622_0)).trans hx622_0
                                  replace hx622_1 := (HB.out.cell (World.block_lt_of_cell? w _ hx622_1)).trans hx622_1
                                  replace hx622_2 := (HB.out.cell (World.block_lt_of_cell? w _ hx622_2)).trans hx622_2
                                  replace hx622_3 := (HB.out.cell (World.block_lt_of_cell? w _ hx622_3)).trans hx622_3
                                  replace hx622_4 := (HB.out.cell (World.block_lt_of_cell? w _ hx622_4)).trans hx622_4
                                  replace p622 := eq_true p622
                                  replace q622 := eq_true q622
                                  go_wp2_with (first | ((with_reducible refine gate_dst (N := 4) rfl ?_); (try (refine gate_guard (by rfl) ?_; dsimp only)); refine box_event ?hg (N := 4) ?hd (cs := #[.int .i64 0, .int .i64 0, .int .i64 0, .int .i64 0, .int .i64 0]) (t := 154) ?hr ?_; (case hd => rfl); (case hg => rfl); (case hr => first | (go_simp; done) | (go_simp; rfl)); intro gb623 hg w56 hbox hb; have n0_ := Aside0.mk (blk_below (g := gb620) (o := .cells #[.int .i64 a0_0, .int .i64 a0_1, .bool a0_2, .slice (some ad622) l0_3.length c0_3, .slice A0_4 l0_4.length c0_4] 108 (0, 0)) (by (with_reducible repeat (first | refine blk_drewN ?_ _ | refine blk_drew ?_ | refine blk_alloc ?_ _)); exact BK620.out) hb); have n1_ := Aside0.mk (below_step (by repeat (first | (with_reducible first | exact HB.out | apply below_alloc | apply pw_below_drewN | apply below_drew1 | refine below_set ?_ GE620.out) | exact HB.out)) hb); have n2_ := Aside0.mk (hbox); have n3_ := Aside0.mk ((by rw [hg]; exact (below_size (by repeat (first | (with_reducible first | exact HB.out | apply below_alloc | apply pw_below_drewN | apply below_drew1 | refine below_set ?_ GE620.out) | exact HB.out))) : w.heap.size ≤ gb623)); have n4_ := Aside0.mk ((by rw [hg]; exact (below_size (by repeat (first | (with_reducible first | exact HB.out | apply below_alloc | apply pw_below_drewN | apply below_drew1 | refine below_set ?_ GE620.out) | exact HB.out))) : w.heap.size ≤ gb623)); have n5_ := Aside0.mk ((by rw [hg]; exact Nat.ne_of_lt (blk_lt (g := gb620) (o := .cells #[.int .i64 a0_0, .int .i64 a0_1, .bool a0_2, .slice (some ad622) l0_3.length c0_3, .slice A0_4 l0_4.length c0_4] 108 (0, 0)) (by (with_reducible repeat (first | refine blk_drewN ?_ _ | refine blk_drew ?_ | refine blk_alloc ?_ _)); exact BK620.out)) : gb620 ≠ gb623)); have n6_ := Aside0.mk ((by rw [hg]; exact Nat.ne_of_gt (blk_lt (g := gb620) (o := .cells #[.int .i64 a0_0, .int .i64 a0_1, .bool a0_2, .slice (some ad622) l0_3.length c0_3, .slice A0_4 l0_4.length c0_4] 108 (0, 0)) (by (with_reducible repeat (first | refine blk_drewN ?_ _ | refine blk_drew ?_ | refine blk_alloc ?_ _)); exact BK620.out)) : gb623 ≠ gb620)); clear BK620; clear HB; have BK620 := n0_; have HB := n1_; have BK623 := n2_; have GW623 := n3_; have GE623 := n4_; have NB620_623 := n5_; have NB623_620 := n6_; clear n0_ n1_ n2_ n3_ n4_ n5_ n6_; clear hb hbox hg; have hnb57 := NB623_620.out; have hnc57 := NB620_623.out; have hcz58_0 : w56.cell? ⟨gb623, 0, none⟩ = some (.int .i64 0) := (blk_cell BK623.out 0).trans rfl; have hcz58_1 : w56.cell? ⟨gb623, 1, none⟩ = some (.int .i64 0) := (blk_cell BK623.out 1).trans rfl; have hcz58_2 : w56.cell? ⟨gb623, 2, none⟩ = some (.int .i64 0) := (blk_cell BK623.out 2).trans rfl; have hcz58_3 : w56.cell? ⟨gb623, 3, none⟩ = some (.int .i64 0) := (blk_cell BK623.out 3).trans rfl; have hcz58_4 : w56.cell? ⟨gb623, 4, none⟩ = some (.int .i64 0) := (blk_cell BK623.out 4).trans rfl; have hfz58_0 := blk_frozen BK623.out 0; have hfz58_1 := blk_frozen BK623.out 1; have hfz58_2 := blk_frozen BK623.out 2; have hfz58_3 := blk_frozen BK623.out 3; have hfz58_4 := blk_frozen BK623.out 4) | ((with_reducible refine gate_callee (f := 130) rfl ?_); refine goesL_ (some 46) rfl rfl Try.func130 (by kernel_rfl) rfl #[.int .i64 ((rd_T154 l0_3 x3_2).f0)] rfl (by (try simp only [List.map_toArray, List.map_cons, List.map_nil]); first | done | rfl | (simp only [List.length_drop, List.length_take]; rfl)) ?_; (with_reducible refine (turncockref1_coded.calls ((rd_T154 l0_3 x3_2).f0) true _ A17.out).mono ?_); rintro e w' ⟨rfl, ⟨nd, rfl⟩⟩; refine ⟨_, rfl, ?_⟩))
                                  go_ret
                                  exact ⟨by first | rfl | (simp [errW_none, errW_some] <;> rfl) | (simp [*, errW_none, errW_some] <;> rfl), by repeat (first | (with_reducible first | exact HB.out | apply below_alloc | apply pw_below_drewN | apply below_drew1 | refine below_set ?_ GE620.out | refine below_set ?_ GE623.out) | exact HB.out)⟩
                                · rw [if_neg c54] at H
                                  have c54b0 : decide (86400 < ((rd_T154 l0_3 x3_2).f4)) = false := decide_eq_false c54
                                  clear c54
                                  have H' := Aside0.mk H
                                  clear H
                                  have hcz59_0 : wr.cell? ⟨gb620, 0, none⟩ = some (.int .i64 a0_0) := (blk_cell BK620.out 0).trans rfl
                                  have hcz59_1 : wr.cell? ⟨gb620, 1, none⟩ = some (.int .i64 a0_1) := (blk_cell BK620.out 1).trans rfl
                                  have hcz59_2 : wr.cell? ⟨gb620, 2, none⟩ = some (.bool a0_2) := (blk_cell BK620.out 2).trans rfl
                                  have hcz59_3 : wr.cell? ⟨gb620, 3, none⟩ = some (.slice A0_3 l0_3.length c0_3) := (blk_cell BK620.out 3).trans rfl
                                  have hcz59_4 : wr.cell? ⟨gb620, 4, none⟩ = some (.slice A0_4 l0_4.length c0_4) := (blk_cell BK620.out 4).trans rfl
                                  have hfz59_0 := blk_frozen BK620.out 0
                                  have hfz59_1 := blk_frozen BK620.out 1
                                  have hfz59_2 := blk_frozen BK620.out 2
                                  have hfz59_3 := blk_frozen BK620.out 3
                                  have hfz59_4 := blk_frozen BK620.out 4
                                  have p622 : 0 ≤ (x3_2 : Int) := of_decide_eq_true (by first | (with_reducible assumption) | assumption)
                                  have q622 : x3_2 < (l0_3.length : Int) := of_decide_eq_true (by first | (with_reducible assumption) | assumption)
                                  obtain ⟨ad622, e622, hx622_0, hx622_1, hx622_2, hx622_3, hx622_4⟩ := at_T154 HR0_3.out x3_2 p622 q622
                                  cases e622
                                  replace hx622_0 := (HB.out.cell (World.block_lt_of_cell? w _ hx622_0)).trans hx622_0
                                  replace hx622_1 := (HB.out.cell (World.block_lt_of_cell? w _ hx622_1)).trans hx622_1
                                  replace hx622_2 := (HB.out.cell (World.block_lt_of_cell? w _ hx622_2)).trans hx622_2
                                  replace hx622_3 := (HB.out.cell (World.block_lt_of_cell? w _ hx622_3)).trans hx622_3
                                  replace hx622_4 := (HB.out.cell (World.block_lt_of_cell? w _ hx622_4)).trans hx622_4
                                  replace p622 := eq_true p622
                                  replace q622 := eq_true q622
                                  go_wp2_with (first | ((with_reducible refine gate_dst (N := 4) rfl ?_); (try (refine gate_guard (by rfl) ?_; dsimp only)); refine box_event ?hg (N := 4) ?hd (cs := #[.int .i64 0, .int .i64 0, .int .i64 0, .int .i64 0, .int .i64 0]) (t := 154) ?hr ?_; (case hd => rfl); (case hg => rfl); (case hr => first | (go_simp; done) | (go_simp; rfl)); intro gb623 hg w60 hbox hb; have n0_ := Aside0.mk (blk_below (g := gb620) (o := .cells #[.int .i64 a0_0, .int .i64 a0_1, .bool a0_2, .slice (some ad622) l0_3.length c0_3, .slice A0_4 l0_4.length c0_4] 108 (0, 0)) (by (with_reducible repeat (first | refine blk_drewN ?_ _ | refine blk_drew ?_ | refine blk_alloc ?_ _)); exact BK620.out) hb); have n1_ := Aside0.mk (below_step (by repeat (first | (with_reducible first | exact HB.out | apply below_alloc | apply pw_below_drewN | apply below_drew1 | refine below_set ?_ GE620.out) | exact HB.out)) hb); have n2_ := Aside0.mk (hbox); have n3_ := Aside0.mk ((by rw [hg]; exact (below_size (by repeat (first | (with_reducible first | exact HB.out | apply below_alloc | apply pw_below_drewN | apply below_drew1 | refine below_set ?_ GE620.out) | exact HB.out))) : w.heap.size ≤ gb623)); have n4_ := Aside0.mk ((by rw [hg]; exact (below_size (by repeat (first | (with_reducible first | exact HB.out | apply below_alloc | apply pw_below_drewN | apply below_drew1 | refine below_set ?_ GE620.out) | exact HB.out))) : w.heap.size ≤ gb623)); have n5_ := Aside0.mk ((by rw [hg]; exact Nat.ne_of_lt (blk_lt (g := gb620) (o := .cells #[.int .i64 a0_0, .int .i64 a0_1, .bool a0_2, .slice (some ad622) l0_3.length c0_3, .slice A0_4 l0_4.length c0_4] 108 (0, 0)) (by (with_reducible repeat (first | refine blk_drewN ?_ _ | refine blk_drew ?_ | refine blk_alloc ?_ _)); exact BK620.out)) : gb620 ≠ gb623)); have n6_ := Aside0.mk ((by rw [hg]; exact Nat.ne_of_gt (blk_lt (g := gb620) (o := .cells #[.int .i64 a0_0, .int .i64 a0_1, .bool a0_2, .slice (some ad622) l0_3.length c0_3, .slice A0_4 l0_4.length c0_4] 108 (0, 0)) (by (with_reducible repeat (first | refine blk_drewN ?_ _ | refine blk_drew ?_ | refine blk_alloc ?_ _)); exact BK620.out)) : gb623 ≠ gb620)); clear BK620; clear HB; have BK620 := n0_; have HB := n1_; have BK623 := n2_; have GW623 := n3_; have GE623 := n4_; have NB620_623 := n5_; have NB623_620 := n6_; clear n0_ n1_ n2_ n3_ n4_ n5_ n6_; clear hb hbox hg; have hnb61 := NB623_620.out; have hnc61 := NB620_623.out; have hcz62_0 : w60.cell? ⟨gb623, 0, none⟩ = some (.int .i64 0) := (blk_cell BK623.out 0).trans rfl; have hcz62_1 : w60.cell? ⟨gb623, 1, none⟩ = some (.int .i64 0) := (blk_cell BK623.out 1).trans rfl; have hcz62_2 : w60.cell? ⟨gb623, 2, none⟩ = some (.int .i64 0) := (blk_cell BK623.out 2).trans rfl; have hcz62_3 : w60.cell? ⟨gb623, 3, none⟩ = some (.int .i64 0) := (blk_cell BK623.out 3).trans rfl; have hcz62_4 : w60.cell? ⟨gb623, 4, none⟩ = some (.int .i64 0) := (blk_cell BK623.out 4).trans rfl; have hfz62_0 := blk_frozen BK623.out 0; have hfz62_1 := blk_frozen BK623.out 1; have hfz62_2 := blk_frozen BK623.out 2; have hfz62_3 := blk_frozen BK623.out 3; have hfz62_4 := blk_frozen BK623.out 4) | ((with_reducible refine gate_callee (f := 130) rfl ?_); refine goesL_ (some 46) rfl rfl Try.func130 (by kernel_rfl) rfl #[.int .i64 ((rd_T154 l0_3 x3_2).f0)] rfl (by (try simp only [List.map_toArray, List.map_cons, List.map_nil]); first | done | rfl | (simp only [List.length_drop, List.length_take]; rfl)) ?_; (with_reducible refine (turncockref1_coded.calls ((rd_T154 l0_3 x3_2).f0) true _ A17.out).mono ?_); rintro e w' ⟨rfl, ⟨nd, rfl⟩⟩; refine ⟨_, rfl, ?_⟩))
                                  go_roundg k2
                                  case measure => have := HJ1.out; have := HK2.out; omega
                                  case rel => exact ⟨(wrap64 (x3_2 + 1)), (by first | rfl | (simp; done) | (simp [*]; done)), H', ⟨by have := HJ1.out; have := HK2.out; omega⟩, ⟨by (with_reducible repeat (first | refine blk_drewN ?_ _ | refine blk_drew ?_ | refine blk_alloc ?_ _)); refine blk_far ?_ NB620_623.out _; (with_reducible repeat (first | refine blk_drewN ?_ _ | refine blk_drew ?_ | refine blk_alloc ?_ _)); refine blk_far ?_ NB620_623.out _; (with_reducible repeat (first | refine blk_drewN ?_ _ | refine blk_drew ?_ | refine blk_alloc ?_ _)); refine blk_far ?_ NB620_623.out _; (with_reducible repeat (first | refine blk_drewN ?_ _ | refine blk_drew ?_ | refine blk_alloc ?_ _)); refine blk_far ?_ NB620_623.out _; (with_reducible repeat (first | refine blk_drewN ?_ _ | refine blk_drew ?_ | refine blk_alloc ?_ _)); refine blk_far ?_ NB620_623.out _; (with_reducible repeat (first | refine blk_drewN ?_ _ | refine blk_drew ?_ | refine blk_alloc ?_ _)); exact BK620.out⟩, ⟨by repeat (first | (with_reducible first | exact HB.out | apply below_alloc | apply pw_below_drewN | apply below_drew1 | refine below_set ?_ GE620.out | refine below_set ?_ GE623.out) | exact HB.out)⟩⟩
                · replace c18 := Bool.eq_false_iff.mpr c18
                  subst c18
                  have H1 : (some false) = some r := by rw [if_neg (show ¬ (false = true) by decide)] at H; exact H
                  clear H
                  have H := H1
                  clear H1
                  obtain rfl := Option.some.inj H
                  have hcz63_0 : wr.cell? ⟨gb620, 0, none⟩ = some (.int .i64 a0_0) := (blk_cell BK620.out 0).trans rfl
                  have hcz63_1 : wr.cell? ⟨gb620, 1, none⟩ = some (.int .i64 a0_1) := (blk_cell BK620.out 1).trans rfl
                  have hcz63_2 : wr.cell? ⟨gb620, 2, none⟩ = some (.bool a0_2) := (blk_cell BK620.out 2).trans rfl
                  have hcz63_3 : wr.cell? ⟨gb620, 3, none⟩ = some (.slice A0_3 l0_3.length c0_3) := (blk_cell BK620.out 3).trans rfl
                  have hcz63_4 : wr.cell? ⟨gb620, 4, none⟩ = some (.slice A0_4 l0_4.length c0_4) := (blk_cell BK620.out 4).trans rfl
                  have hfz63_0 := blk_frozen BK620.out 0
                  have hfz63_1 := blk_frozen BK620.out 1
                  have hfz63_2 := blk_frozen BK620.out 2
                  have hfz63_3 := blk_frozen BK620.out 3
                  have hfz63_4 := blk_frozen BK620.out 4
                  have p622 : 0 ≤ (x3_2 : Int) := of_decide_eq_true (by first | (with_reducible assumption) | assumption)
                  have q622 : x3_2 < (l0_3.length : Int) := of_decide_eq_true (by first | (with_reducible assumption) | assumption)
                  obtain ⟨ad622, e622, hx622_0, hx622_1, hx622_2, hx622_3, hx622_4⟩ := at_T154 HR0_3.out x3_2 p622 q622
                  cases e622
                  replace hx622_0 := (HB.out.cell (World.block_lt_of_cell? w _ hx622_0)).trans hx622_0
                  replace hx622_1 := (HB.out.cell (World.block_lt_of_cell? w _ hx622_1)).trans hx622_1
                  replace hx622_2 := (HB.out.cell (World.block_lt_of_cell? w _ hx622_2)).trans hx622_2
                  replace hx622_3 := (HB.out.cell (World.block_lt_of_cell? w _ hx622_3)).trans hx622_3
                  replace hx622_4 := (HB.out.cell (World.block_lt_of_cell? w _ hx622_4)).trans hx622_4
                  replace p622 := eq_true p622
                  replace q622 := eq_true q622
                  go_wp2_with (first | ((with_reducible refine gate_dst (N := 4) rfl ?_); (try (refine gate_guard (by rfl) ?_; dsimp only)); refine box_event ?hg (N := 4) ?hd (cs := #[.int .i64 0, .int .i64 0, .int .i64 0, .int .i64 0, .int .i64 0]) (t := 154) ?hr ?_; (case hd => rfl); (case hg => rfl); (case hr => first | (go_simp; done) | (go_simp; rfl)); intro gb623 hg w64 hbox hb; have n0_ := Aside0.mk (blk_below (g := gb620) (o := .cells #[.int .i64 a0_0, .int .i64 a0_1, .bool a0_2, .slice (some ad622) l0_3.length c0_3, .slice A0_4 l0_4.length c0_4] 108 (0, 0)) (by (with_reducible repeat (first | refine blk_drewN ?_ _ | refine blk_drew ?_ | refine blk_alloc ?_ _)); exact BK620.out) hb); have n1_ := Aside0.mk (below_step (by repeat (first | (with_reducible first | exact HB.out | apply below_alloc | apply pw_below_drewN | apply below_drew1 | refine below_set ?_ GE620.out) | exact HB.out)) hb); have n2_ := Aside0.mk (hbox); have n3_ := Aside0.mk ((by rw [hg]; exact (below_size (by repeat (first | (with_reducible first | exact HB.out | apply below_alloc | apply pw_below_drewN | apply below_drew1 | refine below_set ?_ GE620.out) | exact HB.out))) : w.heap.size ≤ gb623)); have n4_ := Aside0.mk ((by rw [hg]; exact (below_size (by repeat (first | (with_reducible first | exact HB.out | apply below_alloc | apply pw_below_drewN | apply below_drew1 | refine below_set ?_ GE620.out) | exact HB.out))) : w.heap.size ≤ gb623)); have n5_ := Aside0.mk ((by rw [hg]; exact Nat.ne_of_lt (blk_lt (g := gb620) (o := .cells #[.int .i64 a0_0, .int .i64 a0_1, .bool a0_2, .slice (some ad622) l0_3.length c0_3, .slice A0_4 l0_4.length c0_4] 108 (0, 0)) (by (with_reducible repeat (first | refine blk_drewN ?_ _ | refine blk_drew ?_ | refine blk_alloc ?_ _)); exact BK620.out)) : gb620 ≠ gb623)); have n6_ := Aside0.mk ((by rw [hg]; exact Nat.ne_of_gt (blk_lt (g := gb620) (o := .cells #[.int .i64 a0_0, .int .i64 a0_1, .bool a0_2, .slice (some ad622) l0_3.length c0_3, .slice A0_4 l0_4.length c0_4] 108 (0, 0)) (by (with_reducible repeat (first | refine blk_drewN ?_ _ | refine blk_drew ?_ | refine blk_alloc ?_ _)); exact BK620.out)) : gb623 ≠ gb620)); clear BK620; clear HB; have BK620 := n0_; have HB := n1_; have BK623 := n2_; have GW623 := n3_; have GE623 := n4_; have NB620_623 := n5_; have NB623_620 := n6_; clear n0_ n1_ n2_ n3_ n4_ n5_ n6_; clear hb hbox hg; have hnb65 := NB623_620.out; have hnc65 := NB620_623.out; have hcz66_0 : w64.cell? ⟨gb623, 0, none⟩ = some (.int .i64 0) := (blk_cell BK623.out 0).trans rfl; have hcz66_1 : w64.cell? ⟨gb623, 1, none⟩ = some (.int .i64 0) := (blk_cell BK623.out 1).trans rfl; have hcz66_2 : w64.cell? ⟨gb623, 2, none⟩ = some (.int .i64 0) := (blk_cell BK623.out 2).trans rfl; have hcz66_3 : w64.cell? ⟨gb623, 3, none⟩ = some (.int .i64 0) := (blk_cell BK623.out 3).trans rfl; have hcz66_4 : w64.cell? ⟨gb623, 4, none⟩ = some (.int .i64 0) := (blk_cell BK623.out 4).trans rfl; have hfz66_0 := blk_frozen BK623.out 0; have hfz66_1 := blk_frozen BK623.out 1; have hfz66_2 := blk_frozen BK623.out 2; have hfz66_3 := blk_frozen BK623.out 3; have hfz66_4 := blk_frozen BK623.out 4) | ((with_reducible refine gate_callee (f := 130) rfl ?_); refine goesL_ (some 46) rfl rfl Try.func130 (by kernel_rfl) rfl #[.int .i64 ((rd_T154 l0_3 x3_2).f0)] rfl (by (try simp only [List.map_toArray, List.map_cons, List.map_nil]); first | done | rfl | (simp only [List.length_drop, List.length_take]; rfl)) ?_; (with_reducible refine (turncockref1_coded.calls ((rd_T154 l0_3 x3_2).f0) false _ A17.out).mono ?_); rintro e w' ⟨rfl, ⟨nd, rfl⟩⟩; refine ⟨_, rfl, ?_⟩))
                  go_ret
                  exact ⟨by first | rfl | (simp [errW_none, errW_some] <;> rfl) | (simp [*, errW_none, errW_some] <;> rfl), by repeat (first | (with_reducible first | exact HB.out | apply below_alloc | apply pw_below_drewN | apply below_drew1 | refine below_set ?_ GE620.out | refine below_set ?_ GE623.out) | exact HB.out)⟩
              · rw [if_neg c16] at H
                exact absurd H (by simp)
            · rw [if_neg c15] at H
              have c15b0 : decide (x3_2 < (l0_3.length : Int)) = false := decide_eq_false c15
              clear c15
              have H' := Aside0.mk H
              clear H
              have hcz67_0 : wr.cell? ⟨gb620, 0, none⟩ = some (.int .i64 a0_0) := (blk_cell BK620.out 0).trans rfl
              have hcz67_1 : wr.cell? ⟨gb620, 1, none⟩ = some (.int .i64 a0_1) := (blk_cell BK620.out 1).trans rfl
              have hcz67_2 : wr.cell? ⟨gb620, 2, none⟩ = some (.bool a0_2) := (blk_cell BK620.out 2).trans rfl
              have hcz67_3 : wr.cell? ⟨gb620, 3, none⟩ = some (.slice A0_3 l0_3.length c0_3) := (blk_cell BK620.out 3).trans rfl
              have hcz67_4 : wr.cell? ⟨gb620, 4, none⟩ = some (.slice A0_4 l0_4.length c0_4) := (blk_cell BK620.out 4).trans rfl
              have hfz67_0 := blk_frozen BK620.out 0
              have hfz67_1 := blk_frozen BK620.out 1
              have hfz67_2 := blk_frozen BK620.out 2
              have hfz67_3 := blk_frozen BK620.out 3
              have hfz67_4 := blk_frozen BK620.out 4
              go_wp2
              go_loopg [5] k2 (fun kq v5 w' => ∃ (x5_3 : Int), v5 = .int .i64 x5_3 ∧ Aside0 (turncockref1_CheckTell.l1 kq x5_3 a0_0 a0_1 a0_2 l0_3 l0_4 = some r) ∧ Aside0 (kq ≤ k2) ∧ Aside0 (w'.heap[gb620]? = some (.cells #[.int .i64 a0_0, .int .i64 a0_1, .bool a0_2, (.slice A0_3 l0_3.length c0_3), (.slice A0_4 l0_4.length c0_4)] 108 (0, 0))) ∧ Aside0 (Below w.heap.size w w'))
              case atStart => exact ⟨(0), (by first | rfl | (simp; done) | (simp [*]; done)), H', ⟨Nat.le_refl _⟩, ⟨by (with_reducible repeat (first | refine blk_drewN ?_ _ | refine blk_drew ?_ | refine blk_alloc ?_ _)); exact BK620.out⟩, ⟨by repeat (first | (with_reducible first | exact HB.out | apply below_alloc | apply pw_below_drewN | apply below_drew1 | refine below_set ?_ GE620.out) | exact HB.out)⟩⟩
              case round =>
                clear H'
                try clear c1
                try clear c2
                try clear p2
                try clear c3
                try clear c4
                try clear c4b0
                try clear c5
                try clear c6
                try clear c6b0
                try clear p6
                try clear q6
                try clear hx6
                try clear c9
                try clear c10
                try clear c10b0
                try clear c10b1
                try clear c13
                try clear c14
                try clear c15
                try clear c15b0
                try clear c16
                try clear c16b0
                try clear c18
                try clear c19
                try clear c19b0
                try clear c22
                try clear c24
                try clear c24b0
                try clear c27
                try clear c29
                try clear c29b0
                try clear c32
                try clear c34
                try clear c34b0
                try clear c37
                try clear c39
                try clear c39b0
                try clear c42
                try clear c44
                try clear c44b0
                try clear c47
                try clear c49
                try clear c49b0
                try clear c52
                try clear c54
                try clear c54b0
                try clear c57
                try clear c61
                try clear p62
                try clear q62
                try clear hx62
                try clear p64
                try clear c65
                try clear hcz11_0
                try clear hcz11_1
                try clear hcz11_2
                try clear hcz11_3
                try clear hcz11_4
                try clear hcz12_0
                try clear hcz12_1
                try clear hcz12_2
                try clear hcz12_3
                try clear hcz12_4
                try clear hcz13_0
                try clear hcz13_1
                try clear hcz13_2
                try clear hcz13_3
                try clear hcz13_4
                try clear hcz20_0
                try clear hcz20_1
                try clear hcz20_2
                try clear hcz20_3
                try clear hcz20_4
                try clear hcz23_0
                try clear hcz23_1
                try clear hcz23_2
                try clear hcz23_3
                try clear hcz23_4
                try clear hcz25_0
                try clear hcz25_1
                try clear hcz25_2
                try clear hcz25_3
                try clear hcz25_4
                try clear hcz28_0
                try clear hcz28_1
                try clear hcz28_2
                try clear hcz28_3
                try clear hcz28_4
                try clear hcz30_0
                try clear hcz30_1
                try clear hcz30_2
                try clear hcz30_3
                try clear hcz30_4
                try clear hcz33_0
                try clear hcz33_1
                try clear hcz33_2
                try clear hcz33_3
                try clear hcz33_4
                try clear hcz35_0
                try clear hcz35_1
                try clear hcz35_2
                try clear hcz35_3
                try clear hcz35_4
                try clear hcz38_0
                try clear hcz38_1
                try clear hcz38_2
                try clear hcz38_3
                try clear hcz38_4
                try clear hcz40_0
                try clear hcz40_1
                try clear hcz40_2
                try clear hcz40_3
                try clear hcz40_4
                try clear hcz43_0
                try clear hcz43_1
                try clear hcz43_2
                try clear hcz43_3
                try clear hcz43_4
                try clear hcz45_0
                try clear hcz45_1
                try clear hcz45_2
                try clear hcz45_3
                try clear hcz45_4
                try clear hcz48_0
                try clear hcz48_1
                try clear hcz48_2
                try clear hcz48_3
                try clear hcz48_4
                try clear hcz50_0
                try clear hcz50_1
                try clear hcz50_2
                try clear hcz50_3
                try clear hcz50_4
                try clear hcz53_0
                try clear hcz53_1
                try clear hcz53_2
                try clear hcz53_3
                try clear hcz53_4
                try clear hcz55_0
                try clear hcz55_1
                try clear hcz55_2
                try clear hcz55_3
                try clear hcz55_4
                try clear hcz58_0
                try clear hcz58_1
                try clear hcz58_2
                try clear hcz58_3
                try clear hcz58_4
                try clear hcz59_0
                try clear hcz59_1
                try clear hcz59_2
                try clear hcz59_3
                try clear hcz59_4
                try clear hcz5_0
                try clear hcz5_1
                try clear hcz5_2
                try clear hcz5_3
                try clear hcz5_4
                try clear hcz62_0
                try clear hcz62_1
                try clear hcz62_2
                try clear hcz62_3
                try clear hcz62_4
                try clear hcz63_0
                try clear hcz63_1
                try clear hcz63_2
                try clear hcz63_3
                try clear hcz63_4
                try clear hcz66_0
                try clear hcz66_1
                try clear hcz66_2
                try clear hcz66_3
                try clear hcz66_4
                try clear hcz67_0
                try clear hcz67_1
                try clear hcz67_2
                try clear hcz67_3
                try clear hcz67_4
                try clear hcz7_0
                try clear hcz7_1
                try clear hcz7_2
                try clear hcz7_3
                try clear hcz7_4
                try clear hfz11_0
                try clear hfz11_1
                try clear hfz11_2
                try clear hfz11_3
                try clear hfz11_4
                try clear hfz12_0
                try clear hfz12_1
                try clear hfz12_2
                try clear hfz12_3
                try clear hfz12_4
                try clear hfz13_0
                try clear hfz13_1
                try clear hfz13_2
                try clear hfz13_3
                try clear hfz13_4
                try clear hfz20_0
                try clear hfz20_1
                try clear hfz20_2
                try clear hfz20_3
                try clear hfz20_4
                try clear hfz23_0
                try clear hfz23_1
                try clear hfz23_2
                try clear hfz23_3
                try clear hfz23_4
                try clear hfz25_0
                try clear hfz25_1
                try clear hfz25_2
                try clear hfz25_3
                try clear hfz25_4
                try clear hfz28_0
                try clear hfz28_1
                try clear hfz28_2
                try clear hfz28_3
                try clear hfz28_4
                try clear hfz30_0
                try clear hfz30_1
                try clear hfz30_2
                try clear hfz30_3
                try clear hfz30_4
                try clear hfz33_0
                try clear hfz33_1
                try clear hfz33_2
                try clear hfz33_3
                try clear hfz33_4
                try clear hfz35_0
                try clear hfz35_1
                try clear hfz35_2
                try clear hfz35_3
                try clear hfz35_4
                try clear hfz38_0
                try clear hfz38_1
                try clear hfz38_2
                try clear hfz38_3
                try clear hfz38_4
                try clear hfz40_0
                try clear hfz40_1
                try clear hfz40_2
                try clear hfz40_3
                try clear hfz40_4
                try clear hfz43_0
                try clear hfz43_1
                try clear hfz43_2
                try clear hfz43_3
                try clear hfz43_4
                try clear hfz45_0
                try clear hfz45_1
                try clear hfz45_2
                try clear hfz45_3
                try clear hfz45_4
                try clear hfz48_0
                try clear hfz48_1
                try clear hfz48_2
                try clear hfz48_3
                try clear hfz48_4
                try clear hfz50_0
                try clear hfz50_1
                try clear hfz50_2
                try clear hfz50_3
                try clear hfz50_4
                try clear hfz53_0
                try clear hfz53_1
                try clear hfz53_2
                try clear hfz53_3
                try clear hfz53_4
                try clear hfz55_0
                try clear hfz55_1
                try clear hfz55_2
                try clear hfz55_3
                try clear hfz55_4
                try clear hfz58_0
                try clear hfz58_1
                try clear hfz58_2
                try clear hfz58_3
                try clear hfz58_4
                try clear hfz59_0
                try clear hfz59_1
                try clear hfz59_2
                try clear hfz59_3
                try clear hfz59_4
                try clear hfz5_0
                try clear hfz5_1
                try clear hfz5_2
                try clear hfz5_3
                try clear hfz5_4
                try clear hfz62_0
                try clear hfz62_1
                try clear hfz62_2
                try clear hfz62_3
                try clear hfz62_4
                try clear hfz63_0
                try clear hfz63_1
                try clear hfz63_2
                try clear hfz63_3
                try clear hfz63_4
                try clear hfz66_0
                try clear hfz66_1
                try clear hfz66_2
                try clear hfz66_3
                try clear hfz66_4
                try clear hfz67_0
                try clear hfz67_1
                try clear hfz67_2
                try clear hfz67_3
                try clear hfz67_4
                try clear hfz7_0
                try clear hfz7_1
                try clear hfz7_2
                try clear hfz7_3
                try clear hfz7_4
                try clear hx622_0
                try clear hx622_1
                try clear hx622_2
                try clear hx622_3
                try clear hx622_4
                try clear p2
                try clear p622
                try clear q622
                obtain ⟨x5_3, rfl, HA, HK3, BK620, HB⟩ := hrel
                cases gk with
                | zero => exact absurd HA.out (by simp [turncockref1_CheckTell.l1])
                | succ k3 =>
                  have H := HA.out
                  clear HA
                  simp only [turncockref1_CheckTell.l1] at H
                  by_cases c68 : x5_3 < (l0_4.length : Int)
                  · rw [if_pos c68] at H
                    have c68b0 : decide (x5_3 < (l0_4.length : Int)) = true := decide_eq_true c68
                    clear c68
                    by_cases c69 : 0 ≤ x5_3
                    · rw [if_pos c69] at H
                      have c69b0 : decide (0 ≤ x5_3) = true := decide_eq_true c69
                      clear c69
                      replace H := Option.bind_eq_some_iff.mp H
                      obtain ⟨t626, A700, H⟩ := H
                      replace H : (if t626 = true then ((turncockref1_printable.f k3 ((rd_T152 l0_4 x5_3).f1)).bind fun t628 => (if t628 = true then (turncockref1_CheckTell.l1 k3 (wrap64 (x5_3 + 1)) a0_0 a0_1 a0_2 l0_3 l0_4) else (some false))) else (some false)) = some r := H
                      have A70 := Aside0.mk A700
                      clear A700
                      by_cases c71 : t626 = true
                      · subst c71
                        have H1 : ((turncockref1_printable.f k3 ((rd_T152 l0_4 x5_3).f1)).bind fun t628 => (if t628 = true then (turncockref1_CheckTell.l1 k3 (wrap64 (x5_3 + 1)) a0_0 a0_1 a0_2 l0_3 l0_4) else (some false))) = some r := by rw [if_pos rfl] at H; exact H
                        clear H
                        have H := H1
                        clear H1
                        replace H := Option.bind_eq_some_iff.mp H
                        obtain ⟨t628, A720, H⟩ := H
                        replace H : (if t628 = true then (turncockref1_CheckTell.l1 k3 (wrap64 (x5_3 + 1)) a0_0 a0_1 a0_2 l0_3 l0_4) else (some false)) = some r := H
                        have A72 := Aside0.mk A720
                        clear A720
                        by_cases c73 : t628 = true
                        · subst c73
                          have H1 : (turncockref1_CheckTell.l1 k3 (wrap64 (x5_3 + 1)) a0_0 a0_1 a0_2 l0_3 l0_4) = some r := by rw [if_pos rfl] at H; exact H
                          clear H
                          have H := H1
                          clear H1
                          have H' := Aside0.mk H
                          clear H
                          have hcz74_0 : wr.cell? ⟨gb620, 0, none⟩ = some (.int .i64 a0_0) := (blk_cell BK620.out 0).trans rfl
                          have hcz74_1 : wr.cell? ⟨gb620, 1, none⟩ = some (.int .i64 a0_1) := (blk_cell BK620.out 1).trans rfl
                          have hcz74_2 : wr.cell? ⟨gb620, 2, none⟩ = some (.bool a0_2) := (blk_cell BK620.out 2).trans rfl
                          have hcz74_3 : wr.cell? ⟨gb620, 3, none⟩ = some (.slice A0_3 l0_3.length c0_3) := (blk_cell BK620.out 3).trans rfl
                          have hcz74_4 : wr.cell? ⟨gb620, 4, none⟩ = some (.slice A0_4 l0_4.length c0_4) := (blk_cell BK620.out 4).trans rfl
                          have hfz74_0 := blk_frozen BK620.out 0
                          have hfz74_1 := blk_frozen BK620.out 1
                          have hfz74_2 := blk_frozen BK620.out 2
                          have hfz74_3 := blk_frozen BK620.out 3
                          have hfz74_4 := blk_frozen BK620.out 4
                          have p625 : 0 ≤ (x5_3 : Int) := of_decide_eq_true (by first | (with_reducible assumption) | assumption)
                          have q625 : x5_3 < (l0_4.length : Int) := of_decide_eq_true (by first | (with_reducible assumption) | assumption)
                          obtain ⟨ad625, e625, hx625_0, hx625_1⟩ := at_T152 HR0_4.out x5_3 p625 q625
                          cases e625
                          replace hx625_0 := (HB.out.cell (World.block_lt_of_cell? w _ hx625_0)).trans hx625_0
                          replace hx625_1 := (HB.out.cell (World.block_lt_of_cell? w _ hx625_1)).trans hx625_1
                          replace p625 := eq_true p625
                          replace q625 := eq_true q625
                          go_wp2_with (first | ((with_reducible refine gate_callee (f := 114) rfl ?_); refine goesL_ (some 101) rfl rfl Try.func114 (by kernel_rfl) rfl #[.string ((rd_T152 l0_4 x5_3).f0)] rfl (by (try simp only [List.map_toArray, List.map_cons, List.map_nil]); first | done | rfl | (simp only [List.length_drop, List.length_take]; rfl)) ?_; (with_reducible refine (turncockref1_Name.calls k3 ((rd_T152 l0_4 x5_3).f0) true _ A70.out).mono ?_); rintro e w' ⟨rfl, ⟨nd, rfl⟩⟩; refine ⟨_, rfl, ?_⟩; have p627 : 0 ≤ (x5_3 : Int) := of_decide_eq_true (by first | (with_reducible assumption) | assumption); have q627 : x5_3 < (l0_4.length : Int) := of_decide_eq_true (by first | (with_reducible assumption) | assumption); obtain ⟨ad627, e627, hx627_0, hx627_1⟩ := at_T152 HR0_4.out x5_3 p627 q627; obtain rfl : ad625 = ad627 := (by injection e627); replace hx627_0 := (HB.out.cell (World.block_lt_of_cell? w _ hx627_0)).trans hx627_0; replace hx627_1 := (HB.out.cell (World.block_lt_of_cell? w _ hx627_1)).trans hx627_1; replace p627 := eq_true p627; replace q627 := eq_true q627) | (go_at_call 131; (with_reducible refine (turncockref1_printable.calls k3 ((rd_T152 l0_4 x5_3).f1) true _ A72.out).mono ?_); rintro e w' ⟨rfl, ⟨nd, rfl⟩⟩))
                          go_roundg k3
                          case measure => have := HJ1.out; have := HK2.out; have := HK3.out; omega
                          case rel => exact ⟨(wrap64 (x5_3 + 1)), (by first | rfl | (simp; done) | (simp [*]; done)), H', ⟨by have := HJ1.out; have := HK2.out; have := HK3.out; omega⟩, ⟨by (with_reducible repeat (first | refine blk_drewN ?_ _ | refine blk_drew ?_ | refine blk_alloc ?_ _)); exact BK620.out⟩, ⟨by repeat (first | (with_reducible first | exact HB.out | apply below_alloc | apply pw_below_drewN | apply below_drew1 | refine below_set ?_ GE620.out) | exact HB.out)⟩⟩
                        · replace c73 := Bool.eq_false_iff.mpr c73
                          subst c73
                          have H1 : (some false) = some r := by rw [if_neg (show ¬ (false = true) by decide)] at H; exact H
                          clear H
                          have H := H1
                          clear H1
                          obtain rfl := Option.some.inj H
                          have hcz75_0 : wr.cell? ⟨gb620, 0, none⟩ = some (.int .i64 a0_0) := (blk_cell BK620.out 0).trans rfl
                          have hcz75_1 : wr.cell? ⟨gb620, 1, none⟩ = some (.int .i64 a0_1) := (blk_cell BK620.out 1).trans rfl
                          have hcz75_2 : wr.cell? ⟨gb620, 2, none⟩ = some (.bool a0_2) := (blk_cell BK620.out 2).trans rfl
                          have hcz75_3 : wr.cell? ⟨gb620, 3, none⟩ = some (.slice A0_3 l0_3.length c0_3) := (blk_cell BK620.out 3).trans rfl
                          have hcz75_4 : wr.cell? ⟨gb620, 4, none⟩ = some (.slice A0_4 l0_4.length c0_4) := (blk_cell BK620.out 4).trans rfl
                          have hfz75_0 := blk_frozen BK620.out 0
                          have hfz75_1 := blk_frozen BK620.out 1
                          have hfz75_2 := blk_frozen BK620.out 2
                          have hfz75_3 := blk_frozen BK620.out 3
                          have hfz75_4 := blk_frozen BK620.out 4
                          have p625 : 0 ≤ (x5_3 : Int) := of_decide_eq_true (by first | (with_reducible assumption) | assumption)
                          have q625 : x5_3 < (l0_4.length : Int) := of_decide_eq_true (by first | (with_reducible assumption) | assumption)
                          obtain ⟨ad625, e625, hx625_0, hx625_1⟩ := at_T152 HR0_4.out x5_3 p625 q625
                          cases e625
                          replace hx625_0 := (HB.out.cell (World.block_lt_of_cell? w _ hx625_0)).trans hx625_0
                          replace hx625_1 := (HB.out.cell (World.block_lt_of_cell? w _ hx625_1)).trans hx625_1
                          replace p625 := eq_true p625
                          replace q625 := eq_true q625
                          go_wp2_with (first | ((with_reducible refine gate_callee (f := 114) rfl ?_); refine goesL_ (some 101) rfl rfl Try.func114 (by kernel_rfl) rfl #[.string ((rd_T152 l0_4 x5_3).f0)] rfl (by (try simp only [List.map_toArray, List.map_cons, List.map_nil]); first | done | rfl | (simp only [List.length_drop, List.length_take]; rfl)) ?_; (with_reducible refine (turncockref1_Name.calls k3 ((rd_T152 l0_4 x5_3).f0) true _ A70.out).mono ?_); rintro e w' ⟨rfl, ⟨nd, rfl⟩⟩; refine ⟨_, rfl, ?_⟩; have p627 : 0 ≤ (x5_3 : Int) := of_decide_eq_true (by first | (with_reducible assumption) | assumption); have q627 : x5_3 < (l0_4.length : Int) := of_decide_eq_true (by first | (with_reducible assumption) | assumption); obtain ⟨ad627, e627, hx627_0, hx627_1⟩ := at_T152 HR0_4.out x5_3 p627 q627; obtain rfl : ad625 = ad627 := (by injection e627); replace hx627_0 := (HB.out.cell (World.block_lt_of_cell? w _ hx627_0)).trans hx627_0; replace hx627_1 := (HB.out.cell (World.block_lt_of_cell? w _ hx627_1)).trans hx627_1; replace p627 := eq_true p627; replace q627 := eq_true q627) | (go_at_call 131; (with_reducible refine (turncockref1_printable.calls k3 ((rd_T152 l0_4 x5_3).f1) false _ A72.out).mono ?_); rintro e w' ⟨rfl, ⟨nd, rfl⟩⟩))
                          go_ret
                          exact ⟨by first | rfl | (simp [errW_none, errW_some] <;> rfl) | (simp [*, errW_none, errW_some] <;> rfl), by repeat (first | (with_reducible first | exact HB.out | apply below_alloc | apply pw_below_drewN | apply below_drew1 | refine below_set ?_ GE620.out) | exact HB.out)⟩
                      · replace c71 := Bool.eq_false_iff.mpr c71
                        subst c71
                        have H1 : (some false) = some r := by rw [if_neg (show ¬ (false = true) by decide)] at H; exact H
                        clear H
                        have H := H1
                        clear H1
                        obtain rfl := Option.some.inj H
                        have hcz76_0 : wr.cell? ⟨gb620, 0, none⟩ = some (.int .i64 a0_0) := (blk_cell BK620.out 0).trans rfl
                        have hcz76_1 : wr.cell? ⟨gb620, 1, none⟩ = some (.int .i64 a0_1) := (blk_cell BK620.out 1).trans rfl
                        have hcz76_2 : wr.cell? ⟨gb620, 2, none⟩ = some (.bool a0_2) := (blk_cell BK620.out 2).trans rfl
                        have hcz76_3 : wr.cell? ⟨gb620, 3, none⟩ = some (.slice A0_3 l0_3.length c0_3) := (blk_cell BK620.out 3).trans rfl
                        have hcz76_4 : wr.cell? ⟨gb620, 4, none⟩ = some (.slice A0_4 l0_4.length c0_4) := (blk_cell BK620.out 4).trans rfl
                        have hfz76_0 := blk_frozen BK620.out 0
                        have hfz76_1 := blk_frozen BK620.out 1
                        have hfz76_2 := blk_frozen BK620.out 2
                        have hfz76_3 := blk_frozen BK620.out 3
                        have hfz76_4 := blk_frozen BK620.out 4
                        have p625 : 0 ≤ (x5_3 : Int) := of_decide_eq_true (by first | (with_reducible assumption) | assumption)
                        have q625 : x5_3 < (l0_4.length : Int) := of_decide_eq_true (by first | (with_reducible assumption) | assumption)
                        obtain ⟨ad625, e625, hx625_0, hx625_1⟩ := at_T152 HR0_4.out x5_3 p625 q625
                        cases e625
                        replace hx625_0 := (HB.out.cell (World.block_lt_of_cell? w _ hx625_0)).trans hx625_0
                        replace hx625_1 := (HB.out.cell (World.block_lt_of_cell? w _ hx625_1)).trans hx625_1
                        replace p625 := eq_true p625
                        replace q625 := eq_true q625
                        go_wp2_with (first | ((with_reducible refine gate_callee (f := 114) rfl ?_); refine goesL_ (some 101) rfl rfl Try.func114 (by kernel_rfl) rfl #[.string ((rd_T152 l0_4 x5_3).f0)] rfl (by (try simp only [List.map_toArray, List.map_cons, List.map_nil]); first | done | rfl | (simp only [List.length_drop, List.length_take]; rfl)) ?_; (with_reducible refine (turncockref1_Name.calls k3 ((rd_T152 l0_4 x5_3).f0) false _ A70.out).mono ?_); rintro e w' ⟨rfl, ⟨nd, rfl⟩⟩; refine ⟨_, rfl, ?_⟩))
                        go_ret
                        exact ⟨by first | rfl | (simp [errW_none, errW_some] <;> rfl) | (simp [*, errW_none, errW_some] <;> rfl), by repeat (first | (with_reducible first | exact HB.out | apply below_alloc | apply pw_below_drewN | apply below_drew1 | refine below_set ?_ GE620.out) | exact HB.out)⟩
                    · rw [if_neg c69] at H
                      exact absurd H (by simp)
                  · rw [if_neg c68] at H
                    have c68b0 : decide (x5_3 < (l0_4.length : Int)) = false := decide_eq_false c68
                    clear c68
                    obtain rfl := Option.some.inj H
                    have hcz77_0 : wr.cell? ⟨gb620, 0, none⟩ = some (.int .i64 a0_0) := (blk_cell BK620.out 0).trans rfl
                    have hcz77_1 : wr.cell? ⟨gb620, 1, none⟩ = some (.int .i64 a0_1) := (blk_cell BK620.out 1).trans rfl
                    have hcz77_2 : wr.cell? ⟨gb620, 2, none⟩ = some (.bool a0_2) := (blk_cell BK620.out 2).trans rfl
                    have hcz77_3 : wr.cell? ⟨gb620, 3, none⟩ = some (.slice A0_3 l0_3.length c0_3) := (blk_cell BK620.out 3).trans rfl
                    have hcz77_4 : wr.cell? ⟨gb620, 4, none⟩ = some (.slice A0_4 l0_4.length c0_4) := (blk_cell BK620.out 4).trans rfl
                    have hfz77_0 := blk_frozen BK620.out 0
                    have hfz77_1 := blk_frozen BK620.out 1
                    have hfz77_2 := blk_frozen BK620.out 2
                    have hfz77_3 := blk_frozen BK620.out 3
                    have hfz77_4 := blk_frozen BK620.out 4
                    go_wp2
                    go_ret
                    exact ⟨by first | rfl | (simp [errW_none, errW_some] <;> rfl) | (simp [*, errW_none, errW_some] <;> rfl), by repeat (first | (with_reducible first | exact HB.out | apply below_alloc | apply pw_below_drewN | apply below_drew1 | refine below_set ?_ GE620.out) | exact HB.out)⟩

end Go.Proofs.Ytnhblhhkjnmkkaa.Q
