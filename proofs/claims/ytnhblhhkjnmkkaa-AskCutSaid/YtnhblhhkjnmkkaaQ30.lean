/- Printed by this session's own program out of the translation: each function as a plain Lean function, and its contract. -/
import Derived.Test.YtnhblhhkjnmkkaaQ0
import Derived.Test.YtnhblhhkjnmkkaaQ4
import Derived.Test.YtnhblhhkjnmkkaaQ29
namespace Go.Proofs.Ytnhblhhkjnmkkaa.Q
open Go.RowKit Go.Proofs.YtnhblhhkjnmkkaaW.PrintWords Go.Proofs.YtnhblhhkjnmkkaaW.PrintLast Go.Proofs.YtnhblhhkjnmkkaaW.PrintMore
attribute [local go_sem] max2_int min2_int max_two min_two max_three min_three max_four min_four   -- for this text's walks alone
set_option linter.unusedVariables false
set_option linter.unusedSimpArgs false

attribute [local go_sem high] eqA142
/-! ### ask_Check: function 79 -/
mutual
def ask_Check.j0 : Nat → Bool → Int → ByteArray → Int → List (S140) → Option (Int)
  | 0, _, _, _, _, _ => none
  | k + 1, x41, x455000, x455001, x455002, x455003 => if x41 = true then (some 1) else (ask_Check.l0 k x455003 (x455003.length : Int) 0)
def ask_Check.l0 : Nat → List (S140) → Int → Int → Option (Int)
  | 0, _, _, _ => none
  | k + 1, x43, x44, x45 => if x45 < x44 then (if 0 ≤ x45 then (if x45 < (x43.length : Int) then ((desc_Check.f k ((rd_T140 x43 x45).f0)).bind fun t458 => (if t458 = 0 then (ask_Check.l0 k x43 x44 (wrap64 (x45 + 1))) else (some t458))) else (none)) else (none)) else (some 0)
end
def ask_Check.f (k : Nat) (a0_0 : Int) (a0_1 : ByteArray) (a0_2 : Int) (l0_3 : List (S140)) : Option (Int) := if a0_0 < 0 then (ask_Check.j0 k true a0_0 a0_1 a0_2 l0_3) else (if a0_0 > 2147483647 then (ask_Check.j0 k true a0_0 a0_1 a0_2 l0_3) else ((desc_Name.f k a0_1).bind fun t455 => (if t455 = true then (if a0_2 < 0 then (ask_Check.j0 k true a0_0 a0_1 a0_2 l0_3) else (if a0_2 > 4294967295 then (ask_Check.j0 k true a0_0 a0_1 a0_2 l0_3) else (if (l0_3.length : Int) < 1 then (ask_Check.j0 k true a0_0 a0_1 a0_2 l0_3) else (ask_Check.j0 k (decide ((l0_3.length : Int) > 16)) a0_0 a0_1 a0_2 l0_3)))) else (ask_Check.j0 k true a0_0 a0_1 a0_2 l0_3))))
theorem ask_Check.mono_l : ∀ k, (∀ y0 y1 y2 y3 y4, LeO (ask_Check.j0 k y0 y1 y2 y3 y4) (ask_Check.j0 (k + 1) y0 y1 y2 y3 y4)) ∧ (∀ y0 y1 y2, LeO (ask_Check.l0 k y0 y1 y2) (ask_Check.l0 (k + 1) y0 y1 y2))
  | 0 => ⟨fun _ _ _ _ _ r h => by simp [ask_Check.j0] at h, fun _ _ _ r h => by simp [ask_Check.l0] at h⟩
  | k + 1 => by
    obtain ⟨ih0, ih1⟩ := ask_Check.mono_l k
    refine ⟨?_, ?_⟩
    · intro y0 y1 y2 y3 y4
      unfold ask_Check.j0
      repeat' first
      | (with_reducible exact ih0 _ _ _ _ _)
      | (with_reducible exact ih1 _ _ _)
      | (with_reducible exact desc_Check.mono _ _)
      | (with_reducible exact desc_Name.mono _ _)
      | (with_reducible exact LeO.refl _)
      | (with_reducible exact LeO.none _)
      | (with_reducible refine LeO.ite ?_ ?_)
      | (with_reducible refine LeO.bind ?_ (fun _ => ?_))
      | exact ih0 _ _ _ _ _
      | exact ih1 _ _ _
      | exact desc_Check.mono _ _
      | exact desc_Name.mono _ _
      | exact LeO.none _
      | refine LeO.ite ?_ ?_
      | refine LeO.bind ?_ (fun _ => ?_)
    · intro y0 y1 y2
      unfold ask_Check.l0
      repeat' first
      | (with_reducible exact ih0 _ _ _ _ _)
      | (with_reducible exact ih1 _ _ _)
      | (with_reducible exact desc_Check.mono _ _)
      | (with_reducible exact desc_Name.mono _ _)
      | (with_reducible exact LeO.refl _)
      | (with_reducible exact LeO.none _)
      | (with_reducible refine LeO.ite ?_ ?_)
      | (with_reducible refine LeO.bind ?_ (fun _ => ?_))
      | exact ih0 _ _ _ _ _
      | exact ih1 _ _ _
      | exact desc_Check.mono _ _
      | exact desc_Name.mono _ _
      | exact LeO.none _
      | refine LeO.ite ?_ ?_
      | refine LeO.bind ?_ (fun _ => ?_)
theorem ask_Check.mono : ∀ a0 a1 a2 a3 k, LeO (ask_Check.f k a0 a1 a2 a3) (ask_Check.f (k + 1) a0 a1 a2 a3) := by
  intro a0 a1 a2 a3 k
  obtain ⟨ih0, ih1⟩ := ask_Check.mono_l k
  unfold ask_Check.f
  repeat' first
      | (with_reducible exact ih0 _ _ _ _ _)
      | (with_reducible exact ih1 _ _ _)
      | (with_reducible exact desc_Check.mono _ _)
      | (with_reducible exact desc_Name.mono _ _)
      | (with_reducible exact LeO.refl _)
      | (with_reducible exact LeO.none _)
      | (with_reducible refine LeO.ite ?_ ?_)
      | (with_reducible refine LeO.bind ?_ (fun _ => ?_))
      | exact ih0 _ _ _ _ _
      | exact ih1 _ _ _
      | exact desc_Check.mono _ _
      | exact desc_Name.mono _ _
      | exact LeO.none _
      | refine LeO.ite ?_ ?_
      | refine LeO.bind ?_ (fun _ => ?_)
set_option maxHeartbeats 8000000 in
set_option maxRecDepth 100000 in
theorem ask_Check.calls (k : Nat) (a0_0 : Int) (a0_1 : ByteArray) (a0_2 : Int) (A0_3 : Option Addr) (c0_3 : Nat) (l0_3 : List (S140)) (r : Int) (w : World) (hr0_3 : Kd.C k140 w A0_3 l0_3.length l0_3) (hc0_3 : l0_3.length ≤ c0_3) (h : ask_Check.f k a0_0 a0_1 a0_2 l0_3 = some r) :
    Calls Try.prog 79 #[.agg #[.int .i64 a0_0, .string a0_1, .int .i64 a0_2, .slice A0_3 l0_3.length c0_3]] w fun e w' => e = .returned (.int .i64 r) ∧ Below w.heap.size w w' := by
  have hu95 := Try.underlying95
  have hu140 := Try.underlying140
  have HR0_3 := Aside0.mk hr0_3
  have HC0_3 := Aside0.mk hc0_3
  clear hr0_3 hc0_3
  have HB := Aside0.mk (Below.refl w.heap.size w)
  have H : (if a0_0 < 0 then (ask_Check.j0 k true a0_0 a0_1 a0_2 l0_3) else (if a0_0 > 2147483647 then (ask_Check.j0 k true a0_0 a0_1 a0_2 l0_3) else ((desc_Name.f k a0_1).bind fun t455 => (if t455 = true then (if a0_2 < 0 then (ask_Check.j0 k true a0_0 a0_1 a0_2 l0_3) else (if a0_2 > 4294967295 then (ask_Check.j0 k true a0_0 a0_1 a0_2 l0_3) else (if (l0_3.length : Int) < 1 then (ask_Check.j0 k true a0_0 a0_1 a0_2 l0_3) else (ask_Check.j0 k (decide ((l0_3.length : Int) > 16)) a0_0 a0_1 a0_2 l0_3)))) else (ask_Check.j0 k true a0_0 a0_1 a0_2 l0_3))))) = some r := h
  clear h
  have HC2 := Aside0.mk H
  clear H
  go_enter Try.func79, Try.ntmps79
  go_upto_region 1 with (first | ((with_reducible refine gate_dst (N := 1) rfl ?_); (try (refine gate_guard (by rfl) ?_; dsimp only)); refine box_event ?hg (N := 1) ?hd (cs := #[.int .i64 a0_0, .string a0_1, .int .i64 a0_2, .slice A0_3 l0_3.length c0_3]) (t := 95) ?hr ?_; (case hd => rfl); (case hg => rfl); (case hr => first | (go_simp; done) | (go_simp; rfl)); intro gb454 hg w3 hbox hb; have n0_ := Aside0.mk (below_step (by repeat (first | (with_reducible first | exact HB.out | apply below_alloc | apply pw_below_drewN | apply below_drew1) | exact HB.out)) hb); have n1_ := Aside0.mk (hbox); have n2_ := Aside0.mk ((by rw [hg]; exact (below_size (by repeat (first | (with_reducible first | exact HB.out | apply below_alloc | apply pw_below_drewN | apply below_drew1) | exact HB.out))) : w.heap.size ≤ gb454)); have n3_ := Aside0.mk ((by rw [hg]; exact (below_size (by repeat (first | (with_reducible first | exact HB.out | apply below_alloc | apply pw_below_drewN | apply below_drew1) | exact HB.out))) : w.heap.size ≤ gb454)); clear HB; have HB := n0_; have BK454 := n1_; have GW454 := n2_; have GE454 := n3_; clear n0_ n1_ n2_ n3_; clear hb hbox hg))
  (try simp only [Act.put, List.setIfInBounds_toArray, List.set_cons_zero, List.set_cons_succ])
  go_cut [41] (fun v41 wc => ∃ (kq : Nat) (x41_1 : Bool), v41 = .bool x41_1 ∧ Aside0 (ask_Check.j0 kq x41_1 a0_0 a0_1 a0_2 l0_3 = some r) ∧ Aside0 (kq ≤ k) ∧ Aside0 (wc.heap[gb454]? = some (.cells #[.int .i64 a0_0, .string a0_1, .int .i64 a0_2, (.slice A0_3 l0_3.length c0_3)] 95 (0, 0))) ∧ Aside0 (Below w.heap.size w wc))
  case first =>
    have H := HC2.out
    clear HC2
    by_cases c4 : a0_0 < 0
    · rw [if_pos c4] at H
      have c4b0 : decide (a0_0 < 0) = true := decide_eq_true c4
      clear c4
      (first | rw [c4b0] | (simp only [i64_w, i32_w]; rw [c4b0]) | skip)
      have H' := Aside0.mk H
      clear H
      have hcz5_0 : w3.cell? ⟨gb454, 0, none⟩ = some (.int .i64 a0_0) := (blk_cell BK454.out 0).trans rfl
      have hcz5_1 : w3.cell? ⟨gb454, 1, none⟩ = some (.string a0_1) := (blk_cell BK454.out 1).trans rfl
      have hcz5_2 : w3.cell? ⟨gb454, 2, none⟩ = some (.int .i64 a0_2) := (blk_cell BK454.out 2).trans rfl
      have hcz5_3 : w3.cell? ⟨gb454, 3, none⟩ = some (.slice A0_3 l0_3.length c0_3) := (blk_cell BK454.out 3).trans rfl
      have hfz5_0 := blk_frozen BK454.out 0
      have hfz5_1 := blk_frozen BK454.out 1
      have hfz5_2 := blk_frozen BK454.out 2
      have hfz5_3 := blk_frozen BK454.out 3
      go_wp2
      go_meet
      case rel => exact ⟨_, (true), (by first | rfl | (simp; done) | (simp [*]; done)), H', ⟨by first | omega | exact Nat.le_refl _⟩, ⟨by (with_reducible repeat (first | refine blk_drewN ?_ _ | refine blk_drew ?_ | refine blk_alloc ?_ _)); exact BK454.out⟩, ⟨by repeat (first | (with_reducible first | exact HB.out | apply below_alloc | apply pw_below_drewN | apply below_drew1 | refine below_set ?_ GE454.out) | exact HB.out)⟩⟩
    · rw [if_neg c4] at H
      have c4b0 : decide (a0_0 < 0) = false := decide_eq_false c4
      clear c4
      (first | rw [c4b0] | (simp only [i64_w, i32_w]; rw [c4b0]) | skip)
      by_cases c6 : a0_0 > 2147483647
      · rw [if_pos c6] at H
        have c6b0 : decide (2147483647 < a0_0) = true := decide_eq_true c6
        clear c6
        have H' := Aside0.mk H
        clear H
        have hcz7_0 : w3.cell? ⟨gb454, 0, none⟩ = some (.int .i64 a0_0) := (blk_cell BK454.out 0).trans rfl
        have hcz7_1 : w3.cell? ⟨gb454, 1, none⟩ = some (.string a0_1) := (blk_cell BK454.out 1).trans rfl
        have hcz7_2 : w3.cell? ⟨gb454, 2, none⟩ = some (.int .i64 a0_2) := (blk_cell BK454.out 2).trans rfl
        have hcz7_3 : w3.cell? ⟨gb454, 3, none⟩ = some (.slice A0_3 l0_3.length c0_3) := (blk_cell BK454.out 3).trans rfl
        have hfz7_0 := blk_frozen BK454.out 0
        have hfz7_1 := blk_frozen BK454.out 1
        have hfz7_2 := blk_frozen BK454.out 2
        have hfz7_3 := blk_frozen BK454.out 3
        go_wp2
        go_meet
        case rel => exact ⟨_, (true), (by first | rfl | (simp; done) | (simp [*]; done)), H', ⟨by first | omega | exact Nat.le_refl _⟩, ⟨by (with_reducible repeat (first | refine blk_drewN ?_ _ | refine blk_drew ?_ | refine blk_alloc ?_ _)); exact BK454.out⟩, ⟨by repeat (first | (with_reducible first | exact HB.out | apply below_alloc | apply pw_below_drewN | apply below_drew1 | refine below_set ?_ GE454.out) | exact HB.out)⟩⟩
      · rw [if_neg c6] at H
        have c6b0 : decide (2147483647 < a0_0) = false := decide_eq_false c6
        clear c6
        replace H := Option.bind_eq_some_iff.mp H
        obtain ⟨t455, A80, H⟩ := H
        replace H : (if t455 = true then (if a0_2 < 0 then (ask_Check.j0 k true a0_0 a0_1 a0_2 l0_3) else (if a0_2 > 4294967295 then (ask_Check.j0 k true a0_0 a0_1 a0_2 l0_3) else (if (l0_3.length : Int) < 1 then (ask_Check.j0 k true a0_0 a0_1 a0_2 l0_3) else (ask_Check.j0 k (decide ((l0_3.length : Int) > 16)) a0_0 a0_1 a0_2 l0_3)))) else (ask_Check.j0 k true a0_0 a0_1 a0_2 l0_3)) = some r := H
        have A8 := Aside0.mk A80
        clear A80
        by_cases c9 : t455 = true
        · subst c9
          have H1 : (if a0_2 < 0 then (ask_Check.j0 k true a0_0 a0_1 a0_2 l0_3) else (if a0_2 > 4294967295 then (ask_Check.j0 k true a0_0 a0_1 a0_2 l0_3) else (if (l0_3.length : Int) < 1 then (ask_Check.j0 k true a0_0 a0_1 a0_2 l0_3) else (ask_Check.j0 k (decide ((l0_3.length : Int) > 16)) a0_0 a0_1 a0_2 l0_3)))) = some r := by rw [if_pos rfl] at H; exact H
          clear H
          have H := H1
          clear H1
          by_cases c10 : a0_2 < 0
          · rw [if_pos c10] at H
            have c10b0 : decide (a0_2 < 0) = true := decide_eq_true c10
            clear c10
            have H' := Aside0.mk H
            clear H
            have hcz11_0 : w3.cell? ⟨gb454, 0, none⟩ = some (.int .i64 a0_0) := (blk_cell BK454.out 0).trans rfl
            have hcz11_1 : w3.cell? ⟨gb454, 1, none⟩ = some (.string a0_1) := (blk_cell BK454.out 1).trans rfl
            have hcz11_2 : w3.cell? ⟨gb454, 2, none⟩ = some (.int .i64 a0_2) := (blk_cell BK454.out 2).trans rfl
            have hcz11_3 : w3.cell? ⟨gb454, 3, none⟩ = some (.slice A0_3 l0_3.length c0_3) := (blk_cell BK454.out 3).trans rfl
            have hfz11_0 := blk_frozen BK454.out 0
            have hfz11_1 := blk_frozen BK454.out 1
            have hfz11_2 := blk_frozen BK454.out 2
            have hfz11_3 := blk_frozen BK454.out 3
            go_wp2_with (first | (go_at_call 112; (with_reducible refine (desc_Name.calls k a0_1 true _ A8.out).mono ?_); rintro e w' ⟨rfl, ⟨nd, rfl⟩⟩))
            go_meet
            case rel => exact ⟨_, (true), (by first | rfl | (simp; done) | (simp [*]; done)), H', ⟨by first | omega | exact Nat.le_refl _⟩, ⟨by (with_reducible repeat (first | refine blk_drewN ?_ _ | refine blk_drew ?_ | refine blk_alloc ?_ _)); exact BK454.out⟩, ⟨by repeat (first | (with_reducible first | exact HB.out | apply below_alloc | apply pw_below_drewN | apply below_drew1 | refine below_set ?_ GE454.out) | exact HB.out)⟩⟩
          · rw [if_neg c10] at H
            have c10b0 : decide (a0_2 < 0) = false := decide_eq_false c10
            clear c10
            by_cases c12 : a0_2 > 4294967295
            · rw [if_pos c12] at H
              have c12b0 : decide (4294967295 < a0_2) = true := decide_eq_true c12
              clear c12
              have H' := Aside0.mk H
              clear H
              have hcz13_0 : w3.cell? ⟨gb454, 0, none⟩ = some (.int .i64 a0_0) := (blk_cell BK454.out 0).trans rfl
              have hcz13_1 : w3.cell? ⟨gb454, 1, none⟩ = some (.string a0_1) := (blk_cell BK454.out 1).trans rfl
              have hcz13_2 : w3.cell? ⟨gb454, 2, none⟩ = some (.int .i64 a0_2) := (blk_cell BK454.out 2).trans rfl
              have hcz13_3 : w3.cell? ⟨gb454, 3, none⟩ = some (.slice A0_3 l0_3.length c0_3) := (blk_cell BK454.out 3).trans rfl
              have hfz13_0 := blk_frozen BK454.out 0
              have hfz13_1 := blk_frozen BK454.out 1
              have hfz13_2 := blk_frozen BK454.out 2
              have hfz13_3 := blk_frozen BK454.out 3
              go_wp2_with (first | (go_at_call 112; (with_reducible refine (desc_Name.calls k a0_1 true _ A8.out).mono ?_); rintro e w' ⟨rfl, ⟨nd, rfl⟩⟩))
              go_meet
              case rel => exact ⟨_, (true), (by first | rfl | (simp; done) | (simp [*]; done)), H', ⟨by first | omega | exact Nat.le_refl _⟩, ⟨by (with_reducible repeat (first | refine blk_drewN ?_ _ | refine blk_drew ?_ | refine blk_alloc ?_ _)); exact BK454.out⟩, ⟨by repeat (first | (with_reducible first | exact HB.out | apply below_alloc | apply pw_below_drewN | apply below_drew1 | refine below_set ?_ GE454.out) | exact HB.out)⟩⟩
            · rw [if_neg c12] at H
              have c12b0 : decide (4294967295 < a0_2) = false := decide_eq_false c12
              clear c12
              by_cases c14 : (l0_3.length : Int) < 1
              · rw [if_pos c14] at H
                have c14b0 : decide ((l0_3.length : Int) < 1) = true := decide_eq_true c14
                have c14b1 : decide (l0_3.length < 1) = true := decide_eq_true (by omega)
                clear c14
                have H' := Aside0.mk H
                clear H
                have hcz15_0 : w3.cell? ⟨gb454, 0, none⟩ = some (.int .i64 a0_0) := (blk_cell BK454.out 0).trans rfl
                have hcz15_1 : w3.cell? ⟨gb454, 1, none⟩ = some (.string a0_1) := (blk_cell BK454.out 1).trans rfl
                have hcz15_2 : w3.cell? ⟨gb454, 2, none⟩ = some (.int .i64 a0_2) := (blk_cell BK454.out 2).trans rfl
                have hcz15_3 : w3.cell? ⟨gb454, 3, none⟩ = some (.slice A0_3 l0_3.length c0_3) := (blk_cell BK454.out 3).trans rfl
                have hfz15_0 := blk_frozen BK454.out 0
                have hfz15_1 := blk_frozen BK454.out 1
                have hfz15_2 := blk_frozen BK454.out 2
                have hfz15_3 := blk_frozen BK454.out 3
                go_wp2_with (first | (go_at_call 112; (with_reducible refine (desc_Name.calls k a0_1 true _ A8.out).mono ?_); rintro e w' ⟨rfl, ⟨nd, rfl⟩⟩))
                go_meet
                case rel => exact ⟨_, (true), (by first | rfl | (simp; done) | (simp [*]; done)), H', ⟨by first | omega | exact Nat.le_refl _⟩, ⟨by (with_reducible repeat (first | refine blk_drewN ?_ _ | refine blk_drew ?_ | refine blk_alloc ?_ _)); exact BK454.out⟩, ⟨by repeat (first | (with_reducible first | exact HB.out | apply below_alloc | apply pw_below_drewN | apply below_drew1 | refine below_set ?_ GE454.out) | exact HB.out)⟩⟩
              · rw [if_neg c14] at H
                have c14b0 : decide ((l0_3.length : Int) < 1) = false := decide_eq_false c14
                have c14b1 : decide (l0_3.length < 1) = false := decide_eq_false (by omega)
                clear c14
                have H' := Aside0.mk H
                clear H
                have hcz16_0 : w3.cell? ⟨gb454, 0, none⟩ = some (.int .i64 a0_0) := (blk_cell BK454.out 0).trans rfl
                have hcz16_1 : w3.cell? ⟨gb454, 1, none⟩ = some (.string a0_1) := (blk_cell BK454.out 1).trans rfl
                have hcz16_2 : w3.cell? ⟨gb454, 2, none⟩ = some (.int .i64 a0_2) := (blk_cell BK454.out 2).trans rfl
                have hcz16_3 : w3.cell? ⟨gb454, 3, none⟩ = some (.slice A0_3 l0_3.length c0_3) := (blk_cell BK454.out 3).trans rfl
                have hfz16_0 := blk_frozen BK454.out 0
                have hfz16_1 := blk_frozen BK454.out 1
                have hfz16_2 := blk_frozen BK454.out 2
                have hfz16_3 := blk_frozen BK454.out 3
                go_wp2_with (first | (go_at_call 112; (with_reducible refine (desc_Name.calls k a0_1 true _ A8.out).mono ?_); rintro e w' ⟨rfl, ⟨nd, rfl⟩⟩))
                go_meet
                case rel => exact ⟨_, (decide ((l0_3.length : Int) > 16)), (by first | rfl | (simp; done) | (simp [*]; done)), H', ⟨by first | omega | exact Nat.le_refl _⟩, ⟨by (with_reducible repeat (first | refine blk_drewN ?_ _ | refine blk_drew ?_ | refine blk_alloc ?_ _)); exact BK454.out⟩, ⟨by repeat (first | (with_reducible first | exact HB.out | apply below_alloc | apply pw_below_drewN | apply below_drew1 | refine below_set ?_ GE454.out) | exact HB.out)⟩⟩
        · replace c9 := Bool.eq_false_iff.mpr c9
          subst c9
          have H1 : (ask_Check.j0 k true a0_0 a0_1 a0_2 l0_3) = some r := by rw [if_neg (show ¬ (false = true) by decide)] at H; exact H
          clear H
          have H := H1
          clear H1
          have H' := Aside0.mk H
          clear H
          have hcz17_0 : w3.cell? ⟨gb454, 0, none⟩ = some (.int .i64 a0_0) := (blk_cell BK454.out 0).trans rfl
          have hcz17_1 : w3.cell? ⟨gb454, 1, none⟩ = some (.string a0_1) := (blk_cell BK454.out 1).trans rfl
          have hcz17_2 : w3.cell? ⟨gb454, 2, none⟩ = some (.int .i64 a0_2) := (blk_cell BK454.out 2).trans rfl
          have hcz17_3 : w3.cell? ⟨gb454, 3, none⟩ = some (.slice A0_3 l0_3.length c0_3) := (blk_cell BK454.out 3).trans rfl
          have hfz17_0 := blk_frozen BK454.out 0
          have hfz17_1 := blk_frozen BK454.out 1
          have hfz17_2 := blk_frozen BK454.out 2
          have hfz17_3 := blk_frozen BK454.out 3
          go_wp2_with (first | (go_at_call 112; (with_reducible refine (desc_Name.calls k a0_1 false _ A8.out).mono ?_); rintro e w' ⟨rfl, ⟨nd, rfl⟩⟩))
          go_meet
          case rel => exact ⟨_, (true), (by first | rfl | (simp; done) | (simp [*]; done)), H', ⟨by first | omega | exact Nat.le_refl _⟩, ⟨by (with_reducible repeat (first | refine blk_drewN ?_ _ | refine blk_drew ?_ | refine blk_alloc ?_ _)); exact BK454.out⟩, ⟨by repeat (first | (with_reducible first | exact HB.out | apply below_alloc | apply pw_below_drewN | apply below_drew1 | refine below_set ?_ GE454.out) | exact HB.out)⟩⟩
  case rest =>
    clear HC2
    try clear c1
    try clear p2
    try clear c4
    try clear c4b0
    try clear c6
    try clear c6b0
    try clear c7
    try clear c9
    try clear c10
    try clear c10b0
    try clear c12
    try clear c12b0
    try clear c14
    try clear c14b0
    try clear c14b1
    try clear hcz11_0
    try clear hcz11_1
    try clear hcz11_2
    try clear hcz11_3
    try clear hcz13_0
    try clear hcz13_1
    try clear hcz13_2
    try clear hcz13_3
    try clear hcz15_0
    try clear hcz15_1
    try clear hcz15_2
    try clear hcz15_3
    try clear hcz16_0
    try clear hcz16_1
    try clear hcz16_2
    try clear hcz16_3
    try clear hcz17_0
    try clear hcz17_1
    try clear hcz17_2
    try clear hcz17_3
    try clear hcz5_0
    try clear hcz5_1
    try clear hcz5_2
    try clear hcz5_3
    try clear hcz7_0
    try clear hcz7_1
    try clear hcz7_2
    try clear hcz7_3
    try clear hfz11_0
    try clear hfz11_1
    try clear hfz11_2
    try clear hfz11_3
    try clear hfz13_0
    try clear hfz13_1
    try clear hfz13_2
    try clear hfz13_3
    try clear hfz15_0
    try clear hfz15_1
    try clear hfz15_2
    try clear hfz15_3
    try clear hfz16_0
    try clear hfz16_1
    try clear hfz16_2
    try clear hfz16_3
    try clear hfz17_0
    try clear hfz17_1
    try clear hfz17_2
    try clear hfz17_3
    try clear hfz5_0
    try clear hfz5_1
    try clear hfz5_2
    try clear hfz5_3
    try clear hfz7_0
    try clear hfz7_1
    try clear hfz7_2
    try clear hfz7_3
    obtain ⟨kq, x41_1, rfl, HA, HJ1, BK454, HB⟩ := hcut
    cases kq with
    | zero => exact absurd HA.out (by simp [ask_Check.j0])
    | succ kj1 =>
      have H := HA.out
      clear HA
      simp only [ask_Check.j0] at H
      by_cases c18 : x41_1 = true
      · subst c18
        have H1 : (some 1) = some r := by rw [if_pos rfl] at H; exact H
        clear H
        have H := H1
        clear H1
        obtain rfl := Option.some.inj H
        go_wp2
        go_ret
        exact ⟨by first | rfl | (simp [errW_none, errW_some] <;> rfl) | (simp [*, errW_none, errW_some] <;> rfl), by repeat (first | (with_reducible first | exact HB.out | apply below_alloc | apply pw_below_drewN | apply below_drew1 | refine below_set ?_ GE454.out) | exact HB.out)⟩
      · replace c18 := Bool.eq_false_iff.mpr c18
        subst c18
        have H1 : (ask_Check.l0 kj1 l0_3 (l0_3.length : Int) 0) = some r := by rw [if_neg (show ¬ (false = true) by decide)] at H; exact H
        clear H
        have H := H1
        clear H1
        have H' := Aside0.mk H
        clear H
        have hcz19_0 : wc.cell? ⟨gb454, 0, none⟩ = some (.int .i64 a0_0) := (blk_cell BK454.out 0).trans rfl
        have hcz19_1 : wc.cell? ⟨gb454, 1, none⟩ = some (.string a0_1) := (blk_cell BK454.out 1).trans rfl
        have hcz19_2 : wc.cell? ⟨gb454, 2, none⟩ = some (.int .i64 a0_2) := (blk_cell BK454.out 2).trans rfl
        have hcz19_3 : wc.cell? ⟨gb454, 3, none⟩ = some (.slice A0_3 l0_3.length c0_3) := (blk_cell BK454.out 3).trans rfl
        have hfz19_0 := blk_frozen BK454.out 0
        have hfz19_1 := blk_frozen BK454.out 1
        have hfz19_2 := blk_frozen BK454.out 2
        have hfz19_3 := blk_frozen BK454.out 3
        go_wp2
        go_loopg [45] kj1 (fun kq v45 w' => ∃ (x45_2 : Int), v45 = .int .i64 x45_2 ∧ Aside0 (ask_Check.l0 kq l0_3 (l0_3.length : Int) x45_2 = some r) ∧ Aside0 (kq ≤ kj1) ∧ Aside0 (w'.heap[gb454]? = some (.cells #[.int .i64 a0_0, .string a0_1, .int .i64 a0_2, (.slice A0_3 l0_3.length c0_3)] 95 (0, 0))) ∧ Aside0 (Below w.heap.size w w'))
        case atStart => exact ⟨(0), (by first | rfl | (simp; done) | (simp [*]; done)), H', ⟨Nat.le_refl _⟩, ⟨by (with_reducible repeat (first | refine blk_drewN ?_ _ | refine blk_drew ?_ | refine blk_alloc ?_ _)); exact BK454.out⟩, ⟨by repeat (first | (with_reducible first | exact HB.out | apply below_alloc | apply pw_below_drewN | apply below_drew1 | refine below_set ?_ GE454.out) | exact HB.out)⟩⟩
        case round =>
          clear H'
          try clear c1
          try clear p2
          try clear c4
          try clear c4b0
          try clear c6
          try clear c6b0
          try clear c7
          try clear c9
          try clear c10
          try clear c10b0
          try clear c12
          try clear c12b0
          try clear c14
          try clear c14b0
          try clear c14b1
          try clear c18
          try clear hcz11_0
          try clear hcz11_1
          try clear hcz11_2
          try clear hcz11_3
          try clear hcz13_0
          try clear hcz13_1
          try clear hcz13_2
          try clear hcz13_3
          try clear hcz15_0
          try clear hcz15_1
          try clear hcz15_2
          try clear hcz15_3
          try clear hcz16_0
          try clear hcz16_1
          try clear hcz16_2
          try clear hcz16_3
          try clear hcz17_0
          try clear hcz17_1
          try clear hcz17_2
          try clear hcz17_3
          try clear hcz19_0
          try clear hcz19_1
          try clear hcz19_2
          try clear hcz19_3
          try clear hcz5_0
          try clear hcz5_1
          try clear hcz5_2
          try clear hcz5_3
          try clear hcz7_0
          try clear hcz7_1
          try clear hcz7_2
          try clear hcz7_3
          try clear hfz11_0
          try clear hfz11_1
          try clear hfz11_2
          try clear hfz11_3
          try clear hfz13_0
          try clear hfz13_1
          try clear hfz13_2
          try clear hfz13_3
          try clear hfz15_0
          try clear hfz15_1
          try clear hfz15_2
          try clear hfz15_3
          try clear hfz16_0
          try clear hfz16_1
          try clear hfz16_2
          try clear hfz16_3
          try clear hfz17_0
          try clear hfz17_1
          try clear hfz17_2
          try clear hfz17_3
          try clear hfz19_0
          try clear hfz19_1
          try clear hfz19_2
          try clear hfz19_3
          try clear hfz5_0
          try clear hfz5_1
          try clear hfz5_2
          try clear hfz5_3
          try clear hfz7_0
          try clear hfz7_1
          try clear hfz7_2
          try clear hfz7_3
          try clear p2
          obtain ⟨x45_2, rfl, HA, HK2, BK454, HB⟩ := hrel
          cases gk with
          | zero => exact absurd HA.out (by simp [ask_Check.l0])
          | succ k2 =>
            have H := HA.out
            clear HA
            simp only [ask_Check.l0] at H
            by_cases c20 : x45_2 < (l0_3.length : Int)
            · rw [if_pos c20] at H
              have c20b0 : decide (x45_2 < (l0_3.length : Int)) = true := decide_eq_true c20
              clear c20
              by_cases c21 : 0 ≤ x45_2
              · rw [if_pos c21] at H
                have c21b0 : decide (0 ≤ x45_2) = true := decide_eq_true c21
                clear c21
                by_cases c22 : x45_2 < (l0_3.length : Int)
                · rw [if_pos c22] at H
                  have c22b0 : decide (x45_2 < (l0_3.length : Int)) = true := decide_eq_true c22
                  clear c22
                  replace H := Option.bind_eq_some_iff.mp H
                  obtain ⟨t458, A230, H⟩ := H
                  replace H : (if t458 = 0 then (ask_Check.l0 k2 l0_3 (l0_3.length : Int) (wrap64 (x45_2 + 1))) else (some t458)) = some r := H
                  have A23 := Aside0.mk A230
                  clear A230
                  by_cases c24 : t458 = 0
                  · rw [if_pos c24] at H
                    have c24b0 : (t458 == 0) = true := beq_iff_eq.mpr c24
                    have c24b1 : (t458 != 0) = false := bne_eq_false_iff_eq.mpr c24
                    clear c24
                    have H' := Aside0.mk H
                    clear H
                    have p456 : 0 ≤ (x45_2 : Int) := of_decide_eq_true (by first | (with_reducible assumption) | assumption)
                    have q456 : x45_2 < (l0_3.length : Int) := of_decide_eq_true (by first | (with_reducible assumption) | assumption)
                    obtain ⟨ad456, A456_0, c456_0, e456, hx456_0, hl456_0, hi456_0⟩ := at_T140 HR0_3.out x45_2 p456 q456
                    cases e456
                    replace hx456_0 := (HB.out.cell (World.block_lt_of_cell? w _ hx456_0)).trans hx456_0
                    have HR456_0 := Aside0.mk hi456_0
                    have HC456_0 := Aside0.mk hl456_0
                    clear hi456_0 hl456_0
                    replace p456 := eq_true p456
                    replace q456 := eq_true q456
                    go_wp2_with (first | ((with_reducible refine gate_dst (N := 4) rfl ?_); (try (refine gate_guard (by rfl) ?_; dsimp only)); refine box_event ?hg (N := 4) ?hd (cs := #[.slice none 0 0]) (t := 140) ?hr ?_; (case hd => rfl); (case hg => rfl); (case hr => first | (go_simp; done) | (go_simp; rfl)); intro gb457 hg w25 hbox hb; have n0_ := Aside0.mk (blk_below (g := gb454) (o := .cells #[.int .i64 a0_0, .string a0_1, .int .i64 a0_2, .slice (some ad456) l0_3.length c0_3] 95 (0, 0)) (by (with_reducible repeat (first | refine blk_drewN ?_ _ | refine blk_drew ?_ | refine blk_alloc ?_ _)); exact BK454.out) hb); have n1_ := Aside0.mk (below_step (by repeat (first | (with_reducible first | exact HB.out | apply below_alloc | apply pw_below_drewN | apply below_drew1 | refine below_set ?_ GE454.out) | exact HB.out)) hb); have n2_ := Aside0.mk (hbox); have n3_ := Aside0.mk ((by rw [hg]; exact (below_size (by repeat (first | (with_reducible first | exact HB.out | apply below_alloc | apply pw_below_drewN | apply below_drew1 | refine below_set ?_ GE454.out) | exact HB.out))) : w.heap.size ≤ gb457)); have n4_ := Aside0.mk ((by rw [hg]; exact (below_size (by repeat (first | (with_reducible first | exact HB.out | apply below_alloc | apply pw_below_drewN | apply below_drew1 | refine below_set ?_ GE454.out) | exact HB.out))) : w.heap.size ≤ gb457)); have n5_ := Aside0.mk ((by rw [hg]; exact Nat.ne_of_lt (blk_lt (g := gb454) (o := .cells #[.int .i64 a0_0, .string a0_1, .int .i64 a0_2, .slice (some ad456) l0_3.length c0_3] 95 (0, 0)) (by (with_reducible repeat (first | refine blk_drewN ?_ _ | refine blk_drew ?_ | refine blk_alloc ?_ _)); exact BK454.out)) : gb454 ≠ gb457)); have n6_ := Aside0.mk ((by rw [hg]; exact Nat.ne_of_gt (blk_lt (g := gb454) (o := .cells #[.int .i64 a0_0, .string a0_1, .int .i64 a0_2, .slice (some ad456) l0_3.length c0_3] 95 (0, 0)) (by (with_reducible repeat (first | refine blk_drewN ?_ _ | refine blk_drew ?_ | refine blk_alloc ?_ _)); exact BK454.out)) : gb457 ≠ gb454)); clear BK454; clear HB; have BK454 := n0_; have HB := n1_; have BK457 := n2_; have GW457 := n3_; have GE457 := n4_; have NB454_457 := n5_; have NB457_454 := n6_; clear n0_ n1_ n2_ n3_ n4_ n5_ n6_; clear hb hbox hg; have hnb26 := NB457_454.out; have hnc26 := NB454_457.out; have hcz27_0 : w25.cell? ⟨gb457, 0, none⟩ = some (.slice none 0 0) := (blk_cell BK457.out 0).trans rfl; have hfz27_0 := blk_frozen BK457.out 0) | ((with_reducible refine gate_callee (f := 113) rfl ?_); refine goesL_ (some 50) rfl rfl Try.func113 (by kernel_rfl) rfl #[.agg #[.slice A456_0 ((rd_T140 l0_3 x45_2).f0).length c456_0]] rfl (by (try simp only [List.map_toArray, List.map_cons, List.map_nil]); first | done | rfl | (simp only [List.length_drop, List.length_take]; rfl)) ?_; (with_reducible refine (desc_Check.calls k2 _ _ ((rd_T140 l0_3 x45_2).f0) t458 _ ?side1 ?side2 A23.out).mono ?_); (case side1 => exact Kd.C_below HR456_0.out (by repeat (first | (with_reducible first | exact HB.out | apply below_alloc | apply pw_below_drewN | apply below_drew1 | refine below_set ?_ GE454.out | refine below_set ?_ GE457.out) | exact HB.out))); (case side2 => exact HC456_0.out); rintro e w28 ⟨rfl, hb⟩; refine ⟨_, rfl, ?_⟩; have n0_ := Aside0.mk (blk_below (g := gb454) (o := .cells #[.int .i64 a0_0, .string a0_1, .int .i64 a0_2, .slice (some ad456) l0_3.length c0_3] 95 (0, 0)) (by (with_reducible repeat (first | refine blk_drewN ?_ _ | refine blk_drew ?_ | refine blk_alloc ?_ _)); refine blk_far ?_ NB454_457.out _; (with_reducible repeat (first | refine blk_drewN ?_ _ | refine blk_drew ?_ | refine blk_alloc ?_ _)); exact BK454.out) hb); have n1_ := Aside0.mk (blk_below (g := gb457) (o := .cells #[.slice A456_0 ((rd_T140 l0_3 x45_2).f0).length c456_0] 140 (0, 0)) (by (with_reducible repeat (first | refine blk_drewN ?_ _ | refine blk_drew ?_ | refine blk_alloc ?_ _)); refine blk_put (cs := #[.slice none 0 0]) ?_ 0 _ rfl; (with_reducible repeat (first | refine blk_drewN ?_ _ | refine blk_drew ?_ | refine blk_alloc ?_ _)); exact BK457.out) hb); have n2_ := Aside0.mk (below_step (by repeat (first | (with_reducible first | exact HB.out | apply below_alloc | apply pw_below_drewN | apply below_drew1 | refine below_set ?_ GE454.out | refine below_set ?_ GE457.out) | exact HB.out)) hb); clear BK454; clear BK457; clear HB; have BK454 := n0_; have BK457 := n1_; have HB := n2_; clear n0_ n1_ n2_; (try clear hb); (try clear hb2); (try clear hk); (try clear hi)))
                    go_roundg k2
                    case measure => have := HJ1.out; have := HK2.out; omega
                    case rel => exact ⟨(wrap64 (x45_2 + 1)), (by first | rfl | (simp; done) | (simp [*]; done)), H', ⟨by have := HJ1.out; have := HK2.out; omega⟩, ⟨by (with_reducible repeat (first | refine blk_drewN ?_ _ | refine blk_drew ?_ | refine blk_alloc ?_ _)); exact BK454.out⟩, ⟨by repeat (first | (with_reducible first | exact HB.out | apply below_alloc | apply pw_below_drewN | apply below_drew1 | refine below_set ?_ GE454.out | refine below_set ?_ GE457.out) | exact HB.out)⟩⟩
                  · rw [if_neg c24] at H
                    have c24b0 : (t458 == 0) = false := beq_eq_false_iff_ne.mpr c24
                    have c24b1 : (t458 != 0) = true := bne_iff_ne.mpr c24
                    obtain rfl := Option.some.inj H
                    have p456 : 0 ≤ (x45_2 : Int) := of_decide_eq_true (by first | (with_reducible assumption) | assumption)
                    have q456 : x45_2 < (l0_3.length : Int) := of_decide_eq_true (by first | (with_reducible assumption) | assumption)
                    obtain ⟨ad456, A456_0, c456_0, e456, hx456_0, hl456_0, hi456_0⟩ := at_T140 HR0_3.out x45_2 p456 q456
                    cases e456
                    replace hx456_0 := (HB.out.cell (World.block_lt_of_cell? w _ hx456_0)).trans hx456_0
                    have HR456_0 := Aside0.mk hi456_0
                    have HC456_0 := Aside0.mk hl456_0
                    clear hi456_0 hl456_0
                    replace p456 := eq_true p456
                    replace q456 := eq_true q456
                    go_wp2_with (first | ((with_reducible refine gate_dst (N := 4) rfl ?_); (try (refine gate_guard (by rfl) ?_; dsimp only)); refine box_event ?hg (N := 4) ?hd (cs := #[.slice none 0 0]) (t := 140) ?hr ?_; (case hd => rfl); (case hg => rfl); (case hr => first | (go_simp; done) | (go_simp; rfl)); intro gb457 hg w29 hbox hb; have n0_ := Aside0.mk (blk_below (g := gb454) (o := .cells #[.int .i64 a0_0, .string a0_1, .int .i64 a0_2, .slice (some ad456) l0_3.length c0_3] 95 (0, 0)) (by (with_reducible repeat (first | refine blk_drewN ?_ _ | refine blk_drew ?_ | refine blk_alloc ?_ _)); exact BK454.out) hb); have n1_ := Aside0.mk (below_step (by repeat (first | (with_reducible first | exact HB.out | apply below_alloc | apply pw_below_drewN | apply below_drew1 | refine below_set ?_ GE454.out) | exact HB.out)) hb); have n2_ := Aside0.mk (hbox); have n3_ := Aside0.mk ((by rw [hg]; exact (below_size (by repeat (first | (with_reducible first | exact HB.out | apply below_alloc | apply pw_below_drewN | apply below_drew1 | refine below_set ?_ GE454.out) | exact HB.out))) : w.heap.size ≤ gb457)); have n4_ := Aside0.mk ((by rw [hg]; exact (below_size (by repeat (first | (with_reducible first | exact HB.out | apply below_alloc | apply pw_below_drewN | apply below_drew1 | refine below_set ?_ GE454.out) | exact HB.out))) : w.heap.size ≤ gb457)); have n5_ := Aside0.mk ((by rw [hg]; exact Nat.ne_of_lt (blk_lt (g := gb454) (o := .cells #[.int .i64 a0_0, .string a0_1, .int .i64 a0_2, .slice (some ad456) l0_3.length c0_3] 95 (0, 0)) (by (with_reducible repeat (first | refine blk_drewN ?_ _ | refine blk_drew ?_ | refine blk_alloc ?_ _)); exact BK454.out)) : gb454 ≠ gb457)); have n6_ := Aside0.mk ((by rw [hg]; exact Nat.ne_of_gt (blk_lt (g := gb454) (o := .cells #[.int .i64 a0_0, .string a0_1, .int .i64 a0_2, .slice (some ad456) l0_3.length c0_3] 95 (0, 0)) (by (with_reducible repeat (first | refine blk_drewN ?_ _ | refine blk_drew ?_ | refine blk_alloc ?_ _)); exact BK454.out)) : gb457 ≠ gb454)); clear BK454; clear HB; have BK454 := n0_; have HB := n1_; have BK457 := n2_; have GW457 := n3_; have GE457 := n4_; have NB454_457 := n5_; have NB457_454 := n6_; clear n0_ n1_ n2_ n3_ n4_ n5_ n6_; clear hb hbox hg; have hnb30 := NB457_454.out; have hnc30 := NB454_457.out; have hcz31_0 : w29.cell? ⟨gb457, 0, none⟩ = some (.slice none 0 0) := (blk_cell BK457.out 0).trans rfl; have hfz31_0 := blk_frozen BK457.out 0) | ((with_reducible refine gate_callee (f := 113) rfl ?_); refine goesL_ (some 50) rfl rfl Try.func113 (by kernel_rfl) rfl #[.agg #[.slice A456_0 ((rd_T140 l0_3 x45_2).f0).length c456_0]] rfl (by (try simp only [List.map_toArray, List.map_cons, List.map_nil]); first | done | rfl | (simp only [List.length_drop, List.length_take]; rfl)) ?_; (with_reducible refine (desc_Check.calls k2 _ _ ((rd_T140 l0_3 x45_2).f0) t458 _ ?side1 ?side2 A23.out).mono ?_); (case side1 => exact Kd.C_below HR456_0.out (by repeat (first | (with_reducible first | exact HB.out | apply below_alloc | apply pw_below_drewN | apply below_drew1 | refine below_set ?_ GE454.out | refine below_set ?_ GE457.out) | exact HB.out))); (case side2 => exact HC456_0.out); rintro e w32 ⟨rfl, hb⟩; refine ⟨_, rfl, ?_⟩; have n0_ := Aside0.mk (blk_below (g := gb454) (o := .cells #[.int .i64 a0_0, .string a0_1, .int .i64 a0_2, .slice (some ad456) l0_3.length c0_3] 95 (0, 0)) (by (with_reducible repeat (first | refine blk_drewN ?_ _ | refine blk_drew ?_ | refine blk_alloc ?_ _)); refine blk_far ?_ NB454_457.out _; (with_reducible repeat (first | refine blk_drewN ?_ _ | refine blk_drew ?_ | refine blk_alloc ?_ _)); exact BK454.out) hb); have n1_ := Aside0.mk (blk_below (g := gb457) (o := .cells #[.slice A456_0 ((rd_T140 l0_3 x45_2).f0).length c456_0] 140 (0, 0)) (by (with_reducible repeat (first | refine blk_drewN ?_ _ | refine blk_drew ?_ | refine blk_alloc ?_ _)); refine blk_put (cs := #[.slice none 0 0]) ?_ 0 _ rfl; (with_reducible repeat (first | refine blk_drewN ?_ _ | refine blk_drew ?_ | refine blk_alloc ?_ _)); exact BK457.out) hb); have n2_ := Aside0.mk (below_step (by repeat (first | (with_reducible first | exact HB.out | apply below_alloc | apply pw_below_drewN | apply below_drew1 | refine below_set ?_ GE454.out | refine below_set ?_ GE457.out) | exact HB.out)) hb); clear BK454; clear BK457; clear HB; have BK454 := n0_; have BK457 := n1_; have HB := n2_; clear n0_ n1_ n2_; (try clear hb); (try clear hb2); (try clear hk); (try clear hi)))
                    go_ret
                    exact ⟨by first | rfl | (simp [errW_none, errW_some] <;> rfl) | (simp [*, errW_none, errW_some] <;> rfl), by repeat (first | (with_reducible first | exact HB.out | apply below_alloc | apply pw_below_drewN | apply below_drew1 | refine below_set ?_ GE454.out | refine below_set ?_ GE457.out) | exact HB.out)⟩
                · rw [if_neg c22] at H
                  exact absurd H (by simp)
              · rw [if_neg c21] at H
                exact absurd H (by simp)
            · rw [if_neg c20] at H
              have c20b0 : decide (x45_2 < (l0_3.length : Int)) = false := decide_eq_false c20
              clear c20
              obtain rfl := Option.some.inj H
              go_wp2
              go_ret
              exact ⟨by first | rfl | (simp [errW_none, errW_some] <;> rfl) | (simp [*, errW_none, errW_some] <;> rfl), by repeat (first | (with_reducible first | exact HB.out | apply below_alloc | apply pw_below_drewN | apply below_drew1 | refine below_set ?_ GE454.out) | exact HB.out)⟩

/-! ### ask_Hits: function 82 -/
def ask_Hits.f (a0_0 : Int) (a0_1 : ByteArray) (a0_2 : Int) (l0_3 : List (S140)) : Option (Int) := some (mn (mx a0_2 1) 4294967295)
set_option maxHeartbeats 8000000 in
set_option maxRecDepth 100000 in
theorem ask_Hits.calls (a0_0 : Int) (a0_1 : ByteArray) (a0_2 : Int) (A0_3 : Option Addr) (c0_3 : Nat) (l0_3 : List (S140)) (r : Int) (w : World) (hr0_3 : Kd.C k140 w A0_3 l0_3.length l0_3) (hc0_3 : l0_3.length ≤ c0_3) (h : ask_Hits.f a0_0 a0_1 a0_2 l0_3 = some r) :
    Calls Try.prog 82 #[.agg #[.int .i64 a0_0, .string a0_1, .int .i64 a0_2, .slice A0_3 l0_3.length c0_3]] w fun e w' => e = .returned (.int .i64 r) ∧ Below w.heap.size w w' := by
  have hu95 := Try.underlying95
  have HR0_3 := Aside0.mk hr0_3
  have HC0_3 := Aside0.mk hc0_3
  clear hr0_3 hc0_3
  have HB := Aside0.mk (Below.refl w.heap.size w)
  have H : (some (mn (mx a0_2 1) 4294967295)) = some r := h
  clear h
  obtain ⟨ji2, hji2⟩ : ∃ j_ : Int, (mx a0_2 1) = j_ := ⟨_, rfl⟩
  replace H : (some (mn (ji2) 4294967295)) = some r := by first | (rw [hji2] at H; exact H) | (simp only [hji2] at H ⊢; exact H)
  (try (have hji2l : 1 ≤ ji2 := by (rw [← hji2]; unfold mx; (repeat' split) <;> omega)))
  (try (have hji2m : 0 ≤ ji2 := by omega))
  have hji2_ : (if a0_2 < 1 then 1 else a0_2) = ji2 := hji2
  obtain ⟨ji3, hji3⟩ : ∃ j_ : Int, (mn (ji2) 4294967295) = j_ := ⟨_, rfl⟩
  replace H : (some ji3) = some r := by first | (rw [hji3] at H; exact H) | (simp only [hji3] at H ⊢; exact H)
  have hji3_ : (if 4294967295 < (ji2) then 4294967295 else (ji2)) = ji3 := hji3
  obtain rfl := Option.some.inj H
  go_enter Try.func82, Try.ntmps82
  go_wp2_with (first | ((with_reducible refine gate_dst (N := 1) rfl ?_); refine box_event ?hg (N := 1) ?hd (cs := #[.int .i64 a0_0, .string a0_1, .int .i64 a0_2, .slice A0_3 l0_3.length c0_3]) (t := 95) ?hr ?_; (case hd => rfl); (case hg => rfl); (case hr => first | (go_simp; done) | (go_simp; rfl)); intro gb459 hg w4 hbox hb; have n0_ := Aside0.mk (below_step (by repeat (first | (with_reducible first | exact HB.out | apply below_alloc | apply pw_below_drewN | apply below_drew1) | exact HB.out)) hb); have n1_ := Aside0.mk (hbox); have n2_ := Aside0.mk ((by rw [hg]; exact (below_size (by repeat (first | (with_reducible first | exact HB.out | apply below_alloc | apply pw_below_drewN | apply below_drew1) | exact HB.out))) : w.heap.size ≤ gb459)); have n3_ := Aside0.mk ((by rw [hg]; exact (below_size (by repeat (first | (with_reducible first | exact HB.out | apply below_alloc | apply pw_below_drewN | apply below_drew1) | exact HB.out))) : w.heap.size ≤ gb459)); clear HB; have HB := n0_; have BK459 := n1_; have GW459 := n2_; have GE459 := n3_; clear n0_ n1_ n2_ n3_; clear hb hbox hg; have hcz5_0 : w4.cell? ⟨gb459, 0, none⟩ = some (.int .i64 a0_0) := (blk_cell BK459.out 0).trans rfl; have hcz5_1 : w4.cell? ⟨gb459, 1, none⟩ = some (.string a0_1) := (blk_cell BK459.out 1).trans rfl; have hcz5_2 : w4.cell? ⟨gb459, 2, none⟩ = some (.int .i64 a0_2) := (blk_cell BK459.out 2).trans rfl; have hcz5_3 : w4.cell? ⟨gb459, 3, none⟩ = some (.slice A0_3 l0_3.length c0_3) := (blk_cell BK459.out 3).trans rfl; have hfz5_0 := blk_frozen BK459.out 0; have hfz5_1 := blk_frozen BK459.out 1; have hfz5_2 := blk_frozen BK459.out 2; have hfz5_3 := blk_frozen BK459.out 3))
  go_ret
  exact ⟨by first | rfl | (simp [errW_none, errW_some] <;> rfl) | (simp only [← hji2, ← hji3]; first | rfl | (simp [errW_none, errW_some] <;> rfl)) | (simp [*, errW_none, errW_some] <;> rfl), by repeat (first | (with_reducible first | exact HB.out | apply below_alloc | apply pw_below_drewN | apply below_drew1 | refine below_set ?_ GE459.out) | exact HB.out)⟩

/-! ### api_Entry: function 139 -/
def api_Entry.l0 : Nat → List (S142) → List (S142) → Int → Int → Option (Bool)
  | 0, _, _, _, _ => none
  | k + 1, x0, x1, x12, x13 => if x13 < x12 then (if 0 ≤ x13 then (if x13 < (x0.length : Int) then (if x13 < (x1.length : Int) then (if (!((((rd_T142 x0 x13).f0).toList) == (((rd_T142 x1 x13).f0).toList)) || (!((((rd_T142 x0 x13).f1).toList) == (((rd_T142 x1 x13).f1).toList)))) = true then (some false) else (api_Entry.l0 k x0 x1 x12 (wrap64 (x13 + 1)))) else (none)) else (none)) else (none)) else (some true)
def api_Entry.f (k : Nat) (l0 : List (S142)) (l1 : List (S142)) : Option (Bool) := if (l0.length : Int) = (l1.length : Int) then (api_Entry.l0 k l0 l1 (l0.length : Int) 0) else (some false)
theorem api_Entry.mono_l : ∀ k, (∀ y0 y1 y2 y3, LeO (api_Entry.l0 k y0 y1 y2 y3) (api_Entry.l0 (k + 1) y0 y1 y2 y3))
  | 0 => fun _ _ _ _ r h => by simp [api_Entry.l0] at h
  | k + 1 => by
    have ih0 := api_Entry.mono_l k
    · intro y0 y1 y2 y3
      unfold api_Entry.l0
      repeat' first
      | (with_reducible exact ih0 _ _ _ _)
      | (with_reducible exact LeO.refl _)
      | (with_reducible exact LeO.none _)
      | (with_reducible refine LeO.ite ?_ ?_)
      | (with_reducible refine LeO.bind ?_ (fun _ => ?_))
      | exact ih0 _ _ _ _
      | exact LeO.none _
      | refine LeO.ite ?_ ?_
      | refine LeO.bind ?_ (fun _ => ?_)
theorem api_Entry.mono : ∀ a0 a1 k, LeO (api_Entry.f k a0 a1) (api_Entry.f (k + 1) a0 a1) := by
  intro a0 a1 k
  have ih0 := api_Entry.mono_l k
  unfold api_Entry.f
  repeat' first
      | (with_reducible exact ih0 _ _ _ _)
      | (with_reducible exact LeO.refl _)
      | (with_reducible exact LeO.none _)
      | (with_reducible refine LeO.ite ?_ ?_)
      | (with_reducible refine LeO.bind ?_ (fun _ => ?_))
      | exact ih0 _ _ _ _
      | exact LeO.none _
      | refine LeO.ite ?_ ?_
      | refine LeO.bind ?_ (fun _ => ?_)
set_option maxHeartbeats 8000000 in
set_option maxRecDepth 100000 in
theorem api_Entry.calls (k : Nat) (A0 : Option Addr) (c0 : Nat) (l0 : List (S142)) (A1 : Option Addr) (c1 : Nat) (l1 : List (S142)) (r : Bool) (w : World) (hr0 : Kd.C k142 w A0 l0.length l0) (hc0 : l0.length ≤ c0) (hr1 : Kd.C k142 w A1 l1.length l1) (hc1 : l1.length ≤ c1) (h : api_Entry.f k l0 l1 = some r) :
    Calls Try.prog 139 #[.slice A0 l0.length c0, .slice A1 l1.length c1] w fun e w' => e = .returned (.bool r) ∧ Drawn0 w w' := by
  have hu142 := Try.underlying142
  have HR0 := Aside0.mk hr0
  have HC0 := Aside0.mk hc0
  clear hr0 hc0
  have HR1 := Aside0.mk hr1
  have HC1 := Aside0.mk hc1
  clear hr1 hc1
  have H : (if (l0.length : Int) = (l1.length : Int) then (api_Entry.l0 k l0 l1 (l0.length : Int) 0) else (some false)) = some r := h
  clear h
  by_cases c3 : (l0.length : Int) = (l1.length : Int)
  · rw [if_pos c3] at H
    have c3b0 : ((l0.length : Int) == (l1.length : Int)) = true := beq_iff_eq.mpr c3
    have c3b1 : ((l0.length : Int) != (l1.length : Int)) = false := bne_eq_false_iff_eq.mpr c3
    have c3b2 : (l0.length == l1.length) = true := by first | simpa using c3 | (simp at c3 ⊢; omega)
    clear c3
    have H' := Aside0.mk H
    clear H
    go_enter Try.func139, Try.ntmps139
    go_wp2
    repeat (go_quiet (fail); try go_wp2)
    go_loopg [13] k (fun kq v13 w' => ∃ (x13_1 : Int), v13 = .int .i64 x13_1 ∧ Aside0 (api_Entry.l0 kq l0 l1 (l0.length : Int) x13_1 = some r) ∧ Aside0 (kq ≤ k) ∧ Drawn0 w w')
    case atStart => exact ⟨(0), (by first | rfl | (simp; done) | (simp [*]; done)), H', ⟨Nat.le_refl _⟩, by repeat (first | exact Drawn0.refl _ | apply Drawn0.step)⟩
    case round =>
      clear H'
      try clear c1
      try clear p2
      try clear c3
      try clear c3b0
      try clear c3b1
      try clear c3b2
      obtain ⟨x13_1, rfl, HA, HK1, ⟨m1, rfl⟩⟩ := hrel
      cases gk with
      | zero => exact absurd HA.out (by simp [api_Entry.l0])
      | succ k1 =>
        have H := HA.out
        clear HA
        simp only [api_Entry.l0] at H
        by_cases c4 : x13_1 < (l0.length : Int)
        · rw [if_pos c4] at H
          have c4b0 : decide (x13_1 < (l0.length : Int)) = true := decide_eq_true c4
          clear c4
          by_cases c5 : 0 ≤ x13_1
          · rw [if_pos c5] at H
            have c5b0 : decide (0 ≤ x13_1) = true := decide_eq_true c5
            clear c5
            by_cases c6 : x13_1 < (l0.length : Int)
            · rw [if_pos c6] at H
              have c6b0 : decide (x13_1 < (l0.length : Int)) = true := decide_eq_true c6
              clear c6
              by_cases c7 : x13_1 < (l1.length : Int)
              · rw [if_pos c7] at H
                have c7b0 : decide (x13_1 < (l1.length : Int)) = true := decide_eq_true c7
                clear c7
                by_cases c8 : (!((((rd_T142 l0 x13_1).f0).toList) == (((rd_T142 l1 x13_1).f0).toList)) || (!((((rd_T142 l0 x13_1).f1).toList) == (((rd_T142 l1 x13_1).f1).toList)))) = true
                · rw [if_pos c8] at H
                  have c8b0 : (!((((rd_T142 l0 x13_1).f0).toList) == (((rd_T142 l1 x13_1).f0).toList)) || (!((((rd_T142 l0 x13_1).f1).toList) == (((rd_T142 l1 x13_1).f1).toList)))) = true := c8
                  clear c8
                  obtain rfl := Option.some.inj H
                  have p461 : 0 ≤ (x13_1 : Int) := of_decide_eq_true (by first | (with_reducible assumption) | assumption)
                  have q461 : x13_1 < (l0.length : Int) := of_decide_eq_true (by first | (with_reducible assumption) | assumption)
                  obtain ⟨ad461, e461, hx461_0, hx461_1⟩ := at_T142 HR0.out x13_1 p461 q461
                  cases e461
                  replace p461 := eq_true p461
                  replace q461 := eq_true q461
                  have p462 : 0 ≤ (x13_1 : Int) := of_decide_eq_true (by first | (with_reducible assumption) | assumption)
                  have q462 : x13_1 < (l1.length : Int) := of_decide_eq_true (by first | (with_reducible assumption) | assumption)
                  obtain ⟨ad462, e462, hx462_0, hx462_1⟩ := at_T142 HR1.out x13_1 p462 q462
                  cases e462
                  replace p462 := eq_true p462
                  replace q462 := eq_true q462
                  go_wp2
                  repeat (go_quiet (fail); try go_wp2)
                  go_ret
                  exact ⟨by first | rfl | (simp; done) | (simp [*]; done), by repeat (first | exact Drawn0.refl _ | apply Drawn0.step)⟩
                · rw [if_neg c8] at H
                  have c8b0 : (!((((rd_T142 l0 x13_1).f0).toList) == (((rd_T142 l1 x13_1).f0).toList)) || (!((((rd_T142 l0 x13_1).f1).toList) == (((rd_T142 l1 x13_1).f1).toList)))) = false := by simpa using c8
                  clear c8
                  have H' := Aside0.mk H
                  clear H
                  have p461 : 0 ≤ (x13_1 : Int) := of_decide_eq_true (by first | (with_reducible assumption) | assumption)
                  have q461 : x13_1 < (l0.length : Int) := of_decide_eq_true (by first | (with_reducible assumption) | assumption)
                  obtain ⟨ad461, e461, hx461_0, hx461_1⟩ := at_T142 HR0.out x13_1 p461 q461
                  cases e461
                  replace p461 := eq_true p461
                  replace q461 := eq_true q461
                  have p462 : 0 ≤ (x13_1 : Int) := of_decide_eq_true (by first | (with_reducible assumption) | assumption)
                  have q462 : x13_1 < (l1.length : Int) := of_decide_eq_true (by first | (with_reducible assumption) | assumption)
                  obtain ⟨ad462, e462, hx462_0, hx462_1⟩ := at_T142 HR1.out x13_1 p462 q462
                  cases e462
                  replace p462 := eq_true p462
                  replace q462 := eq_true q462
                  go_wp2
                  repeat (go_quiet (fail); try go_wp2)
                  go_roundg k1
                  case measure => have := HK1.out; omega
                  case rel => exact ⟨(wrap64 (x13_1 + 1)), (by first | rfl | (simp; done) | (simp [*]; done)), H', ⟨by have := HK1.out; omega⟩, by repeat (first | exact Drawn0.refl _ | apply Drawn0.step)⟩
              · rw [if_neg c7] at H
                exact absurd H (by simp)
            · rw [if_neg c6] at H
              exact absurd H (by simp)
          · rw [if_neg c5] at H
            exact absurd H (by simp)
        · rw [if_neg c4] at H
          have c4b0 : decide (x13_1 < (l0.length : Int)) = false := decide_eq_false c4
          clear c4
          obtain rfl := Option.some.inj H
          go_wp2
          repeat (go_quiet (fail); try go_wp2)
          go_ret
          exact ⟨by first | rfl | (simp; done) | (simp [*]; done), by repeat (first | exact Drawn0.refl _ | apply Drawn0.step)⟩
  · rw [if_neg c3] at H
    have c3b0 : ((l0.length : Int) == (l1.length : Int)) = false := beq_eq_false_iff_ne.mpr c3
    have c3b1 : ((l0.length : Int) != (l1.length : Int)) = true := bne_iff_ne.mpr c3
    have c3b2 : (l0.length == l1.length) = false := by first | simpa using c3 | (simp at c3 ⊢; omega)
    obtain rfl := Option.some.inj H
    go_enter Try.func139, Try.ntmps139
    go_wp2
    repeat (go_quiet (fail); try go_wp2)
    go_ret
    exact ⟨by first | rfl | (simp; done) | (simp [*]; done), by repeat (first | exact Drawn0.refl _ | apply Drawn0.step)⟩

/-! ### desc_Same: function 121 -/
def desc_Same.f (k : Nat) (l0_0 : List (S142)) (l1_0 : List (S142)) : Option (Bool) := (api_Entry.f k l0_0 l1_0).bind fun t465 => (some t465)
theorem desc_Same.mono : ∀ a0 a1 k, LeO (desc_Same.f k a0 a1) (desc_Same.f (k + 1) a0 a1) := by
  intro a0 a1 k
  unfold desc_Same.f
  repeat' first
      | (with_reducible exact api_Entry.mono _ _ _)
      | (with_reducible exact LeO.refl _)
      | (with_reducible exact LeO.none _)
      | (with_reducible refine LeO.ite ?_ ?_)
      | (with_reducible refine LeO.bind ?_ (fun _ => ?_))
      | exact api_Entry.mono _ _ _
      | exact LeO.none _
      | refine LeO.ite ?_ ?_
      | refine LeO.bind ?_ (fun _ => ?_)
set_option maxHeartbeats 8000000 in
set_option maxRecDepth 100000 in
theorem desc_Same.calls (k : Nat) (A0_0 : Option Addr) (c0_0 : Nat) (l0_0 : List (S142)) (A1_0 : Option Addr) (c1_0 : Nat) (l1_0 : List (S142)) (r : Bool) (w : World) (hr0_0 : Kd.C k142 w A0_0 l0_0.length l0_0) (hc0_0 : l0_0.length ≤ c0_0) (hr1_0 : Kd.C k142 w A1_0 l1_0.length l1_0) (hc1_0 : l1_0.length ≤ c1_0) (h : desc_Same.f k l0_0 l1_0 = some r) :
    Calls Try.prog 121 #[.agg #[.slice A0_0 l0_0.length c0_0], .agg #[.slice A1_0 l1_0.length c1_0]] w fun e w' => e = .returned (.bool r) ∧ Below w.heap.size w w' := by
  have hu140 := Try.underlying140
  have HR0_0 := Aside0.mk hr0_0
  have HC0_0 := Aside0.mk hc0_0
  clear hr0_0 hc0_0
  have HR1_0 := Aside0.mk hr1_0
  have HC1_0 := Aside0.mk hc1_0
  clear hr1_0 hc1_0
  have HB := Aside0.mk (Below.refl w.heap.size w)
  have H : ((api_Entry.f k l0_0 l1_0).bind fun t465 => (some t465)) = some r := h
  clear h
  replace H := Option.bind_eq_some_iff.mp H
  obtain ⟨t465, A30, H⟩ := H
  replace H : (some t465) = some r := H
  have A3 := Aside0.mk A30
  clear A30
  obtain rfl := Option.some.inj H
  go_enter Try.func121, Try.ntmps121
  go_wp2_with (first | ((with_reducible refine gate_dst (N := 2) rfl ?_); refine box_event ?hg (N := 2) ?hd (cs := #[.slice A0_0 l0_0.length c0_0]) (t := 140) ?hr ?_; (case hd => rfl); (case hg => rfl); (case hr => first | (go_simp; done) | (go_simp; rfl)); intro gb463 hg w4 hbox hb; have n0_ := Aside0.mk (below_step (by repeat (first | (with_reducible first | exact HB.out | apply below_alloc | apply pw_below_drewN | apply below_drew1) | exact HB.out)) hb); have n1_ := Aside0.mk (hbox); have n2_ := Aside0.mk ((by rw [hg]; exact (below_size (by repeat (first | (with_reducible first | exact HB.out | apply below_alloc | apply pw_below_drewN | apply below_drew1) | exact HB.out))) : w.heap.size ≤ gb463)); have n3_ := Aside0.mk ((by rw [hg]; exact (below_size (by repeat (first | (with_reducible first | exact HB.out | apply below_alloc | apply pw_below_drewN | apply below_drew1) | exact HB.out))) : w.heap.size ≤ gb463)); clear HB; have HB := n0_; have BK463 := n1_; have GW463 := n2_; have GE463 := n3_; clear n0_ n1_ n2_ n3_; clear hb hbox hg) | ((with_reducible refine gate_dst (N := 3) rfl ?_); refine box_event ?hg (N := 3) ?hd (cs := #[.slice A1_0 l1_0.length c1_0]) (t := 140) ?hr ?_; (case hd => rfl); (case hg => rfl); (case hr => first | (go_simp; done) | (go_simp; rfl)); intro gb464 hg w5 hbox hb; have n0_ := Aside0.mk (blk_below (g := gb463) (o := .cells #[.slice A0_0 l0_0.length c0_0] 140 (0, 0)) (by (with_reducible repeat (first | refine blk_drewN ?_ _ | refine blk_drew ?_ | refine blk_alloc ?_ _)); exact BK463.out) hb); have n1_ := Aside0.mk (below_step (by repeat (first | (with_reducible first | exact HB.out | apply below_alloc | apply pw_below_drewN | apply below_drew1 | refine below_set ?_ GE463.out) | exact HB.out)) hb); have n2_ := Aside0.mk (hbox); have n3_ := Aside0.mk ((by rw [hg]; exact (below_size (by repeat (first | (with_reducible first | exact HB.out | apply below_alloc | apply pw_below_drewN | apply below_drew1 | refine below_set ?_ GE463.out) | exact HB.out))) : w.heap.size ≤ gb464)); have n4_ := Aside0.mk ((by rw [hg]; exact (below_size (by repeat (first | (with_reducible first | exact HB.out | apply below_alloc | apply pw_below_drewN | apply below_drew1 | refine below_set ?_ GE463.out) | exact HB.out))) : w.heap.size ≤ gb464)); have n5_ := Aside0.mk ((by rw [hg]; exact Nat.ne_of_lt (blk_lt (g := gb463) (o := .cells #[.slice A0_0 l0_0.length c0_0] 140 (0, 0)) (by (with_reducible repeat (first | refine blk_drewN ?_ _ | refine blk_drew ?_ | refine blk_alloc ?_ _)); exact BK463.out)) : gb463 ≠ gb464)); have n6_ := Aside0.mk ((by rw [hg]; exact Nat.ne_of_gt (blk_lt (g := gb463) (o := .cells #[.slice A0_0 l0_0.length c0_0] 140 (0, 0)) (by (with_reducible repeat (first | refine blk_drewN ?_ _ | refine blk_drew ?_ | refine blk_alloc ?_ _)); exact BK463.out)) : gb464 ≠ gb463)); clear BK463; clear HB; have BK463 := n0_; have HB := n1_; have BK464 := n2_; have GW464 := n3_; have GE464 := n4_; have NB463_464 := n5_; have NB464_463 := n6_; clear n0_ n1_ n2_ n3_ n4_ n5_ n6_; clear hb hbox hg; have hnb6 := NB463_464.out; have hnc6 := NB464_463.out; have hcz7_0 : w5.cell? ⟨gb463, 0, none⟩ = some (.slice A0_0 l0_0.length c0_0) := (blk_cell BK463.out 0).trans rfl; have hfz7_0 := blk_frozen BK463.out 0; have hcz8_0 : w5.cell? ⟨gb464, 0, none⟩ = some (.slice A1_0 l1_0.length c1_0) := (blk_cell BK464.out 0).trans rfl; have hfz8_0 := blk_frozen BK464.out 0) | ((with_reducible refine gate_callee (f := 139) rfl ?_); refine goesL_ (some 9) rfl rfl Try.func139 (by kernel_rfl) rfl #[.slice A0_0 l0_0.length c0_0, .slice A1_0 l1_0.length c1_0] rfl (by (try simp only [List.map_toArray, List.map_cons, List.map_nil]); first | done | rfl | (simp only [List.length_drop, List.length_take]; rfl)) ?_; (with_reducible refine (api_Entry.calls k _ _ l0_0 _ _ l1_0 t465 _ ?side1 ?side2 ?side3 ?side4 A3.out).mono ?_); (case side1 => repeat (first | exact (Kd.C_below HR0_0.out HB.out) | (with_reducible refine Kd.C_alloc ?_ _) | (with_reducible refine Kd.C_drewN ?_ _) | (with_reducible refine Kd.C_drew ?_))); (case side2 => exact HC0_0.out); (case side3 => repeat (first | exact (Kd.C_below HR1_0.out HB.out) | (with_reducible refine Kd.C_alloc ?_ _) | (with_reducible refine Kd.C_drewN ?_ _) | (with_reducible refine Kd.C_drew ?_))); (case side4 => exact HC1_0.out); rintro e w' ⟨rfl, ⟨nd, rfl⟩⟩; refine ⟨_, rfl, ?_⟩))
  go_ret
  exact ⟨by first | rfl | (simp [errW_none, errW_some] <;> rfl) | (simp [*, errW_none, errW_some] <;> rfl), by repeat (first | (with_reducible first | exact HB.out | apply below_alloc | apply pw_below_drewN | apply below_drew1 | refine below_set ?_ GE463.out | refine below_set ?_ GE464.out) | exact HB.out)⟩

end Go.Proofs.Ytnhblhhkjnmkkaa.Q
