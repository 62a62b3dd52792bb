/- Printed by this session's own program out of the translation: each function as a plain Lean function, and its contract. -/
import Derived.Test.YtnhblhhkjnmkkaaQ0
import Derived.Test.YtnhblhhkjnmkkaaQ16
namespace Go.Proofs.Ytnhblhhkjnmkkaa.Q
open Go.RowKit Go.Proofs.YtnhblhhkjnmkkaaW.PrintWords Go.Proofs.YtnhblhhkjnmkkaaW.PrintLast Go.Proofs.YtnhblhhkjnmkkaaW.PrintMore
attribute [local go_sem] max2_int min2_int max_two min_two max_three min_three max_four min_four   -- for this text's walks alone
set_option linter.unusedVariables false
set_option linter.unusedSimpArgs false

/-! ### turncockref1_EncodeOops: function 73 -/
def turncockref1_EncodeOops.j0 : Nat → Bool → Int → Int → Int → Int → Option (List Int × Int)
  | 0, _, _, _, _, _ => none
  | k + 1, x41, x413000, x413001, x413002, x413003 => if x41 = true then (some (([] : List Int), 1)) else ((turncockref1_num.f k (([5] : List Int)) x413000).bind fun t416 => ((turncockref1_num.f k t416 x413001).bind fun t419 => ((turncockref1_num.f k t419 x413002).bind fun t422 => ((turncockref1_num.f k t422 x413003).bind fun t425 => (some (t425, 0))))))
def turncockref1_EncodeOops.f (k : Nat) (a0_0 : Int) (a0_1 : Int) (a0_2 : Int) (a0_3 : Int) : Option (List Int × Int) := if a0_0 < 0 then (turncockref1_EncodeOops.j0 k true a0_0 a0_1 a0_2 a0_3) else (if a0_0 > 2147483647 then (turncockref1_EncodeOops.j0 k true a0_0 a0_1 a0_2 a0_3) else (if a0_1 < 1 then (turncockref1_EncodeOops.j0 k true a0_0 a0_1 a0_2 a0_3) else (if a0_1 > 8 then (turncockref1_EncodeOops.j0 k true a0_0 a0_1 a0_2 a0_3) else (if a0_2 < 0 then (turncockref1_EncodeOops.j0 k true a0_0 a0_1 a0_2 a0_3) else (if a0_2 > 17 then (turncockref1_EncodeOops.j0 k true a0_0 a0_1 a0_2 a0_3) else (if a0_3 < 0 then (turncockref1_EncodeOops.j0 k true a0_0 a0_1 a0_2 a0_3) else (turncockref1_EncodeOops.j0 k (decide (a0_3 > 4294967295)) a0_0 a0_1 a0_2 a0_3)))))))
theorem turncockref1_EncodeOops.mono_l : ∀ k, (∀ y0 y1 y2 y3 y4, LeO (turncockref1_EncodeOops.j0 k y0 y1 y2 y3 y4) (turncockref1_EncodeOops.j0 (k + 1) y0 y1 y2 y3 y4))
  | 0 => fun _ _ _ _ _ r h => by simp [turncockref1_EncodeOops.j0] at h
  | k + 1 => by
    have ih0 := turncockref1_EncodeOops.mono_l k
    · intro y0 y1 y2 y3 y4
      unfold turncockref1_EncodeOops.j0
      repeat' first
      | (with_reducible exact ih0 _ _ _ _ _)
      | (with_reducible exact turncockref1_num.mono _ _ _)
      | (with_reducible exact LeO.refl _)
      | (with_reducible exact LeO.none _)
      | (with_reducible refine LeO.ite ?_ ?_)
      | (with_reducible refine LeO.bind ?_ (fun _ => ?_))
      | exact ih0 _ _ _ _ _
      | exact turncockref1_num.mono _ _ _
      | exact LeO.none _
      | refine LeO.ite ?_ ?_
      | refine LeO.bind ?_ (fun _ => ?_)
theorem turncockref1_EncodeOops.mono : ∀ a0 a1 a2 a3 k, LeO (turncockref1_EncodeOops.f k a0 a1 a2 a3) (turncockref1_EncodeOops.f (k + 1) a0 a1 a2 a3) := by
  intro a0 a1 a2 a3 k
  have ih0 := turncockref1_EncodeOops.mono_l k
  unfold turncockref1_EncodeOops.f
  repeat' first
      | (with_reducible exact ih0 _ _ _ _ _)
      | (with_reducible exact turncockref1_num.mono _ _ _)
      | (with_reducible exact LeO.refl _)
      | (with_reducible exact LeO.none _)
      | (with_reducible refine LeO.ite ?_ ?_)
      | (with_reducible refine LeO.bind ?_ (fun _ => ?_))
      | exact ih0 _ _ _ _ _
      | exact turncockref1_num.mono _ _ _
      | exact LeO.none _
      | refine LeO.ite ?_ ?_
      | refine LeO.bind ?_ (fun _ => ?_)
def turncockref1_EncodeOops.T3 : Bool × List (List Nat × List Nat) := (true, [([], []), ([], []), ([1], [1]), ([0, 2], [0, 2]), ([], []), ([4], [4]), ([3, 5, 3], [3, 5]), ([], []), ([7], [7]), ([6, 8, 6], [6, 8]), ([], []), ([10], [10]), ([9, 11, 9], [9, 11]), ([12, 12, 0, 1, 2, 3, 4, 5, 6, 7, 8, 9, 10, 11, 12], [12]), ([13, 0, 1, 2, 3, 4, 5, 6, 7, 8, 9, 10, 11, 12, 13], [])])
def turncockref1_EncodeOops.B3 : List Nat := [0, 0, 2, 7, 0, 16, 63, 0, 128, 511, 0, 1024, 4095, 8191, 16383]
theorem turncockref1_EncodeOops.tab3 : rtab .any (opsOf Try.f73 3) = turncockref1_EncodeOops.T3 := by kernel_rfl
theorem turncockref1_EncodeOops.bits3 : waitsOk turncockref1_EncodeOops.T3.2 turncockref1_EncodeOops.B3 = true := by kernel_rfl
set_option maxHeartbeats 8000000 in
set_option maxRecDepth 100000 in
theorem turncockref1_EncodeOops.calls (k : Nat) (a0_0 : Int) (a0_1 : Int) (a0_2 : Int) (a0_3 : Int) (r1 : List Int) (r2 : Int) (w : World) (h : turncockref1_EncodeOops.f k a0_0 a0_1 a0_2 a0_3 = some (r1, r2)) :
    Calls Try.prog 73 #[.agg #[.int .i64 a0_0, .int .i64 a0_1, .int .i64 a0_2, .int .i64 a0_3]] w fun e w' => ∃ v0_ : Value, e = .returned (.tuple #[v0_, .int .i64 r2]) ∧ Kd.R (Kd.int .u8) 5 w' w.heap.size (fun _ => True) v0_ r1 ∧ Below w.heap.size w w' := by
  have hu88 := Try.underlying88
  have HB := Aside0.mk (Below.refl w.heap.size w)
  have H : (if a0_0 < 0 then (turncockref1_EncodeOops.j0 k true a0_0 a0_1 a0_2 a0_3) else (if a0_0 > 2147483647 then (turncockref1_EncodeOops.j0 k true a0_0 a0_1 a0_2 a0_3) else (if a0_1 < 1 then (turncockref1_EncodeOops.j0 k true a0_0 a0_1 a0_2 a0_3) else (if a0_1 > 8 then (turncockref1_EncodeOops.j0 k true a0_0 a0_1 a0_2 a0_3) else (if a0_2 < 0 then (turncockref1_EncodeOops.j0 k true a0_0 a0_1 a0_2 a0_3) else (if a0_2 > 17 then (turncockref1_EncodeOops.j0 k true a0_0 a0_1 a0_2 a0_3) else (if a0_3 < 0 then (turncockref1_EncodeOops.j0 k true a0_0 a0_1 a0_2 a0_3) else (turncockref1_EncodeOops.j0 k (decide (a0_3 > 4294967295)) a0_0 a0_1 a0_2 a0_3)))))))) = some (r1, r2) := h
  clear h
  have HC2 := Aside0.mk H
  clear H
  go_enter Try.func73, Try.ntmps73
  go_upto_region 1 with (first | ((with_reducible refine gate_dst (N := 1) rfl ?_); refine box_event ?hg (N := 1) ?hd (cs := #[.int .i64 a0_0, .int .i64 a0_1, .int .i64 a0_2, .int .i64 a0_3]) (t := 88) ?hr ?_; (case hd => rfl); (case hg => rfl); (case hr => first | (go_simp; done) | (go_simp; rfl)); intro gb412 hg w3 hbox hb; have n0_ := Aside0.mk (below_step (by repeat (first | (with_reducible first | exact HB.out | apply below_alloc | apply pw_below_drewN | apply below_drew1) | exact HB.out)) hb); have n1_ := Aside0.mk (hbox); have n2_ := Aside0.mk ((by rw [hg]; exact (below_size (by repeat (first | (with_reducible first | exact HB.out | apply below_alloc | apply pw_below_drewN | apply below_drew1) | exact HB.out))) : w.heap.size ≤ gb412)); have n3_ := Aside0.mk ((by rw [hg]; exact (below_size (by repeat (first | (with_reducible first | exact HB.out | apply below_alloc | apply pw_below_drewN | apply below_drew1) | exact HB.out))) : w.heap.size ≤ gb412)); clear HB; have HB := n0_; have BK412 := n1_; have GW412 := n2_; have GE412 := n3_; clear n0_ n1_ n2_ n3_; clear hb hbox hg))
  (try simp only [Act.put, List.setIfInBounds_toArray, List.set_cons_zero, List.set_cons_succ])
  go_cut [41] (fun v41 wc => ∃ (kq : Nat) (x41_1 : Bool), v41 = .bool x41_1 ∧ Aside0 (turncockref1_EncodeOops.j0 kq x41_1 a0_0 a0_1 a0_2 a0_3 = some (r1, r2)) ∧ Aside0 (kq ≤ k) ∧ Aside0 (wc.heap[gb412]? = some (.cells #[.int .i64 a0_0, .int .i64 a0_1, .int .i64 a0_2, .int .i64 a0_3] 88 (0, 0))) ∧ Aside0 (Below w.heap.size w wc))
  case first =>
    have H := HC2.out
    clear HC2
    by_cases c4 : a0_0 < 0
    · rw [if_pos c4] at H
      have c4b0 : decide (a0_0 < 0) = true := decide_eq_true c4
      clear c4
      (first | rw [c4b0] | (simp only [i64_w, i32_w]; rw [c4b0]) | skip)
      have H' := Aside0.mk H
      clear H
      have hcz5_0 : w3.cell? ⟨gb412, 0, none⟩ = some (.int .i64 a0_0) := (blk_cell BK412.out 0).trans rfl
      have hcz5_1 : w3.cell? ⟨gb412, 1, none⟩ = some (.int .i64 a0_1) := (blk_cell BK412.out 1).trans rfl
      have hcz5_2 : w3.cell? ⟨gb412, 2, none⟩ = some (.int .i64 a0_2) := (blk_cell BK412.out 2).trans rfl
      have hcz5_3 : w3.cell? ⟨gb412, 3, none⟩ = some (.int .i64 a0_3) := (blk_cell BK412.out 3).trans rfl
      have hfz5_0 := blk_frozen BK412.out 0
      have hfz5_1 := blk_frozen BK412.out 1
      have hfz5_2 := blk_frozen BK412.out 2
      have hfz5_3 := blk_frozen BK412.out 3
      go_wp2
      go_meet
      case rel => exact ⟨_, (true), (by first | rfl | (simp; done) | (simp [*]; done)), H', ⟨by first | omega | exact Nat.le_refl _⟩, ⟨by (with_reducible repeat (first | refine blk_drewN ?_ _ | refine blk_drew ?_ | refine blk_alloc ?_ _)); exact BK412.out⟩, ⟨by repeat (first | (with_reducible first | exact HB.out | apply below_alloc | apply pw_below_drewN | apply below_drew1 | refine below_set ?_ GE412.out) | exact HB.out)⟩⟩
    · rw [if_neg c4] at H
      have c4b0 : decide (a0_0 < 0) = false := decide_eq_false c4
      clear c4
      (first | rw [c4b0] | (simp only [i64_w, i32_w]; rw [c4b0]) | skip)
      by_cases c6 : a0_0 > 2147483647
      · rw [if_pos c6] at H
        have c6b0 : decide (2147483647 < a0_0) = true := decide_eq_true c6
        clear c6
        have H' := Aside0.mk H
        clear H
        have hcz7_0 : w3.cell? ⟨gb412, 0, none⟩ = some (.int .i64 a0_0) := (blk_cell BK412.out 0).trans rfl
        have hcz7_1 : w3.cell? ⟨gb412, 1, none⟩ = some (.int .i64 a0_1) := (blk_cell BK412.out 1).trans rfl
        have hcz7_2 : w3.cell? ⟨gb412, 2, none⟩ = some (.int .i64 a0_2) := (blk_cell BK412.out 2).trans rfl
        have hcz7_3 : w3.cell? ⟨gb412, 3, none⟩ = some (.int .i64 a0_3) := (blk_cell BK412.out 3).trans rfl
        have hfz7_0 := blk_frozen BK412.out 0
        have hfz7_1 := blk_frozen BK412.out 1
        have hfz7_2 := blk_frozen BK412.out 2
        have hfz7_3 := blk_frozen BK412.out 3
        go_wp2
        go_meet
        case rel => exact ⟨_, (true), (by first | rfl | (simp; done) | (simp [*]; done)), H', ⟨by first | omega | exact Nat.le_refl _⟩, ⟨by (with_reducible repeat (first | refine blk_drewN ?_ _ | refine blk_drew ?_ | refine blk_alloc ?_ _)); exact BK412.out⟩, ⟨by repeat (first | (with_reducible first | exact HB.out | apply below_alloc | apply pw_below_drewN | apply below_drew1 | refine below_set ?_ GE412.out) | exact HB.out)⟩⟩
      · rw [if_neg c6] at H
        have c6b0 : decide (2147483647 < a0_0) = false := decide_eq_false c6
        clear c6
        by_cases c8 : a0_1 < 1
        · rw [if_pos c8] at H
          have c8b0 : decide (a0_1 < 1) = true := decide_eq_true c8
          clear c8
          have H' := Aside0.mk H
          clear H
          have hcz9_0 : w3.cell? ⟨gb412, 0, none⟩ = some (.int .i64 a0_0) := (blk_cell BK412.out 0).trans rfl
          have hcz9_1 : w3.cell? ⟨gb412, 1, none⟩ = some (.int .i64 a0_1) := (blk_cell BK412.out 1).trans rfl
          have hcz9_2 : w3.cell? ⟨gb412, 2, none⟩ = some (.int .i64 a0_2) := (blk_cell BK412.out 2).trans rfl
          have hcz9_3 : w3.cell? ⟨gb412, 3, none⟩ = some (.int .i64 a0_3) := (blk_cell BK412.out 3).trans rfl
          have hfz9_0 := blk_frozen BK412.out 0
          have hfz9_1 := blk_frozen BK412.out 1
          have hfz9_2 := blk_frozen BK412.out 2
          have hfz9_3 := blk_frozen BK412.out 3
          go_wp2
          go_meet
          case rel => exact ⟨_, (true), (by first | rfl | (simp; done) | (simp [*]; done)), H', ⟨by first | omega | exact Nat.le_refl _⟩, ⟨by (with_reducible repeat (first | refine blk_drewN ?_ _ | refine blk_drew ?_ | refine blk_alloc ?_ _)); exact BK412.out⟩, ⟨by repeat (first | (with_reducible first | exact HB.out | apply below_alloc | apply pw_below_drewN | apply below_drew1 | refine below_set ?_ GE412.out) | exact HB.out)⟩⟩
        · rw [if_neg c8] at H
          have c8b0 : decide (a0_1 < 1) = false := decide_eq_false c8
          clear c8
          by_cases c10 : a0_1 > 8
          · rw [if_pos c10] at H
            have c10b0 : decide (8 < a0_1) = true := decide_eq_true c10
            clear c10
            have H' := Aside0.mk H
            clear H
            have hcz11_0 : w3.cell? ⟨gb412, 0, none⟩ = some (.int .i64 a0_0) := (blk_cell BK412.out 0).trans rfl
            have hcz11_1 : w3.cell? ⟨gb412, 1, none⟩ = some (.int .i64 a0_1) := (blk_cell BK412.out 1).trans rfl
            have hcz11_2 : w3.cell? ⟨gb412, 2, none⟩ = some (.int .i64 a0_2) := (blk_cell BK412.out 2).trans rfl
            have hcz11_3 : w3.cell? ⟨gb412, 3, none⟩ = some (.int .i64 a0_3) := (blk_cell BK412.out 3).trans rfl
            have hfz11_0 := blk_frozen BK412.out 0
            have hfz11_1 := blk_frozen BK412.out 1
            have hfz11_2 := blk_frozen BK412.out 2
            have hfz11_3 := blk_frozen BK412.out 3
            go_wp2
            go_meet
            case rel => exact ⟨_, (true), (by first | rfl | (simp; done) | (simp [*]; done)), H', ⟨by first | omega | exact Nat.le_refl _⟩, ⟨by (with_reducible repeat (first | refine blk_drewN ?_ _ | refine blk_drew ?_ | refine blk_alloc ?_ _)); exact BK412.out⟩, ⟨by repeat (first | (with_reducible first | exact HB.out | apply below_alloc | apply pw_below_drewN | apply below_drew1 | refine below_set ?_ GE412.out) | exact HB.out)⟩⟩
          · rw [if_neg c10] at H
            have c10b0 : decide (8 < a0_1) = false := decide_eq_false c10
            clear c10
            by_cases c12 : a0_2 < 0
            · rw [if_pos c12] at H
              have c12b0 : decide (a0_2 < 0) = true := decide_eq_true c12
              clear c12
              have H' := Aside0.mk H
              clear H
              have hcz13_0 : w3.cell? ⟨gb412, 0, none⟩ = some (.int .i64 a0_0) := (blk_cell BK412.out 0).trans rfl
              have hcz13_1 : w3.cell? ⟨gb412, 1, none⟩ = some (.int .i64 a0_1) := (blk_cell BK412.out 1).trans rfl
              have hcz13_2 : w3.cell? ⟨gb412, 2, none⟩ = some (.int .i64 a0_2) := (blk_cell BK412.out 2).trans rfl
              have hcz13_3 : w3.cell? ⟨gb412, 3, none⟩ = some (.int .i64 a0_3) := (blk_cell BK412.out 3).trans rfl
              have hfz13_0 := blk_frozen BK412.out 0
              have hfz13_1 := blk_frozen BK412.out 1
              have hfz13_2 := blk_frozen BK412.out 2
              have hfz13_3 := blk_frozen BK412.out 3
              go_wp2
              go_meet
              case rel => exact ⟨_, (true), (by first | rfl | (simp; done) | (simp [*]; done)), H', ⟨by first | omega | exact Nat.le_refl _⟩, ⟨by (with_reducible repeat (first | refine blk_drewN ?_ _ | refine blk_drew ?_ | refine blk_alloc ?_ _)); exact BK412.out⟩, ⟨by repeat (first | (with_reducible first | exact HB.out | apply below_alloc | apply pw_below_drewN | apply below_drew1 | refine below_set ?_ GE412.out) | exact HB.out)⟩⟩
            · rw [if_neg c12] at H
              have c12b0 : decide (a0_2 < 0) = false := decide_eq_false c12
              clear c12
              by_cases c14 : a0_2 > 17
              · rw [if_pos c14] at H
                have c14b0 : decide (17 < a0_2) = true := decide_eq_true c14
                clear c14
                have H' := Aside0.mk H
                clear H
                have hcz15_0 : w3.cell? ⟨gb412, 0, none⟩ = some (.int .i64 a0_0) := (blk_cell BK412.out 0).trans rfl
                have hcz15_1 : w3.cell? ⟨gb412, 1, none⟩ = some (.int .i64 a0_1) := (blk_cell BK412.out 1).trans rfl
                have hcz15_2 : w3.cell? ⟨gb412, 2, none⟩ = some (.int .i64 a0_2) := (blk_cell BK412.out 2).trans rfl
                have hcz15_3 : w3.cell? ⟨gb412, 3, none⟩ = some (.int .i64 a0_3) := (blk_cell BK412.out 3).trans rfl
                have hfz15_0 := blk_frozen BK412.out 0
                have hfz15_1 := blk_frozen BK412.out 1
                have hfz15_2 := blk_frozen BK412.out 2
                have hfz15_3 := blk_frozen BK412.out 3
                go_wp2
                go_meet
                case rel => exact ⟨_, (true), (by first | rfl | (simp; done) | (simp [*]; done)), H', ⟨by first | omega | exact Nat.le_refl _⟩, ⟨by (with_reducible repeat (first | refine blk_drewN ?_ _ | refine blk_drew ?_ | refine blk_alloc ?_ _)); exact BK412.out⟩, ⟨by repeat (first | (with_reducible first | exact HB.out | apply below_alloc | apply pw_below_drewN | apply below_drew1 | refine below_set ?_ GE412.out) | exact HB.out)⟩⟩
              · rw [if_neg c14] at H
                have c14b0 : decide (17 < a0_2) = false := decide_eq_false c14
                clear c14
                by_cases c16 : a0_3 < 0
                · rw [if_pos c16] at H
                  have c16b0 : decide (a0_3 < 0) = true := decide_eq_true c16
                  clear c16
                  have H' := Aside0.mk H
                  clear H
                  have hcz17_0 : w3.cell? ⟨gb412, 0, none⟩ = some (.int .i64 a0_0) := (blk_cell BK412.out 0).trans rfl
                  have hcz17_1 : w3.cell? ⟨gb412, 1, none⟩ = some (.int .i64 a0_1) := (blk_cell BK412.out 1).trans rfl
                  have hcz17_2 : w3.cell? ⟨gb412, 2, none⟩ = some (.int .i64 a0_2) := (blk_cell BK412.out 2).trans rfl
                  have hcz17_3 : w3.cell? ⟨gb412, 3, none⟩ = some (.int .i64 a0_3) := (blk_cell BK412.out 3).trans rfl
                  have hfz17_0 := blk_frozen BK412.out 0
                  have hfz17_1 := blk_frozen BK412.out 1
                  have hfz17_2 := blk_frozen BK412.out 2
                  have hfz17_3 := blk_frozen BK412.out 3
                  go_wp2
                  go_meet
                  case rel => exact ⟨_, (true), (by first | rfl | (simp; done) | (simp [*]; done)), H', ⟨by first | omega | exact Nat.le_refl _⟩, ⟨by (with_reducible repeat (first | refine blk_drewN ?_ _ | refine blk_drew ?_ | refine blk_alloc ?_ _)); exact BK412.out⟩, ⟨by repeat (first | (with_reducible first | exact HB.out | apply below_alloc | apply pw_below_drewN | apply below_drew1 | refine below_set ?_ GE412.out) | exact HB.out)⟩⟩
                · rw [if_neg c16] at H
                  have c16b0 : decide (a0_3 < 0) = false := decide_eq_false c16
                  clear c16
                  have H' := Aside0.mk H
                  clear H
                  have hcz18_0 : w3.cell? ⟨gb412, 0, none⟩ = some (.int .i64 a0_0) := (blk_cell BK412.out 0).trans rfl
                  have hcz18_1 : w3.cell? ⟨gb412, 1, none⟩ = some (.int .i64 a0_1) := (blk_cell BK412.out 1).trans rfl
                  have hcz18_2 : w3.cell? ⟨gb412, 2, none⟩ = some (.int .i64 a0_2) := (blk_cell BK412.out 2).trans rfl
                  have hcz18_3 : w3.cell? ⟨gb412, 3, none⟩ = some (.int .i64 a0_3) := (blk_cell BK412.out 3).trans rfl
                  have hfz18_0 := blk_frozen BK412.out 0
                  have hfz18_1 := blk_frozen BK412.out 1
                  have hfz18_2 := blk_frozen BK412.out 2
                  have hfz18_3 := blk_frozen BK412.out 3
                  go_wp2
                  go_meet
                  case rel => exact ⟨_, (decide (a0_3 > 4294967295)), (by first | rfl | (simp; done) | (simp [*]; done)), H', ⟨by first | omega | exact Nat.le_refl _⟩, ⟨by (with_reducible repeat (first | refine blk_drewN ?_ _ | refine blk_drew ?_ | refine blk_alloc ?_ _)); exact BK412.out⟩, ⟨by repeat (first | (with_reducible first | exact HB.out | apply below_alloc | apply pw_below_drewN | apply below_drew1 | refine below_set ?_ GE412.out) | exact HB.out)⟩⟩
  case rest =>
    clear HC2
    try clear c1
    try clear p2
    try clear c4
    try clear c4b0
    try clear c6
    try clear c6b0
    try clear c7
    try clear c8
    try clear c8b0
    try clear c10
    try clear c10b0
    try clear c12
    try clear c12b0
    try clear c14
    try clear c14b0
    try clear c16
    try clear c16b0
    try clear hcz11_0
    try clear hcz11_1
    try clear hcz11_2
    try clear hcz11_3
    try clear hcz13_0
    try clear hcz13_1
    try clear hcz13_2
    try clear hcz13_3
    try clear hcz15_0
    try clear hcz15_1
    try clear hcz15_2
    try clear hcz15_3
    try clear hcz17_0
    try clear hcz17_1
    try clear hcz17_2
    try clear hcz17_3
    try clear hcz18_0
    try clear hcz18_1
    try clear hcz18_2
    try clear hcz18_3
    try clear hcz5_0
    try clear hcz5_1
    try clear hcz5_2
    try clear hcz5_3
    try clear hcz7_0
    try clear hcz7_1
    try clear hcz7_2
    try clear hcz7_3
    try clear hcz9_0
    try clear hcz9_1
    try clear hcz9_2
    try clear hcz9_3
    try clear hfz11_0
    try clear hfz11_1
    try clear hfz11_2
    try clear hfz11_3
    try clear hfz13_0
    try clear hfz13_1
    try clear hfz13_2
    try clear hfz13_3
    try clear hfz15_0
    try clear hfz15_1
    try clear hfz15_2
    try clear hfz15_3
    try clear hfz17_0
    try clear hfz17_1
    try clear hfz17_2
    try clear hfz17_3
    try clear hfz18_0
    try clear hfz18_1
    try clear hfz18_2
    try clear hfz18_3
    try clear hfz5_0
    try clear hfz5_1
    try clear hfz5_2
    try clear hfz5_3
    try clear hfz7_0
    try clear hfz7_1
    try clear hfz7_2
    try clear hfz7_3
    try clear hfz9_0
    try clear hfz9_1
    try clear hfz9_2
    try clear hfz9_3
    obtain ⟨kq, x41_1, rfl, HA, HJ1, BK412, HB⟩ := hcut
    cases kq with
    | zero => exact absurd HA.out (by simp [turncockref1_EncodeOops.j0])
    | succ kj1 =>
      have H := HA.out
      clear HA
      simp only [turncockref1_EncodeOops.j0] at H
      by_cases c19 : x41_1 = true
      · subst c19
        have H1 : (some (([] : List Int), 1)) = some (r1, r2) := by rw [if_pos rfl] at H; exact H
        clear H
        have H := H1
        clear H1
        simp only [Option.some.injEq, Prod.mk.injEq] at H
        obtain ⟨rfl, rfl⟩ := H
        go_wp2
        go_ret2
        exact ⟨_, by first | rfl | (simp [errW_none, errW_some] <;> rfl) | (simp [*, errW_none, errW_some] <;> rfl), by first | exact Kd.R_nil _ _ _ _ _ | exact Kd.N_nil _ _ _ _ _ | exact Kd.V_nil _ _ _ _ _ | exact Kd.Q_nil _ _ _ _ _ | exact Kd.S_nil _ _ _ _ _, by repeat (first | (with_reducible first | exact HB.out | apply below_alloc | apply pw_below_drewN | apply below_drew1 | refine below_set ?_ GE412.out) | exact HB.out)⟩
      · replace c19 := Bool.eq_false_iff.mpr c19
        subst c19
        have H1 : ((turncockref1_num.f kj1 (([5] : List Int)) a0_0).bind fun t416 => ((turncockref1_num.f kj1 t416 a0_1).bind fun t419 => ((turncockref1_num.f kj1 t419 a0_2).bind fun t422 => ((turncockref1_num.f kj1 t422 a0_3).bind fun t425 => (some (t425, 0)))))) = some (r1, r2) := by rw [if_neg (show ¬ (false = true) by decide)] at H; exact H
        clear H
        have H := H1
        clear H1
        obtain ⟨y413, hy413⟩ : ∃ y_ : List Int, y_ = (([5] : List Int)) := ⟨_, rfl⟩
        replace H : ((turncockref1_num.f kj1 y413 a0_0).bind fun t416 => ((turncockref1_num.f kj1 t416 a0_1).bind fun t419 => ((turncockref1_num.f kj1 t419 a0_2).bind fun t422 => ((turncockref1_num.f kj1 t422 a0_3).bind fun t425 => (some (t425, 0)))))) = some (r1, r2) := by first | (rw [hy413]; with_reducible exact H) | (have H2_ := (Option.bind_some _ _).symm.trans H; rw [hy413]; with_reducible exact H2_) | (have H2_ := (Option.bind_some _ _).symm.trans H; with_reducible exact H2_) | with_reducible exact H | (rw [hy413]; exact H) | exact H
        have Ny413 := Aside0.mk hy413
        clear hy413
        replace H := Option.bind_eq_some_iff.mp H
        obtain ⟨t416, A200, H⟩ := H
        replace H : ((turncockref1_num.f kj1 t416 a0_1).bind fun t419 => ((turncockref1_num.f kj1 t419 a0_2).bind fun t422 => ((turncockref1_num.f kj1 t422 a0_3).bind fun t425 => (some (t425, 0))))) = some (r1, r2) := H
        have A20 := Aside0.mk A200
        clear A200
        replace H := Option.bind_eq_some_iff.mp H
        obtain ⟨t419, A210, H⟩ := H
        replace H : ((turncockref1_num.f kj1 t419 a0_2).bind fun t422 => ((turncockref1_num.f kj1 t422 a0_3).bind fun t425 => (some (t425, 0)))) = some (r1, r2) := H
        have A21 := Aside0.mk A210
        clear A210
        replace H := Option.bind_eq_some_iff.mp H
        obtain ⟨t422, A220, H⟩ := H
        replace H : ((turncockref1_num.f kj1 t422 a0_3).bind fun t425 => (some (t425, 0))) = some (r1, r2) := H
        have A22 := Aside0.mk A220
        clear A220
        replace H := Option.bind_eq_some_iff.mp H
        obtain ⟨t425, A230, H⟩ := H
        replace H : (some (t425, 0)) = some (r1, r2) := H
        have A23 := Aside0.mk A230
        clear A230
        simp only [Option.some.injEq, Prod.mk.injEq] at H
        obtain ⟨rfl, rfl⟩ := H
        try go_wp2
        have n0_ := Aside0.mk (blk_drew BK412.out)
        have n1_ := Aside0.mk (below_drew1 HB.out)
        clear BK412
        clear HB
        have BK412 := n0_
        have HB := n1_
        clear n0_ n1_
        refine start_ (n := 15) (S := fun w' => w'.cell? ⟨gb412, 0, none⟩ = some (.int .i64 a0_0) ∧ w'.cell? ⟨gb412, 1, none⟩ = some (.int .i64 a0_1) ∧ w'.cell? ⟨gb412, 2, none⟩ = some (.int .i64 a0_2) ∧ w'.cell? ⟨gb412, 3, none⟩ = some (.int .i64 a0_3)) (ds := []) #[false, false, false, false, false, false, false, false, false, false, false, false, false, false, false] (by kernel_rfl) rfl rfl ⟨(blk_cell BK412.out 0).trans rfl, (blk_cell BK412.out 1).trans rfl, (blk_cell BK412.out 2).trans rfl, (blk_cell BK412.out 3).trans rfl⟩ (fun hHeld => ?_); refine with_tabW turncockref1_EncodeOops.tab3 turncockref1_EncodeOops.bits3 (fun HT_ HW_ => ?_)
        generalize wc.drew = w24 at BK412 HB hHeld ⊢
        refine pure_ (i := 1) (N := some 43) (v := ?_) (a' := ?_) #[false, true, false, false, false, false, false, false, false, false, false, false, false, false, false] rfl rfl (any_of HT_.out (by kernel_rfl)) (fun _ _ _ h => h) (Or.inl ⟨by rfl, ?_⟩) ?_ ?_
        rotate_left
        · intro w'
          go_simp
          with_reducible rfl
        rotate_left
        · simp only [Act.put, List.setIfInBounds_toArray, List.set_cons_zero, List.set_cons_succ, i64_w, i32_w]
          rfl
        refine pure_ (i := 4) (N := some 46) (v := ?_) (a' := ?_) #[false, true, false, false, true, false, false, false, false, false, false, false, false, false, false] rfl rfl (any_of HT_.out (by kernel_rfl)) (fun _ _ _ h => h) (Or.inl ⟨by rfl, ?_⟩) ?_ ?_
        rotate_left
        · intro w'
          go_simp
          with_reducible rfl
        rotate_left
        · simp only [Act.put, List.setIfInBounds_toArray, List.set_cons_zero, List.set_cons_succ, i64_w, i32_w]
          rfl
        refine pure_ (i := 7) (N := some 49) (v := ?_) (a' := ?_) #[false, true, false, false, true, false, false, true, false, false, false, false, false, false, false] rfl rfl (any_of HT_.out (by kernel_rfl)) (fun _ _ _ h => h) (Or.inl ⟨by rfl, ?_⟩) ?_ ?_
        rotate_left
        · intro w'
          go_simp
          with_reducible rfl
        rotate_left
        · simp only [Act.put, List.setIfInBounds_toArray, List.set_cons_zero, List.set_cons_succ, i64_w, i32_w]
          rfl
        refine pure_ (i := 10) (N := some 52) (v := ?_) (a' := ?_) #[false, true, false, false, true, false, false, true, false, false, true, false, false, false, false] rfl rfl (any_of HT_.out (by kernel_rfl)) (fun _ _ _ h => h) (Or.inl ⟨by rfl, ?_⟩) ?_ ?_
        rotate_left
        · intro w'
          go_simp
          with_reducible rfl
        rotate_left
        · simp only [Act.put, List.setIfInBounds_toArray, List.set_cons_zero, List.set_cons_succ, i64_w, i32_w]
          rfl
        refine take_ (i := 2) (N := some 44) (v := ?_) (a' := ?_) #[false, true, true, false, true, false, false, true, false, false, true, false, false, false, false] rfl rfl (take_ofW HT_.out HW_.out (by kernel_rfl)) (fun _ _ _ h => h) (Or.inl ⟨by rfl, ?_⟩) hHeld ?_ ?_
        rotate_left
        · rintro w' ⟨s0, s1, s2, s3⟩
          go_simp
          with_reducible rfl
        rotate_left
        · simp only [Act.put, List.setIfInBounds_toArray, List.set_cons_zero, List.set_cons_succ, i64_w, i32_w]
          rfl
        refine take_ (i := 5) (N := some 47) (v := ?_) (a' := ?_) #[false, true, true, false, true, true, false, true, false, false, true, false, false, false, false] rfl rfl (take_ofW HT_.out HW_.out (by kernel_rfl)) (fun _ _ _ h => h) (Or.inl ⟨by rfl, ?_⟩) hHeld ?_ ?_
        rotate_left
        · rintro w' ⟨s0, s1, s2, s3⟩
          go_simp
          with_reducible rfl
        rotate_left
        · simp only [Act.put, List.setIfInBounds_toArray, List.set_cons_zero, List.set_cons_succ, i64_w, i32_w]
          rfl
        refine take_ (i := 8) (N := some 50) (v := ?_) (a' := ?_) #[false, true, true, false, true, true, false, true, true, false, true, false, false, false, false] rfl rfl (take_ofW HT_.out HW_.out (by kernel_rfl)) (fun _ _ _ h => h) (Or.inl ⟨by rfl, ?_⟩) hHeld ?_ ?_
        rotate_left
        · rintro w' ⟨s0, s1, s2, s3⟩
          go_simp
          with_reducible rfl
        rotate_left
        · simp only [Act.put, List.setIfInBounds_toArray, List.set_cons_zero, List.set_cons_succ, i64_w, i32_w]
          rfl
        refine take_ (i := 11) (N := some 53) (v := ?_) (a' := ?_) #[false, true, true, false, true, true, false, true, true, false, true, true, false, false, false] rfl rfl (take_ofW HT_.out HW_.out (by kernel_rfl)) (fun _ _ _ h => h) (Or.inl ⟨by rfl, ?_⟩) hHeld ?_ ?_
        rotate_left
        · rintro w' ⟨s0, s1, s2, s3⟩
          go_simp
          with_reducible rfl
        rotate_left
        · simp only [Act.put, List.setIfInBounds_toArray, List.set_cons_zero, List.set_cons_succ, i64_w, i32_w]
          rfl
        refine one_ (i := 0) (N := some 42) #[true, true, true, false, true, true, false, true, true, false, true, true, false, false, false] rfl rfl (one_of HT_.out (by kernel_rfl)) (by decide) (fun K hK => ?_)
        refine Kd.R_lit_step (Kd.int .u8) _ 5 ?hg (N := 42) ?hd (xs := ([5] : List Int)) (inner := [.int .u8 5]) (ok := fun _ => True) (okp := fun _ => True) ?hr ?hp (fun _ hk => hk) trivial (Below.refl _ _) (Nat.le_refl _) (by simp) ?_; (case hd => rfl); (case hg => rfl); (case hr => first | (go_simp; done) | (go_simp; rfl)); (case hp => exact (Reps.one (show Kd.M (Kd.int .u8) _ _ _ 5 [.int .u8 5] from rfl) (Reps.none _ _)))
        intro v414 w25 ho26 hb hg_ hnew_
        clear hg_ hnew_
        (first | rw [← Ny413.out] at ho26 | (simp only [Int.reduceToNat] at ho26; rw [← Ny413.out] at ho26))
        have n0_ := Aside0.mk (Kd.R_lower ho26 (below_size (by repeat (first | (with_reducible first | exact HB.out | apply below_alloc | apply pw_below_drewN | apply below_drew1 | refine below_set ?_ GE412.out) | exact HB.out))))
        have n1_ := Aside0.mk (blk_below (g := gb412) (o := .cells #[.int .i64 a0_0, .int .i64 a0_1, .int .i64 a0_2, .int .i64 a0_3] 88 (0, 0)) (by (with_reducible repeat (first | refine blk_drewN ?_ _ | refine blk_drew ?_ | refine blk_alloc ?_ _)); exact BK412.out) hb)
        have n2_ := Aside0.mk (below_step (by repeat (first | (with_reducible first | exact HB.out | apply below_alloc | apply pw_below_drewN | apply below_drew1 | refine below_set ?_ GE412.out) | exact HB.out)) hb)
        clear BK412
        clear HB
        have HO415 := n0_
        have BK412 := n1_
        have HB := n2_
        clear n0_ n1_ n2_
        clear hb ho26
        obtain ⟨Ao27, co27, eo27⟩ := Kd.R_slice HO415.out
        (first | subst eo27 | (injection eo27 with f1_ f2_ f3_; have f4_ := f1_.symm; have f5_ := f3_.symm; clear f1_ f2_ f3_; subst f4_; subst f5_))
        refine hK.out _ _ ⟨(blk_cell BK412.out 0).trans rfl, (blk_cell BK412.out 1).trans rfl, (blk_cell BK412.out 2).trans rfl, (blk_cell BK412.out 3).trans rfl⟩ (fun hHeld => ?_)
        clear hK K
        refine norm_ (a' := ?_) ?_ ?_
        rotate_left
        · show Act.put _ (some 42) _ = _
          simp only [Act.put, List.setIfInBounds_toArray, List.set_cons_zero, List.set_cons_succ, i64_w, i32_w]
          rfl
        refine one_ (i := 3) (N := some 45) #[true, true, true, true, true, true, false, true, true, false, true, true, false, false, false] rfl rfl (one_of HT_.out (by kernel_rfl)) (by decide) (fun K hK => ?_)
        refine goes_ Try.func102 (by kernel_rfl) rfl #[.slice Ao27 y413.length co27, .int .i64 a0_0] (by rfl) rfl rfl (by (try simp only [List.map_toArray, List.map_cons, List.map_nil]); first | done | rfl | (simp only [List.length_drop, List.length_take]; rfl)) ?_
        with_reducible refine (turncockref1_num.calls kj1 _ _ y413 a0_0 t416 _ ?side1 ?side2 A20.out).mono ?_
        (case side1 => repeat (first | exact (Kd.R_reads' HO415.out).2.2 | (with_reducible refine Kd.C_alloc ?_ _) | (with_reducible refine Kd.C_drewN ?_ _) | (with_reducible refine Kd.C_drew ?_)))
        (case side2 => exact (Kd.R_reads' HO415.out).2.1)
        rintro e w28 ⟨v417, rfl, ho0, hb⟩
        refine ⟨_, rfl, ?_⟩
        have n0_ := Aside0.mk (Kd.R_elder' (by (with_reducible repeat (first | apply Kd.R_alloc | apply Kd.R_drewN | apply Kd.R_drew)); exact HO415.out) (Kd.R_base ho0) hb)
        have n1_ := Aside0.mk (Kd.R_lower (Kd.R_new' ho0 (Kd.R_lt (by (with_reducible repeat (first | apply Kd.R_alloc | apply Kd.R_drewN | apply Kd.R_drew)); exact HO415.out))) (below_size (by repeat (first | (with_reducible first | exact HB.out | apply below_alloc | apply pw_below_drewN | apply below_drew1 | refine below_set ?_ GE412.out) | exact HB.out))))
        have n2_ := Aside0.mk (blk_below (g := gb412) (o := .cells #[.int .i64 a0_0, .int .i64 a0_1, .int .i64 a0_2, .int .i64 a0_3] 88 (0, 0)) (by (with_reducible repeat (first | refine blk_drewN ?_ _ | refine blk_drew ?_ | refine blk_alloc ?_ _)); exact BK412.out) hb)
        have n3_ := Aside0.mk (below_step (by repeat (first | (with_reducible first | exact HB.out | apply below_alloc | apply pw_below_drewN | apply below_drew1 | refine below_set ?_ GE412.out) | exact HB.out)) hb)
        clear HO415
        clear BK412
        clear HB
        have HO415 := n0_
        have HO418 := n1_
        have BK412 := n2_
        have HB := n3_
        clear n0_ n1_ n2_ n3_
        (try clear hb)
        (try clear hb2)
        (try clear hk)
        (try clear hi)
        (try clear ho0)
        obtain ⟨Ao29, co29, eo29⟩ := Kd.R_slice HO418.out
        (first | subst eo29 | (injection eo29 with f1_ f2_ f3_; have f4_ := f1_.symm; have f5_ := f3_.symm; clear f1_ f2_ f3_; subst f4_; subst f5_))
        refine hK.out _ _ ⟨(blk_cell BK412.out 0).trans rfl, (blk_cell BK412.out 1).trans rfl, (blk_cell BK412.out 2).trans rfl, (blk_cell BK412.out 3).trans rfl⟩ (fun hHeld => ?_)
        clear hK K
        refine norm_ (a' := ?_) ?_ ?_
        rotate_left
        · show Act.put _ (some 45) _ = _
          simp only [Act.put, List.setIfInBounds_toArray, List.set_cons_zero, List.set_cons_succ, i64_w, i32_w]
          rfl
        refine one_ (i := 6) (N := some 48) #[true, true, true, true, true, true, true, true, true, false, true, true, false, false, false] rfl rfl (one_of HT_.out (by kernel_rfl)) (by decide) (fun K hK => ?_)
        refine goes_ Try.func102 (by kernel_rfl) rfl #[.slice Ao29 t416.length co29, .int .i64 a0_1] (by rfl) rfl rfl (by (try simp only [List.map_toArray, List.map_cons, List.map_nil]); first | done | rfl | (simp only [List.length_drop, List.length_take]; rfl)) ?_
        with_reducible refine (turncockref1_num.calls kj1 _ _ t416 a0_1 t419 _ ?side1 ?side2 A21.out).mono ?_
        (case side1 => repeat (first | exact (Kd.R_reads' HO418.out).2.2 | (with_reducible refine Kd.C_alloc ?_ _) | (with_reducible refine Kd.C_drewN ?_ _) | (with_reducible refine Kd.C_drew ?_)))
        (case side2 => exact (Kd.R_reads' HO418.out).2.1)
        rintro e w30 ⟨v420, rfl, ho0, hb⟩
        refine ⟨_, rfl, ?_⟩
        have n0_ := Aside0.mk (Kd.R_elder' (by (with_reducible repeat (first | apply Kd.R_alloc | apply Kd.R_drewN | apply Kd.R_drew)); exact HO415.out) (Kd.R_base ho0) hb)
        have n1_ := Aside0.mk (Kd.R_elder' (by (with_reducible repeat (first | apply Kd.R_alloc | apply Kd.R_drewN | apply Kd.R_drew)); exact HO418.out) (Kd.R_base ho0) hb)
        have n2_ := Aside0.mk (Kd.R_lower (Kd.R_new' (Kd.R_new' ho0 (Kd.R_lt (by (with_reducible repeat (first | apply Kd.R_alloc | apply Kd.R_drewN | apply Kd.R_drew)); exact HO415.out))) (Kd.R_lt (by (with_reducible repeat (first | apply Kd.R_alloc | apply Kd.R_drewN | apply Kd.R_drew)); exact HO418.out))) (below_size (by repeat (first | (with_reducible first | exact HB.out | apply below_alloc | apply pw_below_drewN | apply below_drew1 | refine below_set ?_ GE412.out) | exact HB.out))))
        have n3_ := Aside0.mk (blk_below (g := gb412) (o := .cells #[.int .i64 a0_0, .int .i64 a0_1, .int .i64 a0_2, .int .i64 a0_3] 88 (0, 0)) (by (with_reducible repeat (first | refine blk_drewN ?_ _ | refine blk_drew ?_ | refine blk_alloc ?_ _)); exact BK412.out) hb)
        have n4_ := Aside0.mk (below_step (by repeat (first | (with_reducible first | exact HB.out | apply below_alloc | apply pw_below_drewN | apply below_drew1 | refine below_set ?_ GE412.out) | exact HB.out)) hb)
        clear HO415
        clear HO418
        clear BK412
        clear HB
        have HO415 := n0_
        have HO418 := n1_
        have HO421 := n2_
        have BK412 := n3_
        have HB := n4_
        clear n0_ n1_ n2_ n3_ n4_
        (try clear hb)
        (try clear hb2)
        (try clear hk)
        (try clear hi)
        (try clear ho0)
        obtain ⟨Ao31, co31, eo31⟩ := Kd.R_slice HO421.out
        (first | subst eo31 | (injection eo31 with f1_ f2_ f3_; have f4_ := f1_.symm; have f5_ := f3_.symm; clear f1_ f2_ f3_; subst f4_; subst f5_))
        refine hK.out _ _ ⟨(blk_cell BK412.out 0).trans rfl, (blk_cell BK412.out 1).trans rfl, (blk_cell BK412.out 2).trans rfl, (blk_cell BK412.out 3).trans rfl⟩ (fun hHeld => ?_)
        clear hK K
        refine norm_ (a' := ?_) ?_ ?_
        rotate_left
        · show Act.put _ (some 48) _ = _
          simp only [Act.put, List.setIfInBounds_toArray, List.set_cons_zero, List.set_cons_succ, i64_w, i32_w]
          rfl
        refine one_ (i := 9) (N := some 51) #[true, true, true, true, true, true, true, true, true, true, true, true, false, false, false] rfl rfl (one_of HT_.out (by kernel_rfl)) (by decide) (fun K hK => ?_)
        refine goes_ Try.func102 (by kernel_rfl) rfl #[.slice Ao31 t419.length co31, .int .i64 a0_2] (by rfl) rfl rfl (by (try simp only [List.map_toArray, List.map_cons, List.map_nil]); first | done | rfl | (simp only [List.length_drop, List.length_take]; rfl)) ?_
        with_reducible refine (turncockref1_num.calls kj1 _ _ t419 a0_2 t422 _ ?side1 ?side2 A22.out).mono ?_
        (case side1 => repeat (first | exact (Kd.R_reads' HO421.out).2.2 | (with_reducible refine Kd.C_alloc ?_ _) | (with_reducible refine Kd.C_drewN ?_ _) | (with_reducible refine Kd.C_drew ?_)))
        (case side2 => exact (Kd.R_reads' HO421.out).2.1)
        rintro e w32 ⟨v423, rfl, ho0, hb⟩
        refine ⟨_, rfl, ?_⟩
        have n0_ := Aside0.mk (Kd.R_elder' (by (with_reducible repeat (first | apply Kd.R_alloc | apply Kd.R_drewN | apply Kd.R_drew)); exact HO415.out) (Kd.R_base ho0) hb)
        have n1_ := Aside0.mk (Kd.R_elder' (by (with_reducible repeat (first | apply Kd.R_alloc | apply Kd.R_drewN | apply Kd.R_drew)); exact HO418.out) (Kd.R_base ho0) hb)
        have n2_ := Aside0.mk (Kd.R_elder' (by (with_reducible repeat (first | apply Kd.R_alloc | apply Kd.R_drewN | apply Kd.R_drew)); exact HO421.out) (Kd.R_base ho0) hb)
        have n3_ := Aside0.mk (Kd.R_lower (Kd.R_new' (Kd.R_new' (Kd.R_new' ho0 (Kd.R_lt (by (with_reducible repeat (first | apply Kd.R_alloc | apply Kd.R_drewN | apply Kd.R_drew)); exact HO415.out))) (Kd.R_lt (by (with_reducible repeat (first | apply Kd.R_alloc | apply Kd.R_drewN | apply Kd.R_drew)); exact HO418.out))) (Kd.R_lt (by (with_reducible repeat (first | apply Kd.R_alloc | apply Kd.R_drewN | apply Kd.R_drew)); exact HO421.out))) (below_size (by repeat (first | (with_reducible first | exact HB.out | apply below_alloc | apply pw_below_drewN | apply below_drew1 | refine below_set ?_ GE412.out) | exact HB.out))))
        have n4_ := Aside0.mk (blk_below (g := gb412) (o := .cells #[.int .i64 a0_0, .int .i64 a0_1, .int .i64 a0_2, .int .i64 a0_3] 88 (0, 0)) (by (with_reducible repeat (first | refine blk_drewN ?_ _ | refine blk_drew ?_ | refine blk_alloc ?_ _)); exact BK412.out) hb)
        have n5_ := Aside0.mk (below_step (by repeat (first | (with_reducible first | exact HB.out | apply below_alloc | apply pw_below_drewN | apply below_drew1 | refine below_set ?_ GE412.out) | exact HB.out)) hb)
        clear HO415
        clear HO418
        clear HO421
        clear BK412
        clear HB
        have HO415 := n0_
        have HO418 := n1_
        have HO421 := n2_
        have HO424 := n3_
        have BK412 := n4_
        have HB := n5_
        clear n0_ n1_ n2_ n3_ n4_ n5_
        (try clear hb)
        (try clear hb2)
        (try clear hk)
        (try clear hi)
        (try clear ho0)
        obtain ⟨Ao33, co33, eo33⟩ := Kd.R_slice HO424.out
        (first | subst eo33 | (injection eo33 with f1_ f2_ f3_; have f4_ := f1_.symm; have f5_ := f3_.symm; clear f1_ f2_ f3_; subst f4_; subst f5_))
        refine hK.out _ _ ⟨(blk_cell BK412.out 0).trans rfl, (blk_cell BK412.out 1).trans rfl, (blk_cell BK412.out 2).trans rfl, (blk_cell BK412.out 3).trans rfl⟩ (fun hHeld => ?_)
        clear hK K
        refine norm_ (a' := ?_) ?_ ?_
        rotate_left
        · show Act.put _ (some 51) _ = _
          simp only [Act.put, List.setIfInBounds_toArray, List.set_cons_zero, List.set_cons_succ, i64_w, i32_w]
          rfl
        refine one_ (i := 12) (N := some 54) #[true, true, true, true, true, true, true, true, true, true, true, true, true, false, false] rfl rfl (one_of HT_.out (by kernel_rfl)) (by decide) (fun K hK => ?_)
        refine goes_ Try.func102 (by kernel_rfl) rfl #[.slice Ao33 t422.length co33, .int .i64 a0_3] (by rfl) rfl rfl (by (try simp only [List.map_toArray, List.map_cons, List.map_nil]); first | done | rfl | (simp only [List.length_drop, List.length_take]; rfl)) ?_
        with_reducible refine (turncockref1_num.calls kj1 _ _ t422 a0_3 t425 _ ?side1 ?side2 A23.out).mono ?_
        (case side1 => repeat (first | exact (Kd.R_reads' HO424.out).2.2 | (with_reducible refine Kd.C_alloc ?_ _) | (with_reducible refine Kd.C_drewN ?_ _) | (with_reducible refine Kd.C_drew ?_)))
        (case side2 => exact (Kd.R_reads' HO424.out).2.1)
        rintro e w34 ⟨v426, rfl, ho0, hb⟩
        refine ⟨_, rfl, ?_⟩
        have n0_ := Aside0.mk (Kd.R_elder' (by (with_reducible repeat (first | apply Kd.R_alloc | apply Kd.R_drewN | apply Kd.R_drew)); exact HO415.out) (Kd.R_base ho0) hb)
        have n1_ := Aside0.mk (Kd.R_elder' (by (with_reducible repeat (first | apply Kd.R_alloc | apply Kd.R_drewN | apply Kd.R_drew)); exact HO418.out) (Kd.R_base ho0) hb)
        have n2_ := Aside0.mk (Kd.R_elder' (by (with_reducible repeat (first | apply Kd.R_alloc | apply Kd.R_drewN | apply Kd.R_drew)); exact HO421.out) (Kd.R_base ho0) hb)
        have n3_ := Aside0.mk (Kd.R_elder' (by (with_reducible repeat (first | apply Kd.R_alloc | apply Kd.R_drewN | apply Kd.R_drew)); exact HO424.out) (Kd.R_base ho0) hb)
        have n4_ := Aside0.mk (Kd.R_lower (Kd.R_new' (Kd.R_new' (Kd.R_new' (Kd.R_new' ho0 (Kd.R_lt (by (with_reducible repeat (first | apply Kd.R_alloc | apply Kd.R_drewN | apply Kd.R_drew)); exact HO415.out))) (Kd.R_lt (by (with_reducible repeat (first | apply Kd.R_alloc | apply Kd.R_drewN | apply Kd.R_drew)); exact HO418.out))) (Kd.R_lt (by (with_reducible repeat (first | apply Kd.R_alloc | apply Kd.R_drewN | apply Kd.R_drew)); exact HO421.out))) (Kd.R_lt (by (with_reducible repeat (first | apply Kd.R_alloc | apply Kd.R_drewN | apply Kd.R_drew)); exact HO424.out))) (below_size (by repeat (first | (with_reducible first | exact HB.out | apply below_alloc | apply pw_below_drewN | apply below_drew1 | refine below_set ?_ GE412.out) | exact HB.out))))
        have n5_ := Aside0.mk (blk_below (g := gb412) (o := .cells #[.int .i64 a0_0, .int .i64 a0_1, .int .i64 a0_2, .int .i64 a0_3] 88 (0, 0)) (by (with_reducible repeat (first | refine blk_drewN ?_ _ | refine blk_drew ?_ | refine blk_alloc ?_ _)); exact BK412.out) hb)
        have n6_ := Aside0.mk (below_step (by repeat (first | (with_reducible first | exact HB.out | apply below_alloc | apply pw_below_drewN | apply below_drew1 | refine below_set ?_ GE412.out) | exact HB.out)) hb)
        clear HO415
        clear HO418
        clear HO421
        clear HO424
        clear BK412
        clear HB
        have HO415 := n0_
        have HO418 := n1_
        have HO421 := n2_
        have HO424 := n3_
        have HO427 := n4_
        have BK412 := n5_
        have HB := n6_
        clear n0_ n1_ n2_ n3_ n4_ n5_ n6_
        (try clear hb)
        (try clear hb2)
        (try clear hk)
        (try clear hi)
        (try clear ho0)
        refine hK.out _ _ ⟨(blk_cell BK412.out 0).trans rfl, (blk_cell BK412.out 1).trans rfl, (blk_cell BK412.out 2).trans rfl, (blk_cell BK412.out 3).trans rfl⟩ (fun hHeld => ?_)
        clear hK K
        refine norm_ (a' := ?_) ?_ ?_
        rotate_left
        · show Act.put _ (some 54) _ = _
          simp only [Act.put, List.setIfInBounds_toArray, List.set_cons_zero, List.set_cons_succ, i64_w, i32_w]
          rfl
        refine pure_ (i := 13) (N := some 2) (v := ?_) (a' := ?_) #[true, true, true, true, true, true, true, true, true, true, true, true, true, true, false] rfl rfl (any_of HT_.out (by kernel_rfl)) (fun _ _ _ h => h) (Or.inl ⟨by rfl, ?_⟩) ?_ ?_
        rotate_left
        · intro w'
          go_simp
          with_reducible rfl
        rotate_left
        · simp only [Act.put, List.setIfInBounds_toArray, List.set_cons_zero, List.set_cons_succ, i64_w, i32_w]
          rfl
        refine pure_ (i := 14) (N := some 3) (v := ?_) (a' := ?_) #[true, true, true, true, true, true, true, true, true, true, true, true, true, true, true] rfl rfl (any_of HT_.out (by kernel_rfl)) (fun _ _ _ h => h) (Or.inl ⟨by rfl, ?_⟩) ?_ ?_
        rotate_left
        · intro w'
          go_simp
          with_reducible rfl
        rotate_left
        · simp only [Act.put, List.setIfInBounds_toArray, List.set_cons_zero, List.set_cons_succ, i64_w, i32_w]
          rfl
        refine done_ (done_of HT_.out (by kernel_rfl)) ?_
        try go_wp2
        go_ret2
        exact ⟨_, by first | rfl | (simp [errW_none, errW_some] <;> rfl) | (simp [*, errW_none, errW_some] <;> rfl), by (with_reducible repeat (first | apply Kd.R_alloc | apply Kd.R_drewN | apply Kd.R_drew)); exact Kd.R_mono HO427.out (fun _ hk => trivial), by repeat (first | (with_reducible first | exact HB.out | apply below_alloc | apply pw_below_drewN | apply below_drew1 | refine below_set ?_ GE412.out) | exact HB.out)⟩

end Go.Proofs.Ytnhblhhkjnmkkaa.Q
