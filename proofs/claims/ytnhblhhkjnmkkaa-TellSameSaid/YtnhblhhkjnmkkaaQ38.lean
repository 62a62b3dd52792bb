/- Printed by this session's own program out of the translation: each function as a plain Lean function, and its contract. -/
import Derived.Test.YtnhblhhkjnmkkaaQ0
import Derived.Test.YtnhblhhkjnmkkaaQ5
import Derived.Test.YtnhblhhkjnmkkaaQ6
namespace Go.Proofs.Ytnhblhhkjnmkkaa.Q
open Go.RowKit Go.Proofs.YtnhblhhkjnmkkaaW.PrintWords Go.Proofs.YtnhblhhkjnmkkaaW.PrintLast Go.Proofs.YtnhblhhkjnmkkaaW.PrintMore
attribute [local go_sem] max2_int min2_int max_two min_two max_three min_three max_four min_four   -- for this text's walks alone
set_option linter.unusedVariables false
set_option linter.unusedSimpArgs false

attribute [local go_sem high] eqA152 eqA154
/-! ### turncocklaw8_heavy: function 87 -/
def turncocklaw8_heavy.l0 : Nat → Int → Int → Int → Int → Bool → List (S154) → List (S152) → Option (Bool)
  | 0, _, _, _, _, _, _, _ => none
  | k + 1, x3, x4, x610000, x610001, x610002, x610003, x610004 => if x4 < (x610004.length : Int) then (if x3 ≤ 5000 then (if 0 ≤ x4 then (turncocklaw8_heavy.l0 k (wrap64 ((wrap64 (x3 + (mn (((rd_T152 x610004 x4).f0).size : Int) 5001))) + (mn (((rd_T152 x610004 x4).f1).size : Int) 5001))) (wrap64 (x4 + 1)) x610000 x610001 x610002 x610003 x610004) else (none)) else (some (decide (x3 > 5000)))) else (some (decide (x3 > 5000)))
def turncocklaw8_heavy.f (k : Nat) (a0_0 : Int) (a0_1 : Int) (a0_2 : Bool) (l0_3 : List (S154)) (l0_4 : List (S152)) : Option (Bool) := turncocklaw8_heavy.l0 k (wrap64 ((l0_3.length : Int) + (l0_4.length : Int))) 0 a0_0 a0_1 a0_2 l0_3 l0_4
theorem turncocklaw8_heavy.mono_l : ∀ k, (∀ y0 y1 y2 y3 y4 y5 y6, LeO (turncocklaw8_heavy.l0 k y0 y1 y2 y3 y4 y5 y6) (turncocklaw8_heavy.l0 (k + 1) y0 y1 y2 y3 y4 y5 y6))
  | 0 => fun _ _ _ _ _ _ _ r h => by simp [turncocklaw8_heavy.l0] at h
  | k + 1 => by
    have ih0 := turncocklaw8_heavy.mono_l k
    · intro y0 y1 y2 y3 y4 y5 y6
      unfold turncocklaw8_heavy.l0
      repeat' first
      | (with_reducible exact ih0 _ _ _ _ _ _ _)
      | (with_reducible exact LeO.refl _)
      | (with_reducible exact LeO.none _)
      | (with_reducible refine LeO.ite ?_ ?_)
      | (with_reducible refine LeO.bind ?_ (fun _ => ?_))
      | exact ih0 _ _ _ _ _ _ _
      | exact LeO.none _
      | refine LeO.ite ?_ ?_
      | refine LeO.bind ?_ (fun _ => ?_)
theorem turncocklaw8_heavy.mono : ∀ a0 a1 a2 a3 a4 k, LeO (turncocklaw8_heavy.f k a0 a1 a2 a3 a4) (turncocklaw8_heavy.f (k + 1) a0 a1 a2 a3 a4) := by
  intro a0 a1 a2 a3 a4 k
  have ih0 := turncocklaw8_heavy.mono_l k
  unfold turncocklaw8_heavy.f
  repeat' first
      | (with_reducible exact ih0 _ _ _ _ _ _ _)
      | (with_reducible exact LeO.refl _)
      | (with_reducible exact LeO.none _)
      | (with_reducible refine LeO.ite ?_ ?_)
      | (with_reducible refine LeO.bind ?_ (fun _ => ?_))
      | exact ih0 _ _ _ _ _ _ _
      | exact LeO.none _
      | refine LeO.ite ?_ ?_
      | refine LeO.bind ?_ (fun _ => ?_)
set_option maxHeartbeats 8000000 in
set_option maxRecDepth 100000 in
theorem turncocklaw8_heavy.calls (k : Nat) (a0_0 : Int) (a0_1 : Int) (a0_2 : Bool) (A0_3 : Option Addr) (c0_3 : Nat) (l0_3 : List (S154)) (A0_4 : Option Addr) (c0_4 : Nat) (l0_4 : List (S152)) (r : Bool) (w : World) (hr0_3 : Kd.C k154 w A0_3 l0_3.length l0_3) (hc0_3 : l0_3.length ≤ c0_3) (hr0_4 : Kd.C k152 w A0_4 l0_4.length l0_4) (hc0_4 : l0_4.length ≤ c0_4) (h : turncocklaw8_heavy.f k a0_0 a0_1 a0_2 l0_3 l0_4 = some r) :
    Calls Try.prog 87 #[.agg #[.int .i64 a0_0, .int .i64 a0_1, .bool a0_2, .slice A0_3 l0_3.length c0_3, .slice A0_4 l0_4.length c0_4]] w fun e w' => e = .returned (.bool r) ∧ Below w.heap.size w w' := by
  have hu108 := Try.underlying108
  have HR0_3 := Aside0.mk hr0_3
  have HC0_3 := Aside0.mk hc0_3
  clear hr0_3 hc0_3
  have HR0_4 := Aside0.mk hr0_4
  have HC0_4 := Aside0.mk hc0_4
  clear hr0_4 hc0_4
  have HB := Aside0.mk (Below.refl w.heap.size w)
  have H : (turncocklaw8_heavy.l0 k (wrap64 ((l0_3.length : Int) + (l0_4.length : Int))) 0 a0_0 a0_1 a0_2 l0_3 l0_4) = some r := h
  clear h
  have H' := Aside0.mk H
  clear H
  go_enter Try.func87, Try.ntmps87
  go_wp2_with (first | ((with_reducible refine gate_dst (N := 1) rfl ?_); refine box_event ?hg (N := 1) ?hd (cs := #[.int .i64 a0_0, .int .i64 a0_1, .bool a0_2, .slice A0_3 l0_3.length c0_3, .slice A0_4 l0_4.length c0_4]) (t := 108) ?hr ?_; (case hd => rfl); (case hg => rfl); (case hr => first | (go_simp; done) | (go_simp; rfl)); intro gb609 hg w2 hbox hb; have n0_ := Aside0.mk (below_step (by repeat (first | (with_reducible first | exact HB.out | apply below_alloc | apply pw_below_drewN | apply below_drew1) | exact HB.out)) hb); have n1_ := Aside0.mk (hbox); have n2_ := Aside0.mk ((by rw [hg]; exact (below_size (by repeat (first | (with_reducible first | exact HB.out | apply below_alloc | apply pw_below_drewN | apply below_drew1) | exact HB.out))) : w.heap.size ≤ gb609)); have n3_ := Aside0.mk ((by rw [hg]; exact (below_size (by repeat (first | (with_reducible first | exact HB.out | apply below_alloc | apply pw_below_drewN | apply below_drew1) | exact HB.out))) : w.heap.size ≤ gb609)); clear HB; have HB := n0_; have BK609 := n1_; have GW609 := n2_; have GE609 := n3_; clear n0_ n1_ n2_ n3_; clear hb hbox hg; have hcz3_0 : w2.cell? ⟨gb609, 0, none⟩ = some (.int .i64 a0_0) := (blk_cell BK609.out 0).trans rfl; have hcz3_1 : w2.cell? ⟨gb609, 1, none⟩ = some (.int .i64 a0_1) := (blk_cell BK609.out 1).trans rfl; have hcz3_2 : w2.cell? ⟨gb609, 2, none⟩ = some (.bool a0_2) := (blk_cell BK609.out 2).trans rfl; have hcz3_3 : w2.cell? ⟨gb609, 3, none⟩ = some (.slice A0_3 l0_3.length c0_3) := (blk_cell BK609.out 3).trans rfl; have hcz3_4 : w2.cell? ⟨gb609, 4, none⟩ = some (.slice A0_4 l0_4.length c0_4) := (blk_cell BK609.out 4).trans rfl; have hfz3_0 := blk_frozen BK609.out 0; have hfz3_1 := blk_frozen BK609.out 1; have hfz3_2 := blk_frozen BK609.out 2; have hfz3_3 := blk_frozen BK609.out 3; have hfz3_4 := blk_frozen BK609.out 4))
  repeat (go_quiet (first | ((with_reducible refine gate_dst (N := 1) rfl ?_); refine box_event ?hg (N := 1) ?hd (cs := #[.int .i64 a0_0, .int .i64 a0_1, .bool a0_2, .slice A0_3 l0_3.length c0_3, .slice A0_4 l0_4.length c0_4]) (t := 108) ?hr ?_; (case hd => rfl); (case hg => rfl); (case hr => first | (go_simp; done) | (go_simp; rfl)); intro gb609 hg w2 hbox hb; have n0_ := Aside0.mk (below_step (by repeat (first | (with_reducible first | exact HB.out | apply below_alloc | apply pw_below_drewN | apply below_drew1) | exact HB.out)) hb); have n1_ := Aside0.mk (hbox); have n2_ := Aside0.mk ((by rw [hg]; exact (below_size (by repeat (first | (with_reducible first | exact HB.out | apply below_alloc | apply pw_below_drewN | apply below_drew1) | exact HB.out))) : w.heap.size ≤ gb609)); have n3_ := Aside0.mk ((by rw [hg]; exact (below_size (by repeat (first | (with_reducible first | exact HB.out | apply below_alloc | apply pw_below_drewN | apply below_drew1) | exact HB.out))) : w.heap.size ≤ gb609)); clear HB; have HB := n0_; have BK609 := n1_; have GW609 := n2_; have GE609 := n3_; clear n0_ n1_ n2_ n3_; clear hb hbox hg; have hcz3_0 : w2.cell? ⟨gb609, 0, none⟩ = some (.int .i64 a0_0) := (blk_cell BK609.out 0).trans rfl; have hcz3_1 : w2.cell? ⟨gb609, 1, none⟩ = some (.int .i64 a0_1) := (blk_cell BK609.out 1).trans rfl; have hcz3_2 : w2.cell? ⟨gb609, 2, none⟩ = some (.bool a0_2) := (blk_cell BK609.out 2).trans rfl; have hcz3_3 : w2.cell? ⟨gb609, 3, none⟩ = some (.slice A0_3 l0_3.length c0_3) := (blk_cell BK609.out 3).trans rfl; have hcz3_4 : w2.cell? ⟨gb609, 4, none⟩ = some (.slice A0_4 l0_4.length c0_4) := (blk_cell BK609.out 4).trans rfl; have hfz3_0 := blk_frozen BK609.out 0; have hfz3_1 := blk_frozen BK609.out 1; have hfz3_2 := blk_frozen BK609.out 2; have hfz3_3 := blk_frozen BK609.out 3; have hfz3_4 := blk_frozen BK609.out 4)); try go_wp2_with (first | ((with_reducible refine gate_dst (N := 1) rfl ?_); refine box_event ?hg (N := 1) ?hd (cs := #[.int .i64 a0_0, .int .i64 a0_1, .bool a0_2, .slice A0_3 l0_3.length c0_3, .slice A0_4 l0_4.length c0_4]) (t := 108) ?hr ?_; (case hd => rfl); (case hg => rfl); (case hr => first | (go_simp; done) | (go_simp; rfl)); intro gb609 hg w2 hbox hb; have n0_ := Aside0.mk (below_step (by repeat (first | (with_reducible first | exact HB.out | apply below_alloc | apply pw_below_drewN | apply below_drew1) | exact HB.out)) hb); have n1_ := Aside0.mk (hbox); have n2_ := Aside0.mk ((by rw [hg]; exact (below_size (by repeat (first | (with_reducible first | exact HB.out | apply below_alloc | apply pw_below_drewN | apply below_drew1) | exact HB.out))) : w.heap.size ≤ gb609)); have n3_ := Aside0.mk ((by rw [hg]; exact (below_size (by repeat (first | (with_reducible first | exact HB.out | apply below_alloc | apply pw_below_drewN | apply below_drew1) | exact HB.out))) : w.heap.size ≤ gb609)); clear HB; have HB := n0_; have BK609 := n1_; have GW609 := n2_; have GE609 := n3_; clear n0_ n1_ n2_ n3_; clear hb hbox hg; have hcz3_0 : w2.cell? ⟨gb609, 0, none⟩ = some (.int .i64 a0_0) := (blk_cell BK609.out 0).trans rfl; have hcz3_1 : w2.cell? ⟨gb609, 1, none⟩ = some (.int .i64 a0_1) := (blk_cell BK609.out 1).trans rfl; have hcz3_2 : w2.cell? ⟨gb609, 2, none⟩ = some (.bool a0_2) := (blk_cell BK609.out 2).trans rfl; have hcz3_3 : w2.cell? ⟨gb609, 3, none⟩ = some (.slice A0_3 l0_3.length c0_3) := (blk_cell BK609.out 3).trans rfl; have hcz3_4 : w2.cell? ⟨gb609, 4, none⟩ = some (.slice A0_4 l0_4.length c0_4) := (blk_cell BK609.out 4).trans rfl; have hfz3_0 := blk_frozen BK609.out 0; have hfz3_1 := blk_frozen BK609.out 1; have hfz3_2 := blk_frozen BK609.out 2; have hfz3_3 := blk_frozen BK609.out 3; have hfz3_4 := blk_frozen BK609.out 4)))
  go_loopg [3, 4] k (fun kq v3 v4 w' => ∃ (x3_1 : Int) (x4_1 : Int), v3 = .int .i64 x3_1 ∧ v4 = .int .i64 x4_1 ∧ Aside0 (turncocklaw8_heavy.l0 kq x3_1 x4_1 a0_0 a0_1 a0_2 l0_3 l0_4 = some r) ∧ Aside0 (kq ≤ k) ∧ Aside0 (w'.heap[gb609]? = some (.cells #[.int .i64 a0_0, .int .i64 a0_1, .bool a0_2, (.slice A0_3 l0_3.length c0_3), (.slice A0_4 l0_4.length c0_4)] 108 (0, 0))) ∧ Aside0 (Below w.heap.size w w'))
  case atStart => exact ⟨(wrap64 ((l0_3.length : Int) + (l0_4.length : Int))), (0), (by first | rfl | (simp; done) | (simp [*]; done)), (by first | rfl | (simp; done) | (simp [*]; done)), H', ⟨Nat.le_refl _⟩, ⟨by (with_reducible repeat (first | refine blk_drewN ?_ _ | refine blk_drew ?_ | refine blk_alloc ?_ _)); exact BK609.out⟩, ⟨by repeat (first | (with_reducible first | exact HB.out | apply below_alloc | apply pw_below_drewN | apply below_drew1 | refine below_set ?_ GE609.out) | exact HB.out)⟩⟩
  case round =>
    clear H'
    try clear p2
    try clear hcz3_0
    try clear hcz3_1
    try clear hcz3_2
    try clear hcz3_3
    try clear hcz3_4
    try clear hfz3_0
    try clear hfz3_1
    try clear hfz3_2
    try clear hfz3_3
    try clear hfz3_4
    obtain ⟨x3_1, x4_1, rfl, rfl, HA, HK1, BK609, HB⟩ := hrel
    cases gk with
    | zero => exact absurd HA.out (by simp [turncocklaw8_heavy.l0])
    | succ k1 =>
      have H := HA.out
      clear HA
      simp only [turncocklaw8_heavy.l0] at H
      by_cases c4 : x4_1 < (l0_4.length : Int)
      · rw [if_pos c4] at H
        have c4b0 : decide (x4_1 < (l0_4.length : Int)) = true := decide_eq_true c4
        clear c4
        by_cases c5 : x3_1 ≤ 5000
        · rw [if_pos c5] at H
          have c5b0 : decide (x3_1 ≤ 5000) = true := decide_eq_true c5
          clear c5
          by_cases c6 : 0 ≤ x4_1
          · rw [if_pos c6] at H
            have c6b0 : decide (0 ≤ x4_1) = true := decide_eq_true c6
            clear c6
            obtain ⟨ji7, hji7⟩ : ∃ j_ : Int, (mn (((rd_T152 l0_4 x4_1).f0).size : Int) 5001) = j_ := ⟨_, rfl⟩
            replace H : (turncocklaw8_heavy.l0 k1 (wrap64 ((wrap64 (x3_1 + (ji7))) + (mn (((rd_T152 l0_4 x4_1).f1).size : Int) 5001))) (wrap64 (x4_1 + 1)) a0_0 a0_1 a0_2 l0_3 l0_4) = some r := by first | (rw [hji7] at H; exact H) | (simp only [hji7] at H ⊢; exact H)
            have hji7_ : (if 5001 < (((rd_T152 l0_4 x4_1).f0).size : Int) then 5001 else (((rd_T152 l0_4 x4_1).f0).size : Int)) = ji7 := hji7
            obtain ⟨ji8, hji8⟩ : ∃ j_ : Int, (mn (((rd_T152 l0_4 x4_1).f1).size : Int) 5001) = j_ := ⟨_, rfl⟩
            replace H : (turncocklaw8_heavy.l0 k1 (wrap64 ((wrap64 (x3_1 + (ji7))) + (ji8))) (wrap64 (x4_1 + 1)) a0_0 a0_1 a0_2 l0_3 l0_4) = some r := by first | (rw [hji8] at H; exact H) | (simp only [hji8] at H ⊢; exact H)
            have hji8_ : (if 5001 < (((rd_T152 l0_4 x4_1).f1).size : Int) then 5001 else (((rd_T152 l0_4 x4_1).f1).size : Int)) = ji8 := hji8
            have H' := Aside0.mk H
            clear H
            have hcz9_0 : wr.cell? ⟨gb609, 0, none⟩ = some (.int .i64 a0_0) := (blk_cell BK609.out 0).trans rfl
            have hcz9_1 : wr.cell? ⟨gb609, 1, none⟩ = some (.int .i64 a0_1) := (blk_cell BK609.out 1).trans rfl
            have hcz9_2 : wr.cell? ⟨gb609, 2, none⟩ = some (.bool a0_2) := (blk_cell BK609.out 2).trans rfl
            have hcz9_3 : wr.cell? ⟨gb609, 3, none⟩ = some (.slice A0_3 l0_3.length c0_3) := (blk_cell BK609.out 3).trans rfl
            have hcz9_4 : wr.cell? ⟨gb609, 4, none⟩ = some (.slice A0_4 l0_4.length c0_4) := (blk_cell BK609.out 4).trans rfl
            have hfz9_0 := blk_frozen BK609.out 0
            have hfz9_1 := blk_frozen BK609.out 1
            have hfz9_2 := blk_frozen BK609.out 2
            have hfz9_3 := blk_frozen BK609.out 3
            have hfz9_4 := blk_frozen BK609.out 4
            have p610 : 0 ≤ (x4_1 : Int) := of_decide_eq_true (by first | (with_reducible assumption) | assumption)
            have q610 : x4_1 < (l0_4.length : Int) := of_decide_eq_true (by first | (with_reducible assumption) | assumption)
            obtain ⟨ad610, e610, hx610_0, hx610_1⟩ := at_T152 HR0_4.out x4_1 p610 q610
            cases e610
            replace hx610_0 := (HB.out.cell (World.block_lt_of_cell? w _ hx610_0)).trans hx610_0
            replace hx610_1 := (HB.out.cell (World.block_lt_of_cell? w _ hx610_1)).trans hx610_1
            replace p610 := eq_true p610
            replace q610 := eq_true q610
            have p611 : 0 ≤ (x4_1 : Int) := of_decide_eq_true (by first | (with_reducible assumption) | assumption)
            have q611 : x4_1 < (l0_4.length : Int) := of_decide_eq_true (by first | (with_reducible assumption) | assumption)
            obtain ⟨ad611, e611, hx611_0, hx611_1⟩ := at_T152 HR0_4.out x4_1 p611 q611
            obtain rfl : ad610 = ad611 := (by injection e611)
            replace hx611_0 := (HB.out.cell (World.block_lt_of_cell? w _ hx611_0)).trans hx611_0
            replace hx611_1 := (HB.out.cell (World.block_lt_of_cell? w _ hx611_1)).trans hx611_1
            replace p611 := eq_true p611
            replace q611 := eq_true q611
            go_wp2
            repeat (go_quiet (fail); try go_wp2)
            go_roundg k1
            case measure => have := HK1.out; omega
            case rel => exact ⟨(wrap64 ((wrap64 (x3_1 + (ji7))) + (ji8))), (wrap64 (x4_1 + 1)), (by first | rfl | (simp; done) | (simp only [← hji7, ← hji8] <;> (first | rfl | simp)) | (simp [*]; done)), (by first | rfl | (simp; done) | (simp [*]; done)), H', ⟨by have := HK1.out; omega⟩, ⟨by (with_reducible repeat (first | refine blk_drewN ?_ _ | refine blk_drew ?_ | refine blk_alloc ?_ _)); exact BK609.out⟩, ⟨by repeat (first | (with_reducible first | exact HB.out | apply below_alloc | apply pw_below_drewN | apply below_drew1 | refine below_set ?_ GE609.out) | exact HB.out)⟩⟩
          · rw [if_neg c6] at H
            exact absurd H (by simp)
        · rw [if_neg c5] at H
          have c5b0 : decide (x3_1 ≤ 5000) = false := decide_eq_false c5
          clear c5
          obtain rfl := Option.some.inj H
          have hcz10_0 : wr.cell? ⟨gb609, 0, none⟩ = some (.int .i64 a0_0) := (blk_cell BK609.out 0).trans rfl
          have hcz10_1 : wr.cell? ⟨gb609, 1, none⟩ = some (.int .i64 a0_1) := (blk_cell BK609.out 1).trans rfl
          have hcz10_2 : wr.cell? ⟨gb609, 2, none⟩ = some (.bool a0_2) := (blk_cell BK609.out 2).trans rfl
          have hcz10_3 : wr.cell? ⟨gb609, 3, none⟩ = some (.slice A0_3 l0_3.length c0_3) := (blk_cell BK609.out 3).trans rfl
          have hcz10_4 : wr.cell? ⟨gb609, 4, none⟩ = some (.slice A0_4 l0_4.length c0_4) := (blk_cell BK609.out 4).trans rfl
          have hfz10_0 := blk_frozen BK609.out 0
          have hfz10_1 := blk_frozen BK609.out 1
          have hfz10_2 := blk_frozen BK609.out 2
          have hfz10_3 := blk_frozen BK609.out 3
          have hfz10_4 := blk_frozen BK609.out 4
          go_wp2
          repeat (go_quiet (fail); try go_wp2)
          go_ret
          exact ⟨by first | rfl | (simp [errW_none, errW_some] <;> rfl) | (simp [*, errW_none, errW_some] <;> rfl), by repeat (first | (with_reducible first | exact HB.out | apply below_alloc | apply pw_below_drewN | apply below_drew1 | refine below_set ?_ GE609.out) | exact HB.out)⟩
      · rw [if_neg c4] at H
        have c4b0 : decide (x4_1 < (l0_4.length : Int)) = false := decide_eq_false c4
        clear c4
        obtain rfl := Option.some.inj H
        have hcz11_0 : wr.cell? ⟨gb609, 0, none⟩ = some (.int .i64 a0_0) := (blk_cell BK609.out 0).trans rfl
        have hcz11_1 : wr.cell? ⟨gb609, 1, none⟩ = some (.int .i64 a0_1) := (blk_cell BK609.out 1).trans rfl
        have hcz11_2 : wr.cell? ⟨gb609, 2, none⟩ = some (.bool a0_2) := (blk_cell BK609.out 2).trans rfl
        have hcz11_3 : wr.cell? ⟨gb609, 3, none⟩ = some (.slice A0_3 l0_3.length c0_3) := (blk_cell BK609.out 3).trans rfl
        have hcz11_4 : wr.cell? ⟨gb609, 4, none⟩ = some (.slice A0_4 l0_4.length c0_4) := (blk_cell BK609.out 4).trans rfl
        have hfz11_0 := blk_frozen BK609.out 0
        have hfz11_1 := blk_frozen BK609.out 1
        have hfz11_2 := blk_frozen BK609.out 2
        have hfz11_3 := blk_frozen BK609.out 3
        have hfz11_4 := blk_frozen BK609.out 4
        go_wp2
        repeat (go_quiet (fail); try go_wp2)
        go_ret
        exact ⟨by first | rfl | (simp [errW_none, errW_some] <;> rfl) | (simp [*, errW_none, errW_some] <;> rfl), by repeat (first | (with_reducible first | exact HB.out | apply below_alloc | apply pw_below_drewN | apply below_drew1 | refine below_set ?_ GE609.out) | exact HB.out)⟩

/-! ### tell_within: function 122 -/
def tell_within.f (a0 : Int) (a1 : Int) : Option (Bool) := if a0 ≥ 0 then (some (decide (a0 ≤ a1))) else (some false)
set_option maxHeartbeats 8000000 in
set_option maxRecDepth 100000 in
theorem tell_within.calls (a0 : Int) (a1 : Int) (r : Bool) (w : World) (h : tell_within.f a0 a1 = some r) :
    Calls Try.prog 122 #[.int .i64 a0, .int .i64 a1] w fun e w' => e = .returned (.bool r) ∧ Drawn0 w w' := by
  have H : (if a0 ≥ 0 then (some (decide (a0 ≤ a1))) else (some false)) = some r := h
  clear h
  by_cases c3 : a0 ≥ 0
  · rw [if_pos c3] at H
    have c3b0 : decide (0 ≤ a0) = true := decide_eq_true c3
    clear c3
    obtain rfl := Option.some.inj H
    go_enter Try.func122, Try.ntmps122
    go_wp2
    go_ret
    exact ⟨by first | rfl | (simp; done) | (simp [*]; done), by repeat (first | exact Drawn0.refl _ | apply Drawn0.step)⟩
  · rw [if_neg c3] at H
    have c3b0 : decide (0 ≤ a0) = false := decide_eq_false c3
    clear c3
    obtain rfl := Option.some.inj H
    go_enter Try.func122, Try.ntmps122
    go_wp2
    go_ret
    exact ⟨by first | rfl | (simp; done) | (simp [*]; done), by repeat (first | exact Drawn0.refl _ | apply Drawn0.step)⟩

/-! ### tell_code: function 123 -/
def tell_code.f (a0 : Int) : Option (Bool) := if a0 = 1 then (some true) else (some (a0 == 2))
set_option maxHeartbeats 8000000 in
set_option maxRecDepth 100000 in
theorem tell_code.calls (a0 : Int) (r : Bool) (w : World) (h : tell_code.f a0 = some r) :
    Calls Try.prog 123 #[.int .i64 a0] w fun e w' => e = .returned (.bool r) ∧ Drawn0 w w' := by
  have H : (if a0 = 1 then (some true) else (some (a0 == 2))) = some r := h
  clear h
  by_cases c2 : a0 = 1
  · rw [if_pos c2] at H
    have c2b0 : (a0 == 1) = true := beq_iff_eq.mpr c2
    have c2b1 : (a0 != 1) = false := bne_eq_false_iff_eq.mpr c2
    clear c2
    obtain rfl := Option.some.inj H
    go_enter Try.func123, Try.ntmps123
    go_wp2
    go_ret
    exact ⟨by first | rfl | (simp; done) | (simp [*]; done), by repeat (first | exact Drawn0.refl _ | apply Drawn0.step)⟩
  · rw [if_neg c2] at H
    have c2b0 : (a0 == 1) = false := beq_eq_false_iff_ne.mpr c2
    have c2b1 : (a0 != 1) = true := bne_iff_ne.mpr c2
    obtain rfl := Option.some.inj H
    go_enter Try.func123, Try.ntmps123
    go_wp2
    go_ret
    exact ⟨by first | rfl | (simp; done) | (simp [*]; done), by repeat (first | exact Drawn0.refl _ | apply Drawn0.step)⟩

/-! ### api_Status_135: function 135 -/
def api_Status_135.l0 : Nat → List (S154) → List (S154) → Int → Int → Option (Bool)
  | 0, _, _, _, _ => none
  | k + 1, x0, x1, x12, x13 => if x13 < x12 then (if 0 ≤ x13 then (if x13 < (x0.length : Int) then (if x13 < (x1.length : Int) then (if (!(((rd_T154 x0 x13).f0) == ((rd_T154 x1 x13).f0)) || (!(((rd_T154 x0 x13).f1) == ((rd_T154 x1 x13).f1)) || (!(((rd_T154 x0 x13).f2) == ((rd_T154 x1 x13).f2)) || (!(((rd_T154 x0 x13).f3) == ((rd_T154 x1 x13).f3)) || (!(((rd_T154 x0 x13).f4) == ((rd_T154 x1 x13).f4))))))) = true then (some false) else (api_Status_135.l0 k x0 x1 x12 (wrap64 (x13 + 1)))) else (none)) else (none)) else (none)) else (some true)
def api_Status_135.f (k : Nat) (l0 : List (S154)) (l1 : List (S154)) : Option (Bool) := if (l0.length : Int) = (l1.length : Int) then (api_Status_135.l0 k l0 l1 (l0.length : Int) 0) else (some false)
theorem api_Status_135.mono_l : ∀ k, (∀ y0 y1 y2 y3, LeO (api_Status_135.l0 k y0 y1 y2 y3) (api_Status_135.l0 (k + 1) y0 y1 y2 y3))
  | 0 => fun _ _ _ _ r h => by simp [api_Status_135.l0] at h
  | k + 1 => by
    have ih0 := api_Status_135.mono_l k
    · intro y0 y1 y2 y3
      unfold api_Status_135.l0
      repeat' first
      | (with_reducible exact ih0 _ _ _ _)
      | (with_reducible exact LeO.refl _)
      | (with_reducible exact LeO.none _)
      | (with_reducible refine LeO.ite ?_ ?_)
      | (with_reducible refine LeO.bind ?_ (fun _ => ?_))
      | exact ih0 _ _ _ _
      | exact LeO.none _
      | refine LeO.ite ?_ ?_
      | refine LeO.bind ?_ (fun _ => ?_)
theorem api_Status_135.mono : ∀ a0 a1 k, LeO (api_Status_135.f k a0 a1) (api_Status_135.f (k + 1) a0 a1) := by
  intro a0 a1 k
  have ih0 := api_Status_135.mono_l k
  unfold api_Status_135.f
  repeat' first
      | (with_reducible exact ih0 _ _ _ _)
      | (with_reducible exact LeO.refl _)
      | (with_reducible exact LeO.none _)
      | (with_reducible refine LeO.ite ?_ ?_)
      | (with_reducible refine LeO.bind ?_ (fun _ => ?_))
      | exact ih0 _ _ _ _
      | exact LeO.none _
      | refine LeO.ite ?_ ?_
      | refine LeO.bind ?_ (fun _ => ?_)
set_option maxHeartbeats 8000000 in
set_option maxRecDepth 100000 in
theorem api_Status_135.calls (k : Nat) (A0 : Option Addr) (c0 : Nat) (l0 : List (S154)) (A1 : Option Addr) (c1 : Nat) (l1 : List (S154)) (r : Bool) (w : World) (hr0 : Kd.C k154 w A0 l0.length l0) (hc0 : l0.length ≤ c0) (hr1 : Kd.C k154 w A1 l1.length l1) (hc1 : l1.length ≤ c1) (h : api_Status_135.f k l0 l1 = some r) :
    Calls Try.prog 135 #[.slice A0 l0.length c0, .slice A1 l1.length c1] w fun e w' => e = .returned (.bool r) ∧ Drawn0 w w' := by
  have hu154 := Try.underlying154
  have HR0 := Aside0.mk hr0
  have HC0 := Aside0.mk hc0
  clear hr0 hc0
  have HR1 := Aside0.mk hr1
  have HC1 := Aside0.mk hc1
  clear hr1 hc1
  have H : (if (l0.length : Int) = (l1.length : Int) then (api_Status_135.l0 k l0 l1 (l0.length : Int) 0) else (some false)) = some r := h
  clear h
  by_cases c3 : (l0.length : Int) = (l1.length : Int)
  · rw [if_pos c3] at H
    have c3b0 : ((l0.length : Int) == (l1.length : Int)) = true := beq_iff_eq.mpr c3
    have c3b1 : ((l0.length : Int) != (l1.length : Int)) = false := bne_eq_false_iff_eq.mpr c3
    have c3b2 : (l0.length == l1.length) = true := by first | simpa using c3 | (simp at c3 ⊢; omega)
    clear c3
    have H' := Aside0.mk H
    clear H
    go_enter Try.func135, Try.ntmps135
    go_wp2
    repeat (go_quiet (fail); try go_wp2)
    go_loopg [13] k (fun kq v13 w' => ∃ (x13_1 : Int), v13 = .int .i64 x13_1 ∧ Aside0 (api_Status_135.l0 kq l0 l1 (l0.length : Int) x13_1 = some r) ∧ Aside0 (kq ≤ k) ∧ Drawn0 w w')
    case atStart => exact ⟨(0), (by first | rfl | (simp; done) | (simp [*]; done)), H', ⟨Nat.le_refl _⟩, by repeat (first | exact Drawn0.refl _ | apply Drawn0.step)⟩
    case round =>
      clear H'
      try clear c1
      try clear p2
      try clear c3
      try clear c3b0
      try clear c3b1
      try clear c3b2
      obtain ⟨x13_1, rfl, HA, HK1, ⟨m1, rfl⟩⟩ := hrel
      cases gk with
      | zero => exact absurd HA.out (by simp [api_Status_135.l0])
      | succ k1 =>
        have H := HA.out
        clear HA
        simp only [api_Status_135.l0] at H
        by_cases c4 : x13_1 < (l0.length : Int)
        · rw [if_pos c4] at H
          have c4b0 : decide (x13_1 < (l0.length : Int)) = true := decide_eq_true c4
          clear c4
          by_cases c5 : 0 ≤ x13_1
          · rw [if_pos c5] at H
            have c5b0 : decide (0 ≤ x13_1) = true := decide_eq_true c5
            clear c5
            by_cases c6 : x13_1 < (l0.length : Int)
            · rw [if_pos c6] at H
              have c6b0 : decide (x13_1 < (l0.length : Int)) = true := decide_eq_true c6
              clear c6
              by_cases c7 : x13_1 < (l1.length : Int)
              · rw [if_pos c7] at H
                have c7b0 : decide (x13_1 < (l1.length : Int)) = true := decide_eq_true c7
                clear c7
                by_cases c8 : (!(((rd_T154 l0 x13_1).f0) == ((rd_T154 l1 x13_1).f0)) || (!(((rd_T154 l0 x13_1).f1) == ((rd_T154 l1 x13_1).f1)) || (!(((rd_T154 l0 x13_1).f2) == ((rd_T154 l1 x13_1).f2)) || (!(((rd_T154 l0 x13_1).f3) == ((rd_T154 l1 x13_1).f3)) || (!(((rd_T154 l0 x13_1).f4) == ((rd_T154 l1 x13_1).f4))))))) = true
                · rw [if_pos c8] at H
                  have c8b0 : (!(((rd_T154 l0 x13_1).f0) == ((rd_T154 l1 x13_1).f0)) || (!(((rd_T154 l0 x13_1).f1) == ((rd_T154 l1 x13_1).f1)) || (!(((rd_T154 l0 x13_1).f2) == ((rd_T154 l1 x13_1).f2)) || (!(((rd_T154 l0 x13_1).f3) == ((rd_T154 l1 x13_1).f3)) || (!(((rd_T154 l0 x13_1).f4) == ((rd_T154 l1 x13_1).f4))))))) = true := c8
                  clear c8
                  obtain rfl := Option.some.inj H
                  have p612 : 0 ≤ (x13_1 : Int) := of_decide_eq_true (by first | (with_reducible assumption) | assumption)
                  have q612 : x13_1 < (l0.length : Int) := of_decide_eq_true (by first | (with_reducible assumption) | assumption)
                  obtain ⟨ad612, e612, hx612_0, hx612_1, hx612_2, hx612_3, hx612_4⟩ := at_T154 HR0.out x13_1 p612 q612
                  cases e612
                  replace p612 := eq_true p612
                  replace q612 := eq_true q612
                  have p613 : 0 ≤ (x13_1 : Int) := of_decide_eq_true (by first | (with_reducible assumption) | assumption)
                  have q613 : x13_1 < (l1.length : Int) := of_decide_eq_true (by first | (with_reducible assumption) | assumption)
                  obtain ⟨ad613, e613, hx613_0, hx613_1, hx613_2, hx613_3, hx613_4⟩ := at_T154 HR1.out x13_1 p613 q613
                  cases e613
                  replace p613 := eq_true p613
                  replace q613 := eq_true q613
                  go_wp2
                  repeat (go_quiet (fail); try go_wp2)
                  go_ret
                  exact ⟨by first | rfl | (simp; done) | (simp [*]; done), by repeat (first | exact Drawn0.refl _ | apply Drawn0.step)⟩
                · rw [if_neg c8] at H
                  have c8b0 : (!(((rd_T154 l0 x13_1).f0) == ((rd_T154 l1 x13_1).f0)) || (!(((rd_T154 l0 x13_1).f1) == ((rd_T154 l1 x13_1).f1)) || (!(((rd_T154 l0 x13_1).f2) == ((rd_T154 l1 x13_1).f2)) || (!(((rd_T154 l0 x13_1).f3) == ((rd_T154 l1 x13_1).f3)) || (!(((rd_T154 l0 x13_1).f4) == ((rd_T154 l1 x13_1).f4))))))) = false := by simpa using c8
                  clear c8
                  have H' := Aside0.mk H
                  clear H
                  have p612 : 0 ≤ (x13_1 : Int) := of_decide_eq_true (by first | (with_reducible assumption) | assumption)
                  have q612 : x13_1 < (l0.length : Int) := of_decide_eq_true (by first | (with_reducible assumption) | assumption)
                  obtain ⟨ad612, e612, hx612_0, hx612_1, hx612_2, hx612_3, hx612_4⟩ := at_T154 HR0.out x13_1 p612 q612
                  cases e612
                  replace p612 := eq_true p612
                  replace q612 := eq_true q612
                  have p613 : 0 ≤ (x13_1 : Int) := of_decide_eq_true (by first | (with_reducible assumption) | assumption)
                  have q613 : x13_1 < (l1.length : Int) := of_decide_eq_true (by first | (with_reducible assumption) | assumption)
                  obtain ⟨ad613, e613, hx613_0, hx613_1, hx613_2, hx613_3, hx613_4⟩ := at_T154 HR1.out x13_1 p613 q613
                  cases e613
                  replace p613 := eq_true p613
                  replace q613 := eq_true q613
                  go_wp2
                  repeat (go_quiet (fail); try go_wp2)
                  go_roundg k1
                  case measure => have := HK1.out; omega
                  case rel => exact ⟨(wrap64 (x13_1 + 1)), (by first | rfl | (simp; done) | (simp [*]; done)), H', ⟨by have := HK1.out; omega⟩, by repeat (first | exact Drawn0.refl _ | apply Drawn0.step)⟩
              · rw [if_neg c7] at H
                exact absurd H (by simp)
            · rw [if_neg c6] at H
              exact absurd H (by simp)
          · rw [if_neg c5] at H
            exact absurd H (by simp)
        · rw [if_neg c4] at H
          have c4b0 : decide (x13_1 < (l0.length : Int)) = false := decide_eq_false c4
          clear c4
          obtain rfl := Option.some.inj H
          go_wp2
          repeat (go_quiet (fail); try go_wp2)
          go_ret
          exact ⟨by first | rfl | (simp; done) | (simp [*]; done), by repeat (first | exact Drawn0.refl _ | apply Drawn0.step)⟩
  · rw [if_neg c3] at H
    have c3b0 : ((l0.length : Int) == (l1.length : Int)) = false := beq_eq_false_iff_ne.mpr c3
    have c3b1 : ((l0.length : Int) != (l1.length : Int)) = true := bne_iff_ne.mpr c3
    have c3b2 : (l0.length == l1.length) = false := by first | simpa using c3 | (simp at c3 ⊢; omega)
    obtain rfl := Option.some.inj H
    go_enter Try.func135, Try.ntmps135
    go_wp2
    repeat (go_quiet (fail); try go_wp2)
    go_ret
    exact ⟨by first | rfl | (simp; done) | (simp [*]; done), by repeat (first | exact Drawn0.refl _ | apply Drawn0.step)⟩

/-! ### api_Head_136: function 136 -/
def api_Head_136.l0 : Nat → List (S152) → List (S152) → Int → Int → Option (Bool)
  | 0, _, _, _, _ => none
  | k + 1, x0, x1, x12, x13 => if x13 < x12 then (if 0 ≤ x13 then (if x13 < (x0.length : Int) then (if x13 < (x1.length : Int) then (if (!((((rd_T152 x0 x13).f0).toList) == (((rd_T152 x1 x13).f0).toList)) || (!((((rd_T152 x0 x13).f1).toList) == (((rd_T152 x1 x13).f1).toList)))) = true then (some false) else (api_Head_136.l0 k x0 x1 x12 (wrap64 (x13 + 1)))) else (none)) else (none)) else (none)) else (some true)
def api_Head_136.f (k : Nat) (l0 : List (S152)) (l1 : List (S152)) : Option (Bool) := if (l0.length : Int) = (l1.length : Int) then (api_Head_136.l0 k l0 l1 (l0.length : Int) 0) else (some false)
theorem api_Head_136.mono_l : ∀ k, (∀ y0 y1 y2 y3, LeO (api_Head_136.l0 k y0 y1 y2 y3) (api_Head_136.l0 (k + 1) y0 y1 y2 y3))
  | 0 => fun _ _ _ _ r h => by simp [api_Head_136.l0] at h
  | k + 1 => by
    have ih0 := api_Head_136.mono_l k
    · intro y0 y1 y2 y3
      unfold api_Head_136.l0
      repeat' first
      | (with_reducible exact ih0 _ _ _ _)
      | (with_reducible exact LeO.refl _)
      | (with_reducible exact LeO.none _)
      | (with_reducible refine LeO.ite ?_ ?_)
      | (with_reducible refine LeO.bind ?_ (fun _ => ?_))
      | exact ih0 _ _ _ _
      | exact LeO.none _
      | refine LeO.ite ?_ ?_
      | refine LeO.bind ?_ (fun _ => ?_)
theorem api_Head_136.mono : ∀ a0 a1 k, LeO (api_Head_136.f k a0 a1) (api_Head_136.f (k + 1) a0 a1) := by
  intro a0 a1 k
  have ih0 := api_Head_136.mono_l k
  unfold api_Head_136.f
  repeat' first
      | (with_reducible exact ih0 _ _ _ _)
      | (with_reducible exact LeO.refl _)
      | (with_reducible exact LeO.none _)
      | (with_reducible refine LeO.ite ?_ ?_)
      | (with_reducible refine LeO.bind ?_ (fun _ => ?_))
      | exact ih0 _ _ _ _
      | exact LeO.none _
      | refine LeO.ite ?_ ?_
      | refine LeO.bind ?_ (fun _ => ?_)
set_option maxHeartbeats 8000000 in
set_option maxRecDepth 100000 in
theorem api_Head_136.calls (k : Nat) (A0 : Option Addr) (c0 : Nat) (l0 : List (S152)) (A1 : Option Addr) (c1 : Nat) (l1 : List (S152)) (r : Bool) (w : World) (hr0 : Kd.C k152 w A0 l0.length l0) (hc0 : l0.length ≤ c0) (hr1 : Kd.C k152 w A1 l1.length l1) (hc1 : l1.length ≤ c1) (h : api_Head_136.f k l0 l1 = some r) :
    Calls Try.prog 136 #[.slice A0 l0.length c0, .slice A1 l1.length c1] w fun e w' => e = .returned (.bool r) ∧ Drawn0 w w' := by
  have hu152 := Try.underlying152
  have HR0 := Aside0.mk hr0
  have HC0 := Aside0.mk hc0
  clear hr0 hc0
  have HR1 := Aside0.mk hr1
  have HC1 := Aside0.mk hc1
  clear hr1 hc1
  have H : (if (l0.length : Int) = (l1.length : Int) then (api_Head_136.l0 k l0 l1 (l0.length : Int) 0) else (some false)) = some r := h
  clear h
  by_cases c3 : (l0.length : Int) = (l1.length : Int)
  · rw [if_pos c3] at H
    have c3b0 : ((l0.length : Int) == (l1.length : Int)) = true := beq_iff_eq.mpr c3
    have c3b1 : ((l0.length : Int) != (l1.length : Int)) = false := bne_eq_false_iff_eq.mpr c3
    have c3b2 : (l0.length == l1.length) = true := by first | simpa using c3 | (simp at c3 ⊢; omega)
    clear c3
    have H' := Aside0.mk H
    clear H
    go_enter Try.func136, Try.ntmps136
    go_wp2
    repeat (go_quiet (fail); try go_wp2)
    go_loopg [13] k (fun kq v13 w' => ∃ (x13_1 : Int), v13 = .int .i64 x13_1 ∧ Aside0 (api_Head_136.l0 kq l0 l1 (l0.length : Int) x13_1 = some r) ∧ Aside0 (kq ≤ k) ∧ Drawn0 w w')
    case atStart => exact ⟨(0), (by first | rfl | (simp; done) | (simp [*]; done)), H', ⟨Nat.le_refl _⟩, by repeat (first | exact Drawn0.refl _ | apply Drawn0.step)⟩
    case round =>
      clear H'
      try clear c1
      try clear p2
      try clear c3
      try clear c3b0
      try clear c3b1
      try clear c3b2
      obtain ⟨x13_1, rfl, HA, HK1, ⟨m1, rfl⟩⟩ := hrel
      cases gk with
      | zero => exact absurd HA.out (by simp [api_Head_136.l0])
      | succ k1 =>
        have H := HA.out
        clear HA
        simp only [api_Head_136.l0] at H
        by_cases c4 : x13_1 < (l0.length : Int)
        · rw [if_pos c4] at H
          have c4b0 : decide (x13_1 < (l0.length : Int)) = true := decide_eq_true c4
          clear c4
          by_cases c5 : 0 ≤ x13_1
          · rw [if_pos c5] at H
            have c5b0 : decide (0 ≤ x13_1) = true := decide_eq_true c5
            clear c5
            by_cases c6 : x13_1 < (l0.length : Int)
            · rw [if_pos c6] at H
              have c6b0 : decide (x13_1 < (l0.length : Int)) = true := decide_eq_true c6
              clear c6
              by_cases c7 : x13_1 < (l1.length : Int)
              · rw [if_pos c7] at H
                have c7b0 : decide (x13_1 < (l1.length : Int)) = true := decide_eq_true c7
                clear c7
                by_cases c8 : (!((((rd_T152 l0 x13_1).f0).toList) == (((rd_T152 l1 x13_1).f0).toList)) || (!((((rd_T152 l0 x13_1).f1).toList) == (((rd_T152 l1 x13_1).f1).toList)))) = true
                · rw [if_pos c8] at H
                  have c8b0 : (!((((rd_T152 l0 x13_1).f0).toList) == (((rd_T152 l1 x13_1).f0).toList)) || (!((((rd_T152 l0 x13_1).f1).toList) == (((rd_T152 l1 x13_1).f1).toList)))) = true := c8
                  clear c8
                  obtain rfl := Option.some.inj H
                  have p614 : 0 ≤ (x13_1 : Int) := of_decide_eq_true (by first | (with_reducible assumption) | assumption)
                  have q614 : x13_1 < (l0.length : Int) := of_decide_eq_true (by first | (with_reducible assumption) | assumption)
                  obtain ⟨ad614, e614, hx614_0, hx614_1⟩ := at_T152 HR0.out x13_1 p614 q614
                  cases e614
                  replace p614 := eq_true p614
                  replace q614 := eq_true q614
                  have p615 : 0 ≤ (x13_1 : Int) := of_decide_eq_true (by first | (with_reducible assumption) | assumption)
                  have q615 : x13_1 < (l1.length : Int) := of_decide_eq_true (by first | (with_reducible assumption) | assumption)
                  obtain ⟨ad615, e615, hx615_0, hx615_1⟩ := at_T152 HR1.out x13_1 p615 q615
                  cases e615
                  replace p615 := eq_true p615
                  replace q615 := eq_true q615
                  go_wp2
                  repeat (go_quiet (fail); try go_wp2)
                  go_ret
                  exact ⟨by first | rfl | (simp; done) | (simp [*]; done), by repeat (first | exact Drawn0.refl _ | apply Drawn0.step)⟩
                · rw [if_neg c8] at H
                  have c8b0 : (!((((rd_T152 l0 x13_1).f0).toList) == (((rd_T152 l1 x13_1).f0).toList)) || (!((((rd_T152 l0 x13_1).f1).toList) == (((rd_T152 l1 x13_1).f1).toList)))) = false := by simpa using c8
                  clear c8
                  have H' := Aside0.mk H
                  clear H
                  have p614 : 0 ≤ (x13_1 : Int) := of_decide_eq_true (by first | (with_reducible assumption) | assumption)
                  have q614 : x13_1 < (l0.length : Int) := of_decide_eq_true (by first | (with_reducible assumption) | assumption)
                  obtain ⟨ad614, e614, hx614_0, hx614_1⟩ := at_T152 HR0.out x13_1 p614 q614
                  cases e614
                  replace p614 := eq_true p614
                  replace q614 := eq_true q614
                  have p615 : 0 ≤ (x13_1 : Int) := of_decide_eq_true (by first | (with_reducible assumption) | assumption)
                  have q615 : x13_1 < (l1.length : Int) := of_decide_eq_true (by first | (with_reducible assumption) | assumption)
                  obtain ⟨ad615, e615, hx615_0, hx615_1⟩ := at_T152 HR1.out x13_1 p615 q615
                  cases e615
                  replace p615 := eq_true p615
                  replace q615 := eq_true q615
                  go_wp2
                  repeat (go_quiet (fail); try go_wp2)
                  go_roundg k1
                  case measure => have := HK1.out; omega
                  case rel => exact ⟨(wrap64 (x13_1 + 1)), (by first | rfl | (simp; done) | (simp [*]; done)), H', ⟨by have := HK1.out; omega⟩, by repeat (first | exact Drawn0.refl _ | apply Drawn0.step)⟩
              · rw [if_neg c7] at H
                exact absurd H (by simp)
            · rw [if_neg c6] at H
              exact absurd H (by simp)
          · rw [if_neg c5] at H
            exact absurd H (by simp)
        · rw [if_neg c4] at H
          have c4b0 : decide (x13_1 < (l0.length : Int)) = false := decide_eq_false c4
          clear c4
          obtain rfl := Option.some.inj H
          go_wp2
          repeat (go_quiet (fail); try go_wp2)
          go_ret
          exact ⟨by first | rfl | (simp; done) | (simp [*]; done), by repeat (first | exact Drawn0.refl _ | apply Drawn0.step)⟩
  · rw [if_neg c3] at H
    have c3b0 : ((l0.length : Int) == (l1.length : Int)) = false := beq_eq_false_iff_ne.mpr c3
    have c3b1 : ((l0.length : Int) != (l1.length : Int)) = true := bne_iff_ne.mpr c3
    have c3b2 : (l0.length == l1.length) = false := by first | simpa using c3 | (simp at c3 ⊢; omega)
    obtain rfl := Option.some.inj H
    go_enter Try.func136, Try.ntmps136
    go_wp2
    repeat (go_quiet (fail); try go_wp2)
    go_ret
    exact ⟨by first | rfl | (simp; done) | (simp [*]; done), by repeat (first | exact Drawn0.refl _ | apply Drawn0.step)⟩

/-! ### tell_Same: function 95 -/
def tell_Same.f (k : Nat) (a0_0 : Int) (a0_1 : Int) (a0_2 : Bool) (l0_3 : List (S154)) (l0_4 : List (S152)) (a1_0 : Int) (a1_1 : Int) (a1_2 : Bool) (l1_3 : List (S154)) (l1_4 : List (S152)) : Option (Bool) := if a0_0 = a1_0 then (if a0_1 = a1_1 then (if (a0_2 == a1_2) = true then ((api_Status_135.f k l0_3 l1_3).bind fun t618 => (if t618 = true then ((api_Head_136.f k l0_4 l1_4).bind fun t619 => (some t619)) else (some false))) else (some false)) else (some false)) else (some false)
theorem tell_Same.mono : ∀ a0 a1 a2 a3 a4 a5 a6 a7 a8 a9 k, LeO (tell_Same.f k a0 a1 a2 a3 a4 a5 a6 a7 a8 a9) (tell_Same.f (k + 1) a0 a1 a2 a3 a4 a5 a6 a7 a8 a9) := by
  intro a0 a1 a2 a3 a4 a5 a6 a7 a8 a9 k
  unfold tell_Same.f
  repeat' first
      | (with_reducible exact api_Head_136.mono _ _ _)
      | (with_reducible exact api_Status_135.mono _ _ _)
      | (with_reducible exact LeO.refl _)
      | (with_reducible exact LeO.none _)
      | (with_reducible refine LeO.ite ?_ ?_)
      | (with_reducible refine LeO.bind ?_ (fun _ => ?_))
      | exact api_Head_136.mono _ _ _
      | exact api_Status_135.mono _ _ _
      | exact LeO.none _
      | refine LeO.ite ?_ ?_
      | refine LeO.bind ?_ (fun _ => ?_)
set_option maxHeartbeats 8000000 in
set_option maxRecDepth 100000 in
theorem tell_Same.calls (k : Nat) (a0_0 : Int) (a0_1 : Int) (a0_2 : Bool) (A0_3 : Option Addr) (c0_3 : Nat) (l0_3 : List (S154)) (A0_4 : Option Addr) (c0_4 : Nat) (l0_4 : List (S152)) (a1_0 : Int) (a1_1 : Int) (a1_2 : Bool) (A1_3 : Option Addr) (c1_3 : Nat) (l1_3 : List (S154)) (A1_4 : Option Addr) (c1_4 : Nat) (l1_4 : List (S152)) (r : Bool) (w : World) (hr0_3 : Kd.C k154 w A0_3 l0_3.length l0_3) (hc0_3 : l0_3.length ≤ c0_3) (hr0_4 : Kd.C k152 w A0_4 l0_4.length l0_4) (hc0_4 : l0_4.length ≤ c0_4) (hr1_3 : Kd.C k154 w A1_3 l1_3.length l1_3) (hc1_3 : l1_3.length ≤ c1_3) (hr1_4 : Kd.C k152 w A1_4 l1_4.length l1_4) (hc1_4 : l1_4.length ≤ c1_4) (h : tell_Same.f k a0_0 a0_1 a0_2 l0_3 l0_4 a1_0 a1_1 a1_2 l1_3 l1_4 = some r) :
    Calls Try.prog 95 #[.agg #[.int .i64 a0_0, .int .i64 a0_1, .bool a0_2, .slice A0_3 l0_3.length c0_3, .slice A0_4 l0_4.length c0_4], .agg #[.int .i64 a1_0, .int .i64 a1_1, .bool a1_2, .slice A1_3 l1_3.length c1_3, .slice A1_4 l1_4.length c1_4]] w fun e w' => e = .returned (.bool r) ∧ Below w.heap.size w w' := by
  have hu108 := Try.underlying108
  have HR0_3 := Aside0.mk hr0_3
  have HC0_3 := Aside0.mk hc0_3
  clear hr0_3 hc0_3
  have HR0_4 := Aside0.mk hr0_4
  have HC0_4 := Aside0.mk hc0_4
  clear hr0_4 hc0_4
  have HR1_3 := Aside0.mk hr1_3
  have HC1_3 := Aside0.mk hc1_3
  clear hr1_3 hc1_3
  have HR1_4 := Aside0.mk hr1_4
  have HC1_4 := Aside0.mk hc1_4
  clear hr1_4 hc1_4
  have HB := Aside0.mk (Below.refl w.heap.size w)
  have H : (if a0_0 = a1_0 then (if a0_1 = a1_1 then (if (a0_2 == a1_2) = true then ((api_Status_135.f k l0_3 l1_3).bind fun t618 => (if t618 = true then ((api_Head_136.f k l0_4 l1_4).bind fun t619 => (some t619)) else (some false))) else (some false)) else (some false)) else (some false)) = some r := h
  clear h
  by_cases c3 : a0_0 = a1_0
  · rw [if_pos c3] at H
    have c3b0 : (a0_0 == a1_0) = true := beq_iff_eq.mpr c3
    have c3b1 : (a0_0 != a1_0) = false := bne_eq_false_iff_eq.mpr c3
    clear c3
    by_cases c4 : a0_1 = a1_1
    · rw [if_pos c4] at H
      have c4b0 : (a0_1 == a1_1) = true := beq_iff_eq.mpr c4
      have c4b1 : (a0_1 != a1_1) = false := bne_eq_false_iff_eq.mpr c4
      clear c4
      by_cases c5 : (a0_2 == a1_2) = true
      · rw [if_pos c5] at H
        have c5b0 : (a0_2 == a1_2) = true := c5
        (try (have c5b1 : decide (a0_2 = a1_2) = true := by simpa using c5))
        (try (have c5b2 : (a0_2 == a1_2) = true := by simpa using c5))
        clear c5
        replace H := Option.bind_eq_some_iff.mp H
        obtain ⟨t618, A60, H⟩ := H
        replace H : (if t618 = true then ((api_Head_136.f k l0_4 l1_4).bind fun t619 => (some t619)) else (some false)) = some r := H
        have A6 := Aside0.mk A60
        clear A60
        by_cases c7 : t618 = true
        · subst c7
          have H1 : ((api_Head_136.f k l0_4 l1_4).bind fun t619 => (some t619)) = some r := by rw [if_pos rfl] at H; exact H
          clear H
          have H := H1
          clear H1
          replace H := Option.bind_eq_some_iff.mp H
          obtain ⟨t619, A80, H⟩ := H
          replace H : (some t619) = some r := H
          have A8 := Aside0.mk A80
          clear A80
          obtain rfl := Option.some.inj H
          go_enter Try.func95, Try.ntmps95
          go_wp2_with (first | ((with_reducible refine gate_dst (N := 2) rfl ?_); refine box_event ?hg (N := 2) ?hd (cs := #[.int .i64 a0_0, .int .i64 a0_1, .bool a0_2, .slice A0_3 l0_3.length c0_3, .slice A0_4 l0_4.length c0_4]) (t := 108) ?hr ?_; (case hd => rfl); (case hg => rfl); (case hr => first | (go_simp; done) | (go_simp; rfl)); intro gb616 hg w9 hbox hb; have n0_ := Aside0.mk (below_step (by repeat (first | (with_reducible first | exact HB.out | apply below_alloc | apply pw_below_drewN | apply below_drew1) | exact HB.out)) hb); have n1_ := Aside0.mk (hbox); have n2_ := Aside0.mk ((by rw [hg]; exact (below_size (by repeat (first | (with_reducible first | exact HB.out | apply below_alloc | apply pw_below_drewN | apply below_drew1) | exact HB.out))) : w.heap.size ≤ gb616)); have n3_ := Aside0.mk ((by rw [hg]; exact (below_size (by repeat (first | (with_reducible first | exact HB.out | apply below_alloc | apply pw_below_drewN | apply below_drew1) | exact HB.out))) : w.heap.size ≤ gb616)); clear HB; have HB := n0_; have BK616 := n1_; have GW616 := n2_; have GE616 := n3_; clear n0_ n1_ n2_ n3_; clear hb hbox hg) | ((with_reducible refine gate_dst (N := 3) rfl ?_); refine box_event ?hg (N := 3) ?hd (cs := #[.int .i64 a1_0, .int .i64 a1_1, .bool a1_2, .slice A1_3 l1_3.length c1_3, .slice A1_4 l1_4.length c1_4]) (t := 108) ?hr ?_; (case hd => rfl); (case hg => rfl); (case hr => first | (go_simp; done) | (go_simp; rfl)); intro gb617 hg w10 hbox hb; have n0_ := Aside0.mk (blk_below (g := gb616) (o := .cells #[.int .i64 a0_0, .int .i64 a0_1, .bool a0_2, .slice A0_3 l0_3.length c0_3, .slice A0_4 l0_4.length c0_4] 108 (0, 0)) (by (with_reducible repeat (first | refine blk_drewN ?_ _ | refine blk_drew ?_ | refine blk_alloc ?_ _)); exact BK616.out) hb); have n1_ := Aside0.mk (below_step (by repeat (first | (with_reducible first | exact HB.out | apply below_alloc | apply pw_below_drewN | apply below_drew1 | refine below_set ?_ GE616.out) | exact HB.out)) hb); have n2_ := Aside0.mk (hbox); have n3_ := Aside0.mk ((by rw [hg]; exact (below_size (by repeat (first | (with_reducible first | exact HB.out | apply below_alloc | apply pw_below_drewN | apply below_drew1 | refine below_set ?_ GE616.out) | exact HB.out))) : w.heap.size ≤ gb617)); have n4_ := Aside0.mk ((by rw [hg]; exact (below_size (by repeat (first | (with_reducible first | exact HB.out | apply below_alloc | apply pw_below_drewN | apply below_drew1 | refine below_set ?_ GE616.out) | exact HB.out))) : w.heap.size ≤ gb617)); have n5_ := Aside0.mk ((by rw [hg]; exact Nat.ne_of_lt (blk_lt (g := gb616) (o := .cells #[.int .i64 a0_0, .int .i64 a0_1, .bool a0_2, .slice A0_3 l0_3.length c0_3, .slice A0_4 l0_4.length c0_4] 108 (0, 0)) (by (with_reducible repeat (first | refine blk_drewN ?_ _ | refine blk_drew ?_ | refine blk_alloc ?_ _)); exact BK616.out)) : gb616 ≠ gb617)); have n6_ := Aside0.mk ((by rw [hg]; exact Nat.ne_of_gt (blk_lt (g := gb616) (o := .cells #[.int .i64 a0_0, .int .i64 a0_1, .bool a0_2, .slice A0_3 l0_3.length c0_3, .slice A0_4 l0_4.length c0_4] 108 (0, 0)) (by (with_reducible repeat (first | refine blk_drewN ?_ _ | refine blk_drew ?_ | refine blk_alloc ?_ _)); exact BK616.out)) : gb617 ≠ gb616)); clear BK616; clear HB; have BK616 := n0_; have HB := n1_; have BK617 := n2_; have GW617 := n3_; have GE617 := n4_; have NB616_617 := n5_; have NB617_616 := n6_; clear n0_ n1_ n2_ n3_ n4_ n5_ n6_; clear hb hbox hg; have hnb11 := NB616_617.out; have hnc11 := NB617_616.out; have hcz12_0 : w10.cell? ⟨gb616, 0, none⟩ = some (.int .i64 a0_0) := (blk_cell BK616.out 0).trans rfl; have hcz12_1 : w10.cell? ⟨gb616, 1, none⟩ = some (.int .i64 a0_1) := (blk_cell BK616.out 1).trans rfl; have hcz12_2 : w10.cell? ⟨gb616, 2, none⟩ = some (.bool a0_2) := (blk_cell BK616.out 2).trans rfl; have hcz12_3 : w10.cell? ⟨gb616, 3, none⟩ = some (.slice A0_3 l0_3.length c0_3) := (blk_cell BK616.out 3).trans rfl; have hcz12_4 : w10.cell? ⟨gb616, 4, none⟩ = some (.slice A0_4 l0_4.length c0_4) := (blk_cell BK616.out 4).trans rfl; have hfz12_0 := blk_frozen BK616.out 0; have hfz12_1 := blk_frozen BK616.out 1; have hfz12_2 := blk_frozen BK616.out 2; have hfz12_3 := blk_frozen BK616.out 3; have hfz12_4 := blk_frozen BK616.out 4; have hcz13_0 : w10.cell? ⟨gb617, 0, none⟩ = some (.int .i64 a1_0) := (blk_cell BK617.out 0).trans rfl; have hcz13_1 : w10.cell? ⟨gb617, 1, none⟩ = some (.int .i64 a1_1) := (blk_cell BK617.out 1).trans rfl; have hcz13_2 : w10.cell? ⟨gb617, 2, none⟩ = some (.bool a1_2) := (blk_cell BK617.out 2).trans rfl; have hcz13_3 : w10.cell? ⟨gb617, 3, none⟩ = some (.slice A1_3 l1_3.length c1_3) := (blk_cell BK617.out 3).trans rfl; have hcz13_4 : w10.cell? ⟨gb617, 4, none⟩ = some (.slice A1_4 l1_4.length c1_4) := (blk_cell BK617.out 4).trans rfl; have hfz13_0 := blk_frozen BK617.out 0; have hfz13_1 := blk_frozen BK617.out 1; have hfz13_2 := blk_frozen BK617.out 2; have hfz13_3 := blk_frozen BK617.out 3; have hfz13_4 := blk_frozen BK617.out 4) | (go_at_call 135; (with_reducible refine (api_Status_135.calls k _ _ l0_3 _ _ l1_3 true _ ?side1 ?side2 ?side3 ?side4 A6.out).mono ?_); (case side1 => repeat (first | exact (Kd.C_below HR0_3.out HB.out) | (with_reducible refine Kd.C_alloc ?_ _) | (with_reducible refine Kd.C_drewN ?_ _) | (with_reducible refine Kd.C_drew ?_))); (case side2 => exact HC0_3.out); (case side3 => repeat (first | exact (Kd.C_below HR1_3.out HB.out) | (with_reducible refine Kd.C_alloc ?_ _) | (with_reducible refine Kd.C_drewN ?_ _) | (with_reducible refine Kd.C_drew ?_))); (case side4 => exact HC1_3.out); rintro e w' ⟨rfl, ⟨nd, rfl⟩⟩) | (go_at_call 136; (with_reducible refine (api_Head_136.calls k _ _ l0_4 _ _ l1_4 t619 _ ?side1 ?side2 ?side3 ?side4 A8.out).mono ?_); (case side1 => repeat (first | exact (Kd.C_below HR0_4.out (by repeat (first | (with_reducible first | exact HB.out | apply below_alloc | apply pw_below_drewN | apply below_drew1 | refine below_set ?_ GE616.out | refine below_set ?_ GE617.out) | exact HB.out))) | (with_reducible refine Kd.C_alloc ?_ _) | (with_reducible refine Kd.C_drewN ?_ _) | (with_reducible refine Kd.C_drew ?_))); (case side2 => exact HC0_4.out); (case side3 => repeat (first | exact (Kd.C_below HR1_4.out (by repeat (first | (with_reducible first | exact HB.out | apply below_alloc | apply pw_below_drewN | apply below_drew1 | refine below_set ?_ GE616.out | refine below_set ?_ GE617.out) | exact HB.out))) | (with_reducible refine Kd.C_alloc ?_ _) | (with_reducible refine Kd.C_drewN ?_ _) | (with_reducible refine Kd.C_drew ?_))); (case side4 => exact HC1_4.out); rintro e w' ⟨rfl, ⟨nd, rfl⟩⟩))
          go_ret
          exact ⟨by first | rfl | (simp [errW_none, errW_some] <;> rfl) | (simp [*, errW_none, errW_some] <;> rfl), by repeat (first | (with_reducible first | exact HB.out | apply below_alloc | apply pw_below_drewN | apply below_drew1 | refine below_set ?_ GE616.out | refine below_set ?_ GE617.out) | exact HB.out)⟩
        · replace c7 := Bool.eq_false_iff.mpr c7
          subst c7
          have H1 : (some false) = some r := by rw [if_neg (show ¬ (false = true) by decide)] at H; exact H
          clear H
          have H := H1
          clear H1
          obtain rfl := Option.some.inj H
          go_enter Try.func95, Try.ntmps95
          go_wp2_with (first | ((with_reducible refine gate_dst (N := 2) rfl ?_); refine box_event ?hg (N := 2) ?hd (cs := #[.int .i64 a0_0, .int .i64 a0_1, .bool a0_2, .slice A0_3 l0_3.length c0_3, .slice A0_4 l0_4.length c0_4]) (t := 108) ?hr ?_; (case hd => rfl); (case hg => rfl); (case hr => first | (go_simp; done) | (go_simp; rfl)); intro gb616 hg w14 hbox hb; have n0_ := Aside0.mk (below_step (by repeat (first | (with_reducible first | exact HB.out | apply below_alloc | apply pw_below_drewN | apply below_drew1) | exact HB.out)) hb); have n1_ := Aside0.mk (hbox); have n2_ := Aside0.mk ((by rw [hg]; exact (below_size (by repeat (first | (with_reducible first | exact HB.out | apply below_alloc | apply pw_below_drewN | apply below_drew1) | exact HB.out))) : w.heap.size ≤ gb616)); have n3_ := Aside0.mk ((by rw [hg]; exact (below_size (by repeat (first | (with_reducible first | exact HB.out | apply below_alloc | apply pw_below_drewN | apply below_drew1) | exact HB.out))) : w.heap.size ≤ gb616)); clear HB; have HB := n0_; have BK616 := n1_; have GW616 := n2_; have GE616 := n3_; clear n0_ n1_ n2_ n3_; clear hb hbox hg) | ((with_reducible refine gate_dst (N := 3) rfl ?_); refine box_event ?hg (N := 3) ?hd (cs := #[.int .i64 a1_0, .int .i64 a1_1, .bool a1_2, .slice A1_3 l1_3.length c1_3, .slice A1_4 l1_4.length c1_4]) (t := 108) ?hr ?_; (case hd => rfl); (case hg => rfl); (case hr => first | (go_simp; done) | (go_simp; rfl)); intro gb617 hg w15 hbox hb; have n0_ := Aside0.mk (blk_below (g := gb616) (o := .cells #[.int .i64 a0_0, .int .i64 a0_1, .bool a0_2, .slice A0_3 l0_3.length c0_3, .slice A0_4 l0_4.length c0_4] 108 (0, 0)) (by (with_reducible repeat (first | refine blk_drewN ?_ _ | refine blk_drew ?_ | refine blk_alloc ?_ _)); exact BK616.out) hb); have n1_ := Aside0.mk (below_step (by repeat (first | (with_reducible first | exact HB.out | apply below_alloc | apply pw_below_drewN | apply below_drew1 | refine below_set ?_ GE616.out) | exact HB.out)) hb); have n2_ := Aside0.mk (hbox); have n3_ := Aside0.mk ((by rw [hg]; exact (below_size (by repeat (first | (with_reducible first | exact HB.out | apply below_alloc | apply pw_below_drewN | apply below_drew1 | refine below_set ?_ GE616.out) | exact HB.out))) : w.heap.size ≤ gb617)); have n4_ := Aside0.mk ((by rw [hg]; exact (below_size (by repeat (first | (with_reducible first | exact HB.out | apply below_alloc | apply pw_below_drewN | apply below_drew1 | refine below_set ?_ GE616.out) | exact HB.out))) : w.heap.size ≤ gb617)); have n5_ := Aside0.mk ((by rw [hg]; exact Nat.ne_of_lt (blk_lt (g := gb616) (o := .cells #[.int .i64 a0_0, .int .i64 a0_1, .bool a0_2, .slice A0_3 l0_3.length c0_3, .slice A0_4 l0_4.length c0_4] 108 (0, 0)) (by (with_reducible repeat (first | refine blk_drewN ?_ _ | refine blk_drew ?_ | refine blk_alloc ?_ _)); exact BK616.out)) : gb616 ≠ gb617)); have n6_ := Aside0.mk ((by rw [hg]; exact Nat.ne_of_gt (blk_lt (g := gb616) (o := .cells #[.int .i64 a0_0, .int .i64 a0_1, .bool a0_2, .slice A0_3 l0_3.length c0_3, .slice A0_4 l0_4.length c0_4] 108 (0, 0)) (by (with_reducible repeat (first | refine blk_drewN ?_ _ | refine blk_drew ?_ | refine blk_alloc ?_ _)); exact BK616.out)) : gb617 ≠ gb616)); clear BK616; clear HB; have BK616 := n0_; have HB := n1_; have BK617 := n2_; have GW617 := n3_; have GE617 := n4_; have NB616_617 := n5_; have NB617_616 := n6_; clear n0_ n1_ n2_ n3_ n4_ n5_ n6_; clear hb hbox hg; have hnb16 := NB616_617.out; have hnc16 := NB617_616.out; have hcz17_0 : w15.cell? ⟨gb616, 0, none⟩ = some (.int .i64 a0_0) := (blk_cell BK616.out 0).trans rfl; have hcz17_1 : w15.cell? ⟨gb616, 1, none⟩ = some (.int .i64 a0_1) := (blk_cell BK616.out 1).trans rfl; have hcz17_2 : w15.cell? ⟨gb616, 2, none⟩ = some (.bool a0_2) := (blk_cell BK616.out 2).trans rfl; have hcz17_3 : w15.cell? ⟨gb616, 3, none⟩ = some (.slice A0_3 l0_3.length c0_3) := (blk_cell BK616.out 3).trans rfl; have hcz17_4 : w15.cell? ⟨gb616, 4, none⟩ = some (.slice A0_4 l0_4.length c0_4) := (blk_cell BK616.out 4).trans rfl; have hfz17_0 := blk_frozen BK616.out 0; have hfz17_1 := blk_frozen BK616.out 1; have hfz17_2 := blk_frozen BK616.out 2; have hfz17_3 := blk_frozen BK616.out 3; have hfz17_4 := blk_frozen BK616.out 4; have hcz18_0 : w15.cell? ⟨gb617, 0, none⟩ = some (.int .i64 a1_0) := (blk_cell BK617.out 0).trans rfl; have hcz18_1 : w15.cell? ⟨gb617, 1, none⟩ = some (.int .i64 a1_1) := (blk_cell BK617.out 1).trans rfl; have hcz18_2 : w15.cell? ⟨gb617, 2, none⟩ = some (.bool a1_2) := (blk_cell BK617.out 2).trans rfl; have hcz18_3 : w15.cell? ⟨gb617, 3, none⟩ = some (.slice A1_3 l1_3.length c1_3) := (blk_cell BK617.out 3).trans rfl; have hcz18_4 : w15.cell? ⟨gb617, 4, none⟩ = some (.slice A1_4 l1_4.length c1_4) := (blk_cell BK617.out 4).trans rfl; have hfz18_0 := blk_frozen BK617.out 0; have hfz18_1 := blk_frozen BK617.out 1; have hfz18_2 := blk_frozen BK617.out 2; have hfz18_3 := blk_frozen BK617.out 3; have hfz18_4 := blk_frozen BK617.out 4) | (go_at_call 135; (with_reducible refine (api_Status_135.calls k _ _ l0_3 _ _ l1_3 false _ ?side1 ?side2 ?side3 ?side4 A6.out).mono ?_); (case side1 => repeat (first | exact (Kd.C_below HR0_3.out HB.out) | (with_reducible refine Kd.C_alloc ?_ _) | (with_reducible refine Kd.C_drewN ?_ _) | (with_reducible refine Kd.C_drew ?_))); (case side2 => exact HC0_3.out); (case side3 => repeat (first | exact (Kd.C_below HR1_3.out HB.out) | (with_reducible refine Kd.C_alloc ?_ _) | (with_reducible refine Kd.C_drewN ?_ _) | (with_reducible refine Kd.C_drew ?_))); (case side4 => exact HC1_3.out); rintro e w' ⟨rfl, ⟨nd, rfl⟩⟩))
          go_ret
          exact ⟨by first | rfl | (simp [errW_none, errW_some] <;> rfl) | (simp [*, errW_none, errW_some] <;> rfl), by repeat (first | (with_reducible first | exact HB.out | apply below_alloc | apply pw_below_drewN | apply below_drew1 | refine below_set ?_ GE616.out | refine below_set ?_ GE617.out) | exact HB.out)⟩
      · rw [if_neg c5] at H
        have c5b0 : (a0_2 == a1_2) = false := by simpa using c5
        (try (have c5b1 : decide (a0_2 = a1_2) = false := by simpa using c5))
        (try (have c5b2 : (a0_2 == a1_2) = false := by simpa using c5))
        (try (have c5b3 : ¬ (a0_2 = a1_2) := by simpa using c5))
        clear c5
        obtain rfl := Option.some.inj H
        go_enter Try.func95, Try.ntmps95
        go_wp2_with (first | ((with_reducible refine gate_dst (N := 2) rfl ?_); refine box_event ?hg (N := 2) ?hd (cs := #[.int .i64 a0_0, .int .i64 a0_1, .bool a0_2, .slice A0_3 l0_3.length c0_3, .slice A0_4 l0_4.length c0_4]) (t := 108) ?hr ?_; (case hd => rfl); (case hg => rfl); (case hr => first | (go_simp; done) | (go_simp; rfl)); intro gb616 hg w19 hbox hb; have n0_ := Aside0.mk (below_step (by repeat (first | (with_reducible first | exact HB.out | apply below_alloc | apply pw_below_drewN | apply below_drew1) | exact HB.out)) hb); have n1_ := Aside0.mk (hbox); have n2_ := Aside0.mk ((by rw [hg]; exact (below_size (by repeat (first | (with_reducible first | exact HB.out | apply below_alloc | apply pw_below_drewN | apply below_drew1) | exact HB.out))) : w.heap.size ≤ gb616)); have n3_ := Aside0.mk ((by rw [hg]; exact (below_size (by repeat (first | (with_reducible first | exact HB.out | apply below_alloc | apply pw_below_drewN | apply below_drew1) | exact HB.out))) : w.heap.size ≤ gb616)); clear HB; have HB := n0_; have BK616 := n1_; have GW616 := n2_; have GE616 := n3_; clear n0_ n1_ n2_ n3_; clear hb hbox hg) | ((with_reducible refine gate_dst (N := 3) rfl ?_); refine box_event ?hg (N := 3) ?hd (cs := #[.int .i64 a1_0, .int .i64 a1_1, .bool a1_2, .slice A1_3 l1_3.length c1_3, .slice A1_4 l1_4.length c1_4]) (t := 108) ?hr ?_; (case hd => rfl); (case hg => rfl); (case hr => first | (go_simp; done) | (go_simp; rfl)); intro gb617 hg w20 hbox hb; have n0_ := Aside0.mk (blk_below (g := gb616) (o := .cells #[.int .i64 a0_0, .int .i64 a0_1, .bool a0_2, .slice A0_3 l0_3.length c0_3, .slice A0_4 l0_4.length c0_4] 108 (0, 0)) (by (with_reducible repeat (first | refine blk_drewN ?_ _ | refine blk_drew ?_ | refine blk_alloc ?_ _)); exact BK616.out) hb); have n1_ := Aside0.mk (below_step (by repeat (first | (with_reducible first | exact HB.out | apply below_alloc | apply pw_below_drewN | apply below_drew1 | refine below_set ?_ GE616.out) | exact HB.out)) hb); have n2_ := Aside0.mk (hbox); have n3_ := Aside0.mk ((by rw [hg]; exact (below_size (by repeat (first | (with_reducible first | exact HB.out | apply below_alloc | apply pw_below_drewN | apply below_drew1 | refine below_set ?_ GE616.out) | exact HB.out))) : w.heap.size ≤ gb617)); have n4_ := Aside0.mk ((by rw [hg]; exact (below_size (by repeat (first | (with_reducible first | exact HB.out | apply below_alloc | apply pw_below_drewN | apply below_drew1 | refine below_set ?_ GE616.out) | exact HB.out))) : w.heap.size ≤ gb617)); have n5_ := Aside0.mk ((by rw [hg]; exact Nat.ne_of_lt (blk_lt (g := gb616) (o := .cells #[.int .i64 a0_0, .int .i64 a0_1, .bool a0_2, .slice A0_3 l0_3.length c0_3, .slice A0_4 l0_4.length c0_4] 108 (0, 0)) (by (with_reducible repeat (first | refine blk_drewN ?_ _ | refine blk_drew ?_ | refine blk_alloc ?_ _)); exact BK616.out)) : gb616 ≠ gb617)); have n6_ := Aside0.mk ((by rw [hg]; exact Nat.ne_of_gt (blk_lt (g := gb616) (o := .cells #[.int .i64 a0_0, .int .i64 a0_1, .bool a0_2, .slice A0_3 l0_3.length c0_3, .slice A0_4 l0_4.length c0_4] 108 (0, 0)) (by (with_reducible repeat (first | refine blk_drewN ?_ _ | refine blk_drew ?_ | refine blk_alloc ?_ _)); exact BK616.out)) : gb617 ≠ gb616)); clear BK616; clear HB; have BK616 := n0_; have HB := n1_; have BK617 := n2_; have GW617 := n3_; have GE617 := n4_; have NB616_617 := n5_; have NB617_616 := n6_; clear n0_ n1_ n2_ n3_ n4_ n5_ n6_; clear hb hbox hg; have hnb21 := NB616_617.out; have hnc21 := NB617_616.out; have hcz22_0 : w20.cell? ⟨gb616, 0, none⟩ = some (.int .i64 a0_0) := (blk_cell BK616.out 0).trans rfl; have hcz22_1 : w20.cell? ⟨gb616, 1, none⟩ = some (.int .i64 a0_1) := (blk_cell BK616.out 1).trans rfl; have hcz22_2 : w20.cell? ⟨gb616, 2, none⟩ = some (.bool a0_2) := (blk_cell BK616.out 2).trans rfl; have hcz22_3 : w20.cell? ⟨gb616, 3, none⟩ = some (.slice A0_3 l0_3.length c0_3) := (blk_cell BK616.out 3).trans rfl; have hcz22_4 : w20.cell? ⟨gb616, 4, none⟩ = some (.slice A0_4 l0_4.length c0_4) := (blk_cell BK616.out 4).trans rfl; have hfz22_0 := blk_frozen BK616.out 0; have hfz22_1 := blk_frozen BK616.out 1; have hfz22_2 := blk_frozen BK616.out 2; have hfz22_3 := blk_frozen BK616.out 3; have hfz22_4 := blk_frozen BK616.out 4; have hcz23_0 : w20.cell? ⟨gb617, 0, none⟩ = some (.int .i64 a1_0) := (blk_cell BK617.out 0).trans rfl; have hcz23_1 : w20.cell? ⟨gb617, 1, none⟩ = some (.int .i64 a1_1) := (blk_cell BK617.out 1).trans rfl; have hcz23_2 : w20.cell? ⟨gb617, 2, none⟩ = some (.bool a1_2) := (blk_cell BK617.out 2).trans rfl; have hcz23_3 : w20.cell? ⟨gb617, 3, none⟩ = some (.slice A1_3 l1_3.length c1_3) := (blk_cell BK617.out 3).trans rfl; have hcz23_4 : w20.cell? ⟨gb617, 4, none⟩ = some (.slice A1_4 l1_4.length c1_4) := (blk_cell BK617.out 4).trans rfl; have hfz23_0 := blk_frozen BK617.out 0; have hfz23_1 := blk_frozen BK617.out 1; have hfz23_2 := blk_frozen BK617.out 2; have hfz23_3 := blk_frozen BK617.out 3; have hfz23_4 := blk_frozen BK617.out 4))
        go_ret
        exact ⟨by first | rfl | (simp [errW_none, errW_some] <;> rfl) | (simp [*, errW_none, errW_some] <;> rfl), by repeat (first | (with_reducible first | exact HB.out | apply below_alloc | apply pw_below_drewN | apply below_drew1 | refine below_set ?_ GE616.out | refine below_set ?_ GE617.out) | exact HB.out)⟩
    · rw [if_neg c4] at H
      have c4b0 : (a0_1 == a1_1) = false := beq_eq_false_iff_ne.mpr c4
      have c4b1 : (a0_1 != a1_1) = true := bne_iff_ne.mpr c4
      obtain rfl := Option.some.inj H
      go_enter Try.func95, Try.ntmps95
      go_wp2_with (first | ((with_reducible refine gate_dst (N := 2) rfl ?_); refine box_event ?hg (N := 2) ?hd (cs := #[.int .i64 a0_0, .int .i64 a0_1, .bool a0_2, .slice A0_3 l0_3.length c0_3, .slice A0_4 l0_4.length c0_4]) (t := 108) ?hr ?_; (case hd => rfl); (case hg => rfl); (case hr => first | (go_simp; done) | (go_simp; rfl)); intro gb616 hg w24 hbox hb; have n0_ := Aside0.mk (below_step (by repeat (first | (with_reducible first | exact HB.out | apply below_alloc | apply pw_below_drewN | apply below_drew1) | exact HB.out)) hb); have n1_ := Aside0.mk (hbox); have n2_ := Aside0.mk ((by rw [hg]; exact (below_size (by repeat (first | (with_reducible first | exact HB.out | apply below_alloc | apply pw_below_drewN | apply below_drew1) | exact HB.out))) : w.heap.size ≤ gb616)); have n3_ := Aside0.mk ((by rw [hg]; exact (below_size (by repeat (first | (with_reducible first | exact HB.out | apply below_alloc | apply pw_below_drewN | apply below_drew1) | exact HB.out))) : w.heap.size ≤ gb616)); clear HB; have HB := n0_; have BK616 := n1_; have GW616 := n2_; have GE616 := n3_; clear n0_ n1_ n2_ n3_; clear hb hbox hg) | ((with_reducible refine gate_dst (N := 3) rfl ?_); refine box_event ?hg (N := 3) ?hd (cs := #[.int .i64 a1_0, .int .i64 a1_1, .bool a1_2, .slice A1_3 l1_3.length c1_3, .slice A1_4 l1_4.length c1_4]) (t := 108) ?hr ?_; (case hd => rfl); (case hg => rfl); (case hr => first | (go_simp; done) | (go_simp; rfl)); intro gb617 hg w25 hbox hb; have n0_ := Aside0.mk (blk_below (g := gb616) (o := .cells #[.int .i64 a0_0, .int .i64 a0_1, .bool a0_2, .slice A0_3 l0_3.length c0_3, .slice A0_4 l0_4.length c0_4] 108 (0, 0)) (by (with_reducible repeat (first | refine blk_drewN ?_ _ | refine blk_drew ?_ | refine blk_alloc ?_ _)); exact BK616.out) hb); have n1_ := Aside0.mk (below_step (by repeat (first | (with_reducible first | exact HB.out | apply below_alloc | apply pw_below_drewN | apply below_drew1 | refine below_set ?_ GE616.out) | exact HB.out)) hb); have n2_ := Aside0.mk (hbox); have n3_ := Aside0.mk ((by rw [hg]; exact (below_size (by repeat (first | (with_reducible first | exact HB.out | apply below_alloc | apply pw_below_drewN | apply below_drew1 | refine below_set ?_ GE616.out) | exact HB.out))) : w.heap.size ≤ gb617)); have n4_ := Aside0.mk ((by rw [hg]; exact (below_size (by repeat (first | (with_reducible first | exact HB.out | apply below_alloc | apply pw_below_drewN | apply below_drew1 | refine below_set ?_ GE616.out) | exact HB.out))) : w.heap.size ≤ gb617)); have n5_ := Aside0.mk ((by rw [hg]; exact Nat.ne_of_lt (blk_lt (g := gb616) (o := .cells #[.int .i64 a0_0, .int .i64 a0_1, .bool a0_2, .slice A0_3 l0_3.length c0_3, .slice A0_4 l0_4.length c0_4] 108 (0, 0)) (by (with_reducible repeat (first | refine blk_drewN ?_ _ | refine blk_drew ?_ | refine blk_alloc ?_ _)); exact BK616.out)) : gb616 ≠ gb617)); have n6_ := Aside0.mk ((by rw [hg]; exact Nat.ne_of_gt (blk_lt (g := gb616) (o := .cells #[.int .i64 a0_0, .int .i64 a0_1, .bool a0_2, .slice A0_3 l0_3.length c0_3, .slice A0_4 l0_4.length c0_4] 108 (0, 0)) (by (with_reducible repeat (first | refine blk_drewN ?_ _ | refine blk_drew ?_ | refine blk_alloc ?_ _)); exact BK616.out)) : gb617 ≠ gb616)); clear BK616; clear HB; have BK616 := n0_; have HB := n1_; have BK617 := n2_; have GW617 := n3_; have GE617 := n4_; have NB616_617 := n5_; have NB617_616 := n6_; clear n0_ n1_ n2_ n3_ n4_ n5_ n6_; clear hb hbox hg; have hnb26 := NB616_617.out; have hnc26 := NB617_616.out; have hcz27_0 : w25.cell? ⟨gb616, 0, none⟩ = some (.int .i64 a0_0) := (blk_cell BK616.out 0).trans rfl; have hcz27_1 : w25.cell? ⟨gb616, 1, none⟩ = some (.int .i64 a0_1) := (blk_cell BK616.out 1).trans rfl; have hcz27_2 : w25.cell? ⟨gb616, 2, none⟩ = some (.bool a0_2) := (blk_cell BK616.out 2).trans rfl; have hcz27_3 : w25.cell? ⟨gb616, 3, none⟩ = some (.slice A0_3 l0_3.length c0_3) := (blk_cell BK616.out 3).trans rfl; have hcz27_4 : w25.cell? ⟨gb616, 4, none⟩ = some (.slice A0_4 l0_4.length c0_4) := (blk_cell BK616.out 4).trans rfl; have hfz27_0 := blk_frozen BK616.out 0; have hfz27_1 := blk_frozen BK616.out 1; have hfz27_2 := blk_frozen BK616.out 2; have hfz27_3 := blk_frozen BK616.out 3; have hfz27_4 := blk_frozen BK616.out 4; have hcz28_0 : w25.cell? ⟨gb617, 0, none⟩ = some (.int .i64 a1_0) := (blk_cell BK617.out 0).trans rfl; have hcz28_1 : w25.cell? ⟨gb617, 1, none⟩ = some (.int .i64 a1_1) := (blk_cell BK617.out 1).trans rfl; have hcz28_2 : w25.cell? ⟨gb617, 2, none⟩ = some (.bool a1_2) := (blk_cell BK617.out 2).trans rfl; have hcz28_3 : w25.cell? ⟨gb617, 3, none⟩ = some (.slice A1_3 l1_3.length c1_3) := (blk_cell BK617.out 3).trans rfl; have hcz28_4 : w25.cell? ⟨gb617, 4, none⟩ = some (.slice A1_4 l1_4.length c1_4) := (blk_cell BK617.out 4).trans rfl; have hfz28_0 := blk_frozen BK617.out 0; have hfz28_1 := blk_frozen BK617.out 1; have hfz28_2 := blk_frozen BK617.out 2; have hfz28_3 := blk_frozen BK617.out 3; have hfz28_4 := blk_frozen BK617.out 4))
      go_ret
      exact ⟨by first | rfl | (simp [errW_none, errW_some] <;> rfl) | (simp [*, errW_none, errW_some] <;> rfl), by repeat (first | (with_reducible first | exact HB.out | apply below_alloc | apply pw_below_drewN | apply below_drew1 | refine below_set ?_ GE616.out | refine below_set ?_ GE617.out) | exact HB.out)⟩
  · rw [if_neg c3] at H
    have c3b0 : (a0_0 == a1_0) = false := beq_eq_false_iff_ne.mpr c3
    have c3b1 : (a0_0 != a1_0) = true := bne_iff_ne.mpr c3
    obtain rfl := Option.some.inj H
    go_enter Try.func95, Try.ntmps95
    go_wp2_with (first | ((with_reducible refine gate_dst (N := 2) rfl ?_); refine box_event ?hg (N := 2) ?hd (cs := #[.int .i64 a0_0, .int .i64 a0_1, .bool a0_2, .slice A0_3 l0_3.length c0_3, .slice A0_4 l0_4.length c0_4]) (t := 108) ?hr ?_; (case hd => rfl); (case hg => rfl); (case hr => first | (go_simp; done) | (go_simp; rfl)); intro gb616 hg w29 hbox hb; have n0_ := Aside0.mk (below_step (by repeat (first | (with_reducible first | exact HB.out | apply below_alloc | apply pw_below_drewN | apply below_drew1) | exact HB.out)) hb); have n1_ := Aside0.mk (hbox); have n2_ := Aside0.mk ((by rw [hg]; exact (below_size (by repeat (first | (with_reducible first | exact HB.out | apply below_alloc | apply pw_below_drewN | apply below_drew1) | exact HB.out))) : w.heap.size ≤ gb616)); have n3_ := Aside0.mk ((by rw [hg]; exact (below_size (by repeat (first | (with_reducible first | exact HB.out | apply below_alloc | apply pw_below_drewN | apply below_drew1) | exact HB.out))) : w.heap.size ≤ gb616)); clear HB; have HB := n0_; have BK616 := n1_; have GW616 := n2_; have GE616 := n3_; clear n0_ n1_ n2_ n3_; clear hb hbox hg) | ((with_reducible refine gate_dst (N := 3) rfl ?_); refine box_event ?hg (N := 3) ?hd (cs := #[.int .i64 a1_0, .int .i64 a1_1, .bool a1_2, .slice A1_3 l1_3.length c1_3, .slice A1_4 l1_4.length c1_4]) (t := 108) ?hr ?_; (case hd => rfl); (case hg => rfl); (case hr => first | (go_simp; done) | (go_simp; rfl)); intro gb617 hg w30 hbox hb; have n0_ := Aside0.mk (blk_below (g := gb616) (o := .cells #[.int .i64 a0_0, .int .i64 a0_1, .bool a0_2, .slice A0_3 l0_3.length c0_3, .slice A0_4 l0_4.length c0_4] 108 (0, 0)) (by (with_reducible repeat (first | refine blk_drewN ?_ _ | refine blk_drew ?_ | refine blk_alloc ?_ _)); exact BK616.out) hb); have n1_ := Aside0.mk (below_step (by repeat (first | (with_reducible first | exact HB.out | apply below_alloc | apply pw_below_drewN | apply below_drew1 | refine below_set ?_ GE616.out) | exact HB.out)) hb); have n2_ := Aside0.mk (hbox); have n3_ := Aside0.mk ((by rw [hg]; exact (below_size (by repeat (first | (with_reducible first | exact HB.out | apply below_alloc | apply pw_below_drewN | apply below_drew1 | refine below_set ?_ GE616.out) | exact HB.out))) : w.heap.size ≤ gb617)); have n4_ := Aside0.mk ((by rw [hg]; exact (below_size (by repeat (first | (with_reducible first | exact HB.out | apply below_alloc | apply pw_below_drewN | apply below_drew1 | refine below_set ?_ GE616.out) | exact HB.out))) : w.heap.size ≤ gb617)); have n5_ := Aside0.mk ((by rw [hg]; exact Nat.ne_of_lt (blk_lt (g := gb616) (o := .cells #[.int .i64 a0_0, .int .i64 a0_1, .bool a0_2, .slice A0_3 l0_3.length c0_3, .slice A0_4 l0_4.length c0_4] 108 (0, 0)) (by (with_reducible repeat (first | refine blk_drewN ?_ _ | refine blk_drew ?_ | refine blk_alloc ?_ _)); exact BK616.out)) : gb616 ≠ gb617)); have n6_ := Aside0.mk ((by rw [hg]; exact Nat.ne_of_gt (blk_lt (g := gb616) (o := .cells #[.int .i64 a0_0, .int .i64 a0_1, .bool a0_2, .slice A0_3 l0_3.length c0_3, .slice A0_4 l0_4.length c0_4] 108 (0, 0)) (by (with_reducible repeat (first | refine blk_drewN ?_ _ | refine blk_drew ?_ | refine blk_alloc ?_ _)); exact BK616.out)) : gb617 ≠ gb616)); clear BK616; clear HB; have BK616 := n0_; have HB := n1_; have BK617 := n2_; have GW617 := n3_; have GE617 := n4_; have NB616_617 := n5_; have NB617_616 := n6_; clear n0_ n1_ n2_ n3_ n4_ n5_ n6_; clear hb hbox hg; have hnb31 := NB616_617.out; have hnc31 := NB617_616.out; have hcz32_0 : w30.cell? ⟨gb616, 0, none⟩ = some (.int .i64 a0_0) := (blk_cell BK616.out 0).trans rfl; have hcz32_1 : w30.cell? ⟨gb616, 1, none⟩ = some (.int .i64 a0_1) := (blk_cell BK616.out 1).trans rfl; have hcz32_2 : w30.cell? ⟨gb616, 2, none⟩ = some (.bool a0_2) := (blk_cell BK616.out 2).trans rfl; have hcz32_3 : w30.cell? ⟨gb616, 3, none⟩ = some (.slice A0_3 l0_3.length c0_3) := (blk_cell BK616.out 3).trans rfl; have hcz32_4 : w30.cell? ⟨gb616, 4, none⟩ = some (.slice A0_4 l0_4.length c0_4) := (blk_cell BK616.out 4).trans rfl; have hfz32_0 := blk_frozen BK616.out 0; have hfz32_1 := blk_frozen BK616.out 1; have hfz32_2 := blk_frozen BK616.out 2; have hfz32_3 := blk_frozen BK616.out 3; have hfz32_4 := blk_frozen BK616.out 4; have hcz33_0 : w30.cell? ⟨gb617, 0, none⟩ = some (.int .i64 a1_0) := (blk_cell BK617.out 0).trans rfl; have hcz33_1 : w30.cell? ⟨gb617, 1, none⟩ = some (.int .i64 a1_1) := (blk_cell BK617.out 1).trans rfl; have hcz33_2 : w30.cell? ⟨gb617, 2, none⟩ = some (.bool a1_2) := (blk_cell BK617.out 2).trans rfl; have hcz33_3 : w30.cell? ⟨gb617, 3, none⟩ = some (.slice A1_3 l1_3.length c1_3) := (blk_cell BK617.out 3).trans rfl; have hcz33_4 : w30.cell? ⟨gb617, 4, none⟩ = some (.slice A1_4 l1_4.length c1_4) := (blk_cell BK617.out 4).trans rfl; have hfz33_0 := blk_frozen BK617.out 0; have hfz33_1 := blk_frozen BK617.out 1; have hfz33_2 := blk_frozen BK617.out 2; have hfz33_3 := blk_frozen BK617.out 3; have hfz33_4 := blk_frozen BK617.out 4))
    go_ret
    exact ⟨by first | rfl | (simp [errW_none, errW_some] <;> rfl) | (simp [*, errW_none, errW_some] <;> rfl), by repeat (first | (with_reducible first | exact HB.out | apply below_alloc | apply pw_below_drewN | apply below_drew1 | refine below_set ?_ GE616.out | refine below_set ?_ GE617.out) | exact HB.out)⟩

/-! ### turncockref1_coded: function 130 -/
def turncockref1_coded.f (a0 : Int) : Option (Bool) := if a0 = 1 then (some true) else (some (a0 == 2))
set_option maxHeartbeats 8000000 in
set_option maxRecDepth 100000 in
theorem turncockref1_coded.calls (a0 : Int) (r : Bool) (w : World) (h : turncockref1_coded.f a0 = some r) :
    Calls Try.prog 130 #[.int .i64 a0] w fun e w' => e = .returned (.bool r) ∧ Drawn0 w w' := by
  have H : (if a0 = 1 then (some true) else (some (a0 == 2))) = some r := h
  clear h
  by_cases c2 : a0 = 1
  · rw [if_pos c2] at H
    have c2b0 : (a0 == 1) = true := beq_iff_eq.mpr c2
    have c2b1 : (a0 != 1) = false := bne_eq_false_iff_eq.mpr c2
    clear c2
    obtain rfl := Option.some.inj H
    go_enter Try.func130, Try.ntmps130
    go_wp2
    go_ret
    exact ⟨by first | rfl | (simp; done) | (simp [*]; done), by repeat (first | exact Drawn0.refl _ | apply Drawn0.step)⟩
  · rw [if_neg c2] at H
    have c2b0 : (a0 == 1) = false := beq_eq_false_iff_ne.mpr c2
    have c2b1 : (a0 != 1) = true := bne_iff_ne.mpr c2
    obtain rfl := Option.some.inj H
    go_enter Try.func130, Try.ntmps130
    go_wp2
    go_ret
    exact ⟨by first | rfl | (simp; done) | (simp [*]; done), by repeat (first | exact Drawn0.refl _ | apply Drawn0.step)⟩

/-! ### turncockref1_printable: function 131 -/
def turncockref1_printable.l0 : Nat → ByteArray → Int → Option (Bool)
  | 0, _, _ => none
  | k + 1, x0, x3 => if x3 < (x0.size : Int) then (if 0 ≤ x3 then (if (bt x0 x3) < 32 then (some false) else (if (bt x0 x3) > 126 then (some false) else (turncockref1_printable.l0 k x0 (wrap64 (x3 + 1))))) else (none)) else (some true)
def turncockref1_printable.f (k : Nat) (a0 : ByteArray) : Option (Bool) := if (a0.size : Int) > 400 then (some false) else (turncockref1_printable.l0 k a0 0)
theorem turncockref1_printable.mono_l : ∀ k, (∀ y0 y1, LeO (turncockref1_printable.l0 k y0 y1) (turncockref1_printable.l0 (k + 1) y0 y1))
  | 0 => fun _ _ r h => by simp [turncockref1_printable.l0] at h
  | k + 1 => by
    have ih0 := turncockref1_printable.mono_l k
    · intro y0 y1
      unfold turncockref1_printable.l0
      repeat' first
      | (with_reducible exact ih0 _ _)
      | (with_reducible exact LeO.refl _)
      | (with_reducible exact LeO.none _)
      | (with_reducible refine LeO.ite ?_ ?_)
      | (with_reducible refine LeO.bind ?_ (fun _ => ?_))
      | exact ih0 _ _
      | exact LeO.none _
      | refine LeO.ite ?_ ?_
      | refine LeO.bind ?_ (fun _ => ?_)
theorem turncockref1_printable.mono : ∀ a0 k, LeO (turncockref1_printable.f k a0) (turncockref1_printable.f (k + 1) a0) := by
  intro a0 k
  have ih0 := turncockref1_printable.mono_l k
  unfold turncockref1_printable.f
  repeat' first
      | (with_reducible exact ih0 _ _)
      | (with_reducible exact LeO.refl _)
      | (with_reducible exact LeO.none _)
      | (with_reducible refine LeO.ite ?_ ?_)
      | (with_reducible refine LeO.bind ?_ (fun _ => ?_))
      | exact ih0 _ _
      | exact LeO.none _
      | refine LeO.ite ?_ ?_
      | refine LeO.bind ?_ (fun _ => ?_)
set_option maxHeartbeats 8000000 in
set_option maxRecDepth 100000 in
theorem turncockref1_printable.calls (k : Nat) (a0 : ByteArray) (r : Bool) (w : World) (h : turncockref1_printable.f k a0 = some r) :
    Calls Try.prog 131 #[.string a0] w fun e w' => e = .returned (.bool r) ∧ Drawn0 w w' := by
  have H : (if (a0.size : Int) > 400 then (some false) else (turncockref1_printable.l0 k a0 0)) = some r := h
  clear h
  by_cases c2 : (a0.size : Int) > 400
  · rw [if_pos c2] at H
    have c2b0 : decide (400 < (a0.size : Int)) = true := decide_eq_true c2
    have c2b1 : decide (400 < a0.size) = true := decide_eq_true (by omega)
    clear c2
    obtain rfl := Option.some.inj H
    go_enter Try.func131, Try.ntmps131
    go_wp2
    go_ret
    exact ⟨by first | rfl | (simp; done) | (simp [*]; done), by repeat (first | exact Drawn0.refl _ | apply Drawn0.step)⟩
  · rw [if_neg c2] at H
    have c2b0 : decide (400 < (a0.size : Int)) = false := decide_eq_false c2
    have c2b1 : decide (400 < a0.size) = false := decide_eq_false (by omega)
    clear c2
    have H' := Aside0.mk H
    clear H
    go_enter Try.func131, Try.ntmps131
    go_wp2
    go_loopg [3] k (fun kq v3 w' => ∃ (x3_1 : Int), v3 = .int .i64 x3_1 ∧ Aside0 (turncockref1_printable.l0 kq a0 x3_1 = some r) ∧ Aside0 (kq ≤ k) ∧ Drawn0 w w')
    case atStart => exact ⟨(0), (by first | rfl | (simp; done) | (simp [*]; done)), H', ⟨Nat.le_refl _⟩, by repeat (first | exact Drawn0.refl _ | apply Drawn0.step)⟩
    case round =>
      clear H'
      try clear c1
      try clear c2
      try clear c2b0
      try clear c2b1
      try clear p2
      obtain ⟨x3_1, rfl, HA, HK1, ⟨m1, rfl⟩⟩ := hrel
      cases gk with
      | zero => exact absurd HA.out (by simp [turncockref1_printable.l0])
      | succ k1 =>
        have H := HA.out
        clear HA
        simp only [turncockref1_printable.l0] at H
        by_cases c3 : x3_1 < (a0.size : Int)
        · rw [if_pos c3] at H
          have c3b0 : decide (x3_1 < (a0.size : Int)) = true := decide_eq_true c3
          clear c3
          by_cases c4 : 0 ≤ x3_1
          · rw [if_pos c4] at H
            have c4b0 : decide (0 ≤ x3_1) = true := decide_eq_true c4
            clear c4
            by_cases c6 : (bt a0 x3_1) < 32
            · rw [if_pos c6] at H
              have c6b0 : decide ((bt a0 x3_1) < 32) = true := decide_eq_true c6
              clear c6
              obtain rfl := Option.some.inj H
              have p5 : 0 ≤ (x3_1 : Int) := of_decide_eq_true (by first | (with_reducible assumption) | assumption)
              have q5 : x3_1 < (a0.size : Int) := of_decide_eq_true (by first | (with_reducible assumption) | assumption)
              have hx5 := bt_at a0 x3_1
              replace p5 := eq_true p5
              replace q5 := eq_true q5
              go_wp2
              go_ret
              exact ⟨by first | rfl | (simp; done) | (simp [*]; done), by repeat (first | exact Drawn0.refl _ | apply Drawn0.step)⟩
            · rw [if_neg c6] at H
              have c6b0 : decide ((bt a0 x3_1) < 32) = false := decide_eq_false c6
              clear c6
              by_cases c8 : (bt a0 x3_1) > 126
              · rw [if_pos c8] at H
                have c8b0 : decide (126 < (bt a0 x3_1)) = true := decide_eq_true c8
                clear c8
                obtain rfl := Option.some.inj H
                have p5 : 0 ≤ (x3_1 : Int) := of_decide_eq_true (by first | (with_reducible assumption) | assumption)
                have q5 : x3_1 < (a0.size : Int) := of_decide_eq_true (by first | (with_reducible assumption) | assumption)
                have hx5 := bt_at a0 x3_1
                replace p5 := eq_true p5
                replace q5 := eq_true q5
                have p7 : 0 ≤ (x3_1 : Int) := of_decide_eq_true (by first | (with_reducible assumption) | assumption)
                have q7 : x3_1 < (a0.size : Int) := of_decide_eq_true (by first | (with_reducible assumption) | assumption)
                have hx7 := bt_at a0 x3_1
                replace p7 := eq_true p7
                replace q7 := eq_true q7
                go_wp2
                go_ret
                exact ⟨by first | rfl | (simp; done) | (simp [*]; done), by repeat (first | exact Drawn0.refl _ | apply Drawn0.step)⟩
              · rw [if_neg c8] at H
                have c8b0 : decide (126 < (bt a0 x3_1)) = false := decide_eq_false c8
                clear c8
                have H' := Aside0.mk H
                clear H
                have p5 : 0 ≤ (x3_1 : Int) := of_decide_eq_true (by first | (with_reducible assumption) | assumption)
                have q5 : x3_1 < (a0.size : Int) := of_decide_eq_true (by first | (with_reducible assumption) | assumption)
                have hx5 := bt_at a0 x3_1
                replace p5 := eq_true p5
                replace q5 := eq_true q5
                have p7 : 0 ≤ (x3_1 : Int) := of_decide_eq_true (by first | (with_reducible assumption) | assumption)
                have q7 : x3_1 < (a0.size : Int) := of_decide_eq_true (by first | (with_reducible assumption) | assumption)
                have hx7 := bt_at a0 x3_1
                replace p7 := eq_true p7
                replace q7 := eq_true q7
                go_wp2
                go_roundg k1
                case measure => have := HK1.out; omega
                case rel => exact ⟨(wrap64 (x3_1 + 1)), (by first | rfl | (simp; done) | (simp [*]; done)), H', ⟨by have := HK1.out; omega⟩, by repeat (first | exact Drawn0.refl _ | apply Drawn0.step)⟩
          · rw [if_neg c4] at H
            exact absurd H (by simp)
        · rw [if_neg c3] at H
          have c3b0 : decide (x3_1 < (a0.size : Int)) = false := decide_eq_false c3
          clear c3
          obtain rfl := Option.some.inj H
          go_wp2
          go_ret
          exact ⟨by first | rfl | (simp; done) | (simp [*]; done), by repeat (first | exact Drawn0.refl _ | apply Drawn0.step)⟩

end Go.Proofs.Ytnhblhhkjnmkkaa.Q
