/- Printed by this session's own program out of the translation: each function as a plain Lean function, and its contract. -/
import Derived.Test.YtnhblhhkjnmkkaaQ0
import Derived.Test.YtnhblhhkjnmkkaaQ15
namespace Go.Proofs.Ytnhblhhkjnmkkaa.Q
open Go.RowKit Go.Proofs.YtnhblhhkjnmkkaaW.PrintWords Go.Proofs.YtnhblhhkjnmkkaaW.PrintLast Go.Proofs.YtnhblhhkjnmkkaaW.PrintMore
attribute [local go_sem] max2_int min2_int max_two min_two max_three min_three max_four min_four   -- for this text's walks alone
set_option linter.unusedVariables false
set_option linter.unusedSimpArgs false

/-! ### turncockref1_CheckDesc: function 115 -/
mutual
def turncockref1_CheckDesc.j0 : Nat → Bool → List (S142) → Option (Bool)
  | 0, _, _ => none
  | k + 1, x13, x467000 => if x13 = true then (some false) else (turncockref1_CheckDesc.l0 k 0 x467000)
def turncockref1_CheckDesc.l0 : Nat → Int → List (S142) → Option (Bool)
  | 0, _, _ => none
  | k + 1, x3, x467000 => if x3 < (x467000.length : Int) then (if 0 ≤ x3 then ((turncockref1_Name.f k ((rd_T142 x467000 x3).f0)).bind fun t468 => (if t468 = true then (if (((rd_T142 x467000 x3).f1).size : Int) > 128 then (some false) else (turncockref1_CheckDesc.l0 k (wrap64 (x3 + 1)) x467000)) else (some false))) else (none)) else (some true)
end
def turncockref1_CheckDesc.f (k : Nat) (l0_0 : List (S142)) : Option (Bool) := if (l0_0.length : Int) < 1 then (turncockref1_CheckDesc.j0 k true l0_0) else (turncockref1_CheckDesc.j0 k (decide ((l0_0.length : Int) > 8)) l0_0)
theorem turncockref1_CheckDesc.mono_l : ∀ k, (∀ y0 y1, LeO (turncockref1_CheckDesc.j0 k y0 y1) (turncockref1_CheckDesc.j0 (k + 1) y0 y1)) ∧ (∀ y0 y1, LeO (turncockref1_CheckDesc.l0 k y0 y1) (turncockref1_CheckDesc.l0 (k + 1) y0 y1))
  | 0 => ⟨fun _ _ r h => by simp [turncockref1_CheckDesc.j0] at h, fun _ _ r h => by simp [turncockref1_CheckDesc.l0] at h⟩
  | k + 1 => by
    obtain ⟨ih0, ih1⟩ := turncockref1_CheckDesc.mono_l k
    refine ⟨?_, ?_⟩
    · intro y0 y1
      unfold turncockref1_CheckDesc.j0
      repeat' first
      | (with_reducible exact ih0 _ _)
      | (with_reducible exact ih1 _ _)
      | (with_reducible exact turncockref1_Name.mono _ _)
      | (with_reducible exact LeO.refl _)
      | (with_reducible exact LeO.none _)
      | (with_reducible refine LeO.ite ?_ ?_)
      | (with_reducible refine LeO.bind ?_ (fun _ => ?_))
      | exact ih0 _ _
      | exact ih1 _ _
      | exact turncockref1_Name.mono _ _
      | exact LeO.none _
      | refine LeO.ite ?_ ?_
      | refine LeO.bind ?_ (fun _ => ?_)
    · intro y0 y1
      unfold turncockref1_CheckDesc.l0
      repeat' first
      | (with_reducible exact ih0 _ _)
      | (with_reducible exact ih1 _ _)
      | (with_reducible exact turncockref1_Name.mono _ _)
      | (with_reducible exact LeO.refl _)
      | (with_reducible exact LeO.none _)
      | (with_reducible refine LeO.ite ?_ ?_)
      | (with_reducible refine LeO.bind ?_ (fun _ => ?_))
      | exact ih0 _ _
      | exact ih1 _ _
      | exact turncockref1_Name.mono _ _
      | exact LeO.none _
      | refine LeO.ite ?_ ?_
      | refine LeO.bind ?_ (fun _ => ?_)
theorem turncockref1_CheckDesc.mono : ∀ a0 k, LeO (turncockref1_CheckDesc.f k a0) (turncockref1_CheckDesc.f (k + 1) a0) := by
  intro a0 k
  obtain ⟨ih0, ih1⟩ := turncockref1_CheckDesc.mono_l k
  unfold turncockref1_CheckDesc.f
  repeat' first
      | (with_reducible exact ih0 _ _)
      | (with_reducible exact ih1 _ _)
      | (with_reducible exact turncockref1_Name.mono _ _)
      | (with_reducible exact LeO.refl _)
      | (with_reducible exact LeO.none _)
      | (with_reducible refine LeO.ite ?_ ?_)
      | (with_reducible refine LeO.bind ?_ (fun _ => ?_))
      | exact ih0 _ _
      | exact ih1 _ _
      | exact turncockref1_Name.mono _ _
      | exact LeO.none _
      | refine LeO.ite ?_ ?_
      | refine LeO.bind ?_ (fun _ => ?_)
set_option maxHeartbeats 8000000 in
set_option maxRecDepth 100000 in
theorem turncockref1_CheckDesc.calls (k : Nat) (A0_0 : Option Addr) (c0_0 : Nat) (l0_0 : List (S142)) (r : Bool) (w : World) (hr0_0 : Kd.C k142 w A0_0 l0_0.length l0_0) (hc0_0 : l0_0.length ≤ c0_0) (h : turncockref1_CheckDesc.f k l0_0 = some r) :
    Calls Try.prog 115 #[.agg #[.slice A0_0 l0_0.length c0_0]] w fun e w' => e = .returned (.bool r) ∧ Below w.heap.size w w' := by
  have hu140 := Try.underlying140
  have HR0_0 := Aside0.mk hr0_0
  have HC0_0 := Aside0.mk hc0_0
  clear hr0_0 hc0_0
  have HB := Aside0.mk (Below.refl w.heap.size w)
  have H : (if (l0_0.length : Int) < 1 then (turncockref1_CheckDesc.j0 k true l0_0) else (turncockref1_CheckDesc.j0 k (decide ((l0_0.length : Int) > 8)) l0_0)) = some r := h
  clear h
  have HC2 := Aside0.mk H
  clear H
  go_enter Try.func115, Try.ntmps115
  go_upto_region 1 with (first | ((with_reducible refine gate_dst (N := 1) rfl ?_); (try (refine gate_guard (by rfl) ?_; dsimp only)); refine box_event ?hg (N := 1) ?hd (cs := #[.slice A0_0 l0_0.length c0_0]) (t := 140) ?hr ?_; (case hd => rfl); (case hg => rfl); (case hr => first | (go_simp; done) | (go_simp; rfl)); intro gb466 hg w3 hbox hb; have n0_ := Aside0.mk (below_step (by repeat (first | (with_reducible first | exact HB.out | apply below_alloc | apply pw_below_drewN | apply below_drew1) | exact HB.out)) hb); have n1_ := Aside0.mk (hbox); have n2_ := Aside0.mk ((by rw [hg]; exact (below_size (by repeat (first | (with_reducible first | exact HB.out | apply below_alloc | apply pw_below_drewN | apply below_drew1) | exact HB.out))) : w.heap.size ≤ gb466)); have n3_ := Aside0.mk ((by rw [hg]; exact (below_size (by repeat (first | (with_reducible first | exact HB.out | apply below_alloc | apply pw_below_drewN | apply below_drew1) | exact HB.out))) : w.heap.size ≤ gb466)); clear HB; have HB := n0_; have BK466 := n1_; have GW466 := n2_; have GE466 := n3_; clear n0_ n1_ n2_ n3_; clear hb hbox hg))
  (try simp only [Act.put, List.setIfInBounds_toArray, List.set_cons_zero, List.set_cons_succ])
  go_cut [13] (fun v13 wc => ∃ (kq : Nat) (x13_1 : Bool), v13 = .bool x13_1 ∧ Aside0 (turncockref1_CheckDesc.j0 kq x13_1 l0_0 = some r) ∧ Aside0 (kq ≤ k) ∧ Aside0 (wc.heap[gb466]? = some (.cells #[(.slice A0_0 l0_0.length c0_0)] 140 (0, 0))) ∧ Aside0 (Below w.heap.size w wc))
  case first =>
    have H := HC2.out
    clear HC2
    by_cases c4 : (l0_0.length : Int) < 1
    · rw [if_pos c4] at H
      have c4b0 : decide ((l0_0.length : Int) < 1) = true := decide_eq_true c4
      have c4b1 : decide (l0_0.length < 1) = true := decide_eq_true (by omega)
      clear c4
      (first | rw [c4b0] | (simp only [i64_w, i32_w]; rw [c4b0]) | skip)
      have H' := Aside0.mk H
      clear H
      have hcz5_0 : w3.cell? ⟨gb466, 0, none⟩ = some (.slice A0_0 l0_0.length c0_0) := (blk_cell BK466.out 0).trans rfl
      have hfz5_0 := blk_frozen BK466.out 0
      go_wp2
      go_meet
      case rel => exact ⟨_, (true), (by first | rfl | (simp; done) | (simp [*]; done)), H', ⟨by first | omega | exact Nat.le_refl _⟩, ⟨by (with_reducible repeat (first | refine blk_drewN ?_ _ | refine blk_drew ?_ | refine blk_alloc ?_ _)); exact BK466.out⟩, ⟨by repeat (first | (with_reducible first | exact HB.out | apply below_alloc | apply pw_below_drewN | apply below_drew1 | refine below_set ?_ GE466.out) | exact HB.out)⟩⟩
    · rw [if_neg c4] at H
      have c4b0 : decide ((l0_0.length : Int) < 1) = false := decide_eq_false c4
      have c4b1 : decide (l0_0.length < 1) = false := decide_eq_false (by omega)
      clear c4
      (first | rw [c4b0] | (simp only [i64_w, i32_w]; rw [c4b0]) | skip)
      have H' := Aside0.mk H
      clear H
      have hcz6_0 : w3.cell? ⟨gb466, 0, none⟩ = some (.slice A0_0 l0_0.length c0_0) := (blk_cell BK466.out 0).trans rfl
      have hfz6_0 := blk_frozen BK466.out 0
      go_wp2
      go_meet
      case rel => exact ⟨_, (decide ((l0_0.length : Int) > 8)), (by first | rfl | (simp; done) | (simp [*]; done)), H', ⟨by first | omega | exact Nat.le_refl _⟩, ⟨by (with_reducible repeat (first | refine blk_drewN ?_ _ | refine blk_drew ?_ | refine blk_alloc ?_ _)); exact BK466.out⟩, ⟨by repeat (first | (with_reducible first | exact HB.out | apply below_alloc | apply pw_below_drewN | apply below_drew1 | refine below_set ?_ GE466.out) | exact HB.out)⟩⟩
  case rest =>
    clear HC2
    try clear c1
    try clear p2
    try clear c4
    try clear c4b0
    try clear c4b1
    try clear hcz5_0
    try clear hcz6_0
    try clear hfz5_0
    try clear hfz6_0
    obtain ⟨kq, x13_1, rfl, HA, HJ1, BK466, HB⟩ := hcut
    cases kq with
    | zero => exact absurd HA.out (by simp [turncockref1_CheckDesc.j0])
    | succ kj1 =>
      have H := HA.out
      clear HA
      simp only [turncockref1_CheckDesc.j0] at H
      by_cases c7 : x13_1 = true
      · subst c7
        have H1 : (some false) = some r := by rw [if_pos rfl] at H; exact H
        clear H
        have H := H1
        clear H1
        obtain rfl := Option.some.inj H
        go_wp2
        go_ret
        exact ⟨by first | rfl | (simp [errW_none, errW_some] <;> rfl) | (simp [*, errW_none, errW_some] <;> rfl), by repeat (first | (with_reducible first | exact HB.out | apply below_alloc | apply pw_below_drewN | apply below_drew1 | refine below_set ?_ GE466.out) | exact HB.out)⟩
      · replace c7 := Bool.eq_false_iff.mpr c7
        subst c7
        have H1 : (turncockref1_CheckDesc.l0 kj1 0 l0_0) = some r := by rw [if_neg (show ¬ (false = true) by decide)] at H; exact H
        clear H
        have H := H1
        clear H1
        have H' := Aside0.mk H
        clear H
        go_wp2
        go_loopg [3] kj1 (fun kq v3 w' => ∃ (x3_2 : Int), v3 = .int .i64 x3_2 ∧ Aside0 (turncockref1_CheckDesc.l0 kq x3_2 l0_0 = some r) ∧ Aside0 (kq ≤ kj1) ∧ Aside0 (w'.heap[gb466]? = some (.cells #[(.slice A0_0 l0_0.length c0_0)] 140 (0, 0))) ∧ Aside0 (Below w.heap.size w w'))
        case atStart => exact ⟨(0), (by first | rfl | (simp; done) | (simp [*]; done)), H', ⟨Nat.le_refl _⟩, ⟨by (with_reducible repeat (first | refine blk_drewN ?_ _ | refine blk_drew ?_ | refine blk_alloc ?_ _)); exact BK466.out⟩, ⟨by repeat (first | (with_reducible first | exact HB.out | apply below_alloc | apply pw_below_drewN | apply below_drew1 | refine below_set ?_ GE466.out) | exact HB.out)⟩⟩
        case round =>
          clear H'
          try clear c1
          try clear p2
          try clear c4
          try clear c4b0
          try clear c4b1
          try clear c7
          try clear hcz5_0
          try clear hcz6_0
          try clear hfz5_0
          try clear hfz6_0
          try clear p2
          obtain ⟨x3_2, rfl, HA, HK2, BK466, HB⟩ := hrel
          cases gk with
          | zero => exact absurd HA.out (by simp [turncockref1_CheckDesc.l0])
          | succ k2 =>
            have H := HA.out
            clear HA
            simp only [turncockref1_CheckDesc.l0] at H
            by_cases c8 : x3_2 < (l0_0.length : Int)
            · rw [if_pos c8] at H
              have c8b0 : decide (x3_2 < (l0_0.length : Int)) = true := decide_eq_true c8
              clear c8
              by_cases c9 : 0 ≤ x3_2
              · rw [if_pos c9] at H
                have c9b0 : decide (0 ≤ x3_2) = true := decide_eq_true c9
                clear c9
                replace H := Option.bind_eq_some_iff.mp H
                obtain ⟨t468, A100, H⟩ := H
                replace H : (if t468 = true then (if (((rd_T142 l0_0 x3_2).f1).size : Int) > 128 then (some false) else (turncockref1_CheckDesc.l0 k2 (wrap64 (x3_2 + 1)) l0_0)) else (some false)) = some r := H
                have A10 := Aside0.mk A100
                clear A100
                by_cases c11 : t468 = true
                · subst c11
                  have H1 : (if (((rd_T142 l0_0 x3_2).f1).size : Int) > 128 then (some false) else (turncockref1_CheckDesc.l0 k2 (wrap64 (x3_2 + 1)) l0_0)) = some r := by rw [if_pos rfl] at H; exact H
                  clear H
                  have H := H1
                  clear H1
                  by_cases c12 : (((rd_T142 l0_0 x3_2).f1).size : Int) > 128
                  · rw [if_pos c12] at H
                    have c12b0 : decide (128 < (((rd_T142 l0_0 x3_2).f1).size : Int)) = true := decide_eq_true c12
                    have c12b1 : decide (128 < ((rd_T142 l0_0 x3_2).f1).size) = true := decide_eq_true (by omega)
                    clear c12
                    obtain rfl := Option.some.inj H
                    have hcz13_0 : wr.cell? ⟨gb466, 0, none⟩ = some (.slice A0_0 l0_0.length c0_0) := (blk_cell BK466.out 0).trans rfl
                    have hfz13_0 := blk_frozen BK466.out 0
                    have p467 : 0 ≤ (x3_2 : Int) := of_decide_eq_true (by first | (with_reducible assumption) | assumption)
                    have q467 : x3_2 < (l0_0.length : Int) := of_decide_eq_true (by first | (with_reducible assumption) | assumption)
                    obtain ⟨ad467, e467, hx467_0, hx467_1⟩ := at_T142 HR0_0.out x3_2 p467 q467
                    cases e467
                    replace hx467_0 := (HB.out.cell (World.block_lt_of_cell? w _ hx467_0)).trans hx467_0
                    replace hx467_1 := (HB.out.cell (World.block_lt_of_cell? w _ hx467_1)).trans hx467_1
                    replace p467 := eq_true p467
                    replace q467 := eq_true q467
                    go_wp2_with (first | ((with_reducible refine gate_callee (f := 114) rfl ?_); refine goesL_ (some 27) rfl rfl Try.func114 (by kernel_rfl) rfl #[.string ((rd_T142 l0_0 x3_2).f0)] rfl (by (try simp only [List.map_toArray, List.map_cons, List.map_nil]); first | done | rfl | (simp only [List.length_drop, List.length_take]; rfl)) ?_; (with_reducible refine (turncockref1_Name.calls k2 ((rd_T142 l0_0 x3_2).f0) true _ A10.out).mono ?_); rintro e w' ⟨rfl, ⟨nd, rfl⟩⟩; refine ⟨_, rfl, ?_⟩; have p469 : 0 ≤ (x3_2 : Int) := of_decide_eq_true (by first | (with_reducible assumption) | assumption); have q469 : x3_2 < (l0_0.length : Int) := of_decide_eq_true (by first | (with_reducible assumption) | assumption); obtain ⟨ad469, e469, hx469_0, hx469_1⟩ := at_T142 HR0_0.out x3_2 p469 q469; obtain rfl : ad467 = ad469 := (by injection e469); replace hx469_0 := (HB.out.cell (World.block_lt_of_cell? w _ hx469_0)).trans hx469_0; replace hx469_1 := (HB.out.cell (World.block_lt_of_cell? w _ hx469_1)).trans hx469_1; replace p469 := eq_true p469; replace q469 := eq_true q469))
                    go_ret
                    exact ⟨by first | rfl | (simp [errW_none, errW_some] <;> rfl) | (simp [*, errW_none, errW_some] <;> rfl), by repeat (first | (with_reducible first | exact HB.out | apply below_alloc | apply pw_below_drewN | apply below_drew1 | refine below_set ?_ GE466.out) | exact HB.out)⟩
                  · rw [if_neg c12] at H
                    have c12b0 : decide (128 < (((rd_T142 l0_0 x3_2).f1).size : Int)) = false := decide_eq_false c12
                    have c12b1 : decide (128 < ((rd_T142 l0_0 x3_2).f1).size) = false := decide_eq_false (by omega)
                    clear c12
                    have H' := Aside0.mk H
                    clear H
                    have hcz14_0 : wr.cell? ⟨gb466, 0, none⟩ = some (.slice A0_0 l0_0.length c0_0) := (blk_cell BK466.out 0).trans rfl
                    have hfz14_0 := blk_frozen BK466.out 0
                    have p467 : 0 ≤ (x3_2 : Int) := of_decide_eq_true (by first | (with_reducible assumption) | assumption)
                    have q467 : x3_2 < (l0_0.length : Int) := of_decide_eq_true (by first | (with_reducible assumption) | assumption)
                    obtain ⟨ad467, e467, hx467_0, hx467_1⟩ := at_T142 HR0_0.out x3_2 p467 q467
                    cases e467
                    replace hx467_0 := (HB.out.cell (World.block_lt_of_cell? w _ hx467_0)).trans hx467_0
                    replace hx467_1 := (HB.out.cell (World.block_lt_of_cell? w _ hx467_1)).trans hx467_1
                    replace p467 := eq_true p467
                    replace q467 := eq_true q467
                    go_wp2_with (first | ((with_reducible refine gate_callee (f := 114) rfl ?_); refine goesL_ (some 27) rfl rfl Try.func114 (by kernel_rfl) rfl #[.string ((rd_T142 l0_0 x3_2).f0)] rfl (by (try simp only [List.map_toArray, List.map_cons, List.map_nil]); first | done | rfl | (simp only [List.length_drop, List.length_take]; rfl)) ?_; (with_reducible refine (turncockref1_Name.calls k2 ((rd_T142 l0_0 x3_2).f0) true _ A10.out).mono ?_); rintro e w' ⟨rfl, ⟨nd, rfl⟩⟩; refine ⟨_, rfl, ?_⟩; have p469 : 0 ≤ (x3_2 : Int) := of_decide_eq_true (by first | (with_reducible assumption) | assumption); have q469 : x3_2 < (l0_0.length : Int) := of_decide_eq_true (by first | (with_reducible assumption) | assumption); obtain ⟨ad469, e469, hx469_0, hx469_1⟩ := at_T142 HR0_0.out x3_2 p469 q469; obtain rfl : ad467 = ad469 := (by injection e469); replace hx469_0 := (HB.out.cell (World.block_lt_of_cell? w _ hx469_0)).trans hx469_0; replace hx469_1 := (HB.out.cell (World.block_lt_of_cell? w _ hx469_1)).trans hx469_1; replace p469 := eq_true p469; replace q469 := eq_true q469))
                    go_roundg k2
                    case measure => have := HJ1.out; have := HK2.out; omega
                    case rel => exact ⟨(wrap64 (x3_2 + 1)), (by first | rfl | (simp; done) | (simp [*]; done)), H', ⟨by have := HJ1.out; have := HK2.out; omega⟩, ⟨by (with_reducible repeat (first | refine blk_drewN ?_ _ | refine blk_drew ?_ | refine blk_alloc ?_ _)); exact BK466.out⟩, ⟨by repeat (first | (with_reducible first | exact HB.out | apply below_alloc | apply pw_below_drewN | apply below_drew1 | refine below_set ?_ GE466.out) | exact HB.out)⟩⟩
                · replace c11 := Bool.eq_false_iff.mpr c11
                  subst c11
                  have H1 : (some false) = some r := by rw [if_neg (show ¬ (false = true) by decide)] at H; exact H
                  clear H
                  have H := H1
                  clear H1
                  obtain rfl := Option.some.inj H
                  have hcz15_0 : wr.cell? ⟨gb466, 0, none⟩ = some (.slice A0_0 l0_0.length c0_0) := (blk_cell BK466.out 0).trans rfl
                  have hfz15_0 := blk_frozen BK466.out 0
                  have p467 : 0 ≤ (x3_2 : Int) := of_decide_eq_true (by first | (with_reducible assumption) | assumption)
                  have q467 : x3_2 < (l0_0.length : Int) := of_decide_eq_true (by first | (with_reducible assumption) | assumption)
                  obtain ⟨ad467, e467, hx467_0, hx467_1⟩ := at_T142 HR0_0.out x3_2 p467 q467
                  cases e467
                  replace hx467_0 := (HB.out.cell (World.block_lt_of_cell? w _ hx467_0)).trans hx467_0
                  replace hx467_1 := (HB.out.cell (World.block_lt_of_cell? w _ hx467_1)).trans hx467_1
                  replace p467 := eq_true p467
                  replace q467 := eq_true q467
                  go_wp2_with (first | ((with_reducible refine gate_callee (f := 114) rfl ?_); refine goesL_ (some 27) rfl rfl Try.func114 (by kernel_rfl) rfl #[.string ((rd_T142 l0_0 x3_2).f0)] rfl (by (try simp only [List.map_toArray, List.map_cons, List.map_nil]); first | done | rfl | (simp only [List.length_drop, List.length_take]; rfl)) ?_; (with_reducible refine (turncockref1_Name.calls k2 ((rd_T142 l0_0 x3_2).f0) false _ A10.out).mono ?_); rintro e w' ⟨rfl, ⟨nd, rfl⟩⟩; refine ⟨_, rfl, ?_⟩))
                  go_ret
                  exact ⟨by first | rfl | (simp [errW_none, errW_some] <;> rfl) | (simp [*, errW_none, errW_some] <;> rfl), by repeat (first | (with_reducible first | exact HB.out | apply below_alloc | apply pw_below_drewN | apply below_drew1 | refine below_set ?_ GE466.out) | exact HB.out)⟩
              · rw [if_neg c9] at H
                exact absurd H (by simp)
            · rw [if_neg c8] at H
              have c8b0 : decide (x3_2 < (l0_0.length : Int)) = false := decide_eq_false c8
              clear c8
              obtain rfl := Option.some.inj H
              have hcz16_0 : wr.cell? ⟨gb466, 0, none⟩ = some (.slice A0_0 l0_0.length c0_0) := (blk_cell BK466.out 0).trans rfl
              have hfz16_0 := blk_frozen BK466.out 0
              go_wp2
              go_ret
              exact ⟨by first | rfl | (simp [errW_none, errW_some] <;> rfl) | (simp [*, errW_none, errW_some] <;> rfl), by repeat (first | (with_reducible first | exact HB.out | apply below_alloc | apply pw_below_drewN | apply below_drew1 | refine below_set ?_ GE466.out) | exact HB.out)⟩

/-! ### turncockref1_CheckAsk: function 81 -/
mutual
def turncockref1_CheckAsk.j0 : Nat → Bool → Int → ByteArray → Int → List (S140) → Option (Bool)
  | 0, _, _, _, _, _ => none
  | k + 1, x39, x471000, x471001, x471002, x471003 => if x39 = true then (some false) else (turncockref1_CheckAsk.l0 k 0 x471000 x471001 x471002 x471003)
def turncockref1_CheckAsk.l0 : Nat → Int → Int → ByteArray → Int → List (S140) → Option (Bool)
  | 0, _, _, _, _, _ => none
  | k + 1, x3, x471000, x471001, x471002, x471003 => if x3 < (x471003.length : Int) then (if 0 ≤ x3 then ((turncockref1_CheckDesc.f k ((rd_T140 x471003 x3).f0)).bind fun t473 => (if t473 = true then (turncockref1_CheckAsk.l0 k (wrap64 (x3 + 1)) x471000 x471001 x471002 x471003) else (some false))) else (none)) else (some true)
end
def turncockref1_CheckAsk.f (k : Nat) (a0_0 : Int) (a0_1 : ByteArray) (a0_2 : Int) (l0_3 : List (S140)) : Option (Bool) := if a0_0 < 0 then (turncockref1_CheckAsk.j0 k true a0_0 a0_1 a0_2 l0_3) else (if a0_0 > 2147483647 then (turncockref1_CheckAsk.j0 k true a0_0 a0_1 a0_2 l0_3) else ((turncockref1_Name.f k a0_1).bind fun t471 => (if t471 = true then (if a0_2 < 0 then (turncockref1_CheckAsk.j0 k true a0_0 a0_1 a0_2 l0_3) else (if a0_2 > 4294967295 then (turncockref1_CheckAsk.j0 k true a0_0 a0_1 a0_2 l0_3) else (if (l0_3.length : Int) < 1 then (turncockref1_CheckAsk.j0 k true a0_0 a0_1 a0_2 l0_3) else (turncockref1_CheckAsk.j0 k (decide ((l0_3.length : Int) > 16)) a0_0 a0_1 a0_2 l0_3)))) else (turncockref1_CheckAsk.j0 k true a0_0 a0_1 a0_2 l0_3))))
theorem turncockref1_CheckAsk.mono_l : ∀ k, (∀ y0 y1 y2 y3 y4, LeO (turncockref1_CheckAsk.j0 k y0 y1 y2 y3 y4) (turncockref1_CheckAsk.j0 (k + 1) y0 y1 y2 y3 y4)) ∧ (∀ y0 y1 y2 y3 y4, LeO (turncockref1_CheckAsk.l0 k y0 y1 y2 y3 y4) (turncockref1_CheckAsk.l0 (k + 1) y0 y1 y2 y3 y4))
  | 0 => ⟨fun _ _ _ _ _ r h => by simp [turncockref1_CheckAsk.j0] at h, fun _ _ _ _ _ r h => by simp [turncockref1_CheckAsk.l0] at h⟩
  | k + 1 => by
    obtain ⟨ih0, ih1⟩ := turncockref1_CheckAsk.mono_l k
    refine ⟨?_, ?_⟩
    · intro y0 y1 y2 y3 y4
      unfold turncockref1_CheckAsk.j0
      repeat' first
      | (with_reducible exact ih0 _ _ _ _ _)
      | (with_reducible exact ih1 _ _ _ _ _)
      | (with_reducible exact turncockref1_CheckDesc.mono _ _)
      | (with_reducible exact turncockref1_Name.mono _ _)
      | (with_reducible exact LeO.refl _)
      | (with_reducible exact LeO.none _)
      | (with_reducible refine LeO.ite ?_ ?_)
      | (with_reducible refine LeO.bind ?_ (fun _ => ?_))
      | exact ih0 _ _ _ _ _
      | exact ih1 _ _ _ _ _
      | exact turncockref1_CheckDesc.mono _ _
      | exact turncockref1_Name.mono _ _
      | exact LeO.none _
      | refine LeO.ite ?_ ?_
      | refine LeO.bind ?_ (fun _ => ?_)
    · intro y0 y1 y2 y3 y4
      unfold turncockref1_CheckAsk.l0
      repeat' first
      | (with_reducible exact ih0 _ _ _ _ _)
      | (with_reducible exact ih1 _ _ _ _ _)
      | (with_reducible exact turncockref1_CheckDesc.mono _ _)
      | (with_reducible exact turncockref1_Name.mono _ _)
      | (with_reducible exact LeO.refl _)
      | (with_reducible exact LeO.none _)
      | (with_reducible refine LeO.ite ?_ ?_)
      | (with_reducible refine LeO.bind ?_ (fun _ => ?_))
      | exact ih0 _ _ _ _ _
      | exact ih1 _ _ _ _ _
      | exact turncockref1_CheckDesc.mono _ _
      | exact turncockref1_Name.mono _ _
      | exact LeO.none _
      | refine LeO.ite ?_ ?_
      | refine LeO.bind ?_ (fun _ => ?_)
theorem turncockref1_CheckAsk.mono : ∀ a0 a1 a2 a3 k, LeO (turncockref1_CheckAsk.f k a0 a1 a2 a3) (turncockref1_CheckAsk.f (k + 1) a0 a1 a2 a3) := by
  intro a0 a1 a2 a3 k
  obtain ⟨ih0, ih1⟩ := turncockref1_CheckAsk.mono_l k
  unfold turncockref1_CheckAsk.f
  repeat' first
      | (with_reducible exact ih0 _ _ _ _ _)
      | (with_reducible exact ih1 _ _ _ _ _)
      | (with_reducible exact turncockref1_CheckDesc.mono _ _)
      | (with_reducible exact turncockref1_Name.mono _ _)
      | (with_reducible exact LeO.refl _)
      | (with_reducible exact LeO.none _)
      | (with_reducible refine LeO.ite ?_ ?_)
      | (with_reducible refine LeO.bind ?_ (fun _ => ?_))
      | exact ih0 _ _ _ _ _
      | exact ih1 _ _ _ _ _
      | exact turncockref1_CheckDesc.mono _ _
      | exact turncockref1_Name.mono _ _
      | exact LeO.none _
      | refine LeO.ite ?_ ?_
      | refine LeO.bind ?_ (fun _ => ?_)
set_option maxHeartbeats 8000000 in
set_option maxRecDepth 100000 in
theorem turncockref1_CheckAsk.calls (k : Nat) (a0_0 : Int) (a0_1 : ByteArray) (a0_2 : Int) (A0_3 : Option Addr) (c0_3 : Nat) (l0_3 : List (S140)) (r : Bool) (w : World) (hr0_3 : Kd.C k140 w A0_3 l0_3.length l0_3) (hc0_3 : l0_3.length ≤ c0_3) (h : turncockref1_CheckAsk.f k a0_0 a0_1 a0_2 l0_3 = some r) :
    Calls Try.prog 81 #[.agg #[.int .i64 a0_0, .string a0_1, .int .i64 a0_2, .slice A0_3 l0_3.length c0_3]] w fun e w' => e = .returned (.bool r) ∧ Below w.heap.size w w' := by
  have hu95 := Try.underlying95
  have hu140 := Try.underlying140
  have HR0_3 := Aside0.mk hr0_3
  have HC0_3 := Aside0.mk hc0_3
  clear hr0_3 hc0_3
  have HB := Aside0.mk (Below.refl w.heap.size w)
  have H : (if a0_0 < 0 then (turncockref1_CheckAsk.j0 k true a0_0 a0_1 a0_2 l0_3) else (if a0_0 > 2147483647 then (turncockref1_CheckAsk.j0 k true a0_0 a0_1 a0_2 l0_3) else ((turncockref1_Name.f k a0_1).bind fun t471 => (if t471 = true then (if a0_2 < 0 then (turncockref1_CheckAsk.j0 k true a0_0 a0_1 a0_2 l0_3) else (if a0_2 > 4294967295 then (turncockref1_CheckAsk.j0 k true a0_0 a0_1 a0_2 l0_3) else (if (l0_3.length : Int) < 1 then (turncockref1_CheckAsk.j0 k true a0_0 a0_1 a0_2 l0_3) else (turncockref1_CheckAsk.j0 k (decide ((l0_3.length : Int) > 16)) a0_0 a0_1 a0_2 l0_3)))) else (turncockref1_CheckAsk.j0 k true a0_0 a0_1 a0_2 l0_3))))) = some r := h
  clear h
  have HC2 := Aside0.mk H
  clear H
  go_enter Try.func81, Try.ntmps81
  go_upto_region 1 with (first | ((with_reducible refine gate_dst (N := 1) rfl ?_); (try (refine gate_guard (by rfl) ?_; dsimp only)); refine box_event ?hg (N := 1) ?hd (cs := #[.int .i64 a0_0, .string a0_1, .int .i64 a0_2, .slice A0_3 l0_3.length c0_3]) (t := 95) ?hr ?_; (case hd => rfl); (case hg => rfl); (case hr => first | (go_simp; done) | (go_simp; rfl)); intro gb470 hg w3 hbox hb; have n0_ := Aside0.mk (below_step (by repeat (first | (with_reducible first | exact HB.out | apply below_alloc | apply pw_below_drewN | apply below_drew1) | exact HB.out)) hb); have n1_ := Aside0.mk (hbox); have n2_ := Aside0.mk ((by rw [hg]; exact (below_size (by repeat (first | (with_reducible first | exact HB.out | apply below_alloc | apply pw_below_drewN | apply below_drew1) | exact HB.out))) : w.heap.size ≤ gb470)); have n3_ := Aside0.mk ((by rw [hg]; exact (below_size (by repeat (first | (with_reducible first | exact HB.out | apply below_alloc | apply pw_below_drewN | apply below_drew1) | exact HB.out))) : w.heap.size ≤ gb470)); clear HB; have HB := n0_; have BK470 := n1_; have GW470 := n2_; have GE470 := n3_; clear n0_ n1_ n2_ n3_; clear hb hbox hg))
  (try simp only [Act.put, List.setIfInBounds_toArray, List.set_cons_zero, List.set_cons_succ])
  go_cut [39] (fun v39 wc => ∃ (kq : Nat) (x39_1 : Bool), v39 = .bool x39_1 ∧ Aside0 (turncockref1_CheckAsk.j0 kq x39_1 a0_0 a0_1 a0_2 l0_3 = some r) ∧ Aside0 (kq ≤ k) ∧ Aside0 (wc.heap[gb470]? = some (.cells #[.int .i64 a0_0, .string a0_1, .int .i64 a0_2, (.slice A0_3 l0_3.length c0_3)] 95 (0, 0))) ∧ Aside0 (Below w.heap.size w wc))
  case first =>
    have H := HC2.out
    clear HC2
    by_cases c4 : a0_0 < 0
    · rw [if_pos c4] at H
      have c4b0 : decide (a0_0 < 0) = true := decide_eq_true c4
      clear c4
      (first | rw [c4b0] | (simp only [i64_w, i32_w]; rw [c4b0]) | skip)
      have H' := Aside0.mk H
      clear H
      have hcz5_0 : w3.cell? ⟨gb470, 0, none⟩ = some (.int .i64 a0_0) := (blk_cell BK470.out 0).trans rfl
      have hcz5_1 : w3.cell? ⟨gb470, 1, none⟩ = some (.string a0_1) := (blk_cell BK470.out 1).trans rfl
      have hcz5_2 : w3.cell? ⟨gb470, 2, none⟩ = some (.int .i64 a0_2) := (blk_cell BK470.out 2).trans rfl
      have hcz5_3 : w3.cell? ⟨gb470, 3, none⟩ = some (.slice A0_3 l0_3.length c0_3) := (blk_cell BK470.out 3).trans rfl
      have hfz5_0 := blk_frozen BK470.out 0
      have hfz5_1 := blk_frozen BK470.out 1
      have hfz5_2 := blk_frozen BK470.out 2
      have hfz5_3 := blk_frozen BK470.out 3
      go_wp2
      go_meet
      case rel => exact ⟨_, (true), (by first | rfl | (simp; done) | (simp [*]; done)), H', ⟨by first | omega | exact Nat.le_refl _⟩, ⟨by (with_reducible repeat (first | refine blk_drewN ?_ _ | refine blk_drew ?_ | refine blk_alloc ?_ _)); exact BK470.out⟩, ⟨by repeat (first | (with_reducible first | exact HB.out | apply below_alloc | apply pw_below_drewN | apply below_drew1 | refine below_set ?_ GE470.out) | exact HB.out)⟩⟩
    · rw [if_neg c4] at H
      have c4b0 : decide (a0_0 < 0) = false := decide_eq_false c4
      clear c4
      (first | rw [c4b0] | (simp only [i64_w, i32_w]; rw [c4b0]) | skip)
      by_cases c6 : a0_0 > 2147483647
      · rw [if_pos c6] at H
        have c6b0 : decide (2147483647 < a0_0) = true := decide_eq_true c6
        clear c6
        have H' := Aside0.mk H
        clear H
        have hcz7_0 : w3.cell? ⟨gb470, 0, none⟩ = some (.int .i64 a0_0) := (blk_cell BK470.out 0).trans rfl
        have hcz7_1 : w3.cell? ⟨gb470, 1, none⟩ = some (.string a0_1) := (blk_cell BK470.out 1).trans rfl
        have hcz7_2 : w3.cell? ⟨gb470, 2, none⟩ = some (.int .i64 a0_2) := (blk_cell BK470.out 2).trans rfl
        have hcz7_3 : w3.cell? ⟨gb470, 3, none⟩ = some (.slice A0_3 l0_3.length c0_3) := (blk_cell BK470.out 3).trans rfl
        have hfz7_0 := blk_frozen BK470.out 0
        have hfz7_1 := blk_frozen BK470.out 1
        have hfz7_2 := blk_frozen BK470.out 2
        have hfz7_3 := blk_frozen BK470.out 3
        go_wp2
        go_meet
        case rel => exact ⟨_, (true), (by first | rfl | (simp; done) | (simp [*]; done)), H', ⟨by first | omega | exact Nat.le_refl _⟩, ⟨by (with_reducible repeat (first | refine blk_drewN ?_ _ | refine blk_drew ?_ | refine blk_alloc ?_ _)); exact BK470.out⟩, ⟨by repeat (first | (with_reducible first | exact HB.out | apply below_alloc | apply pw_below_drewN | apply below_drew1 | refine below_set ?_ GE470.out) | exact HB.out)⟩⟩
      · rw [if_neg c6] at H
        have c6b0 : decide (2147483647 < a0_0) = false := decide_eq_false c6
        clear c6
        replace H := Option.bind_eq_some_iff.mp H
        obtain ⟨t471, A80, H⟩ := H
        replace H : (if t471 = true then (if a0_2 < 0 then (turncockref1_CheckAsk.j0 k true a0_0 a0_1 a0_2 l0_3) else (if a0_2 > 4294967295 then (turncockref1_CheckAsk.j0 k true a0_0 a0_1 a0_2 l0_3) else (if (l0_3.length : Int) < 1 then (turncockref1_CheckAsk.j0 k true a0_0 a0_1 a0_2 l0_3) else (turncockref1_CheckAsk.j0 k (decide ((l0_3.length : Int) > 16)) a0_0 a0_1 a0_2 l0_3)))) else (turncockref1_CheckAsk.j0 k true a0_0 a0_1 a0_2 l0_3)) = some r := H
        have A8 := Aside0.mk A80
        clear A80
        by_cases c9 : t471 = true
        · subst c9
          have H1 : (if a0_2 < 0 then (turncockref1_CheckAsk.j0 k true a0_0 a0_1 a0_2 l0_3) else (if a0_2 > 4294967295 then (turncockref1_CheckAsk.j0 k true a0_0 a0_1 a0_2 l0_3) else (if (l0_3.length : Int) < 1 then (turncockref1_CheckAsk.j0 k true a0_0 a0_1 a0_2 l0_3) else (turncockref1_CheckAsk.j0 k (decide ((l0_3.length : Int) > 16)) a0_0 a0_1 a0_2 l0_3)))) = some r := by rw [if_pos rfl] at H; exact H
          clear H
          have H := H1
          clear H1
          by_cases c10 : a0_2 < 0
          · rw [if_pos c10] at H
            have c10b0 : decide (a0_2 < 0) = true := decide_eq_true c10
            clear c10
            have H' := Aside0.mk H
            clear H
            have hcz11_0 : w3.cell? ⟨gb470, 0, none⟩ = some (.int .i64 a0_0) := (blk_cell BK470.out 0).trans rfl
            have hcz11_1 : w3.cell? ⟨gb470, 1, none⟩ = some (.string a0_1) := (blk_cell BK470.out 1).trans rfl
            have hcz11_2 : w3.cell? ⟨gb470, 2, none⟩ = some (.int .i64 a0_2) := (blk_cell BK470.out 2).trans rfl
            have hcz11_3 : w3.cell? ⟨gb470, 3, none⟩ = some (.slice A0_3 l0_3.length c0_3) := (blk_cell BK470.out 3).trans rfl
            have hfz11_0 := blk_frozen BK470.out 0
            have hfz11_1 := blk_frozen BK470.out 1
            have hfz11_2 := blk_frozen BK470.out 2
            have hfz11_3 := blk_frozen BK470.out 3
            go_wp2_with (first | (go_at_call 114; (with_reducible refine (turncockref1_Name.calls k a0_1 true _ A8.out).mono ?_); rintro e w' ⟨rfl, ⟨nd, rfl⟩⟩))
            go_meet
            case rel => exact ⟨_, (true), (by first | rfl | (simp; done) | (simp [*]; done)), H', ⟨by first | omega | exact Nat.le_refl _⟩, ⟨by (with_reducible repeat (first | refine blk_drewN ?_ _ | refine blk_drew ?_ | refine blk_alloc ?_ _)); exact BK470.out⟩, ⟨by repeat (first | (with_reducible first | exact HB.out | apply below_alloc | apply pw_below_drewN | apply below_drew1 | refine below_set ?_ GE470.out) | exact HB.out)⟩⟩
          · rw [if_neg c10] at H
            have c10b0 : decide (a0_2 < 0) = false := decide_eq_false c10
            clear c10
            by_cases c12 : a0_2 > 4294967295
            · rw [if_pos c12] at H
              have c12b0 : decide (4294967295 < a0_2) = true := decide_eq_true c12
              clear c12
              have H' := Aside0.mk H
              clear H
              have hcz13_0 : w3.cell? ⟨gb470, 0, none⟩ = some (.int .i64 a0_0) := (blk_cell BK470.out 0).trans rfl
              have hcz13_1 : w3.cell? ⟨gb470, 1, none⟩ = some (.string a0_1) := (blk_cell BK470.out 1).trans rfl
              have hcz13_2 : w3.cell? ⟨gb470, 2, none⟩ = some (.int .i64 a0_2) := (blk_cell BK470.out 2).trans rfl
              have hcz13_3 : w3.cell? ⟨gb470, 3, none⟩ = some (.slice A0_3 l0_3.length c0_3) := (blk_cell BK470.out 3).trans rfl
              have hfz13_0 := blk_frozen BK470.out 0
              have hfz13_1 := blk_frozen BK470.out 1
              have hfz13_2 := blk_frozen BK470.out 2
              have hfz13_3 := blk_frozen BK470.out 3
              go_wp2_with (first | (go_at_call 114; (with_reducible refine (turncockref1_Name.calls k a0_1 true _ A8.out).mono ?_); rintro e w' ⟨rfl, ⟨nd, rfl⟩⟩))
              go_meet
              case rel => exact ⟨_, (true), (by first | rfl | (simp; done) | (simp [*]; done)), H', ⟨by first | omega | exact Nat.le_refl _⟩, ⟨by (with_reducible repeat (first | refine blk_drewN ?_ _ | refine blk_drew ?_ | refine blk_alloc ?_ _)); exact BK470.out⟩, ⟨by repeat (first | (with_reducible first | exact HB.out | apply below_alloc | apply pw_below_drewN | apply below_drew1 | refine below_set ?_ GE470.out) | exact HB.out)⟩⟩
            · rw [if_neg c12] at H
              have c12b0 : decide (4294967295 < a0_2) = false := decide_eq_false c12
              clear c12
              by_cases c14 : (l0_3.length : Int) < 1
              · rw [if_pos c14] at H
                have c14b0 : decide ((l0_3.length : Int) < 1) = true := decide_eq_true c14
                have c14b1 : decide (l0_3.length < 1) = true := decide_eq_true (by omega)
                clear c14
                have H' := Aside0.mk H
                clear H
                have hcz15_0 : w3.cell? ⟨gb470, 0, none⟩ = some (.int .i64 a0_0) := (blk_cell BK470.out 0).trans rfl
                have hcz15_1 : w3.cell? ⟨gb470, 1, none⟩ = some (.string a0_1) := (blk_cell BK470.out 1).trans rfl
                have hcz15_2 : w3.cell? ⟨gb470, 2, none⟩ = some (.int .i64 a0_2) := (blk_cell BK470.out 2).trans rfl
                have hcz15_3 : w3.cell? ⟨gb470, 3, none⟩ = some (.slice A0_3 l0_3.length c0_3) := (blk_cell BK470.out 3).trans rfl
                have hfz15_0 := blk_frozen BK470.out 0
                have hfz15_1 := blk_frozen BK470.out 1
                have hfz15_2 := blk_frozen BK470.out 2
                have hfz15_3 := blk_frozen BK470.out 3
                go_wp2_with (first | (go_at_call 114; (with_reducible refine (turncockref1_Name.calls k a0_1 true _ A8.out).mono ?_); rintro e w' ⟨rfl, ⟨nd, rfl⟩⟩))
                go_meet
                case rel => exact ⟨_, (true), (by first | rfl | (simp; done) | (simp [*]; done)), H', ⟨by first | omega | exact Nat.le_refl _⟩, ⟨by (with_reducible repeat (first | refine blk_drewN ?_ _ | refine blk_drew ?_ | refine blk_alloc ?_ _)); exact BK470.out⟩, ⟨by repeat (first | (with_reducible first | exact HB.out | apply below_alloc | apply pw_below_drewN | apply below_drew1 | refine below_set ?_ GE470.out) | exact HB.out)⟩⟩
              · rw [if_neg c14] at H
                have c14b0 : decide ((l0_3.length : Int) < 1) = false := decide_eq_false c14
                have c14b1 : decide (l0_3.length < 1) = false := decide_eq_false (by omega)
                clear c14
                have H' := Aside0.mk H
                clear H
                have hcz16_0 : w3.cell? ⟨gb470, 0, none⟩ = some (.int .i64 a0_0) := (blk_cell BK470.out 0).trans rfl
                have hcz16_1 : w3.cell? ⟨gb470, 1, none⟩ = some (.string a0_1) := (blk_cell BK470.out 1).trans rfl
                have hcz16_2 : w3.cell? ⟨gb470, 2, none⟩ = some (.int .i64 a0_2) := (blk_cell BK470.out 2).trans rfl
                have hcz16_3 : w3.cell? ⟨gb470, 3, none⟩ = some (.slice A0_3 l0_3.length c0_3) := (blk_cell BK470.out 3).trans rfl
                have hfz16_0 := blk_frozen BK470.out 0
                have hfz16_1 := blk_frozen BK470.out 1
                have hfz16_2 := blk_frozen BK470.out 2
                have hfz16_3 := blk_frozen BK470.out 3
                go_wp2_with (first | (go_at_call 114; (with_reducible refine (turncockref1_Name.calls k a0_1 true _ A8.out).mono ?_); rintro e w' ⟨rfl, ⟨nd, rfl⟩⟩))
                go_meet
                case rel => exact ⟨_, (decide ((l0_3.length : Int) > 16)), (by first | rfl | (simp; done) | (simp [*]; done)), H', ⟨by first | omega | exact Nat.le_refl _⟩, ⟨by (with_reducible repeat (first | refine blk_drewN ?_ _ | refine blk_drew ?_ | refine blk_alloc ?_ _)); exact BK470.out⟩, ⟨by repeat (first | (with_reducible first | exact HB.out | apply below_alloc | apply pw_below_drewN | apply below_drew1 | refine below_set ?_ GE470.out) | exact HB.out)⟩⟩
        · replace c9 := Bool.eq_false_iff.mpr c9
          subst c9
          have H1 : (turncockref1_CheckAsk.j0 k true a0_0 a0_1 a0_2 l0_3) = some r := by rw [if_neg (show ¬ (false = true) by decide)] at H; exact H
          clear H
          have H := H1
          clear H1
          have H' := Aside0.mk H
          clear H
          have hcz17_0 : w3.cell? ⟨gb470, 0, none⟩ = some (.int .i64 a0_0) := (blk_cell BK470.out 0).trans rfl
          have hcz17_1 : w3.cell? ⟨gb470, 1, none⟩ = some (.string a0_1) := (blk_cell BK470.out 1).trans rfl
          have hcz17_2 : w3.cell? ⟨gb470, 2, none⟩ = some (.int .i64 a0_2) := (blk_cell BK470.out 2).trans rfl
          have hcz17_3 : w3.cell? ⟨gb470, 3, none⟩ = some (.slice A0_3 l0_3.length c0_3) := (blk_cell BK470.out 3).trans rfl
          have hfz17_0 := blk_frozen BK470.out 0
          have hfz17_1 := blk_frozen BK470.out 1
          have hfz17_2 := blk_frozen BK470.out 2
          have hfz17_3 := blk_frozen BK470.out 3
          go_wp2_with (first | (go_at_call 114; (with_reducible refine (turncockref1_Name.calls k a0_1 false _ A8.out).mono ?_); rintro e w' ⟨rfl, ⟨nd, rfl⟩⟩))
          go_meet
          case rel => exact ⟨_, (true), (by first | rfl | (simp; done) | (simp [*]; done)), H', ⟨by first | omega | exact Nat.le_refl _⟩, ⟨by (with_reducible repeat (first | refine blk_drewN ?_ _ | refine blk_drew ?_ | refine blk_alloc ?_ _)); exact BK470.out⟩, ⟨by repeat (first | (with_reducible first | exact HB.out | apply below_alloc | apply pw_below_drewN | apply below_drew1 | refine below_set ?_ GE470.out) | exact HB.out)⟩⟩
  case rest =>
    clear HC2
    try clear c1
    try clear p2
    try clear c4
    try clear c4b0
    try clear c6
    try clear c6b0
    try clear c8
    try clear c9
    try clear c10
    try clear c10b0
    try clear c12
    try clear c12b0
    try clear c14
    try clear c14b0
    try clear c14b1
    try clear hcz11_0
    try clear hcz11_1
    try clear hcz11_2
    try clear hcz11_3
    try clear hcz13_0
    try clear hcz13_1
    try clear hcz13_2
    try clear hcz13_3
    try clear hcz15_0
    try clear hcz15_1
    try clear hcz15_2
    try clear hcz15_3
    try clear hcz16_0
    try clear hcz16_1
    try clear hcz16_2
    try clear hcz16_3
    try clear hcz17_0
    try clear hcz17_1
    try clear hcz17_2
    try clear hcz17_3
    try clear hcz5_0
    try clear hcz5_1
    try clear hcz5_2
    try clear hcz5_3
    try clear hcz7_0
    try clear hcz7_1
    try clear hcz7_2
    try clear hcz7_3
    try clear hfz11_0
    try clear hfz11_1
    try clear hfz11_2
    try clear hfz11_3
    try clear hfz13_0
    try clear hfz13_1
    try clear hfz13_2
    try clear hfz13_3
    try clear hfz15_0
    try clear hfz15_1
    try clear hfz15_2
    try clear hfz15_3
    try clear hfz16_0
    try clear hfz16_1
    try clear hfz16_2
    try clear hfz16_3
    try clear hfz17_0
    try clear hfz17_1
    try clear hfz17_2
    try clear hfz17_3
    try clear hfz5_0
    try clear hfz5_1
    try clear hfz5_2
    try clear hfz5_3
    try clear hfz7_0
    try clear hfz7_1
    try clear hfz7_2
    try clear hfz7_3
    obtain ⟨kq, x39_1, rfl, HA, HJ1, BK470, HB⟩ := hcut
    cases kq with
    | zero => exact absurd HA.out (by simp [turncockref1_CheckAsk.j0])
    | succ kj1 =>
      have H := HA.out
      clear HA
      simp only [turncockref1_CheckAsk.j0] at H
      by_cases c18 : x39_1 = true
      · subst c18
        have H1 : (some false) = some r := by rw [if_pos rfl] at H; exact H
        clear H
        have H := H1
        clear H1
        obtain rfl := Option.some.inj H
        go_wp2
        go_ret
        exact ⟨by first | rfl | (simp [errW_none, errW_some] <;> rfl) | (simp [*, errW_none, errW_some] <;> rfl), by repeat (first | (with_reducible first | exact HB.out | apply below_alloc | apply pw_below_drewN | apply below_drew1 | refine below_set ?_ GE470.out) | exact HB.out)⟩
      · replace c18 := Bool.eq_false_iff.mpr c18
        subst c18
        have H1 : (turncockref1_CheckAsk.l0 kj1 0 a0_0 a0_1 a0_2 l0_3) = some r := by rw [if_neg (show ¬ (false = true) by decide)] at H; exact H
        clear H
        have H := H1
        clear H1
        have H' := Aside0.mk H
        clear H
        go_wp2
        go_loopg [3] kj1 (fun kq v3 w' => ∃ (x3_2 : Int), v3 = .int .i64 x3_2 ∧ Aside0 (turncockref1_CheckAsk.l0 kq x3_2 a0_0 a0_1 a0_2 l0_3 = some r) ∧ Aside0 (kq ≤ kj1) ∧ Aside0 (w'.heap[gb470]? = some (.cells #[.int .i64 a0_0, .string a0_1, .int .i64 a0_2, (.slice A0_3 l0_3.length c0_3)] 95 (0, 0))) ∧ Aside0 (Below w.heap.size w w'))
        case atStart => exact ⟨(0), (by first | rfl | (simp; done) | (simp [*]; done)), H', ⟨Nat.le_refl _⟩, ⟨by (with_reducible repeat (first | refine blk_drewN ?_ _ | refine blk_drew ?_ | refine blk_alloc ?_ _)); exact BK470.out⟩, ⟨by repeat (first | (with_reducible first | exact HB.out | apply below_alloc | apply pw_below_drewN | apply below_drew1 | refine below_set ?_ GE470.out) | exact HB.out)⟩⟩
        case round =>
          clear H'
          try clear c1
          try clear p2
          try clear c4
          try clear c4b0
          try clear c6
          try clear c6b0
          try clear c8
          try clear c9
          try clear c10
          try clear c10b0
          try clear c12
          try clear c12b0
          try clear c14
          try clear c14b0
          try clear c14b1
          try clear c18
          try clear hcz11_0
          try clear hcz11_1
          try clear hcz11_2
          try clear hcz11_3
          try clear hcz13_0
          try clear hcz13_1
          try clear hcz13_2
          try clear hcz13_3
          try clear hcz15_0
          try clear hcz15_1
          try clear hcz15_2
          try clear hcz15_3
          try clear hcz16_0
          try clear hcz16_1
          try clear hcz16_2
          try clear hcz16_3
          try clear hcz17_0
          try clear hcz17_1
          try clear hcz17_2
          try clear hcz17_3
          try clear hcz5_0
          try clear hcz5_1
          try clear hcz5_2
          try clear hcz5_3
          try clear hcz7_0
          try clear hcz7_1
          try clear hcz7_2
          try clear hcz7_3
          try clear hfz11_0
          try clear hfz11_1
          try clear hfz11_2
          try clear hfz11_3
          try clear hfz13_0
          try clear hfz13_1
          try clear hfz13_2
          try clear hfz13_3
          try clear hfz15_0
          try clear hfz15_1
          try clear hfz15_2
          try clear hfz15_3
          try clear hfz16_0
          try clear hfz16_1
          try clear hfz16_2
          try clear hfz16_3
          try clear hfz17_0
          try clear hfz17_1
          try clear hfz17_2
          try clear hfz17_3
          try clear hfz5_0
          try clear hfz5_1
          try clear hfz5_2
          try clear hfz5_3
          try clear hfz7_0
          try clear hfz7_1
          try clear hfz7_2
          try clear hfz7_3
          try clear p2
          obtain ⟨x3_2, rfl, HA, HK2, BK470, HB⟩ := hrel
          cases gk with
          | zero => exact absurd HA.out (by simp [turncockref1_CheckAsk.l0])
          | succ k2 =>
            have H := HA.out
            clear HA
            simp only [turncockref1_CheckAsk.l0] at H
            by_cases c19 : x3_2 < (l0_3.length : Int)
            · rw [if_pos c19] at H
              have c19b0 : decide (x3_2 < (l0_3.length : Int)) = true := decide_eq_true c19
              clear c19
              by_cases c20 : 0 ≤ x3_2
              · rw [if_pos c20] at H
                have c20b0 : decide (0 ≤ x3_2) = true := decide_eq_true c20
                clear c20
                replace H := Option.bind_eq_some_iff.mp H
                obtain ⟨t473, A210, H⟩ := H
                replace H : (if t473 = true then (turncockref1_CheckAsk.l0 k2 (wrap64 (x3_2 + 1)) a0_0 a0_1 a0_2 l0_3) else (some false)) = some r := H
                have A21 := Aside0.mk A210
                clear A210
                by_cases c22 : t473 = true
                · subst c22
                  have H1 : (turncockref1_CheckAsk.l0 k2 (wrap64 (x3_2 + 1)) a0_0 a0_1 a0_2 l0_3) = some r := by rw [if_pos rfl] at H; exact H
                  clear H
                  have H := H1
                  clear H1
                  have H' := Aside0.mk H
                  clear H
                  have hcz23_0 : wr.cell? ⟨gb470, 0, none⟩ = some (.int .i64 a0_0) := (blk_cell BK470.out 0).trans rfl
                  have hcz23_1 : wr.cell? ⟨gb470, 1, none⟩ = some (.string a0_1) := (blk_cell BK470.out 1).trans rfl
                  have hcz23_2 : wr.cell? ⟨gb470, 2, none⟩ = some (.int .i64 a0_2) := (blk_cell BK470.out 2).trans rfl
                  have hcz23_3 : wr.cell? ⟨gb470, 3, none⟩ = some (.slice A0_3 l0_3.length c0_3) := (blk_cell BK470.out 3).trans rfl
                  have hfz23_0 := blk_frozen BK470.out 0
                  have hfz23_1 := blk_frozen BK470.out 1
                  have hfz23_2 := blk_frozen BK470.out 2
                  have hfz23_3 := blk_frozen BK470.out 3
                  have p472 : 0 ≤ (x3_2 : Int) := of_decide_eq_true (by first | (with_reducible assumption) | assumption)
                  have q472 : x3_2 < (l0_3.length : Int) := of_decide_eq_true (by first | (with_reducible assumption) | assumption)
                  obtain ⟨ad472, A472_0, c472_0, e472, hx472_0, hl472_0, hi472_0⟩ := at_T140 HR0_3.out x3_2 p472 q472
                  cases e472
                  replace hx472_0 := (HB.out.cell (World.block_lt_of_cell? w _ hx472_0)).trans hx472_0
                  have HR472_0 := Aside0.mk hi472_0
                  have HC472_0 := Aside0.mk hl472_0
                  clear hi472_0 hl472_0
                  replace p472 := eq_true p472
                  replace q472 := eq_true q472
                  go_wp2_with (first | ((with_reducible refine gate_callee (f := 115) rfl ?_); refine goesL_ (some 52) rfl rfl Try.func115 (by kernel_rfl) rfl #[.agg #[.slice A472_0 ((rd_T140 l0_3 x3_2).f0).length c472_0]] rfl (by (try simp only [List.map_toArray, List.map_cons, List.map_nil]); first | done | rfl | (simp only [List.length_drop, List.length_take]; rfl)) ?_; (with_reducible refine (turncockref1_CheckDesc.calls k2 _ _ ((rd_T140 l0_3 x3_2).f0) true _ ?side1 ?side2 A21.out).mono ?_); (case side1 => repeat (first | exact (Kd.C_below HR472_0.out HB.out) | (with_reducible refine Kd.C_alloc ?_ _) | (with_reducible refine Kd.C_drewN ?_ _) | (with_reducible refine Kd.C_drew ?_))); (case side2 => exact HC472_0.out); rintro e w24 ⟨rfl, hb⟩; refine ⟨_, rfl, ?_⟩; have n0_ := Aside0.mk (blk_below (g := gb470) (o := .cells #[.int .i64 a0_0, .string a0_1, .int .i64 a0_2, .slice (some ad472) l0_3.length c0_3] 95 (0, 0)) (by (with_reducible repeat (first | refine blk_drewN ?_ _ | refine blk_drew ?_ | refine blk_alloc ?_ _)); exact BK470.out) hb); have n1_ := Aside0.mk (below_step (by repeat (first | (with_reducible first | exact HB.out | apply below_alloc | apply pw_below_drewN | apply below_drew1 | refine below_set ?_ GE470.out) | exact HB.out)) hb); clear BK470; clear HB; have BK470 := n0_; have HB := n1_; clear n0_ n1_; (try clear hb); (try clear hb2); (try clear hk); (try clear hi)))
                  go_roundg k2
                  case measure => have := HJ1.out; have := HK2.out; omega
                  case rel => exact ⟨(wrap64 (x3_2 + 1)), (by first | rfl | (simp; done) | (simp [*]; done)), H', ⟨by have := HJ1.out; have := HK2.out; omega⟩, ⟨by (with_reducible repeat (first | refine blk_drewN ?_ _ | refine blk_drew ?_ | refine blk_alloc ?_ _)); exact BK470.out⟩, ⟨by repeat (first | (with_reducible first | exact HB.out | apply below_alloc | apply pw_below_drewN | apply below_drew1 | refine below_set ?_ GE470.out) | exact HB.out)⟩⟩
                · replace c22 := Bool.eq_false_iff.mpr c22
                  subst c22
                  have H1 : (some false) = some r := by rw [if_neg (show ¬ (false = true) by decide)] at H; exact H
                  clear H
                  have H := H1
                  clear H1
                  obtain rfl := Option.some.inj H
                  have hcz25_0 : wr.cell? ⟨gb470, 0, none⟩ = some (.int .i64 a0_0) := (blk_cell BK470.out 0).trans rfl
                  have hcz25_1 : wr.cell? ⟨gb470, 1, none⟩ = some (.string a0_1) := (blk_cell BK470.out 1).trans rfl
                  have hcz25_2 : wr.cell? ⟨gb470, 2, none⟩ = some (.int .i64 a0_2) := (blk_cell BK470.out 2).trans rfl
                  have hcz25_3 : wr.cell? ⟨gb470, 3, none⟩ = some (.slice A0_3 l0_3.length c0_3) := (blk_cell BK470.out 3).trans rfl
                  have hfz25_0 := blk_frozen BK470.out 0
                  have hfz25_1 := blk_frozen BK470.out 1
                  have hfz25_2 := blk_frozen BK470.out 2
                  have hfz25_3 := blk_frozen BK470.out 3
                  have p472 : 0 ≤ (x3_2 : Int) := of_decide_eq_true (by first | (with_reducible assumption) | assumption)
                  have q472 : x3_2 < (l0_3.length : Int) := of_decide_eq_true (by first | (with_reducible assumption) | assumption)
                  obtain ⟨ad472, A472_0, c472_0, e472, hx472_0, hl472_0, hi472_0⟩ := at_T140 HR0_3.out x3_2 p472 q472
                  cases e472
                  replace hx472_0 := (HB.out.cell (World.block_lt_of_cell? w _ hx472_0)).trans hx472_0
                  have HR472_0 := Aside0.mk hi472_0
                  have HC472_0 := Aside0.mk hl472_0
                  clear hi472_0 hl472_0
                  replace p472 := eq_true p472
                  replace q472 := eq_true q472
                  go_wp2_with (first | ((with_reducible refine gate_callee (f := 115) rfl ?_); refine goesL_ (some 52) rfl rfl Try.func115 (by kernel_rfl) rfl #[.agg #[.slice A472_0 ((rd_T140 l0_3 x3_2).f0).length c472_0]] rfl (by (try simp only [List.map_toArray, List.map_cons, List.map_nil]); first | done | rfl | (simp only [List.length_drop, List.length_take]; rfl)) ?_; (with_reducible refine (turncockref1_CheckDesc.calls k2 _ _ ((rd_T140 l0_3 x3_2).f0) false _ ?side1 ?side2 A21.out).mono ?_); (case side1 => repeat (first | exact (Kd.C_below HR472_0.out HB.out) | (with_reducible refine Kd.C_alloc ?_ _) | (with_reducible refine Kd.C_drewN ?_ _) | (with_reducible refine Kd.C_drew ?_))); (case side2 => exact HC472_0.out); rintro e w26 ⟨rfl, hb⟩; refine ⟨_, rfl, ?_⟩; have n0_ := Aside0.mk (blk_below (g := gb470) (o := .cells #[.int .i64 a0_0, .string a0_1, .int .i64 a0_2, .slice (some ad472) l0_3.length c0_3] 95 (0, 0)) (by (with_reducible repeat (first | refine blk_drewN ?_ _ | refine blk_drew ?_ | refine blk_alloc ?_ _)); exact BK470.out) hb); have n1_ := Aside0.mk (below_step (by repeat (first | (with_reducible first | exact HB.out | apply below_alloc | apply pw_below_drewN | apply below_drew1 | refine below_set ?_ GE470.out) | exact HB.out)) hb); clear BK470; clear HB; have BK470 := n0_; have HB := n1_; clear n0_ n1_; (try clear hb); (try clear hb2); (try clear hk); (try clear hi)))
                  go_ret
                  exact ⟨by first | rfl | (simp [errW_none, errW_some] <;> rfl) | (simp [*, errW_none, errW_some] <;> rfl), by repeat (first | (with_reducible first | exact HB.out | apply below_alloc | apply pw_below_drewN | apply below_drew1 | refine below_set ?_ GE470.out) | exact HB.out)⟩
              · rw [if_neg c20] at H
                exact absurd H (by simp)
            · rw [if_neg c19] at H
              have c19b0 : decide (x3_2 < (l0_3.length : Int)) = false := decide_eq_false c19
              clear c19
              obtain rfl := Option.some.inj H
              have hcz27_0 : wr.cell? ⟨gb470, 0, none⟩ = some (.int .i64 a0_0) := (blk_cell BK470.out 0).trans rfl
              have hcz27_1 : wr.cell? ⟨gb470, 1, none⟩ = some (.string a0_1) := (blk_cell BK470.out 1).trans rfl
              have hcz27_2 : wr.cell? ⟨gb470, 2, none⟩ = some (.int .i64 a0_2) := (blk_cell BK470.out 2).trans rfl
              have hcz27_3 : wr.cell? ⟨gb470, 3, none⟩ = some (.slice A0_3 l0_3.length c0_3) := (blk_cell BK470.out 3).trans rfl
              have hfz27_0 := blk_frozen BK470.out 0
              have hfz27_1 := blk_frozen BK470.out 1
              have hfz27_2 := blk_frozen BK470.out 2
              have hfz27_3 := blk_frozen BK470.out 3
              go_wp2
              go_ret
              exact ⟨by first | rfl | (simp [errW_none, errW_some] <;> rfl) | (simp [*, errW_none, errW_some] <;> rfl), by repeat (first | (with_reducible first | exact HB.out | apply below_alloc | apply pw_below_drewN | apply below_drew1 | refine below_set ?_ GE470.out) | exact HB.out)⟩

end Go.Proofs.Ytnhblhhkjnmkkaa.Q
