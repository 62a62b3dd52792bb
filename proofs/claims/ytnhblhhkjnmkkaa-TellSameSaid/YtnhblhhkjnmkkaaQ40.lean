/- Printed by this session's own program out of the translation: each function as a plain Lean function, and its contract. -/
import Derived.Test.YtnhblhhkjnmkkaaQ0
import Derived.Test.YtnhblhhkjnmkkaaQ13
import Derived.Test.YtnhblhhkjnmkkaaQ39
namespace Go.Proofs.Ytnhblhhkjnmkkaa.Q
open Go.RowKit Go.Proofs.YtnhblhhkjnmkkaaW.PrintWords Go.Proofs.YtnhblhhkjnmkkaaW.PrintLast Go.Proofs.YtnhblhhkjnmkkaaW.PrintMore
attribute [local go_sem] max2_int min2_int max_two min_two max_three min_three max_four min_four   -- for this text's walks alone
set_option linter.unusedVariables false
set_option linter.unusedSimpArgs false

/-! ### turncockref1_EncodeTell: function 90 -/
mutual
def turncockref1_EncodeTell.j0 : Nat → Int → Int → Int → Bool → List (S154) → List (S152) → Option (List Int × Int)
  | 0, _, _, _, _, _, _ => none
  | k + 1, x4, x630000, x630001, x630002, x630003, x630004 => (turncockref1_num.f k (([2] : List Int)) x630000).bind fun t634 => ((turncockref1_num.f k t634 x630001).bind fun t637 => ((turncockref1_num.f k t637 x4).bind fun t640 => ((turncockref1_num.f k t640 (x630003.length : Int)).bind fun t643 => (turncockref1_EncodeTell.l0 k t643 0 x630000 x630001 x630002 x630003 x630004))))
def turncockref1_EncodeTell.l0 : Nat → List Int → Int → Int → Int → Bool → List (S154) → List (S152) → Option (List Int × Int)
  | 0, _, _, _, _, _, _, _ => none
  | k + 1, x5, x6, x630000, x630001, x630002, x630003, x630004 => if x6 < (x630003.length : Int) then (if 0 ≤ x6 then ((turncockref1_num.f k x5 ((rd_T154 x630003 x6).f0)).bind fun t648 => ((turncockref1_num.f k t648 ((rd_T154 x630003 x6).f1)).bind fun t651 => ((turncockref1_num.f k t651 ((rd_T154 x630003 x6).f2)).bind fun t654 => ((turncockref1_num.f k t654 ((rd_T154 x630003 x6).f3)).bind fun t657 => ((turncockref1_num.f k t657 ((rd_T154 x630003 x6).f4)).bind fun t660 => (turncockref1_EncodeTell.l0 k t660 (wrap64 (x6 + 1)) x630000 x630001 x630002 x630003 x630004)))))) else (none)) else ((turncockref1_num.f k x5 (x630004.length : Int)).bind fun t663 => (turncockref1_EncodeTell.l1 k t663 0 x630000 x630001 x630002 x630003 x630004))
def turncockref1_EncodeTell.l1 : Nat → List Int → Int → Int → Int → Bool → List (S154) → List (S152) → Option (List Int × Int)
  | 0, _, _, _, _, _, _, _ => none
  | k + 1, x5, x8, x630000, x630001, x630002, x630003, x630004 => if x8 < (x630004.length : Int) then (if 0 ≤ x8 then ((turncockref1_text.f k x5 ((rd_T152 x630004 x8).f0)).bind fun t667 => ((turncockref1_text.f k t667 ((rd_T152 x630004 x8).f1)).bind fun t671 => (turncockref1_EncodeTell.l1 k t671 (wrap64 (x8 + 1)) x630000 x630001 x630002 x630003 x630004))) else (none)) else (some (x5, 0))
end
def turncockref1_EncodeTell.f (k : Nat) (a0_0 : Int) (a0_1 : Int) (a0_2 : Bool) (l0_3 : List (S154)) (l0_4 : List (S152)) : Option (List Int × Int) := (turncockref1_CheckTell.f k a0_0 a0_1 a0_2 l0_3 l0_4).bind fun t630 => (if t630 = true then (if a0_2 = true then (turncockref1_EncodeTell.j0 k 1 a0_0 a0_1 a0_2 l0_3 l0_4) else (turncockref1_EncodeTell.j0 k 0 a0_0 a0_1 a0_2 l0_3 l0_4)) else (some (([] : List Int), 1)))
theorem turncockref1_EncodeTell.mono_l : ∀ k, (∀ y0 y1 y2 y3 y4 y5, LeO (turncockref1_EncodeTell.j0 k y0 y1 y2 y3 y4 y5) (turncockref1_EncodeTell.j0 (k + 1) y0 y1 y2 y3 y4 y5)) ∧ (∀ y0 y1 y2 y3 y4 y5 y6, LeO (turncockref1_EncodeTell.l0 k y0 y1 y2 y3 y4 y5 y6) (turncockref1_EncodeTell.l0 (k + 1) y0 y1 y2 y3 y4 y5 y6)) ∧ (∀ y0 y1 y2 y3 y4 y5 y6, LeO (turncockref1_EncodeTell.l1 k y0 y1 y2 y3 y4 y5 y6) (turncockref1_EncodeTell.l1 (k + 1) y0 y1 y2 y3 y4 y5 y6))
  | 0 => ⟨fun _ _ _ _ _ _ r h => by simp [turncockref1_EncodeTell.j0] at h, fun _ _ _ _ _ _ _ r h => by simp [turncockref1_EncodeTell.l0] at h, fun _ _ _ _ _ _ _ r h => by simp [turncockref1_EncodeTell.l1] at h⟩
  | k + 1 => by
    obtain ⟨ih0, ih1, ih2⟩ := turncockref1_EncodeTell.mono_l k
    refine ⟨?_, ?_, ?_⟩
    · intro y0 y1 y2 y3 y4 y5
      unfold turncockref1_EncodeTell.j0
      repeat' first
      | (with_reducible exact ih0 _ _ _ _ _ _)
      | (with_reducible exact ih1 _ _ _ _ _ _ _)
      | (with_reducible exact ih2 _ _ _ _ _ _ _)
      | (with_reducible exact turncockref1_CheckTell.mono _ _ _ _ _ _)
      | (with_reducible exact turncockref1_num.mono _ _ _)
      | (with_reducible exact turncockref1_text.mono _ _ _)
      | (with_reducible exact LeO.refl _)
      | (with_reducible exact LeO.none _)
      | (with_reducible refine LeO.ite ?_ ?_)
      | (with_reducible refine LeO.bind ?_ (fun _ => ?_))
      | exact ih0 _ _ _ _ _ _
      | exact ih1 _ _ _ _ _ _ _
      | exact ih2 _ _ _ _ _ _ _
      | exact turncockref1_CheckTell.mono _ _ _ _ _ _
      | exact turncockref1_num.mono _ _ _
      | exact turncockref1_text.mono _ _ _
      | exact LeO.none _
      | refine LeO.ite ?_ ?_
      | refine LeO.bind ?_ (fun _ => ?_)
    · intro y0 y1 y2 y3 y4 y5 y6
      unfold turncockref1_EncodeTell.l0
      repeat' first
      | (with_reducible exact ih0 _ _ _ _ _ _)
      | (with_reducible exact ih1 _ _ _ _ _ _ _)
      | (with_reducible exact ih2 _ _ _ _ _ _ _)
      | (with_reducible exact turncockref1_CheckTell.mono _ _ _ _ _ _)
      | (with_reducible exact turncockref1_num.mono _ _ _)
      | (with_reducible exact turncockref1_text.mono _ _ _)
      | (with_reducible exact LeO.refl _)
      | (with_reducible exact LeO.none _)
      | (with_reducible refine LeO.ite ?_ ?_)
      | (with_reducible refine LeO.bind ?_ (fun _ => ?_))
      | exact ih0 _ _ _ _ _ _
      | exact ih1 _ _ _ _ _ _ _
      | exact ih2 _ _ _ _ _ _ _
      | exact turncockref1_CheckTell.mono _ _ _ _ _ _
      | exact turncockref1_num.mono _ _ _
      | exact turncockref1_text.mono _ _ _
      | exact LeO.none _
      | refine LeO.ite ?_ ?_
      | refine LeO.bind ?_ (fun _ => ?_)
    · intro y0 y1 y2 y3 y4 y5 y6
      unfold turncockref1_EncodeTell.l1
      repeat' first
      | (with_reducible exact ih0 _ _ _ _ _ _)
      | (with_reducible exact ih1 _ _ _ _ _ _ _)
      | (with_reducible exact ih2 _ _ _ _ _ _ _)
      | (with_reducible exact turncockref1_CheckTell.mono _ _ _ _ _ _)
      | (with_reducible exact turncockref1_num.mono _ _ _)
      | (with_reducible exact turncockref1_text.mono _ _ _)
      | (with_reducible exact LeO.refl _)
      | (with_reducible exact LeO.none _)
      | (with_reducible refine LeO.ite ?_ ?_)
      | (with_reducible refine LeO.bind ?_ (fun _ => ?_))
      | exact ih0 _ _ _ _ _ _
      | exact ih1 _ _ _ _ _ _ _
      | exact ih2 _ _ _ _ _ _ _
      | exact turncockref1_CheckTell.mono _ _ _ _ _ _
      | exact turncockref1_num.mono _ _ _
      | exact turncockref1_text.mono _ _ _
      | exact LeO.none _
      | refine LeO.ite ?_ ?_
      | refine LeO.bind ?_ (fun _ => ?_)
theorem turncockref1_EncodeTell.mono : ∀ a0 a1 a2 a3 a4 k, LeO (turncockref1_EncodeTell.f k a0 a1 a2 a3 a4) (turncockref1_EncodeTell.f (k + 1) a0 a1 a2 a3 a4) := by
  intro a0 a1 a2 a3 a4 k
  obtain ⟨ih0, ih1, ih2⟩ := turncockref1_EncodeTell.mono_l k
  unfold turncockref1_EncodeTell.f
  repeat' first
      | (with_reducible exact ih0 _ _ _ _ _ _)
      | (with_reducible exact ih1 _ _ _ _ _ _ _)
      | (with_reducible exact ih2 _ _ _ _ _ _ _)
      | (with_reducible exact turncockref1_CheckTell.mono _ _ _ _ _ _)
      | (with_reducible exact turncockref1_num.mono _ _ _)
      | (with_reducible exact turncockref1_text.mono _ _ _)
      | (with_reducible exact LeO.refl _)
      | (with_reducible exact LeO.none _)
      | (with_reducible refine LeO.ite ?_ ?_)
      | (with_reducible refine LeO.bind ?_ (fun _ => ?_))
      | exact ih0 _ _ _ _ _ _
      | exact ih1 _ _ _ _ _ _ _
      | exact ih2 _ _ _ _ _ _ _
      | exact turncockref1_CheckTell.mono _ _ _ _ _ _
      | exact turncockref1_num.mono _ _ _
      | exact turncockref1_text.mono _ _ _
      | exact LeO.none _
      | refine LeO.ite ?_ ?_
      | refine LeO.bind ?_ (fun _ => ?_)
def turncockref1_EncodeTell.T6 : Bool × List (List Nat × List Nat) := (true, [([], []), ([], []), ([1], [1]), ([0, 2], [0, 2]), ([], []), ([4], [4]), ([3, 5, 3], [3, 5]), ([], []), ([6, 7, 6], [6, 7]), ([], []), ([9], [9]), ([10], [10]), ([8, 11, 8], [8, 11]), ([12, 12, 0, 1, 2, 3, 4, 5, 6, 7, 8, 9, 10, 11, 12], [12])])
def turncockref1_EncodeTell.B6 : List Nat := [0, 0, 2, 7, 0, 16, 63, 0, 255, 0, 512, 1536, 4095, 8191]
theorem turncockref1_EncodeTell.tab6 : rtab .any (opsOf Try.f90 6) = turncockref1_EncodeTell.T6 := by kernel_rfl
theorem turncockref1_EncodeTell.bits6 : waitsOk turncockref1_EncodeTell.T6.2 turncockref1_EncodeTell.B6 = true := by kernel_rfl
def turncockref1_EncodeTell.T11 : Bool × List (List Nat × List Nat) := (true, [([], []), ([], []), ([1], [1]), ([0, 2], [0, 2]), ([], []), ([4], [4]), ([3, 5, 3], [3, 5]), ([], []), ([7], [7]), ([6, 8, 6], [6, 8]), ([], []), ([10], [10]), ([9, 11, 9], [9, 11]), ([], []), ([13], [13]), ([12, 14, 12], [12, 14]), ([15, 15, 0, 1, 2, 3, 4, 5, 6, 7, 8, 9, 10, 11, 12, 13, 14, 15], [0, 15])])
def turncockref1_EncodeTell.B11 : List Nat := [0, 0, 2, 7, 0, 16, 63, 0, 128, 511, 0, 1024, 4095, 0, 8192, 32767, 65535]
theorem turncockref1_EncodeTell.tab11 : rtab .any (opsOf Try.f90 11) = turncockref1_EncodeTell.T11 := by kernel_rfl
theorem turncockref1_EncodeTell.bits11 : waitsOk turncockref1_EncodeTell.T11.2 turncockref1_EncodeTell.B11 = true := by kernel_rfl
def turncockref1_EncodeTell.T16 : Bool × List (List Nat × List Nat) := (true, [([], []), ([], []), ([1], [1]), ([], []), ([2, 3], [2, 3]), ([4], [4]), ([5], [5]), ([0, 6], [0, 6]), ([], []), ([8], [8]), ([], []), ([9, 10], [9, 10]), ([11], [11]), ([12], [12]), ([7, 13, 7], [7, 13]), ([14, 14, 0, 1, 2, 3, 4, 5, 6, 7, 8, 9, 10, 11, 12, 13, 14], [0, 14])])
def turncockref1_EncodeTell.B16 : List Nat := [0, 0, 2, 0, 14, 30, 62, 127, 0, 256, 0, 1792, 3840, 7936, 16383, 32767]
theorem turncockref1_EncodeTell.tab16 : rtab .any (opsOf Try.f90 16) = turncockref1_EncodeTell.T16 := by kernel_rfl
theorem turncockref1_EncodeTell.bits16 : waitsOk turncockref1_EncodeTell.T16.2 turncockref1_EncodeTell.B16 = true := by kernel_rfl
set_option maxHeartbeats 8000000 in
set_option maxRecDepth 100000 in
theorem turncockref1_EncodeTell.calls (k : Nat) (a0_0 : Int) (a0_1 : Int) (a0_2 : Bool) (A0_3 : Option Addr) (c0_3 : Nat) (l0_3 : List (S154)) (A0_4 : Option Addr) (c0_4 : Nat) (l0_4 : List (S152)) (r1 : List Int) (r2 : Int) (w : World) (hr0_3 : Kd.C k154 w A0_3 l0_3.length l0_3) (hc0_3 : l0_3.length ≤ c0_3) (hr0_4 : Kd.C k152 w A0_4 l0_4.length l0_4) (hc0_4 : l0_4.length ≤ c0_4) (h : turncockref1_EncodeTell.f k a0_0 a0_1 a0_2 l0_3 l0_4 = some (r1, r2)) :
    Calls Try.prog 90 #[.agg #[.int .i64 a0_0, .int .i64 a0_1, .bool a0_2, .slice A0_3 l0_3.length c0_3, .slice A0_4 l0_4.length c0_4]] w fun e w' => ∃ v0_ : Value, e = .returned (.tuple #[v0_, .int .i64 r2]) ∧ Kd.R (Kd.int .u8) 5 w' w.heap.size (fun _ => True) v0_ r1 ∧ Below w.heap.size w w' := by
  have hu108 := Try.underlying108
  have hu154 := Try.underlying154
  have HR0_3 := Aside0.mk hr0_3
  have HC0_3 := Aside0.mk hc0_3
  clear hr0_3 hc0_3
  have HR0_4 := Aside0.mk hr0_4
  have HC0_4 := Aside0.mk hc0_4
  clear hr0_4 hc0_4
  have HB := Aside0.mk (Below.refl w.heap.size w)
  have H : ((turncockref1_CheckTell.f k a0_0 a0_1 a0_2 l0_3 l0_4).bind fun t630 => (if t630 = true then (if a0_2 = true then (turncockref1_EncodeTell.j0 k 1 a0_0 a0_1 a0_2 l0_3 l0_4) else (turncockref1_EncodeTell.j0 k 0 a0_0 a0_1 a0_2 l0_3 l0_4)) else (some (([] : List Int), 1)))) = some (r1, r2) := h
  clear h
  replace H := Option.bind_eq_some_iff.mp H
  obtain ⟨t630, A20, H⟩ := H
  replace H : (if t630 = true then (if a0_2 = true then (turncockref1_EncodeTell.j0 k 1 a0_0 a0_1 a0_2 l0_3 l0_4) else (turncockref1_EncodeTell.j0 k 0 a0_0 a0_1 a0_2 l0_3 l0_4)) else (some (([] : List Int), 1))) = some (r1, r2) := H
  have A2 := Aside0.mk A20
  clear A20
  by_cases c3 : t630 = true
  · subst c3
    have H1 : (if a0_2 = true then (turncockref1_EncodeTell.j0 k 1 a0_0 a0_1 a0_2 l0_3 l0_4) else (turncockref1_EncodeTell.j0 k 0 a0_0 a0_1 a0_2 l0_3 l0_4)) = some (r1, r2) := by rw [if_pos rfl] at H; exact H
    clear H
    have H := H1
    clear H1
    have HC4 := Aside0.mk H
    clear H
    go_enter Try.func90, Try.ntmps90
    go_upto_if 13 with (first | ((with_reducible refine gate_dst (N := 1) rfl ?_); refine box_event ?hg (N := 1) ?hd (cs := #[.int .i64 a0_0, .int .i64 a0_1, .bool a0_2, .slice A0_3 l0_3.length c0_3, .slice A0_4 l0_4.length c0_4]) (t := 108) ?hr ?_; (case hd => rfl); (case hg => rfl); (case hr => first | (go_simp; done) | (go_simp; rfl)); intro gb629 hg w5 hbox hb; have n0_ := Aside0.mk (below_step (by repeat (first | (with_reducible first | exact HB.out | apply below_alloc | apply pw_below_drewN | apply below_drew1) | exact HB.out)) hb); have n1_ := Aside0.mk (hbox); have n2_ := Aside0.mk ((by rw [hg]; exact (below_size (by repeat (first | (with_reducible first | exact HB.out | apply below_alloc | apply pw_below_drewN | apply below_drew1) | exact HB.out))) : w.heap.size ≤ gb629)); have n3_ := Aside0.mk ((by rw [hg]; exact (below_size (by repeat (first | (with_reducible first | exact HB.out | apply below_alloc | apply pw_below_drewN | apply below_drew1) | exact HB.out))) : w.heap.size ≤ gb629)); clear HB; have HB := n0_; have BK629 := n1_; have GW629 := n2_; have GE629 := n3_; clear n0_ n1_ n2_ n3_; clear hb hbox hg; have hcz6_0 : w5.cell? ⟨gb629, 0, none⟩ = some (.int .i64 a0_0) := (blk_cell BK629.out 0).trans rfl; have hcz6_1 : w5.cell? ⟨gb629, 1, none⟩ = some (.int .i64 a0_1) := (blk_cell BK629.out 1).trans rfl; have hcz6_2 : w5.cell? ⟨gb629, 2, none⟩ = some (.bool a0_2) := (blk_cell BK629.out 2).trans rfl; have hcz6_3 : w5.cell? ⟨gb629, 3, none⟩ = some (.slice A0_3 l0_3.length c0_3) := (blk_cell BK629.out 3).trans rfl; have hcz6_4 : w5.cell? ⟨gb629, 4, none⟩ = some (.slice A0_4 l0_4.length c0_4) := (blk_cell BK629.out 4).trans rfl; have hfz6_0 := blk_frozen BK629.out 0; have hfz6_1 := blk_frozen BK629.out 1; have hfz6_2 := blk_frozen BK629.out 2; have hfz6_3 := blk_frozen BK629.out 3; have hfz6_4 := blk_frozen BK629.out 4) | ((with_reducible refine gate_callee (f := 92) rfl ?_); refine goesL_ (some 10) rfl rfl Try.func92 (by kernel_rfl) rfl #[.agg #[.int .i64 a0_0, .int .i64 a0_1, .bool a0_2, .slice A0_3 l0_3.length c0_3, .slice A0_4 l0_4.length c0_4]] rfl (by (try simp only [List.map_toArray, List.map_cons, List.map_nil]); first | done | rfl | (simp only [List.length_drop, List.length_take]; rfl)) ?_; (with_reducible refine (turncockref1_CheckTell.calls k a0_0 a0_1 a0_2 _ _ l0_3 _ _ l0_4 true _ ?side1 ?side2 ?side3 ?side4 A2.out).mono ?_); (case side1 => repeat (first | exact (Kd.C_below HR0_3.out HB.out) | (with_reducible refine Kd.C_alloc ?_ _) | (with_reducible refine Kd.C_drewN ?_ _) | (with_reducible refine Kd.C_drew ?_))); (case side2 => exact HC0_3.out); (case side3 => repeat (first | exact (Kd.C_below HR0_4.out HB.out) | (with_reducible refine Kd.C_alloc ?_ _) | (with_reducible refine Kd.C_drewN ?_ _) | (with_reducible refine Kd.C_drew ?_))); (case side4 => exact HC0_4.out); rintro e w7 ⟨rfl, hb⟩; refine ⟨_, rfl, ?_⟩; have n0_ := Aside0.mk (blk_below (g := gb629) (o := .cells #[.int .i64 a0_0, .int .i64 a0_1, .bool a0_2, .slice A0_3 l0_3.length c0_3, .slice A0_4 l0_4.length c0_4] 108 (0, 0)) (by (with_reducible repeat (first | refine blk_drewN ?_ _ | refine blk_drew ?_ | refine blk_alloc ?_ _)); exact BK629.out) hb); have n1_ := Aside0.mk (below_step (by repeat (first | (with_reducible first | exact HB.out | apply below_alloc | apply pw_below_drewN | apply below_drew1 | refine below_set ?_ GE629.out) | exact HB.out)) hb); clear BK629; clear HB; have BK629 := n0_; have HB := n1_; clear n0_ n1_; (try clear hb); (try clear hb2); (try clear hk); (try clear hi); have hcz8_0 : w7.cell? ⟨gb629, 0, none⟩ = some (.int .i64 a0_0) := (blk_cell BK629.out 0).trans rfl; have hcz8_1 : w7.cell? ⟨gb629, 1, none⟩ = some (.int .i64 a0_1) := (blk_cell BK629.out 1).trans rfl; have hcz8_2 : w7.cell? ⟨gb629, 2, none⟩ = some (.bool a0_2) := (blk_cell BK629.out 2).trans rfl; have hcz8_3 : w7.cell? ⟨gb629, 3, none⟩ = some (.slice A0_3 l0_3.length c0_3) := (blk_cell BK629.out 3).trans rfl; have hcz8_4 : w7.cell? ⟨gb629, 4, none⟩ = some (.slice A0_4 l0_4.length c0_4) := (blk_cell BK629.out 4).trans rfl; have hfz8_0 := blk_frozen BK629.out 0; have hfz8_1 := blk_frozen BK629.out 1; have hfz8_2 := blk_frozen BK629.out 2; have hfz8_3 := blk_frozen BK629.out 3; have hfz8_4 := blk_frozen BK629.out 4))
    (try simp only [Act.put, List.setIfInBounds_toArray, List.set_cons_zero, List.set_cons_succ])
    go_cut [4] (fun v4 wc => ∃ (kq : Nat) (x4_3 : Int), v4 = .int .i64 x4_3 ∧ Aside0 (turncockref1_EncodeTell.j0 kq x4_3 a0_0 a0_1 a0_2 l0_3 l0_4 = some (r1, r2)) ∧ Aside0 (kq ≤ k) ∧ Aside0 (wc.heap[gb629]? = some (.cells #[.int .i64 a0_0, .int .i64 a0_1, .bool a0_2, (.slice A0_3 l0_3.length c0_3), (.slice A0_4 l0_4.length c0_4)] 108 (0, 0))) ∧ Aside0 (Below w.heap.size w wc))
    case first =>
      have H := HC4.out
      clear HC4
      by_cases c9 : a0_2 = true
      · subst c9
        have H1 : (turncockref1_EncodeTell.j0 k 1 a0_0 a0_1 true l0_3 l0_4) = some (r1, r2) := by rw [if_pos rfl] at H; exact H
        clear H
        have H := H1
        clear H1
        have H' := Aside0.mk H
        clear H
        go_wp2
        go_meet
        case rel => exact ⟨_, (1), (by first | rfl | (simp; done) | (simp [*]; done)), H', ⟨by first | omega | exact Nat.le_refl _⟩, ⟨by (with_reducible repeat (first | refine blk_drewN ?_ _ | refine blk_drew ?_ | refine blk_alloc ?_ _)); exact BK629.out⟩, ⟨by repeat (first | (with_reducible first | exact HB.out | apply below_alloc | apply pw_below_drewN | apply below_drew1 | refine below_set ?_ GE629.out) | exact HB.out)⟩⟩
      · replace c9 := Bool.eq_false_iff.mpr c9
        subst c9
        have H1 : (turncockref1_EncodeTell.j0 k 0 a0_0 a0_1 false l0_3 l0_4) = some (r1, r2) := by rw [if_neg (show ¬ (false = true) by decide)] at H; exact H
        clear H
        have H := H1
        clear H1
        have H' := Aside0.mk H
        clear H
        go_wp2
        go_meet
        case rel => exact ⟨_, (0), (by first | rfl | (simp; done) | (simp [*]; done)), H', ⟨by first | omega | exact Nat.le_refl _⟩, ⟨by (with_reducible repeat (first | refine blk_drewN ?_ _ | refine blk_drew ?_ | refine blk_alloc ?_ _)); exact BK629.out⟩, ⟨by repeat (first | (with_reducible first | exact HB.out | apply below_alloc | apply pw_below_drewN | apply below_drew1 | refine below_set ?_ GE629.out) | exact HB.out)⟩⟩
    case rest =>
      clear HC4
      try clear p2
      try clear c3
      try clear c9
      try clear hcz6_0
      try clear hcz6_1
      try clear hcz6_2
      try clear hcz6_3
      try clear hcz6_4
      try clear hcz8_0
      try clear hcz8_1
      try clear hcz8_2
      try clear hcz8_3
      try clear hcz8_4
      try clear hfz6_0
      try clear hfz6_1
      try clear hfz6_2
      try clear hfz6_3
      try clear hfz6_4
      try clear hfz8_0
      try clear hfz8_1
      try clear hfz8_2
      try clear hfz8_3
      try clear hfz8_4
      obtain ⟨kq, x4_3, rfl, HA, HJ3, BK629, HB⟩ := hcut
      cases kq with
      | zero => exact absurd HA.out (by simp [turncockref1_EncodeTell.j0])
      | succ kj3 =>
        have H := HA.out
        clear HA
        simp only [turncockref1_EncodeTell.j0] at H
        obtain ⟨y631, hy631⟩ : ∃ y_ : List Int, y_ = (([2] : List Int)) := ⟨_, rfl⟩
        replace H : ((turncockref1_num.f kj3 y631 a0_0).bind fun t634 => ((turncockref1_num.f kj3 t634 a0_1).bind fun t637 => ((turncockref1_num.f kj3 t637 x4_3).bind fun t640 => ((turncockref1_num.f kj3 t640 (l0_3.length : Int)).bind fun t643 => (turncockref1_EncodeTell.l0 kj3 t643 0 a0_0 a0_1 a0_2 l0_3 l0_4))))) = some (r1, r2) := by first | (rw [hy631]; with_reducible exact H) | (have H2_ := (Option.bind_some _ _).symm.trans H; rw [hy631]; with_reducible exact H2_) | (have H2_ := (Option.bind_some _ _).symm.trans H; with_reducible exact H2_) | with_reducible exact H | (rw [hy631]; exact H) | exact H
        have Ny631 := Aside0.mk hy631
        clear hy631
        replace H := Option.bind_eq_some_iff.mp H
        obtain ⟨t634, A100, H⟩ := H
        replace H : ((turncockref1_num.f kj3 t634 a0_1).bind fun t637 => ((turncockref1_num.f kj3 t637 x4_3).bind fun t640 => ((turncockref1_num.f kj3 t640 (l0_3.length : Int)).bind fun t643 => (turncockref1_EncodeTell.l0 kj3 t643 0 a0_0 a0_1 a0_2 l0_3 l0_4)))) = some (r1, r2) := H
        have A10 := Aside0.mk A100
        clear A100
        replace H := Option.bind_eq_some_iff.mp H
        obtain ⟨t637, A110, H⟩ := H
        replace H : ((turncockref1_num.f kj3 t637 x4_3).bind fun t640 => ((turncockref1_num.f kj3 t640 (l0_3.length : Int)).bind fun t643 => (turncockref1_EncodeTell.l0 kj3 t643 0 a0_0 a0_1 a0_2 l0_3 l0_4))) = some (r1, r2) := H
        have A11 := Aside0.mk A110
        clear A110
        replace H := Option.bind_eq_some_iff.mp H
        obtain ⟨t640, A120, H⟩ := H
        replace H : ((turncockref1_num.f kj3 t640 (l0_3.length : Int)).bind fun t643 => (turncockref1_EncodeTell.l0 kj3 t643 0 a0_0 a0_1 a0_2 l0_3 l0_4)) = some (r1, r2) := H
        have A12 := Aside0.mk A120
        clear A120
        replace H := Option.bind_eq_some_iff.mp H
        obtain ⟨t643, A130, H⟩ := H
        replace H : (turncockref1_EncodeTell.l0 kj3 t643 0 a0_0 a0_1 a0_2 l0_3 l0_4) = some (r1, r2) := H
        have A13 := Aside0.mk A130
        clear A130
        have H' := Aside0.mk H
        clear H
        try go_wp2
        have n0_ := Aside0.mk (blk_drew BK629.out)
        have n1_ := Aside0.mk (below_drew1 HB.out)
        clear BK629
        clear HB
        have BK629 := n0_
        have HB := n1_
        clear n0_ n1_
        refine start_ (n := 14) (S := fun w' => w'.cell? ⟨gb629, 0, none⟩ = some (.int .i64 a0_0) ∧ w'.cell? ⟨gb629, 1, none⟩ = some (.int .i64 a0_1) ∧ w'.cell? ⟨gb629, 2, none⟩ = some (.bool a0_2) ∧ w'.cell? ⟨gb629, 3, none⟩ = some (.slice A0_3 l0_3.length c0_3) ∧ w'.cell? ⟨gb629, 4, none⟩ = some (.slice A0_4 l0_4.length c0_4)) (ds := []) #[false, false, false, false, false, false, false, false, false, false, false, false, false, false] (by kernel_rfl) rfl rfl ⟨(blk_cell BK629.out 0).trans rfl, (blk_cell BK629.out 1).trans rfl, (blk_cell BK629.out 2).trans rfl, (blk_cell BK629.out 3).trans rfl, (blk_cell BK629.out 4).trans rfl⟩ (fun hHeld => ?_); refine with_tabW turncockref1_EncodeTell.tab6 turncockref1_EncodeTell.bits6 (fun HT_ HW_ => ?_)
        generalize wc.drew = w14 at BK629 HB hHeld ⊢
        refine pure_ (i := 1) (N := some 15) (v := ?_) (a' := ?_) #[false, true, false, false, false, false, false, false, false, false, false, false, false, false] rfl rfl (any_of HT_.out (by kernel_rfl)) (fun _ _ _ h => h) (Or.inl ⟨by rfl, ?_⟩) ?_ ?_
        rotate_left
        · intro w'
          go_simp
          with_reducible rfl
        rotate_left
        · simp only [Act.put, List.setIfInBounds_toArray, List.set_cons_zero, List.set_cons_succ, i64_w, i32_w]
          rfl
        refine pure_ (i := 4) (N := some 18) (v := ?_) (a' := ?_) #[false, true, false, false, true, false, false, false, false, false, false, false, false, false] rfl rfl (any_of HT_.out (by kernel_rfl)) (fun _ _ _ h => h) (Or.inl ⟨by rfl, ?_⟩) ?_ ?_
        rotate_left
        · intro w'
          go_simp
          with_reducible rfl
        rotate_left
        · simp only [Act.put, List.setIfInBounds_toArray, List.set_cons_zero, List.set_cons_succ, i64_w, i32_w]
          rfl
        refine pure_ (i := 7) (N := some 21) (v := ?_) (a' := ?_) #[false, true, false, false, true, false, false, true, false, false, false, false, false, false] rfl rfl (any_of HT_.out (by kernel_rfl)) (fun _ _ _ h => h) (Or.inl ⟨by rfl, ?_⟩) ?_ ?_
        rotate_left
        · intro w'
          go_simp
          with_reducible rfl
        rotate_left
        · simp only [Act.put, List.setIfInBounds_toArray, List.set_cons_zero, List.set_cons_succ, i64_w, i32_w]
          rfl
        refine pure_ (i := 9) (N := some 23) (v := ?_) (a' := ?_) #[false, true, false, false, true, false, false, true, false, true, false, false, false, false] rfl rfl (any_of HT_.out (by kernel_rfl)) (fun _ _ _ h => h) (Or.inl ⟨by rfl, ?_⟩) ?_ ?_
        rotate_left
        · intro w'
          go_simp
          with_reducible rfl
        rotate_left
        · simp only [Act.put, List.setIfInBounds_toArray, List.set_cons_zero, List.set_cons_succ, i64_w, i32_w]
          rfl
        refine take_ (i := 2) (N := some 16) (v := ?_) (a' := ?_) #[false, true, true, false, true, false, false, true, false, true, false, false, false, false] rfl rfl (take_ofW HT_.out HW_.out (by kernel_rfl)) (fun _ _ _ h => h) (Or.inl ⟨by rfl, ?_⟩) hHeld ?_ ?_
        rotate_left
        · rintro w' ⟨s0, s1, s2, s3, s4⟩
          go_simp
          with_reducible rfl
        rotate_left
        · simp only [Act.put, List.setIfInBounds_toArray, List.set_cons_zero, List.set_cons_succ, i64_w, i32_w]
          rfl
        refine take_ (i := 5) (N := some 19) (v := ?_) (a' := ?_) #[false, true, true, false, true, true, false, true, false, true, false, false, false, false] rfl rfl (take_ofW HT_.out HW_.out (by kernel_rfl)) (fun _ _ _ h => h) (Or.inl ⟨by rfl, ?_⟩) hHeld ?_ ?_
        rotate_left
        · rintro w' ⟨s0, s1, s2, s3, s4⟩
          go_simp
          with_reducible rfl
        rotate_left
        · simp only [Act.put, List.setIfInBounds_toArray, List.set_cons_zero, List.set_cons_succ, i64_w, i32_w]
          rfl
        refine take_ (i := 10) (N := some 24) (v := ?_) (a' := ?_) #[false, true, true, false, true, true, false, true, false, true, true, false, false, false] rfl rfl (take_ofW HT_.out HW_.out (by kernel_rfl)) (fun _ _ _ h => h) (Or.inl ⟨by rfl, ?_⟩) hHeld ?_ ?_
        rotate_left
        · rintro w' ⟨s0, s1, s2, s3, s4⟩
          go_simp
          with_reducible rfl
        rotate_left
        · simp only [Act.put, List.setIfInBounds_toArray, List.set_cons_zero, List.set_cons_succ, i64_w, i32_w]
          rfl
        refine pure_ (i := 11) (N := some 25) (v := ?_) (a' := ?_) #[false, true, true, false, true, true, false, true, false, true, true, true, false, false] rfl rfl (any_of HT_.out (by kernel_rfl)) (fun _ _ _ h => h) (Or.inl ⟨by rfl, ?_⟩) ?_ ?_
        rotate_left
        · intro w'
          go_simp
          with_reducible rfl
        rotate_left
        · simp only [Act.put, List.setIfInBounds_toArray, List.set_cons_zero, List.set_cons_succ, i64_w, i32_w]
          rfl
        refine one_ (i := 0) (N := some 14) #[true, true, true, false, true, true, false, true, false, true, true, true, false, false] rfl rfl (one_of HT_.out (by kernel_rfl)) (by decide) (fun K hK => ?_)
        refine Kd.R_lit_step (Kd.int .u8) _ 5 ?hg (N := 14) ?hd (xs := ([2] : List Int)) (inner := [.int .u8 2]) (ok := fun _ => True) (okp := fun _ => True) ?hr ?hp (fun _ hk => hk) trivial (Below.refl _ _) (Nat.le_refl _) (by simp) ?_; (case hd => rfl); (case hg => rfl); (case hr => first | (go_simp; done) | (go_simp; rfl)); (case hp => exact (Reps.one (show Kd.M (Kd.int .u8) _ _ _ 2 [.int .u8 2] from rfl) (Reps.none _ _)))
        intro v632 w15 ho16 hb hg_ hnew_
        clear hg_ hnew_
        (first | rw [← Ny631.out] at ho16 | (simp only [Int.reduceToNat] at ho16; rw [← Ny631.out] at ho16))
        have n0_ := Aside0.mk (Kd.R_lower ho16 (below_size (by repeat (first | (with_reducible first | exact HB.out | apply below_alloc | apply pw_below_drewN | apply below_drew1 | refine below_set ?_ GE629.out) | exact HB.out))))
        have n1_ := Aside0.mk (blk_below (g := gb629) (o := .cells #[.int .i64 a0_0, .int .i64 a0_1, .bool a0_2, .slice A0_3 l0_3.length c0_3, .slice A0_4 l0_4.length c0_4] 108 (0, 0)) (by (with_reducible repeat (first | refine blk_drewN ?_ _ | refine blk_drew ?_ | refine blk_alloc ?_ _)); exact BK629.out) hb)
        have n2_ := Aside0.mk (below_step (by repeat (first | (with_reducible first | exact HB.out | apply below_alloc | apply pw_below_drewN | apply below_drew1 | refine below_set ?_ GE629.out) | exact HB.out)) hb)
        clear BK629
        clear HB
        have HO633 := n0_
        have BK629 := n1_
        have HB := n2_
        clear n0_ n1_ n2_
        clear hb ho16
        obtain ⟨Ao17, co17, eo17⟩ := Kd.R_slice HO633.out
        (first | subst eo17 | (injection eo17 with f1_ f2_ f3_; have f4_ := f1_.symm; have f5_ := f3_.symm; clear f1_ f2_ f3_; subst f4_; subst f5_))
        refine hK.out _ _ ⟨(blk_cell BK629.out 0).trans rfl, (blk_cell BK629.out 1).trans rfl, (blk_cell BK629.out 2).trans rfl, (blk_cell BK629.out 3).trans rfl, (blk_cell BK629.out 4).trans rfl⟩ (fun hHeld => ?_)
        clear hK K
        refine norm_ (a' := ?_) ?_ ?_
        rotate_left
        · show Act.put _ (some 14) _ = _
          simp only [Act.put, List.setIfInBounds_toArray, List.set_cons_zero, List.set_cons_succ, i64_w, i32_w]
          rfl
        refine one_ (i := 3) (N := some 17) #[true, true, true, true, true, true, false, true, false, true, true, true, false, false] rfl rfl (one_of HT_.out (by kernel_rfl)) (by decide) (fun K hK => ?_)
        refine goes_ Try.func102 (by kernel_rfl) rfl #[.slice Ao17 y631.length co17, .int .i64 a0_0] (by rfl) rfl rfl (by (try simp only [List.map_toArray, List.map_cons, List.map_nil]); first | done | rfl | (simp only [List.length_drop, List.length_take]; rfl)) ?_
        with_reducible refine (turncockref1_num.calls kj3 _ _ y631 a0_0 t634 _ ?side1 ?side2 A10.out).mono ?_
        (case side1 => repeat (first | exact (Kd.R_reads' HO633.out).2.2 | (with_reducible refine Kd.C_alloc ?_ _) | (with_reducible refine Kd.C_drewN ?_ _) | (with_reducible refine Kd.C_drew ?_)))
        (case side2 => exact (Kd.R_reads' HO633.out).2.1)
        rintro e w18 ⟨v635, rfl, ho0, hb⟩
        refine ⟨_, rfl, ?_⟩
        have n0_ := Aside0.mk (Kd.R_elder' (by (with_reducible repeat (first | apply Kd.R_alloc | apply Kd.R_drewN | apply Kd.R_drew)); exact HO633.out) (Kd.R_base ho0) hb)
        have n1_ := Aside0.mk (Kd.R_lower (Kd.R_new' ho0 (Kd.R_lt (by (with_reducible repeat (first | apply Kd.R_alloc | apply Kd.R_drewN | apply Kd.R_drew)); exact HO633.out))) (below_size (by repeat (first | (with_reducible first | exact HB.out | apply below_alloc | apply pw_below_drewN | apply below_drew1 | refine below_set ?_ GE629.out) | exact HB.out))))
        have n2_ := Aside0.mk (blk_below (g := gb629) (o := .cells #[.int .i64 a0_0, .int .i64 a0_1, .bool a0_2, .slice A0_3 l0_3.length c0_3, .slice A0_4 l0_4.length c0_4] 108 (0, 0)) (by (with_reducible repeat (first | refine blk_drewN ?_ _ | refine blk_drew ?_ | refine blk_alloc ?_ _)); exact BK629.out) hb)
        have n3_ := Aside0.mk (below_step (by repeat (first | (with_reducible first | exact HB.out | apply below_alloc | apply pw_below_drewN | apply below_drew1 | refine below_set ?_ GE629.out) | exact HB.out)) hb)
        clear HO633
        clear BK629
        clear HB
        have HO633 := n0_
        have HO636 := n1_
        have BK629 := n2_
        have HB := n3_
        clear n0_ n1_ n2_ n3_
        (try clear hb)
        (try clear hb2)
        (try clear hk)
        (try clear hi)
        (try clear ho0)
        obtain ⟨Ao19, co19, eo19⟩ := Kd.R_slice HO636.out
        (first | subst eo19 | (injection eo19 with f1_ f2_ f3_; have f4_ := f1_.symm; have f5_ := f3_.symm; clear f1_ f2_ f3_; subst f4_; subst f5_))
        refine hK.out _ _ ⟨(blk_cell BK629.out 0).trans rfl, (blk_cell BK629.out 1).trans rfl, (blk_cell BK629.out 2).trans rfl, (blk_cell BK629.out 3).trans rfl, (blk_cell BK629.out 4).trans rfl⟩ (fun hHeld => ?_)
        clear hK K
        refine norm_ (a' := ?_) ?_ ?_
        rotate_left
        · show Act.put _ (some 17) _ = _
          simp only [Act.put, List.setIfInBounds_toArray, List.set_cons_zero, List.set_cons_succ, i64_w, i32_w]
          rfl
        refine one_ (i := 6) (N := some 20) #[true, true, true, true, true, true, true, true, false, true, true, true, false, false] rfl rfl (one_of HT_.out (by kernel_rfl)) (by decide) (fun K hK => ?_)
        refine goes_ Try.func102 (by kernel_rfl) rfl #[.slice Ao19 t634.length co19, .int .i64 a0_1] (by rfl) rfl rfl (by (try simp only [List.map_toArray, List.map_cons, List.map_nil]); first | done | rfl | (simp only [List.length_drop, List.length_take]; rfl)) ?_
        with_reducible refine (turncockref1_num.calls kj3 _ _ t634 a0_1 t637 _ ?side1 ?side2 A11.out).mono ?_
        (case side1 => repeat (first | exact (Kd.R_reads' HO636.out).2.2 | (with_reducible refine Kd.C_alloc ?_ _) | (with_reducible refine Kd.C_drewN ?_ _) | (with_reducible refine Kd.C_drew ?_)))
        (case side2 => exact (Kd.R_reads' HO636.out).2.1)
        rintro e w20 ⟨v638, rfl, ho0, hb⟩
        refine ⟨_, rfl, ?_⟩
        have n0_ := Aside0.mk (Kd.R_elder' (by (with_reducible repeat (first | apply Kd.R_alloc | apply Kd.R_drewN | apply Kd.R_drew)); exact HO633.out) (Kd.R_base ho0) hb)
        have n1_ := Aside0.mk (Kd.R_elder' (by (with_reducible repeat (first | apply Kd.R_alloc | apply Kd.R_drewN | apply Kd.R_drew)); exact HO636.out) (Kd.R_base ho0) hb)
        have n2_ := Aside0.mk (Kd.R_lower (Kd.R_new' (Kd.R_new' ho0 (Kd.R_lt (by (with_reducible repeat (first | apply Kd.R_alloc | apply Kd.R_drewN | apply Kd.R_drew)); exact HO633.out))) (Kd.R_lt (by (with_reducible repeat (first | apply Kd.R_alloc | apply Kd.R_drewN | apply Kd.R_drew)); exact HO636.out))) (below_size (by repeat (first | (with_reducible first | exact HB.out | apply below_alloc | apply pw_below_drewN | apply below_drew1 | refine below_set ?_ GE629.out) | exact HB.out))))
        have n3_ := Aside0.mk (blk_below (g := gb629) (o := .cells #[.int .i64 a0_0, .int .i64 a0_1, .bool a0_2, .slice A0_3 l0_3.length c0_3, .slice A0_4 l0_4.length c0_4] 108 (0, 0)) (by (with_reducible repeat (first | refine blk_drewN ?_ _ | refine blk_drew ?_ | refine blk_alloc ?_ _)); exact BK629.out) hb)
        have n4_ := Aside0.mk (below_step (by repeat (first | (with_reducible first | exact HB.out | apply below_alloc | apply pw_below_drewN | apply below_drew1 | refine below_set ?_ GE629.out) | exact HB.out)) hb)
        clear HO633
        clear HO636
        clear BK629
        clear HB
        have HO633 := n0_
        have HO636 := n1_
        have HO639 := n2_
        have BK629 := n3_
        have HB := n4_
        clear n0_ n1_ n2_ n3_ n4_
        (try clear hb)
        (try clear hb2)
        (try clear hk)
        (try clear hi)
        (try clear ho0)
        obtain ⟨Ao21, co21, eo21⟩ := Kd.R_slice HO639.out
        (first | subst eo21 | (injection eo21 with f1_ f2_ f3_; have f4_ := f1_.symm; have f5_ := f3_.symm; clear f1_ f2_ f3_; subst f4_; subst f5_))
        refine hK.out _ _ ⟨(blk_cell BK629.out 0).trans rfl, (blk_cell BK629.out 1).trans rfl, (blk_cell BK629.out 2).trans rfl, (blk_cell BK629.out 3).trans rfl, (blk_cell BK629.out 4).trans rfl⟩ (fun hHeld => ?_)
        clear hK K
        refine norm_ (a' := ?_) ?_ ?_
        rotate_left
        · show Act.put _ (some 20) _ = _
          simp only [Act.put, List.setIfInBounds_toArray, List.set_cons_zero, List.set_cons_succ, i64_w, i32_w]
          rfl
        refine one_ (i := 8) (N := some 22) #[true, true, true, true, true, true, true, true, true, true, true, true, false, false] rfl rfl (one_of HT_.out (by kernel_rfl)) (by decide) (fun K hK => ?_)
        refine goes_ Try.func102 (by kernel_rfl) rfl #[.slice Ao21 t637.length co21, .int .i64 x4_3] (by rfl) rfl rfl (by (try simp only [List.map_toArray, List.map_cons, List.map_nil]); first | done | rfl | (simp only [List.length_drop, List.length_take]; rfl)) ?_
        with_reducible refine (turncockref1_num.calls kj3 _ _ t637 x4_3 t640 _ ?side1 ?side2 A12.out).mono ?_
        (case side1 => repeat (first | exact (Kd.R_reads' HO639.out).2.2 | (with_reducible refine Kd.C_alloc ?_ _) | (with_reducible refine Kd.C_drewN ?_ _) | (with_reducible refine Kd.C_drew ?_)))
        (case side2 => exact (Kd.R_reads' HO639.out).2.1)
        rintro e w22 ⟨v641, rfl, ho0, hb⟩
        refine ⟨_, rfl, ?_⟩
        have n0_ := Aside0.mk (Kd.R_elder' (by (with_reducible repeat (first | apply Kd.R_alloc | apply Kd.R_drewN | apply Kd.R_drew)); exact HO633.out) (Kd.R_base ho0) hb)
        have n1_ := Aside0.mk (Kd.R_elder' (by (with_reducible repeat (first | apply Kd.R_alloc | apply Kd.R_drewN | apply Kd.R_drew)); exact HO636.out) (Kd.R_base ho0) hb)
        have n2_ := Aside0.mk (Kd.R_elder' (by (with_reducible repeat (first | apply Kd.R_alloc | apply Kd.R_drewN | apply Kd.R_drew)); exact HO639.out) (Kd.R_base ho0) hb)
        have n3_ := Aside0.mk (Kd.R_lower (Kd.R_new' (Kd.R_new' (Kd.R_new' ho0 (Kd.R_lt (by (with_reducible repeat (first | apply Kd.R_alloc | apply Kd.R_drewN | apply Kd.R_drew)); exact HO633.out))) (Kd.R_lt (by (with_reducible repeat (first | apply Kd.R_alloc | apply Kd.R_drewN | apply Kd.R_drew)); exact HO636.out))) (Kd.R_lt (by (with_reducible repeat (first | apply Kd.R_alloc | apply Kd.R_drewN | apply Kd.R_drew)); exact HO639.out))) (below_size (by repeat (first | (with_reducible first | exact HB.out | apply below_alloc | apply pw_below_drewN | apply below_drew1 | refine below_set ?_ GE629.out) | exact HB.out))))
        have n4_ := Aside0.mk (blk_below (g := gb629) (o := .cells #[.int .i64 a0_0, .int .i64 a0_1, .bool a0_2, .slice A0_3 l0_3.length c0_3, .slice A0_4 l0_4.length c0_4] 108 (0, 0)) (by (with_reducible repeat (first | refine blk_drewN ?_ _ | refine blk_drew ?_ | refine blk_alloc ?_ _)); exact BK629.out) hb)
        have n5_ := Aside0.mk (below_step (by repeat (first | (with_reducible first | exact HB.out | apply below_alloc | apply pw_below_drewN | apply below_drew1 | refine below_set ?_ GE629.out) | exact HB.out)) hb)
        clear HO633
        clear HO636
        clear HO639
        clear BK629
        clear HB
        have HO633 := n0_
        have HO636 := n1_
        have HO639 := n2_
        have HO642 := n3_
        have BK629 := n4_
        have HB := n5_
        clear n0_ n1_ n2_ n3_ n4_ n5_
        (try clear hb)
        (try clear hb2)
        (try clear hk)
        (try clear hi)
        (try clear ho0)
        obtain ⟨Ao23, co23, eo23⟩ := Kd.R_slice HO642.out
        (first | subst eo23 | (injection eo23 with f1_ f2_ f3_; have f4_ := f1_.symm; have f5_ := f3_.symm; clear f1_ f2_ f3_; subst f4_; subst f5_))
        refine hK.out _ _ ⟨(blk_cell BK629.out 0).trans rfl, (blk_cell BK629.out 1).trans rfl, (blk_cell BK629.out 2).trans rfl, (blk_cell BK629.out 3).trans rfl, (blk_cell BK629.out 4).trans rfl⟩ (fun hHeld => ?_)
        clear hK K
        refine norm_ (a' := ?_) ?_ ?_
        rotate_left
        · show Act.put _ (some 22) _ = _
          simp only [Act.put, List.setIfInBounds_toArray, List.set_cons_zero, List.set_cons_succ, i64_w, i32_w]
          rfl
        refine one_ (i := 12) (N := some 26) #[true, true, true, true, true, true, true, true, true, true, true, true, true, false] rfl rfl (one_of HT_.out (by kernel_rfl)) (by decide) (fun K hK => ?_)
        refine goes_ Try.func102 (by kernel_rfl) rfl #[.slice Ao23 t640.length co23, .int .i64 (l0_3.length : Int)] (by rfl) rfl rfl (by (try simp only [List.map_toArray, List.map_cons, List.map_nil]); first | done | rfl | (simp only [List.length_drop, List.length_take]; rfl)) ?_
        with_reducible refine (turncockref1_num.calls kj3 _ _ t640 (l0_3.length : Int) t643 _ ?side1 ?side2 A13.out).mono ?_
        (case side1 => repeat (first | exact (Kd.R_reads' HO642.out).2.2 | (with_reducible refine Kd.C_alloc ?_ _) | (with_reducible refine Kd.C_drewN ?_ _) | (with_reducible refine Kd.C_drew ?_)))
        (case side2 => exact (Kd.R_reads' HO642.out).2.1)
        rintro e w24 ⟨v644, rfl, ho0, hb⟩
        refine ⟨_, rfl, ?_⟩
        have n0_ := Aside0.mk (Kd.R_elder' (by (with_reducible repeat (first | apply Kd.R_alloc | apply Kd.R_drewN | apply Kd.R_drew)); exact HO633.out) (Kd.R_base ho0) hb)
        have n1_ := Aside0.mk (Kd.R_elder' (by (with_reducible repeat (first | apply Kd.R_alloc | apply Kd.R_drewN | apply Kd.R_drew)); exact HO636.out) (Kd.R_base ho0) hb)
        have n2_ := Aside0.mk (Kd.R_elder' (by (with_reducible repeat (first | apply Kd.R_alloc | apply Kd.R_drewN | apply Kd.R_drew)); exact HO639.out) (Kd.R_base ho0) hb)
        have n3_ := Aside0.mk (Kd.R_elder' (by (with_reducible repeat (first | apply Kd.R_alloc | apply Kd.R_drewN | apply Kd.R_drew)); exact HO642.out) (Kd.R_base ho0) hb)
        have n4_ := Aside0.mk (Kd.R_lower (Kd.R_new' (Kd.R_new' (Kd.R_new' (Kd.R_new' ho0 (Kd.R_lt (by (with_reducible repeat (first | apply Kd.R_alloc | apply Kd.R_drewN | apply Kd.R_drew)); exact HO633.out))) (Kd.R_lt (by (with_reducible repeat (first | apply Kd.R_alloc | apply Kd.R_drewN | apply Kd.R_drew)); exact HO636.out))) (Kd.R_lt (by (with_reducible repeat (first | apply Kd.R_alloc | apply Kd.R_drewN | apply Kd.R_drew)); exact HO639.out))) (Kd.R_lt (by (with_reducible repeat (first | apply Kd.R_alloc | apply Kd.R_drewN | apply Kd.R_drew)); exact HO642.out))) (below_size (by repeat (first | (with_reducible first | exact HB.out | apply below_alloc | apply pw_below_drewN | apply below_drew1 | refine below_set ?_ GE629.out) | exact HB.out))))
        have n5_ := Aside0.mk (blk_below (g := gb629) (o := .cells #[.int .i64 a0_0, .int .i64 a0_1, .bool a0_2, .slice A0_3 l0_3.length c0_3, .slice A0_4 l0_4.length c0_4] 108 (0, 0)) (by (with_reducible repeat (first | refine blk_drewN ?_ _ | refine blk_drew ?_ | refine blk_alloc ?_ _)); exact BK629.out) hb)
        have n6_ := Aside0.mk (below_step (by repeat (first | (with_reducible first | exact HB.out | apply below_alloc | apply pw_below_drewN | apply below_drew1 | refine below_set ?_ GE629.out) | exact HB.out)) hb)
        clear HO633
        clear HO636
        clear HO639
        clear HO642
        clear BK629
        clear HB
        have HO633 := n0_
        have HO636 := n1_
        have HO639 := n2_
        have HO642 := n3_
        have HO645 := n4_
        have BK629 := n5_
        have HB := n6_
        clear n0_ n1_ n2_ n3_ n4_ n5_ n6_
        (try clear hb)
        (try clear hb2)
        (try clear hk)
        (try clear hi)
        (try clear ho0)
        refine hK.out _ _ ⟨(blk_cell BK629.out 0).trans rfl, (blk_cell BK629.out 1).trans rfl, (blk_cell BK629.out 2).trans rfl, (blk_cell BK629.out 3).trans rfl, (blk_cell BK629.out 4).trans rfl⟩ (fun hHeld => ?_)
        clear hK K
        refine norm_ (a' := ?_) ?_ ?_
        rotate_left
        · show Act.put _ (some 26) _ = _
          simp only [Act.put, List.setIfInBounds_toArray, List.set_cons_zero, List.set_cons_succ, i64_w, i32_w]
          rfl
        refine pure_ (i := 13) (N := some 5) (v := ?_) (a' := ?_) #[true, true, true, true, true, true, true, true, true, true, true, true, true, true] rfl rfl (any_of HT_.out (by kernel_rfl)) (fun _ _ _ h => h) (Or.inl ⟨by rfl, ?_⟩) ?_ ?_
        rotate_left
        · intro w'
          go_simp
          with_reducible rfl
        rotate_left
        · simp only [Act.put, List.setIfInBounds_toArray, List.set_cons_zero, List.set_cons_succ, i64_w, i32_w]
          rfl
        refine done_ (done_of HT_.out (by kernel_rfl)) ?_
        try go_wp2
        go_loopg [5, 6] kj3 (fun kq v5 v6 w' => ∃ (x5_2 : List Int) (x6_2 : Int), v6 = .int .i64 x6_2 ∧ Aside0 (turncockref1_EncodeTell.l0 kq x5_2 x6_2 a0_0 a0_1 a0_2 l0_3 l0_4 = some (r1, r2)) ∧ Aside0 (kq ≤ kj3) ∧ Aside0 (Kd.R (Kd.int .u8) 5 w' w.heap.size (fun _ => True) v5 x5_2) ∧ Aside0 (w'.heap[gb629]? = some (.cells #[.int .i64 a0_0, .int .i64 a0_1, .bool a0_2, (.slice A0_3 l0_3.length c0_3), (.slice A0_4 l0_4.length c0_4)] 108 (0, 0))) ∧ Aside0 (Below w.heap.size w w'))
        case atStart => exact ⟨(t643), (0), (by first | rfl | (simp; done) | (simp [*]; done)), H', ⟨Nat.le_refl _⟩, ⟨by (with_reducible repeat (first | apply Kd.R_alloc | apply Kd.R_drewN | apply Kd.R_drew)); exact Kd.R_mono HO645.out (fun _ hk => trivial)⟩, ⟨by (with_reducible repeat (first | refine blk_drewN ?_ _ | refine blk_drew ?_ | refine blk_alloc ?_ _)); exact BK629.out⟩, ⟨by repeat (first | (with_reducible first | exact HB.out | apply below_alloc | apply pw_below_drewN | apply below_drew1 | refine below_set ?_ GE629.out) | exact HB.out)⟩⟩
        case round =>
          clear H'
          try clear c1
          try clear p2
          try clear c3
          try clear c9
          try clear c10
          try clear hcz6_0
          try clear hcz6_1
          try clear hcz6_2
          try clear hcz6_3
          try clear hcz6_4
          try clear hcz8_0
          try clear hcz8_1
          try clear hcz8_2
          try clear hcz8_3
          try clear hcz8_4
          try clear hfz6_0
          try clear hfz6_1
          try clear hfz6_2
          try clear hfz6_3
          try clear hfz6_4
          try clear hfz8_0
          try clear hfz8_1
          try clear hfz8_2
          try clear hfz8_3
          try clear hfz8_4
          try clear p2
          obtain ⟨x5_2, x6_2, rfl, HA, HK2, HO_5, BK629, HB⟩ := hrel
          cases gk with
          | zero => exact absurd HA.out (by simp [turncockref1_EncodeTell.l0])
          | succ k2 =>
            have H := HA.out
            clear HA
            simp only [turncockref1_EncodeTell.l0] at H
            by_cases c25 : x6_2 < (l0_3.length : Int)
            · rw [if_pos c25] at H
              have c25b0 : decide (x6_2 < (l0_3.length : Int)) = true := decide_eq_true c25
              clear c25
              by_cases c26 : 0 ≤ x6_2
              · rw [if_pos c26] at H
                have c26b0 : decide (0 ≤ x6_2) = true := decide_eq_true c26
                clear c26
                replace H := Option.bind_eq_some_iff.mp H
                obtain ⟨t648, A270, H⟩ := H
                replace H : ((turncockref1_num.f k2 t648 ((rd_T154 l0_3 x6_2).f1)).bind fun t651 => ((turncockref1_num.f k2 t651 ((rd_T154 l0_3 x6_2).f2)).bind fun t654 => ((turncockref1_num.f k2 t654 ((rd_T154 l0_3 x6_2).f3)).bind fun t657 => ((turncockref1_num.f k2 t657 ((rd_T154 l0_3 x6_2).f4)).bind fun t660 => (turncockref1_EncodeTell.l0 k2 t660 (wrap64 (x6_2 + 1)) a0_0 a0_1 a0_2 l0_3 l0_4))))) = some (r1, r2) := H
                have A27 := Aside0.mk A270
                clear A270
                replace H := Option.bind_eq_some_iff.mp H
                obtain ⟨t651, A280, H⟩ := H
                replace H : ((turncockref1_num.f k2 t651 ((rd_T154 l0_3 x6_2).f2)).bind fun t654 => ((turncockref1_num.f k2 t654 ((rd_T154 l0_3 x6_2).f3)).bind fun t657 => ((turncockref1_num.f k2 t657 ((rd_T154 l0_3 x6_2).f4)).bind fun t660 => (turncockref1_EncodeTell.l0 k2 t660 (wrap64 (x6_2 + 1)) a0_0 a0_1 a0_2 l0_3 l0_4)))) = some (r1, r2) := H
                have A28 := Aside0.mk A280
                clear A280
                replace H := Option.bind_eq_some_iff.mp H
                obtain ⟨t654, A290, H⟩ := H
                replace H : ((turncockref1_num.f k2 t654 ((rd_T154 l0_3 x6_2).f3)).bind fun t657 => ((turncockref1_num.f k2 t657 ((rd_T154 l0_3 x6_2).f4)).bind fun t660 => (turncockref1_EncodeTell.l0 k2 t660 (wrap64 (x6_2 + 1)) a0_0 a0_1 a0_2 l0_3 l0_4))) = some (r1, r2) := H
                have A29 := Aside0.mk A290
                clear A290
                replace H := Option.bind_eq_some_iff.mp H
                obtain ⟨t657, A300, H⟩ := H
                replace H : ((turncockref1_num.f k2 t657 ((rd_T154 l0_3 x6_2).f4)).bind fun t660 => (turncockref1_EncodeTell.l0 k2 t660 (wrap64 (x6_2 + 1)) a0_0 a0_1 a0_2 l0_3 l0_4)) = some (r1, r2) := H
                have A30 := Aside0.mk A300
                clear A300
                replace H := Option.bind_eq_some_iff.mp H
                obtain ⟨t660, A310, H⟩ := H
                replace H : (turncockref1_EncodeTell.l0 k2 t660 (wrap64 (x6_2 + 1)) a0_0 a0_1 a0_2 l0_3 l0_4) = some (r1, r2) := H
                have A31 := Aside0.mk A310
                clear A310
                have H' := Aside0.mk H
                clear H
                have hcz32_0 : wr.cell? ⟨gb629, 0, none⟩ = some (.int .i64 a0_0) := (blk_cell BK629.out 0).trans rfl
                have hcz32_1 : wr.cell? ⟨gb629, 1, none⟩ = some (.int .i64 a0_1) := (blk_cell BK629.out 1).trans rfl
                have hcz32_2 : wr.cell? ⟨gb629, 2, none⟩ = some (.bool a0_2) := (blk_cell BK629.out 2).trans rfl
                have hcz32_3 : wr.cell? ⟨gb629, 3, none⟩ = some (.slice A0_3 l0_3.length c0_3) := (blk_cell BK629.out 3).trans rfl
                have hcz32_4 : wr.cell? ⟨gb629, 4, none⟩ = some (.slice A0_4 l0_4.length c0_4) := (blk_cell BK629.out 4).trans rfl
                have hfz32_0 := blk_frozen BK629.out 0
                have hfz32_1 := blk_frozen BK629.out 1
                have hfz32_2 := blk_frozen BK629.out 2
                have hfz32_3 := blk_frozen BK629.out 3
                have hfz32_4 := blk_frozen BK629.out 4
                have p646 : 0 ≤ (x6_2 : Int) := of_decide_eq_true (by first | (with_reducible assumption) | assumption)
                have q646 : x6_2 < (l0_3.length : Int) := of_decide_eq_true (by first | (with_reducible assumption) | assumption)
                obtain ⟨ad646, e646, hx646_0, hx646_1, hx646_2, hx646_3, hx646_4⟩ := at_T154 HR0_3.out x6_2 p646 q646
                cases e646
                replace hx646_0 := (HB.out.cell (World.block_lt_of_cell? w _ hx646_0)).trans hx646_0
                replace hx646_1 := (HB.out.cell (World.block_lt_of_cell? w _ hx646_1)).trans hx646_1
                replace hx646_2 := (HB.out.cell (World.block_lt_of_cell? w _ hx646_2)).trans hx646_2
                replace hx646_3 := (HB.out.cell (World.block_lt_of_cell? w _ hx646_3)).trans hx646_3
                replace hx646_4 := (HB.out.cell (World.block_lt_of_cell? w _ hx646_4)).trans hx646_4
                replace p646 := eq_true p646
                replace q646 := eq_true q646
                try go_wp2_with (first | ((with_reducible refine gate_dst (N := 7) rfl ?_); refine box_event ?hg (N := 7) ?hd (cs := #[.int .i64 0, .int .i64 0, .int .i64 0, .int .i64 0, .int .i64 0]) (t := 154) ?hr ?_; (case hd => rfl); (case hg => rfl); (case hr => first | (go_simp; done) | (go_simp; rfl)); intro gb647 hg w33 hbox hb; have n0_ := Aside0.mk (Kd.R_below (by (with_reducible repeat (first | apply Kd.R_alloc | apply Kd.R_drewN | apply Kd.R_drew)); exact HO_5.out) hb); have n1_ := Aside0.mk (blk_below (g := gb629) (o := .cells #[.int .i64 a0_0, .int .i64 a0_1, .bool a0_2, .slice (some ad646) l0_3.length c0_3, .slice A0_4 l0_4.length c0_4] 108 (0, 0)) (by (with_reducible repeat (first | refine blk_drewN ?_ _ | refine blk_drew ?_ | refine blk_alloc ?_ _)); exact BK629.out) hb); have n2_ := Aside0.mk (below_step (by repeat (first | (with_reducible first | exact HB.out | apply below_alloc | apply pw_below_drewN | apply below_drew1 | refine below_set ?_ GE629.out) | exact HB.out)) hb); have n3_ := Aside0.mk (hbox); have n4_ := Aside0.mk ((by rw [hg]; exact (below_size (by repeat (first | (with_reducible first | exact HB.out | apply below_alloc | apply pw_below_drewN | apply below_drew1 | refine below_set ?_ GE629.out) | exact HB.out))) : w.heap.size ≤ gb647)); have n5_ := Aside0.mk ((by rw [hg]; exact (below_size (by repeat (first | (with_reducible first | exact HB.out | apply below_alloc | apply pw_below_drewN | apply below_drew1 | refine below_set ?_ GE629.out) | exact HB.out))) : w.heap.size ≤ gb647)); have n6_ := Aside0.mk ((by rw [hg]; exact Nat.ne_of_lt (blk_lt (g := gb629) (o := .cells #[.int .i64 a0_0, .int .i64 a0_1, .bool a0_2, .slice (some ad646) l0_3.length c0_3, .slice A0_4 l0_4.length c0_4] 108 (0, 0)) (by (with_reducible repeat (first | refine blk_drewN ?_ _ | refine blk_drew ?_ | refine blk_alloc ?_ _)); exact BK629.out)) : gb629 ≠ gb647)); have n7_ := Aside0.mk ((by rw [hg]; exact Nat.ne_of_gt (blk_lt (g := gb629) (o := .cells #[.int .i64 a0_0, .int .i64 a0_1, .bool a0_2, .slice (some ad646) l0_3.length c0_3, .slice A0_4 l0_4.length c0_4] 108 (0, 0)) (by (with_reducible repeat (first | refine blk_drewN ?_ _ | refine blk_drew ?_ | refine blk_alloc ?_ _)); exact BK629.out)) : gb647 ≠ gb629)); clear HO_5; clear BK629; clear HB; have HO_5 := n0_; have BK629 := n1_; have HB := n2_; have BK647 := n3_; have GW647 := n4_; have GE647 := n5_; have NB629_647 := n6_; have NB647_629 := n7_; clear n0_ n1_ n2_ n3_ n4_ n5_ n6_ n7_; clear hb hbox hg; have hnb34 := NB647_629.out; have hnc34 := NB629_647.out; have hcz35_0 : w33.cell? ⟨gb647, 0, none⟩ = some (.int .i64 0) := (blk_cell BK647.out 0).trans rfl; have hcz35_1 : w33.cell? ⟨gb647, 1, none⟩ = some (.int .i64 0) := (blk_cell BK647.out 1).trans rfl; have hcz35_2 : w33.cell? ⟨gb647, 2, none⟩ = some (.int .i64 0) := (blk_cell BK647.out 2).trans rfl; have hcz35_3 : w33.cell? ⟨gb647, 3, none⟩ = some (.int .i64 0) := (blk_cell BK647.out 3).trans rfl; have hcz35_4 : w33.cell? ⟨gb647, 4, none⟩ = some (.int .i64 0) := (blk_cell BK647.out 4).trans rfl; have hfz35_0 := blk_frozen BK647.out 0; have hfz35_1 := blk_frozen BK647.out 1; have hfz35_2 := blk_frozen BK647.out 2; have hfz35_3 := blk_frozen BK647.out 3; have hfz35_4 := blk_frozen BK647.out 4))
                have n0_ : Aside0 (Kd.R (Kd.int .u8) 5 (((((w33.setCell ⟨gb647, 0, none⟩ (.int .i64 ((rd_T154 l0_3 x6_2).f0))).setCell ⟨gb647, 1, none⟩ (.int .i64 ((rd_T154 l0_3 x6_2).f1))).setCell ⟨gb647, 2, none⟩ (.int .i64 ((rd_T154 l0_3 x6_2).f2))).setCell ⟨gb647, 3, none⟩ (.int .i64 ((rd_T154 l0_3 x6_2).f3))).setCell ⟨gb647, 4, none⟩ (.int .i64 ((rd_T154 l0_3 x6_2).f4))) w.heap.size (fun _ => True) u5 x5_2) := ⟨by (with_reducible repeat (first | apply Kd.R_alloc | apply Kd.R_drewN | apply Kd.R_drew)); exact Kd.R_mono (Kd.R_far (p := ⟨gb647, 4, none⟩) (Kd.R_far (p := ⟨gb647, 3, none⟩) (Kd.R_far (p := ⟨gb647, 2, none⟩) (Kd.R_far (p := ⟨gb647, 1, none⟩) (Kd.R_far (p := ⟨gb647, 0, none⟩) (Kd.R_types HO_5.out BK647.out (by decide)) (fun _ hk => hk.2) (.int .i64 ((rd_T154 l0_3 x6_2).f0))) (fun _ hk => hk.2) (.int .i64 ((rd_T154 l0_3 x6_2).f1))) (fun _ hk => hk.2) (.int .i64 ((rd_T154 l0_3 x6_2).f2))) (fun _ hk => hk.2) (.int .i64 ((rd_T154 l0_3 x6_2).f3))) (fun _ hk => hk.2) (.int .i64 ((rd_T154 l0_3 x6_2).f4))) (fun _ hk => trivial)⟩
                have n1_ : Aside0 ((((((w33.setCell ⟨gb647, 0, none⟩ (.int .i64 ((rd_T154 l0_3 x6_2).f0))).setCell ⟨gb647, 1, none⟩ (.int .i64 ((rd_T154 l0_3 x6_2).f1))).setCell ⟨gb647, 2, none⟩ (.int .i64 ((rd_T154 l0_3 x6_2).f2))).setCell ⟨gb647, 3, none⟩ (.int .i64 ((rd_T154 l0_3 x6_2).f3))).setCell ⟨gb647, 4, none⟩ (.int .i64 ((rd_T154 l0_3 x6_2).f4))).heap[gb629]? = some (.cells #[.int .i64 a0_0, .int .i64 a0_1, .bool a0_2, .slice (some ad646) l0_3.length c0_3, .slice A0_4 l0_4.length c0_4] 108 (0, 0))) := ⟨by (with_reducible repeat (first | refine blk_drewN ?_ _ | refine blk_drew ?_ | refine blk_alloc ?_ _)); refine blk_far ?_ NB629_647.out _; (with_reducible repeat (first | refine blk_drewN ?_ _ | refine blk_drew ?_ | refine blk_alloc ?_ _)); refine blk_far ?_ NB629_647.out _; (with_reducible repeat (first | refine blk_drewN ?_ _ | refine blk_drew ?_ | refine blk_alloc ?_ _)); refine blk_far ?_ NB629_647.out _; (with_reducible repeat (first | refine blk_drewN ?_ _ | refine blk_drew ?_ | refine blk_alloc ?_ _)); refine blk_far ?_ NB629_647.out _; (with_reducible repeat (first | refine blk_drewN ?_ _ | refine blk_drew ?_ | refine blk_alloc ?_ _)); refine blk_far ?_ NB629_647.out _; (with_reducible repeat (first | refine blk_drewN ?_ _ | refine blk_drew ?_ | refine blk_alloc ?_ _)); exact BK629.out⟩
                have n2_ : Aside0 ((((((w33.setCell ⟨gb647, 0, none⟩ (.int .i64 ((rd_T154 l0_3 x6_2).f0))).setCell ⟨gb647, 1, none⟩ (.int .i64 ((rd_T154 l0_3 x6_2).f1))).setCell ⟨gb647, 2, none⟩ (.int .i64 ((rd_T154 l0_3 x6_2).f2))).setCell ⟨gb647, 3, none⟩ (.int .i64 ((rd_T154 l0_3 x6_2).f3))).setCell ⟨gb647, 4, none⟩ (.int .i64 ((rd_T154 l0_3 x6_2).f4))).heap[gb647]? = some (.cells #[.int .i64 ((rd_T154 l0_3 x6_2).f0), .int .i64 ((rd_T154 l0_3 x6_2).f1), .int .i64 ((rd_T154 l0_3 x6_2).f2), .int .i64 ((rd_T154 l0_3 x6_2).f3), .int .i64 ((rd_T154 l0_3 x6_2).f4)] 154 (0, 0))) := ⟨by (with_reducible repeat (first | refine blk_drewN ?_ _ | refine blk_drew ?_ | refine blk_alloc ?_ _)); refine blk_put (cs := #[.int .i64 ((rd_T154 l0_3 x6_2).f0), .int .i64 ((rd_T154 l0_3 x6_2).f1), .int .i64 ((rd_T154 l0_3 x6_2).f2), .int .i64 ((rd_T154 l0_3 x6_2).f3), .int .i64 0]) ?_ 4 _ rfl; (with_reducible repeat (first | refine blk_drewN ?_ _ | refine blk_drew ?_ | refine blk_alloc ?_ _)); refine blk_put (cs := #[.int .i64 ((rd_T154 l0_3 x6_2).f0), .int .i64 ((rd_T154 l0_3 x6_2).f1), .int .i64 ((rd_T154 l0_3 x6_2).f2), .int .i64 0, .int .i64 0]) ?_ 3 _ rfl; (with_reducible repeat (first | refine blk_drewN ?_ _ | refine blk_drew ?_ | refine blk_alloc ?_ _)); refine blk_put (cs := #[.int .i64 ((rd_T154 l0_3 x6_2).f0), .int .i64 ((rd_T154 l0_3 x6_2).f1), .int .i64 0, .int .i64 0, .int .i64 0]) ?_ 2 _ rfl; (with_reducible repeat (first | refine blk_drewN ?_ _ | refine blk_drew ?_ | refine blk_alloc ?_ _)); refine blk_put (cs := #[.int .i64 ((rd_T154 l0_3 x6_2).f0), .int .i64 0, .int .i64 0, .int .i64 0, .int .i64 0]) ?_ 1 _ rfl; (with_reducible repeat (first | refine blk_drewN ?_ _ | refine blk_drew ?_ | refine blk_alloc ?_ _)); refine blk_put (cs := #[.int .i64 0, .int .i64 0, .int .i64 0, .int .i64 0, .int .i64 0]) ?_ 0 _ rfl; (with_reducible repeat (first | refine blk_drewN ?_ _ | refine blk_drew ?_ | refine blk_alloc ?_ _)); exact BK647.out⟩
                have n3_ : Aside0 (Below w.heap.size w (((((w33.setCell ⟨gb647, 0, none⟩ (.int .i64 ((rd_T154 l0_3 x6_2).f0))).setCell ⟨gb647, 1, none⟩ (.int .i64 ((rd_T154 l0_3 x6_2).f1))).setCell ⟨gb647, 2, none⟩ (.int .i64 ((rd_T154 l0_3 x6_2).f2))).setCell ⟨gb647, 3, none⟩ (.int .i64 ((rd_T154 l0_3 x6_2).f3))).setCell ⟨gb647, 4, none⟩ (.int .i64 ((rd_T154 l0_3 x6_2).f4)))) := ⟨by repeat (first | (with_reducible first | exact HB.out | apply below_alloc | apply pw_below_drewN | apply below_drew1 | refine below_set ?_ GE629.out | refine below_set ?_ GE647.out) | exact HB.out)⟩
                (try clear HO_5)
                (try clear BK629)
                (try clear BK647)
                (try clear HB)
                generalize (((((w33.setCell ⟨gb647, 0, none⟩ (.int .i64 ((rd_T154 l0_3 x6_2).f0))).setCell ⟨gb647, 1, none⟩ (.int .i64 ((rd_T154 l0_3 x6_2).f1))).setCell ⟨gb647, 2, none⟩ (.int .i64 ((rd_T154 l0_3 x6_2).f2))).setCell ⟨gb647, 3, none⟩ (.int .i64 ((rd_T154 l0_3 x6_2).f3))).setCell ⟨gb647, 4, none⟩ (.int .i64 ((rd_T154 l0_3 x6_2).f4))) = w36 at n0_ n1_ n2_ n3_ ⊢
                have HO_5 := n0_
                have BK629 := n1_
                have BK647 := n2_
                have HB := n3_
                clear n0_ n1_ n2_ n3_
                have n0_ := Aside0.mk (Kd.R_drew HO_5.out)
                have n1_ := Aside0.mk (blk_drew BK629.out)
                have n2_ := Aside0.mk (blk_drew BK647.out)
                have n3_ := Aside0.mk (below_drew1 HB.out)
                clear HO_5
                clear BK629
                clear BK647
                clear HB
                have HO_5 := n0_
                have BK629 := n1_
                have BK647 := n2_
                have HB := n3_
                clear n0_ n1_ n2_ n3_
                obtain ⟨Ao38, co38, eo38⟩ := Kd.R_slice HO_5.out
                (first | subst eo38 | (injection eo38 with f1_ f2_ f3_; have f4_ := f1_.symm; have f5_ := f3_.symm; clear f1_ f2_ f3_; subst f4_; subst f5_))
                refine start_ (n := 17) (S := fun w' => w'.cell? ⟨gb647, 0, none⟩ = some (.int .i64 ((rd_T154 l0_3 x6_2).f0)) ∧ w'.cell? ⟨gb647, 1, none⟩ = some (.int .i64 ((rd_T154 l0_3 x6_2).f1)) ∧ w'.cell? ⟨gb647, 2, none⟩ = some (.int .i64 ((rd_T154 l0_3 x6_2).f2)) ∧ w'.cell? ⟨gb647, 3, none⟩ = some (.int .i64 ((rd_T154 l0_3 x6_2).f3)) ∧ w'.cell? ⟨gb647, 4, none⟩ = some (.int .i64 ((rd_T154 l0_3 x6_2).f4))) (ds := []) #[false, false, false, false, false, false, false, false, false, false, false, false, false, false, false, false, false] (by kernel_rfl) rfl rfl ⟨(blk_cell BK647.out 0).trans rfl, (blk_cell BK647.out 1).trans rfl, (blk_cell BK647.out 2).trans rfl, (blk_cell BK647.out 3).trans rfl, (blk_cell BK647.out 4).trans rfl⟩ (fun hHeld => ?_); refine with_tabW turncockref1_EncodeTell.tab11 turncockref1_EncodeTell.bits11 (fun HT_ HW_ => ?_)
                generalize w36.drew = w37 at HO_5 BK629 BK647 HB hHeld ⊢
                refine pure_ (i := 0) (N := some 39) (v := ?_) (a' := ?_) #[true, false, false, false, false, false, false, false, false, false, false, false, false, false, false, false, false] rfl rfl (any_of HT_.out (by kernel_rfl)) (fun _ _ _ h => h) (Or.inl ⟨by rfl, ?_⟩) ?_ ?_
                rotate_left
                · intro w'
                  go_simp
                  with_reducible rfl
                rotate_left
                · simp only [Act.put, List.setIfInBounds_toArray, List.set_cons_zero, List.set_cons_succ, i64_w, i32_w]
                  rfl
                refine pure_ (i := 1) (N := some 40) (v := ?_) (a' := ?_) #[true, true, false, false, false, false, false, false, false, false, false, false, false, false, false, false, false] rfl rfl (any_of HT_.out (by kernel_rfl)) (fun _ _ _ h => h) (Or.inl ⟨by rfl, ?_⟩) ?_ ?_
                rotate_left
                · intro w'
                  go_simp
                  with_reducible rfl
                rotate_left
                · simp only [Act.put, List.setIfInBounds_toArray, List.set_cons_zero, List.set_cons_succ, i64_w, i32_w]
                  rfl
                refine pure_ (i := 4) (N := some 43) (v := ?_) (a' := ?_) #[true, true, false, false, true, false, false, false, false, false, false, false, false, false, false, false, false] rfl rfl (any_of HT_.out (by kernel_rfl)) (fun _ _ _ h => h) (Or.inl ⟨by rfl, ?_⟩) ?_ ?_
                rotate_left
                · intro w'
                  go_simp
                  with_reducible rfl
                rotate_left
                · simp only [Act.put, List.setIfInBounds_toArray, List.set_cons_zero, List.set_cons_succ, i64_w, i32_w]
                  rfl
                refine pure_ (i := 7) (N := some 46) (v := ?_) (a' := ?_) #[true, true, false, false, true, false, false, true, false, false, false, false, false, false, false, false, false] rfl rfl (any_of HT_.out (by kernel_rfl)) (fun _ _ _ h => h) (Or.inl ⟨by rfl, ?_⟩) ?_ ?_
                rotate_left
                · intro w'
                  go_simp
                  with_reducible rfl
                rotate_left
                · simp only [Act.put, List.setIfInBounds_toArray, List.set_cons_zero, List.set_cons_succ, i64_w, i32_w]
                  rfl
                refine pure_ (i := 10) (N := some 49) (v := ?_) (a' := ?_) #[true, true, false, false, true, false, false, true, false, false, true, false, false, false, false, false, false] rfl rfl (any_of HT_.out (by kernel_rfl)) (fun _ _ _ h => h) (Or.inl ⟨by rfl, ?_⟩) ?_ ?_
                rotate_left
                · intro w'
                  go_simp
                  with_reducible rfl
                rotate_left
                · simp only [Act.put, List.setIfInBounds_toArray, List.set_cons_zero, List.set_cons_succ, i64_w, i32_w]
                  rfl
                refine pure_ (i := 13) (N := some 52) (v := ?_) (a' := ?_) #[true, true, false, false, true, false, false, true, false, false, true, false, false, true, false, false, false] rfl rfl (any_of HT_.out (by kernel_rfl)) (fun _ _ _ h => h) (Or.inl ⟨by rfl, ?_⟩) ?_ ?_
                rotate_left
                · intro w'
                  go_simp
                  with_reducible rfl
                rotate_left
                · simp only [Act.put, List.setIfInBounds_toArray, List.set_cons_zero, List.set_cons_succ, i64_w, i32_w]
                  rfl
                refine take_ (i := 2) (N := some 41) (v := ?_) (a' := ?_) #[true, true, true, false, true, false, false, true, false, false, true, false, false, true, false, false, false] rfl rfl (take_ofW HT_.out HW_.out (by kernel_rfl)) (fun _ _ _ h => h) (Or.inl ⟨by rfl, ?_⟩) hHeld ?_ ?_
                rotate_left
                · rintro w' ⟨s0, s1, s2, s3, s4⟩
                  go_simp
                  with_reducible rfl
                rotate_left
                · simp only [Act.put, List.setIfInBounds_toArray, List.set_cons_zero, List.set_cons_succ, i64_w, i32_w]
                  rfl
                refine take_ (i := 5) (N := some 44) (v := ?_) (a' := ?_) #[true, true, true, false, true, true, false, true, false, false, true, false, false, true, false, false, false] rfl rfl (take_ofW HT_.out HW_.out (by kernel_rfl)) (fun _ _ _ h => h) (Or.inl ⟨by rfl, ?_⟩) hHeld ?_ ?_
                rotate_left
                · rintro w' ⟨s0, s1, s2, s3, s4⟩
                  go_simp
                  with_reducible rfl
                rotate_left
                · simp only [Act.put, List.setIfInBounds_toArray, List.set_cons_zero, List.set_cons_succ, i64_w, i32_w]
                  rfl
                refine take_ (i := 8) (N := some 47) (v := ?_) (a' := ?_) #[true, true, true, false, true, true, false, true, true, false, true, false, false, true, false, false, false] rfl rfl (take_ofW HT_.out HW_.out (by kernel_rfl)) (fun _ _ _ h => h) (Or.inl ⟨by rfl, ?_⟩) hHeld ?_ ?_
                rotate_left
                · rintro w' ⟨s0, s1, s2, s3, s4⟩
                  go_simp
                  with_reducible rfl
                rotate_left
                · simp only [Act.put, List.setIfInBounds_toArray, List.set_cons_zero, List.set_cons_succ, i64_w, i32_w]
                  rfl
                refine take_ (i := 11) (N := some 50) (v := ?_) (a' := ?_) #[true, true, true, false, true, true, false, true, true, false, true, true, false, true, false, false, false] rfl rfl (take_ofW HT_.out HW_.out (by kernel_rfl)) (fun _ _ _ h => h) (Or.inl ⟨by rfl, ?_⟩) hHeld ?_ ?_
                rotate_left
                · rintro w' ⟨s0, s1, s2, s3, s4⟩
                  go_simp
                  with_reducible rfl
                rotate_left
                · simp only [Act.put, List.setIfInBounds_toArray, List.set_cons_zero, List.set_cons_succ, i64_w, i32_w]
                  rfl
                refine take_ (i := 14) (N := some 53) (v := ?_) (a' := ?_) #[true, true, true, false, true, true, false, true, true, false, true, true, false, true, true, false, false] rfl rfl (take_ofW HT_.out HW_.out (by kernel_rfl)) (fun _ _ _ h => h) (Or.inl ⟨by rfl, ?_⟩) hHeld ?_ ?_
                rotate_left
                · rintro w' ⟨s0, s1, s2, s3, s4⟩
                  go_simp
                  with_reducible rfl
                rotate_left
                · simp only [Act.put, List.setIfInBounds_toArray, List.set_cons_zero, List.set_cons_succ, i64_w, i32_w]
                  rfl
                refine one_ (i := 3) (N := some 42) #[true, true, true, true, true, true, false, true, true, false, true, true, false, true, true, false, false] rfl rfl (one_of HT_.out (by kernel_rfl)) (by decide) (fun K hK => ?_)
                refine goes_ Try.func102 (by kernel_rfl) rfl #[.slice Ao38 x5_2.length co38, .int .i64 ((rd_T154 l0_3 x6_2).f0)] (by rfl) rfl rfl (by (try simp only [List.map_toArray, List.map_cons, List.map_nil]); first | done | rfl | (simp only [List.length_drop, List.length_take]; rfl)) ?_
                with_reducible refine (turncockref1_num.calls k2 _ _ x5_2 ((rd_T154 l0_3 x6_2).f0) t648 _ ?side1 ?side2 A27.out).mono ?_
                (case side1 => repeat (first | exact (Kd.R_reads' HO_5.out).2.2 | (with_reducible refine Kd.C_alloc ?_ _) | (with_reducible refine Kd.C_drewN ?_ _) | (with_reducible refine Kd.C_drew ?_)))
                (case side2 => exact (Kd.R_reads' HO_5.out).2.1)
                rintro e w39 ⟨v649, rfl, ho0, hb⟩
                refine ⟨_, rfl, ?_⟩
                have n0_ := Aside0.mk (Kd.R_elder' (by (with_reducible repeat (first | apply Kd.R_alloc | apply Kd.R_drewN | apply Kd.R_drew)); exact HO_5.out) (Kd.R_base ho0) hb)
                have n1_ := Aside0.mk (Kd.R_lower (Kd.R_new' ho0 (Kd.R_lt (by (with_reducible repeat (first | apply Kd.R_alloc | apply Kd.R_drewN | apply Kd.R_drew)); exact HO_5.out))) (below_size (by repeat (first | (with_reducible first | exact HB.out | apply below_alloc | apply pw_below_drewN | apply below_drew1 | refine below_set ?_ GE629.out | refine below_set ?_ GE647.out) | exact HB.out))))
                have n2_ := Aside0.mk (blk_below (g := gb629) (o := .cells #[.int .i64 a0_0, .int .i64 a0_1, .bool a0_2, .slice (some ad646) l0_3.length c0_3, .slice A0_4 l0_4.length c0_4] 108 (0, 0)) (by (with_reducible repeat (first | refine blk_drewN ?_ _ | refine blk_drew ?_ | refine blk_alloc ?_ _)); exact BK629.out) hb)
                have n3_ := Aside0.mk (blk_below (g := gb647) (o := .cells #[.int .i64 ((rd_T154 l0_3 x6_2).f0), .int .i64 ((rd_T154 l0_3 x6_2).f1), .int .i64 ((rd_T154 l0_3 x6_2).f2), .int .i64 ((rd_T154 l0_3 x6_2).f3), .int .i64 ((rd_T154 l0_3 x6_2).f4)] 154 (0, 0)) (by (with_reducible repeat (first | refine blk_drewN ?_ _ | refine blk_drew ?_ | refine blk_alloc ?_ _)); exact BK647.out) hb)
                have n4_ := Aside0.mk (below_step (by repeat (first | (with_reducible first | exact HB.out | apply below_alloc | apply pw_below_drewN | apply below_drew1 | refine below_set ?_ GE629.out | refine below_set ?_ GE647.out) | exact HB.out)) hb)
                clear HO_5
                clear BK629
                clear BK647
                clear HB
                have HO_5 := n0_
                have HO650 := n1_
                have BK629 := n2_
                have BK647 := n3_
                have HB := n4_
                clear n0_ n1_ n2_ n3_ n4_
                (try clear hb)
                (try clear hb2)
                (try clear hk)
                (try clear hi)
                (try clear ho0)
                obtain ⟨Ao40, co40, eo40⟩ := Kd.R_slice HO650.out
                (first | subst eo40 | (injection eo40 with f1_ f2_ f3_; have f4_ := f1_.symm; have f5_ := f3_.symm; clear f1_ f2_ f3_; subst f4_; subst f5_))
                refine hK.out _ _ ⟨(blk_cell BK647.out 0).trans rfl, (blk_cell BK647.out 1).trans rfl, (blk_cell BK647.out 2).trans rfl, (blk_cell BK647.out 3).trans rfl, (blk_cell BK647.out 4).trans rfl⟩ (fun hHeld => ?_)
                clear hK K
                refine norm_ (a' := ?_) ?_ ?_
                rotate_left
                · show Act.put _ (some 42) _ = _
                  simp only [Act.put, List.setIfInBounds_toArray, List.set_cons_zero, List.set_cons_succ, i64_w, i32_w]
                  rfl
                refine one_ (i := 6) (N := some 45) #[true, true, true, true, true, true, true, true, true, false, true, true, false, true, true, false, false] rfl rfl (one_of HT_.out (by kernel_rfl)) (by decide) (fun K hK => ?_)
                refine goes_ Try.func102 (by kernel_rfl) rfl #[.slice Ao40 t648.length co40, .int .i64 ((rd_T154 l0_3 x6_2).f1)] (by rfl) rfl rfl (by (try simp only [List.map_toArray, List.map_cons, List.map_nil]); first | done | rfl | (simp only [List.length_drop, List.length_take]; rfl)) ?_
                with_reducible refine (turncockref1_num.calls k2 _ _ t648 ((rd_T154 l0_3 x6_2).f1) t651 _ ?side1 ?side2 A28.out).mono ?_
                (case side1 => repeat (first | exact (Kd.R_reads' HO650.out).2.2 | (with_reducible refine Kd.C_alloc ?_ _) | (with_reducible refine Kd.C_drewN ?_ _) | (with_reducible refine Kd.C_drew ?_)))
                (case side2 => exact (Kd.R_reads' HO650.out).2.1)
                rintro e w41 ⟨v652, rfl, ho0, hb⟩
                refine ⟨_, rfl, ?_⟩
                have n0_ := Aside0.mk (Kd.R_elder' (by (with_reducible repeat (first | apply Kd.R_alloc | apply Kd.R_drewN | apply Kd.R_drew)); exact HO_5.out) (Kd.R_base ho0) hb)
                have n1_ := Aside0.mk (Kd.R_elder' (by (with_reducible repeat (first | apply Kd.R_alloc | apply Kd.R_drewN | apply Kd.R_drew)); exact HO650.out) (Kd.R_base ho0) hb)
                have n2_ := Aside0.mk (Kd.R_lower (Kd.R_new' (Kd.R_new' ho0 (Kd.R_lt (by (with_reducible repeat (first | apply Kd.R_alloc | apply Kd.R_drewN | apply Kd.R_drew)); exact HO_5.out))) (Kd.R_lt (by (with_reducible repeat (first | apply Kd.R_alloc | apply Kd.R_drewN | apply Kd.R_drew)); exact HO650.out))) (below_size (by repeat (first | (with_reducible first | exact HB.out | apply below_alloc | apply pw_below_drewN | apply below_drew1 | refine below_set ?_ GE629.out | refine below_set ?_ GE647.out) | exact HB.out))))
                have n3_ := Aside0.mk (blk_below (g := gb629) (o := .cells #[.int .i64 a0_0, .int .i64 a0_1, .bool a0_2, .slice (some ad646) l0_3.length c0_3, .slice A0_4 l0_4.length c0_4] 108 (0, 0)) (by (with_reducible repeat (first | refine blk_drewN ?_ _ | refine blk_drew ?_ | refine blk_alloc ?_ _)); exact BK629.out) hb)
                have n4_ := Aside0.mk (blk_below (g := gb647) (o := .cells #[.int .i64 ((rd_T154 l0_3 x6_2).f0), .int .i64 ((rd_T154 l0_3 x6_2).f1), .int .i64 ((rd_T154 l0_3 x6_2).f2), .int .i64 ((rd_T154 l0_3 x6_2).f3), .int .i64 ((rd_T154 l0_3 x6_2).f4)] 154 (0, 0)) (by (with_reducible repeat (first | refine blk_drewN ?_ _ | refine blk_drew ?_ | refine blk_alloc ?_ _)); exact BK647.out) hb)
                have n5_ := Aside0.mk (below_step (by repeat (first | (with_reducible first | exact HB.out | apply below_alloc | apply pw_below_drewN | apply below_drew1 | refine below_set ?_ GE629.out | refine below_set ?_ GE647.out) | exact HB.out)) hb)
                clear HO_5
                clear HO650
                clear BK629
                clear BK647
                clear HB
                have HO_5 := n0_
                have HO650 := n1_
                have HO653 := n2_
                have BK629 := n3_
                have BK647 := n4_
                have HB := n5_
                clear n0_ n1_ n2_ n3_ n4_ n5_
                (try clear hb)
                (try clear hb2)
                (try clear hk)
                (try clear hi)
                (try clear ho0)
                obtain ⟨Ao42, co42, eo42⟩ := Kd.R_slice HO653.out
                (first | subst eo42 | (injection eo42 with f1_ f2_ f3_; have f4_ := f1_.symm; have f5_ := f3_.symm; clear f1_ f2_ f3_; subst f4_; subst f5_))
                refine hK.out _ _ ⟨(blk_cell BK647.out 0).trans rfl, (blk_cell BK647.out 1).trans rfl, (blk_cell BK647.out 2).trans rfl, (blk_cell BK647.out 3).trans rfl, (blk_cell BK647.out 4).trans rfl⟩ (fun hHeld => ?_)
                clear hK K
                refine norm_ (a' := ?_) ?_ ?_
                rotate_left
                · show Act.put _ (some 45) _ = _
                  simp only [Act.put, List.setIfInBounds_toArray, List.set_cons_zero, List.set_cons_succ, i64_w, i32_w]
                  rfl
                refine one_ (i := 9) (N := some 48) #[true, true, true, true, true, true, true, true, true, true, true, true, false, true, true, false, false] rfl rfl (one_of HT_.out (by kernel_rfl)) (by decide) (fun K hK => ?_)
                refine goes_ Try.func102 (by kernel_rfl) rfl #[.slice Ao42 t651.length co42, .int .i64 ((rd_T154 l0_3 x6_2).f2)] (by rfl) rfl rfl (by (try simp only [List.map_toArray, List.map_cons, List.map_nil]); first | done | rfl | (simp only [List.length_drop, List.length_take]; rfl)) ?_
                with_reducible refine (turncockref1_num.calls k2 _ _ t651 ((rd_T154 l0_3 x6_2).f2) t654 _ ?side1 ?side2 A29.out).mono ?_
                (case side1 => repeat (first | exact (Kd.R_reads' HO653.out).2.2 | (with_reducible refine Kd.C_alloc ?_ _) | (with_reducible refine Kd.C_drewN ?_ _) | (with_reducible refine Kd.C_drew ?_)))
                (case side2 => exact (Kd.R_reads' HO653.out).2.1)
                rintro e w43 ⟨v655, rfl, ho0, hb⟩
                refine ⟨_, rfl, ?_⟩
                have n0_ := Aside0.mk (Kd.R_elder' (by (with_reducible repeat (first | apply Kd.R_alloc | apply Kd.R_drewN | apply Kd.R_drew)); exact HO_5.out) (Kd.R_base ho0) hb)
                have n1_ := Aside0.mk (Kd.R_elder' (by (with_reducible repeat (first | apply Kd.R_alloc | apply Kd.R_drewN | apply Kd.R_drew)); exact HO650.out) (Kd.R_base ho0) hb)
                have n2_ := Aside0.mk (Kd.R_elder' (by (with_reducible repeat (first | apply Kd.R_alloc | apply Kd.R_drewN | apply Kd.R_drew)); exact HO653.out) (Kd.R_base ho0) hb)
                have n3_ := Aside0.mk (Kd.R_lower (Kd.R_new' (Kd.R_new' (Kd.R_new' ho0 (Kd.R_lt (by (with_reducible repeat (first | apply Kd.R_alloc | apply Kd.R_drewN | apply Kd.R_drew)); exact HO_5.out))) (Kd.R_lt (by (with_reducible repeat (first | apply Kd.R_alloc | apply Kd.R_drewN | apply Kd.R_drew)); exact HO650.out))) (Kd.R_lt (by (with_reducible repeat (first | apply Kd.R_alloc | apply Kd.R_drewN | apply Kd.R_drew)); exact HO653.out))) (below_size (by repeat (first | (with_reducible first | exact HB.out | apply below_alloc | apply pw_below_drewN | apply below_drew1 | refine below_set ?_ GE629.out | refine below_set ?_ GE647.out) | exact HB.out))))
                have n4_ := Aside0.mk (blk_below (g := gb629) (o := .cells #[.int .i64 a0_0, .int .i64 a0_1, .bool a0_2, .slice (some ad646) l0_3.length c0_3, .slice A0_4 l0_4.length c0_4] 108 (0, 0)) (by (with_reducible repeat (first | refine blk_drewN ?_ _ | refine blk_drew ?_ | refine blk_alloc ?_ _)); exact BK629.out) hb)
                have n5_ := Aside0.mk (blk_below (g := gb647) (o := .cells #[.int .i64 ((rd_T154 l0_3 x6_2).f0), .int .i64 ((rd_T154 l0_3 x6_2).f1), .int .i64 ((rd_T154 l0_3 x6_2).f2), .int .i64 ((rd_T154 l0_3 x6_2).f3), .int .i64 ((rd_T154 l0_3 x6_2).f4)] 154 (0, 0)) (by (with_reducible repeat (first | refine blk_drewN ?_ _ | refine blk_drew ?_ | refine blk_alloc ?_ _)); exact BK647.out) hb)
                have n6_ := Aside0.mk (below_step (by repeat (first | (with_reducible first | exact HB.out | apply below_alloc | apply pw_below_drewN | apply below_drew1 | refine below_set ?_ GE629.out | refine below_set ?_ GE647.out) | exact HB.out)) hb)
                clear HO_5
                clear HO650
                clear HO653
                clear BK629
                clear BK647
                clear HB
                have HO_5 := n0_
                have HO650 := n1_
                have HO653 := n2_
                have HO656 := n3_
                have BK629 := n4_
                have BK647 := n5_
                have HB := n6_
                clear n0_ n1_ n2_ n3_ n4_ n5_ n6_
                (try clear hb)
                (try clear hb2)
                (try clear hk)
                (try clear hi)
                (try clear ho0)
                obtain ⟨Ao44, co44, eo44⟩ := Kd.R_slice HO656.out
                (first | subst eo44 | (injection eo44 with f1_ f2_ f3_; have f4_ := f1_.symm; have f5_ := f3_.symm; clear f1_ f2_ f3_; subst f4_; subst f5_))
                refine hK.out _ _ ⟨(blk_cell BK647.out 0).trans rfl, (blk_cell BK647.out 1).trans rfl, (blk_cell BK647.out 2).trans rfl, (blk_cell BK647.out 3).trans rfl, (blk_cell BK647.out 4).trans rfl⟩ (fun hHeld => ?_)
                clear hK K
                refine norm_ (a' := ?_) ?_ ?_
                rotate_left
                · show Act.put _ (some 48) _ = _
                  simp only [Act.put, List.setIfInBounds_toArray, List.set_cons_zero, List.set_cons_succ, i64_w, i32_w]
                  rfl
                refine one_ (i := 12) (N := some 51) #[true, true, true, true, true, true, true, true, true, true, true, true, true, true, true, false, false] rfl rfl (one_of HT_.out (by kernel_rfl)) (by decide) (fun K hK => ?_)
                refine goes_ Try.func102 (by kernel_rfl) rfl #[.slice Ao44 t654.length co44, .int .i64 ((rd_T154 l0_3 x6_2).f3)] (by rfl) rfl rfl (by (try simp only [List.map_toArray, List.map_cons, List.map_nil]); first | done | rfl | (simp only [List.length_drop, List.length_take]; rfl)) ?_
                with_reducible refine (turncockref1_num.calls k2 _ _ t654 ((rd_T154 l0_3 x6_2).f3) t657 _ ?side1 ?side2 A30.out).mono ?_
                (case side1 => repeat (first | exact (Kd.R_reads' HO656.out).2.2 | (with_reducible refine Kd.C_alloc ?_ _) | (with_reducible refine Kd.C_drewN ?_ _) | (with_reducible refine Kd.C_drew ?_)))
                (case side2 => exact (Kd.R_reads' HO656.out).2.1)
                rintro e w45 ⟨v658, rfl, ho0, hb⟩
                refine ⟨_, rfl, ?_⟩
                have n0_ := Aside0.mk (Kd.R_elder' (by (with_reducible repeat (first | apply Kd.R_alloc | apply Kd.R_drewN | apply Kd.R_drew)); exact HO_5.out) (Kd.R_base ho0) hb)
                have n1_ := Aside0.mk (Kd.R_elder' (by (with_reducible repeat (first | apply Kd.R_alloc | apply Kd.R_drewN | apply Kd.R_drew)); exact HO650.out) (Kd.R_base ho0) hb)
                have n2_ := Aside0.mk (Kd.R_elder' (by (with_reducible repeat (first | apply Kd.R_alloc | apply Kd.R_drewN | apply Kd.R_drew)); exact HO653.out) (Kd.R_base ho0) hb)
                have n3_ := Aside0.mk (Kd.R_elder' (by (with_reducible repeat (first | apply Kd.R_alloc | apply Kd.R_drewN | apply Kd.R_drew)); exact HO656.out) (Kd.R_base ho0) hb)
                have n4_ := Aside0.mk (Kd.R_lower (Kd.R_new' (Kd.R_new' (Kd.R_new' (Kd.R_new' ho0 (Kd.R_lt (by (with_reducible repeat (first | apply Kd.R_alloc | apply Kd.R_drewN | apply Kd.R_drew)); exact HO_5.out))) (Kd.R_lt (by (with_reducible repeat (first | apply Kd.R_alloc | apply Kd.R_drewN | apply Kd.R_drew)); exact HO650.out))) (Kd.R_lt (by (with_reducible repeat (first | apply Kd.R_alloc | apply Kd.R_drewN | apply Kd.R_drew)); exact HO653.out))) (Kd.R_lt (by (with_reducible repeat (first | apply Kd.R_alloc | apply Kd.R_drewN | apply Kd.R_drew)); exact HO656.out))) (below_size (by repeat (first | (with_reducible first | exact HB.out | apply below_alloc | apply pw_below_drewN | apply below_drew1 | refine below_set ?_ GE629.out | refine below_set ?_ GE647.out) | exact HB.out))))
                have n5_ := Aside0.mk (blk_below (g := gb629) (o := .cells #[.int .i64 a0_0, .int .i64 a0_1, .bool a0_2, .slice (some ad646) l0_3.length c0_3, .slice A0_4 l0_4.length c0_4] 108 (0, 0)) (by (with_reducible repeat (first | refine blk_drewN ?_ _ | refine blk_drew ?_ | refine blk_alloc ?_ _)); exact BK629.out) hb)
                have n6_ := Aside0.mk (blk_below (g := gb647) (o := .cells #[.int .i64 ((rd_T154 l0_3 x6_2).f0), .int .i64 ((rd_T154 l0_3 x6_2).f1), .int .i64 ((rd_T154 l0_3 x6_2).f2), .int .i64 ((rd_T154 l0_3 x6_2).f3), .int .i64 ((rd_T154 l0_3 x6_2).f4)] 154 (0, 0)) (by (with_reducible repeat (first | refine blk_drewN ?_ _ | refine blk_drew ?_ | refine blk_alloc ?_ _)); exact BK647.out) hb)
                have n7_ := Aside0.mk (below_step (by repeat (first | (with_reducible first | exact HB.out | apply below_alloc | apply pw_below_drewN | apply below_drew1 | refine below_set ?_ GE629.out | refine below_set ?_ GE647.out) | exact HB.out)) hb)
                clear HO_5
                clear HO650
                clear HO653
                clear HO656
                clear BK629
                clear BK647
                clear HB
                have HO_5 := n0_
                have HO650 := n1_
                have HO653 := n2_
                have HO656 := n3_
                have HO659 := n4_
                have BK629 := n5_
                have BK647 := n6_
                have HB := n7_
                clear n0_ n1_ n2_ n3_ n4_ n5_ n6_ n7_
                (try clear hb)
                (try clear hb2)
                (try clear hk)
                (try clear hi)
                (try clear ho0)
                obtain ⟨Ao46, co46, eo46⟩ := Kd.R_slice HO659.out
                (first | subst eo46 | (injection eo46 with f1_ f2_ f3_; have f4_ := f1_.symm; have f5_ := f3_.symm; clear f1_ f2_ f3_; subst f4_; subst f5_))
                refine hK.out _ _ ⟨(blk_cell BK647.out 0).trans rfl, (blk_cell BK647.out 1).trans rfl, (blk_cell BK647.out 2).trans rfl, (blk_cell BK647.out 3).trans rfl, (blk_cell BK647.out 4).trans rfl⟩ (fun hHeld => ?_)
                clear hK K
                refine norm_ (a' := ?_) ?_ ?_
                rotate_left
                · show Act.put _ (some 51) _ = _
                  simp only [Act.put, List.setIfInBounds_toArray, List.set_cons_zero, List.set_cons_succ, i64_w, i32_w]
                  rfl
                refine one_ (i := 15) (N := some 54) #[true, true, true, true, true, true, true, true, true, true, true, true, true, true, true, true, false] rfl rfl (one_of HT_.out (by kernel_rfl)) (by decide) (fun K hK => ?_)
                refine goes_ Try.func102 (by kernel_rfl) rfl #[.slice Ao46 t657.length co46, .int .i64 ((rd_T154 l0_3 x6_2).f4)] (by rfl) rfl rfl (by (try simp only [List.map_toArray, List.map_cons, List.map_nil]); first | done | rfl | (simp only [List.length_drop, List.length_take]; rfl)) ?_
                with_reducible refine (turncockref1_num.calls k2 _ _ t657 ((rd_T154 l0_3 x6_2).f4) t660 _ ?side1 ?side2 A31.out).mono ?_
                (case side1 => repeat (first | exact (Kd.R_reads' HO659.out).2.2 | (with_reducible refine Kd.C_alloc ?_ _) | (with_reducible refine Kd.C_drewN ?_ _) | (with_reducible refine Kd.C_drew ?_)))
                (case side2 => exact (Kd.R_reads' HO659.out).2.1)
                rintro e w47 ⟨v661, rfl, ho0, hb⟩
                refine ⟨_, rfl, ?_⟩
                have n0_ := Aside0.mk (Kd.R_elder' (by (with_reducible repeat (first | apply Kd.R_alloc | apply Kd.R_drewN | apply Kd.R_drew)); exact HO_5.out) (Kd.R_base ho0) hb)
                have n1_ := Aside0.mk (Kd.R_elder' (by (with_reducible repeat (first | apply Kd.R_alloc | apply Kd.R_drewN | apply Kd.R_drew)); exact HO650.out) (Kd.R_base ho0) hb)
                have n2_ := Aside0.mk (Kd.R_elder' (by (with_reducible repeat (first | apply Kd.R_alloc | apply Kd.R_drewN | apply Kd.R_drew)); exact HO653.out) (Kd.R_base ho0) hb)
                have n3_ := Aside0.mk (Kd.R_elder' (by (with_reducible repeat (first | apply Kd.R_alloc | apply Kd.R_drewN | apply Kd.R_drew)); exact HO656.out) (Kd.R_base ho0) hb)
                have n4_ := Aside0.mk (Kd.R_elder' (by (with_reducible repeat (first | apply Kd.R_alloc | apply Kd.R_drewN | apply Kd.R_drew)); exact HO659.out) (Kd.R_base ho0) hb)
                have n5_ := Aside0.mk (Kd.R_lower (Kd.R_new' (Kd.R_new' (Kd.R_new' (Kd.R_new' (Kd.R_new' ho0 (Kd.R_lt (by (with_reducible repeat (first | apply Kd.R_alloc | apply Kd.R_drewN | apply Kd.R_drew)); exact HO_5.out))) (Kd.R_lt (by (with_reducible repeat (first | apply Kd.R_alloc | apply Kd.R_drewN | apply Kd.R_drew)); exact HO650.out))) (Kd.R_lt (by (with_reducible repeat (first | apply Kd.R_alloc | apply Kd.R_drewN | apply Kd.R_drew)); exact HO653.out))) (Kd.R_lt (by (with_reducible repeat (first | apply Kd.R_alloc | apply Kd.R_drewN | apply Kd.R_drew)); exact HO656.out))) (Kd.R_lt (by (with_reducible repeat (first | apply Kd.R_alloc | apply Kd.R_drewN | apply Kd.R_drew)); exact HO659.out))) (below_size (by repeat (first | (with_reducible first | exact HB.out | apply below_alloc | apply pw_below_drewN | apply below_drew1 | refine below_set ?_ GE629.out | refine below_set ?_ GE647.out) | exact HB.out))))
                have n6_ := Aside0.mk (blk_below (g := gb629) (o := .cells #[.int .i64 a0_0, .int .i64 a0_1, .bool a0_2, .slice (some ad646) l0_3.length c0_3, .slice A0_4 l0_4.length c0_4] 108 (0, 0)) (by (with_reducible repeat (first | refine blk_drewN ?_ _ | refine blk_drew ?_ | refine blk_alloc ?_ _)); exact BK629.out) hb)
                have n7_ := Aside0.mk (blk_below (g := gb647) (o := .cells #[.int .i64 ((rd_T154 l0_3 x6_2).f0), .int .i64 ((rd_T154 l0_3 x6_2).f1), .int .i64 ((rd_T154 l0_3 x6_2).f2), .int .i64 ((rd_T154 l0_3 x6_2).f3), .int .i64 ((rd_T154 l0_3 x6_2).f4)] 154 (0, 0)) (by (with_reducible repeat (first | refine blk_drewN ?_ _ | refine blk_drew ?_ | refine blk_alloc ?_ _)); exact BK647.out) hb)
                have n8_ := Aside0.mk (below_step (by repeat (first | (with_reducible first | exact HB.out | apply below_alloc | apply pw_below_drewN | apply below_drew1 | refine below_set ?_ GE629.out | refine below_set ?_ GE647.out) | exact HB.out)) hb)
                clear HO_5
                clear HO650
                clear HO653
                clear HO656
                clear HO659
                clear BK629
                clear BK647
                clear HB
                have HO_5 := n0_
                have HO650 := n1_
                have HO653 := n2_
                have HO656 := n3_
                have HO659 := n4_
                have HO662 := n5_
                have BK629 := n6_
                have BK647 := n7_
                have HB := n8_
                clear n0_ n1_ n2_ n3_ n4_ n5_ n6_ n7_ n8_
                (try clear hb)
                (try clear hb2)
                (try clear hk)
                (try clear hi)
                (try clear ho0)
                refine hK.out _ _ ⟨(blk_cell BK647.out 0).trans rfl, (blk_cell BK647.out 1).trans rfl, (blk_cell BK647.out 2).trans rfl, (blk_cell BK647.out 3).trans rfl, (blk_cell BK647.out 4).trans rfl⟩ (fun hHeld => ?_)
                clear hK K
                refine norm_ (a' := ?_) ?_ ?_
                rotate_left
                · show Act.put _ (some 54) _ = _
                  simp only [Act.put, List.setIfInBounds_toArray, List.set_cons_zero, List.set_cons_succ, i64_w, i32_w]
                  rfl
                refine pure_ (i := 16) (N := some 5) (v := ?_) (a' := ?_) #[true, true, true, true, true, true, true, true, true, true, true, true, true, true, true, true, true] rfl rfl (any_of HT_.out (by kernel_rfl)) (fun _ _ _ h => h) (Or.inl ⟨by rfl, ?_⟩) ?_ ?_
                rotate_left
                · intro w'
                  go_simp
                  with_reducible rfl
                rotate_left
                · simp only [Act.put, List.setIfInBounds_toArray, List.set_cons_zero, List.set_cons_succ, i64_w, i32_w]
                  rfl
                refine done_ (done_of HT_.out (by kernel_rfl)) ?_
                try go_wp2
                go_roundg k2
                case measure => have := HJ3.out; have := HK2.out; omega
                case rel => exact ⟨(t660), (wrap64 (x6_2 + 1)), (by first | rfl | (simp; done) | (simp [*]; done)), H', ⟨by have := HJ3.out; have := HK2.out; omega⟩, ⟨by (with_reducible repeat (first | apply Kd.R_alloc | apply Kd.R_drewN | apply Kd.R_drew)); exact Kd.R_mono HO662.out (fun _ hk => trivial)⟩, ⟨by (with_reducible repeat (first | refine blk_drewN ?_ _ | refine blk_drew ?_ | refine blk_alloc ?_ _)); exact BK629.out⟩, ⟨by repeat (first | (with_reducible first | exact HB.out | apply below_alloc | apply pw_below_drewN | apply below_drew1 | refine below_set ?_ GE629.out | refine below_set ?_ GE647.out) | exact HB.out)⟩⟩
              · rw [if_neg c26] at H
                exact absurd H (by simp)
            · rw [if_neg c25] at H
              have c25b0 : decide (x6_2 < (l0_3.length : Int)) = false := decide_eq_false c25
              clear c25
              replace H := Option.bind_eq_some_iff.mp H
              obtain ⟨t663, A480, H⟩ := H
              replace H : (turncockref1_EncodeTell.l1 k2 t663 0 a0_0 a0_1 a0_2 l0_3 l0_4) = some (r1, r2) := H
              have A48 := Aside0.mk A480
              clear A480
              have H' := Aside0.mk H
              clear H
              have hcz49_0 : wr.cell? ⟨gb629, 0, none⟩ = some (.int .i64 a0_0) := (blk_cell BK629.out 0).trans rfl
              have hcz49_1 : wr.cell? ⟨gb629, 1, none⟩ = some (.int .i64 a0_1) := (blk_cell BK629.out 1).trans rfl
              have hcz49_2 : wr.cell? ⟨gb629, 2, none⟩ = some (.bool a0_2) := (blk_cell BK629.out 2).trans rfl
              have hcz49_3 : wr.cell? ⟨gb629, 3, none⟩ = some (.slice A0_3 l0_3.length c0_3) := (blk_cell BK629.out 3).trans rfl
              have hcz49_4 : wr.cell? ⟨gb629, 4, none⟩ = some (.slice A0_4 l0_4.length c0_4) := (blk_cell BK629.out 4).trans rfl
              have hfz49_0 := blk_frozen BK629.out 0
              have hfz49_1 := blk_frozen BK629.out 1
              have hfz49_2 := blk_frozen BK629.out 2
              have hfz49_3 := blk_frozen BK629.out 3
              have hfz49_4 := blk_frozen BK629.out 4
              obtain ⟨Ao50, co50, eo50⟩ := Kd.R_slice HO_5.out
              subst eo50
              go_wp2_with (first | ((with_reducible refine gate_callee (f := 102) rfl ?_); refine goesL_ (some 59) rfl rfl Try.func102 (by kernel_rfl) rfl #[.slice Ao50 x5_2.length co50, .int .i64 (l0_4.length : Int)] rfl (by (try simp only [List.map_toArray, List.map_cons, List.map_nil]); first | done | rfl | (simp only [List.length_drop, List.length_take]; rfl)) ?_; (with_reducible refine (turncockref1_num.calls k2 _ _ x5_2 (l0_4.length : Int) t663 _ ?side1 ?side2 A48.out).mono ?_); (case side1 => repeat (first | exact (Kd.R_reads' HO_5.out).2.2 | (with_reducible refine Kd.C_alloc ?_ _) | (with_reducible refine Kd.C_drewN ?_ _) | (with_reducible refine Kd.C_drew ?_))); (case side2 => exact (Kd.R_reads' HO_5.out).2.1); rintro e w51 ⟨v664, rfl, ho0, hb⟩; refine ⟨_, rfl, ?_⟩; have n0_ := Aside0.mk (Kd.R_elder' (by (with_reducible repeat (first | apply Kd.R_alloc | apply Kd.R_drewN | apply Kd.R_drew)); exact HO_5.out) (Kd.R_base ho0) hb); have n1_ := Aside0.mk (Kd.R_lower (Kd.R_new' ho0 (Kd.R_lt (by (with_reducible repeat (first | apply Kd.R_alloc | apply Kd.R_drewN | apply Kd.R_drew)); exact HO_5.out))) (below_size (by repeat (first | (with_reducible first | exact HB.out | apply below_alloc | apply pw_below_drewN | apply below_drew1 | refine below_set ?_ GE629.out) | exact HB.out)))); have n2_ := Aside0.mk (blk_below (g := gb629) (o := .cells #[.int .i64 a0_0, .int .i64 a0_1, .bool a0_2, .slice A0_3 l0_3.length c0_3, .slice A0_4 l0_4.length c0_4] 108 (0, 0)) (by (with_reducible repeat (first | refine blk_drewN ?_ _ | refine blk_drew ?_ | refine blk_alloc ?_ _)); exact BK629.out) hb); have n3_ := Aside0.mk (below_step (by repeat (first | (with_reducible first | exact HB.out | apply below_alloc | apply pw_below_drewN | apply below_drew1 | refine below_set ?_ GE629.out) | exact HB.out)) hb); clear HO_5; clear BK629; clear HB; have HO_5 := n0_; have HO665 := n1_; have BK629 := n2_; have HB := n3_; clear n0_ n1_ n2_ n3_; (try clear hb); (try clear hb2); (try clear hk); (try clear hi); (try clear ho0)))
              go_loopg [5, 8] k2 (fun kq v5 v8 w' => ∃ (x5_3 : List Int) (x8_3 : Int), v8 = .int .i64 x8_3 ∧ Aside0 (turncockref1_EncodeTell.l1 kq x5_3 x8_3 a0_0 a0_1 a0_2 l0_3 l0_4 = some (r1, r2)) ∧ Aside0 (kq ≤ k2) ∧ Aside0 (Kd.R (Kd.int .u8) 5 w' w.heap.size (fun _ => True) v5 x5_3) ∧ Aside0 (w'.heap[gb629]? = some (.cells #[.int .i64 a0_0, .int .i64 a0_1, .bool a0_2, (.slice A0_3 l0_3.length c0_3), (.slice A0_4 l0_4.length c0_4)] 108 (0, 0))) ∧ Aside0 (Below w.heap.size w w'))
              case atStart => exact ⟨(t663), (0), (by first | rfl | (simp; done) | (simp [*]; done)), H', ⟨Nat.le_refl _⟩, ⟨by (with_reducible repeat (first | apply Kd.R_alloc | apply Kd.R_drewN | apply Kd.R_drew)); exact Kd.R_mono HO665.out (fun _ hk => trivial)⟩, ⟨by (with_reducible repeat (first | refine blk_drewN ?_ _ | refine blk_drew ?_ | refine blk_alloc ?_ _)); exact BK629.out⟩, ⟨by repeat (first | (with_reducible first | exact HB.out | apply below_alloc | apply pw_below_drewN | apply below_drew1 | refine below_set ?_ GE629.out) | exact HB.out)⟩⟩
              case round =>
                clear H'
                try clear c1
                try clear c2
                try clear p2
                try clear c3
                try clear p6
                try clear q6
                try clear hx6
                try clear c9
                try clear c10
                try clear c25
                try clear c25b0
                try clear c26
                try clear c26b0
                try clear c34
                try clear hcz32_0
                try clear hcz32_1
                try clear hcz32_2
                try clear hcz32_3
                try clear hcz32_4
                try clear hcz35_0
                try clear hcz35_1
                try clear hcz35_2
                try clear hcz35_3
                try clear hcz35_4
                try clear hcz49_0
                try clear hcz49_1
                try clear hcz49_2
                try clear hcz49_3
                try clear hcz49_4
                try clear hcz6_0
                try clear hcz6_1
                try clear hcz6_2
                try clear hcz6_3
                try clear hcz6_4
                try clear hcz8_0
                try clear hcz8_1
                try clear hcz8_2
                try clear hcz8_3
                try clear hcz8_4
                try clear hfz32_0
                try clear hfz32_1
                try clear hfz32_2
                try clear hfz32_3
                try clear hfz32_4
                try clear hfz35_0
                try clear hfz35_1
                try clear hfz35_2
                try clear hfz35_3
                try clear hfz35_4
                try clear hfz49_0
                try clear hfz49_1
                try clear hfz49_2
                try clear hfz49_3
                try clear hfz49_4
                try clear hfz6_0
                try clear hfz6_1
                try clear hfz6_2
                try clear hfz6_3
                try clear hfz6_4
                try clear hfz8_0
                try clear hfz8_1
                try clear hfz8_2
                try clear hfz8_3
                try clear hfz8_4
                try clear hx646_0
                try clear hx646_1
                try clear hx646_2
                try clear hx646_3
                try clear hx646_4
                try clear p2
                try clear p646
                try clear q646
                obtain ⟨x5_3, x8_3, rfl, HA, HK3, HO_5, BK629, HB⟩ := hrel
                cases gk with
                | zero => exact absurd HA.out (by simp [turncockref1_EncodeTell.l1])
                | succ k3 =>
                  have H := HA.out
                  clear HA
                  simp only [turncockref1_EncodeTell.l1] at H
                  by_cases c52 : x8_3 < (l0_4.length : Int)
                  · rw [if_pos c52] at H
                    have c52b0 : decide (x8_3 < (l0_4.length : Int)) = true := decide_eq_true c52
                    clear c52
                    by_cases c53 : 0 ≤ x8_3
                    · rw [if_pos c53] at H
                      have c53b0 : decide (0 ≤ x8_3) = true := decide_eq_true c53
                      clear c53
                      replace H := Option.bind_eq_some_iff.mp H
                      obtain ⟨t667, A540, H⟩ := H
                      replace H : ((turncockref1_text.f k3 t667 ((rd_T152 l0_4 x8_3).f1)).bind fun t671 => (turncockref1_EncodeTell.l1 k3 t671 (wrap64 (x8_3 + 1)) a0_0 a0_1 a0_2 l0_3 l0_4)) = some (r1, r2) := H
                      have A54 := Aside0.mk A540
                      clear A540
                      replace H := Option.bind_eq_some_iff.mp H
                      obtain ⟨t671, A550, H⟩ := H
                      replace H : (turncockref1_EncodeTell.l1 k3 t671 (wrap64 (x8_3 + 1)) a0_0 a0_1 a0_2 l0_3 l0_4) = some (r1, r2) := H
                      have A55 := Aside0.mk A550
                      clear A550
                      have H' := Aside0.mk H
                      clear H
                      have hcz56_0 : wr.cell? ⟨gb629, 0, none⟩ = some (.int .i64 a0_0) := (blk_cell BK629.out 0).trans rfl
                      have hcz56_1 : wr.cell? ⟨gb629, 1, none⟩ = some (.int .i64 a0_1) := (blk_cell BK629.out 1).trans rfl
                      have hcz56_2 : wr.cell? ⟨gb629, 2, none⟩ = some (.bool a0_2) := (blk_cell BK629.out 2).trans rfl
                      have hcz56_3 : wr.cell? ⟨gb629, 3, none⟩ = some (.slice A0_3 l0_3.length c0_3) := (blk_cell BK629.out 3).trans rfl
                      have hcz56_4 : wr.cell? ⟨gb629, 4, none⟩ = some (.slice A0_4 l0_4.length c0_4) := (blk_cell BK629.out 4).trans rfl
                      have hfz56_0 := blk_frozen BK629.out 0
                      have hfz56_1 := blk_frozen BK629.out 1
                      have hfz56_2 := blk_frozen BK629.out 2
                      have hfz56_3 := blk_frozen BK629.out 3
                      have hfz56_4 := blk_frozen BK629.out 4
                      try go_wp2
                      have n0_ := Aside0.mk (Kd.R_drew HO_5.out)
                      have n1_ := Aside0.mk (blk_drew BK629.out)
                      have n2_ := Aside0.mk (below_drew1 HB.out)
                      clear HO_5
                      clear BK629
                      clear HB
                      have HO_5 := n0_
                      have BK629 := n1_
                      have HB := n2_
                      clear n0_ n1_ n2_
                      have p666 : 0 ≤ (x8_3 : Int) := of_decide_eq_true (by first | (with_reducible assumption) | assumption)
                      have q666 : x8_3 < (l0_4.length : Int) := of_decide_eq_true (by first | (with_reducible assumption) | assumption)
                      obtain ⟨ad666, e666, hx666_0, hx666_1⟩ := at_T152 HR0_4.out x8_3 p666 q666
                      have hw666_1 := hx666_1
                      have hw666_0 := hx666_0
                      cases e666
                      replace hx666_0 := (HB.out.cell (World.block_lt_of_cell? w _ hx666_0)).trans hx666_0
                      replace hx666_1 := (HB.out.cell (World.block_lt_of_cell? w _ hx666_1)).trans hx666_1
                      replace p666 := eq_true p666
                      replace q666 := eq_true q666
                      have p670 : 0 ≤ (x8_3 : Int) := of_decide_eq_true (by first | (with_reducible assumption) | assumption)
                      have q670 : x8_3 < (l0_4.length : Int) := of_decide_eq_true (by first | (with_reducible assumption) | assumption)
                      obtain ⟨ad670, e670, hx670_0, hx670_1⟩ := at_T152 HR0_4.out x8_3 p670 q670
                      have hw670_1 := hx670_1
                      have hw670_0 := hx670_0
                      obtain rfl : ad666 = ad670 := (by injection e670)
                      replace hx670_0 := (HB.out.cell (World.block_lt_of_cell? w _ hx670_0)).trans hx670_0
                      replace hx670_1 := (HB.out.cell (World.block_lt_of_cell? w _ hx670_1)).trans hx670_1
                      replace p670 := eq_true p670
                      replace q670 := eq_true q670
                      obtain ⟨Ao58, co58, eo58⟩ := Kd.R_slice HO_5.out
                      (first | subst eo58 | (injection eo58 with f1_ f2_ f3_; have f4_ := f1_.symm; have f5_ := f3_.symm; clear f1_ f2_ f3_; subst f4_; subst f5_))
                      refine start_ (n := 16) (S := fun w' => w'.cell? ⟨gb629, 0, none⟩ = some (.int .i64 a0_0) ∧ w'.cell? ⟨gb629, 1, none⟩ = some (.int .i64 a0_1) ∧ w'.cell? ⟨gb629, 2, none⟩ = some (.bool a0_2) ∧ w'.cell? ⟨gb629, 3, none⟩ = some (.slice A0_3 l0_3.length c0_3) ∧ w'.cell? ⟨gb629, 4, none⟩ = some (.slice (some ad666) l0_4.length c0_4) ∧ w'.cell? (ad666.add ((x8_3).toNat * 2)) = some (.string ((rd_T152 l0_4 x8_3).f0)) ∧ w'.cell? ⟨(ad666.add ((x8_3).toNat * 2)).block, (ad666.add ((x8_3).toNat * 2)).off + 1, none⟩ = some (.string ((rd_T152 l0_4 x8_3).f1)) ∧ w'.cell? (ad666.add ((x8_3).toNat * 2)) = some (.string ((rd_T152 l0_4 x8_3).f0)) ∧ w'.cell? ⟨(ad666.add ((x8_3).toNat * 2)).block, (ad666.add ((x8_3).toNat * 2)).off + 1, none⟩ = some (.string ((rd_T152 l0_4 x8_3).f1))) (ds := []) #[false, false, false, false, false, false, false, false, false, false, false, false, false, false, false, false] (by kernel_rfl) rfl rfl ⟨(blk_cell BK629.out 0).trans rfl, (blk_cell BK629.out 1).trans rfl, (blk_cell BK629.out 2).trans rfl, (blk_cell BK629.out 3).trans rfl, (blk_cell BK629.out 4).trans rfl, ((HB.out.cell (World.block_lt_of_cell? w _ hw666_0)).trans hw666_0), ((HB.out.cell (World.block_lt_of_cell? w _ hw666_1)).trans hw666_1), ((HB.out.cell (World.block_lt_of_cell? w _ hw670_0)).trans hw670_0), ((HB.out.cell (World.block_lt_of_cell? w _ hw670_1)).trans hw670_1)⟩ (fun hHeld => ?_); refine with_tabW turncockref1_EncodeTell.tab16 turncockref1_EncodeTell.bits16 (fun HT_ HW_ => ?_)
                      generalize wr.drew = w57 at HO_5 BK629 HB hx666_0 hx666_1 hx670_0 hx670_1 hHeld ⊢
                      refine pure_ (i := 0) (N := some 67) (v := ?_) (a' := ?_) #[true, false, false, false, false, false, false, false, false, false, false, false, false, false, false, false] rfl rfl (any_of HT_.out (by kernel_rfl)) (fun _ _ _ h => h) (Or.inl ⟨by rfl, ?_⟩) ?_ ?_
                      rotate_left
                      · intro w'
                        go_simp
                        with_reducible rfl
                      rotate_left
                      · simp only [Act.put, List.setIfInBounds_toArray, List.set_cons_zero, List.set_cons_succ, i64_w, i32_w]
                        rfl
                      refine pure_ (i := 1) (N := some 68) (v := ?_) (a' := ?_) #[true, true, false, false, false, false, false, false, false, false, false, false, false, false, false, false] rfl rfl (any_of HT_.out (by kernel_rfl)) (fun _ _ _ h => h) (Or.inl ⟨by rfl, ?_⟩) ?_ ?_
                      rotate_left
                      · intro w'
                        go_simp
                        with_reducible rfl
                      rotate_left
                      · simp only [Act.put, List.setIfInBounds_toArray, List.set_cons_zero, List.set_cons_succ, i64_w, i32_w]
                        rfl
                      refine pure_ (i := 3) (N := some 70) (v := ?_) (a' := ?_) #[true, true, false, true, false, false, false, false, false, false, false, false, false, false, false, false] rfl rfl (any_of HT_.out (by kernel_rfl)) (fun _ _ _ h => h) (Or.inl ⟨by rfl, ?_⟩) ?_ ?_
                      rotate_left
                      · intro w'
                        go_simp
                        with_reducible rfl
                      rotate_left
                      · simp only [Act.put, List.setIfInBounds_toArray, List.set_cons_zero, List.set_cons_succ, i64_w, i32_w]
                        rfl
                      refine pure_ (i := 8) (N := some 75) (v := ?_) (a' := ?_) #[true, true, false, true, false, false, false, false, true, false, false, false, false, false, false, false] rfl rfl (any_of HT_.out (by kernel_rfl)) (fun _ _ _ h => h) (Or.inl ⟨by rfl, ?_⟩) ?_ ?_
                      rotate_left
                      · intro w'
                        go_simp
                        with_reducible rfl
                      rotate_left
                      · simp only [Act.put, List.setIfInBounds_toArray, List.set_cons_zero, List.set_cons_succ, i64_w, i32_w]
                        rfl
                      refine pure_ (i := 10) (N := some 77) (v := ?_) (a' := ?_) #[true, true, false, true, false, false, false, false, true, false, true, false, false, false, false, false] rfl rfl (any_of HT_.out (by kernel_rfl)) (fun _ _ _ h => h) (Or.inl ⟨by rfl, ?_⟩) ?_ ?_
                      rotate_left
                      · intro w'
                        go_simp
                        with_reducible rfl
                      rotate_left
                      · simp only [Act.put, List.setIfInBounds_toArray, List.set_cons_zero, List.set_cons_succ, i64_w, i32_w]
                        rfl
                      refine take_ (i := 2) (N := some 69) (v := ?_) (a' := ?_) #[true, true, true, true, false, false, false, false, true, false, true, false, false, false, false, false] rfl rfl (take_ofW HT_.out HW_.out (by kernel_rfl)) (fun _ _ _ h => h) (Or.inl ⟨by rfl, ?_⟩) hHeld ?_ ?_
                      rotate_left
                      · rintro w' ⟨s0, s1, s2, s3, s4, s5, s6, s7, s8⟩
                        go_simp
                        with_reducible rfl
                      rotate_left
                      · simp only [Act.put, List.setIfInBounds_toArray, List.set_cons_zero, List.set_cons_succ, i64_w, i32_w]
                        rfl
                      refine pure_ (i := 4) (N := some 71) (v := ?_) (a' := ?_) #[true, true, true, true, true, false, false, false, true, false, true, false, false, false, false, false] rfl rfl (any_of HT_.out (by kernel_rfl)) (fun _ _ _ h => h) (Or.inl ⟨by rfl, ?_⟩) ?_ ?_
                      rotate_left
                      · intro w'
                        go_simp
                        with_reducible rfl
                      rotate_left
                      · simp only [Act.put, List.setIfInBounds_toArray, List.set_cons_zero, List.set_cons_succ, i64_w, i32_w]
                        rfl
                      refine pure_ (i := 5) (N := some 72) (v := ?_) (a' := ?_) #[true, true, true, true, true, true, false, false, true, false, true, false, false, false, false, false] rfl rfl (any_of HT_.out (by kernel_rfl)) (fun _ _ _ h => h) (Or.inl ⟨by rfl, ?_⟩) ?_ ?_
                      rotate_left
                      · intro w'
                        go_simp
                        with_reducible rfl
                      rotate_left
                      · simp only [Act.put, List.setIfInBounds_toArray, List.set_cons_zero, List.set_cons_succ, i64_w, i32_w]
                        rfl
                      refine take_ (i := 6) (N := some 73) (v := ?_) (a' := ?_) #[true, true, true, true, true, true, true, false, true, false, true, false, false, false, false, false] rfl rfl (take_ofW HT_.out HW_.out (by kernel_rfl)) (fun _ _ _ h => h) (Or.inl ⟨by rfl, ?_⟩) hHeld ?_ ?_
                      rotate_left
                      · rintro w' ⟨s0, s1, s2, s3, s4, s5, s6, s7, s8⟩
                        go_simp
                        with_reducible rfl
                      rotate_left
                      · simp only [Act.put, List.setIfInBounds_toArray, List.set_cons_zero, List.set_cons_succ, i64_w, i32_w]
                        rfl
                      refine take_ (i := 9) (N := some 76) (v := ?_) (a' := ?_) #[true, true, true, true, true, true, true, false, true, true, true, false, false, false, false, false] rfl rfl (take_ofW HT_.out HW_.out (by kernel_rfl)) (fun _ _ _ h => h) (Or.inl ⟨by rfl, ?_⟩) hHeld ?_ ?_
                      rotate_left
                      · rintro w' ⟨s0, s1, s2, s3, s4, s5, s6, s7, s8⟩
                        go_simp
                        with_reducible rfl
                      rotate_left
                      · simp only [Act.put, List.setIfInBounds_toArray, List.set_cons_zero, List.set_cons_succ, i64_w, i32_w]
                        rfl
                      refine pure_ (i := 11) (N := some 78) (v := ?_) (a' := ?_) #[true, true, true, true, true, true, true, false, true, true, true, true, false, false, false, false] rfl rfl (any_of HT_.out (by kernel_rfl)) (fun _ _ _ h => h) (Or.inl ⟨by rfl, ?_⟩) ?_ ?_
                      rotate_left
                      · intro w'
                        go_simp
                        with_reducible rfl
                      rotate_left
                      · simp only [Act.put, List.setIfInBounds_toArray, List.set_cons_zero, List.set_cons_succ, i64_w, i32_w]
                        rfl
                      refine pure_ (i := 12) (N := some 79) (v := ?_) (a' := ?_) #[true, true, true, true, true, true, true, false, true, true, true, true, true, false, false, false] rfl rfl (any_of HT_.out (by kernel_rfl)) (fun _ _ _ h => h) (Or.inl ⟨by rfl, ?_⟩) ?_ ?_
                      rotate_left
                      · intro w'
                        go_simp
                        with_reducible rfl
                      rotate_left
                      · simp only [Act.put, List.setIfInBounds_toArray, List.set_cons_zero, List.set_cons_succ, i64_w, i32_w]
                        rfl
                      refine take_ (i := 13) (N := some 80) (v := ?_) (a' := ?_) #[true, true, true, true, true, true, true, false, true, true, true, true, true, true, false, false] rfl rfl (take_ofW HT_.out HW_.out (by kernel_rfl)) (fun _ _ _ h => h) (Or.inl ⟨by rfl, ?_⟩) hHeld ?_ ?_
                      rotate_left
                      · rintro w' ⟨s0, s1, s2, s3, s4, s5, s6, s7, s8⟩
                        go_simp
                        with_reducible rfl
                      rotate_left
                      · simp only [Act.put, List.setIfInBounds_toArray, List.set_cons_zero, List.set_cons_succ, i64_w, i32_w]
                        rfl
                      refine one_ (i := 7) (N := some 74) #[true, true, true, true, true, true, true, true, true, true, true, true, true, true, false, false] rfl rfl (one_of HT_.out (by kernel_rfl)) (by decide) (fun K hK => ?_)
                      refine goes_ Try.func101 (by kernel_rfl) rfl #[.slice Ao58 x5_3.length co58, .string ((rd_T152 l0_4 x8_3).f0)] (by rfl) rfl rfl (by (try simp only [List.map_toArray, List.map_cons, List.map_nil]); first | done | rfl | (simp only [List.length_drop, List.length_take]; rfl)) ?_
                      with_reducible refine (turncockref1_text.calls k3 _ _ x5_3 ((rd_T152 l0_4 x8_3).f0) t667 _ ?side1 ?side2 A54.out).mono ?_
                      (case side1 => repeat (first | exact (Kd.R_reads' HO_5.out).2.2 | (with_reducible refine Kd.C_alloc ?_ _) | (with_reducible refine Kd.C_drewN ?_ _) | (with_reducible refine Kd.C_drew ?_)))
                      (case side2 => exact (Kd.R_reads' HO_5.out).2.1)
                      rintro e w59 ⟨v668, rfl, ho0, hb⟩
                      refine ⟨_, rfl, ?_⟩
                      have n0_ := Aside0.mk (Kd.R_elder' (by (with_reducible repeat (first | apply Kd.R_alloc | apply Kd.R_drewN | apply Kd.R_drew)); exact HO_5.out) (Kd.R_base ho0) hb)
                      have n1_ := Aside0.mk (Kd.R_lower (Kd.R_new' ho0 (Kd.R_lt (by (with_reducible repeat (first | apply Kd.R_alloc | apply Kd.R_drewN | apply Kd.R_drew)); exact HO_5.out))) (below_size (by repeat (first | (with_reducible first | exact HB.out | apply below_alloc | apply pw_below_drewN | apply below_drew1 | refine below_set ?_ GE629.out) | exact HB.out))))
                      have n2_ := Aside0.mk (blk_below (g := gb629) (o := .cells #[.int .i64 a0_0, .int .i64 a0_1, .bool a0_2, .slice A0_3 l0_3.length c0_3, .slice (some ad666) l0_4.length c0_4] 108 (0, 0)) (by (with_reducible repeat (first | refine blk_drewN ?_ _ | refine blk_drew ?_ | refine blk_alloc ?_ _)); exact BK629.out) hb)
                      have n3_ := Aside0.mk (below_step (by repeat (first | (with_reducible first | exact HB.out | apply below_alloc | apply pw_below_drewN | apply below_drew1 | refine below_set ?_ GE629.out) | exact HB.out)) hb)
                      clear HO_5
                      clear BK629
                      clear HB
                      have HO_5 := n0_
                      have HO669 := n1_
                      have BK629 := n2_
                      have HB := n3_
                      clear n0_ n1_ n2_ n3_
                      (try clear hb)
                      (try clear hb2)
                      (try clear hk)
                      (try clear hi)
                      (try clear ho0)
                      obtain ⟨Ao60, co60, eo60⟩ := Kd.R_slice HO669.out
                      (first | subst eo60 | (injection eo60 with f1_ f2_ f3_; have f4_ := f1_.symm; have f5_ := f3_.symm; clear f1_ f2_ f3_; subst f4_; subst f5_))
                      refine hK.out _ _ ⟨(blk_cell BK629.out 0).trans rfl, (blk_cell BK629.out 1).trans rfl, (blk_cell BK629.out 2).trans rfl, (blk_cell BK629.out 3).trans rfl, (blk_cell BK629.out 4).trans rfl, ((HB.out.cell (World.block_lt_of_cell? w _ hw666_0)).trans hw666_0), ((HB.out.cell (World.block_lt_of_cell? w _ hw666_1)).trans hw666_1), ((HB.out.cell (World.block_lt_of_cell? w _ hw670_0)).trans hw670_0), ((HB.out.cell (World.block_lt_of_cell? w _ hw670_1)).trans hw670_1)⟩ (fun hHeld => ?_)
                      clear hK K
                      refine norm_ (a' := ?_) ?_ ?_
                      rotate_left
                      · show Act.put _ (some 74) _ = _
                        simp only [Act.put, List.setIfInBounds_toArray, List.set_cons_zero, List.set_cons_succ, i64_w, i32_w]
                        rfl
                      refine one_ (i := 14) (N := some 81) #[true, true, true, true, true, true, true, true, true, true, true, true, true, true, true, false] rfl rfl (one_of HT_.out (by kernel_rfl)) (by decide) (fun K hK => ?_)
                      refine goes_ Try.func101 (by kernel_rfl) rfl #[.slice Ao60 t667.length co60, .string ((rd_T152 l0_4 x8_3).f1)] (by rfl) rfl rfl (by (try simp only [List.map_toArray, List.map_cons, List.map_nil]); first | done | rfl | (simp only [List.length_drop, List.length_take]; rfl)) ?_
                      with_reducible refine (turncockref1_text.calls k3 _ _ t667 ((rd_T152 l0_4 x8_3).f1) t671 _ ?side1 ?side2 A55.out).mono ?_
                      (case side1 => repeat (first | exact (Kd.R_reads' HO669.out).2.2 | (with_reducible refine Kd.C_alloc ?_ _) | (with_reducible refine Kd.C_drewN ?_ _) | (with_reducible refine Kd.C_drew ?_)))
                      (case side2 => exact (Kd.R_reads' HO669.out).2.1)
                      rintro e w61 ⟨v672, rfl, ho0, hb⟩
                      refine ⟨_, rfl, ?_⟩
                      have n0_ := Aside0.mk (Kd.R_elder' (by (with_reducible repeat (first | apply Kd.R_alloc | apply Kd.R_drewN | apply Kd.R_drew)); exact HO_5.out) (Kd.R_base ho0) hb)
                      have n1_ := Aside0.mk (Kd.R_elder' (by (with_reducible repeat (first | apply Kd.R_alloc | apply Kd.R_drewN | apply Kd.R_drew)); exact HO669.out) (Kd.R_base ho0) hb)
                      have n2_ := Aside0.mk (Kd.R_lower (Kd.R_new' (Kd.R_new' ho0 (Kd.R_lt (by (with_reducible repeat (first | apply Kd.R_alloc | apply Kd.R_drewN | apply Kd.R_drew)); exact HO_5.out))) (Kd.R_lt (by (with_reducible repeat (first | apply Kd.R_alloc | apply Kd.R_drewN | apply Kd.R_drew)); exact HO669.out))) (below_size (by repeat (first | (with_reducible first | exact HB.out | apply below_alloc | apply pw_below_drewN | apply below_drew1 | refine below_set ?_ GE629.out) | exact HB.out))))
                      have n3_ := Aside0.mk (blk_below (g := gb629) (o := .cells #[.int .i64 a0_0, .int .i64 a0_1, .bool a0_2, .slice A0_3 l0_3.length c0_3, .slice (some ad666) l0_4.length c0_4] 108 (0, 0)) (by (with_reducible repeat (first | refine blk_drewN ?_ _ | refine blk_drew ?_ | refine blk_alloc ?_ _)); exact BK629.out) hb)
                      have n4_ := Aside0.mk (below_step (by repeat (first | (with_reducible first | exact HB.out | apply below_alloc | apply pw_below_drewN | apply below_drew1 | refine below_set ?_ GE629.out) | exact HB.out)) hb)
                      clear HO_5
                      clear HO669
                      clear BK629
                      clear HB
                      have HO_5 := n0_
                      have HO669 := n1_
                      have HO673 := n2_
                      have BK629 := n3_
                      have HB := n4_
                      clear n0_ n1_ n2_ n3_ n4_
                      (try clear hb)
                      (try clear hb2)
                      (try clear hk)
                      (try clear hi)
                      (try clear ho0)
                      refine hK.out _ _ ⟨(blk_cell BK629.out 0).trans rfl, (blk_cell BK629.out 1).trans rfl, (blk_cell BK629.out 2).trans rfl, (blk_cell BK629.out 3).trans rfl, (blk_cell BK629.out 4).trans rfl, ((HB.out.cell (World.block_lt_of_cell? w _ hw666_0)).trans hw666_0), ((HB.out.cell (World.block_lt_of_cell? w _ hw666_1)).trans hw666_1), ((HB.out.cell (World.block_lt_of_cell? w _ hw670_0)).trans hw670_0), ((HB.out.cell (World.block_lt_of_cell? w _ hw670_1)).trans hw670_1)⟩ (fun hHeld => ?_)
                      clear hK K
                      refine norm_ (a' := ?_) ?_ ?_
                      rotate_left
                      · show Act.put _ (some 81) _ = _
                        simp only [Act.put, List.setIfInBounds_toArray, List.set_cons_zero, List.set_cons_succ, i64_w, i32_w]
                        rfl
                      refine pure_ (i := 15) (N := some 5) (v := ?_) (a' := ?_) #[true, true, true, true, true, true, true, true, true, true, true, true, true, true, true, true] rfl rfl (any_of HT_.out (by kernel_rfl)) (fun _ _ _ h => h) (Or.inl ⟨by rfl, ?_⟩) ?_ ?_
                      rotate_left
                      · intro w'
                        go_simp
                        with_reducible rfl
                      rotate_left
                      · simp only [Act.put, List.setIfInBounds_toArray, List.set_cons_zero, List.set_cons_succ, i64_w, i32_w]
                        rfl
                      refine done_ (done_of HT_.out (by kernel_rfl)) ?_
                      try go_wp2
                      go_roundg k3
                      case measure => have := HJ3.out; have := HK2.out; have := HK3.out; omega
                      case rel => exact ⟨(t671), (wrap64 (x8_3 + 1)), (by first | rfl | (simp; done) | (simp [*]; done)), H', ⟨by have := HJ3.out; have := HK2.out; have := HK3.out; omega⟩, ⟨by (with_reducible repeat (first | apply Kd.R_alloc | apply Kd.R_drewN | apply Kd.R_drew)); exact Kd.R_mono HO673.out (fun _ hk => trivial)⟩, ⟨by (with_reducible repeat (first | refine blk_drewN ?_ _ | refine blk_drew ?_ | refine blk_alloc ?_ _)); exact BK629.out⟩, ⟨by repeat (first | (with_reducible first | exact HB.out | apply below_alloc | apply pw_below_drewN | apply below_drew1 | refine below_set ?_ GE629.out) | exact HB.out)⟩⟩
                    · rw [if_neg c53] at H
                      exact absurd H (by simp)
                  · rw [if_neg c52] at H
                    have c52b0 : decide (x8_3 < (l0_4.length : Int)) = false := decide_eq_false c52
                    clear c52
                    simp only [Option.some.injEq, Prod.mk.injEq] at H
                    obtain ⟨rfl, rfl⟩ := H
                    have hcz62_0 : wr.cell? ⟨gb629, 0, none⟩ = some (.int .i64 a0_0) := (blk_cell BK629.out 0).trans rfl
                    have hcz62_1 : wr.cell? ⟨gb629, 1, none⟩ = some (.int .i64 a0_1) := (blk_cell BK629.out 1).trans rfl
                    have hcz62_2 : wr.cell? ⟨gb629, 2, none⟩ = some (.bool a0_2) := (blk_cell BK629.out 2).trans rfl
                    have hcz62_3 : wr.cell? ⟨gb629, 3, none⟩ = some (.slice A0_3 l0_3.length c0_3) := (blk_cell BK629.out 3).trans rfl
                    have hcz62_4 : wr.cell? ⟨gb629, 4, none⟩ = some (.slice A0_4 l0_4.length c0_4) := (blk_cell BK629.out 4).trans rfl
                    have hfz62_0 := blk_frozen BK629.out 0
                    have hfz62_1 := blk_frozen BK629.out 1
                    have hfz62_2 := blk_frozen BK629.out 2
                    have hfz62_3 := blk_frozen BK629.out 3
                    have hfz62_4 := blk_frozen BK629.out 4
                    go_wp2
                    go_ret2
                    exact ⟨_, by first | rfl | (simp [errW_none, errW_some] <;> rfl) | (simp [*, errW_none, errW_some] <;> rfl), by (with_reducible repeat (first | apply Kd.R_alloc | apply Kd.R_drewN | apply Kd.R_drew)); exact HO_5.out, by repeat (first | (with_reducible first | exact HB.out | apply below_alloc | apply pw_below_drewN | apply below_drew1 | refine below_set ?_ GE629.out) | exact HB.out)⟩
  · replace c3 := Bool.eq_false_iff.mpr c3
    subst c3
    have H1 : (some (([] : List Int), 1)) = some (r1, r2) := by rw [if_neg (show ¬ (false = true) by decide)] at H; exact H
    clear H
    have H := H1
    clear H1
    simp only [Option.some.injEq, Prod.mk.injEq] at H
    obtain ⟨rfl, rfl⟩ := H
    go_enter Try.func90, Try.ntmps90
    go_wp2_with (first | ((with_reducible refine gate_dst (N := 1) rfl ?_); refine box_event ?hg (N := 1) ?hd (cs := #[.int .i64 a0_0, .int .i64 a0_1, .bool a0_2, .slice A0_3 l0_3.length c0_3, .slice A0_4 l0_4.length c0_4]) (t := 108) ?hr ?_; (case hd => rfl); (case hg => rfl); (case hr => first | (go_simp; done) | (go_simp; rfl)); intro gb629 hg w63 hbox hb; have n0_ := Aside0.mk (below_step (by repeat (first | (with_reducible first | exact HB.out | apply below_alloc | apply pw_below_drewN | apply below_drew1) | exact HB.out)) hb); have n1_ := Aside0.mk (hbox); have n2_ := Aside0.mk ((by rw [hg]; exact (below_size (by repeat (first | (with_reducible first | exact HB.out | apply below_alloc | apply pw_below_drewN | apply below_drew1) | exact HB.out))) : w.heap.size ≤ gb629)); have n3_ := Aside0.mk ((by rw [hg]; exact (below_size (by repeat (first | (with_reducible first | exact HB.out | apply below_alloc | apply pw_below_drewN | apply below_drew1) | exact HB.out))) : w.heap.size ≤ gb629)); clear HB; have HB := n0_; have BK629 := n1_; have GW629 := n2_; have GE629 := n3_; clear n0_ n1_ n2_ n3_; clear hb hbox hg; have hcz64_0 : w63.cell? ⟨gb629, 0, none⟩ = some (.int .i64 a0_0) := (blk_cell BK629.out 0).trans rfl; have hcz64_1 : w63.cell? ⟨gb629, 1, none⟩ = some (.int .i64 a0_1) := (blk_cell BK629.out 1).trans rfl; have hcz64_2 : w63.cell? ⟨gb629, 2, none⟩ = some (.bool a0_2) := (blk_cell BK629.out 2).trans rfl; have hcz64_3 : w63.cell? ⟨gb629, 3, none⟩ = some (.slice A0_3 l0_3.length c0_3) := (blk_cell BK629.out 3).trans rfl; have hcz64_4 : w63.cell? ⟨gb629, 4, none⟩ = some (.slice A0_4 l0_4.length c0_4) := (blk_cell BK629.out 4).trans rfl; have hfz64_0 := blk_frozen BK629.out 0; have hfz64_1 := blk_frozen BK629.out 1; have hfz64_2 := blk_frozen BK629.out 2; have hfz64_3 := blk_frozen BK629.out 3; have hfz64_4 := blk_frozen BK629.out 4) | ((with_reducible refine gate_callee (f := 92) rfl ?_); refine goesL_ (some 10) rfl rfl Try.func92 (by kernel_rfl) rfl #[.agg #[.int .i64 a0_0, .int .i64 a0_1, .bool a0_2, .slice A0_3 l0_3.length c0_3, .slice A0_4 l0_4.length c0_4]] rfl (by (try simp only [List.map_toArray, List.map_cons, List.map_nil]); first | done | rfl | (simp only [List.length_drop, List.length_take]; rfl)) ?_; (with_reducible refine (turncockref1_CheckTell.calls k a0_0 a0_1 a0_2 _ _ l0_3 _ _ l0_4 false _ ?side1 ?side2 ?side3 ?side4 A2.out).mono ?_); (case side1 => repeat (first | exact (Kd.C_below HR0_3.out HB.out) | (with_reducible refine Kd.C_alloc ?_ _) | (with_reducible refine Kd.C_drewN ?_ _) | (with_reducible refine Kd.C_drew ?_))); (case side2 => exact HC0_3.out); (case side3 => repeat (first | exact (Kd.C_below HR0_4.out HB.out) | (with_reducible refine Kd.C_alloc ?_ _) | (with_reducible refine Kd.C_drewN ?_ _) | (with_reducible refine Kd.C_drew ?_))); (case side4 => exact HC0_4.out); rintro e w65 ⟨rfl, hb⟩; refine ⟨_, rfl, ?_⟩; have n0_ := Aside0.mk (blk_below (g := gb629) (o := .cells #[.int .i64 a0_0, .int .i64 a0_1, .bool a0_2, .slice A0_3 l0_3.length c0_3, .slice A0_4 l0_4.length c0_4] 108 (0, 0)) (by (with_reducible repeat (first | refine blk_drewN ?_ _ | refine blk_drew ?_ | refine blk_alloc ?_ _)); exact BK629.out) hb); have n1_ := Aside0.mk (below_step (by repeat (first | (with_reducible first | exact HB.out | apply below_alloc | apply pw_below_drewN | apply below_drew1 | refine below_set ?_ GE629.out) | exact HB.out)) hb); clear BK629; clear HB; have BK629 := n0_; have HB := n1_; clear n0_ n1_; (try clear hb); (try clear hb2); (try clear hk); (try clear hi)))
    go_ret2
    exact ⟨_, by first | rfl | (simp [errW_none, errW_some] <;> rfl) | (simp [*, errW_none, errW_some] <;> rfl), by first | exact Kd.R_nil _ _ _ _ _ | exact Kd.N_nil _ _ _ _ _ | exact Kd.V_nil _ _ _ _ _ | exact Kd.Q_nil _ _ _ _ _ | exact Kd.S_nil _ _ _ _ _, by repeat (first | (with_reducible first | exact HB.out | apply below_alloc | apply pw_below_drewN | apply below_drew1 | refine below_set ?_ GE629.out) | exact HB.out)⟩

end Go.Proofs.Ytnhblhhkjnmkkaa.Q
