/- Printed by this session's own program out of the translation: each function as a plain Lean function, and its contract. -/
import Derived.Test.YtnhblhhkjnmkkaaQ0
import Derived.Test.YtnhblhhkjnmkkaaQ11
import Derived.Test.YtnhblhhkjnmkkaaQ12
namespace Go.Proofs.Ytnhblhhkjnmkkaa.Q
open Go.RowKit Go.Proofs.YtnhblhhkjnmkkaaW.PrintWords Go.Proofs.YtnhblhhkjnmkkaaW.PrintLast Go.Proofs.YtnhblhhkjnmkkaaW.PrintMore
attribute [local go_sem] max2_int min2_int max_two min_two max_three min_three max_four min_four   -- for this text's walks alone
set_option linter.unusedVariables false
set_option linter.unusedSimpArgs false

/-! ### turncocklaw3_FrameCut: function 10 -/
def turncocklaw3_FrameCut.l0 : Nat → List (List Int) → Int → List Int → Int → Int → Int → Option (Bool)
  | 0, _, _, _, _, _, _ => none
  | k + 1, x0, x1, x5, x6, x7, x8 => if x8 < (x0.length : Int) then (if 0 ≤ x8 then ((frame_Put.f k x5 (rd_L1 x0 x8)).bind fun t273 => (if x1 ≥ (t273.length : Int) then (turncocklaw3_FrameCut.l0 k x0 x1 t273 (wrap64 (x8 + 1)) (t273.length : Int) (wrap64 (x8 + 1))) else (turncocklaw3_FrameCut.l0 k x0 x1 t273 x6 x7 (wrap64 (x8 + 1))))) else (none)) else (if 0 ≤ (mx (mn x1 (x5.length : Int)) 0) then (if (mx (mn x1 (x5.length : Int)) 0) ≤ (x5.length : Int) then ((frame_All.f k (x5.take ((mx (mn x1 (x5.length : Int)) 0) : Int).toNat) 65536).bind fun bt280 => (if 0 ≤ x6 then (if x6 ≤ (x0.length : Int) then ((turncockref1_Rows.f k bt280.1 (x0.take (x6 : Int).toNat)).bind fun t289 => (if t289 = true then (if bt280.2.1 = x7 then (if ((bt280.2.2 == 0) == ((mx (mn x1 (x5.length : Int)) 0) == x7)) = true then (if (mx (mn x1 (x5.length : Int)) 0) = x7 then ((turncocklaw3_awake.f).bind fun t290 => (some t290)) else (if bt280.2.2 = 3 then ((turncocklaw3_awake.f).bind fun t291 => (some t291)) else (some false))) else (some false)) else (some false)) else (some false))) else (none)) else (none))) else (none)) else (none))
def turncocklaw3_FrameCut.f (k : Nat) (l0 : List (List Int)) (a1 : Int) : Option (Bool) := (turncocklaw3_weight.f k l0).bind fun t270 => (if t270 > 5000 then ((turncocklaw3_awake.f).bind fun t271 => (some t271)) else (turncocklaw3_FrameCut.l0 k l0 a1 ([] : List Int) 0 0 0))
theorem turncocklaw3_FrameCut.mono_l : ∀ k, (∀ y0 y1 y2 y3 y4 y5, LeO (turncocklaw3_FrameCut.l0 k y0 y1 y2 y3 y4 y5) (turncocklaw3_FrameCut.l0 (k + 1) y0 y1 y2 y3 y4 y5))
  | 0 => fun _ _ _ _ _ _ r h => by simp [turncocklaw3_FrameCut.l0] at h
  | k + 1 => by
    have ih0 := turncocklaw3_FrameCut.mono_l k
    · intro y0 y1 y2 y3 y4 y5
      unfold turncocklaw3_FrameCut.l0
      repeat' first
      | (with_reducible exact ih0 _ _ _ _ _ _)
      | (with_reducible exact frame_All.mono _ _ _)
      | (with_reducible exact frame_Put.mono _ _ _)
      | (with_reducible exact turncocklaw3_weight.mono _ _)
      | (with_reducible exact turncockref1_Rows.mono _ _ _)
      | (with_reducible exact LeO.refl _)
      | (with_reducible exact LeO.none _)
      | (with_reducible refine LeO.ite ?_ ?_)
      | (with_reducible refine LeO.bind ?_ (fun _ => ?_))
      | exact ih0 _ _ _ _ _ _
      | exact frame_All.mono _ _ _
      | exact frame_Put.mono _ _ _
      | exact turncocklaw3_weight.mono _ _
      | exact turncockref1_Rows.mono _ _ _
      | exact LeO.none _
      | refine LeO.ite ?_ ?_
      | refine LeO.bind ?_ (fun _ => ?_)
theorem turncocklaw3_FrameCut.mono : ∀ a0 a1 k, LeO (turncocklaw3_FrameCut.f k a0 a1) (turncocklaw3_FrameCut.f (k + 1) a0 a1) := by
  intro a0 a1 k
  have ih0 := turncocklaw3_FrameCut.mono_l k
  unfold turncocklaw3_FrameCut.f
  repeat' first
      | (with_reducible exact ih0 _ _ _ _ _ _)
      | (with_reducible exact frame_All.mono _ _ _)
      | (with_reducible exact frame_Put.mono _ _ _)
      | (with_reducible exact turncocklaw3_weight.mono _ _)
      | (with_reducible exact turncockref1_Rows.mono _ _ _)
      | (with_reducible exact LeO.refl _)
      | (with_reducible exact LeO.none _)
      | (with_reducible refine LeO.ite ?_ ?_)
      | (with_reducible refine LeO.bind ?_ (fun _ => ?_))
      | exact ih0 _ _ _ _ _ _
      | exact frame_All.mono _ _ _
      | exact frame_Put.mono _ _ _
      | exact turncocklaw3_weight.mono _ _
      | exact turncockref1_Rows.mono _ _ _
      | exact LeO.none _
      | refine LeO.ite ?_ ?_
      | refine LeO.bind ?_ (fun _ => ?_)
set_option maxHeartbeats 8000000 in
set_option maxRecDepth 100000 in
theorem turncocklaw3_FrameCut.calls (k : Nat) (A0 : Option Addr) (c0 : Nat) (l0 : List (List Int)) (a1 : Int) (r : Bool) (w : World) (hr0 : Kd.C (Kd.slice 5 (Kd.int .u8)) w A0 l0.length l0) (hc0 : l0.length ≤ c0) (h : turncocklaw3_FrameCut.f k l0 a1 = some r) :
    Calls Try.prog 10 #[.slice A0 l0.length c0, .int .i64 a1] w fun e w' => e = .returned (.bool r) ∧ Below w.heap.size w w' := by
  have HR0 := Aside0.mk hr0
  have HC0 := Aside0.mk hc0
  clear hr0 hc0
  have HB := Aside0.mk (Below.refl w.heap.size w)
  have H : ((turncocklaw3_weight.f k l0).bind fun t270 => (if t270 > 5000 then ((turncocklaw3_awake.f).bind fun t271 => (some t271)) else (turncocklaw3_FrameCut.l0 k l0 a1 ([] : List Int) 0 0 0))) = some r := h
  clear h
  replace H := Option.bind_eq_some_iff.mp H
  obtain ⟨t270, A30, H⟩ := H
  replace H : (if t270 > 5000 then ((turncocklaw3_awake.f).bind fun t271 => (some t271)) else (turncocklaw3_FrameCut.l0 k l0 a1 ([] : List Int) 0 0 0)) = some r := H
  have A3 := Aside0.mk A30
  clear A30
  by_cases c4 : t270 > 5000
  · rw [if_pos c4] at H
    have c4b0 : decide (5000 < t270) = true := decide_eq_true c4
    clear c4
    replace H := Option.bind_eq_some_iff.mp H
    obtain ⟨t271, A50, H⟩ := H
    replace H : (some t271) = some r := H
    have A5 := Aside0.mk A50
    clear A50
    obtain rfl := Option.some.inj H
    go_enter Try.func10, Try.ntmps10
    go_wp2_with (first | ((with_reducible refine gate_callee (f := 34) rfl ?_); refine goesL_ (some 14) rfl rfl Try.func34 (by kernel_rfl) rfl #[.slice A0 l0.length c0] rfl (by (try simp only [List.map_toArray, List.map_cons, List.map_nil]); first | done | rfl | (simp only [List.length_drop, List.length_take]; rfl)) ?_; (with_reducible refine (turncocklaw3_weight.calls k _ _ l0 t270 _ ?side1 ?side2 A3.out).mono ?_); (case side1 => repeat (first | exact HR0.out | (with_reducible refine Kd.C_alloc ?_ _) | (with_reducible refine Kd.C_drewN ?_ _) | (with_reducible refine Kd.C_drew ?_))); (case side2 => exact HC0.out); rintro e w6 ⟨rfl, hb⟩; refine ⟨_, rfl, ?_⟩; have n0_ := Aside0.mk (below_step (by repeat (first | (with_reducible first | exact HB.out | apply below_alloc | apply pw_below_drewN | apply below_drew1) | exact HB.out)) hb); clear HB; have HB := n0_; clear n0_; (try clear hb); (try clear hb2); (try clear hk); (try clear hi)) | ((with_reducible refine gate_callee (f := 35) rfl ?_); refine goesL_ (some 16) rfl rfl Try.func35 (by kernel_rfl) rfl #[] rfl (by (try simp only [List.map_toArray, List.map_cons, List.map_nil]); first | done | rfl | (simp only [List.length_drop, List.length_take]; rfl)) ?_; (with_reducible refine (turncocklaw3_awake.calls  t271 _ A5.out).mono ?_); rintro e w7 ⟨rfl, hb⟩; refine ⟨_, rfl, ?_⟩; have n0_ := Aside0.mk (below_step (by repeat (first | (with_reducible first | exact HB.out | apply below_alloc | apply pw_below_drewN | apply below_drew1) | exact HB.out)) hb); clear HB; have HB := n0_; clear n0_; (try clear hb); (try clear hb2); (try clear hk); (try clear hi)))
    go_ret
    exact ⟨by first | rfl | (simp [errW_none, errW_some] <;> rfl) | (simp [*, errW_none, errW_some] <;> rfl), by repeat (first | (with_reducible first | exact HB.out | apply below_alloc | apply pw_below_drewN | apply below_drew1) | exact HB.out)⟩
  · rw [if_neg c4] at H
    have c4b0 : decide (5000 < t270) = false := decide_eq_false c4
    clear c4
    have H' := Aside0.mk H
    clear H
    go_enter Try.func10, Try.ntmps10
    go_wp2_with (first | ((with_reducible refine gate_callee (f := 34) rfl ?_); refine goesL_ (some 14) rfl rfl Try.func34 (by kernel_rfl) rfl #[.slice A0 l0.length c0] rfl (by (try simp only [List.map_toArray, List.map_cons, List.map_nil]); first | done | rfl | (simp only [List.length_drop, List.length_take]; rfl)) ?_; (with_reducible refine (turncocklaw3_weight.calls k _ _ l0 t270 _ ?side1 ?side2 A3.out).mono ?_); (case side1 => repeat (first | exact HR0.out | (with_reducible refine Kd.C_alloc ?_ _) | (with_reducible refine Kd.C_drewN ?_ _) | (with_reducible refine Kd.C_drew ?_))); (case side2 => exact HC0.out); rintro e w8 ⟨rfl, hb⟩; refine ⟨_, rfl, ?_⟩; have n0_ := Aside0.mk (below_step (by repeat (first | (with_reducible first | exact HB.out | apply below_alloc | apply pw_below_drewN | apply below_drew1) | exact HB.out)) hb); clear HB; have HB := n0_; clear n0_; (try clear hb); (try clear hb2); (try clear hk); (try clear hi)))
    go_loopg [5, 6, 7, 8] k (fun kq v5 v6 v7 v8 w' => ∃ (x5_1 : List Int) (x6_1 : Int) (x7_1 : Int) (x8_1 : Int), v6 = .int .i64 x6_1 ∧ v7 = .int .i64 x7_1 ∧ v8 = .int .i64 x8_1 ∧ Aside0 (turncocklaw3_FrameCut.l0 kq l0 a1 x5_1 x6_1 x7_1 x8_1 = some r) ∧ Aside0 (kq ≤ k) ∧ Aside0 (Kd.R (Kd.int .u8) 5 w' w.heap.size (fun _ => True) v5 x5_1) ∧ Aside0 (Below w.heap.size w w'))
    case atStart => exact ⟨(([] : List Int)), (0), (0), (0), (by first | rfl | (simp; done) | (simp [*]; done)), (by first | rfl | (simp; done) | (simp [*]; done)), (by first | rfl | (simp; done) | (simp [*]; done)), H', ⟨Nat.le_refl _⟩, ⟨by first | exact Kd.R_nil _ _ _ _ _ | exact Kd.N_nil _ _ _ _ _ | exact Kd.V_nil _ _ _ _ _ | exact Kd.Q_nil _ _ _ _ _ | exact Kd.S_nil _ _ _ _ _⟩, ⟨by repeat (first | (with_reducible first | exact HB.out | apply below_alloc | apply pw_below_drewN | apply below_drew1) | exact HB.out)⟩⟩
    case round =>
      clear H'
      try clear c1
      try clear p2
      try clear c3
      try clear c4
      try clear c4b0
      obtain ⟨x5_1, x6_1, x7_1, x8_1, rfl, rfl, rfl, HA, HK1, HO_5, HB⟩ := hrel
      cases gk with
      | zero => exact absurd HA.out (by simp [turncocklaw3_FrameCut.l0])
      | succ k1 =>
        have H := HA.out
        clear HA
        simp only [turncocklaw3_FrameCut.l0] at H
        by_cases c9 : x8_1 < (l0.length : Int)
        · rw [if_pos c9] at H
          have c9b0 : decide (x8_1 < (l0.length : Int)) = true := decide_eq_true c9
          clear c9
          by_cases c10 : 0 ≤ x8_1
          · rw [if_pos c10] at H
            have c10b0 : decide (0 ≤ x8_1) = true := decide_eq_true c10
            clear c10
            replace H := Option.bind_eq_some_iff.mp H
            obtain ⟨t273, A110, H⟩ := H
            replace H : (if a1 ≥ (t273.length : Int) then (turncocklaw3_FrameCut.l0 k1 l0 a1 t273 (wrap64 (x8_1 + 1)) (t273.length : Int) (wrap64 (x8_1 + 1))) else (turncocklaw3_FrameCut.l0 k1 l0 a1 t273 x6_1 x7_1 (wrap64 (x8_1 + 1)))) = some r := H
            have A11 := Aside0.mk A110
            clear A110
            by_cases c12 : a1 ≥ (t273.length : Int)
            · rw [if_pos c12] at H
              have c12b0 : decide ((t273.length : Int) ≤ a1) = true := decide_eq_true c12
              clear c12
              have H' := Aside0.mk H
              clear H
              have p272 : 0 ≤ (x8_1 : Int) := of_decide_eq_true (by first | (with_reducible assumption) | assumption)
              have q272 : x8_1 < (l0.length : Int) := of_decide_eq_true (by first | (with_reducible assumption) | assumption)
              obtain ⟨ad272, A272_0, c272_0, e272, hx272_0, hl272_0, hi272_0⟩ := at_L1 HR0.out x8_1 p272 q272
              cases e272
              replace hx272_0 := (HB.out.cell (World.block_lt_of_cell? w _ hx272_0)).trans hx272_0
              have HR272_0 := Aside0.mk hi272_0
              have HC272_0 := Aside0.mk hl272_0
              clear hi272_0 hl272_0
              replace p272 := eq_true p272
              replace q272 := eq_true q272
              obtain ⟨Ao13, co13, eo13⟩ := Kd.R_slice HO_5.out
              subst eo13
              go_wp2_with (first | ((with_reducible refine gate_callee (f := 36) rfl ?_); refine goesL_ (some 28) rfl rfl Try.func36 (by kernel_rfl) rfl #[.slice Ao13 x5_1.length co13, .slice A272_0 (rd_L1 l0 x8_1).length c272_0] rfl (by (try simp only [List.map_toArray, List.map_cons, List.map_nil]); first | done | rfl | (simp only [List.length_drop, List.length_take]; rfl)) ?_; (with_reducible refine (frame_Put.calls k1 _ _ x5_1 _ _ (rd_L1 l0 x8_1) t273 _ ?side1 ?side2 ?side3 ?side4 A11.out).mono ?_); (case side1 => repeat (first | exact (Kd.R_reads' HO_5.out).2.2 | (with_reducible refine Kd.C_alloc ?_ _) | (with_reducible refine Kd.C_drewN ?_ _) | (with_reducible refine Kd.C_drew ?_))); (case side2 => exact (Kd.R_reads' HO_5.out).2.1); (case side3 => repeat (first | exact (Kd.C_below HR272_0.out HB.out) | (with_reducible refine Kd.C_alloc ?_ _) | (with_reducible refine Kd.C_drewN ?_ _) | (with_reducible refine Kd.C_drew ?_))); (case side4 => exact HC272_0.out); rintro e w14 ⟨v274, rfl, ho0, hb⟩; refine ⟨_, rfl, ?_⟩; have n0_ := Aside0.mk (Kd.R_elder' (by (with_reducible repeat (first | apply Kd.R_alloc | apply Kd.R_drewN | apply Kd.R_drew)); exact HO_5.out) (Kd.R_base ho0) hb); have n1_ := Aside0.mk (Kd.R_lower (Kd.R_new' ho0 (Kd.R_lt (by (with_reducible repeat (first | apply Kd.R_alloc | apply Kd.R_drewN | apply Kd.R_drew)); exact HO_5.out))) (below_size (by repeat (first | (with_reducible first | exact HB.out | apply below_alloc | apply pw_below_drewN | apply below_drew1) | exact HB.out)))); have n2_ := Aside0.mk (below_step (by repeat (first | (with_reducible first | exact HB.out | apply below_alloc | apply pw_below_drewN | apply below_drew1) | exact HB.out)) hb); clear HO_5; clear HB; have HO_5 := n0_; have HO275 := n1_; have HB := n2_; clear n0_ n1_ n2_; (try clear hb); (try clear hb2); (try clear hk); (try clear hi); (try clear ho0); obtain ⟨Ao15, co15, eo15⟩ := Kd.R_slice HO275.out; subst eo15))
              go_roundg k1
              case measure => have := HK1.out; omega
              case rel => exact ⟨(t273), (wrap64 (x8_1 + 1)), ((t273.length : Int)), (wrap64 (x8_1 + 1)), (by first | rfl | (simp; done) | (simp [*]; done)), (by first | rfl | (simp; done) | (simp [*]; done)), (by first | rfl | (simp; done) | (simp [*]; done)), H', ⟨by have := HK1.out; omega⟩, ⟨by (with_reducible repeat (first | apply Kd.R_alloc | apply Kd.R_drewN | apply Kd.R_drew)); exact Kd.R_mono HO275.out (fun _ hk => trivial)⟩, ⟨by repeat (first | (with_reducible first | exact HB.out | apply below_alloc | apply pw_below_drewN | apply below_drew1) | exact HB.out)⟩⟩
            · rw [if_neg c12] at H
              have c12b0 : decide ((t273.length : Int) ≤ a1) = false := decide_eq_false c12
              clear c12
              have H' := Aside0.mk H
              clear H
              have p272 : 0 ≤ (x8_1 : Int) := of_decide_eq_true (by first | (with_reducible assumption) | assumption)
              have q272 : x8_1 < (l0.length : Int) := of_decide_eq_true (by first | (with_reducible assumption) | assumption)
              obtain ⟨ad272, A272_0, c272_0, e272, hx272_0, hl272_0, hi272_0⟩ := at_L1 HR0.out x8_1 p272 q272
              cases e272
              replace hx272_0 := (HB.out.cell (World.block_lt_of_cell? w _ hx272_0)).trans hx272_0
              have HR272_0 := Aside0.mk hi272_0
              have HC272_0 := Aside0.mk hl272_0
              clear hi272_0 hl272_0
              replace p272 := eq_true p272
              replace q272 := eq_true q272
              obtain ⟨Ao16, co16, eo16⟩ := Kd.R_slice HO_5.out
              subst eo16
              go_wp2_with (first | ((with_reducible refine gate_callee (f := 36) rfl ?_); refine goesL_ (some 28) rfl rfl Try.func36 (by kernel_rfl) rfl #[.slice Ao16 x5_1.length co16, .slice A272_0 (rd_L1 l0 x8_1).length c272_0] rfl (by (try simp only [List.map_toArray, List.map_cons, List.map_nil]); first | done | rfl | (simp only [List.length_drop, List.length_take]; rfl)) ?_; (with_reducible refine (frame_Put.calls k1 _ _ x5_1 _ _ (rd_L1 l0 x8_1) t273 _ ?side1 ?side2 ?side3 ?side4 A11.out).mono ?_); (case side1 => repeat (first | exact (Kd.R_reads' HO_5.out).2.2 | (with_reducible refine Kd.C_alloc ?_ _) | (with_reducible refine Kd.C_drewN ?_ _) | (with_reducible refine Kd.C_drew ?_))); (case side2 => exact (Kd.R_reads' HO_5.out).2.1); (case side3 => repeat (first | exact (Kd.C_below HR272_0.out HB.out) | (with_reducible refine Kd.C_alloc ?_ _) | (with_reducible refine Kd.C_drewN ?_ _) | (with_reducible refine Kd.C_drew ?_))); (case side4 => exact HC272_0.out); rintro e w17 ⟨v274, rfl, ho0, hb⟩; refine ⟨_, rfl, ?_⟩; have n0_ := Aside0.mk (Kd.R_elder' (by (with_reducible repeat (first | apply Kd.R_alloc | apply Kd.R_drewN | apply Kd.R_drew)); exact HO_5.out) (Kd.R_base ho0) hb); have n1_ := Aside0.mk (Kd.R_lower (Kd.R_new' ho0 (Kd.R_lt (by (with_reducible repeat (first | apply Kd.R_alloc | apply Kd.R_drewN | apply Kd.R_drew)); exact HO_5.out))) (below_size (by repeat (first | (with_reducible first | exact HB.out | apply below_alloc | apply pw_below_drewN | apply below_drew1) | exact HB.out)))); have n2_ := Aside0.mk (below_step (by repeat (first | (with_reducible first | exact HB.out | apply below_alloc | apply pw_below_drewN | apply below_drew1) | exact HB.out)) hb); clear HO_5; clear HB; have HO_5 := n0_; have HO275 := n1_; have HB := n2_; clear n0_ n1_ n2_; (try clear hb); (try clear hb2); (try clear hk); (try clear hi); (try clear ho0); obtain ⟨Ao18, co18, eo18⟩ := Kd.R_slice HO275.out; subst eo18))
              go_roundg k1
              case measure => have := HK1.out; omega
              case rel => exact ⟨(t273), (x6_1), (x7_1), (wrap64 (x8_1 + 1)), (by first | rfl | (simp; done) | (simp [*]; done)), (by first | rfl | (simp; done) | (simp [*]; done)), (by first | rfl | (simp; done) | (simp [*]; done)), H', ⟨by have := HK1.out; omega⟩, ⟨by (with_reducible repeat (first | apply Kd.R_alloc | apply Kd.R_drewN | apply Kd.R_drew)); exact Kd.R_mono HO275.out (fun _ hk => trivial)⟩, ⟨by repeat (first | (with_reducible first | exact HB.out | apply below_alloc | apply pw_below_drewN | apply below_drew1) | exact HB.out)⟩⟩
          · rw [if_neg c10] at H
            exact absurd H (by simp)
        · rw [if_neg c9] at H
          have c9b0 : decide (x8_1 < (l0.length : Int)) = false := decide_eq_false c9
          clear c9
          obtain ⟨ji19, hji19⟩ : ∃ j_ : Int, (mn a1 (x5_1.length : Int)) = j_ := ⟨_, rfl⟩
          replace H : (if 0 ≤ (mx (ji19) 0) then (if (mx (ji19) 0) ≤ (x5_1.length : Int) then ((frame_All.f k1 (x5_1.take ((mx (ji19) 0) : Int).toNat) 65536).bind fun bt280 => (if 0 ≤ x6_1 then (if x6_1 ≤ (l0.length : Int) then ((turncockref1_Rows.f k1 bt280.1 (l0.take (x6_1 : Int).toNat)).bind fun t289 => (if t289 = true then (if bt280.2.1 = x7_1 then (if ((bt280.2.2 == 0) == ((mx (ji19) 0) == x7_1)) = true then (if (mx (ji19) 0) = x7_1 then ((turncocklaw3_awake.f).bind fun t290 => (some t290)) else (if bt280.2.2 = 3 then ((turncocklaw3_awake.f).bind fun t291 => (some t291)) else (some false))) else (some false)) else (some false)) else (some false))) else (none)) else (none))) else (none)) else (none)) = some r := by first | (rw [hji19] at H; exact H) | (simp only [hji19] at H ⊢; exact H)
          have hji19_ : (if (x5_1.length : Int) < a1 then (x5_1.length : Int) else a1) = ji19 := hji19
          obtain ⟨ji20, hji20⟩ : ∃ j_ : Int, (mx (ji19) 0) = j_ := ⟨_, rfl⟩
          replace H : (if 0 ≤ (ji20) then (if (ji20) ≤ (x5_1.length : Int) then ((frame_All.f k1 (x5_1.take ((ji20) : Int).toNat) 65536).bind fun bt280 => (if 0 ≤ x6_1 then (if x6_1 ≤ (l0.length : Int) then ((turncockref1_Rows.f k1 bt280.1 (l0.take (x6_1 : Int).toNat)).bind fun t289 => (if t289 = true then (if bt280.2.1 = x7_1 then (if ((bt280.2.2 == 0) == ((ji20) == x7_1)) = true then (if (ji20) = x7_1 then ((turncocklaw3_awake.f).bind fun t290 => (some t290)) else (if bt280.2.2 = 3 then ((turncocklaw3_awake.f).bind fun t291 => (some t291)) else (some false))) else (some false)) else (some false)) else (some false))) else (none)) else (none))) else (none)) else (none)) = some r := by first | (rw [hji20] at H; exact H) | (simp only [hji20] at H ⊢; exact H)
          have hji20_ : (if (ji19) < 0 then 0 else (ji19)) = ji20 := hji20
          by_cases c21 : 0 ≤ (ji20)
          · rw [if_pos c21] at H
            have c21b0 := eq_true c21
            have c21b1 : decide (0 ≤ (ji20)) = true := decide_eq_true c21
            clear c21
            by_cases c22 : (ji20) ≤ (x5_1.length : Int)
            · rw [if_pos c22] at H
              have c22b0 := eq_true c22
              have c22b1 : decide ((ji20) ≤ (x5_1.length : Int)) = true := decide_eq_true c22
              clear c22
              obtain ⟨y276, hy276⟩ : ∃ y_ : List Int, y_ = (x5_1.take ((ji20) : Int).toNat) := ⟨_, rfl⟩
              replace H : ((frame_All.f k1 y276 65536).bind fun bt280 => (if 0 ≤ x6_1 then (if x6_1 ≤ (l0.length : Int) then ((turncockref1_Rows.f k1 bt280.1 (l0.take (x6_1 : Int).toNat)).bind fun t289 => (if t289 = true then (if bt280.2.1 = x7_1 then (if ((bt280.2.2 == 0) == ((ji20) == x7_1)) = true then (if (ji20) = x7_1 then ((turncocklaw3_awake.f).bind fun t290 => (some t290)) else (if bt280.2.2 = 3 then ((turncocklaw3_awake.f).bind fun t291 => (some t291)) else (some false))) else (some false)) else (some false)) else (some false))) else (none)) else (none))) = some r := by first | (rw [hy276]; with_reducible exact H) | (have H2_ := (Option.bind_some _ _).symm.trans H; rw [hy276]; with_reducible exact H2_) | (have H2_ := (Option.bind_some _ _).symm.trans H; with_reducible exact H2_) | with_reducible exact H | (rw [hy276]; exact H) | exact H
              have Ny276 := Aside0.mk hy276
              clear hy276
              replace H := Option.bind_eq_some_iff.mp H
              obtain ⟨⟨t280, t281, t282⟩, A230, H⟩ := H
              replace H : (if 0 ≤ x6_1 then (if x6_1 ≤ (l0.length : Int) then ((turncockref1_Rows.f k1 t280 (l0.take (x6_1 : Int).toNat)).bind fun t289 => (if t289 = true then (if t281 = x7_1 then (if ((t282 == 0) == ((ji20) == x7_1)) = true then (if (ji20) = x7_1 then ((turncocklaw3_awake.f).bind fun t290 => (some t290)) else (if t282 = 3 then ((turncocklaw3_awake.f).bind fun t291 => (some t291)) else (some false))) else (some false)) else (some false)) else (some false))) else (none)) else (none)) = some r := H
              have A23 := Aside0.mk A230
              clear A230
              by_cases c24 : 0 ≤ x6_1
              · rw [if_pos c24] at H
                have c24b0 := eq_true c24
                have c24b1 : decide (0 ≤ x6_1) = true := decide_eq_true c24
                clear c24
                by_cases c25 : x6_1 ≤ (l0.length : Int)
                · rw [if_pos c25] at H
                  have c25b0 := eq_true c25
                  have c25b1 : decide (x6_1 ≤ (l0.length : Int)) = true := decide_eq_true c25
                  clear c25
                  obtain ⟨y285, hy285⟩ : ∃ y_ : List (List Int), y_ = (l0.take (x6_1 : Int).toNat) := ⟨_, rfl⟩
                  replace H : ((turncockref1_Rows.f k1 t280 y285).bind fun t289 => (if t289 = true then (if t281 = x7_1 then (if ((t282 == 0) == ((ji20) == x7_1)) = true then (if (ji20) = x7_1 then ((turncocklaw3_awake.f).bind fun t290 => (some t290)) else (if t282 = 3 then ((turncocklaw3_awake.f).bind fun t291 => (some t291)) else (some false))) else (some false)) else (some false)) else (some false))) = some r := by first | (rw [hy285]; with_reducible exact H) | (have H2_ := (Option.bind_some _ _).symm.trans H; rw [hy285]; with_reducible exact H2_) | (have H2_ := (Option.bind_some _ _).symm.trans H; with_reducible exact H2_) | with_reducible exact H | (rw [hy285]; exact H) | exact H
                  have Ny285 := Aside0.mk hy285
                  clear hy285
                  replace H := Option.bind_eq_some_iff.mp H
                  obtain ⟨t289, A260, H⟩ := H
                  replace H : (if t289 = true then (if t281 = x7_1 then (if ((t282 == 0) == ((ji20) == x7_1)) = true then (if (ji20) = x7_1 then ((turncocklaw3_awake.f).bind fun t290 => (some t290)) else (if t282 = 3 then ((turncocklaw3_awake.f).bind fun t291 => (some t291)) else (some false))) else (some false)) else (some false)) else (some false)) = some r := H
                  have A26 := Aside0.mk A260
                  clear A260
                  by_cases c27 : t289 = true
                  · subst c27
                    have H1 : (if t281 = x7_1 then (if ((t282 == 0) == ((ji20) == x7_1)) = true then (if (ji20) = x7_1 then ((turncocklaw3_awake.f).bind fun t290 => (some t290)) else (if t282 = 3 then ((turncocklaw3_awake.f).bind fun t291 => (some t291)) else (some false))) else (some false)) else (some false)) = some r := by rw [if_pos rfl] at H; exact H
                    clear H
                    have H := H1
                    clear H1
                    by_cases c28 : t281 = x7_1
                    · rw [if_pos c28] at H
                      have c28b0 : (t281 == x7_1) = true := beq_iff_eq.mpr c28
                      have c28b1 : (t281 != x7_1) = false := bne_eq_false_iff_eq.mpr c28
                      clear c28
                      by_cases c29 : ((t282 == 0) == ((ji20) == x7_1)) = true
                      · rw [if_pos c29] at H
                        have c29b0 : ((t282 == 0) == ((ji20) == x7_1)) = true := c29
                        (try (have c29b1 : decide ((t282 == 0) = ((ji20) == x7_1)) = true := by simpa using c29))
                        (try (have c29b2 : ((t282 == 0) == ((ji20) == x7_1)) = true := by simpa using c29))
                        clear c29
                        by_cases c30 : (ji20) = x7_1
                        · rw [if_pos c30] at H
                          have c30b0 : ((ji20) == x7_1) = true := beq_iff_eq.mpr c30
                          have c30b1 : ((ji20) != x7_1) = false := bne_eq_false_iff_eq.mpr c30
                          have c30x0 : (t282 == 0) = true := by have h_ := c29b0; rw [c30b0] at h_; simpa using h_
                          clear c30
                          replace H := Option.bind_eq_some_iff.mp H
                          obtain ⟨t290, A310, H⟩ := H
                          replace H : (some t290) = some r := H
                          have A31 := Aside0.mk A310
                          clear A310
                          obtain rfl := Option.some.inj H
                          obtain ⟨Ao32, co32, eo32⟩ := Kd.R_slice HO_5.out
                          subst eo32
                          have q33 : ((ji20) : Int) ≤ ((x5_1.length : Int) : Int) := of_decide_eq_true (by first | (with_reducible assumption) | assumption)
                          obtain ⟨i033, hi033, _, hsz33, _⟩ := info_parts info5
                          have hroom33 : x5_1.length ≤ co32 := (Kd.R_reads' HO_5.out).2.1
                          have hC33 : Kd.C (Kd.int .u8) _ Ao32 x5_1.length x5_1 := (Kd.R_reads' HO_5.out).2.2
                          have hcut33 := cut_to (P := Try.prog) 22 5 .i64 Try.underlying22 hi033 Ao32 x5_1.length co32 (ji20) (of_decide_eq_true (by first | (with_reducible assumption) | assumption)) q33 hroom33
                          have hr33 := Kd.C_take (m := ((ji20) : Int).toNat) hC33 (by omega)
                          have hy33 : y276.length = ((ji20) : Int).toNat := (by rw [Ny276.out, List.length_take]; omega)
                          rw [← Ny276.out] at hr33
                          rw [← hy33] at hcut33
                          have HR279 := Aside0.mk hr33
                          have HC279 := Aside0.mk (show y276.length ≤ co32 from by omega)
                          clear hr33 hC33 hroom33 hi033 hsz33
                          have KY33 := Aside0.mk hy33
                          clear hy33
                          have KL33 := Aside0.mk (show ((ji20) : Int).toNat ≤ x5_1.length from by omega)
                          replace q33 := eq_true q33
                          go_wp2_with (first | ((with_reducible refine gate_callee (f := 37) rfl ?_); refine goesL_ (some 46) rfl rfl Try.func37 (by kernel_rfl) rfl #[.slice Ao32 y276.length co32, .int .i64 65536] rfl (by (try simp only [List.map_toArray, List.map_cons, List.map_nil]); first | done | rfl | (simp only [List.length_drop, List.length_take]; rfl)) ?_; (with_reducible refine (frame_All.calls k1 _ _ y276 65536 t280 t281 t282 _ ?side1 ?side2 A23.out).mono ?_); (case side1 => repeat (first | exact (by repeat (first | (with_reducible exact HR279.out) | (with_reducible refine Kd.C_alloc ?_ _) | (with_reducible refine Kd.C_drewN ?_ _) | (with_reducible refine Kd.C_drew ?_) | exact HR279.out)) | (with_reducible refine Kd.C_alloc ?_ _) | (with_reducible refine Kd.C_drewN ?_ _) | (with_reducible refine Kd.C_drew ?_))); (case side2 => exact HC279.out); rintro e w34 ⟨v283, rfl, ho0, hb⟩; refine ⟨_, rfl, ?_⟩; have n0_ := Aside0.mk (Kd.R_below (by (with_reducible repeat (first | apply Kd.R_alloc | apply Kd.R_drewN | apply Kd.R_drew)); exact HO_5.out) hb); have n1_ := Aside0.mk (Kd.S_lower (Kd.S_new' ho0 (Kd.R_lt (by (with_reducible repeat (first | apply Kd.R_alloc | apply Kd.R_drewN | apply Kd.R_drew)); exact HO_5.out))) (below_size (by repeat (first | (with_reducible first | exact HB.out | apply below_alloc | apply pw_below_drewN | apply below_drew1) | exact HB.out)))); have n2_ := Aside0.mk (Kd.C_below (by repeat (first | (with_reducible exact HR279.out) | (with_reducible refine Kd.C_alloc ?_ _) | (with_reducible refine Kd.C_drewN ?_ _) | (with_reducible refine Kd.C_drew ?_) | exact HR279.out)) hb); have n3_ := Aside0.mk (below_step (by repeat (first | (with_reducible first | exact HB.out | apply below_alloc | apply pw_below_drewN | apply below_drew1) | exact HB.out)) hb); clear HO_5; clear HR279; clear HB; have HO_5 := n0_; have HO284 := n1_; have HR279 := n2_; have HB := n3_; clear n0_ n1_ n2_ n3_; (try clear hb); (try clear hb2); (try clear hk); (try clear hi); (try clear ho0); have q35 : (x6_1 : Int) ≤ ((l0.length : Int) : Int) := of_decide_eq_true (by first | (with_reducible assumption) | assumption); obtain ⟨i035, hi035, _, hsz35, _⟩ := info_parts info22; have hroom35 : l0.length ≤ c0 := HC0.out; have hC35 : Kd.C (Kd.slice 5 (Kd.int .u8)) _ A0 l0.length l0 := HR0.out; have hcut35 := cut_to (P := Try.prog) 35 22 .i64 Try.underlying35 hi035 A0 l0.length c0 x6_1 (of_decide_eq_true (by first | (with_reducible assumption) | assumption)) q35 hroom35; have hr35 := Kd.C_take (m := (x6_1 : Int).toNat) hC35 (by omega); have hy35 : y285.length = (x6_1 : Int).toNat := (by rw [Ny285.out, List.length_take]; omega); rw [← Ny285.out] at hr35; rw [← hy35] at hcut35; have HR288 := Aside0.mk hr35; have HC288 := Aside0.mk (show y285.length ≤ c0 from by omega); clear hr35 hC35 hroom35 hi035 hsz35; have KY35 := Aside0.mk hy35; clear hy35; replace q35 := eq_true q35; obtain ⟨Ao36, co36, eo36⟩ := Kd.S_slice HO284.out; subst eo36) | ((with_reducible refine gate_callee (f := 38) rfl ?_); refine goesL_ (some 54) rfl rfl Try.func38 (by kernel_rfl) rfl #[.slice Ao36 t280.length co36, .slice A0 y285.length c0] rfl (by (try simp only [List.map_toArray, List.map_cons, List.map_nil]); first | done | rfl | (simp only [List.length_drop, List.length_take]; rfl)) ?_; (with_reducible refine (turncockref1_Rows.calls k1 _ _ t280 _ _ y285 true _ ?side1 ?side2 ?side3 ?side4 A26.out).mono ?_); (case side1 => repeat (first | exact (Kd.S_reads' HO284.out).2.2 | (with_reducible refine Kd.C_alloc ?_ _) | (with_reducible refine Kd.C_drewN ?_ _) | (with_reducible refine Kd.C_drew ?_))); (case side2 => exact (Kd.S_reads' HO284.out).2.1); (case side3 => repeat (first | exact (Kd.C_below HR288.out HB.out) | (with_reducible refine Kd.C_alloc ?_ _) | (with_reducible refine Kd.C_drewN ?_ _) | (with_reducible refine Kd.C_drew ?_))); (case side4 => exact HC288.out); rintro e w' ⟨rfl, ⟨nd, rfl⟩⟩; refine ⟨_, rfl, ?_⟩) | (go_at_call 35; (with_reducible refine (turncocklaw3_awake.calls  t290 _ A31.out).mono ?_); rintro e w37 ⟨rfl, hb⟩; have n0_ := Aside0.mk (Kd.R_below (by (with_reducible repeat (first | apply Kd.R_alloc | apply Kd.R_drewN | apply Kd.R_drew)); exact HO_5.out) hb); have n1_ := Aside0.mk (Kd.S_below (by (with_reducible repeat (first | apply Kd.S_alloc | apply Kd.S_drewN | apply Kd.S_drew)); exact HO284.out) hb); have n2_ := Aside0.mk (Kd.C_below (by repeat (first | (with_reducible exact HR279.out) | (with_reducible refine Kd.C_alloc ?_ _) | (with_reducible refine Kd.C_drewN ?_ _) | (with_reducible refine Kd.C_drew ?_) | exact HR279.out)) hb); have n3_ := Aside0.mk (below_step (by repeat (first | (with_reducible first | exact HB.out | apply below_alloc | apply pw_below_drewN | apply below_drew1) | exact HB.out)) hb); clear HO_5; clear HO284; clear HR279; clear HB; have HO_5 := n0_; have HO284 := n1_; have HR279 := n2_; have HB := n3_; clear n0_ n1_ n2_ n3_; (try clear hb); (try clear hb2); (try clear hk); (try clear hi)))
                          go_ret
                          exact ⟨by first | rfl | (simp [errW_none, errW_some] <;> rfl) | (simp only [← hji19, ← hji20]; first | rfl | (simp [errW_none, errW_some] <;> rfl)) | (simp [*, errW_none, errW_some] <;> rfl), by repeat (first | (with_reducible first | exact HB.out | apply below_alloc | apply pw_below_drewN | apply below_drew1) | exact HB.out)⟩
                        · rw [if_neg c30] at H
                          have c30b0 : ((ji20) == x7_1) = false := beq_eq_false_iff_ne.mpr c30
                          have c30b1 : ((ji20) != x7_1) = true := bne_iff_ne.mpr c30
                          have c30x0 : (t282 == 0) = false := by have h_ := c29b0; rw [c30b0] at h_; simpa using h_
                          by_cases c38 : t282 = 3
                          · rw [if_pos c38] at H
                            have c38b0 : (t282 == 3) = true := beq_iff_eq.mpr c38
                            have c38b1 : (t282 != 3) = false := bne_eq_false_iff_eq.mpr c38
                            clear c38
                            replace H := Option.bind_eq_some_iff.mp H
                            obtain ⟨t291, A390, H⟩ := H
                            replace H : (some t291) = some r := H
                            have A39 := Aside0.mk A390
                            clear A390
                            obtain rfl := Option.some.inj H
                            obtain ⟨Ao40, co40, eo40⟩ := Kd.R_slice HO_5.out
                            subst eo40
                            have q41 : ((ji20) : Int) ≤ ((x5_1.length : Int) : Int) := of_decide_eq_true (by first | (with_reducible assumption) | assumption)
                            obtain ⟨i041, hi041, _, hsz41, _⟩ := info_parts info5
                            have hroom41 : x5_1.length ≤ co40 := (Kd.R_reads' HO_5.out).2.1
                            have hC41 : Kd.C (Kd.int .u8) _ Ao40 x5_1.length x5_1 := (Kd.R_reads' HO_5.out).2.2
                            have hcut41 := cut_to (P := Try.prog) 22 5 .i64 Try.underlying22 hi041 Ao40 x5_1.length co40 (ji20) (of_decide_eq_true (by first | (with_reducible assumption) | assumption)) q41 hroom41
                            have hr41 := Kd.C_take (m := ((ji20) : Int).toNat) hC41 (by omega)
                            have hy41 : y276.length = ((ji20) : Int).toNat := (by rw [Ny276.out, List.length_take]; omega)
                            rw [← Ny276.out] at hr41
                            rw [← hy41] at hcut41
                            have HR279 := Aside0.mk hr41
                            have HC279 := Aside0.mk (show y276.length ≤ co40 from by omega)
                            clear hr41 hC41 hroom41 hi041 hsz41
                            have KY41 := Aside0.mk hy41
                            clear hy41
                            have KL41 := Aside0.mk (show ((ji20) : Int).toNat ≤ x5_1.length from by omega)
                            replace q41 := eq_true q41
                            go_wp2_with (first | ((with_reducible refine gate_callee (f := 37) rfl ?_); refine goesL_ (some 46) rfl rfl Try.func37 (by kernel_rfl) rfl #[.slice Ao40 y276.length co40, .int .i64 65536] rfl (by (try simp only [List.map_toArray, List.map_cons, List.map_nil]); first | done | rfl | (simp only [List.length_drop, List.length_take]; rfl)) ?_; (with_reducible refine (frame_All.calls k1 _ _ y276 65536 t280 t281 t282 _ ?side1 ?side2 A23.out).mono ?_); (case side1 => repeat (first | exact (by repeat (first | (with_reducible exact HR279.out) | (with_reducible refine Kd.C_alloc ?_ _) | (with_reducible refine Kd.C_drewN ?_ _) | (with_reducible refine Kd.C_drew ?_) | exact HR279.out)) | (with_reducible refine Kd.C_alloc ?_ _) | (with_reducible refine Kd.C_drewN ?_ _) | (with_reducible refine Kd.C_drew ?_))); (case side2 => exact HC279.out); rintro e w42 ⟨v283, rfl, ho0, hb⟩; refine ⟨_, rfl, ?_⟩; have n0_ := Aside0.mk (Kd.R_below (by (with_reducible repeat (first | apply Kd.R_alloc | apply Kd.R_drewN | apply Kd.R_drew)); exact HO_5.out) hb); have n1_ := Aside0.mk (Kd.S_lower (Kd.S_new' ho0 (Kd.R_lt (by (with_reducible repeat (first | apply Kd.R_alloc | apply Kd.R_drewN | apply Kd.R_drew)); exact HO_5.out))) (below_size (by repeat (first | (with_reducible first | exact HB.out | apply below_alloc | apply pw_below_drewN | apply below_drew1) | exact HB.out)))); have n2_ := Aside0.mk (Kd.C_below (by repeat (first | (with_reducible exact HR279.out) | (with_reducible refine Kd.C_alloc ?_ _) | (with_reducible refine Kd.C_drewN ?_ _) | (with_reducible refine Kd.C_drew ?_) | exact HR279.out)) hb); have n3_ := Aside0.mk (below_step (by repeat (first | (with_reducible first | exact HB.out | apply below_alloc | apply pw_below_drewN | apply below_drew1) | exact HB.out)) hb); clear HO_5; clear HR279; clear HB; have HO_5 := n0_; have HO284 := n1_; have HR279 := n2_; have HB := n3_; clear n0_ n1_ n2_ n3_; (try clear hb); (try clear hb2); (try clear hk); (try clear hi); (try clear ho0); have q43 : (x6_1 : Int) ≤ ((l0.length : Int) : Int) := of_decide_eq_true (by first | (with_reducible assumption) | assumption); obtain ⟨i043, hi043, _, hsz43, _⟩ := info_parts info22; have hroom43 : l0.length ≤ c0 := HC0.out; have hC43 : Kd.C (Kd.slice 5 (Kd.int .u8)) _ A0 l0.length l0 := HR0.out; have hcut43 := cut_to (P := Try.prog) 35 22 .i64 Try.underlying35 hi043 A0 l0.length c0 x6_1 (of_decide_eq_true (by first | (with_reducible assumption) | assumption)) q43 hroom43; have hr43 := Kd.C_take (m := (x6_1 : Int).toNat) hC43 (by omega); have hy43 : y285.length = (x6_1 : Int).toNat := (by rw [Ny285.out, List.length_take]; omega); rw [← Ny285.out] at hr43; rw [← hy43] at hcut43; have HR288 := Aside0.mk hr43; have HC288 := Aside0.mk (show y285.length ≤ c0 from by omega); clear hr43 hC43 hroom43 hi043 hsz43; have KY43 := Aside0.mk hy43; clear hy43; replace q43 := eq_true q43; obtain ⟨Ao44, co44, eo44⟩ := Kd.S_slice HO284.out; subst eo44) | ((with_reducible refine gate_callee (f := 38) rfl ?_); refine goesL_ (some 54) rfl rfl Try.func38 (by kernel_rfl) rfl #[.slice Ao44 t280.length co44, .slice A0 y285.length c0] rfl (by (try simp only [List.map_toArray, List.map_cons, List.map_nil]); first | done | rfl | (simp only [List.length_drop, List.length_take]; rfl)) ?_; (with_reducible refine (turncockref1_Rows.calls k1 _ _ t280 _ _ y285 true _ ?side1 ?side2 ?side3 ?side4 A26.out).mono ?_); (case side1 => repeat (first | exact (Kd.S_reads' HO284.out).2.2 | (with_reducible refine Kd.C_alloc ?_ _) | (with_reducible refine Kd.C_drewN ?_ _) | (with_reducible refine Kd.C_drew ?_))); (case side2 => exact (Kd.S_reads' HO284.out).2.1); (case side3 => repeat (first | exact (Kd.C_below HR288.out HB.out) | (with_reducible refine Kd.C_alloc ?_ _) | (with_reducible refine Kd.C_drewN ?_ _) | (with_reducible refine Kd.C_drew ?_))); (case side4 => exact HC288.out); rintro e w' ⟨rfl, ⟨nd, rfl⟩⟩; refine ⟨_, rfl, ?_⟩) | (go_at_call 35; (with_reducible refine (turncocklaw3_awake.calls  t291 _ A39.out).mono ?_); rintro e w45 ⟨rfl, hb⟩; have n0_ := Aside0.mk (Kd.R_below (by (with_reducible repeat (first | apply Kd.R_alloc | apply Kd.R_drewN | apply Kd.R_drew)); exact HO_5.out) hb); have n1_ := Aside0.mk (Kd.S_below (by (with_reducible repeat (first | apply Kd.S_alloc | apply Kd.S_drewN | apply Kd.S_drew)); exact HO284.out) hb); have n2_ := Aside0.mk (Kd.C_below (by repeat (first | (with_reducible exact HR279.out) | (with_reducible refine Kd.C_alloc ?_ _) | (with_reducible refine Kd.C_drewN ?_ _) | (with_reducible refine Kd.C_drew ?_) | exact HR279.out)) hb); have n3_ := Aside0.mk (below_step (by repeat (first | (with_reducible first | exact HB.out | apply below_alloc | apply pw_below_drewN | apply below_drew1) | exact HB.out)) hb); clear HO_5; clear HO284; clear HR279; clear HB; have HO_5 := n0_; have HO284 := n1_; have HR279 := n2_; have HB := n3_; clear n0_ n1_ n2_ n3_; (try clear hb); (try clear hb2); (try clear hk); (try clear hi)))
                            go_ret
                            exact ⟨by first | rfl | (simp [errW_none, errW_some] <;> rfl) | (simp only [← hji19, ← hji20]; first | rfl | (simp [errW_none, errW_some] <;> rfl)) | (simp [*, errW_none, errW_some] <;> rfl), by repeat (first | (with_reducible first | exact HB.out | apply below_alloc | apply pw_below_drewN | apply below_drew1) | exact HB.out)⟩
                          · rw [if_neg c38] at H
                            have c38b0 : (t282 == 3) = false := beq_eq_false_iff_ne.mpr c38
                            have c38b1 : (t282 != 3) = true := bne_iff_ne.mpr c38
                            obtain rfl := Option.some.inj H
                            obtain ⟨Ao46, co46, eo46⟩ := Kd.R_slice HO_5.out
                            subst eo46
                            have q47 : ((ji20) : Int) ≤ ((x5_1.length : Int) : Int) := of_decide_eq_true (by first | (with_reducible assumption) | assumption)
                            obtain ⟨i047, hi047, _, hsz47, _⟩ := info_parts info5
                            have hroom47 : x5_1.length ≤ co46 := (Kd.R_reads' HO_5.out).2.1
                            have hC47 : Kd.C (Kd.int .u8) _ Ao46 x5_1.length x5_1 := (Kd.R_reads' HO_5.out).2.2
                            have hcut47 := cut_to (P := Try.prog) 22 5 .i64 Try.underlying22 hi047 Ao46 x5_1.length co46 (ji20) (of_decide_eq_true (by first | (with_reducible assumption) | assumption)) q47 hroom47
                            have hr47 := Kd.C_take (m := ((ji20) : Int).toNat) hC47 (by omega)
                            have hy47 : y276.length = ((ji20) : Int).toNat := (by rw [Ny276.out, List.length_take]; omega)
                            rw [← Ny276.out] at hr47
                            rw [← hy47] at hcut47
                            have HR279 := Aside0.mk hr47
                            have HC279 := Aside0.mk (show y276.length ≤ co46 from by omega)
                            clear hr47 hC47 hroom47 hi047 hsz47
                            have KY47 := Aside0.mk hy47
                            clear hy47
                            have KL47 := Aside0.mk (show ((ji20) : Int).toNat ≤ x5_1.length from by omega)
                            replace q47 := eq_true q47
                            go_wp2_with (first | ((with_reducible refine gate_callee (f := 37) rfl ?_); refine goesL_ (some 46) rfl rfl Try.func37 (by kernel_rfl) rfl #[.slice Ao46 y276.length co46, .int .i64 65536] rfl (by (try simp only [List.map_toArray, List.map_cons, List.map_nil]); first | done | rfl | (simp only [List.length_drop, List.length_take]; rfl)) ?_; (with_reducible refine (frame_All.calls k1 _ _ y276 65536 t280 t281 t282 _ ?side1 ?side2 A23.out).mono ?_); (case side1 => repeat (first | exact (by repeat (first | (with_reducible exact HR279.out) | (with_reducible refine Kd.C_alloc ?_ _) | (with_reducible refine Kd.C_drewN ?_ _) | (with_reducible refine Kd.C_drew ?_) | exact HR279.out)) | (with_reducible refine Kd.C_alloc ?_ _) | (with_reducible refine Kd.C_drewN ?_ _) | (with_reducible refine Kd.C_drew ?_))); (case side2 => exact HC279.out); rintro e w48 ⟨v283, rfl, ho0, hb⟩; refine ⟨_, rfl, ?_⟩; have n0_ := Aside0.mk (Kd.R_below (by (with_reducible repeat (first | apply Kd.R_alloc | apply Kd.R_drewN | apply Kd.R_drew)); exact HO_5.out) hb); have n1_ := Aside0.mk (Kd.S_lower (Kd.S_new' ho0 (Kd.R_lt (by (with_reducible repeat (first | apply Kd.R_alloc | apply Kd.R_drewN | apply Kd.R_drew)); exact HO_5.out))) (below_size (by repeat (first | (with_reducible first | exact HB.out | apply below_alloc | apply pw_below_drewN | apply below_drew1) | exact HB.out)))); have n2_ := Aside0.mk (Kd.C_below (by repeat (first | (with_reducible exact HR279.out) | (with_reducible refine Kd.C_alloc ?_ _) | (with_reducible refine Kd.C_drewN ?_ _) | (with_reducible refine Kd.C_drew ?_) | exact HR279.out)) hb); have n3_ := Aside0.mk (below_step (by repeat (first | (with_reducible first | exact HB.out | apply below_alloc | apply pw_below_drewN | apply below_drew1) | exact HB.out)) hb); clear HO_5; clear HR279; clear HB; have HO_5 := n0_; have HO284 := n1_; have HR279 := n2_; have HB := n3_; clear n0_ n1_ n2_ n3_; (try clear hb); (try clear hb2); (try clear hk); (try clear hi); (try clear ho0); have q49 : (x6_1 : Int) ≤ ((l0.length : Int) : Int) := of_decide_eq_true (by first | (with_reducible assumption) | assumption); obtain ⟨i049, hi049, _, hsz49, _⟩ := info_parts info22; have hroom49 : l0.length ≤ c0 := HC0.out; have hC49 : Kd.C (Kd.slice 5 (Kd.int .u8)) _ A0 l0.length l0 := HR0.out; have hcut49 := cut_to (P := Try.prog) 35 22 .i64 Try.underlying35 hi049 A0 l0.length c0 x6_1 (of_decide_eq_true (by first | (with_reducible assumption) | assumption)) q49 hroom49; have hr49 := Kd.C_take (m := (x6_1 : Int).toNat) hC49 (by omega); have hy49 : y285.length = (x6_1 : Int).toNat := (by rw [Ny285.out, List.length_take]; omega); rw [← Ny285.out] at hr49; rw [← hy49] at hcut49; have HR288 := Aside0.mk hr49; have HC288 := Aside0.mk (show y285.length ≤ c0 from by omega); clear hr49 hC49 hroom49 hi049 hsz49; have KY49 := Aside0.mk hy49; clear hy49; replace q49 := eq_true q49; obtain ⟨Ao50, co50, eo50⟩ := Kd.S_slice HO284.out; subst eo50) | ((with_reducible refine gate_callee (f := 38) rfl ?_); refine goesL_ (some 54) rfl rfl Try.func38 (by kernel_rfl) rfl #[.slice Ao50 t280.length co50, .slice A0 y285.length c0] rfl (by (try simp only [List.map_toArray, List.map_cons, List.map_nil]); first | done | rfl | (simp only [List.length_drop, List.length_take]; rfl)) ?_; (with_reducible refine (turncockref1_Rows.calls k1 _ _ t280 _ _ y285 true _ ?side1 ?side2 ?side3 ?side4 A26.out).mono ?_); (case side1 => repeat (first | exact (Kd.S_reads' HO284.out).2.2 | (with_reducible refine Kd.C_alloc ?_ _) | (with_reducible refine Kd.C_drewN ?_ _) | (with_reducible refine Kd.C_drew ?_))); (case side2 => exact (Kd.S_reads' HO284.out).2.1); (case side3 => repeat (first | exact (Kd.C_below HR288.out HB.out) | (with_reducible refine Kd.C_alloc ?_ _) | (with_reducible refine Kd.C_drewN ?_ _) | (with_reducible refine Kd.C_drew ?_))); (case side4 => exact HC288.out); rintro e w' ⟨rfl, ⟨nd, rfl⟩⟩; refine ⟨_, rfl, ?_⟩))
                            go_ret
                            exact ⟨by first | rfl | (simp [errW_none, errW_some] <;> rfl) | (simp only [← hji19, ← hji20]; first | rfl | (simp [errW_none, errW_some] <;> rfl)) | (simp [*, errW_none, errW_some] <;> rfl), by repeat (first | (with_reducible first | exact HB.out | apply below_alloc | apply pw_below_drewN | apply below_drew1) | exact HB.out)⟩
                      · rw [if_neg c29] at H
                        have c29b0 : ((t282 == 0) == ((ji20) == x7_1)) = false := by simpa using c29
                        (try (have c29b1 : decide ((t282 == 0) = ((ji20) == x7_1)) = false := by simpa using c29))
                        (try (have c29b2 : ((t282 == 0) == ((ji20) == x7_1)) = false := by simpa using c29))
                        (try (have c29b3 : ¬ ((t282 == 0) = ((ji20) == x7_1)) := by simpa using c29))
                        clear c29
                        obtain rfl := Option.some.inj H
                        obtain ⟨Ao51, co51, eo51⟩ := Kd.R_slice HO_5.out
                        subst eo51
                        have q52 : ((ji20) : Int) ≤ ((x5_1.length : Int) : Int) := of_decide_eq_true (by first | (with_reducible assumption) | assumption)
                        obtain ⟨i052, hi052, _, hsz52, _⟩ := info_parts info5
                        have hroom52 : x5_1.length ≤ co51 := (Kd.R_reads' HO_5.out).2.1
                        have hC52 : Kd.C (Kd.int .u8) _ Ao51 x5_1.length x5_1 := (Kd.R_reads' HO_5.out).2.2
                        have hcut52 := cut_to (P := Try.prog) 22 5 .i64 Try.underlying22 hi052 Ao51 x5_1.length co51 (ji20) (of_decide_eq_true (by first | (with_reducible assumption) | assumption)) q52 hroom52
                        have hr52 := Kd.C_take (m := ((ji20) : Int).toNat) hC52 (by omega)
                        have hy52 : y276.length = ((ji20) : Int).toNat := (by rw [Ny276.out, List.length_take]; omega)
                        rw [← Ny276.out] at hr52
                        rw [← hy52] at hcut52
                        have HR279 := Aside0.mk hr52
                        have HC279 := Aside0.mk (show y276.length ≤ co51 from by omega)
                        clear hr52 hC52 hroom52 hi052 hsz52
                        have KY52 := Aside0.mk hy52
                        clear hy52
                        have KL52 := Aside0.mk (show ((ji20) : Int).toNat ≤ x5_1.length from by omega)
                        replace q52 := eq_true q52
                        go_wp2_with (first | ((with_reducible refine gate_callee (f := 37) rfl ?_); refine goesL_ (some 46) rfl rfl Try.func37 (by kernel_rfl) rfl #[.slice Ao51 y276.length co51, .int .i64 65536] rfl (by (try simp only [List.map_toArray, List.map_cons, List.map_nil]); first | done | rfl | (simp only [List.length_drop, List.length_take]; rfl)) ?_; (with_reducible refine (frame_All.calls k1 _ _ y276 65536 t280 t281 t282 _ ?side1 ?side2 A23.out).mono ?_); (case side1 => repeat (first | exact (by repeat (first | (with_reducible exact HR279.out) | (with_reducible refine Kd.C_alloc ?_ _) | (with_reducible refine Kd.C_drewN ?_ _) | (with_reducible refine Kd.C_drew ?_) | exact HR279.out)) | (with_reducible refine Kd.C_alloc ?_ _) | (with_reducible refine Kd.C_drewN ?_ _) | (with_reducible refine Kd.C_drew ?_))); (case side2 => exact HC279.out); rintro e w53 ⟨v283, rfl, ho0, hb⟩; refine ⟨_, rfl, ?_⟩; have n0_ := Aside0.mk (Kd.R_below (by (with_reducible repeat (first | apply Kd.R_alloc | apply Kd.R_drewN | apply Kd.R_drew)); exact HO_5.out) hb); have n1_ := Aside0.mk (Kd.S_lower (Kd.S_new' ho0 (Kd.R_lt (by (with_reducible repeat (first | apply Kd.R_alloc | apply Kd.R_drewN | apply Kd.R_drew)); exact HO_5.out))) (below_size (by repeat (first | (with_reducible first | exact HB.out | apply below_alloc | apply pw_below_drewN | apply below_drew1) | exact HB.out)))); have n2_ := Aside0.mk (Kd.C_below (by repeat (first | (with_reducible exact HR279.out) | (with_reducible refine Kd.C_alloc ?_ _) | (with_reducible refine Kd.C_drewN ?_ _) | (with_reducible refine Kd.C_drew ?_) | exact HR279.out)) hb); have n3_ := Aside0.mk (below_step (by repeat (first | (with_reducible first | exact HB.out | apply below_alloc | apply pw_below_drewN | apply below_drew1) | exact HB.out)) hb); clear HO_5; clear HR279; clear HB; have HO_5 := n0_; have HO284 := n1_; have HR279 := n2_; have HB := n3_; clear n0_ n1_ n2_ n3_; (try clear hb); (try clear hb2); (try clear hk); (try clear hi); (try clear ho0); have q54 : (x6_1 : Int) ≤ ((l0.length : Int) : Int) := of_decide_eq_true (by first | (with_reducible assumption) | assumption); obtain ⟨i054, hi054, _, hsz54, _⟩ := info_parts info22; have hroom54 : l0.length ≤ c0 := HC0.out; have hC54 : Kd.C (Kd.slice 5 (Kd.int .u8)) _ A0 l0.length l0 := HR0.out; have hcut54 := cut_to (P := Try.prog) 35 22 .i64 Try.underlying35 hi054 A0 l0.length c0 x6_1 (of_decide_eq_true (by first | (with_reducible assumption) | assumption)) q54 hroom54; have hr54 := Kd.C_take (m := (x6_1 : Int).toNat) hC54 (by omega); have hy54 : y285.length = (x6_1 : Int).toNat := (by rw [Ny285.out, List.length_take]; omega); rw [← Ny285.out] at hr54; rw [← hy54] at hcut54; have HR288 := Aside0.mk hr54; have HC288 := Aside0.mk (show y285.length ≤ c0 from by omega); clear hr54 hC54 hroom54 hi054 hsz54; have KY54 := Aside0.mk hy54; clear hy54; replace q54 := eq_true q54; obtain ⟨Ao55, co55, eo55⟩ := Kd.S_slice HO284.out; subst eo55) | ((with_reducible refine gate_callee (f := 38) rfl ?_); refine goesL_ (some 54) rfl rfl Try.func38 (by kernel_rfl) rfl #[.slice Ao55 t280.length co55, .slice A0 y285.length c0] rfl (by (try simp only [List.map_toArray, List.map_cons, List.map_nil]); first | done | rfl | (simp only [List.length_drop, List.length_take]; rfl)) ?_; (with_reducible refine (turncockref1_Rows.calls k1 _ _ t280 _ _ y285 true _ ?side1 ?side2 ?side3 ?side4 A26.out).mono ?_); (case side1 => repeat (first | exact (Kd.S_reads' HO284.out).2.2 | (with_reducible refine Kd.C_alloc ?_ _) | (with_reducible refine Kd.C_drewN ?_ _) | (with_reducible refine Kd.C_drew ?_))); (case side2 => exact (Kd.S_reads' HO284.out).2.1); (case side3 => repeat (first | exact (Kd.C_below HR288.out HB.out) | (with_reducible refine Kd.C_alloc ?_ _) | (with_reducible refine Kd.C_drewN ?_ _) | (with_reducible refine Kd.C_drew ?_))); (case side4 => exact HC288.out); rintro e w' ⟨rfl, ⟨nd, rfl⟩⟩; refine ⟨_, rfl, ?_⟩))
                        go_ret
                        exact ⟨by first | rfl | (simp [errW_none, errW_some] <;> rfl) | (simp only [← hji19, ← hji20]; first | rfl | (simp [errW_none, errW_some] <;> rfl)) | (simp [*, errW_none, errW_some] <;> rfl), by repeat (first | (with_reducible first | exact HB.out | apply below_alloc | apply pw_below_drewN | apply below_drew1) | exact HB.out)⟩
                    · rw [if_neg c28] at H
                      have c28b0 : (t281 == x7_1) = false := beq_eq_false_iff_ne.mpr c28
                      have c28b1 : (t281 != x7_1) = true := bne_iff_ne.mpr c28
                      obtain rfl := Option.some.inj H
                      obtain ⟨Ao56, co56, eo56⟩ := Kd.R_slice HO_5.out
                      subst eo56
                      have q57 : ((ji20) : Int) ≤ ((x5_1.length : Int) : Int) := of_decide_eq_true (by first | (with_reducible assumption) | assumption)
                      obtain ⟨i057, hi057, _, hsz57, _⟩ := info_parts info5
                      have hroom57 : x5_1.length ≤ co56 := (Kd.R_reads' HO_5.out).2.1
                      have hC57 : Kd.C (Kd.int .u8) _ Ao56 x5_1.length x5_1 := (Kd.R_reads' HO_5.out).2.2
                      have hcut57 := cut_to (P := Try.prog) 22 5 .i64 Try.underlying22 hi057 Ao56 x5_1.length co56 (ji20) (of_decide_eq_true (by first | (with_reducible assumption) | assumption)) q57 hroom57
                      have hr57 := Kd.C_take (m := ((ji20) : Int).toNat) hC57 (by omega)
                      have hy57 : y276.length = ((ji20) : Int).toNat := (by rw [Ny276.out, List.length_take]; omega)
                      rw [← Ny276.out] at hr57
                      rw [← hy57] at hcut57
                      have HR279 := Aside0.mk hr57
                      have HC279 := Aside0.mk (show y276.length ≤ co56 from by omega)
                      clear hr57 hC57 hroom57 hi057 hsz57
                      have KY57 := Aside0.mk hy57
                      clear hy57
                      have KL57 := Aside0.mk (show ((ji20) : Int).toNat ≤ x5_1.length from by omega)
                      replace q57 := eq_true q57
                      go_wp2_with (first | ((with_reducible refine gate_callee (f := 37) rfl ?_); refine goesL_ (some 46) rfl rfl Try.func37 (by kernel_rfl) rfl #[.slice Ao56 y276.length co56, .int .i64 65536] rfl (by (try simp only [List.map_toArray, List.map_cons, List.map_nil]); first | done | rfl | (simp only [List.length_drop, List.length_take]; rfl)) ?_; (with_reducible refine (frame_All.calls k1 _ _ y276 65536 t280 t281 t282 _ ?side1 ?side2 A23.out).mono ?_); (case side1 => repeat (first | exact (by repeat (first | (with_reducible exact HR279.out) | (with_reducible refine Kd.C_alloc ?_ _) | (with_reducible refine Kd.C_drewN ?_ _) | (with_reducible refine Kd.C_drew ?_) | exact HR279.out)) | (with_reducible refine Kd.C_alloc ?_ _) | (with_reducible refine Kd.C_drewN ?_ _) | (with_reducible refine Kd.C_drew ?_))); (case side2 => exact HC279.out); rintro e w58 ⟨v283, rfl, ho0, hb⟩; refine ⟨_, rfl, ?_⟩; have n0_ := Aside0.mk (Kd.R_below (by (with_reducible repeat (first | apply Kd.R_alloc | apply Kd.R_drewN | apply Kd.R_drew)); exact HO_5.out) hb); have n1_ := Aside0.mk (Kd.S_lower (Kd.S_new' ho0 (Kd.R_lt (by (with_reducible repeat (first | apply Kd.R_alloc | apply Kd.R_drewN | apply Kd.R_drew)); exact HO_5.out))) (below_size (by repeat (first | (with_reducible first | exact HB.out | apply below_alloc | apply pw_below_drewN | apply below_drew1) | exact HB.out)))); have n2_ := Aside0.mk (Kd.C_below (by repeat (first | (with_reducible exact HR279.out) | (with_reducible refine Kd.C_alloc ?_ _) | (with_reducible refine Kd.C_drewN ?_ _) | (with_reducible refine Kd.C_drew ?_) | exact HR279.out)) hb); have n3_ := Aside0.mk (below_step (by repeat (first | (with_reducible first | exact HB.out | apply below_alloc | apply pw_below_drewN | apply below_drew1) | exact HB.out)) hb); clear HO_5; clear HR279; clear HB; have HO_5 := n0_; have HO284 := n1_; have HR279 := n2_; have HB := n3_; clear n0_ n1_ n2_ n3_; (try clear hb); (try clear hb2); (try clear hk); (try clear hi); (try clear ho0); have q59 : (x6_1 : Int) ≤ ((l0.length : Int) : Int) := of_decide_eq_true (by first | (with_reducible assumption) | assumption); obtain ⟨i059, hi059, _, hsz59, _⟩ := info_parts info22; have hroom59 : l0.length ≤ c0 := HC0.out; have hC59 : Kd.C (Kd.slice 5 (Kd.int .u8)) _ A0 l0.length l0 := HR0.out; have hcut59 := cut_to (P := Try.prog) 35 22 .i64 Try.underlying35 hi059 A0 l0.length c0 x6_1 (of_decide_eq_true (by first | (with_reducible assumption) | assumption)) q59 hroom59; have hr59 := Kd.C_take (m := (x6_1 : Int).toNat) hC59 (by omega); have hy59 : y285.length = (x6_1 : Int).toNat := (by rw [Ny285.out, List.length_take]; omega); rw [← Ny285.out] at hr59; rw [← hy59] at hcut59; have HR288 := Aside0.mk hr59; have HC288 := Aside0.mk (show y285.length ≤ c0 from by omega); clear hr59 hC59 hroom59 hi059 hsz59; have KY59 := Aside0.mk hy59; clear hy59; replace q59 := eq_true q59; obtain ⟨Ao60, co60, eo60⟩ := Kd.S_slice HO284.out; subst eo60) | ((with_reducible refine gate_callee (f := 38) rfl ?_); refine goesL_ (some 54) rfl rfl Try.func38 (by kernel_rfl) rfl #[.slice Ao60 t280.length co60, .slice A0 y285.length c0] rfl (by (try simp only [List.map_toArray, List.map_cons, List.map_nil]); first | done | rfl | (simp only [List.length_drop, List.length_take]; rfl)) ?_; (with_reducible refine (turncockref1_Rows.calls k1 _ _ t280 _ _ y285 true _ ?side1 ?side2 ?side3 ?side4 A26.out).mono ?_); (case side1 => repeat (first | exact (Kd.S_reads' HO284.out).2.2 | (with_reducible refine Kd.C_alloc ?_ _) | (with_reducible refine Kd.C_drewN ?_ _) | (with_reducible refine Kd.C_drew ?_))); (case side2 => exact (Kd.S_reads' HO284.out).2.1); (case side3 => repeat (first | exact (Kd.C_below HR288.out HB.out) | (with_reducible refine Kd.C_alloc ?_ _) | (with_reducible refine Kd.C_drewN ?_ _) | (with_reducible refine Kd.C_drew ?_))); (case side4 => exact HC288.out); rintro e w' ⟨rfl, ⟨nd, rfl⟩⟩; refine ⟨_, rfl, ?_⟩))
                      go_ret
                      exact ⟨by first | rfl | (simp [errW_none, errW_some] <;> rfl) | (simp only [← hji19, ← hji20]; first | rfl | (simp [errW_none, errW_some] <;> rfl)) | (simp [*, errW_none, errW_some] <;> rfl), by repeat (first | (with_reducible first | exact HB.out | apply below_alloc | apply pw_below_drewN | apply below_drew1) | exact HB.out)⟩
                  · replace c27 := Bool.eq_false_iff.mpr c27
                    subst c27
                    have H1 : (some false) = some r := by rw [if_neg (show ¬ (false = true) by decide)] at H; exact H
                    clear H
                    have H := H1
                    clear H1
                    obtain rfl := Option.some.inj H
                    obtain ⟨Ao61, co61, eo61⟩ := Kd.R_slice HO_5.out
                    subst eo61
                    have q62 : ((ji20) : Int) ≤ ((x5_1.length : Int) : Int) := of_decide_eq_true (by first | (with_reducible assumption) | assumption)
                    obtain ⟨i062, hi062, _, hsz62, _⟩ := info_parts info5
                    have hroom62 : x5_1.length ≤ co61 := (Kd.R_reads' HO_5.out).2.1
                    have hC62 : Kd.C (Kd.int .u8) _ Ao61 x5_1.length x5_1 := (Kd.R_reads' HO_5.out).2.2
                    have hcut62 := cut_to (P := Try.prog) 22 5 .i64 Try.underlying22 hi062 Ao61 x5_1.length co61 (ji20) (of_decide_eq_true (by first | (with_reducible assumption) | assumption)) q62 hroom62
                    have hr62 := Kd.C_take (m := ((ji20) : Int).toNat) hC62 (by omega)
                    have hy62 : y276.length = ((ji20) : Int).toNat := (by rw [Ny276.out, List.length_take]; omega)
                    rw [← Ny276.out] at hr62
                    rw [← hy62] at hcut62
                    have HR279 := Aside0.mk hr62
                    have HC279 := Aside0.mk (show y276.length ≤ co61 from by omega)
                    clear hr62 hC62 hroom62 hi062 hsz62
                    have KY62 := Aside0.mk hy62
                    clear hy62
                    have KL62 := Aside0.mk (show ((ji20) : Int).toNat ≤ x5_1.length from by omega)
                    replace q62 := eq_true q62
                    go_wp2_with (first | ((with_reducible refine gate_callee (f := 37) rfl ?_); refine goesL_ (some 46) rfl rfl Try.func37 (by kernel_rfl) rfl #[.slice Ao61 y276.length co61, .int .i64 65536] rfl (by (try simp only [List.map_toArray, List.map_cons, List.map_nil]); first | done | rfl | (simp only [List.length_drop, List.length_take]; rfl)) ?_; (with_reducible refine (frame_All.calls k1 _ _ y276 65536 t280 t281 t282 _ ?side1 ?side2 A23.out).mono ?_); (case side1 => repeat (first | exact (by repeat (first | (with_reducible exact HR279.out) | (with_reducible refine Kd.C_alloc ?_ _) | (with_reducible refine Kd.C_drewN ?_ _) | (with_reducible refine Kd.C_drew ?_) | exact HR279.out)) | (with_reducible refine Kd.C_alloc ?_ _) | (with_reducible refine Kd.C_drewN ?_ _) | (with_reducible refine Kd.C_drew ?_))); (case side2 => exact HC279.out); rintro e w63 ⟨v283, rfl, ho0, hb⟩; refine ⟨_, rfl, ?_⟩; have n0_ := Aside0.mk (Kd.R_below (by (with_reducible repeat (first | apply Kd.R_alloc | apply Kd.R_drewN | apply Kd.R_drew)); exact HO_5.out) hb); have n1_ := Aside0.mk (Kd.S_lower (Kd.S_new' ho0 (Kd.R_lt (by (with_reducible repeat (first | apply Kd.R_alloc | apply Kd.R_drewN | apply Kd.R_drew)); exact HO_5.out))) (below_size (by repeat (first | (with_reducible first | exact HB.out | apply below_alloc | apply pw_below_drewN | apply below_drew1) | exact HB.out)))); have n2_ := Aside0.mk (Kd.C_below (by repeat (first | (with_reducible exact HR279.out) | (with_reducible refine Kd.C_alloc ?_ _) | (with_reducible refine Kd.C_drewN ?_ _) | (with_reducible refine Kd.C_drew ?_) | exact HR279.out)) hb); have n3_ := Aside0.mk (below_step (by repeat (first | (with_reducible first | exact HB.out | apply below_alloc | apply pw_below_drewN | apply below_drew1) | exact HB.out)) hb); clear HO_5; clear HR279; clear HB; have HO_5 := n0_; have HO284 := n1_; have HR279 := n2_; have HB := n3_; clear n0_ n1_ n2_ n3_; (try clear hb); (try clear hb2); (try clear hk); (try clear hi); (try clear ho0); have q64 : (x6_1 : Int) ≤ ((l0.length : Int) : Int) := of_decide_eq_true (by first | (with_reducible assumption) | assumption); obtain ⟨i064, hi064, _, hsz64, _⟩ := info_parts info22; have hroom64 : l0.length ≤ c0 := HC0.out; have hC64 : Kd.C (Kd.slice 5 (Kd.int .u8)) _ A0 l0.length l0 := HR0.out; have hcut64 := cut_to (P := Try.prog) 35 22 .i64 Try.underlying35 hi064 A0 l0.length c0 x6_1 (of_decide_eq_true (by first | (with_reducible assumption) | assumption)) q64 hroom64; have hr64 := Kd.C_take (m := (x6_1 : Int).toNat) hC64 (by omega); have hy64 : y285.length = (x6_1 : Int).toNat := (by rw [Ny285.out, List.length_take]; omega); rw [← Ny285.out] at hr64; rw [← hy64] at hcut64; have HR288 := Aside0.mk hr64; have HC288 := Aside0.mk (show y285.length ≤ c0 from by omega); clear hr64 hC64 hroom64 hi064 hsz64; have KY64 := Aside0.mk hy64; clear hy64; replace q64 := eq_true q64; obtain ⟨Ao65, co65, eo65⟩ := Kd.S_slice HO284.out; subst eo65) | ((with_reducible refine gate_callee (f := 38) rfl ?_); refine goesL_ (some 54) rfl rfl Try.func38 (by kernel_rfl) rfl #[.slice Ao65 t280.length co65, .slice A0 y285.length c0] rfl (by (try simp only [List.map_toArray, List.map_cons, List.map_nil]); first | done | rfl | (simp only [List.length_drop, List.length_take]; rfl)) ?_; (with_reducible refine (turncockref1_Rows.calls k1 _ _ t280 _ _ y285 false _ ?side1 ?side2 ?side3 ?side4 A26.out).mono ?_); (case side1 => repeat (first | exact (Kd.S_reads' HO284.out).2.2 | (with_reducible refine Kd.C_alloc ?_ _) | (with_reducible refine Kd.C_drewN ?_ _) | (with_reducible refine Kd.C_drew ?_))); (case side2 => exact (Kd.S_reads' HO284.out).2.1); (case side3 => repeat (first | exact (Kd.C_below HR288.out HB.out) | (with_reducible refine Kd.C_alloc ?_ _) | (with_reducible refine Kd.C_drewN ?_ _) | (with_reducible refine Kd.C_drew ?_))); (case side4 => exact HC288.out); rintro e w' ⟨rfl, ⟨nd, rfl⟩⟩; refine ⟨_, rfl, ?_⟩))
                    go_ret
                    exact ⟨by first | rfl | (simp [errW_none, errW_some] <;> rfl) | (simp only [← hji19, ← hji20]; first | rfl | (simp [errW_none, errW_some] <;> rfl)) | (simp [*, errW_none, errW_some] <;> rfl), by repeat (first | (with_reducible first | exact HB.out | apply below_alloc | apply pw_below_drewN | apply below_drew1) | exact HB.out)⟩
                · rw [if_neg c25] at H
                  exact absurd H (by simp)
              · rw [if_neg c24] at H
                exact absurd H (by simp)
            · rw [if_neg c22] at H
              exact absurd H (by simp)
          · rw [if_neg c21] at H
            exact absurd H (by simp)

/-! ### turncocklaw4_weight: function 42 -/
def turncocklaw4_weight.l0 : Nat → List (List Int) → Int → Int → Option (Int)
  | 0, _, _, _ => none
  | k + 1, x0, x3, x4 => if x4 < (x0.length : Int) then (if x3 ≤ 5000 then (if 0 ≤ x4 then (turncocklaw4_weight.l0 k x0 (wrap64 (x3 + (mn ((rd_L1 x0 x4).length : Int) 5001))) (wrap64 (x4 + 1))) else (none)) else (some x3)) else (some x3)
def turncocklaw4_weight.f (k : Nat) (l0 : List (List Int)) : Option (Int) := turncocklaw4_weight.l0 k l0 (l0.length : Int) 0
theorem turncocklaw4_weight.mono_l : ∀ k, (∀ y0 y1 y2, LeO (turncocklaw4_weight.l0 k y0 y1 y2) (turncocklaw4_weight.l0 (k + 1) y0 y1 y2))
  | 0 => fun _ _ _ r h => by simp [turncocklaw4_weight.l0] at h
  | k + 1 => by
    have ih0 := turncocklaw4_weight.mono_l k
    · intro y0 y1 y2
      unfold turncocklaw4_weight.l0
      repeat' first
      | (with_reducible exact ih0 _ _ _)
      | (with_reducible exact LeO.refl _)
      | (with_reducible exact LeO.none _)
      | (with_reducible refine LeO.ite ?_ ?_)
      | (with_reducible refine LeO.bind ?_ (fun _ => ?_))
      | exact ih0 _ _ _
      | exact LeO.none _
      | refine LeO.ite ?_ ?_
      | refine LeO.bind ?_ (fun _ => ?_)
theorem turncocklaw4_weight.mono : ∀ a0 k, LeO (turncocklaw4_weight.f k a0) (turncocklaw4_weight.f (k + 1) a0) := by
  intro a0 k
  have ih0 := turncocklaw4_weight.mono_l k
  unfold turncocklaw4_weight.f
  repeat' first
      | (with_reducible exact ih0 _ _ _)
      | (with_reducible exact LeO.refl _)
      | (with_reducible exact LeO.none _)
      | (with_reducible refine LeO.ite ?_ ?_)
      | (with_reducible refine LeO.bind ?_ (fun _ => ?_))
      | exact ih0 _ _ _
      | exact LeO.none _
      | refine LeO.ite ?_ ?_
      | refine LeO.bind ?_ (fun _ => ?_)
set_option maxHeartbeats 8000000 in
set_option maxRecDepth 100000 in
theorem turncocklaw4_weight.calls (k : Nat) (A0 : Option Addr) (c0 : Nat) (l0 : List (List Int)) (r : Int) (w : World) (hr0 : Kd.C (Kd.slice 5 (Kd.int .u8)) w A0 l0.length l0) (hc0 : l0.length ≤ c0) (h : turncocklaw4_weight.f k l0 = some r) :
    Calls Try.prog 42 #[.slice A0 l0.length c0] w fun e w' => e = .returned (.int .i64 r) ∧ Below w.heap.size w w' := by
  have HR0 := Aside0.mk hr0
  have HC0 := Aside0.mk hc0
  clear hr0 hc0
  have HB := Aside0.mk (Below.refl w.heap.size w)
  have H : (turncocklaw4_weight.l0 k l0 (l0.length : Int) 0) = some r := h
  clear h
  have H' := Aside0.mk H
  clear H
  go_enter Try.func42, Try.ntmps42
  go_wp2
  go_loopg [3, 4] k (fun kq v3 v4 w' => ∃ (x3_1 : Int) (x4_1 : Int), v3 = .int .i64 x3_1 ∧ v4 = .int .i64 x4_1 ∧ Aside0 (turncocklaw4_weight.l0 kq l0 x3_1 x4_1 = some r) ∧ Aside0 (kq ≤ k) ∧ Aside0 (Below w.heap.size w w'))
  case atStart => exact ⟨((l0.length : Int)), (0), (by first | rfl | (simp; done) | (simp [*]; done)), (by first | rfl | (simp; done) | (simp [*]; done)), H', ⟨Nat.le_refl _⟩, ⟨by repeat (first | (with_reducible first | exact HB.out | apply below_alloc | apply pw_below_drewN | apply below_drew1) | exact HB.out)⟩⟩
  case round =>
    clear H'
    obtain ⟨x3_1, x4_1, rfl, rfl, HA, HK1, HB⟩ := hrel
    cases gk with
    | zero => exact absurd HA.out (by simp [turncocklaw4_weight.l0])
    | succ k1 =>
      have H := HA.out
      clear HA
      simp only [turncocklaw4_weight.l0] at H
      by_cases c2 : x4_1 < (l0.length : Int)
      · rw [if_pos c2] at H
        have c2b0 : decide (x4_1 < (l0.length : Int)) = true := decide_eq_true c2
        clear c2
        by_cases c3 : x3_1 ≤ 5000
        · rw [if_pos c3] at H
          have c3b0 : decide (x3_1 ≤ 5000) = true := decide_eq_true c3
          clear c3
          by_cases c4 : 0 ≤ x4_1
          · rw [if_pos c4] at H
            have c4b0 : decide (0 ≤ x4_1) = true := decide_eq_true c4
            clear c4
            obtain ⟨ji5, hji5⟩ : ∃ j_ : Int, (mn ((rd_L1 l0 x4_1).length : Int) 5001) = j_ := ⟨_, rfl⟩
            replace H : (turncocklaw4_weight.l0 k1 l0 (wrap64 (x3_1 + (ji5))) (wrap64 (x4_1 + 1))) = some r := by first | (rw [hji5] at H; exact H) | (simp only [hji5] at H ⊢; exact H)
            have hji5_ : (if 5001 < ((rd_L1 l0 x4_1).length : Int) then 5001 else ((rd_L1 l0 x4_1).length : Int)) = ji5 := hji5
            have H' := Aside0.mk H
            clear H
            have p292 : 0 ≤ (x4_1 : Int) := of_decide_eq_true (by first | (with_reducible assumption) | assumption)
            have q292 : x4_1 < (l0.length : Int) := of_decide_eq_true (by first | (with_reducible assumption) | assumption)
            obtain ⟨ad292, A292_0, c292_0, e292, hx292_0, hl292_0, hi292_0⟩ := at_L1 HR0.out x4_1 p292 q292
            cases e292
            replace hx292_0 := (HB.out.cell (World.block_lt_of_cell? w _ hx292_0)).trans hx292_0
            have HR292_0 := Aside0.mk hi292_0
            have HC292_0 := Aside0.mk hl292_0
            clear hi292_0 hl292_0
            replace p292 := eq_true p292
            replace q292 := eq_true q292
            go_wp2
            go_roundg k1
            case measure => have := HK1.out; omega
            case rel => exact ⟨(wrap64 (x3_1 + (ji5))), (wrap64 (x4_1 + 1)), (by first | rfl | (simp; done) | (simp only [← hji5] <;> (first | rfl | simp)) | (simp [*]; done)), (by first | rfl | (simp; done) | (simp [*]; done)), H', ⟨by have := HK1.out; omega⟩, ⟨by repeat (first | (with_reducible first | exact HB.out | apply below_alloc | apply pw_below_drewN | apply below_drew1) | exact HB.out)⟩⟩
          · rw [if_neg c4] at H
            exact absurd H (by simp)
        · rw [if_neg c3] at H
          have c3b0 : decide (x3_1 ≤ 5000) = false := decide_eq_false c3
          clear c3
          obtain rfl := Option.some.inj H
          go_wp2
          go_ret
          exact ⟨by first | rfl | (simp [errW_none, errW_some] <;> rfl) | (simp [*, errW_none, errW_some] <;> rfl), by repeat (first | (with_reducible first | exact HB.out | apply below_alloc | apply pw_below_drewN | apply below_drew1) | exact HB.out)⟩
      · rw [if_neg c2] at H
        have c2b0 : decide (x4_1 < (l0.length : Int)) = false := decide_eq_false c2
        clear c2
        obtain rfl := Option.some.inj H
        go_wp2
        go_ret
        exact ⟨by first | rfl | (simp [errW_none, errW_some] <;> rfl) | (simp [*, errW_none, errW_some] <;> rfl), by repeat (first | (with_reducible first | exact HB.out | apply below_alloc | apply pw_below_drewN | apply below_drew1) | exact HB.out)⟩

/-- A state of type 118 at block g of W; what its slices lead to came in by w0. -/
def IsS118 (w0 W : World) (g : Nat) (f0 : Int) (f1 : List Int) (f2 : Bool) : Prop := ∃ A1 c1, W.heap[g]? = some (.cells #[.int .i64 f0, .slice A1 f1.length c1, .bool f2] 118 (0, 0)) ∧ w0.heap.size ≤ g ∧ Kd.C (Kd.int .u8) w0 A1 f1.length f1
theorem IsS118.grown {w0 W : World} {g : Nat} {f0 : Int} {f1 : List Int} {f2 : Bool} {W1 : World} {row : Option Nat} (h : IsS118 w0 W g f0 f1 f2) (hw : W.grownBy W1 row) (hne : some g ≠ row) : IsS118 w0 W1 g f0 f1 f2 := by
  obtain ⟨A1, c1, hb, hg, hr1⟩ := h
  exact ⟨A1, c1, blk_grown hb hw hne, hg, hr1⟩
theorem IsS118.own_neN {w0 W : World} {g : Nat} {f0 : Int} {f1 : List Int} {f2 : Bool} {α : Type} {d : Kd α} {e : Nat} {base : Nat} {ok : Nat → Prop} {v : Value} {xs : List α} (h : IsS118 w0 W g f0 f1 f2) (ho : Kd.N d e W base ok v xs) (ht : e ≠ 118) : some g ≠ v.ownBlock := by
  obtain ⟨A1, c1, hb, hg, hr1⟩ := h
  exact Kd.N_ne ho hb ht
theorem IsS118.fresh {w0 W : World} {g : Nat} {f0 : Int} {f1 : List Int} {f2 : Bool} (h : IsS118 w0 W g f0 f1 f2) : ∀ k, W.heap.size ≤ k → k ≠ g := by
  obtain ⟨A1, c1, hb, hg, hr1⟩ := h
  exact Kd.freshB hb
theorem IsS118.kept {w0 W : World} {g : Nat} {f0 : Int} {f1 : List Int} {f2 : Bool} {W1 : World} {S : Nat → Prop} (h : IsS118 w0 W g f0 f1 f2) (hk : Kept W W1 S) (hne : ¬ S g) : IsS118 w0 W1 g f0 f1 f2 := by
  obtain ⟨A1, c1, hb, hg, hr1⟩ := h
  exact ⟨A1, c1, blk_kept hb hk hne, hg, hr1⟩
theorem IsS118.below {w0 W : World} {g : Nat} {f0 : Int} {f1 : List Int} {f2 : Bool} {W1 : World} (h : IsS118 w0 W g f0 f1 f2) (hw : Below W.heap.size W W1) : IsS118 w0 W1 g f0 f1 f2 := h.grown (grown_of_below hw none) (by simp)
theorem IsS118.alloc {w0 W : World} {g : Nat} {f0 : Int} {f1 : List Int} {f2 : Bool} (h : IsS118 w0 W g f0 f1 f2) (o : Obj) : IsS118 w0 (W.alloc o) g f0 f1 f2 := h.below (below_alloc (Below.refl _ _) o)
theorem IsS118.drewN {w0 W : World} {g : Nat} {f0 : Int} {f1 : List Int} {f2 : Bool} (h : IsS118 w0 W g f0 f1 f2) (m : Nat) : IsS118 w0 (W.drewN m) g f0 f1 f2 := h
theorem IsS118.drew {w0 W : World} {g : Nat} {f0 : Int} {f1 : List Int} {f2 : Bool} (h : IsS118 w0 W g f0 f1 f2) : IsS118 w0 W.drew g f0 f1 f2 := h
theorem IsS118.at_ {w0 W : World} {g : Nat} {f0 : Int} {f1 : List Int} {f2 : Bool} {w' : World} {m : Nat} (hq : W.drewN m = w') (h : IsS118 w0 W g f0 f1 f2) : IsS118 w0 w' g f0 f1 f2 := by subst hq; exact IsS118.drewN h m
theorem IsS118.apart {w0 W : World} {g : Nat} {f0 : Int} {f1 : List Int} {f2 : Bool} {α : Type} {d : Kd α} {e : Nat} {base : Nat} {ok : Nat → Prop} {v : Value} {xs : List α} (h : IsS118 w0 W g f0 f1 f2) (ho : d.R e W base ok v xs) (ht : ∀ q, q ∈ e :: d.E → q ≠ 118) : d.R e W base (fun k => ok k ∧ k ≠ g) v xs := by
  obtain ⟨A1, c1, hb, hg, hr1⟩ := h
  exact Kd.R_types ho hb ht
theorem IsS118.own_ne {w0 W : World} {g : Nat} {f0 : Int} {f1 : List Int} {f2 : Bool} {α : Type} {d : Kd α} {e : Nat} {base : Nat} {ok : Nat → Prop} {v : Value} {xs : List α} (h : IsS118 w0 W g f0 f1 f2) (ho : d.R e W base ok v xs) (ht : e ≠ 118) : some g ≠ v.ownBlock := by
  obtain ⟨A1, c1, hb, hg, hr1⟩ := h
  exact Kd.R_ne ho hb ht
theorem IsS118.apartQ {w0 W : World} {g : Nat} {f0 : Int} {f1 : List Int} {f2 : Bool} {α : Type} {d : Kd α} {e : Nat} {base : Nat} {ok : Nat → Prop} {v : Value} {xs : List α} (h : IsS118 w0 W g f0 f1 f2) (ho : d.Q e W base ok v xs) (ht : ∀ q, q ∈ e :: d.E → q ≠ 118) : d.Q e W base (fun k => ok k ∧ k ≠ g) v xs := by
  obtain ⟨A1, c1, hb, hg, hr1⟩ := h
  exact Kd.Q_types ho hb ht
theorem IsS118.own_neQ {w0 W : World} {g : Nat} {f0 : Int} {f1 : List Int} {f2 : Bool} {α : Type} {d : Kd α} {e : Nat} {base : Nat} {ok : Nat → Prop} {v : Value} {xs : List α} (h : IsS118 w0 W g f0 f1 f2) (ho : d.Q e W base ok v xs) (ht : e ≠ 118) : some g ≠ v.ownBlock := by
  obtain ⟨A1, c1, hb, hg, hr1⟩ := h
  exact Kd.Q_ne ho hb ht
theorem IsS118.apartS {w0 W : World} {g : Nat} {f0 : Int} {f1 : List Int} {f2 : Bool} {α : Type} {d : Kd α} {e : Nat} {base : Nat} {ok : Nat → Prop} {v : Value} {xs : List α} (h : IsS118 w0 W g f0 f1 f2) (ho : d.S e W base ok v xs) (ht : ∀ q, q ∈ e :: d.E → q ≠ 118) : d.S e W base (fun k => ok k ∧ k ≠ g) v xs := by
  obtain ⟨A1, c1, hb, hg, hr1⟩ := h
  exact Kd.S_types ho hb ht
theorem IsS118.own_neS {w0 W : World} {g : Nat} {f0 : Int} {f1 : List Int} {f2 : Bool} {α : Type} {d : Kd α} {e : Nat} {base : Nat} {ok : Nat → Prop} {v : Value} {xs : List α} (h : IsS118 w0 W g f0 f1 f2) (ho : d.S e W base ok v xs) (ht : e ≠ 118) : some g ≠ v.ownBlock := by
  obtain ⟨A1, c1, hb, hg, hr1⟩ := h
  exact Kd.S_ne ho hb ht
theorem IsS118.lt {w0 W : World} {g : Nat} {f0 : Int} {f1 : List Int} {f2 : Bool} (h : IsS118 w0 W g f0 f1 f2) : g < W.heap.size := by
  obtain ⟨A1, c1, hb, hg, hr1⟩ := h
  exact blk_lt hb
theorem IsS118.ge {w0 W : World} {g : Nat} {f0 : Int} {f1 : List Int} {f2 : Bool} (h : IsS118 w0 W g f0 f1 f2) : w0.heap.size ≤ g := by
  obtain ⟨A1, c1, hb, hg, hr1⟩ := h
  exact hg
theorem IsS118.ne_blk {w0 W : World} {g : Nat} {f0 : Int} {f1 : List Int} {f2 : Bool} {a : Nat} {cs : Array Value} {t : TypeId} {fr : Nat × Nat} (h : IsS118 w0 W g f0 f1 f2) (hb2 : W.heap[a]? = some (.cells cs t fr)) (ht : t ≠ 118) : g ≠ a := by
  obtain ⟨A1, c1, hb, hg, hr1⟩ := h
  rintro rfl
  rw [hb] at hb2
  injection hb2 with hb2
  injection hb2 with _ ht2
  exact ht ht2.symm
theorem IsS118.far {w0 W : World} {g : Nat} {f0 : Int} {f1 : List Int} {f2 : Bool} {p : Addr} (h : IsS118 w0 W g f0 f1 f2) (hne : g ≠ p.block) (u : Value) : IsS118 w0 (W.setCell p u) g f0 f1 f2 := by
  obtain ⟨A1, c1, hb, hg, hr1⟩ := h
  exact ⟨A1, c1, blk_far hb hne u, hg, hr1⟩
theorem cellS118_0 {W : World} {g : Nat} {A1 : Option Addr} {c1 : Nat} {f0 : Int} {f1 : List Int} {f2 : Bool} (h : W.heap[g]? = some (.cells #[.int .i64 f0, .slice A1 f1.length c1, .bool f2] 118 (0, 0))) : W.cell? ⟨g, 0, none⟩ = some (.int .i64 f0) := (blk_cell h 0).trans rfl
theorem IsS118.set_0 {w0 W : World} {g : Nat} {f0 : Int} {f1 : List Int} {f2 : Bool} (h : IsS118 w0 W g f0 f1 f2) (x : Int) : IsS118 w0 (W.setCell ⟨g, 0, none⟩ (.int .i64 x)) g x f1 f2 := by
  obtain ⟨A1, c1, hb, hg, hr1⟩ := h
  exact ⟨A1, c1, by simpa using blk_set hb 0 (.int .i64 x), hg, hr1⟩
theorem cellS118_1 {W : World} {g : Nat} {A1 : Option Addr} {c1 : Nat} {f0 : Int} {f1 : List Int} {f2 : Bool} (h : W.heap[g]? = some (.cells #[.int .i64 f0, .slice A1 f1.length c1, .bool f2] 118 (0, 0))) : W.cell? ⟨g, 1, none⟩ = some (.slice A1 f1.length c1) := (blk_cell h 1).trans rfl
theorem cellS118_2 {W : World} {g : Nat} {A1 : Option Addr} {c1 : Nat} {f0 : Int} {f1 : List Int} {f2 : Bool} (h : W.heap[g]? = some (.cells #[.int .i64 f0, .slice A1 f1.length c1, .bool f2] 118 (0, 0))) : W.cell? ⟨g, 2, none⟩ = some (.bool f2) := (blk_cell h 2).trans rfl
theorem IsS118.set_2 {w0 W : World} {g : Nat} {f0 : Int} {f1 : List Int} {f2 : Bool} (h : IsS118 w0 W g f0 f1 f2) (x : Bool) : IsS118 w0 (W.setCell ⟨g, 2, none⟩ (.bool x)) g f0 f1 x := by
  obtain ⟨A1, c1, hb, hg, hr1⟩ := h
  exact ⟨A1, c1, by simpa using blk_set hb 2 (.bool x), hg, hr1⟩
theorem IsS118.new (w0 W : World) (A1 : Option Addr) (c1 : Nat) (f0 : Int) (f1 : List Int) (f2 : Bool) (hB : Below w0.heap.size w0 W) (hr1 : Kd.C (Kd.int .u8) w0 A1 f1.length f1) : IsS118 w0 (W.alloc (.cells #[.int .i64 f0, .slice A1 f1.length c1, .bool f2] 118)) W.heap.size f0 f1 f2 := ⟨A1, c1, by simpa using heap_alloc_new W _, hB.size, hr1⟩

/-! ### reasm_New: function 44 -/
def reasm_New.f (a0 : Int) : Option (Int × List Int × Bool) := some (a0, ([] : List Int), false)
set_option maxHeartbeats 8000000 in
set_option maxRecDepth 100000 in
theorem reasm_New.calls (a0 : Int) (r1 : Int) (r2 : List Int) (r3 : Bool) (w0 w : World) (hB : Below w0.heap.size w0 w) (h : reasm_New.f a0 = some (r1, r2, r3)) :
    Calls Try.prog 44 #[.int .i64 a0] w fun e w' => ∃ g_ : Nat, e = .returned (.pointer (some ⟨g_, 0, none⟩)) ∧ IsS118 w0 w' g_ r1 r2 r3 ∧ Below w0.heap.size w0 w' ∧ Below w.heap.size w w' := by
  have hu118 := Try.underlying118
  have HBW := Aside0.mk (Below.refl w.heap.size w)
  have HW0 := Aside0.mk hB.size
  have HB := Aside0.mk hB
  clear hB
  have H : (some (a0, ([] : List Int), false)) = some (r1, r2, r3) := h
  clear h
  simp only [Option.some.injEq, Prod.mk.injEq] at H
  obtain ⟨rfl, rfl, rfl⟩ := H
  go_enter Try.func44, Try.ntmps44
  go_wp2_with (first | ((with_reducible refine gate_dst (N := 5) rfl ?_); refine box_event ?hg (N := 5) ?hd (cs := #[.int .i64 a0, .slice none 0 0, .bool false]) (t := 118) ?hr ?_; (case hd => rfl); (case hg => rfl); (case hr => first | (go_simp; done) | (go_simp; rfl)); intro gb293 hg w2 hbox hb; have n0_ := Aside0.mk (below_step HBW.out hb); have n1_ := Aside0.mk (below_step (by repeat (first | (with_reducible first | exact HB.out | apply below_alloc | apply pw_below_drewN | apply below_drew1) | exact HB.out)) hb); have n2_ := Aside0.mk (hbox); have n3_ := Aside0.mk ((by rw [hg]; exact (below_size (by repeat (first | (with_reducible first | exact HBW.out | apply below_alloc | apply pw_below_drewN | apply below_drew1) | exact HBW.out))) : w.heap.size ≤ gb293)); have n4_ := Aside0.mk ((Nat.le_trans HW0.out (by rw [hg]; exact (below_size (by repeat (first | (with_reducible first | exact HBW.out | apply below_alloc | apply pw_below_drewN | apply below_drew1) | exact HBW.out))) : w.heap.size ≤ gb293) : w0.heap.size ≤ gb293)); clear HBW; clear HB; have HBW := n0_; have HB := n1_; have BK293 := n2_; have GW293 := n3_; have GE293 := n4_; clear n0_ n1_ n2_ n3_ n4_; clear hb hbox hg))
  go_ret
  exact ⟨_, rfl, (show IsS118 w0 _ gb293 a0 ([] : List Int) false from ⟨none, 0, by (with_reducible repeat (first | refine blk_drewN ?_ _ | refine blk_drew ?_ | refine blk_alloc ?_ _)); exact BK293.out, GE293.out, (Kd.C_nil _ _)⟩), by repeat (first | (with_reducible first | exact HB.out | apply below_alloc | apply pw_below_drewN | apply below_drew1 | refine below_set ?_ GE293.out) | exact HB.out), by repeat (first | (with_reducible first | exact HBW.out | apply below_alloc | apply pw_below_drewN | apply below_drew1 | refine below_set ?_ GW293.out) | exact HBW.out)⟩

/-! ### turncocklaw32_light: function 50 -/
def turncocklaw32_light.l0 : Nat → List (S67) → Int → Int → Option (Bool)
  | 0, _, _, _ => none
  | k + 1, x0, x3, x4 => if x4 < (x0.length : Int) then (if x3 ≤ 5000 then (if 0 ≤ x4 then (turncocklaw32_light.l0 k x0 (wrap64 (x3 + (mn (((rd_T67 x0 x4).f2).length : Int) 5001))) (wrap64 (x4 + 1))) else (none)) else (some (decide (x3 ≤ 5000)))) else (some (decide (x3 ≤ 5000)))
def turncocklaw32_light.f (k : Nat) (l0 : List (S67)) : Option (Bool) := turncocklaw32_light.l0 k l0 (l0.length : Int) 0
theorem turncocklaw32_light.mono_l : ∀ k, (∀ y0 y1 y2, LeO (turncocklaw32_light.l0 k y0 y1 y2) (turncocklaw32_light.l0 (k + 1) y0 y1 y2))
  | 0 => fun _ _ _ r h => by simp [turncocklaw32_light.l0] at h
  | k + 1 => by
    have ih0 := turncocklaw32_light.mono_l k
    · intro y0 y1 y2
      unfold turncocklaw32_light.l0
      repeat' first
      | (with_reducible exact ih0 _ _ _)
      | (with_reducible exact LeO.refl _)
      | (with_reducible exact LeO.none _)
      | (with_reducible refine LeO.ite ?_ ?_)
      | (with_reducible refine LeO.bind ?_ (fun _ => ?_))
      | exact ih0 _ _ _
      | exact LeO.none _
      | refine LeO.ite ?_ ?_
      | refine LeO.bind ?_ (fun _ => ?_)
theorem turncocklaw32_light.mono : ∀ a0 k, LeO (turncocklaw32_light.f k a0) (turncocklaw32_light.f (k + 1) a0) := by
  intro a0 k
  have ih0 := turncocklaw32_light.mono_l k
  unfold turncocklaw32_light.f
  repeat' first
      | (with_reducible exact ih0 _ _ _)
      | (with_reducible exact LeO.refl _)
      | (with_reducible exact LeO.none _)
      | (with_reducible refine LeO.ite ?_ ?_)
      | (with_reducible refine LeO.bind ?_ (fun _ => ?_))
      | exact ih0 _ _ _
      | exact LeO.none _
      | refine LeO.ite ?_ ?_
      | refine LeO.bind ?_ (fun _ => ?_)
set_option maxHeartbeats 8000000 in
set_option maxRecDepth 100000 in
theorem turncocklaw32_light.calls (k : Nat) (A0 : Option Addr) (c0 : Nat) (l0 : List (S67)) (r : Bool) (w : World) (hr0 : Kd.C k67 w A0 l0.length l0) (hc0 : l0.length ≤ c0) (h : turncocklaw32_light.f k l0 = some r) :
    Calls Try.prog 50 #[.slice A0 l0.length c0] w fun e w' => e = .returned (.bool r) ∧ Below w.heap.size w w' := by
  have HR0 := Aside0.mk hr0
  have HC0 := Aside0.mk hc0
  clear hr0 hc0
  have HB := Aside0.mk (Below.refl w.heap.size w)
  have H : (turncocklaw32_light.l0 k l0 (l0.length : Int) 0) = some r := h
  clear h
  have H' := Aside0.mk H
  clear H
  go_enter Try.func50, Try.ntmps50
  go_wp2
  go_loopg [3, 4] k (fun kq v3 v4 w' => ∃ (x3_1 : Int) (x4_1 : Int), v3 = .int .i64 x3_1 ∧ v4 = .int .i64 x4_1 ∧ Aside0 (turncocklaw32_light.l0 kq l0 x3_1 x4_1 = some r) ∧ Aside0 (kq ≤ k) ∧ Aside0 (Below w.heap.size w w'))
  case atStart => exact ⟨((l0.length : Int)), (0), (by first | rfl | (simp; done) | (simp [*]; done)), (by first | rfl | (simp; done) | (simp [*]; done)), H', ⟨Nat.le_refl _⟩, ⟨by repeat (first | (with_reducible first | exact HB.out | apply below_alloc | apply pw_below_drewN | apply below_drew1) | exact HB.out)⟩⟩
  case round =>
    clear H'
    obtain ⟨x3_1, x4_1, rfl, rfl, HA, HK1, HB⟩ := hrel
    cases gk with
    | zero => exact absurd HA.out (by simp [turncocklaw32_light.l0])
    | succ k1 =>
      have H := HA.out
      clear HA
      simp only [turncocklaw32_light.l0] at H
      by_cases c2 : x4_1 < (l0.length : Int)
      · rw [if_pos c2] at H
        have c2b0 : decide (x4_1 < (l0.length : Int)) = true := decide_eq_true c2
        clear c2
        by_cases c3 : x3_1 ≤ 5000
        · rw [if_pos c3] at H
          have c3b0 : decide (x3_1 ≤ 5000) = true := decide_eq_true c3
          clear c3
          by_cases c4 : 0 ≤ x4_1
          · rw [if_pos c4] at H
            have c4b0 : decide (0 ≤ x4_1) = true := decide_eq_true c4
            clear c4
            obtain ⟨ji5, hji5⟩ : ∃ j_ : Int, (mn (((rd_T67 l0 x4_1).f2).length : Int) 5001) = j_ := ⟨_, rfl⟩
            replace H : (turncocklaw32_light.l0 k1 l0 (wrap64 (x3_1 + (ji5))) (wrap64 (x4_1 + 1))) = some r := by first | (rw [hji5] at H; exact H) | (simp only [hji5] at H ⊢; exact H)
            have hji5_ : (if 5001 < (((rd_T67 l0 x4_1).f2).length : Int) then 5001 else (((rd_T67 l0 x4_1).f2).length : Int)) = ji5 := hji5
            have H' := Aside0.mk H
            clear H
            have p307 : 0 ≤ (x4_1 : Int) := of_decide_eq_true (by first | (with_reducible assumption) | assumption)
            have q307 : x4_1 < (l0.length : Int) := of_decide_eq_true (by first | (with_reducible assumption) | assumption)
            obtain ⟨ad307, A307_2, c307_2, e307, hx307_0, hx307_1, hx307_2, hl307_2, hi307_2⟩ := at_T67 HR0.out x4_1 p307 q307
            cases e307
            replace hx307_0 := (HB.out.cell (World.block_lt_of_cell? w _ hx307_0)).trans hx307_0
            replace hx307_1 := (HB.out.cell (World.block_lt_of_cell? w _ hx307_1)).trans hx307_1
            replace hx307_2 := (HB.out.cell (World.block_lt_of_cell? w _ hx307_2)).trans hx307_2
            have HR307_2 := Aside0.mk hi307_2
            have HC307_2 := Aside0.mk hl307_2
            clear hi307_2 hl307_2
            replace p307 := eq_true p307
            replace q307 := eq_true q307
            go_wp2
            go_roundg k1
            case measure => have := HK1.out; omega
            case rel => exact ⟨(wrap64 (x3_1 + (ji5))), (wrap64 (x4_1 + 1)), (by first | rfl | (simp; done) | (simp only [← hji5] <;> (first | rfl | simp)) | (simp [*]; done)), (by first | rfl | (simp; done) | (simp [*]; done)), H', ⟨by have := HK1.out; omega⟩, ⟨by repeat (first | (with_reducible first | exact HB.out | apply below_alloc | apply pw_below_drewN | apply below_drew1) | exact HB.out)⟩⟩
          · rw [if_neg c4] at H
            exact absurd H (by simp)
        · rw [if_neg c3] at H
          have c3b0 : decide (x3_1 ≤ 5000) = false := decide_eq_false c3
          clear c3
          obtain rfl := Option.some.inj H
          go_wp2
          go_ret
          exact ⟨by first | rfl | (simp [errW_none, errW_some] <;> rfl) | (simp [*, errW_none, errW_some] <;> rfl), by repeat (first | (with_reducible first | exact HB.out | apply below_alloc | apply pw_below_drewN | apply below_drew1) | exact HB.out)⟩
      · rw [if_neg c2] at H
        have c2b0 : decide (x4_1 < (l0.length : Int)) = false := decide_eq_false c2
        clear c2
        obtain rfl := Option.some.inj H
        go_wp2
        go_ret
        exact ⟨by first | rfl | (simp [errW_none, errW_some] <;> rfl) | (simp [*, errW_none, errW_some] <;> rfl), by repeat (first | (with_reducible first | exact HB.out | apply below_alloc | apply pw_below_drewN | apply below_drew1) | exact HB.out)⟩

/-! ### turncockref1_Ints: function 62 -/
def turncockref1_Ints.l0 : Nat → List Int → List Int → Int → Option (Bool)
  | 0, _, _, _ => none
  | k + 1, x0, x1, x5 => if x5 < (x0.length : Int) then (if 0 ≤ x5 then (if x5 < (x1.length : Int) then (if (rd x0 x5) = (rd x1 x5) then (turncockref1_Ints.l0 k x0 x1 (wrap64 (x5 + 1))) else (some false)) else (none)) else (none)) else (some true)
def turncockref1_Ints.f (k : Nat) (l0 : List Int) (l1 : List Int) : Option (Bool) := if (l0.length : Int) = (l1.length : Int) then (turncockref1_Ints.l0 k l0 l1 0) else (some false)
theorem turncockref1_Ints.mono_l : ∀ k, (∀ y0 y1 y2, LeO (turncockref1_Ints.l0 k y0 y1 y2) (turncockref1_Ints.l0 (k + 1) y0 y1 y2))
  | 0 => fun _ _ _ r h => by simp [turncockref1_Ints.l0] at h
  | k + 1 => by
    have ih0 := turncockref1_Ints.mono_l k
    · intro y0 y1 y2
      unfold turncockref1_Ints.l0
      repeat' first
      | (with_reducible exact ih0 _ _ _)
      | (with_reducible exact LeO.refl _)
      | (with_reducible exact LeO.none _)
      | (with_reducible refine LeO.ite ?_ ?_)
      | (with_reducible refine LeO.bind ?_ (fun _ => ?_))
      | exact ih0 _ _ _
      | exact LeO.none _
      | refine LeO.ite ?_ ?_
      | refine LeO.bind ?_ (fun _ => ?_)
theorem turncockref1_Ints.mono : ∀ a0 a1 k, LeO (turncockref1_Ints.f k a0 a1) (turncockref1_Ints.f (k + 1) a0 a1) := by
  intro a0 a1 k
  have ih0 := turncockref1_Ints.mono_l k
  unfold turncockref1_Ints.f
  repeat' first
      | (with_reducible exact ih0 _ _ _)
      | (with_reducible exact LeO.refl _)
      | (with_reducible exact LeO.none _)
      | (with_reducible refine LeO.ite ?_ ?_)
      | (with_reducible refine LeO.bind ?_ (fun _ => ?_))
      | exact ih0 _ _ _
      | exact LeO.none _
      | refine LeO.ite ?_ ?_
      | refine LeO.bind ?_ (fun _ => ?_)
set_option maxHeartbeats 8000000 in
set_option maxRecDepth 100000 in
theorem turncockref1_Ints.calls (k : Nat) (A0 : Option Addr) (c0 : Nat) (l0 : List Int) (A1 : Option Addr) (c1 : Nat) (l1 : List Int) (r : Bool) (w : World) (hr0 : Kd.C (Kd.int .i64) w A0 l0.length l0) (hc0 : l0.length ≤ c0) (hr1 : Kd.C (Kd.int .i64) w A1 l1.length l1) (hc1 : l1.length ≤ c1) (h : turncockref1_Ints.f k l0 l1 = some r) :
    Calls Try.prog 62 #[.slice A0 l0.length c0, .slice A1 l1.length c1] w fun e w' => e = .returned (.bool r) ∧ Drawn0 w w' := by
  have HR0 := Aside0.mk hr0
  have HC0 := Aside0.mk hc0
  clear hr0 hc0
  have HR1 := Aside0.mk hr1
  have HC1 := Aside0.mk hc1
  clear hr1 hc1
  have H : (if (l0.length : Int) = (l1.length : Int) then (turncockref1_Ints.l0 k l0 l1 0) else (some false)) = some r := h
  clear h
  by_cases c3 : (l0.length : Int) = (l1.length : Int)
  · rw [if_pos c3] at H
    have c3b0 : ((l0.length : Int) == (l1.length : Int)) = true := beq_iff_eq.mpr c3
    have c3b1 : ((l0.length : Int) != (l1.length : Int)) = false := bne_eq_false_iff_eq.mpr c3
    have c3b2 : (l0.length == l1.length) = true := by first | simpa using c3 | (simp at c3 ⊢; omega)
    clear c3
    have H' := Aside0.mk H
    clear H
    go_enter Try.func62, Try.ntmps62
    go_wp2
    repeat (go_quiet (fail); try go_wp2)
    go_loopg [5] k (fun kq v5 w' => ∃ (x5_1 : Int), v5 = .int .i64 x5_1 ∧ Aside0 (turncockref1_Ints.l0 kq l0 l1 x5_1 = some r) ∧ Aside0 (kq ≤ k) ∧ Drawn0 w w')
    case atStart => exact ⟨(0), (by first | rfl | (simp; done) | (simp [*]; done)), H', ⟨Nat.le_refl _⟩, by repeat (first | exact Drawn0.refl _ | apply Drawn0.step)⟩
    case round =>
      clear H'
      try clear c1
      try clear p2
      try clear c3
      try clear c3b0
      try clear c3b1
      try clear c3b2
      obtain ⟨x5_1, rfl, HA, HK1, ⟨m1, rfl⟩⟩ := hrel
      cases gk with
      | zero => exact absurd HA.out (by simp [turncockref1_Ints.l0])
      | succ k1 =>
        have H := HA.out
        clear HA
        simp only [turncockref1_Ints.l0] at H
        by_cases c4 : x5_1 < (l0.length : Int)
        · rw [if_pos c4] at H
          have c4b0 : decide (x5_1 < (l0.length : Int)) = true := decide_eq_true c4
          clear c4
          by_cases c5 : 0 ≤ x5_1
          · rw [if_pos c5] at H
            have c5b0 : decide (0 ≤ x5_1) = true := decide_eq_true c5
            clear c5
            by_cases c6 : x5_1 < (l1.length : Int)
            · rw [if_pos c6] at H
              have c6b0 : decide (x5_1 < (l1.length : Int)) = true := decide_eq_true c6
              clear c6
              by_cases c7 : (rd l0 x5_1) = (rd l1 x5_1)
              · rw [if_pos c7] at H
                have c7b0 : ((rd l0 x5_1) == (rd l1 x5_1)) = true := beq_iff_eq.mpr c7
                have c7b1 : ((rd l0 x5_1) != (rd l1 x5_1)) = false := bne_eq_false_iff_eq.mpr c7
                clear c7
                have H' := Aside0.mk H
                clear H
                have p308 : 0 ≤ (x5_1 : Int) := of_decide_eq_true (by first | (with_reducible assumption) | assumption)
                have q308 : x5_1 < (l0.length : Int) := of_decide_eq_true (by first | (with_reducible assumption) | assumption)
                obtain ⟨ad308, e308, hx308_0⟩ := Kd.at_int HR0.out x5_1 p308 q308
                cases e308
                replace p308 := eq_true p308
                replace q308 := eq_true q308
                have p309 : 0 ≤ (x5_1 : Int) := of_decide_eq_true (by first | (with_reducible assumption) | assumption)
                have q309 : x5_1 < (l1.length : Int) := of_decide_eq_true (by first | (with_reducible assumption) | assumption)
                obtain ⟨ad309, e309, hx309_0⟩ := Kd.at_int HR1.out x5_1 p309 q309
                cases e309
                replace p309 := eq_true p309
                replace q309 := eq_true q309
                go_wp2
                repeat (go_quiet (fail); try go_wp2)
                go_roundg k1
                case measure => have := HK1.out; omega
                case rel => exact ⟨(wrap64 (x5_1 + 1)), (by first | rfl | (simp; done) | (simp [*]; done)), H', ⟨by have := HK1.out; omega⟩, by repeat (first | exact Drawn0.refl _ | apply Drawn0.step)⟩
              · rw [if_neg c7] at H
                have c7b0 : ((rd l0 x5_1) == (rd l1 x5_1)) = false := beq_eq_false_iff_ne.mpr c7
                have c7b1 : ((rd l0 x5_1) != (rd l1 x5_1)) = true := bne_iff_ne.mpr c7
                obtain rfl := Option.some.inj H
                have p308 : 0 ≤ (x5_1 : Int) := of_decide_eq_true (by first | (with_reducible assumption) | assumption)
                have q308 : x5_1 < (l0.length : Int) := of_decide_eq_true (by first | (with_reducible assumption) | assumption)
                obtain ⟨ad308, e308, hx308_0⟩ := Kd.at_int HR0.out x5_1 p308 q308
                cases e308
                replace p308 := eq_true p308
                replace q308 := eq_true q308
                have p309 : 0 ≤ (x5_1 : Int) := of_decide_eq_true (by first | (with_reducible assumption) | assumption)
                have q309 : x5_1 < (l1.length : Int) := of_decide_eq_true (by first | (with_reducible assumption) | assumption)
                obtain ⟨ad309, e309, hx309_0⟩ := Kd.at_int HR1.out x5_1 p309 q309
                cases e309
                replace p309 := eq_true p309
                replace q309 := eq_true q309
                go_wp2
                repeat (go_quiet (fail); try go_wp2)
                go_ret
                exact ⟨by first | rfl | (simp; done) | (simp [*]; done), by repeat (first | exact Drawn0.refl _ | apply Drawn0.step)⟩
            · rw [if_neg c6] at H
              exact absurd H (by simp)
          · rw [if_neg c5] at H
            exact absurd H (by simp)
        · rw [if_neg c4] at H
          have c4b0 : decide (x5_1 < (l0.length : Int)) = false := decide_eq_false c4
          clear c4
          obtain rfl := Option.some.inj H
          go_wp2
          repeat (go_quiet (fail); try go_wp2)
          go_ret
          exact ⟨by first | rfl | (simp; done) | (simp [*]; done), by repeat (first | exact Drawn0.refl _ | apply Drawn0.step)⟩
  · rw [if_neg c3] at H
    have c3b0 : ((l0.length : Int) == (l1.length : Int)) = false := beq_eq_false_iff_ne.mpr c3
    have c3b1 : ((l0.length : Int) != (l1.length : Int)) = true := bne_iff_ne.mpr c3
    have c3b2 : (l0.length == l1.length) = false := by first | simpa using c3 | (simp at c3 ⊢; omega)
    obtain rfl := Option.some.inj H
    go_enter Try.func62, Try.ntmps62
    go_wp2
    repeat (go_quiet (fail); try go_wp2)
    go_ret
    exact ⟨by first | rfl | (simp; done) | (simp [*]; done), by repeat (first | exact Drawn0.refl _ | apply Drawn0.step)⟩

end Go.Proofs.Ytnhblhhkjnmkkaa.Q
