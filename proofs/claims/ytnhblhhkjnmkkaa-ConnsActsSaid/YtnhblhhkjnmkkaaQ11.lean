/- Printed by this session's own program out of the translation: each function as a plain Lean function, and its contract. -/
import Derived.Test.YtnhblhhkjnmkkaaQ0
import Derived.Test.YtnhblhhkjnmkkaaQ8
namespace Go.Proofs.Ytnhblhhkjnmkkaa.Q
open Go.RowKit Go.Proofs.YtnhblhhkjnmkkaaW.PrintWords Go.Proofs.YtnhblhhkjnmkkaaW.PrintLast Go.Proofs.YtnhblhhkjnmkkaaW.PrintMore
attribute [local go_sem] max2_int min2_int max_two min_two max_three min_three max_four min_four   -- for this text's walks alone
set_option linter.unusedVariables false
set_option linter.unusedSimpArgs false

/-! ### turncocklaw2_VarintOrder: function 6 -/
def turncocklaw2_VarintOrder.f (k : Nat) (a0 : Int) (a1 : Int) : Option (Bool) := (varint_Len.f k (mx a0 a1)).bind fun t179 => ((varint_Len.f k (mn a0 a1)).bind fun t180 => (if t180 ≤ t179 then (if t179 ≥ 1 then (if t179 ≤ 10 then (if t179 = 1 then (if t179 = 10 then ((turncocklaw2_awake.f k).bind fun t181 => (some t181)) else (if 0 ≤ (IntKind.u64.wrap (7 * (IntKind.u64.wrap (t179)))) then (if (shr .u64 (mx a0 a1) (IntKind.u64.wrap (7 * (IntKind.u64.wrap (t179))))) = 0 then ((turncocklaw2_awake.f k).bind fun t182 => (some t182)) else (some false)) else (none))) else (if 0 ≤ (IntKind.u64.wrap (7 * (IntKind.u64.wrap (wrap64 (t179 - 1))))) then (if (shr .u64 (mx a0 a1) (IntKind.u64.wrap (7 * (IntKind.u64.wrap (wrap64 (t179 - 1)))))) > 0 then (if t179 = 10 then ((turncocklaw2_awake.f k).bind fun t183 => (some t183)) else (if 0 ≤ (IntKind.u64.wrap (7 * (IntKind.u64.wrap (t179)))) then (if (shr .u64 (mx a0 a1) (IntKind.u64.wrap (7 * (IntKind.u64.wrap (t179))))) = 0 then ((turncocklaw2_awake.f k).bind fun t184 => (some t184)) else (some false)) else (none))) else (some false)) else (none))) else (some false)) else (some false)) else (some false)))
theorem turncocklaw2_VarintOrder.mono : ∀ a0 a1 k, LeO (turncocklaw2_VarintOrder.f k a0 a1) (turncocklaw2_VarintOrder.f (k + 1) a0 a1) := by
  intro a0 a1 k
  unfold turncocklaw2_VarintOrder.f
  repeat' first
      | (with_reducible exact turncocklaw2_awake.mono _)
      | (with_reducible exact varint_Len.mono _ _)
      | (with_reducible exact LeO.refl _)
      | (with_reducible exact LeO.none _)
      | (with_reducible refine LeO.ite ?_ ?_)
      | (with_reducible refine LeO.bind ?_ (fun _ => ?_))
      | exact turncocklaw2_awake.mono _
      | exact varint_Len.mono _ _
      | exact LeO.none _
      | refine LeO.ite ?_ ?_
      | refine LeO.bind ?_ (fun _ => ?_)
set_option maxHeartbeats 8000000 in
set_option maxRecDepth 100000 in
theorem turncocklaw2_VarintOrder.calls (k : Nat) (a0 : Int) (a1 : Int) (r : Bool) (w : World) (h : turncocklaw2_VarintOrder.f k a0 a1 = some r) :
    Calls Try.prog 6 #[.int .u64 a0, .int .u64 a1] w fun e w' => e = .returned (.bool r) ∧ Below w.heap.size w w' := by
  have HB := Aside0.mk (Below.refl w.heap.size w)
  have H : ((varint_Len.f k (mx a0 a1)).bind fun t179 => ((varint_Len.f k (mn a0 a1)).bind fun t180 => (if t180 ≤ t179 then (if t179 ≥ 1 then (if t179 ≤ 10 then (if t179 = 1 then (if t179 = 10 then ((turncocklaw2_awake.f k).bind fun t181 => (some t181)) else (if 0 ≤ (IntKind.u64.wrap (7 * (IntKind.u64.wrap (t179)))) then (if (shr .u64 (mx a0 a1) (IntKind.u64.wrap (7 * (IntKind.u64.wrap (t179))))) = 0 then ((turncocklaw2_awake.f k).bind fun t182 => (some t182)) else (some false)) else (none))) else (if 0 ≤ (IntKind.u64.wrap (7 * (IntKind.u64.wrap (wrap64 (t179 - 1))))) then (if (shr .u64 (mx a0 a1) (IntKind.u64.wrap (7 * (IntKind.u64.wrap (wrap64 (t179 - 1)))))) > 0 then (if t179 = 10 then ((turncocklaw2_awake.f k).bind fun t183 => (some t183)) else (if 0 ≤ (IntKind.u64.wrap (7 * (IntKind.u64.wrap (t179)))) then (if (shr .u64 (mx a0 a1) (IntKind.u64.wrap (7 * (IntKind.u64.wrap (t179))))) = 0 then ((turncocklaw2_awake.f k).bind fun t184 => (some t184)) else (some false)) else (none))) else (some false)) else (none))) else (some false)) else (some false)) else (some false)))) = some r := h
  clear h
  obtain ⟨ji3, hji3⟩ : ∃ j_ : Int, (mn a0 a1) = j_ := ⟨_, rfl⟩
  replace H : ((varint_Len.f k (mx a0 a1)).bind fun t179 => ((varint_Len.f k (ji3)).bind fun t180 => (if t180 ≤ t179 then (if t179 ≥ 1 then (if t179 ≤ 10 then (if t179 = 1 then (if t179 = 10 then ((turncocklaw2_awake.f k).bind fun t181 => (some t181)) else (if 0 ≤ (IntKind.u64.wrap (7 * (IntKind.u64.wrap (t179)))) then (if (shr .u64 (mx a0 a1) (IntKind.u64.wrap (7 * (IntKind.u64.wrap (t179))))) = 0 then ((turncocklaw2_awake.f k).bind fun t182 => (some t182)) else (some false)) else (none))) else (if 0 ≤ (IntKind.u64.wrap (7 * (IntKind.u64.wrap (wrap64 (t179 - 1))))) then (if (shr .u64 (mx a0 a1) (IntKind.u64.wrap (7 * (IntKind.u64.wrap (wrap64 (t179 - 1)))))) > 0 then (if t179 = 10 then ((turncocklaw2_awake.f k).bind fun t183 => (some t183)) else (if 0 ≤ (IntKind.u64.wrap (7 * (IntKind.u64.wrap (t179)))) then (if (shr .u64 (mx a0 a1) (IntKind.u64.wrap (7 * (IntKind.u64.wrap (t179))))) = 0 then ((turncocklaw2_awake.f k).bind fun t184 => (some t184)) else (some false)) else (none))) else (some false)) else (none))) else (some false)) else (some false)) else (some false)))) = some r := by first | (rw [hji3] at H; exact H) | (simp only [hji3] at H ⊢; exact H)
  have hji3_ : (if a1 < a0 then a1 else a0) = ji3 := hji3
  obtain ⟨ji4, hji4⟩ : ∃ j_ : Int, (mx a0 a1) = j_ := ⟨_, rfl⟩
  replace H : ((varint_Len.f k (ji4)).bind fun t179 => ((varint_Len.f k (ji3)).bind fun t180 => (if t180 ≤ t179 then (if t179 ≥ 1 then (if t179 ≤ 10 then (if t179 = 1 then (if t179 = 10 then ((turncocklaw2_awake.f k).bind fun t181 => (some t181)) else (if 0 ≤ (IntKind.u64.wrap (7 * (IntKind.u64.wrap (t179)))) then (if (shr .u64 (ji4) (IntKind.u64.wrap (7 * (IntKind.u64.wrap (t179))))) = 0 then ((turncocklaw2_awake.f k).bind fun t182 => (some t182)) else (some false)) else (none))) else (if 0 ≤ (IntKind.u64.wrap (7 * (IntKind.u64.wrap (wrap64 (t179 - 1))))) then (if (shr .u64 (ji4) (IntKind.u64.wrap (7 * (IntKind.u64.wrap (wrap64 (t179 - 1)))))) > 0 then (if t179 = 10 then ((turncocklaw2_awake.f k).bind fun t183 => (some t183)) else (if 0 ≤ (IntKind.u64.wrap (7 * (IntKind.u64.wrap (t179)))) then (if (shr .u64 (ji4) (IntKind.u64.wrap (7 * (IntKind.u64.wrap (t179))))) = 0 then ((turncocklaw2_awake.f k).bind fun t184 => (some t184)) else (some false)) else (none))) else (some false)) else (none))) else (some false)) else (some false)) else (some false)))) = some r := by first | (rw [hji4] at H; exact H) | (simp only [hji4] at H ⊢; exact H)
  have hji4_ : (if a0 < a1 then a1 else a0) = ji4 := hji4
  replace H := Option.bind_eq_some_iff.mp H
  obtain ⟨t179, A50, H⟩ := H
  replace H : ((varint_Len.f k (ji3)).bind fun t180 => (if t180 ≤ t179 then (if t179 ≥ 1 then (if t179 ≤ 10 then (if t179 = 1 then (if t179 = 10 then ((turncocklaw2_awake.f k).bind fun t181 => (some t181)) else (if 0 ≤ (IntKind.u64.wrap (7 * (IntKind.u64.wrap (t179)))) then (if (shr .u64 (ji4) (IntKind.u64.wrap (7 * (IntKind.u64.wrap (t179))))) = 0 then ((turncocklaw2_awake.f k).bind fun t182 => (some t182)) else (some false)) else (none))) else (if 0 ≤ (IntKind.u64.wrap (7 * (IntKind.u64.wrap (wrap64 (t179 - 1))))) then (if (shr .u64 (ji4) (IntKind.u64.wrap (7 * (IntKind.u64.wrap (wrap64 (t179 - 1)))))) > 0 then (if t179 = 10 then ((turncocklaw2_awake.f k).bind fun t183 => (some t183)) else (if 0 ≤ (IntKind.u64.wrap (7 * (IntKind.u64.wrap (t179)))) then (if (shr .u64 (ji4) (IntKind.u64.wrap (7 * (IntKind.u64.wrap (t179))))) = 0 then ((turncocklaw2_awake.f k).bind fun t184 => (some t184)) else (some false)) else (none))) else (some false)) else (none))) else (some false)) else (some false)) else (some false))) = some r := H
  have A5 := Aside0.mk A50
  clear A50
  replace H := Option.bind_eq_some_iff.mp H
  obtain ⟨t180, A60, H⟩ := H
  replace H : (if t180 ≤ t179 then (if t179 ≥ 1 then (if t179 ≤ 10 then (if t179 = 1 then (if t179 = 10 then ((turncocklaw2_awake.f k).bind fun t181 => (some t181)) else (if 0 ≤ (IntKind.u64.wrap (7 * (IntKind.u64.wrap (t179)))) then (if (shr .u64 (ji4) (IntKind.u64.wrap (7 * (IntKind.u64.wrap (t179))))) = 0 then ((turncocklaw2_awake.f k).bind fun t182 => (some t182)) else (some false)) else (none))) else (if 0 ≤ (IntKind.u64.wrap (7 * (IntKind.u64.wrap (wrap64 (t179 - 1))))) then (if (shr .u64 (ji4) (IntKind.u64.wrap (7 * (IntKind.u64.wrap (wrap64 (t179 - 1)))))) > 0 then (if t179 = 10 then ((turncocklaw2_awake.f k).bind fun t183 => (some t183)) else (if 0 ≤ (IntKind.u64.wrap (7 * (IntKind.u64.wrap (t179)))) then (if (shr .u64 (ji4) (IntKind.u64.wrap (7 * (IntKind.u64.wrap (t179))))) = 0 then ((turncocklaw2_awake.f k).bind fun t184 => (some t184)) else (some false)) else (none))) else (some false)) else (none))) else (some false)) else (some false)) else (some false)) = some r := H
  have A6 := Aside0.mk A60
  clear A60
  by_cases c7 : t180 ≤ t179
  · rw [if_pos c7] at H
    have c7b0 : decide (t180 ≤ t179) = true := decide_eq_true c7
    clear c7
    by_cases c8 : t179 ≥ 1
    · rw [if_pos c8] at H
      have c8b0 : decide (1 ≤ t179) = true := decide_eq_true c8
      clear c8
      by_cases c9 : t179 ≤ 10
      · rw [if_pos c9] at H
        have c9b0 : decide (t179 ≤ 10) = true := decide_eq_true c9
        clear c9
        by_cases c10 : t179 = 1
        · rw [if_pos c10] at H
          have c10b0 : (t179 == 1) = true := beq_iff_eq.mpr c10
          have c10b1 : (t179 != 1) = false := bne_eq_false_iff_eq.mpr c10
          clear c10
          by_cases c11 : t179 = 10
          · rw [if_pos c11] at H
            have c11b0 : (t179 == 10) = true := beq_iff_eq.mpr c11
            have c11b1 : (t179 != 10) = false := bne_eq_false_iff_eq.mpr c11
            clear c11
            replace H := Option.bind_eq_some_iff.mp H
            obtain ⟨t181, A120, H⟩ := H
            replace H : (some t181) = some r := H
            have A12 := Aside0.mk A120
            clear A120
            obtain rfl := Option.some.inj H
            go_enter Try.func6, Try.ntmps6
            go_wp2_with (first | ((with_reducible refine gate_callee (f := 32) rfl ?_); refine goesL_ (some 15) rfl rfl Try.func32 (by kernel_rfl) rfl #[.int .u64 ji4] rfl (by (try simp only [List.map_toArray, List.map_cons, List.map_nil]); first | done | (simp only [hji4]; rfl) | rfl | (simp only [List.length_drop, List.length_take]; rfl)) ?_; (with_reducible refine (varint_Len.calls k ji4 t179 _ A5.out).mono ?_); rintro e w' ⟨rfl, ⟨nd, rfl⟩⟩; refine ⟨_, rfl, ?_⟩) | ((with_reducible refine gate_callee (f := 32) rfl ?_); refine goesL_ (some 17) rfl rfl Try.func32 (by kernel_rfl) rfl #[.int .u64 ji3] rfl (by (try simp only [List.map_toArray, List.map_cons, List.map_nil]); first | done | (simp only [hji3]; rfl) | rfl | (simp only [List.length_drop, List.length_take]; rfl)) ?_; (with_reducible refine (varint_Len.calls k ji3 t180 _ A6.out).mono ?_); rintro e w' ⟨rfl, ⟨nd, rfl⟩⟩; refine ⟨_, rfl, ?_⟩) | (go_at_call 27; (with_reducible refine (turncocklaw2_awake.calls k  t181 _ A12.out).mono ?_); rintro e w13 ⟨rfl, hb⟩; have n0_ := Aside0.mk (below_step (by repeat (first | (with_reducible first | exact HB.out | apply below_alloc | apply pw_below_drewN | apply below_drew1) | exact HB.out)) hb); clear HB; have HB := n0_; clear n0_; (try clear hb); (try clear hb2); (try clear hk); (try clear hi)))
            go_ret
            exact ⟨by first | rfl | (simp [errW_none, errW_some] <;> rfl) | (simp only [← hji3, ← hji4]; first | rfl | (simp [errW_none, errW_some] <;> rfl)) | (simp [*, errW_none, errW_some] <;> rfl), by repeat (first | (with_reducible first | exact HB.out | apply below_alloc | apply pw_below_drewN | apply below_drew1) | exact HB.out)⟩
          · rw [if_neg c11] at H
            have c11b0 : (t179 == 10) = false := beq_eq_false_iff_ne.mpr c11
            have c11b1 : (t179 != 10) = true := bne_iff_ne.mpr c11
            obtain ⟨ji14, hji14⟩ : ∃ j_ : Int, (IntKind.u64.wrap (7 * (IntKind.u64.wrap (t179)))) = j_ := ⟨_, rfl⟩
            replace H : (if 0 ≤ (ji14) then (if (shr .u64 (ji4) (ji14)) = 0 then ((turncocklaw2_awake.f k).bind fun t182 => (some t182)) else (some false)) else (none)) = some r := by first | (rw [hji14] at H; exact H) | (simp only [hji14] at H ⊢; exact H)
            (try rw [hji14] at A5)
            (try rw [hji14] at A6)
            by_cases c15 : 0 ≤ (ji14)
            · rw [if_pos c15] at H
              have c15b0 := eq_true c15
              have c15b1 : decide (0 ≤ (ji14)) = true := decide_eq_true c15
              clear c15
              obtain ⟨ji16, hji16⟩ : ∃ j_ : Int, (shr .u64 (ji4) (ji14)) = j_ := ⟨_, rfl⟩
              replace H : (if (ji16) = 0 then ((turncocklaw2_awake.f k).bind fun t182 => (some t182)) else (some false)) = some r := by first | (rw [hji16] at H; exact H) | (simp only [hji16] at H ⊢; exact H)
              (try rw [hji16] at A5)
              (try rw [hji16] at A6)
              have hji16_ : ((ji4) / 2 ^ min (ji14).toNat 64) = ji16 := hji16
              have hji16z : (ji14) ≤ 64 → ((ji4) / 2 ^ (ji14).toNat) = ji16 := shr_small hji16
              by_cases c17 : (ji16) = 0
              · rw [if_pos c17] at H
                have c17b0 : ((ji16) == 0) = true := beq_iff_eq.mpr c17
                have c17b1 : ((ji16) != 0) = false := bne_eq_false_iff_eq.mpr c17
                clear c17
                replace H := Option.bind_eq_some_iff.mp H
                obtain ⟨t182, A180, H⟩ := H
                replace H : (some t182) = some r := H
                have A18 := Aside0.mk A180
                clear A180
                obtain rfl := Option.some.inj H
                go_enter Try.func6, Try.ntmps6
                go_wp2_with (first | ((with_reducible refine gate_callee (f := 32) rfl ?_); refine goesL_ (some 15) rfl rfl Try.func32 (by kernel_rfl) rfl #[.int .u64 ji4] rfl (by (try simp only [List.map_toArray, List.map_cons, List.map_nil]); first | done | (simp only [hji4]; rfl) | rfl | (simp only [List.length_drop, List.length_take]; rfl)) ?_; (with_reducible refine (varint_Len.calls k ji4 t179 _ A5.out).mono ?_); rintro e w' ⟨rfl, ⟨nd, rfl⟩⟩; refine ⟨_, rfl, ?_⟩) | ((with_reducible refine gate_callee (f := 32) rfl ?_); refine goesL_ (some 17) rfl rfl Try.func32 (by kernel_rfl) rfl #[.int .u64 ji3] rfl (by (try simp only [List.map_toArray, List.map_cons, List.map_nil]); first | done | (simp only [hji3]; rfl) | rfl | (simp only [List.length_drop, List.length_take]; rfl)) ?_; (with_reducible refine (varint_Len.calls k ji3 t180 _ A6.out).mono ?_); rintro e w' ⟨rfl, ⟨nd, rfl⟩⟩; refine ⟨_, rfl, ?_⟩) | (go_at_call 27; (with_reducible refine (turncocklaw2_awake.calls k  t182 _ A18.out).mono ?_); rintro e w19 ⟨rfl, hb⟩; have n0_ := Aside0.mk (below_step (by repeat (first | (with_reducible first | exact HB.out | apply below_alloc | apply pw_below_drewN | apply below_drew1) | exact HB.out)) hb); clear HB; have HB := n0_; clear n0_; (try clear hb); (try clear hb2); (try clear hk); (try clear hi)))
                go_ret
                exact ⟨by first | rfl | (simp [errW_none, errW_some] <;> rfl) | (simp only [← hji3, ← hji4, ← hji14, ← hji16]; first | rfl | (simp [errW_none, errW_some] <;> rfl)) | (simp [*, errW_none, errW_some] <;> rfl), by repeat (first | (with_reducible first | exact HB.out | apply below_alloc | apply pw_below_drewN | apply below_drew1) | exact HB.out)⟩
              · rw [if_neg c17] at H
                have c17b0 : ((ji16) == 0) = false := beq_eq_false_iff_ne.mpr c17
                have c17b1 : ((ji16) != 0) = true := bne_iff_ne.mpr c17
                obtain rfl := Option.some.inj H
                go_enter Try.func6, Try.ntmps6
                go_wp2_with (first | ((with_reducible refine gate_callee (f := 32) rfl ?_); refine goesL_ (some 15) rfl rfl Try.func32 (by kernel_rfl) rfl #[.int .u64 ji4] rfl (by (try simp only [List.map_toArray, List.map_cons, List.map_nil]); first | done | (simp only [hji4]; rfl) | rfl | (simp only [List.length_drop, List.length_take]; rfl)) ?_; (with_reducible refine (varint_Len.calls k ji4 t179 _ A5.out).mono ?_); rintro e w' ⟨rfl, ⟨nd, rfl⟩⟩; refine ⟨_, rfl, ?_⟩) | ((with_reducible refine gate_callee (f := 32) rfl ?_); refine goesL_ (some 17) rfl rfl Try.func32 (by kernel_rfl) rfl #[.int .u64 ji3] rfl (by (try simp only [List.map_toArray, List.map_cons, List.map_nil]); first | done | (simp only [hji3]; rfl) | rfl | (simp only [List.length_drop, List.length_take]; rfl)) ?_; (with_reducible refine (varint_Len.calls k ji3 t180 _ A6.out).mono ?_); rintro e w' ⟨rfl, ⟨nd, rfl⟩⟩; refine ⟨_, rfl, ?_⟩))
                go_ret
                exact ⟨by first | rfl | (simp [errW_none, errW_some] <;> rfl) | (simp only [← hji3, ← hji4, ← hji14, ← hji16]; first | rfl | (simp [errW_none, errW_some] <;> rfl)) | (simp [*, errW_none, errW_some] <;> rfl), by repeat (first | (with_reducible first | exact HB.out | apply below_alloc | apply pw_below_drewN | apply below_drew1) | exact HB.out)⟩
            · rw [if_neg c15] at H
              exact absurd H (by simp)
        · rw [if_neg c10] at H
          have c10b0 : (t179 == 1) = false := beq_eq_false_iff_ne.mpr c10
          have c10b1 : (t179 != 1) = true := bne_iff_ne.mpr c10
          obtain ⟨ji20, hji20⟩ : ∃ j_ : Int, (IntKind.u64.wrap (7 * (IntKind.u64.wrap (wrap64 (t179 - 1))))) = j_ := ⟨_, rfl⟩
          replace H : (if 0 ≤ (ji20) then (if (shr .u64 (ji4) (ji20)) > 0 then (if t179 = 10 then ((turncocklaw2_awake.f k).bind fun t183 => (some t183)) else (if 0 ≤ (IntKind.u64.wrap (7 * (IntKind.u64.wrap (t179)))) then (if (shr .u64 (ji4) (IntKind.u64.wrap (7 * (IntKind.u64.wrap (t179))))) = 0 then ((turncocklaw2_awake.f k).bind fun t184 => (some t184)) else (some false)) else (none))) else (some false)) else (none)) = some r := by first | (rw [hji20] at H; exact H) | (simp only [hji20] at H ⊢; exact H)
          (try rw [hji20] at A5)
          (try rw [hji20] at A6)
          by_cases c21 : 0 ≤ (ji20)
          · rw [if_pos c21] at H
            have c21b0 := eq_true c21
            have c21b1 : decide (0 ≤ (ji20)) = true := decide_eq_true c21
            clear c21
            obtain ⟨ji22, hji22⟩ : ∃ j_ : Int, (shr .u64 (ji4) (ji20)) = j_ := ⟨_, rfl⟩
            replace H : (if (ji22) > 0 then (if t179 = 10 then ((turncocklaw2_awake.f k).bind fun t183 => (some t183)) else (if 0 ≤ (IntKind.u64.wrap (7 * (IntKind.u64.wrap (t179)))) then (if (shr .u64 (ji4) (IntKind.u64.wrap (7 * (IntKind.u64.wrap (t179))))) = 0 then ((turncocklaw2_awake.f k).bind fun t184 => (some t184)) else (some false)) else (none))) else (some false)) = some r := by first | (rw [hji22] at H; exact H) | (simp only [hji22] at H ⊢; exact H)
            (try rw [hji22] at A5)
            (try rw [hji22] at A6)
            have hji22_ : ((ji4) / 2 ^ min (ji20).toNat 64) = ji22 := hji22
            have hji22z : (ji20) ≤ 64 → ((ji4) / 2 ^ (ji20).toNat) = ji22 := shr_small hji22
            by_cases c23 : (ji22) > 0
            · rw [if_pos c23] at H
              have c23b0 : decide (0 < (ji22)) = true := decide_eq_true c23
              clear c23
              by_cases c24 : t179 = 10
              · rw [if_pos c24] at H
                have c24b0 : (t179 == 10) = true := beq_iff_eq.mpr c24
                have c24b1 : (t179 != 10) = false := bne_eq_false_iff_eq.mpr c24
                clear c24
                replace H := Option.bind_eq_some_iff.mp H
                obtain ⟨t183, A250, H⟩ := H
                replace H : (some t183) = some r := H
                have A25 := Aside0.mk A250
                clear A250
                obtain rfl := Option.some.inj H
                go_enter Try.func6, Try.ntmps6
                go_wp2_with (first | ((with_reducible refine gate_callee (f := 32) rfl ?_); refine goesL_ (some 15) rfl rfl Try.func32 (by kernel_rfl) rfl #[.int .u64 ji4] rfl (by (try simp only [List.map_toArray, List.map_cons, List.map_nil]); first | done | (simp only [hji4]; rfl) | rfl | (simp only [List.length_drop, List.length_take]; rfl)) ?_; (with_reducible refine (varint_Len.calls k ji4 t179 _ A5.out).mono ?_); rintro e w' ⟨rfl, ⟨nd, rfl⟩⟩; refine ⟨_, rfl, ?_⟩) | ((with_reducible refine gate_callee (f := 32) rfl ?_); refine goesL_ (some 17) rfl rfl Try.func32 (by kernel_rfl) rfl #[.int .u64 ji3] rfl (by (try simp only [List.map_toArray, List.map_cons, List.map_nil]); first | done | (simp only [hji3]; rfl) | rfl | (simp only [List.length_drop, List.length_take]; rfl)) ?_; (with_reducible refine (varint_Len.calls k ji3 t180 _ A6.out).mono ?_); rintro e w' ⟨rfl, ⟨nd, rfl⟩⟩; refine ⟨_, rfl, ?_⟩) | (go_at_call 27; (with_reducible refine (turncocklaw2_awake.calls k  t183 _ A25.out).mono ?_); rintro e w26 ⟨rfl, hb⟩; have n0_ := Aside0.mk (below_step (by repeat (first | (with_reducible first | exact HB.out | apply below_alloc | apply pw_below_drewN | apply below_drew1) | exact HB.out)) hb); clear HB; have HB := n0_; clear n0_; (try clear hb); (try clear hb2); (try clear hk); (try clear hi)))
                go_ret
                exact ⟨by first | rfl | (simp [errW_none, errW_some] <;> rfl) | (simp only [← hji3, ← hji4, ← hji20, ← hji22]; first | rfl | (simp [errW_none, errW_some] <;> rfl)) | (simp [*, errW_none, errW_some] <;> rfl), by repeat (first | (with_reducible first | exact HB.out | apply below_alloc | apply pw_below_drewN | apply below_drew1) | exact HB.out)⟩
              · rw [if_neg c24] at H
                have c24b0 : (t179 == 10) = false := beq_eq_false_iff_ne.mpr c24
                have c24b1 : (t179 != 10) = true := bne_iff_ne.mpr c24
                obtain ⟨ji27, hji27⟩ : ∃ j_ : Int, (IntKind.u64.wrap (7 * (IntKind.u64.wrap (t179)))) = j_ := ⟨_, rfl⟩
                replace H : (if 0 ≤ (ji27) then (if (shr .u64 (ji4) (ji27)) = 0 then ((turncocklaw2_awake.f k).bind fun t184 => (some t184)) else (some false)) else (none)) = some r := by first | (rw [hji27] at H; exact H) | (simp only [hji27] at H ⊢; exact H)
                (try rw [hji27] at A5)
                (try rw [hji27] at A6)
                by_cases c28 : 0 ≤ (ji27)
                · rw [if_pos c28] at H
                  have c28b0 := eq_true c28
                  have c28b1 : decide (0 ≤ (ji27)) = true := decide_eq_true c28
                  clear c28
                  obtain ⟨ji29, hji29⟩ : ∃ j_ : Int, (shr .u64 (ji4) (ji27)) = j_ := ⟨_, rfl⟩
                  replace H : (if (ji29) = 0 then ((turncocklaw2_awake.f k).bind fun t184 => (some t184)) else (some false)) = some r := by first | (rw [hji29] at H; exact H) | (simp only [hji29] at H ⊢; exact H)
                  (try rw [hji29] at A5)
                  (try rw [hji29] at A6)
                  have hji29_ : ((ji4) / 2 ^ min (ji27).toNat 64) = ji29 := hji29
                  have hji29z : (ji27) ≤ 64 → ((ji4) / 2 ^ (ji27).toNat) = ji29 := shr_small hji29
                  by_cases c30 : (ji29) = 0
                  · rw [if_pos c30] at H
                    have c30b0 : ((ji29) == 0) = true := beq_iff_eq.mpr c30
                    have c30b1 : ((ji29) != 0) = false := bne_eq_false_iff_eq.mpr c30
                    clear c30
                    replace H := Option.bind_eq_some_iff.mp H
                    obtain ⟨t184, A310, H⟩ := H
                    replace H : (some t184) = some r := H
                    have A31 := Aside0.mk A310
                    clear A310
                    obtain rfl := Option.some.inj H
                    go_enter Try.func6, Try.ntmps6
                    go_wp2_with (first | ((with_reducible refine gate_callee (f := 32) rfl ?_); refine goesL_ (some 15) rfl rfl Try.func32 (by kernel_rfl) rfl #[.int .u64 ji4] rfl (by (try simp only [List.map_toArray, List.map_cons, List.map_nil]); first | done | (simp only [hji4]; rfl) | rfl | (simp only [List.length_drop, List.length_take]; rfl)) ?_; (with_reducible refine (varint_Len.calls k ji4 t179 _ A5.out).mono ?_); rintro e w' ⟨rfl, ⟨nd, rfl⟩⟩; refine ⟨_, rfl, ?_⟩) | ((with_reducible refine gate_callee (f := 32) rfl ?_); refine goesL_ (some 17) rfl rfl Try.func32 (by kernel_rfl) rfl #[.int .u64 ji3] rfl (by (try simp only [List.map_toArray, List.map_cons, List.map_nil]); first | done | (simp only [hji3]; rfl) | rfl | (simp only [List.length_drop, List.length_take]; rfl)) ?_; (with_reducible refine (varint_Len.calls k ji3 t180 _ A6.out).mono ?_); rintro e w' ⟨rfl, ⟨nd, rfl⟩⟩; refine ⟨_, rfl, ?_⟩) | (go_at_call 27; (with_reducible refine (turncocklaw2_awake.calls k  t184 _ A31.out).mono ?_); rintro e w32 ⟨rfl, hb⟩; have n0_ := Aside0.mk (below_step (by repeat (first | (with_reducible first | exact HB.out | apply below_alloc | apply pw_below_drewN | apply below_drew1) | exact HB.out)) hb); clear HB; have HB := n0_; clear n0_; (try clear hb); (try clear hb2); (try clear hk); (try clear hi)))
                    go_ret
                    exact ⟨by first | rfl | (simp [errW_none, errW_some] <;> rfl) | (simp only [← hji3, ← hji4, ← hji20, ← hji22, ← hji27, ← hji29]; first | rfl | (simp [errW_none, errW_some] <;> rfl)) | (simp [*, errW_none, errW_some] <;> rfl), by repeat (first | (with_reducible first | exact HB.out | apply below_alloc | apply pw_below_drewN | apply below_drew1) | exact HB.out)⟩
                  · rw [if_neg c30] at H
                    have c30b0 : ((ji29) == 0) = false := beq_eq_false_iff_ne.mpr c30
                    have c30b1 : ((ji29) != 0) = true := bne_iff_ne.mpr c30
                    obtain rfl := Option.some.inj H
                    go_enter Try.func6, Try.ntmps6
                    go_wp2_with (first | ((with_reducible refine gate_callee (f := 32) rfl ?_); refine goesL_ (some 15) rfl rfl Try.func32 (by kernel_rfl) rfl #[.int .u64 ji4] rfl (by (try simp only [List.map_toArray, List.map_cons, List.map_nil]); first | done | (simp only [hji4]; rfl) | rfl | (simp only [List.length_drop, List.length_take]; rfl)) ?_; (with_reducible refine (varint_Len.calls k ji4 t179 _ A5.out).mono ?_); rintro e w' ⟨rfl, ⟨nd, rfl⟩⟩; refine ⟨_, rfl, ?_⟩) | ((with_reducible refine gate_callee (f := 32) rfl ?_); refine goesL_ (some 17) rfl rfl Try.func32 (by kernel_rfl) rfl #[.int .u64 ji3] rfl (by (try simp only [List.map_toArray, List.map_cons, List.map_nil]); first | done | (simp only [hji3]; rfl) | rfl | (simp only [List.length_drop, List.length_take]; rfl)) ?_; (with_reducible refine (varint_Len.calls k ji3 t180 _ A6.out).mono ?_); rintro e w' ⟨rfl, ⟨nd, rfl⟩⟩; refine ⟨_, rfl, ?_⟩))
                    go_ret
                    exact ⟨by first | rfl | (simp [errW_none, errW_some] <;> rfl) | (simp only [← hji3, ← hji4, ← hji20, ← hji22, ← hji27, ← hji29]; first | rfl | (simp [errW_none, errW_some] <;> rfl)) | (simp [*, errW_none, errW_some] <;> rfl), by repeat (first | (with_reducible first | exact HB.out | apply below_alloc | apply pw_below_drewN | apply below_drew1) | exact HB.out)⟩
                · rw [if_neg c28] at H
                  exact absurd H (by simp)
            · rw [if_neg c23] at H
              have c23b0 : decide (0 < (ji22)) = false := decide_eq_false c23
              clear c23
              obtain rfl := Option.some.inj H
              go_enter Try.func6, Try.ntmps6
              go_wp2_with (first | ((with_reducible refine gate_callee (f := 32) rfl ?_); refine goesL_ (some 15) rfl rfl Try.func32 (by kernel_rfl) rfl #[.int .u64 ji4] rfl (by (try simp only [List.map_toArray, List.map_cons, List.map_nil]); first | done | (simp only [hji4]; rfl) | rfl | (simp only [List.length_drop, List.length_take]; rfl)) ?_; (with_reducible refine (varint_Len.calls k ji4 t179 _ A5.out).mono ?_); rintro e w' ⟨rfl, ⟨nd, rfl⟩⟩; refine ⟨_, rfl, ?_⟩) | ((with_reducible refine gate_callee (f := 32) rfl ?_); refine goesL_ (some 17) rfl rfl Try.func32 (by kernel_rfl) rfl #[.int .u64 ji3] rfl (by (try simp only [List.map_toArray, List.map_cons, List.map_nil]); first | done | (simp only [hji3]; rfl) | rfl | (simp only [List.length_drop, List.length_take]; rfl)) ?_; (with_reducible refine (varint_Len.calls k ji3 t180 _ A6.out).mono ?_); rintro e w' ⟨rfl, ⟨nd, rfl⟩⟩; refine ⟨_, rfl, ?_⟩))
              go_ret
              exact ⟨by first | rfl | (simp [errW_none, errW_some] <;> rfl) | (simp only [← hji3, ← hji4, ← hji20, ← hji22]; first | rfl | (simp [errW_none, errW_some] <;> rfl)) | (simp [*, errW_none, errW_some] <;> rfl), by repeat (first | (with_reducible first | exact HB.out | apply below_alloc | apply pw_below_drewN | apply below_drew1) | exact HB.out)⟩
          · rw [if_neg c21] at H
            exact absurd H (by simp)
      · rw [if_neg c9] at H
        have c9b0 : decide (t179 ≤ 10) = false := decide_eq_false c9
        clear c9
        obtain rfl := Option.some.inj H
        go_enter Try.func6, Try.ntmps6
        go_wp2_with (first | ((with_reducible refine gate_callee (f := 32) rfl ?_); refine goesL_ (some 15) rfl rfl Try.func32 (by kernel_rfl) rfl #[.int .u64 ji4] rfl (by (try simp only [List.map_toArray, List.map_cons, List.map_nil]); first | done | (simp only [hji4]; rfl) | rfl | (simp only [List.length_drop, List.length_take]; rfl)) ?_; (with_reducible refine (varint_Len.calls k ji4 t179 _ A5.out).mono ?_); rintro e w' ⟨rfl, ⟨nd, rfl⟩⟩; refine ⟨_, rfl, ?_⟩) | ((with_reducible refine gate_callee (f := 32) rfl ?_); refine goesL_ (some 17) rfl rfl Try.func32 (by kernel_rfl) rfl #[.int .u64 ji3] rfl (by (try simp only [List.map_toArray, List.map_cons, List.map_nil]); first | done | (simp only [hji3]; rfl) | rfl | (simp only [List.length_drop, List.length_take]; rfl)) ?_; (with_reducible refine (varint_Len.calls k ji3 t180 _ A6.out).mono ?_); rintro e w' ⟨rfl, ⟨nd, rfl⟩⟩; refine ⟨_, rfl, ?_⟩))
        go_ret
        exact ⟨by first | rfl | (simp [errW_none, errW_some] <;> rfl) | (simp only [← hji3, ← hji4]; first | rfl | (simp [errW_none, errW_some] <;> rfl)) | (simp [*, errW_none, errW_some] <;> rfl), by repeat (first | (with_reducible first | exact HB.out | apply below_alloc | apply pw_below_drewN | apply below_drew1) | exact HB.out)⟩
    · rw [if_neg c8] at H
      have c8b0 : decide (1 ≤ t179) = false := decide_eq_false c8
      clear c8
      obtain rfl := Option.some.inj H
      go_enter Try.func6, Try.ntmps6
      go_wp2_with (first | ((with_reducible refine gate_callee (f := 32) rfl ?_); refine goesL_ (some 15) rfl rfl Try.func32 (by kernel_rfl) rfl #[.int .u64 ji4] rfl (by (try simp only [List.map_toArray, List.map_cons, List.map_nil]); first | done | (simp only [hji4]; rfl) | rfl | (simp only [List.length_drop, List.length_take]; rfl)) ?_; (with_reducible refine (varint_Len.calls k ji4 t179 _ A5.out).mono ?_); rintro e w' ⟨rfl, ⟨nd, rfl⟩⟩; refine ⟨_, rfl, ?_⟩) | ((with_reducible refine gate_callee (f := 32) rfl ?_); refine goesL_ (some 17) rfl rfl Try.func32 (by kernel_rfl) rfl #[.int .u64 ji3] rfl (by (try simp only [List.map_toArray, List.map_cons, List.map_nil]); first | done | (simp only [hji3]; rfl) | rfl | (simp only [List.length_drop, List.length_take]; rfl)) ?_; (with_reducible refine (varint_Len.calls k ji3 t180 _ A6.out).mono ?_); rintro e w' ⟨rfl, ⟨nd, rfl⟩⟩; refine ⟨_, rfl, ?_⟩))
      go_ret
      exact ⟨by first | rfl | (simp [errW_none, errW_some] <;> rfl) | (simp only [← hji3, ← hji4]; first | rfl | (simp [errW_none, errW_some] <;> rfl)) | (simp [*, errW_none, errW_some] <;> rfl), by repeat (first | (with_reducible first | exact HB.out | apply below_alloc | apply pw_below_drewN | apply below_drew1) | exact HB.out)⟩
  · rw [if_neg c7] at H
    have c7b0 : decide (t180 ≤ t179) = false := decide_eq_false c7
    clear c7
    obtain rfl := Option.some.inj H
    go_enter Try.func6, Try.ntmps6
    go_wp2_with (first | ((with_reducible refine gate_callee (f := 32) rfl ?_); refine goesL_ (some 15) rfl rfl Try.func32 (by kernel_rfl) rfl #[.int .u64 ji4] rfl (by (try simp only [List.map_toArray, List.map_cons, List.map_nil]); first | done | (simp only [hji4]; rfl) | rfl | (simp only [List.length_drop, List.length_take]; rfl)) ?_; (with_reducible refine (varint_Len.calls k ji4 t179 _ A5.out).mono ?_); rintro e w' ⟨rfl, ⟨nd, rfl⟩⟩; refine ⟨_, rfl, ?_⟩) | ((with_reducible refine gate_callee (f := 32) rfl ?_); refine goesL_ (some 17) rfl rfl Try.func32 (by kernel_rfl) rfl #[.int .u64 ji3] rfl (by (try simp only [List.map_toArray, List.map_cons, List.map_nil]); first | done | (simp only [hji3]; rfl) | rfl | (simp only [List.length_drop, List.length_take]; rfl)) ?_; (with_reducible refine (varint_Len.calls k ji3 t180 _ A6.out).mono ?_); rintro e w' ⟨rfl, ⟨nd, rfl⟩⟩; refine ⟨_, rfl, ?_⟩))
    go_ret
    exact ⟨by first | rfl | (simp [errW_none, errW_some] <;> rfl) | (simp only [← hji3, ← hji4]; first | rfl | (simp [errW_none, errW_some] <;> rfl)) | (simp [*, errW_none, errW_some] <;> rfl), by repeat (first | (with_reducible first | exact HB.out | apply below_alloc | apply pw_below_drewN | apply below_drew1) | exact HB.out)⟩

/-- THE ONE PURE STATEMENT of turncocklaw2_VarintOrder: yours. -/
def turncocklaw2_VarintOrder.Pure : Prop := ∀ (a0 : Int) (a1 : Int), (Lit.int .u64 a0).wf = true → (Lit.int .u64 a1).wf = true → ∃ k, turncocklaw2_VarintOrder.f k a0 a1 = some true
theorem turncocklaw2_VarintOrder.walk (P : turncocklaw2_VarintOrder.Pure) (a0 : Int) (a1 : Int) (w : World) (w0 : (Lit.int .u64 a0).wf = true) (w1 : (Lit.int .u64 a1).wf = true) :
    Calls Try.prog 6 #[.int .u64 a0, .int .u64 a1] w fun e w' => e = .returned (.bool true) ∧ Below w.heap.size w w' := by
  obtain ⟨k, h⟩ := P a0 a1 w0 w1
  refine (turncocklaw2_VarintOrder.calls k a0 a1 true w h).mono ?_
  rintro e w' ⟨rfl, hd⟩
  exact ⟨rfl, hd⟩

/-! ### turncocklaw3_weight: function 34 -/
def turncocklaw3_weight.l0 : Nat → List (List Int) → Int → Int → Option (Int)
  | 0, _, _, _ => none
  | k + 1, x0, x3, x4 => if x4 < (x0.length : Int) then (if x3 ≤ 20000 then (if 0 ≤ x4 then (turncocklaw3_weight.l0 k x0 (wrap64 (x3 + (mn ((rd_L1 x0 x4).length : Int) 20001))) (wrap64 (x4 + 1))) else (none)) else (some x3)) else (some x3)
def turncocklaw3_weight.f (k : Nat) (l0 : List (List Int)) : Option (Int) := turncocklaw3_weight.l0 k l0 (l0.length : Int) 0
theorem turncocklaw3_weight.mono_l : ∀ k, (∀ y0 y1 y2, LeO (turncocklaw3_weight.l0 k y0 y1 y2) (turncocklaw3_weight.l0 (k + 1) y0 y1 y2))
  | 0 => fun _ _ _ r h => by simp [turncocklaw3_weight.l0] at h
  | k + 1 => by
    have ih0 := turncocklaw3_weight.mono_l k
    · intro y0 y1 y2
      unfold turncocklaw3_weight.l0
      repeat' first
      | (with_reducible exact ih0 _ _ _)
      | (with_reducible exact LeO.refl _)
      | (with_reducible exact LeO.none _)
      | (with_reducible refine LeO.ite ?_ ?_)
      | (with_reducible refine LeO.bind ?_ (fun _ => ?_))
      | exact ih0 _ _ _
      | exact LeO.none _
      | refine LeO.ite ?_ ?_
      | refine LeO.bind ?_ (fun _ => ?_)
theorem turncocklaw3_weight.mono : ∀ a0 k, LeO (turncocklaw3_weight.f k a0) (turncocklaw3_weight.f (k + 1) a0) := by
  intro a0 k
  have ih0 := turncocklaw3_weight.mono_l k
  unfold turncocklaw3_weight.f
  repeat' first
      | (with_reducible exact ih0 _ _ _)
      | (with_reducible exact LeO.refl _)
      | (with_reducible exact LeO.none _)
      | (with_reducible refine LeO.ite ?_ ?_)
      | (with_reducible refine LeO.bind ?_ (fun _ => ?_))
      | exact ih0 _ _ _
      | exact LeO.none _
      | refine LeO.ite ?_ ?_
      | refine LeO.bind ?_ (fun _ => ?_)
set_option maxHeartbeats 8000000 in
set_option maxRecDepth 100000 in
theorem turncocklaw3_weight.calls (k : Nat) (A0 : Option Addr) (c0 : Nat) (l0 : List (List Int)) (r : Int) (w : World) (hr0 : Kd.C (Kd.slice 5 (Kd.int .u8)) w A0 l0.length l0) (hc0 : l0.length ≤ c0) (h : turncocklaw3_weight.f k l0 = some r) :
    Calls Try.prog 34 #[.slice A0 l0.length c0] w fun e w' => e = .returned (.int .i64 r) ∧ Below w.heap.size w w' := by
  have HR0 := Aside0.mk hr0
  have HC0 := Aside0.mk hc0
  clear hr0 hc0
  have HB := Aside0.mk (Below.refl w.heap.size w)
  have H : (turncocklaw3_weight.l0 k l0 (l0.length : Int) 0) = some r := h
  clear h
  have H' := Aside0.mk H
  clear H
  go_enter Try.func34, Try.ntmps34
  go_wp2
  go_loopg [3, 4] k (fun kq v3 v4 w' => ∃ (x3_1 : Int) (x4_1 : Int), v3 = .int .i64 x3_1 ∧ v4 = .int .i64 x4_1 ∧ Aside0 (turncocklaw3_weight.l0 kq l0 x3_1 x4_1 = some r) ∧ Aside0 (kq ≤ k) ∧ Aside0 (Below w.heap.size w w'))
  case atStart => exact ⟨((l0.length : Int)), (0), (by first | rfl | (simp; done) | (simp [*]; done)), (by first | rfl | (simp; done) | (simp [*]; done)), H', ⟨Nat.le_refl _⟩, ⟨by repeat (first | (with_reducible first | exact HB.out | apply below_alloc | apply pw_below_drewN | apply below_drew1) | exact HB.out)⟩⟩
  case round =>
    clear H'
    obtain ⟨x3_1, x4_1, rfl, rfl, HA, HK1, HB⟩ := hrel
    cases gk with
    | zero => exact absurd HA.out (by simp [turncocklaw3_weight.l0])
    | succ k1 =>
      have H := HA.out
      clear HA
      simp only [turncocklaw3_weight.l0] at H
      by_cases c2 : x4_1 < (l0.length : Int)
      · rw [if_pos c2] at H
        have c2b0 : decide (x4_1 < (l0.length : Int)) = true := decide_eq_true c2
        clear c2
        by_cases c3 : x3_1 ≤ 20000
        · rw [if_pos c3] at H
          have c3b0 : decide (x3_1 ≤ 20000) = true := decide_eq_true c3
          clear c3
          by_cases c4 : 0 ≤ x4_1
          · rw [if_pos c4] at H
            have c4b0 : decide (0 ≤ x4_1) = true := decide_eq_true c4
            clear c4
            obtain ⟨ji5, hji5⟩ : ∃ j_ : Int, (mn ((rd_L1 l0 x4_1).length : Int) 20001) = j_ := ⟨_, rfl⟩
            replace H : (turncocklaw3_weight.l0 k1 l0 (wrap64 (x3_1 + (ji5))) (wrap64 (x4_1 + 1))) = some r := by first | (rw [hji5] at H; exact H) | (simp only [hji5] at H ⊢; exact H)
            have hji5_ : (if 20001 < ((rd_L1 l0 x4_1).length : Int) then 20001 else ((rd_L1 l0 x4_1).length : Int)) = ji5 := hji5
            have H' := Aside0.mk H
            clear H
            have p185 : 0 ≤ (x4_1 : Int) := of_decide_eq_true (by first | (with_reducible assumption) | assumption)
            have q185 : x4_1 < (l0.length : Int) := of_decide_eq_true (by first | (with_reducible assumption) | assumption)
            obtain ⟨ad185, A185_0, c185_0, e185, hx185_0, hl185_0, hi185_0⟩ := at_L1 HR0.out x4_1 p185 q185
            cases e185
            replace hx185_0 := (HB.out.cell (World.block_lt_of_cell? w _ hx185_0)).trans hx185_0
            have HR185_0 := Aside0.mk hi185_0
            have HC185_0 := Aside0.mk hl185_0
            clear hi185_0 hl185_0
            replace p185 := eq_true p185
            replace q185 := eq_true q185
            go_wp2
            go_roundg k1
            case measure => have := HK1.out; omega
            case rel => exact ⟨(wrap64 (x3_1 + (ji5))), (wrap64 (x4_1 + 1)), (by first | rfl | (simp; done) | (simp only [← hji5] <;> (first | rfl | simp)) | (simp [*]; done)), (by first | rfl | (simp; done) | (simp [*]; done)), H', ⟨by have := HK1.out; omega⟩, ⟨by repeat (first | (with_reducible first | exact HB.out | apply below_alloc | apply pw_below_drewN | apply below_drew1) | exact HB.out)⟩⟩
          · rw [if_neg c4] at H
            exact absurd H (by simp)
        · rw [if_neg c3] at H
          have c3b0 : decide (x3_1 ≤ 20000) = false := decide_eq_false c3
          clear c3
          obtain rfl := Option.some.inj H
          go_wp2
          go_ret
          exact ⟨by first | rfl | (simp [errW_none, errW_some] <;> rfl) | (simp [*, errW_none, errW_some] <;> rfl), by repeat (first | (with_reducible first | exact HB.out | apply below_alloc | apply pw_below_drewN | apply below_drew1) | exact HB.out)⟩
      · rw [if_neg c2] at H
        have c2b0 : decide (x4_1 < (l0.length : Int)) = false := decide_eq_false c2
        clear c2
        obtain rfl := Option.some.inj H
        go_wp2
        go_ret
        exact ⟨by first | rfl | (simp [errW_none, errW_some] <;> rfl) | (simp [*, errW_none, errW_some] <;> rfl), by repeat (first | (with_reducible first | exact HB.out | apply below_alloc | apply pw_below_drewN | apply below_drew1) | exact HB.out)⟩

/-! ### frame_Put: function 36 -/
def frame_Put.f (k : Nat) (l0 : List Int) (l1 : List Int) : Option (List Int) := (varint_Put.f k l0 (IntKind.u64.wrap ((l1.length : Int)))).bind fun t186 => (if t186.length + l1.length < 140737488355328 then (some (t186 ++ l1)) else (none))
theorem frame_Put.mono : ∀ a0 a1 k, LeO (frame_Put.f k a0 a1) (frame_Put.f (k + 1) a0 a1) := by
  intro a0 a1 k
  unfold frame_Put.f
  repeat' first
      | (with_reducible exact varint_Put.mono _ _ _)
      | (with_reducible exact LeO.refl _)
      | (with_reducible exact LeO.none _)
      | (with_reducible refine LeO.ite ?_ ?_)
      | (with_reducible refine LeO.bind ?_ (fun _ => ?_))
      | exact varint_Put.mono _ _ _
      | exact LeO.none _
      | refine LeO.ite ?_ ?_
      | refine LeO.bind ?_ (fun _ => ?_)
set_option maxHeartbeats 8000000 in
set_option maxRecDepth 100000 in
theorem frame_Put.calls (k : Nat) (A0 : Option Addr) (c0 : Nat) (l0 : List Int) (A1 : Option Addr) (c1 : Nat) (l1 : List Int) (r : List Int) (w : World) (hr0 : Kd.C (Kd.int .u8) w A0 l0.length l0) (hc0 : l0.length ≤ c0) (hr1 : Kd.C (Kd.int .u8) w A1 l1.length l1) (hc1 : l1.length ≤ c1) (h : frame_Put.f k l0 l1 = some r) :
    Calls Try.prog 36 #[.slice A0 l0.length c0, .slice A1 l1.length c1] w fun e w' => ∃ v0_ : Value, e = .returned (v0_) ∧ Kd.R (Kd.int .u8) 5 w' w.heap.size (fun _ => True) v0_ r ∧ Below w.heap.size w w' := by
  have HR0 := Aside0.mk hr0
  have HC0 := Aside0.mk hc0
  clear hr0 hc0
  have HR1 := Aside0.mk hr1
  have HC1 := Aside0.mk hc1
  clear hr1 hc1
  have HB := Aside0.mk (Below.refl w.heap.size w)
  have H : ((varint_Put.f k l0 (IntKind.u64.wrap ((l1.length : Int)))).bind fun t186 => (if t186.length + l1.length < 140737488355328 then (some (t186 ++ l1)) else (none))) = some r := h
  clear h
  replace H := Option.bind_eq_some_iff.mp H
  obtain ⟨t186, A30, H⟩ := H
  replace H : (if t186.length + l1.length < 140737488355328 then (some (t186 ++ l1)) else (none)) = some r := H
  have A3 := Aside0.mk A30
  clear A30
  by_cases c4 : t186.length + l1.length < 140737488355328
  · rw [if_pos c4] at H
    have LMc4 := Aside0.mk c4
    clear c4
    obtain ⟨y189, hy189⟩ : ∃ y_ : List Int, y_ = (t186 ++ l1) := ⟨_, rfl⟩
    replace H : (some y189) = some r := by first | (rw [hy189]; with_reducible exact H) | (have H2_ := (Option.bind_some _ _).symm.trans H; rw [hy189]; with_reducible exact H2_) | (have H2_ := (Option.bind_some _ _).symm.trans H; with_reducible exact H2_) | with_reducible exact H | (rw [hy189]; exact H) | exact H
    have Ny189 := Aside0.mk hy189
    clear hy189
    obtain rfl := Option.some.inj H
    go_enter Try.func36, Try.ntmps36
    go_wp2_with (first | ((with_reducible refine gate_callee (f := 28) rfl ?_); refine goesL_ (some 9) rfl rfl Try.func28 (by kernel_rfl) rfl #[.slice A0 l0.length c0, .int .u64 (IntKind.u64.wrap ((l1.length : Int)))] rfl (by (try simp only [List.map_toArray, List.map_cons, List.map_nil]); first | done | rfl | (simp only [List.length_drop, List.length_take]; rfl)) ?_; (with_reducible refine (varint_Put.calls k _ _ l0 (IntKind.u64.wrap ((l1.length : Int))) t186 _ ?side1 ?side2 A3.out).mono ?_); (case side1 => repeat (first | exact HR0.out | (with_reducible refine Kd.C_alloc ?_ _) | (with_reducible refine Kd.C_drewN ?_ _) | (with_reducible refine Kd.C_drew ?_))); (case side2 => exact HC0.out); rintro e w5 ⟨v187, rfl, ho0, hb⟩; refine ⟨_, rfl, ?_⟩; have n0_ := Aside0.mk (Kd.R_lower ho0 (below_size (by repeat (first | (with_reducible first | exact HB.out | apply below_alloc | apply pw_below_drewN | apply below_drew1) | exact HB.out)))); have n1_ := Aside0.mk (below_step (by repeat (first | (with_reducible first | exact HB.out | apply below_alloc | apply pw_below_drewN | apply below_drew1) | exact HB.out)) hb); clear HB; have HO188 := n0_; have HB := n1_; clear n0_ n1_; (try clear hb); (try clear hb2); (try clear hk); (try clear hi); (try clear ho0)) | ((with_reducible refine gate_builtin (b := .append) (xs := #[.tmp 9, .tmp 10]) rfl ?_); at_builtin; refine Kd.R_append_rows (Kd.int .u8) (w0 := w) w.heap.size rfl (.tmp 9) (.tmp 10) 22 5 (.int .u8 0) 1 rfl Try.underlying22 info5 rfl (by decide) (by omega) v187 t186 l1 _ _ _ (fun _ => True) (fun _ => False) rfl rfl ?aO ?aR (fun _ _ h => h) (fun _ h => h.elim) ?aF ?aB ?aS ?aL ?_; (case aR => repeat (first | exact (Kd.C_below HR1.out HB.out) | (with_reducible refine Kd.C_alloc ?_ _) | (with_reducible refine Kd.C_drewN ?_ _) | (with_reducible refine Kd.C_drew ?_))); (case aB => exact (by repeat (first | (with_reducible first | exact HB.out | apply below_alloc | apply pw_below_drewN | apply below_drew1) | exact HB.out))); (case aF => exact (fun _ _ => trivial)); (case aO => exact (by (with_reducible repeat (first | apply Kd.R_alloc | apply Kd.R_drewN | apply Kd.R_drew)); exact HO188.out)); (case aS => exact (below_size (by repeat (first | (with_reducible first | exact HB.out | apply below_alloc | apply pw_below_drewN | apply below_drew1) | exact HB.out)))); (case aL => have := LMc4.out; omega); intro v190 w6 ho hb hg hat; rw [← Ny189.out] at ho; have n0_ := Aside0.mk (hb); have n1_ := Aside0.mk (ho); clear HB; clear HO188; have HB := n0_; have HO191 := n1_; clear n0_ n1_; clear ho hb hg hat))
    go_ret
    exact ⟨_, by first | rfl | (simp [errW_none, errW_some] <;> rfl) | (simp [*, errW_none, errW_some] <;> rfl), by (with_reducible repeat (first | apply Kd.R_alloc | apply Kd.R_drewN | apply Kd.R_drew)); exact HO191.out, by repeat (first | (with_reducible first | exact HB.out | apply below_alloc | apply pw_below_drewN | apply below_drew1) | exact HB.out)⟩
  · rw [if_neg c4] at H
    exact absurd H (by simp)

/-! ### slices_Clone_byte_byte: function 96 -/
def slices_Clone_byte_byte.f (l0 : List Int) : Option (List Int) := if l0.length < 140737488355328 then some l0 else none
set_option maxHeartbeats 1000000 in
set_option maxRecDepth 100000 in
theorem slices_Clone_byte_byte.calls (A0 : Option Addr) (c0 : Nat) (l0 : List Int) (r : List Int) (w : World) (hr0 : Kd.C (Kd.int .u8) w A0 l0.length l0) (hc0 : l0.length ≤ c0) (h : slices_Clone_byte_byte.f l0 = some r) :
    Calls Try.prog 96 #[.slice A0 l0.length c0] w fun e w' => ∃ v0_ : Value, e = .returned (v0_) ∧ Kd.R (Kd.int .u8) 5 w' w.heap.size (fun _ => True) v0_ r ∧ Below w.heap.size w w' := by
  have HC0 := Aside0.mk hc0
  clear hc0
  unfold slices_Clone_byte_byte.f at h
  by_cases c3 : l0.length < 140737488355328
  · rw [if_pos c3] at h
    obtain rfl := Option.some.inj h
    clear h
    have LMc3 := Aside0.mk c3
    clear c3
    cases A0 with
    | none =>
      have h0 : l0 = [] := by
        rcases Nat.eq_zero_or_pos l0.length with h0 | h0
        · exact List.eq_nil_of_length_eq_zero h0
        · obtain ⟨ad, h1, _⟩ := hr0.2.2 h0
          cases h1
      have heq := fun (w : World) => Lib.run_eql_slice_nil (P := Try.prog) w 22 5 none l0.length c0 0 0 Try.underlying22
      have N0 := Aside0.mk h0
      clear h0 hr0
      go_enter Try.func96, Try.ntmps96
      go_wp2_with fail
      go_ret
      exact ⟨_, rfl, by rw [N0.out]; exact Kd.R_nil _ _ _ _ _, Below.refl _ _⟩
    | some ad =>
      have HR0 := Aside0.mk hr0
      clear hr0
      have heq := fun (w : World) => Lib.run_eql_slice_nil (P := Try.prog) w 22 5 (some ad) l0.length c0 0 0 Try.underlying22
      have HB := Aside0.mk (Below.refl w.heap.size w)
      go_enter Try.func96, Try.ntmps96
      go_wp2_with (first | ((with_reducible refine gate_dst (N := 5) rfl ?_); refine Kd.R_lit (Kd.int .u8) _ 5 ?hg (N := 5) ?hd (xs := ([] : List Int)) (inner := []) (ok := fun _ => True) (okp := fun _ => True) ?hr ?hp (fun _ hk => hk) trivial (Below.refl _ _) (Nat.le_refl _) (by simp) ?_; (case hd => rfl); (case hg => rfl); (case hr => first | (go_simp; done) | (go_simp; rfl)); (case hp => exact (Reps.none _ _)); intro v142 w4 ho5 hb hg_ hnew_; clear hg_ hnew_; have n0_ := Aside0.mk (Kd.R_lower ho5 (below_size (by repeat (first | (with_reducible first | exact HB.out | apply below_alloc | apply pw_below_drewN | apply below_drew1) | exact HB.out)))); have n1_ := Aside0.mk (below_step (by repeat (first | (with_reducible first | exact HB.out | apply below_alloc | apply pw_below_drewN | apply below_drew1) | exact HB.out)) hb); clear HB; have HO143 := n0_; have HB := n1_; clear n0_ n1_; clear hb ho5) | ((with_reducible refine gate_builtin (b := .append) (xs := #[.tmp 5, .tmp 6]) rfl ?_); at_builtin; refine Kd.R_append_rows (Kd.int .u8) (w0 := w) w.heap.size rfl (.tmp 5) (.tmp 6) 22 5 (.int .u8 0) 1 rfl Try.underlying22 info5 rfl (by decide) (by omega) v142 [] l0 _ _ _ (fun _ => True) (fun _ => False) rfl rfl ?aO ?aR (fun _ _ h => h) (fun _ h => h.elim) ?aF ?aB ?aS ?aL ?_; (case aR => repeat (first | exact (Kd.C_below HR0.out HB.out) | (with_reducible refine Kd.C_alloc ?_ _) | (with_reducible refine Kd.C_drewN ?_ _) | (with_reducible refine Kd.C_drew ?_))); (case aB => exact (by repeat (first | (with_reducible first | exact HB.out | apply below_alloc | apply pw_below_drewN | apply below_drew1) | exact HB.out))); (case aF => exact (fun _ _ => trivial)); (case aO => exact (by (with_reducible repeat (first | apply Kd.R_alloc | apply Kd.R_drewN | apply Kd.R_drew)); exact HO143.out)); (case aS => exact (below_size (by repeat (first | (with_reducible first | exact HB.out | apply below_alloc | apply pw_below_drewN | apply below_drew1) | exact HB.out)))); (case aL => have := LMc3.out; simp; omega); intro v145 w6 ho hb hg hat; rw [List.nil_append] at ho; have n0_ := Aside0.mk (hb); have n1_ := Aside0.mk (ho); clear HB; clear HO143; have HB := n0_; have HO146 := n1_; clear n0_ n1_; clear ho hb hg hat))
      go_ret
      exact ⟨_, rfl, HO146.out, HB.out⟩
  · rw [if_neg c3] at h
    exact absurd h (by simp)

/-! ### frame_Next: function 39 -/
def frame_Next.f (k : Nat) (l0 : List Int) (a1 : Int) : Option (List Int × Int × Int) := (varint_Get.f k l0).bind fun bt192 => (if bt192.2.2 = 0 then (if bt192.1 > (mn (mx a1 0) 65536) then (some (([] : List Int), 0, 4)) else (if (wrap64 (bt192.1)) > (wrap64 ((l0.length : Int) - bt192.2.1)) then (some (([] : List Int), 0, 3)) else (if 0 ≤ bt192.2.1 then (if bt192.2.1 ≤ (wrap64 (bt192.2.1 + (wrap64 (bt192.1)))) then (if (wrap64 (bt192.2.1 + (wrap64 (bt192.1)))) ≤ (l0.length : Int) then ((slices_Clone_byte_byte.f ((l0.take ((wrap64 (bt192.2.1 + (wrap64 (bt192.1)))) : Int).toNat).drop (bt192.2.1 : Int).toNat)).bind fun t196 => (some (t196, wrap64 (bt192.2.1 + (wrap64 (bt192.1))), 0))) else (none)) else (none)) else (none)))) else (some (([] : List Int), 0, bt192.2.2)))
theorem frame_Next.mono : ∀ a0 a1 k, LeO (frame_Next.f k a0 a1) (frame_Next.f (k + 1) a0 a1) := by
  intro a0 a1 k
  unfold frame_Next.f
  repeat' first
      | (with_reducible exact varint_Get.mono _ _)
      | (with_reducible exact LeO.refl _)
      | (with_reducible exact LeO.none _)
      | (with_reducible refine LeO.ite ?_ ?_)
      | (with_reducible refine LeO.bind ?_ (fun _ => ?_))
      | exact varint_Get.mono _ _
      | exact LeO.none _
      | refine LeO.ite ?_ ?_
      | refine LeO.bind ?_ (fun _ => ?_)
set_option maxHeartbeats 8000000 in
set_option maxRecDepth 100000 in
theorem frame_Next.calls (k : Nat) (A0 : Option Addr) (c0 : Nat) (l0 : List Int) (a1 : Int) (r1 : List Int) (r2 : Int) (r3 : Int) (w : World) (hr0 : Kd.C (Kd.int .u8) w A0 l0.length l0) (hc0 : l0.length ≤ c0) (h : frame_Next.f k l0 a1 = some (r1, r2, r3)) :
    Calls Try.prog 39 #[.slice A0 l0.length c0, .int .i64 a1] w fun e w' => ∃ v0_ : Value, e = .returned (.tuple #[v0_, .int .i64 r2, .int .i64 r3]) ∧ Kd.R (Kd.int .u8) 5 w' w.heap.size (fun _ => True) v0_ r1 ∧ Below w.heap.size w w' := by
  have HR0 := Aside0.mk hr0
  have HC0 := Aside0.mk hc0
  clear hr0 hc0
  have HB := Aside0.mk (Below.refl w.heap.size w)
  have H : ((varint_Get.f k l0).bind fun bt192 => (if bt192.2.2 = 0 then (if bt192.1 > (mn (mx a1 0) 65536) then (some (([] : List Int), 0, 4)) else (if (wrap64 (bt192.1)) > (wrap64 ((l0.length : Int) - bt192.2.1)) then (some (([] : List Int), 0, 3)) else (if 0 ≤ bt192.2.1 then (if bt192.2.1 ≤ (wrap64 (bt192.2.1 + (wrap64 (bt192.1)))) then (if (wrap64 (bt192.2.1 + (wrap64 (bt192.1)))) ≤ (l0.length : Int) then ((slices_Clone_byte_byte.f ((l0.take ((wrap64 (bt192.2.1 + (wrap64 (bt192.1)))) : Int).toNat).drop (bt192.2.1 : Int).toNat)).bind fun t196 => (some (t196, wrap64 (bt192.2.1 + (wrap64 (bt192.1))), 0))) else (none)) else (none)) else (none)))) else (some (([] : List Int), 0, bt192.2.2)))) = some (r1, r2, r3) := h
  clear h
  replace H := Option.bind_eq_some_iff.mp H
  obtain ⟨⟨t192, t193, t194⟩, A30, H⟩ := H
  replace H : (if t194 = 0 then (if t192 > (mn (mx a1 0) 65536) then (some (([] : List Int), 0, 4)) else (if (wrap64 (t192)) > (wrap64 ((l0.length : Int) - t193)) then (some (([] : List Int), 0, 3)) else (if 0 ≤ t193 then (if t193 ≤ (wrap64 (t193 + (wrap64 (t192)))) then (if (wrap64 (t193 + (wrap64 (t192)))) ≤ (l0.length : Int) then ((slices_Clone_byte_byte.f ((l0.take ((wrap64 (t193 + (wrap64 (t192)))) : Int).toNat).drop (t193 : Int).toNat)).bind fun t196 => (some (t196, wrap64 (t193 + (wrap64 (t192))), 0))) else (none)) else (none)) else (none)))) else (some (([] : List Int), 0, t194))) = some (r1, r2, r3) := H
  have A3 := Aside0.mk A30
  clear A30
  by_cases c4 : t194 = 0
  · rw [if_pos c4] at H
    have c4b0 : (t194 == 0) = true := beq_iff_eq.mpr c4
    have c4b1 : (t194 != 0) = false := bne_eq_false_iff_eq.mpr c4
    clear c4
    obtain ⟨ji5, hji5⟩ : ∃ j_ : Int, (mx a1 0) = j_ := ⟨_, rfl⟩
    replace H : (if t192 > (mn (ji5) 65536) then (some (([] : List Int), 0, 4)) else (if (wrap64 (t192)) > (wrap64 ((l0.length : Int) - t193)) then (some (([] : List Int), 0, 3)) else (if 0 ≤ t193 then (if t193 ≤ (wrap64 (t193 + (wrap64 (t192)))) then (if (wrap64 (t193 + (wrap64 (t192)))) ≤ (l0.length : Int) then ((slices_Clone_byte_byte.f ((l0.take ((wrap64 (t193 + (wrap64 (t192)))) : Int).toNat).drop (t193 : Int).toNat)).bind fun t196 => (some (t196, wrap64 (t193 + (wrap64 (t192))), 0))) else (none)) else (none)) else (none)))) = some (r1, r2, r3) := by first | (rw [hji5] at H; exact H) | (simp only [hji5] at H ⊢; exact H)
    (try rw [hji5] at A3)
    (try (have hji5l : 0 ≤ ji5 := by (rw [← hji5]; unfold mx; (repeat' split) <;> omega)))
    (try (have hji5m : 0 ≤ ji5 := by omega))
    have hji5_ : (if a1 < 0 then 0 else a1) = ji5 := hji5
    obtain ⟨ji6, hji6⟩ : ∃ j_ : Int, (mn (ji5) 65536) = j_ := ⟨_, rfl⟩
    replace H : (if t192 > (ji6) then (some (([] : List Int), 0, 4)) else (if (wrap64 (t192)) > (wrap64 ((l0.length : Int) - t193)) then (some (([] : List Int), 0, 3)) else (if 0 ≤ t193 then (if t193 ≤ (wrap64 (t193 + (wrap64 (t192)))) then (if (wrap64 (t193 + (wrap64 (t192)))) ≤ (l0.length : Int) then ((slices_Clone_byte_byte.f ((l0.take ((wrap64 (t193 + (wrap64 (t192)))) : Int).toNat).drop (t193 : Int).toNat)).bind fun t196 => (some (t196, wrap64 (t193 + (wrap64 (t192))), 0))) else (none)) else (none)) else (none)))) = some (r1, r2, r3) := by first | (rw [hji6] at H; exact H) | (simp only [hji6] at H ⊢; exact H)
    (try rw [hji6] at A3)
    have hji6_ : (if 65536 < (ji5) then 65536 else (ji5)) = ji6 := hji6
    by_cases c7 : t192 > (ji6)
    · rw [if_pos c7] at H
      have c7b0 : decide ((ji6) < t192) = true := decide_eq_true c7
      clear c7
      simp only [Option.some.injEq, Prod.mk.injEq] at H
      obtain ⟨rfl, rfl, rfl⟩ := H
      go_enter Try.func39, Try.ntmps39
      go_wp2_with (first | ((with_reducible refine gate_callee (f := 31) rfl ?_); refine goesL_ (some 11) rfl rfl Try.func31 (by kernel_rfl) rfl #[.slice A0 l0.length c0] rfl (by (try simp only [List.map_toArray, List.map_cons, List.map_nil]); first | done | rfl | (simp only [List.length_drop, List.length_take]; rfl)) ?_; (with_reducible refine (varint_Get.calls k _ _ l0 t192 t193 t194 _ ?side1 ?side2 A3.out).mono ?_); (case side1 => repeat (first | exact HR0.out | (with_reducible refine Kd.C_alloc ?_ _) | (with_reducible refine Kd.C_drewN ?_ _) | (with_reducible refine Kd.C_drew ?_))); (case side2 => exact HC0.out); rintro e w8 ⟨rfl, hb⟩; refine ⟨_, rfl, ?_⟩; have n0_ := Aside0.mk (below_step (by repeat (first | (with_reducible first | exact HB.out | apply below_alloc | apply pw_below_drewN | apply below_drew1) | exact HB.out)) hb); clear HB; have HB := n0_; clear n0_; (try clear hb); (try clear hb2); (try clear hk); (try clear hi)))
      go_ret3
      exact ⟨_, by first | rfl | (simp [errW_none, errW_some] <;> rfl) | (simp only [← hji5, ← hji6]; first | rfl | (simp [errW_none, errW_some] <;> rfl)) | (simp [*, errW_none, errW_some] <;> rfl), by first | exact Kd.R_nil _ _ _ _ _ | exact Kd.N_nil _ _ _ _ _ | exact Kd.V_nil _ _ _ _ _ | exact Kd.Q_nil _ _ _ _ _ | exact Kd.S_nil _ _ _ _ _, by repeat (first | (with_reducible first | exact HB.out | apply below_alloc | apply pw_below_drewN | apply below_drew1) | exact HB.out)⟩
    · rw [if_neg c7] at H
      have c7b0 : decide ((ji6) < t192) = false := decide_eq_false c7
      clear c7
      by_cases c9 : (wrap64 (t192)) > (wrap64 ((l0.length : Int) - t193))
      · rw [if_pos c9] at H
        have c9b0 : decide ((wrap64 ((l0.length : Int) - t193)) < (wrap64 (t192))) = true := decide_eq_true c9
        clear c9
        simp only [Option.some.injEq, Prod.mk.injEq] at H
        obtain ⟨rfl, rfl, rfl⟩ := H
        go_enter Try.func39, Try.ntmps39
        go_wp2_with (first | ((with_reducible refine gate_callee (f := 31) rfl ?_); refine goesL_ (some 11) rfl rfl Try.func31 (by kernel_rfl) rfl #[.slice A0 l0.length c0] rfl (by (try simp only [List.map_toArray, List.map_cons, List.map_nil]); first | done | rfl | (simp only [List.length_drop, List.length_take]; rfl)) ?_; (with_reducible refine (varint_Get.calls k _ _ l0 t192 t193 t194 _ ?side1 ?side2 A3.out).mono ?_); (case side1 => repeat (first | exact HR0.out | (with_reducible refine Kd.C_alloc ?_ _) | (with_reducible refine Kd.C_drewN ?_ _) | (with_reducible refine Kd.C_drew ?_))); (case side2 => exact HC0.out); rintro e w10 ⟨rfl, hb⟩; refine ⟨_, rfl, ?_⟩; have n0_ := Aside0.mk (below_step (by repeat (first | (with_reducible first | exact HB.out | apply below_alloc | apply pw_below_drewN | apply below_drew1) | exact HB.out)) hb); clear HB; have HB := n0_; clear n0_; (try clear hb); (try clear hb2); (try clear hk); (try clear hi)))
        go_ret3
        exact ⟨_, by first | rfl | (simp [errW_none, errW_some] <;> rfl) | (simp only [← hji5, ← hji6]; first | rfl | (simp [errW_none, errW_some] <;> rfl)) | (simp [*, errW_none, errW_some] <;> rfl), by first | exact Kd.R_nil _ _ _ _ _ | exact Kd.N_nil _ _ _ _ _ | exact Kd.V_nil _ _ _ _ _ | exact Kd.Q_nil _ _ _ _ _ | exact Kd.S_nil _ _ _ _ _, by repeat (first | (with_reducible first | exact HB.out | apply below_alloc | apply pw_below_drewN | apply below_drew1) | exact HB.out)⟩
      · rw [if_neg c9] at H
        have c9b0 : decide ((wrap64 ((l0.length : Int) - t193)) < (wrap64 (t192))) = false := decide_eq_false c9
        clear c9
        by_cases c11 : 0 ≤ t193
        · rw [if_pos c11] at H
          have c11b0 := eq_true c11
          have c11b1 : decide (0 ≤ t193) = true := decide_eq_true c11
          clear c11
          by_cases c12 : t193 ≤ (wrap64 (t193 + (wrap64 (t192))))
          · rw [if_pos c12] at H
            have c12b0 := eq_true c12
            have c12b1 : decide (t193 ≤ (wrap64 (t193 + (wrap64 (t192))))) = true := decide_eq_true c12
            by_cases c13 : (wrap64 (t193 + (wrap64 (t192)))) ≤ (l0.length : Int)
            · rw [if_pos c13] at H
              have c13b0 := eq_true c13
              have c13b1 : decide ((wrap64 (t193 + (wrap64 (t192)))) ≤ (l0.length : Int)) = true := decide_eq_true c13
              replace H := Option.bind_eq_some_iff.mp H
              obtain ⟨t196, A140, H⟩ := H
              replace H : (some (t196, wrap64 (t193 + (wrap64 (t192))), 0)) = some (r1, r2, r3) := H
              have A14 := Aside0.mk A140
              clear A140
              simp only [Option.some.injEq, Prod.mk.injEq] at H
              obtain ⟨rfl, rfl, rfl⟩ := H
              go_enter Try.func39, Try.ntmps39
              go_wp2_with (first | ((with_reducible refine gate_callee (f := 31) rfl ?_); refine goesL_ (some 11) rfl rfl Try.func31 (by kernel_rfl) rfl #[.slice A0 l0.length c0] rfl (by (try simp only [List.map_toArray, List.map_cons, List.map_nil]); first | done | rfl | (simp only [List.length_drop, List.length_take]; rfl)) ?_; (with_reducible refine (varint_Get.calls k _ _ l0 t192 t193 t194 _ ?side1 ?side2 A3.out).mono ?_); (case side1 => repeat (first | exact HR0.out | (with_reducible refine Kd.C_alloc ?_ _) | (with_reducible refine Kd.C_drewN ?_ _) | (with_reducible refine Kd.C_drew ?_))); (case side2 => exact HC0.out); rintro e w15 ⟨rfl, hb⟩; refine ⟨_, rfl, ?_⟩; have n0_ := Aside0.mk (below_step (by repeat (first | (with_reducible first | exact HB.out | apply below_alloc | apply pw_below_drewN | apply below_drew1) | exact HB.out)) hb); clear HB; have HB := n0_; clear n0_; (try clear hb); (try clear hb2); (try clear hk); (try clear hi); obtain ⟨i016, hi016, _, hsz16, _⟩ := info_parts info5; obtain ⟨A16, hcut16, hA16, hC16⟩ := print_mid_of (P := Try.prog) (Value.int .u8) 0 22 5 .i64 .i64 Try.underlying22 hi016 hsz16 A0 c0 l0 t193 (wrap64 (t193 + (wrap64 (t192)))) (of_decide_eq_true (by first | (with_reducible assumption) | assumption)) (by first | omega | exact of_decide_eq_true (by first | (with_reducible assumption) | assumption)) (of_decide_eq_true (by first | (with_reducible assumption) | assumption)) HC0.out; have HR195 := Aside0.mk (Kd.C_of_reads (h1 := fun _ => rfl) (hA16 _ (Kd.reads_of_C HR0.out))); have HC195 := Aside0.mk hC16; clear hA16 hC16 hi016 hsz16) | ((with_reducible refine gate_callee (f := 96) rfl ?_); refine goesL_ (some 42) rfl rfl Try.func96 (by kernel_rfl) rfl #[.slice A16 ((l0.take ((wrap64 (t193 + (wrap64 (t192)))) : Int).toNat).drop (t193 : Int).toNat).length (c0 - t193.toNat)] rfl (by (try simp only [List.map_toArray, List.map_cons, List.map_nil]); first | done | (rw [show ((l0.take ((wrap64 (t193 + (wrap64 (t192)))) : Int).toNat).drop (t193 : Int).toNat).length = ((wrap64 (t193 + (wrap64 (t192)))).toNat - t193.toNat) from (by rw [List.length_drop, List.length_take]; have h_ : ((wrap64 (t193 + (wrap64 (t192)))) : Int) ≤ (l0.length : Int) := of_decide_eq_true (by first | (with_reducible assumption) | assumption); omega)] <;> rfl) | rfl | (simp only [List.length_drop, List.length_take]; rfl)) ?_; (with_reducible refine (slices_Clone_byte_byte.calls _ _ ((l0.take ((wrap64 (t193 + (wrap64 (t192)))) : Int).toNat).drop (t193 : Int).toNat) t196 _ ?side1 ?side2 A14.out).mono ?_); (case side1 => repeat (first | exact (Kd.C_below HR195.out HB.out) | (with_reducible refine Kd.C_alloc ?_ _) | (with_reducible refine Kd.C_drewN ?_ _) | (with_reducible refine Kd.C_drew ?_))); (case side2 => exact HC195.out); rintro e w17 ⟨v197, rfl, ho0, hb⟩; refine ⟨_, rfl, ?_⟩; have n0_ := Aside0.mk (Kd.R_lower ho0 (below_size (by repeat (first | (with_reducible first | exact HB.out | apply below_alloc | apply pw_below_drewN | apply below_drew1) | exact HB.out)))); have n1_ := Aside0.mk (below_step (by repeat (first | (with_reducible first | exact HB.out | apply below_alloc | apply pw_below_drewN | apply below_drew1) | exact HB.out)) hb); clear HB; have HO198 := n0_; have HB := n1_; clear n0_ n1_; (try clear hb); (try clear hb2); (try clear hk); (try clear hi); (try clear ho0)))
              go_ret3
              exact ⟨_, by first | rfl | (simp [errW_none, errW_some] <;> rfl) | (simp only [← hji5, ← hji6]; first | rfl | (simp [errW_none, errW_some] <;> rfl)) | (simp [*, errW_none, errW_some] <;> rfl), by (with_reducible repeat (first | apply Kd.R_alloc | apply Kd.R_drewN | apply Kd.R_drew)); exact HO198.out, by repeat (first | (with_reducible first | exact HB.out | apply below_alloc | apply pw_below_drewN | apply below_drew1) | exact HB.out)⟩
            · rw [if_neg c13] at H
              exact absurd H (by simp)
          · rw [if_neg c12] at H
            exact absurd H (by simp)
        · rw [if_neg c11] at H
          exact absurd H (by simp)
  · rw [if_neg c4] at H
    have c4b0 : (t194 == 0) = false := beq_eq_false_iff_ne.mpr c4
    have c4b1 : (t194 != 0) = true := bne_iff_ne.mpr c4
    simp only [Option.some.injEq, Prod.mk.injEq] at H
    obtain ⟨rfl, rfl, rfl⟩ := H
    go_enter Try.func39, Try.ntmps39
    go_wp2_with (first | ((with_reducible refine gate_callee (f := 31) rfl ?_); refine goesL_ (some 11) rfl rfl Try.func31 (by kernel_rfl) rfl #[.slice A0 l0.length c0] rfl (by (try simp only [List.map_toArray, List.map_cons, List.map_nil]); first | done | rfl | (simp only [List.length_drop, List.length_take]; rfl)) ?_; (with_reducible refine (varint_Get.calls k _ _ l0 t192 t193 t194 _ ?side1 ?side2 A3.out).mono ?_); (case side1 => repeat (first | exact HR0.out | (with_reducible refine Kd.C_alloc ?_ _) | (with_reducible refine Kd.C_drewN ?_ _) | (with_reducible refine Kd.C_drew ?_))); (case side2 => exact HC0.out); rintro e w18 ⟨rfl, hb⟩; refine ⟨_, rfl, ?_⟩; have n0_ := Aside0.mk (below_step (by repeat (first | (with_reducible first | exact HB.out | apply below_alloc | apply pw_below_drewN | apply below_drew1) | exact HB.out)) hb); clear HB; have HB := n0_; clear n0_; (try clear hb); (try clear hb2); (try clear hk); (try clear hi)))
    go_ret3
    exact ⟨_, by first | rfl | (simp [errW_none, errW_some] <;> rfl) | (simp [*, errW_none, errW_some] <;> rfl), by first | exact Kd.R_nil _ _ _ _ _ | exact Kd.N_nil _ _ _ _ _ | exact Kd.V_nil _ _ _ _ _ | exact Kd.Q_nil _ _ _ _ _ | exact Kd.S_nil _ _ _ _ _, by repeat (first | (with_reducible first | exact HB.out | apply below_alloc | apply pw_below_drewN | apply below_drew1) | exact HB.out)⟩

/-! ### frame_All: function 37 -/
def frame_All.l0 : Nat → List Int → Int → List (List Int) → Int → Option ((List (List Int)) × Int × Int)
  | 0, _, _, _, _ => none
  | k + 1, x0, x1, x4, x5 => if x5 < (x0.length : Int) then (if 0 ≤ x5 then (if x5 ≤ (x0.length : Int) then ((frame_Next.f k (x0.drop (x5 : Int).toNat) x1).bind fun bt200 => (if bt200.2.2 = 0 then (if x4.length < 5864062014805 then (frame_All.l0 k x0 x1 (x4 ++ [bt200.1]) (wrap64 (x5 + bt200.2.1))) else (none)) else (some (x4, x5, bt200.2.2)))) else (none)) else (none)) else (some (x4, x5, 0))
def frame_All.f (k : Nat) (l0 : List Int) (a1 : Int) : Option ((List (List Int)) × Int × Int) := frame_All.l0 k l0 a1 ([] : List (List Int)) 0
theorem frame_All.mono_l : ∀ k, (∀ y0 y1 y2 y3, LeO (frame_All.l0 k y0 y1 y2 y3) (frame_All.l0 (k + 1) y0 y1 y2 y3))
  | 0 => fun _ _ _ _ r h => by simp [frame_All.l0] at h
  | k + 1 => by
    have ih0 := frame_All.mono_l k
    · intro y0 y1 y2 y3
      unfold frame_All.l0
      repeat' first
      | (with_reducible exact ih0 _ _ _ _)
      | (with_reducible exact frame_Next.mono _ _ _)
      | (with_reducible exact LeO.refl _)
      | (with_reducible exact LeO.none _)
      | (with_reducible refine LeO.ite ?_ ?_)
      | (with_reducible refine LeO.bind ?_ (fun _ => ?_))
      | exact ih0 _ _ _ _
      | exact frame_Next.mono _ _ _
      | exact LeO.none _
      | refine LeO.ite ?_ ?_
      | refine LeO.bind ?_ (fun _ => ?_)
theorem frame_All.mono : ∀ a0 a1 k, LeO (frame_All.f k a0 a1) (frame_All.f (k + 1) a0 a1) := by
  intro a0 a1 k
  have ih0 := frame_All.mono_l k
  unfold frame_All.f
  repeat' first
      | (with_reducible exact ih0 _ _ _ _)
      | (with_reducible exact frame_Next.mono _ _ _)
      | (with_reducible exact LeO.refl _)
      | (with_reducible exact LeO.none _)
      | (with_reducible refine LeO.ite ?_ ?_)
      | (with_reducible refine LeO.bind ?_ (fun _ => ?_))
      | exact ih0 _ _ _ _
      | exact frame_Next.mono _ _ _
      | exact LeO.none _
      | refine LeO.ite ?_ ?_
      | refine LeO.bind ?_ (fun _ => ?_)
set_option maxHeartbeats 8000000 in
set_option maxRecDepth 100000 in
theorem frame_All.calls (k : Nat) (A0 : Option Addr) (c0 : Nat) (l0 : List Int) (a1 : Int) (r1 : List (List Int)) (r2 : Int) (r3 : Int) (w : World) (hr0 : Kd.C (Kd.int .u8) w A0 l0.length l0) (hc0 : l0.length ≤ c0) (h : frame_All.f k l0 a1 = some (r1, r2, r3)) :
    Calls Try.prog 37 #[.slice A0 l0.length c0, .int .i64 a1] w fun e w' => ∃ v0_ : Value, e = .returned (.tuple #[v0_, .int .i64 r2, .int .i64 r3]) ∧ Kd.S (Kd.slice 5 (Kd.int .u8)) 22 w' w.heap.size (fun _ => True) v0_ r1 ∧ Below w.heap.size w w' := by
  have HR0 := Aside0.mk hr0
  have HC0 := Aside0.mk hc0
  clear hr0 hc0
  have HB := Aside0.mk (Below.refl w.heap.size w)
  have H : (frame_All.l0 k l0 a1 ([] : List (List Int)) 0) = some (r1, r2, r3) := h
  clear h
  have H' := Aside0.mk H
  clear H
  go_enter Try.func37, Try.ntmps37
  go_wp2
  go_loopg [4, 5] k (fun kq v4 v5 w' => ∃ (x4_1 : List (List Int)) (x5_1 : Int), v5 = .int .i64 x5_1 ∧ Aside0 (frame_All.l0 kq l0 a1 x4_1 x5_1 = some (r1, r2, r3)) ∧ Aside0 (kq ≤ k) ∧ Aside0 (Kd.S (Kd.slice 5 (Kd.int .u8)) 22 w' w.heap.size (fun _ => True) v4 x4_1) ∧ Aside0 (Below w.heap.size w w'))
  case atStart => exact ⟨(([] : List (List Int))), (0), (by first | rfl | (simp; done) | (simp [*]; done)), H', ⟨Nat.le_refl _⟩, ⟨by first | exact Kd.S_nil _ _ _ _ _ | exact Kd.N_nil _ _ _ _ _ | exact Kd.V_nil _ _ _ _ _ | exact Kd.Q_nil _ _ _ _ _ | exact Kd.R_nil _ _ _ _ _⟩, ⟨by repeat (first | (with_reducible first | exact HB.out | apply below_alloc | apply pw_below_drewN | apply below_drew1) | exact HB.out)⟩⟩
  case round =>
    clear H'
    try clear p2
    obtain ⟨x4_1, x5_1, rfl, HA, HK1, HO_4, HB⟩ := hrel
    cases gk with
    | zero => exact absurd HA.out (by simp [frame_All.l0])
    | succ k1 =>
      have H := HA.out
      clear HA
      simp only [frame_All.l0] at H
      by_cases c3 : x5_1 < (l0.length : Int)
      · rw [if_pos c3] at H
        have c3b0 : decide (x5_1 < (l0.length : Int)) = true := decide_eq_true c3
        clear c3
        by_cases c4 : 0 ≤ x5_1
        · rw [if_pos c4] at H
          have c4b0 := eq_true c4
          have c4b1 : decide (0 ≤ x5_1) = true := decide_eq_true c4
          clear c4
          by_cases c5 : x5_1 ≤ (l0.length : Int)
          · rw [if_pos c5] at H
            have c5b0 := eq_true c5
            have c5b1 : decide (x5_1 ≤ (l0.length : Int)) = true := decide_eq_true c5
            clear c5
            replace H := Option.bind_eq_some_iff.mp H
            obtain ⟨⟨t200, t201, t202⟩, A60, H⟩ := H
            replace H : (if t202 = 0 then (if x4_1.length < 5864062014805 then (frame_All.l0 k1 l0 a1 (x4_1 ++ [t200]) (wrap64 (x5_1 + t201))) else (none)) else (some (x4_1, x5_1, t202))) = some (r1, r2, r3) := H
            have A6 := Aside0.mk A60
            clear A60
            by_cases c7 : t202 = 0
            · rw [if_pos c7] at H
              have c7b0 : (t202 == 0) = true := beq_iff_eq.mpr c7
              have c7b1 : (t202 != 0) = false := bne_eq_false_iff_eq.mpr c7
              clear c7
              by_cases c8 : x4_1.length < 5864062014805
              · rw [if_pos c8] at H
                have LMc8 := Aside0.mk c8
                clear c8
                obtain ⟨y205, hy205⟩ : ∃ y_ : List (List Int), y_ = (x4_1 ++ [t200]) := ⟨_, rfl⟩
                replace H : (frame_All.l0 k1 l0 a1 y205 (wrap64 (x5_1 + t201))) = some (r1, r2, r3) := by first | (rw [hy205]; with_reducible exact H) | (have H2_ := (Option.bind_some _ _).symm.trans H; rw [hy205]; with_reducible exact H2_) | (have H2_ := (Option.bind_some _ _).symm.trans H; with_reducible exact H2_) | with_reducible exact H | (rw [hy205]; exact H) | exact H
                have Ny205 := Aside0.mk hy205
                clear hy205
                have H' := Aside0.mk H
                clear H
                obtain ⟨i09, hi09, _, hsz9, _⟩ := info_parts info5
                obtain ⟨A9, hcut9, hA9, hC9⟩ := print_drop_of (P := Try.prog) (Value.int .u8) 0 22 5 .i64 Try.underlying22 hi09 hsz9 A0 c0 l0 x5_1 (of_decide_eq_true (by first | (with_reducible assumption) | assumption)) (of_decide_eq_true (by first | (with_reducible assumption) | assumption)) HC0.out
                have HR199 := Aside0.mk (Kd.C_of_reads (h1 := fun _ => rfl) (hA9 _ (Kd.reads_of_C HR0.out)))
                have HC199 := Aside0.mk hC9
                clear hA9 hC9 hi09 hsz9
                go_wp2_with (first | ((with_reducible refine gate_callee (f := 39) rfl ?_); refine goesL_ (some 19) rfl rfl Try.func39 (by kernel_rfl) rfl #[.slice A9 (l0.drop (x5_1 : Int).toNat).length (c0 - x5_1.toNat), .int .i64 a1] rfl (by (try simp only [List.map_toArray, List.map_cons, List.map_nil]); first | done | (rw [show (l0.drop (x5_1 : Int).toNat).length = (l0.length - x5_1.toNat) from List.length_drop] <;> rfl) | rfl | (simp only [List.length_drop, List.length_take]; rfl)) ?_; (with_reducible refine (frame_Next.calls k1 _ _ (l0.drop (x5_1 : Int).toNat) a1 t200 t201 t202 _ ?side1 ?side2 A6.out).mono ?_); (case side1 => repeat (first | exact (Kd.C_below HR199.out HB.out) | (with_reducible refine Kd.C_alloc ?_ _) | (with_reducible refine Kd.C_drewN ?_ _) | (with_reducible refine Kd.C_drew ?_))); (case side2 => exact HC199.out); rintro e w10 ⟨v203, rfl, ho0, hb⟩; refine ⟨_, rfl, ?_⟩; have n0_ := Aside0.mk (Kd.S_elder' (by (with_reducible repeat (first | apply Kd.S_alloc | apply Kd.S_drewN | apply Kd.S_drew)); exact HO_4.out) (Kd.R_base ho0) hb); have n1_ := Aside0.mk (Kd.R_lower ho0 (below_size (by repeat (first | (with_reducible first | exact HB.out | apply below_alloc | apply pw_below_drewN | apply below_drew1) | exact HB.out)))); have n2_ := Aside0.mk (below_step (by repeat (first | (with_reducible first | exact HB.out | apply below_alloc | apply pw_below_drewN | apply below_drew1) | exact HB.out)) hb); clear HO_4; clear HB; have HO_4 := n0_; have HO204 := n1_; have HB := n2_; clear n0_ n1_ n2_; (try clear hb); (try clear hb2); (try clear hk); (try clear hi); (try clear ho0); obtain ⟨Ao12, co12, eo12⟩ := Kd.R_slice HO204.out; subst eo12) | ((with_reducible refine gate_builtin (b := .append) (xs := #[.tmp 28, .tmp 30]) rfl ?_); at_builtin; refine Kd.S_append (Kd.slice 5 (Kd.int .u8)) (w0 := w) w.heap.size rfl (.tmp 28) (.tmp 30) 35 22 (.slice none 0 0) 24 rfl Try.underlying35 info22 rfl (by decide) (by omega) u4 x4_1 t200 [.slice Ao12 t200.length co12] (fun _ => True) (fun k_ => some k_ = (.slice Ao12 t200.length co12 : Value).ownBlock) rfl rfl ?aP (fun k_ hk_ => ((Kd.R_mono (ok' := fun k_ => ((fun _ => True)) k_ ∧ some k_ ≠ (u4 : Value).ownBlock) (Kd.R_apart' (HO204.out) (Kd.S_typed HO_4.out) (by decide)) (fun k_ hk => ⟨trivial, hk.2⟩))).1 k_ hk_.symm) ?aF ?aO ?aB ?aS ?aL ?_; (case aP => exact Kd.M_row (Kd.R_mono (Kd.R_tight rfl (Kd.R_mono (ok' := fun k_ => ((fun _ => True)) k_ ∧ some k_ ≠ (u4 : Value).ownBlock) (Kd.R_apart' (HO204.out) (Kd.S_typed HO_4.out) (by decide)) (fun k_ hk => ⟨trivial, hk.2⟩))) (fun _ h_ => h_))); (case aB => exact (by repeat (first | (with_reducible first | exact HB.out | apply below_alloc | apply pw_below_drewN | apply below_drew1) | exact HB.out))); (case aF => exact (fun _ _ => trivial)); (case aO => exact (by (with_reducible repeat (first | apply Kd.S_alloc | apply Kd.S_drewN | apply Kd.S_drew)); exact Kd.S_mono HO_4.out (fun k_ hk => ⟨trivial, fun e_ => hk.2 e_⟩))); (case aS => exact (below_size (by repeat (first | (with_reducible first | exact HB.out | apply below_alloc | apply pw_below_drewN | apply below_drew1) | exact HB.out)))); (case aL => have := LMc8.out; omega); intro v206 w11 ho hb hg hat; rw [← Ny205.out] at ho; have n0_ := Aside0.mk (hb); have n1_ := Aside0.mk (ho); clear HB; clear HO_4; clear HO204; have HB := n0_; have HO207 := n1_; clear n0_ n1_; clear ho hb hg hat))
                go_roundg k1
                case measure => have := HK1.out; omega
                case rel => exact ⟨(y205), (wrap64 (x5_1 + t201)), (by first | rfl | (simp; done) | (simp [*]; done)), H', ⟨by have := HK1.out; omega⟩, ⟨by (with_reducible repeat (first | apply Kd.S_alloc | apply Kd.S_drewN | apply Kd.S_drew)); exact HO207.out⟩, ⟨by repeat (first | (with_reducible first | exact HB.out | apply below_alloc | apply pw_below_drewN | apply below_drew1) | exact HB.out)⟩⟩
              · rw [if_neg c8] at H
                exact absurd H (by simp)
            · rw [if_neg c7] at H
              have c7b0 : (t202 == 0) = false := beq_eq_false_iff_ne.mpr c7
              have c7b1 : (t202 != 0) = true := bne_iff_ne.mpr c7
              simp only [Option.some.injEq, Prod.mk.injEq] at H
              obtain ⟨rfl, rfl, rfl⟩ := H
              obtain ⟨i013, hi013, _, hsz13, _⟩ := info_parts info5
              obtain ⟨A13, hcut13, hA13, hC13⟩ := print_drop_of (P := Try.prog) (Value.int .u8) 0 22 5 .i64 Try.underlying22 hi013 hsz13 A0 c0 l0 x5_1 (of_decide_eq_true (by first | (with_reducible assumption) | assumption)) (of_decide_eq_true (by first | (with_reducible assumption) | assumption)) HC0.out
              have HR199 := Aside0.mk (Kd.C_of_reads (h1 := fun _ => rfl) (hA13 _ (Kd.reads_of_C HR0.out)))
              have HC199 := Aside0.mk hC13
              clear hA13 hC13 hi013 hsz13
              go_wp2_with (first | ((with_reducible refine gate_callee (f := 39) rfl ?_); refine goesL_ (some 19) rfl rfl Try.func39 (by kernel_rfl) rfl #[.slice A13 (l0.drop (x5_1 : Int).toNat).length (c0 - x5_1.toNat), .int .i64 a1] rfl (by (try simp only [List.map_toArray, List.map_cons, List.map_nil]); first | done | (rw [show (l0.drop (x5_1 : Int).toNat).length = (l0.length - x5_1.toNat) from List.length_drop] <;> rfl) | rfl | (simp only [List.length_drop, List.length_take]; rfl)) ?_; (with_reducible refine (frame_Next.calls k1 _ _ (l0.drop (x5_1 : Int).toNat) a1 t200 t201 t202 _ ?side1 ?side2 A6.out).mono ?_); (case side1 => repeat (first | exact (Kd.C_below HR199.out HB.out) | (with_reducible refine Kd.C_alloc ?_ _) | (with_reducible refine Kd.C_drewN ?_ _) | (with_reducible refine Kd.C_drew ?_))); (case side2 => exact HC199.out); rintro e w14 ⟨v203, rfl, ho0, hb⟩; refine ⟨_, rfl, ?_⟩; have n0_ := Aside0.mk (Kd.S_elder' (by (with_reducible repeat (first | apply Kd.S_alloc | apply Kd.S_drewN | apply Kd.S_drew)); exact HO_4.out) (Kd.R_base ho0) hb); have n1_ := Aside0.mk (Kd.R_lower ho0 (below_size (by repeat (first | (with_reducible first | exact HB.out | apply below_alloc | apply pw_below_drewN | apply below_drew1) | exact HB.out)))); have n2_ := Aside0.mk (below_step (by repeat (first | (with_reducible first | exact HB.out | apply below_alloc | apply pw_below_drewN | apply below_drew1) | exact HB.out)) hb); clear HO_4; clear HB; have HO_4 := n0_; have HO204 := n1_; have HB := n2_; clear n0_ n1_ n2_; (try clear hb); (try clear hb2); (try clear hk); (try clear hi); (try clear ho0)))
              go_ret3
              exact ⟨_, by first | rfl | (simp [errW_none, errW_some] <;> rfl) | (simp [*, errW_none, errW_some] <;> rfl), by (with_reducible repeat (first | apply Kd.S_alloc | apply Kd.S_drewN | apply Kd.S_drew)); exact Kd.S_mono HO_4.out (fun _ hk => trivial), by repeat (first | (with_reducible first | exact HB.out | apply below_alloc | apply pw_below_drewN | apply below_drew1) | exact HB.out)⟩
          · rw [if_neg c5] at H
            exact absurd H (by simp)
        · rw [if_neg c4] at H
          exact absurd H (by simp)
      · rw [if_neg c3] at H
        have c3b0 : decide (x5_1 < (l0.length : Int)) = false := decide_eq_false c3
        clear c3
        simp only [Option.some.injEq, Prod.mk.injEq] at H
        obtain ⟨rfl, rfl, rfl⟩ := H
        go_wp2
        go_ret3
        exact ⟨_, by first | rfl | (simp [errW_none, errW_some] <;> rfl) | (simp [*, errW_none, errW_some] <;> rfl), by (with_reducible repeat (first | apply Kd.S_alloc | apply Kd.S_drewN | apply Kd.S_drew)); exact HO_4.out, by repeat (first | (with_reducible first | exact HB.out | apply below_alloc | apply pw_below_drewN | apply below_drew1) | exact HB.out)⟩

/-! ### turncocklaw3_awake: function 35 -/
/-- A row of bytes that was just laid reads as it was laid. -/
theorem lit_reads (W : World) (e : TypeId) (fr : Nat × Nat) (l : List Int) (hl : l.length ≤ 1000) : Kd.C (Kd.int .u8) (W.alloc (.cells (nums .u8 l).toArray e fr)) (some ⟨W.heap.size, 0, none⟩) l.length l := by
  refine Kd.C_of_reads (enc := Value.int .u8) (d := (0 : Int)) (h1 := fun _ => rfl) ⟨rfl, by omega, fun _ => ⟨_, rfl, fun j hj => ?_⟩⟩
  rw [add_plain, cell_of_row _ W.heap.size j (nums .u8 l).toArray e fr (heap_alloc_new W _)]
  simp [nums, List.getElem?_eq_getElem hj, List.getD_eq_getElem?_getD]
theorem awake3_next1 (W : World) (A : Option Addr) (h : Kd.C (Kd.int .u8) W A 4 [2, 97, 98, 99]) : Calls Try.prog 39 #[.slice A 4 4, .int .i64 5] W fun e w' => ∃ v, e = .returned (.tuple #[v, .int .i64 3, .int .i64 0]) ∧ Kd.R (Kd.int .u8) 5 w' W.heap.size (fun _ => True) v [97, 98] ∧ Below W.heap.size W w' :=
  frame_Next.calls 30 A 4 [2, 97, 98, 99] 5 [97, 98] 3 0 W h (by decide) (by decide +kernel)
theorem awake3_next2 (W : World) (A : Option Addr) (h : Kd.C (Kd.int .u8) W A 1 [6]) : Calls Try.prog 39 #[.slice A 1 1, .int .i64 5] W fun e w' => ∃ v, e = .returned (.tuple #[v, .int .i64 0, .int .i64 4]) ∧ Kd.R (Kd.int .u8) 5 w' W.heap.size (fun _ => True) v [] ∧ Below W.heap.size W w' :=
  frame_Next.calls 30 A 1 [6] 5 [] 0 4 W h (by decide) (by decide +kernel)
theorem awake3_next3 (W : World) (A : Option Addr) (h : Kd.C (Kd.int .u8) W A 2 [2, 97]) : Calls Try.prog 39 #[.slice A 2 2, .int .i64 5] W fun e w' => ∃ v, e = .returned (.tuple #[v, .int .i64 0, .int .i64 3]) ∧ Kd.R (Kd.int .u8) 5 w' W.heap.size (fun _ => True) v [] ∧ Below W.heap.size W w' :=
  frame_Next.calls 30 A 2 [2, 97] 5 [] 0 3 W h (by decide) (by decide +kernel)
theorem awake3_all (W : World) (A : Option Addr) (h : Kd.C (Kd.int .u8) W A 4 [1, 97, 0, 2]) : Calls Try.prog 37 #[.slice A 4 4, .int .i64 5] W fun e w' => ∃ v, e = .returned (.tuple #[v, .int .i64 3, .int .i64 3]) ∧ Kd.S (Kd.slice 5 (Kd.int .u8)) 22 w' W.heap.size (fun _ => True) v [[97], []] ∧ Below W.heap.size W w' :=
  frame_All.calls 30 A 4 [1, 97, 0, 2] 5 [[97], []] 3 3 W h (by decide) (by decide +kernel)
theorem awake3_put (W : World) (A B : Option Addr) (h : Kd.C (Kd.int .u8) W A 1 [9]) (h2 : Kd.C (Kd.int .u8) W B 1 [97]) : Calls Try.prog 36 #[.slice A 1 1, .slice B 1 1] W fun e w' => ∃ v, e = .returned v ∧ Kd.R (Kd.int .u8) 5 w' W.heap.size (fun _ => True) v [9, 1, 97] ∧ Below W.heap.size W w' :=
  frame_Put.calls 30 A 1 [9] B 1 [97] [9, 1, 97] W h (by decide) h2 (by decide) (by decide +kernel)
theorem awake3_bytes (W : World) (A B : Option Addr) (c : Nat) (hc : 3 ≤ c) (h : Kd.C (Kd.int .u8) W A 3 [9, 1, 97]) (h2 : Kd.C (Kd.int .u8) W B 3 [9, 1, 97]) : Calls Try.prog 29 #[.slice A 3 c, .slice B 3 3] W fun e w' => e = .returned (.bool true) ∧ Drawn0 W w' :=
  turncockref1_Bytes.calls A c [9, 1, 97] B 3 [9, 1, 97] true W h hc h2 (by decide) (by decide +kernel)
def turncocklaw3_awake.f : Option Bool := some true
set_option maxHeartbeats 4000000 in
set_option maxRecDepth 100000 in
theorem turncocklaw3_awake.calls (r : Bool) (w : World) (h : turncocklaw3_awake.f = some r) : Calls Try.prog 35 #[] w fun e w' => e = .returned (.bool r) ∧ Below w.heap.size w w' := by
  obtain rfl := Option.some.inj h
  clear h
  go_enter Try.func35, Try.ntmps35
  go_wp2_with fail
  refine (awake3_next1 _ _ (lit_reads _ 5 _ [2, 97, 98, 99] (by decide))).mono ?_
  rintro e w1 ⟨v1, rfl, ho1, hb1⟩
  have HO1 := Aside0.mk ho1
  have HB1 := Aside0.mk (below_step (below_alloc (Below.refl _ _) _) hb1)
  clear ho1 hb1
  go_wp2_with fail
  refine (awake3_next2 _ _ (lit_reads _ 5 _ [6] (by decide))).mono ?_
  rintro e w2 ⟨v2, rfl, ho2, hb2⟩
  have HO2 := Aside0.mk (Kd.R_below HO1.out (below_step (below_alloc (Below.refl _ _) _) hb2))
  have HB2 := Aside0.mk (below_step (below_alloc HB1.out _) hb2)
  clear ho2 hb2 HO1 HB1
  go_wp2_with fail
  refine (awake3_next3 _ _ (lit_reads _ 5 _ [2, 97] (by decide))).mono ?_
  rintro e w3 ⟨v3, rfl, ho3, hb3⟩
  have HO3 := Aside0.mk (Kd.R_below HO2.out (below_step (below_alloc (Below.refl _ _) _) hb3))
  have HB3 := Aside0.mk (below_step (below_alloc HB2.out _) hb3)
  clear ho3 hb3 HO2 HB2
  go_wp2_with fail
  refine (awake3_all _ _ (lit_reads _ 5 _ [1, 97, 0, 2] (by decide))).mono ?_
  rintro e w4 ⟨v4, rfl, ho4, hb4⟩
  have HO4 := Aside0.mk (Kd.R_below HO3.out (below_step (below_alloc (Below.refl _ _) _) hb4))
  have HB4 := Aside0.mk (below_step (below_alloc HB3.out _) hb4)
  have HL := Aside0.mk (Kd.S_R ho4)
  clear ho4 hb4 HO3 HB3
  obtain ⟨A1, c1, e1⟩ := Kd.R_slice HO4.out
  obtain rfl : v1 = .slice A1 2 c1 := e1
  have hcv : (convert 22 9 (.slice A1 2 c1)).run Try.prog w4 = .ok (.string ⟨#[97, 98]⟩) w4 := Kd.C_string (c := c1) Try.underlying22 Try.underlying5 Try.underlying9 (Kd.R_reads' HO4.out).2.2
  obtain ⟨g4, c4, e4, _⟩ := Kd.R_form HL.out (by decide)
  obtain rfl : v4 = .slice (some ⟨g4, 0, none⟩) 2 c4 := e4
  obtain ⟨ad, B, cb, ea, hcell, _⟩ := at_L1 (Kd.R_reads' HL.out).2.2 1 (by decide) (by decide)
  obtain rfl := Option.some.inj ea
  rw [add_plain] at hcell
  have hcl : w4.cell? ⟨g4, 1, none⟩ = some (.slice B 0 cb) := hcell
  clear hcell
  have hsz : (w4.alloc (.cells #[.int .u8 9] 5)).heap.size = w4.heap.size + 1 := World.size_alloc _ _
  have kc : (convert 22 22 (.slice (some ⟨w4.heap.size + 1, 0, none⟩) 1 1)).run Try.prog ((w4.alloc (.cells #[.int .u8 9] 5)).alloc (.cells #[.int .u8 97] 5)) = .ok (.slice (some ⟨w4.heap.size + 1, 0, none⟩) 1 1) ((w4.alloc (.cells #[.int .u8 9] 5)).alloc (.cells #[.int .u8 97] 5 (1, 2))) := by
    have h := Lib.run_convert_bytes_const (P := Try.prog) (w4.alloc (.cells #[.int .u8 9] 5)) 22 5 #[.int .u8 97] 1 1 Try.underlying22 Try.underlying5
    rw [hsz] at h
    exact h
  have HR1 : Aside0 (Kd.C (Kd.int .u8) ((w4.alloc (.cells #[.int .u8 9] 5)).alloc (.cells #[.int .u8 97] 5 (1, 2))) (some ⟨w4.heap.size, 0, none⟩) 1 [9]) := ⟨Kd.C_alloc (lit_reads w4 5 (0, 0) [9] (by decide)) _⟩
  have HR2 : Aside0 (Kd.C (Kd.int .u8) ((w4.alloc (.cells #[.int .u8 9] 5)).alloc (.cells #[.int .u8 97] 5 (1, 2))) (some ⟨w4.heap.size + 1, 0, none⟩) 1 [97]) := by
    have h := lit_reads (w4.alloc (.cells #[.int .u8 9] 5)) 5 (1, 2) [97] (by decide)
    rw [hsz] at h
    exact ⟨h⟩
  clear hsz
  go_wp2_with fail
  refine (awake3_put _ _ _ HR1.out HR2.out).mono ?_
  rintro e w5 ⟨v5, rfl, ho5, hb5⟩
  have HB5 := Aside0.mk (below_step (below_alloc (below_alloc HB4.out _) _) hb5)
  obtain ⟨A5, c5, e5, hc5, hC5⟩ := Kd.R_reads ho5
  obtain rfl : v5 = .slice A5 3 c5 := e5
  have HC5 := Aside0.mk hC5
  have HC5' := Aside0.mk hc5
  clear hb5 ho5 hC5 hc5 hcv hcl kc HB4
  go_wp2_with fail
  refine (awake3_bytes _ _ _ _ HC5'.out (Kd.C_alloc HC5.out _) (lit_reads _ 5 _ [9, 1, 97] (by decide))).mono ?_
  rintro e w6 ⟨rfl, hd⟩
  have HB6 := Aside0.mk (below_step (below_alloc HB5.out _) hd.below)
  clear hd
  go_wp2
  go_ret
  exact ⟨rfl, HB6.out⟩

end Go.Proofs.Ytnhblhhkjnmkkaa.Q
