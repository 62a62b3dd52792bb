/- Printed by this session's own program out of the translation: each function as a plain Lean function, and its contract. -/
import Derived.Test.YtnhblhhkjnmkkaaQ0
import Derived.Test.YtnhblhhkjnmkkaaQ16
import Derived.Test.YtnhblhhkjnmkkaaQ17
namespace Go.Proofs.Ytnhblhhkjnmkkaa.Q
open Go.RowKit Go.Proofs.YtnhblhhkjnmkkaaW.PrintWords Go.Proofs.YtnhblhhkjnmkkaaW.PrintLast Go.Proofs.YtnhblhhkjnmkkaaW.PrintMore
attribute [local go_sem] max2_int min2_int max_two min_two max_three min_three max_four min_four   -- for this text's walks alone
set_option linter.unusedVariables false
set_option linter.unusedSimpArgs false

/-! ### turncocklaw2_VarintOrder: function 6 -/
def turncocklaw2_VarintOrder.f (k : Nat) (a0 : Int) (a1 : Int) : Option (Bool) := (varint_Len.f k (mx a0 a1)).bind fun t179 => ((varint_Len.f k (mn a0 a1)).bind fun t180 => (if t180 ≤ t179 then (if t179 ≥ 1 then (if t179 ≤ 10 then (if t179 = 1 then (if t179 = 10 then ((turncocklaw2_awake.f k).bind fun t181 => (some t181)) else (if 0 ≤ (IntKind.u64.wrap (7 * (IntKind.u64.wrap (t179)))) then (if (shr .u64 (mx a0 a1) (IntKind.u64.wrap (7 * (IntKind.u64.wrap (t179))))) = 0 then ((turncocklaw2_awake.f k).bind fun t182 => (some t182)) else (some false)) else (none))) else (if 0 ≤ (IntKind.u64.wrap (7 * (IntKind.u64.wrap (wrap64 (t179 - 1))))) then (if (shr .u64 (mx a0 a1) (IntKind.u64.wrap (7 * (IntKind.u64.wrap (wrap64 (t179 - 1)))))) > 0 then (if t179 = 10 then ((turncocklaw2_awake.f k).bind fun t183 => (some t183)) else (if 0 ≤ (IntKind.u64.wrap (7 * (IntKind.u64.wrap (t179)))) then (if (shr .u64 (mx a0 a1) (IntKind.u64.wrap (7 * (IntKind.u64.wrap (t179))))) = 0 then ((turncocklaw2_awake.f k).bind fun t184 => (some t184)) else (some false)) else (none))) else (some false)) else (none))) else (some false)) else (some false)) else (some false)))
theorem turncocklaw2_VarintOrder.mono : ∀ a0 a1 k, LeO (turncocklaw2_VarintOrder.f k a0 a1) (turncocklaw2_VarintOrder.f (k + 1) a0 a1) := by
  intro a0 a1 k
  unfold turncocklaw2_VarintOrder.f
  repeat' first
      | (with_reducible exact turncocklaw2_awake.mono _)
      | (with_reducible exact varint_Len.mono _ _)
      | (with_reducible exact LeO.refl _)
      | (with_reducible exact LeO.none _)
      | (with_reducible refine LeO.ite ?_ ?_)
      | (with_reducible refine LeO.bind ?_ (fun _ => ?_))
      | exact turncocklaw2_awake.mono _
      | exact varint_Len.mono _ _
      | exact LeO.none _
      | refine LeO.ite ?_ ?_
      | refine LeO.bind ?_ (fun _ => ?_)
set_option maxHeartbeats 8000000 in
set_option maxRecDepth 100000 in
theorem turncocklaw2_VarintOrder.calls (k : Nat) (a0 : Int) (a1 : Int) (r : Bool) (w : World) (h : turncocklaw2_VarintOrder.f k a0 a1 = some r) :
    Calls Try.prog 6 #[.int .u64 a0, .int .u64 a1] w fun e w' => e = .returned (.bool r) ∧ Below w.heap.size w w' := by
  have HB := Aside0.mk (Below.refl w.heap.size w)
  have H : ((varint_Len.f k (mx a0 a1)).bind fun t179 => ((varint_Len.f k (mn a0 a1)).bind fun t180 => (if t180 ≤ t179 then (if t179 ≥ 1 then (if t179 ≤ 10 then (if t179 = 1 then (if t179 = 10 then ((turncocklaw2_awake.f k).bind fun t181 => (some t181)) else (if 0 ≤ (IntKind.u64.wrap (7 * (IntKind.u64.wrap (t179)))) then (if (shr .u64 (mx a0 a1) (IntKind.u64.wrap (7 * (IntKind.u64.wrap (t179))))) = 0 then ((turncocklaw2_awake.f k).bind fun t182 => (some t182)) else (some false)) else (none))) else (if 0 ≤ (IntKind.u64.wrap (7 * (IntKind.u64.wrap (wrap64 (t179 - 1))))) then (if (shr .u64 (mx a0 a1) (IntKind.u64.wrap (7 * (IntKind.u64.wrap (wrap64 (t179 - 1)))))) > 0 then (if t179 = 10 then ((turncocklaw2_awake.f k).bind fun t183 => (some t183)) else (if 0 ≤ (IntKind.u64.wrap (7 * (IntKind.u64.wrap (t179)))) then (if (shr .u64 (mx a0 a1) (IntKind.u64.wrap (7 * (IntKind.u64.wrap (t179))))) = 0 then ((turncocklaw2_awake.f k).bind fun t184 => (some t184)) else (some false)) else (none))) else (some false)) else (none))) else (some false)) else (some false)) else (some false)))) = some r := h
  clear h
  obtain ⟨ji3, hji3⟩ : ∃ j_ : Int, (mn a0 a1) = j_ := ⟨_, rfl⟩
  replace H : ((varint_Len.f k (mx a0 a1)).bind fun t179 => ((varint_Len.f k (ji3)).bind fun t180 => (if t180 ≤ t179 then (if t179 ≥ 1 then (if t179 ≤ 10 then (if t179 = 1 then (if t179 = 10 then ((turncocklaw2_awake.f k).bind fun t181 => (some t181)) else (if 0 ≤ (IntKind.u64.wrap (7 * (IntKind.u64.wrap (t179)))) then (if (shr .u64 (mx a0 a1) (IntKind.u64.wrap (7 * (IntKind.u64.wrap (t179))))) = 0 then ((turncocklaw2_awake.f k).bind fun t182 => (some t182)) else (some false)) else (none))) else (if 0 ≤ (IntKind.u64.wrap (7 * (IntKind.u64.wrap (wrap64 (t179 - 1))))) then (if (shr .u64 (mx a0 a1) (IntKind.u64.wrap (7 * (IntKind.u64.wrap (wrap64 (t179 - 1)))))) > 0 then (if t179 = 10 then ((turncocklaw2_awake.f k).bind fun t183 => (some t183)) else (if 0 ≤ (IntKind.u64.wrap (7 * (IntKind.u64.wrap (t179)))) then (if (shr .u64 (mx a0 a1) (IntKind.u64.wrap (7 * (IntKind.u64.wrap (t179))))) = 0 then ((turncocklaw2_awake.f k).bind fun t184 => (some t184)) else (some false)) else (none))) else (some false)) else (none))) else (some false)) else (some false)) else (some false)))) = some r := by first | (rw [hji3] at H; exact H) | (simp only [hji3] at H ⊢; exact H)
  have hji3_ : (if a1 < a0 then a1 else a0) = ji3 := hji3
  obtain ⟨ji4, hji4⟩ : ∃ j_ : Int, (mx a0 a1) = j_ := ⟨_, rfl⟩
  replace H : ((varint_Len.f k (ji4)).bind fun t179 => ((varint_Len.f k (ji3)).bind fun t180 => (if t180 ≤ t179 then (if t179 ≥ 1 then (if t179 ≤ 10 then (if t179 = 1 then (if t179 = 10 then ((turncocklaw2_awake.f k).bind fun t181 => (some t181)) else (if 0 ≤ (IntKind.u64.wrap (7 * (IntKind.u64.wrap (t179)))) then (if (shr .u64 (ji4) (IntKind.u64.wrap (7 * (IntKind.u64.wrap (t179))))) = 0 then ((turncocklaw2_awake.f k).bind fun t182 => (some t182)) else (some false)) else (none))) else (if 0 ≤ (IntKind.u64.wrap (7 * (IntKind.u64.wrap (wrap64 (t179 - 1))))) then (if (shr .u64 (ji4) (IntKind.u64.wrap (7 * (IntKind.u64.wrap (wrap64 (t179 - 1)))))) > 0 then (if t179 = 10 then ((turncocklaw2_awake.f k).bind fun t183 => (some t183)) else (if 0 ≤ (IntKind.u64.wrap (7 * (IntKind.u64.wrap (t179)))) then (if (shr .u64 (ji4) (IntKind.u64.wrap (7 * (IntKind.u64.wrap (t179))))) = 0 then ((turncocklaw2_awake.f k).bind fun t184 => (some t184)) else (some false)) else (none))) else (some false)) else (none))) else (some false)) else (some false)) else (some false)))) = some r := by first | (rw [hji4] at H; exact H) | (simp only [hji4] at H ⊢; exact H)
  have hji4_ : (if a0 < a1 then a1 else a0) = ji4 := hji4
  replace H := Option.bind_eq_some_iff.mp H
  obtain ⟨t179, A50, H⟩ := H
  replace H : ((varint_Len.f k (ji3)).bind fun t180 => (if t180 ≤ t179 then (if t179 ≥ 1 then (if t179 ≤ 10 then (if t179 = 1 then (if t179 = 10 then ((turncocklaw2_awake.f k).bind fun t181 => (some t181)) else (if 0 ≤ (IntKind.u64.wrap (7 * (IntKind.u64.wrap (t179)))) then (if (shr .u64 (ji4) (IntKind.u64.wrap (7 * (IntKind.u64.wrap (t179))))) = 0 then ((turncocklaw2_awake.f k).bind fun t182 => (some t182)) else (some false)) else (none))) else (if 0 ≤ (IntKind.u64.wrap (7 * (IntKind.u64.wrap (wrap64 (t179 - 1))))) then (if (shr .u64 (ji4) (IntKind.u64.wrap (7 * (IntKind.u64.wrap (wrap64 (t179 - 1)))))) > 0 then (if t179 = 10 then ((turncocklaw2_awake.f k).bind fun t183 => (some t183)) else (if 0 ≤ (IntKind.u64.wrap (7 * (IntKind.u64.wrap (t179)))) then (if (shr .u64 (ji4) (IntKind.u64.wrap (7 * (IntKind.u64.wrap (t179))))) = 0 then ((turncocklaw2_awake.f k).bind fun t184 => (some t184)) else (some false)) else (none))) else (some false)) else (none))) else (some false)) else (some false)) else (some false))) = some r := H
  have A5 := Aside0.mk A50
  clear A50
  replace H := Option.bind_eq_some_iff.mp H
  obtain ⟨t180, A60, H⟩ := H
  replace H : (if t180 ≤ t179 then (if t179 ≥ 1 then (if t179 ≤ 10 then (if t179 = 1 then (if t179 = 10 then ((turncocklaw2_awake.f k).bind fun t181 => (some t181)) else (if 0 ≤ (IntKind.u64.wrap (7 * (IntKind.u64.wrap (t179)))) then (if (shr .u64 (ji4) (IntKind.u64.wrap (7 * (IntKind.u64.wrap (t179))))) = 0 then ((turncocklaw2_awake.f k).bind fun t182 => (some t182)) else (some false)) else (none))) else (if 0 ≤ (IntKind.u64.wrap (7 * (IntKind.u64.wrap (wrap64 (t179 - 1))))) then (if (shr .u64 (ji4) (IntKind.u64.wrap (7 * (IntKind.u64.wrap (wrap64 (t179 - 1)))))) > 0 then (if t179 = 10 then ((turncocklaw2_awake.f k).bind fun t183 => (some t183)) else (if 0 ≤ (IntKind.u64.wrap (7 * (IntKind.u64.wrap (t179)))) then (if (shr .u64 (ji4) (IntKind.u64.wrap (7 * (IntKind.u64.wrap (t179))))) = 0 then ((turncocklaw2_awake.f k).bind fun t184 => (some t184)) else (some false)) else (none))) else (some false)) else (none))) else (some false)) else (some false)) else (some false)) = some r := H
  have A6 := Aside0.mk A60
  clear A60
  by_cases c7 : t180 ≤ t179
  · rw [if_pos c7] at H
    have c7b0 : decide (t180 ≤ t179) = true := decide_eq_true c7
    clear c7
    by_cases c8 : t179 ≥ 1
    · rw [if_pos c8] at H
      have c8b0 : decide (1 ≤ t179) = true := decide_eq_true c8
      clear c8
      by_cases c9 : t179 ≤ 10
      · rw [if_pos c9] at H
        have c9b0 : decide (t179 ≤ 10) = true := decide_eq_true c9
        clear c9
        by_cases c10 : t179 = 1
        · rw [if_pos c10] at H
          have c10b0 : (t179 == 1) = true := beq_iff_eq.mpr c10
          have c10b1 : (t179 != 1) = false := bne_eq_false_iff_eq.mpr c10
          clear c10
          by_cases c11 : t179 = 10
          · rw [if_pos c11] at H
            have c11b0 : (t179 == 10) = true := beq_iff_eq.mpr c11
            have c11b1 : (t179 != 10) = false := bne_eq_false_iff_eq.mpr c11
            clear c11
            replace H := Option.bind_eq_some_iff.mp H
            obtain ⟨t181, A120, H⟩ := H
            replace H : (some t181) = some r := H
            have A12 := Aside0.mk A120
            clear A120
            obtain rfl := Option.some.inj H
            go_enter Try.func6, Try.ntmps6
            go_wp2_with (first | ((with_reducible refine gate_callee (f := 32) rfl ?_); refine goesL_ (some 15) rfl rfl Try.func32 (by kernel_rfl) rfl #[.int .u64 ji4] rfl (by (try simp only [List.map_toArray, List.map_cons, List.map_nil]); first | done | (simp only [hji4]; rfl) | rfl | (simp only [List.length_drop, List.length_take]; rfl)) ?_; (with_reducible refine (varint_Len.calls k ji4 t179 _ A5.out).mono ?_); rintro e w' ⟨rfl, ⟨nd, rfl⟩⟩; refine ⟨_, rfl, ?_⟩) | ((with_reducible refine gate_callee (f := 32) rfl ?_); refine goesL_ (some 17) rfl rfl Try.func32 (by kernel_rfl) rfl #[.int .u64 ji3] rfl (by (try simp only [List.map_toArray, List.map_cons, List.map_nil]); first | done | (simp only [hji3]; rfl) | rfl | (simp only [List.length_drop, List.length_take]; rfl)) ?_; (with_reducible refine (varint_Len.calls k ji3 t180 _ A6.out).mono ?_); rintro e w' ⟨rfl, ⟨nd, rfl⟩⟩; refine ⟨_, rfl, ?_⟩) | (go_at_call 27; (with_reducible refine (turncocklaw2_awake.calls k  t181 _ A12.out).mono ?_); rintro e w13 ⟨rfl, hb⟩; have n0_ := Aside0.mk (below_step (by repeat (first | (with_reducible first | exact HB.out | apply below_alloc | apply pw_below_drewN | apply below_drew1) | exact HB.out)) hb); clear HB; have HB := n0_; clear n0_; (try clear hb); (try clear hb2); (try clear hk); (try clear hi)))
            go_ret
            exact ⟨by first | rfl | (simp [errW_none, errW_some] <;> rfl) | (simp only [← hji3, ← hji4]; first | rfl | (simp [errW_none, errW_some] <;> rfl)) | (simp [*, errW_none, errW_some] <;> rfl), by repeat (first | (with_reducible first | exact HB.out | apply below_alloc | apply pw_below_drewN | apply below_drew1) | exact HB.out)⟩
          · rw [if_neg c11] at H
            have c11b0 : (t179 == 10) = false := beq_eq_false_iff_ne.mpr c11
            have c11b1 : (t179 != 10) = true := bne_iff_ne.mpr c11
            obtain ⟨ji14, hji14⟩ : ∃ j_ : Int, (IntKind.u64.wrap (7 * (IntKind.u64.wrap (t179)))) = j_ := ⟨_, rfl⟩
            replace H : (if 0 ≤ (ji14) then (if (shr .u64 (ji4) (ji14)) = 0 then ((turncocklaw2_awake.f k).bind fun t182 => (some t182)) else (some false)) else (none)) = some r := by first | (rw [hji14] at H; exact H) | (simp only [hji14] at H ⊢; exact H)
            (try rw [hji14] at A5)
            (try rw [hji14] at A6)
            by_cases c15 : 0 ≤ (ji14)
            · rw [if_pos c15] at H
              have c15b0 := eq_true c15
              have c15b1 : decide (0 ≤ (ji14)) = true := decide_eq_true c15
              clear c15
              obtain ⟨ji16, hji16⟩ : ∃ j_ : Int, (shr .u64 (ji4) (ji14)) = j_ := ⟨_, rfl⟩
              replace H : (if (ji16) = 0 then ((turncocklaw2_awake.f k).bind fun t182 => (some t182)) else (some false)) = some r := by first | (rw [hji16] at H; exact H) | (simp only [hji16] at H ⊢; exact H)
              (try rw [hji16] at A5)
              (try rw [hji16] at A6)
              have hji16_ : ((ji4) / 2 ^ min (ji14).toNat 64) = ji16 := hji16
              have hji16z : (ji14) ≤ 64 → ((ji4) / 2 ^ (ji14).toNat) = ji16 := shr_small hji16
              by_cases c17 : (ji16) = 0
              · rw [if_pos c17] at H
                have c17b0 : ((ji16) == 0) = true := beq_iff_eq.mpr c17
                have c17b1 : ((ji16) != 0) = false := bne_eq_false_iff_eq.mpr c17
                clear c17
                replace H := Option.bind_eq_some_iff.mp H
                obtain ⟨t182, A180, H⟩ := H
                replace H : (some t182) = some r := H
                have A18 := Aside0.mk A180
                clear A180
                obtain rfl := Option.some.inj H
                go_enter Try.func6, Try.ntmps6
                go_wp2_with (first | ((with_reducible refine gate_callee (f := 32) rfl ?_); refine goesL_ (some 15) rfl rfl Try.func32 (by kernel_rfl) rfl #[.int .u64 ji4] rfl (by (try simp only [List.map_toArray, List.map_cons, List.map_nil]); first | done | (simp only [hji4]; rfl) | rfl | (simp only [List.length_drop, List.length_take]; rfl)) ?_; (with_reducible refine (varint_Len.calls k ji4 t179 _ A5.out).mono ?_); rintro e w' ⟨rfl, ⟨nd, rfl⟩⟩; refine ⟨_, rfl, ?_⟩) | ((with_reducible refine gate_callee (f := 32) rfl ?_); refine goesL_ (some 17) rfl rfl Try.func32 (by kernel_rfl) rfl #[.int .u64 ji3] rfl (by (try simp only [List.map_toArray, List.map_cons, List.map_nil]); first | done | (simp only [hji3]; rfl) | rfl | (simp only [List.length_drop, List.length_take]; rfl)) ?_; (with_reducible refine (varint_Len.calls k ji3 t180 _ A6.out).mono ?_); rintro e w' ⟨rfl, ⟨nd, rfl⟩⟩; refine ⟨_, rfl, ?_⟩) | (go_at_call 27; (with_reducible refine (turncocklaw2_awake.calls k  t182 _ A18.out).mono ?_); rintro e w19 ⟨rfl, hb⟩; have n0_ := Aside0.mk (below_step (by repeat (first | (with_reducible first | exact HB.out | apply below_alloc | apply pw_below_drewN | apply below_drew1) | exact HB.out)) hb); clear HB; have HB := n0_; clear n0_; (try clear hb); (try clear hb2); (try clear hk); (try clear hi)))
                go_ret
                exact ⟨by first | rfl | (simp [errW_none, errW_some] <;> rfl) | (simp only [← hji3, ← hji4, ← hji14, ← hji16]; first | rfl | (simp [errW_none, errW_some] <;> rfl)) | (simp [*, errW_none, errW_some] <;> rfl), by repeat (first | (with_reducible first | exact HB.out | apply below_alloc | apply pw_below_drewN | apply below_drew1) | exact HB.out)⟩
              · rw [if_neg c17] at H
                have c17b0 : ((ji16) == 0) = false := beq_eq_false_iff_ne.mpr c17
                have c17b1 : ((ji16) != 0) = true := bne_iff_ne.mpr c17
                obtain rfl := Option.some.inj H
                go_enter Try.func6, Try.ntmps6
                go_wp2_with (first | ((with_reducible refine gate_callee (f := 32) rfl ?_); refine goesL_ (some 15) rfl rfl Try.func32 (by kernel_rfl) rfl #[.int .u64 ji4] rfl (by (try simp only [List.map_toArray, List.map_cons, List.map_nil]); first | done | (simp only [hji4]; rfl) | rfl | (simp only [List.length_drop, List.length_take]; rfl)) ?_; (with_reducible refine (varint_Len.calls k ji4 t179 _ A5.out).mono ?_); rintro e w' ⟨rfl, ⟨nd, rfl⟩⟩; refine ⟨_, rfl, ?_⟩) | ((with_reducible refine gate_callee (f := 32) rfl ?_); refine goesL_ (some 17) rfl rfl Try.func32 (by kernel_rfl) rfl #[.int .u64 ji3] rfl (by (try simp only [List.map_toArray, List.map_cons, List.map_nil]); first | done | (simp only [hji3]; rfl) | rfl | (simp only [List.length_drop, List.length_take]; rfl)) ?_; (with_reducible refine (varint_Len.calls k ji3 t180 _ A6.out).mono ?_); rintro e w' ⟨rfl, ⟨nd, rfl⟩⟩; refine ⟨_, rfl, ?_⟩))
                go_ret
                exact ⟨by first | rfl | (simp [errW_none, errW_some] <;> rfl) | (simp only [← hji3, ← hji4, ← hji14, ← hji16]; first | rfl | (simp [errW_none, errW_some] <;> rfl)) | (simp [*, errW_none, errW_some] <;> rfl), by repeat (first | (with_reducible first | exact HB.out | apply below_alloc | apply pw_below_drewN | apply below_drew1) | exact HB.out)⟩
            · rw [if_neg c15] at H
              exact absurd H (by simp)
        · rw [if_neg c10] at H
          have c10b0 : (t179 == 1) = false := beq_eq_false_iff_ne.mpr c10
          have c10b1 : (t179 != 1) = true := bne_iff_ne.mpr c10
          obtain ⟨ji20, hji20⟩ : ∃ j_ : Int, (IntKind.u64.wrap (7 * (IntKind.u64.wrap (wrap64 (t179 - 1))))) = j_ := ⟨_, rfl⟩
          replace H : (if 0 ≤ (ji20) then (if (shr .u64 (ji4) (ji20)) > 0 then (if t179 = 10 then ((turncocklaw2_awake.f k).bind fun t183 => (some t183)) else (if 0 ≤ (IntKind.u64.wrap (7 * (IntKind.u64.wrap (t179)))) then (if (shr .u64 (ji4) (IntKind.u64.wrap (7 * (IntKind.u64.wrap (t179))))) = 0 then ((turncocklaw2_awake.f k).bind fun t184 => (some t184)) else (some false)) else (none))) else (some false)) else (none)) = some r := by first | (rw [hji20] at H; exact H) | (simp only [hji20] at H ⊢; exact H)
          (try rw [hji20] at A5)
          (try rw [hji20] at A6)
          by_cases c21 : 0 ≤ (ji20)
          · rw [if_pos c21] at H
            have c21b0 := eq_true c21
            have c21b1 : decide (0 ≤ (ji20)) = true := decide_eq_true c21
            clear c21
            obtain ⟨ji22, hji22⟩ : ∃ j_ : Int, (shr .u64 (ji4) (ji20)) = j_ := ⟨_, rfl⟩
            replace H : (if (ji22) > 0 then (if t179 = 10 then ((turncocklaw2_awake.f k).bind fun t183 => (some t183)) else (if 0 ≤ (IntKind.u64.wrap (7 * (IntKind.u64.wrap (t179)))) then (if (shr .u64 (ji4) (IntKind.u64.wrap (7 * (IntKind.u64.wrap (t179))))) = 0 then ((turncocklaw2_awake.f k).bind fun t184 => (some t184)) else (some false)) else (none))) else (some false)) = some r := by first | (rw [hji22] at H; exact H) | (simp only [hji22] at H ⊢; exact H)
            (try rw [hji22] at A5)
            (try rw [hji22] at A6)
            have hji22_ : ((ji4) / 2 ^ min (ji20).toNat 64) = ji22 := hji22
            have hji22z : (ji20) ≤ 64 → ((ji4) / 2 ^ (ji20).toNat) = ji22 := shr_small hji22
            by_cases c23 : (ji22) > 0
            · rw [if_pos c23] at H
              have c23b0 : decide (0 < (ji22)) = true := decide_eq_true c23
              clear c23
              by_cases c24 : t179 = 10
              · rw [if_pos c24] at H
                have c24b0 : (t179 == 10) = true := beq_iff_eq.mpr c24
                have c24b1 : (t179 != 10) = false := bne_eq_false_iff_eq.mpr c24
                clear c24
                replace H := Option.bind_eq_some_iff.mp H
                obtain ⟨t183, A250, H⟩ := H
                replace H : (some t183) = some r := H
                have A25 := Aside0.mk A250
                clear A250
                obtain rfl := Option.some.inj H
                go_enter Try.func6, Try.ntmps6
                go_wp2_with (first | ((with_reducible refine gate_callee (f := 32) rfl ?_); refine goesL_ (some 15) rfl rfl Try.func32 (by kernel_rfl) rfl #[.int .u64 ji4] rfl (by (try simp only [List.map_toArray, List.map_cons, List.map_nil]); first | done | (simp only [hji4]; rfl) | rfl | (simp only [List.length_drop, List.length_take]; rfl)) ?_; (with_reducible refine (varint_Len.calls k ji4 t179 _ A5.out).mono ?_); rintro e w' ⟨rfl, ⟨nd, rfl⟩⟩; refine ⟨_, rfl, ?_⟩) | ((with_reducible refine gate_callee (f := 32) rfl ?_); refine goesL_ (some 17) rfl rfl Try.func32 (by kernel_rfl) rfl #[.int .u64 ji3] rfl (by (try simp only [List.map_toArray, List.map_cons, List.map_nil]); first | done | (simp only [hji3]; rfl) | rfl | (simp only [List.length_drop, List.length_take]; rfl)) ?_; (with_reducible refine (varint_Len.calls k ji3 t180 _ A6.out).mono ?_); rintro e w' ⟨rfl, ⟨nd, rfl⟩⟩; refine ⟨_, rfl, ?_⟩) | (go_at_call 27; (with_reducible refine (turncocklaw2_awake.calls k  t183 _ A25.out).mono ?_); rintro e w26 ⟨rfl, hb⟩; have n0_ := Aside0.mk (below_step (by repeat (first | (with_reducible first | exact HB.out | apply below_alloc | apply pw_below_drewN | apply below_drew1) | exact HB.out)) hb); clear HB; have HB := n0_; clear n0_; (try clear hb); (try clear hb2); (try clear hk); (try clear hi)))
                go_ret
                exact ⟨by first | rfl | (simp [errW_none, errW_some] <;> rfl) | (simp only [← hji3, ← hji4, ← hji20, ← hji22]; first | rfl | (simp [errW_none, errW_some] <;> rfl)) | (simp [*, errW_none, errW_some] <;> rfl), by repeat (first | (with_reducible first | exact HB.out | apply below_alloc | apply pw_below_drewN | apply below_drew1) | exact HB.out)⟩
              · rw [if_neg c24] at H
                have c24b0 : (t179 == 10) = false := beq_eq_false_iff_ne.mpr c24
                have c24b1 : (t179 != 10) = true := bne_iff_ne.mpr c24
                obtain ⟨ji27, hji27⟩ : ∃ j_ : Int, (IntKind.u64.wrap (7 * (IntKind.u64.wrap (t179)))) = j_ := ⟨_, rfl⟩
                replace H : (if 0 ≤ (ji27) then (if (shr .u64 (ji4) (ji27)) = 0 then ((turncocklaw2_awake.f k).bind fun t184 => (some t184)) else (some false)) else (none)) = some r := by first | (rw [hji27] at H; exact H) | (simp only [hji27] at H ⊢; exact H)
                (try rw [hji27] at A5)
                (try rw [hji27] at A6)
                by_cases c28 : 0 ≤ (ji27)
                · rw [if_pos c28] at H
                  have c28b0 := eq_true c28
                  have c28b1 : decide (0 ≤ (ji27)) = true := decide_eq_true c28
                  clear c28
                  obtain ⟨ji29, hji29⟩ : ∃ j_ : Int, (shr .u64 (ji4) (ji27)) = j_ := ⟨_, rfl⟩
                  replace H : (if (ji29) = 0 then ((turncocklaw2_awake.f k).bind fun t184 => (some t184)) else (some false)) = some r := by first | (rw [hji29] at H; exact H) | (simp only [hji29] at H ⊢; exact H)
                  (try rw [hji29] at A5)
                  (try rw [hji29] at A6)
                  have hji29_ : ((ji4) / 2 ^ min (ji27).toNat 64) = ji29 := hji29
                  have hji29z : (ji27) ≤ 64 → ((ji4) / 2 ^ (ji27).toNat) = ji29 := shr_small hji29
                  by_cases c30 : (ji29) = 0
                  · rw [if_pos c30] at H
                    have c30b0 : ((ji29) == 0) = true := beq_iff_eq.mpr c30
                    have c30b1 : ((ji29) != 0) = false := bne_eq_false_iff_eq.mpr c30
                    clear c30
                    replace H := Option.bind_eq_some_iff.mp H
                    obtain ⟨t184, A310, H⟩ := H
                    replace H : (some t184) = some r := H
                    have A31 := Aside0.mk A310
                    clear A310
                    obtain rfl := Option.some.inj H
                    go_enter Try.func6, Try.ntmps6
                    go_wp2_with (first | ((with_reducible refine gate_callee (f := 32) rfl ?_); refine goesL_ (some 15) rfl rfl Try.func32 (by kernel_rfl) rfl #[.int .u64 ji4] rfl (by (try simp only [List.map_toArray, List.map_cons, List.map_nil]); first | done | (simp only [hji4]; rfl) | rfl | (simp only [List.length_drop, List.length_take]; rfl)) ?_; (with_reducible refine (varint_Len.calls k ji4 t179 _ A5.out).mono ?_); rintro e w' ⟨rfl, ⟨nd, rfl⟩⟩; refine ⟨_, rfl, ?_⟩) | ((with_reducible refine gate_callee (f := 32) rfl ?_); refine goesL_ (some 17) rfl rfl Try.func32 (by kernel_rfl) rfl #[.int .u64 ji3] rfl (by (try simp only [List.map_toArray, List.map_cons, List.map_nil]); first | done | (simp only [hji3]; rfl) | rfl | (simp only [List.length_drop, List.length_take]; rfl)) ?_; (with_reducible refine (varint_Len.calls k ji3 t180 _ A6.out).mono ?_); rintro e w' ⟨rfl, ⟨nd, rfl⟩⟩; refine ⟨_, rfl, ?_⟩) | (go_at_call 27; (with_reducible refine (turncocklaw2_awake.calls k  t184 _ A31.out).mono ?_); rintro e w32 ⟨rfl, hb⟩; have n0_ := Aside0.mk (below_step (by repeat (first | (with_reducible first | exact HB.out | apply below_alloc | apply pw_below_drewN | apply below_drew1) | exact HB.out)) hb); clear HB; have HB := n0_; clear n0_; (try clear hb); (try clear hb2); (try clear hk); (try clear hi)))
                    go_ret
                    exact ⟨by first | rfl | (simp [errW_none, errW_some] <;> rfl) | (simp only [← hji3, ← hji4, ← hji20, ← hji22, ← hji27, ← hji29]; first | rfl | (simp [errW_none, errW_some] <;> rfl)) | (simp [*, errW_none, errW_some] <;> rfl), by repeat (first | (with_reducible first | exact HB.out | apply below_alloc | apply pw_below_drewN | apply below_drew1) | exact HB.out)⟩
                  · rw [if_neg c30] at H
                    have c30b0 : ((ji29) == 0) = false := beq_eq_false_iff_ne.mpr c30
                    have c30b1 : ((ji29) != 0) = true := bne_iff_ne.mpr c30
                    obtain rfl := Option.some.inj H
                    go_enter Try.func6, Try.ntmps6
                    go_wp2_with (first | ((with_reducible refine gate_callee (f := 32) rfl ?_); refine goesL_ (some 15) rfl rfl Try.func32 (by kernel_rfl) rfl #[.int .u64 ji4] rfl (by (try simp only [List.map_toArray, List.map_cons, List.map_nil]); first | done | (simp only [hji4]; rfl) | rfl | (simp only [List.length_drop, List.length_take]; rfl)) ?_; (with_reducible refine (varint_Len.calls k ji4 t179 _ A5.out).mono ?_); rintro e w' ⟨rfl, ⟨nd, rfl⟩⟩; refine ⟨_, rfl, ?_⟩) | ((with_reducible refine gate_callee (f := 32) rfl ?_); refine goesL_ (some 17) rfl rfl Try.func32 (by kernel_rfl) rfl #[.int .u64 ji3] rfl (by (try simp only [List.map_toArray, List.map_cons, List.map_nil]); first | done | (simp only [hji3]; rfl) | rfl | (simp only [List.length_drop, List.length_take]; rfl)) ?_; (with_reducible refine (varint_Len.calls k ji3 t180 _ A6.out).mono ?_); rintro e w' ⟨rfl, ⟨nd, rfl⟩⟩; refine ⟨_, rfl, ?_⟩))
                    go_ret
                    exact ⟨by first | rfl | (simp [errW_none, errW_some] <;> rfl) | (simp only [← hji3, ← hji4, ← hji20, ← hji22, ← hji27, ← hji29]; first | rfl | (simp [errW_none, errW_some] <;> rfl)) | (simp [*, errW_none, errW_some] <;> rfl), by repeat (first | (with_reducible first | exact HB.out | apply below_alloc | apply pw_below_drewN | apply below_drew1) | exact HB.out)⟩
                · rw [if_neg c28] at H
                  exact absurd H (by simp)
            · rw [if_neg c23] at H
              have c23b0 : decide (0 < (ji22)) = false := decide_eq_false c23
              clear c23
              obtain rfl := Option.some.inj H
              go_enter Try.func6, Try.ntmps6
              go_wp2_with (first | ((with_reducible refine gate_callee (f := 32) rfl ?_); refine goesL_ (some 15) rfl rfl Try.func32 (by kernel_rfl) rfl #[.int .u64 ji4] rfl (by (try simp only [List.map_toArray, List.map_cons, List.map_nil]); first | done | (simp only [hji4]; rfl) | rfl | (simp only [List.length_drop, List.length_take]; rfl)) ?_; (with_reducible refine (varint_Len.calls k ji4 t179 _ A5.out).mono ?_); rintro e w' ⟨rfl, ⟨nd, rfl⟩⟩; refine ⟨_, rfl, ?_⟩) | ((with_reducible refine gate_callee (f := 32) rfl ?_); refine goesL_ (some 17) rfl rfl Try.func32 (by kernel_rfl) rfl #[.int .u64 ji3] rfl (by (try simp only [List.map_toArray, List.map_cons, List.map_nil]); first | done | (simp only [hji3]; rfl) | rfl | (simp only [List.length_drop, List.length_take]; rfl)) ?_; (with_reducible refine (varint_Len.calls k ji3 t180 _ A6.out).mono ?_); rintro e w' ⟨rfl, ⟨nd, rfl⟩⟩; refine ⟨_, rfl, ?_⟩))
              go_ret
              exact ⟨by first | rfl | (simp [errW_none, errW_some] <;> rfl) | (simp only [← hji3, ← hji4, ← hji20, ← hji22]; first | rfl | (simp [errW_none, errW_some] <;> rfl)) | (simp [*, errW_none, errW_some] <;> rfl), by repeat (first | (with_reducible first | exact HB.out | apply below_alloc | apply pw_below_drewN | apply below_drew1) | exact HB.out)⟩
          · rw [if_neg c21] at H
            exact absurd H (by simp)
      · rw [if_neg c9] at H
        have c9b0 : decide (t179 ≤ 10) = false := decide_eq_false c9
        clear c9
        obtain rfl := Option.some.inj H
        go_enter Try.func6, Try.ntmps6
        go_wp2_with (first | ((with_reducible refine gate_callee (f := 32) rfl ?_); refine goesL_ (some 15) rfl rfl Try.func32 (by kernel_rfl) rfl #[.int .u64 ji4] rfl (by (try simp only [List.map_toArray, List.map_cons, List.map_nil]); first | done | (simp only [hji4]; rfl) | rfl | (simp only [List.length_drop, List.length_take]; rfl)) ?_; (with_reducible refine (varint_Len.calls k ji4 t179 _ A5.out).mono ?_); rintro e w' ⟨rfl, ⟨nd, rfl⟩⟩; refine ⟨_, rfl, ?_⟩) | ((with_reducible refine gate_callee (f := 32) rfl ?_); refine goesL_ (some 17) rfl rfl Try.func32 (by kernel_rfl) rfl #[.int .u64 ji3] rfl (by (try simp only [List.map_toArray, List.map_cons, List.map_nil]); first | done | (simp only [hji3]; rfl) | rfl | (simp only [List.length_drop, List.length_take]; rfl)) ?_; (with_reducible refine (varint_Len.calls k ji3 t180 _ A6.out).mono ?_); rintro e w' ⟨rfl, ⟨nd, rfl⟩⟩; refine ⟨_, rfl, ?_⟩))
        go_ret
        exact ⟨by first | rfl | (simp [errW_none, errW_some] <;> rfl) | (simp only [← hji3, ← hji4]; first | rfl | (simp [errW_none, errW_some] <;> rfl)) | (simp [*, errW_none, errW_some] <;> rfl), by repeat (first | (with_reducible first | exact HB.out | apply below_alloc | apply pw_below_drewN | apply below_drew1) | exact HB.out)⟩
    · rw [if_neg c8] at H
      have c8b0 : decide (1 ≤ t179) = false := decide_eq_false c8
      clear c8
      obtain rfl := Option.some.inj H
      go_enter Try.func6, Try.ntmps6
      go_wp2_with (first | ((with_reducible refine gate_callee (f := 32) rfl ?_); refine goesL_ (some 15) rfl rfl Try.func32 (by kernel_rfl) rfl #[.int .u64 ji4] rfl (by (try simp only [List.map_toArray, List.map_cons, List.map_nil]); first | done | (simp only [hji4]; rfl) | rfl | (simp only [List.length_drop, List.length_take]; rfl)) ?_; (with_reducible refine (varint_Len.calls k ji4 t179 _ A5.out).mono ?_); rintro e w' ⟨rfl, ⟨nd, rfl⟩⟩; refine ⟨_, rfl, ?_⟩) | ((with_reducible refine gate_callee (f := 32) rfl ?_); refine goesL_ (some 17) rfl rfl Try.func32 (by kernel_rfl) rfl #[.int .u64 ji3] rfl (by (try simp only [List.map_toArray, List.map_cons, List.map_nil]); first | done | (simp only [hji3]; rfl) | rfl | (simp only [List.length_drop, List.length_take]; rfl)) ?_; (with_reducible refine (varint_Len.calls k ji3 t180 _ A6.out).mono ?_); rintro e w' ⟨rfl, ⟨nd, rfl⟩⟩; refine ⟨_, rfl, ?_⟩))
      go_ret
      exact ⟨by first | rfl | (simp [errW_none, errW_some] <;> rfl) | (simp only [← hji3, ← hji4]; first | rfl | (simp [errW_none, errW_some] <;> rfl)) | (simp [*, errW_none, errW_some] <;> rfl), by repeat (first | (with_reducible first | exact HB.out | apply below_alloc | apply pw_below_drewN | apply below_drew1) | exact HB.out)⟩
  · rw [if_neg c7] at H
    have c7b0 : decide (t180 ≤ t179) = false := decide_eq_false c7
    clear c7
    obtain rfl := Option.some.inj H
    go_enter Try.func6, Try.ntmps6
    go_wp2_with (first | ((with_reducible refine gate_callee (f := 32) rfl ?_); refine goesL_ (some 15) rfl rfl Try.func32 (by kernel_rfl) rfl #[.int .u64 ji4] rfl (by (try simp only [List.map_toArray, List.map_cons, List.map_nil]); first | done | (simp only [hji4]; rfl) | rfl | (simp only [List.length_drop, List.length_take]; rfl)) ?_; (with_reducible refine (varint_Len.calls k ji4 t179 _ A5.out).mono ?_); rintro e w' ⟨rfl, ⟨nd, rfl⟩⟩; refine ⟨_, rfl, ?_⟩) | ((with_reducible refine gate_callee (f := 32) rfl ?_); refine goesL_ (some 17) rfl rfl Try.func32 (by kernel_rfl) rfl #[.int .u64 ji3] rfl (by (try simp only [List.map_toArray, List.map_cons, List.map_nil]); first | done | (simp only [hji3]; rfl) | rfl | (simp only [List.length_drop, List.length_take]; rfl)) ?_; (with_reducible refine (varint_Len.calls k ji3 t180 _ A6.out).mono ?_); rintro e w' ⟨rfl, ⟨nd, rfl⟩⟩; refine ⟨_, rfl, ?_⟩))
    go_ret
    exact ⟨by first | rfl | (simp [errW_none, errW_some] <;> rfl) | (simp only [← hji3, ← hji4]; first | rfl | (simp [errW_none, errW_some] <;> rfl)) | (simp [*, errW_none, errW_some] <;> rfl), by repeat (first | (with_reducible first | exact HB.out | apply below_alloc | apply pw_below_drewN | apply below_drew1) | exact HB.out)⟩

/-- THE ONE PURE STATEMENT of turncocklaw2_VarintOrder: yours. -/
def turncocklaw2_VarintOrder.Pure : Prop := ∀ (a0 : Int) (a1 : Int), (Lit.int .u64 a0).wf = true → (Lit.int .u64 a1).wf = true → ∃ k, turncocklaw2_VarintOrder.f k a0 a1 = some true
theorem turncocklaw2_VarintOrder.walk (P : turncocklaw2_VarintOrder.Pure) (a0 : Int) (a1 : Int) (w : World) (w0 : (Lit.int .u64 a0).wf = true) (w1 : (Lit.int .u64 a1).wf = true) :
    Calls Try.prog 6 #[.int .u64 a0, .int .u64 a1] w fun e w' => e = .returned (.bool true) ∧ Below w.heap.size w w' := by
  obtain ⟨k, h⟩ := P a0 a1 w0 w1
  refine (turncocklaw2_VarintOrder.calls k a0 a1 true w h).mono ?_
  rintro e w' ⟨rfl, hd⟩
  exact ⟨rfl, hd⟩

end Go.Proofs.Ytnhblhhkjnmkkaa.Q
