/- Printed by this session's own program out of the translation: each function as a plain Lean function, and its contract. -/
import Derived.Test.YtnhblhhkjnmkkaaQ0
import Derived.Test.YtnhblhhkjnmkkaaQ11
namespace Go.Proofs.Ytnhblhhkjnmkkaa.Q
open Go.RowKit Go.Proofs.YtnhblhhkjnmkkaaW.PrintWords Go.Proofs.YtnhblhhkjnmkkaaW.PrintLast Go.Proofs.YtnhblhhkjnmkkaaW.PrintMore
attribute [local go_sem] max2_int min2_int max_two min_two max_three min_three max_four min_four   -- for this text's walks alone
set_option linter.unusedVariables false
set_option linter.unusedSimpArgs false

/-! ### turncockref1_text: function 101 -/
def turncockref1_text.f (k : Nat) (l0 : List Int) (a1 : ByteArray) : Option (List Int) := (turncockref1_Put.f k l0 (IntKind.u64.wrap (a1.size : Int))).bind fun y => if y.length + a1.size < 140737488355328 then some (y ++ bytesOf a1) else none
theorem turncockref1_text.mono (a0 : List Int) (a1 : ByteArray) (k : Nat) : LeO (turncockref1_text.f k a0 a1) (turncockref1_text.f (k + 1) a0 a1) :=
  LeO.bind (turncockref1_Put.mono _ _ _) (fun _ => LeO.refl _)
set_option maxHeartbeats 1000000 in
set_option maxRecDepth 100000 in
theorem turncockref1_text.calls (k : Nat) (A0 : Option Addr) (c0 : Nat) (l0 : List Int) (a1 : ByteArray) (r : List Int) (w : World) (hr0 : Kd.C (Kd.int .u8) w A0 l0.length l0) (hc0 : l0.length ≤ c0) (h : turncockref1_text.f k l0 a1 = some r) :
    Calls Try.prog 101 #[.slice A0 l0.length c0, .string a1] w fun e w' => ∃ v0_ : Value, e = .returned (v0_) ∧ Kd.R (Kd.int .u8) 5 w' w.heap.size (fun _ => True) v0_ r ∧ Below w.heap.size w w' := by
  have HR0 := Aside0.mk hr0
  have HC0 := Aside0.mk hc0
  clear hr0 hc0
  unfold turncockref1_text.f at h
  obtain ⟨y, hy, h2⟩ := Option.bind_eq_some_iff.1 h
  clear h
  have HY := Aside0.mk hy
  clear hy
  by_cases c3 : y.length + a1.size < 140737488355328
  · rw [if_pos c3] at h2
    obtain rfl := Option.some.inj h2
    clear h2
    have LMc3 := Aside0.mk c3
    have hsz : a1.size ≤ 9223372036854775807 := by omega
    clear c3
    have hw : IntKind.u64.wrap (a1.size : Int) = a1.size := by rw [IntKind.wrap_u64]; omega
    have HY2 := Aside0.mk (show turncockref1_Put.f k l0 (a1.size : Int) = some y by rw [← hw]; exact HY.out)
    clear hw HY
    have kb := fun W => print_bytes (P := Try.prog) 9 22 5 Try.underlying9 Try.underlying22 Try.underlying5 a1 W
    go_enter Try.func101, Try.ntmps101
    go_wp2_with fail
    (with_reducible refine (turncockref1_Put.calls k _ _ l0 _ y _ HR0.out HC0.out HY2.out).mono ?_)
    rintro e w1 ⟨v1, rfl, ho, hb⟩
    have HO := Aside0.mk ho
    have HB := Aside0.mk hb
    clear ho hb
    go_wp2_with ((with_reducible refine gate_builtin (b := .append) (xs := #[.tmp 9, .tmp 11]) rfl ?_); at_builtin; refine Kd.R_append_rows (Kd.int .u8) (w0 := w) w.heap.size rfl (.tmp 9) (.tmp 11) 22 5 (.int .u8 0) 1 rfl Try.underlying22 info5 rfl (by decide) (by omega) v1 y (bytesOf a1) (some ⟨w1.heap.size, 0, none⟩) a1.size _ (fun _ => True) (fun _ => False) rfl rfl ?aO ?aR (fun _ _ h => h) (fun _ h => h.elim) (fun _ _ => trivial) ?aB ?aS ?aL ?_; (case aR => exact Kd.C_of_reads (d := (0 : Int)) (h1 := fun _ => rfl) (bytes_reads w1 5 a1 hsz)); (case aO => exact Kd.R_below HO.out (bytes_below (Below.refl _ _) (Nat.le_refl _) 5 a1)); (case aB => exact bytes_below HB.out HB.out.size 5 a1); (case aS => rw [Lib.bytesWorld_size]; have := HB.out.size; omega); (case aL => have := LMc3.out; omega); intro v2 w2 ho hb hg hat; clear hg hat; have HO2 := Aside0.mk ho; have HB2 := Aside0.mk hb; clear ho hb HB HO)
    go_ret
    exact ⟨_, rfl, HO2.out, HB2.out⟩
  · rw [if_neg c3] at h2
    exact absurd h2 (by simp)

/-! ### turncockref1_num: function 102 -/
def turncockref1_num.f (k : Nat) (l0 : List Int) (a1 : Int) : Option (List Int) := (turncockref1_Put.f k l0 (IntKind.u64.wrap (a1))).bind fun t340 => (some t340)
theorem turncockref1_num.mono : ∀ a0 a1 k, LeO (turncockref1_num.f k a0 a1) (turncockref1_num.f (k + 1) a0 a1) := by
  intro a0 a1 k
  unfold turncockref1_num.f
  repeat' first
      | (with_reducible exact turncockref1_Put.mono _ _ _)
      | (with_reducible exact LeO.refl _)
      | (with_reducible exact LeO.none _)
      | (with_reducible refine LeO.ite ?_ ?_)
      | (with_reducible refine LeO.bind ?_ (fun _ => ?_))
      | exact turncockref1_Put.mono _ _ _
      | exact LeO.none _
      | refine LeO.ite ?_ ?_
      | refine LeO.bind ?_ (fun _ => ?_)
set_option maxHeartbeats 8000000 in
set_option maxRecDepth 100000 in
theorem turncockref1_num.calls (k : Nat) (A0 : Option Addr) (c0 : Nat) (l0 : List Int) (a1 : Int) (r : List Int) (w : World) (hr0 : Kd.C (Kd.int .u8) w A0 l0.length l0) (hc0 : l0.length ≤ c0) (h : turncockref1_num.f k l0 a1 = some r) :
    Calls Try.prog 102 #[.slice A0 l0.length c0, .int .i64 a1] w fun e w' => ∃ v0_ : Value, e = .returned (v0_) ∧ Kd.R (Kd.int .u8) 5 w' w.heap.size (fun _ => True) v0_ r ∧ Below w.heap.size w w' := by
  have HR0 := Aside0.mk hr0
  have HC0 := Aside0.mk hc0
  clear hr0 hc0
  have HB := Aside0.mk (Below.refl w.heap.size w)
  have H : ((turncockref1_Put.f k l0 (IntKind.u64.wrap (a1))).bind fun t340 => (some t340)) = some r := h
  clear h
  replace H := Option.bind_eq_some_iff.mp H
  obtain ⟨t340, A30, H⟩ := H
  replace H : (some t340) = some r := H
  have A3 := Aside0.mk A30
  clear A30
  obtain rfl := Option.some.inj H
  go_enter Try.func102, Try.ntmps102
  go_wp2_with (first | ((with_reducible refine gate_callee (f := 30) rfl ?_); refine goesL_ (some 8) rfl rfl Try.func30 (by kernel_rfl) rfl #[.slice A0 l0.length c0, .int .u64 (IntKind.u64.wrap (a1))] rfl (by (try simp only [List.map_toArray, List.map_cons, List.map_nil]); first | done | rfl | (simp only [List.length_drop, List.length_take]; rfl)) ?_; (with_reducible refine (turncockref1_Put.calls k _ _ l0 (IntKind.u64.wrap (a1)) t340 _ ?side1 ?side2 A3.out).mono ?_); (case side1 => repeat (first | exact HR0.out | (with_reducible refine Kd.C_alloc ?_ _) | (with_reducible refine Kd.C_drewN ?_ _) | (with_reducible refine Kd.C_drew ?_))); (case side2 => exact HC0.out); rintro e w4 ⟨v341, rfl, ho0, hb⟩; refine ⟨_, rfl, ?_⟩; have n0_ := Aside0.mk (Kd.R_lower ho0 (below_size (by repeat (first | (with_reducible first | exact HB.out | apply below_alloc | apply pw_below_drewN | apply below_drew1) | exact HB.out)))); have n1_ := Aside0.mk (below_step (by repeat (first | (with_reducible first | exact HB.out | apply below_alloc | apply pw_below_drewN | apply below_drew1) | exact HB.out)) hb); clear HB; have HO342 := n0_; have HB := n1_; clear n0_ n1_; (try clear hb); (try clear hb2); (try clear hk); (try clear hi); (try clear ho0)))
  go_ret
  exact ⟨_, by first | rfl | (simp [errW_none, errW_some] <;> rfl) | (simp [*, errW_none, errW_some] <;> rfl), by (with_reducible repeat (first | apply Kd.R_alloc | apply Kd.R_drewN | apply Kd.R_drew)); exact HO342.out, by repeat (first | (with_reducible first | exact HB.out | apply below_alloc | apply pw_below_drewN | apply below_drew1) | exact HB.out)⟩

end Go.Proofs.Ytnhblhhkjnmkkaa.Q
