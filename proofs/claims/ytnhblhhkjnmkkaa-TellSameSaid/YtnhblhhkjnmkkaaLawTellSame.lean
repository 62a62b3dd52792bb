/- The row of the law TellSame, out of its contract and the plain statement Pure.TellSame. No condition beyond the row's own. -/
import Derived.Test.YtnhblhhkjnmkkaaHd
import Derived.Test.YtnhblhhkjnmkkaaRows
import Derived.Test.YtnhblhhkjnmkkaaOp
import Derived.Test.YtnhblhhkjnmkkaaPureTellSame
import Derived.Test.YtnhblhhkjnmkkaaQ44
import Derived.WalkKit
import Derived.ProofKit
import Derived.OpenShut
import Derived.ShutString
import Derived.ChangeOld
import Derived.Below
import Derived.SizedLaws
namespace Go.Proofs.Ytnhblhhkjnmkkaa.tellSame
open Go.ChangeShapes Go.WideShapes Go.ChangeAt Go.RowKit
open Go.ChangeMaps (open_string shut_string)
open Go.Proofs.Ytnhblhhkjnmkkaa.Q Go.Proofs.Ytnhblhhkjnmkkaa.Op Go.Proofs.YtnhblhhkjnmkkaaW.PrintWords
set_option linter.unusedVariables false
theorem own : ownKnob Try.prog.godebug = none := by kernel_rfl
theorem laidOut : laidOutB Try.prog = true := by kernel_rfl
theorem opens154 {H : Type} {enc : TypeId × Value → H} {W : World} : Opens enc Try.prog W 154 k154 (fun x => good154 x) := opens_iso (fun x : S154 => (x.f0, x.f1, x.f2, x.f3, x.f4)) (fun y => ⟨y.1, y.2.1, y.2.2.1, y.2.2.2.1, y.2.2.2.2⟩) (fun _ => rfl) (opens_struct5 Try.underlying154 (by kernel_rfl) ⟨rfl, by kernel_rfl⟩ ⟨rfl, by kernel_rfl⟩ ⟨rfl, by kernel_rfl⟩ ⟨rfl, by kernel_rfl⟩ ⟨rfl, by kernel_rfl⟩ (opens_int Try.underlying3) (opens_int Try.underlying3) (opens_int Try.underlying3) (opens_int Try.underlying3) (opens_int Try.underlying3))
theorem opens152 {H : Type} {enc : TypeId × Value → H} {W : World} : Opens enc Try.prog W 152 k152 (fun x => good152 x) := opens_iso (fun x : S152 => (x.f0, x.f1)) (fun y => ⟨y.1, y.2⟩) (fun _ => rfl) (opens_struct2 Try.underlying152 (by kernel_rfl) ⟨rfl, by kernel_rfl⟩ ⟨rfl, by kernel_rfl⟩ (opens_string Try.underlying9) (opens_string Try.underlying9))
set_option maxRecDepth 100000 in
theorem lifted (os : Os) (started : os.Started) (H : Type) (enc : TypeId × Value → H) :
    ReturnsInHanded {} Try.checked os 26 .any (Rows.tellSameSpec.pre6 enc Try.prog Try.f26 Rows.tellSameRow.domain false) (Rows.tellSameSpec.post enc Try.prog Try.f26 false true false false) := by
  refine returnsInHanded_of_change_sized (C := Try.checked) own started (by kernel_rfl) Try.func26
    (ChangeSpec.witness6 (enc := enc) (C := Try.checked) false ⟨#[], #[.agg #[.int .i64 0, .int .i64 0, .bool false, .slice none 0 0, .slice none 0 0], .agg #[.int .i64 0, .int .i64 0, .bool false, .slice none 0 0, .slice none 0 0]], []⟩ 8 (by kernel_rfl) (by kernel_rfl) (by kernel_rfl) (by kernel_rfl)) ?_
  intro W base args ds gs before hval0 hW hcnd hsz0 _
  have hsz : (DataW.weightsEach Try.prog (Try.f26.params.toList ++ Rows.tellSameSpec.plain.varTypes Try.prog) (ds ++ gs)).all (· ≤ reachBytes) = true := hsz0
  have hval : ∀ (j : Nat) t v, Try.f26.params[j]? = some t → args[j]? = some v → Value.okWide Try.prog W .any base t v := hval0
  have hW' := hW
  obtain ⟨p, q, hA0, hV, rfl, hfz, hnd⟩ := hW
  have hA : DataW.TrodAll enc Try.prog W 0 (fun _ => true) true Try.f26.params.toList args.toList ds p := hA0
  rw [Try.params26] at hA hval hsz
  obtain ⟨v0, vs0, d0, ds0, p0, q0, hargs, rfl, rfl, h0, r0⟩ := trodAll_cons hA
  obtain ⟨v1, vs1, d1, ds1, p1, q1, rfl, rfl, rfl, h1, r1⟩ := trodAll_cons r0
  obtain ⟨rfl, rfl, rfl⟩ := trodAll_nil r1
  obtain rfl : args = #[v0, v1] := by cases args; simp_all
  obtain ⟨rfl, rfl⟩ := trodVars_none hV
  have k0 := h0
  have lt0 : ∀ x ∈ p0, x.block < W.heap.size := by obtain ⟨m, hm⟩ := k0; exact DataW.trod_lt m _ _ _ hm
  have W0 := arg_weights hsz (j := 0) (t := 108) rfl rfl
  obtain ⟨y0, cs0, rfl, hK0, G0⟩ := open_struct_arg Try.underlying108 (opens_struct5 Try.underlying108 (by kernel_rfl) ⟨rfl, by kernel_rfl⟩ ⟨rfl, by kernel_rfl⟩ ⟨rfl, by kernel_rfl⟩ ⟨rfl, by kernel_rfl⟩ ⟨rfl, by kernel_rfl⟩ (opens_int Try.underlying3) (opens_int Try.underlying3) (opens_bool Try.underlying4) (opens_slice (B := 40) Try.underlying105 (by kernel_rfl) (by kernel_rfl) opens154) (opens_slice (B := 32) Try.underlying106 (by kernel_rfl) (by kernel_rfl) opens152)) (hval 0 108 v0 rfl rfl) h0 W0
  obtain ⟨x0_0, x0_1, x0_2, x0_3, x0_4⟩ := y0
  obtain ⟨_, _, rfl, rfl, _, _, rfl, rfl, _, _, rfl, rfl, _, _, rfl, ⟨A0_3, c0_3, rfl, hl0_3, hC0_3⟩, ⟨A0_4, c0_4, rfl, hl0_4, hC0_4⟩⟩ := hK0
  obtain ⟨g0_0, g0_1, g0_2, g0_3, g0_4⟩ := G0
  have k1 := h1
  have lt1 : ∀ x ∈ p1, x.block < W.heap.size := by obtain ⟨m, hm⟩ := k1; exact DataW.trod_lt m _ _ _ hm
  have W1 := arg_weights hsz (j := 1) (t := 108) rfl rfl
  obtain ⟨y1, cs1, rfl, hK1, G1⟩ := open_struct_arg Try.underlying108 (opens_struct5 Try.underlying108 (by kernel_rfl) ⟨rfl, by kernel_rfl⟩ ⟨rfl, by kernel_rfl⟩ ⟨rfl, by kernel_rfl⟩ ⟨rfl, by kernel_rfl⟩ ⟨rfl, by kernel_rfl⟩ (opens_int Try.underlying3) (opens_int Try.underlying3) (opens_bool Try.underlying4) (opens_slice (B := 40) Try.underlying105 (by kernel_rfl) (by kernel_rfl) opens154) (opens_slice (B := 32) Try.underlying106 (by kernel_rfl) (by kernel_rfl) opens152)) (hval 1 108 v1 rfl rfl) h1 W1
  obtain ⟨x1_0, x1_1, x1_2, x1_3, x1_4⟩ := y1
  obtain ⟨_, _, rfl, rfl, _, _, rfl, rfl, _, _, rfl, rfl, _, _, rfl, ⟨A1_3, c1_3, rfl, hl1_3, hC1_3⟩, ⟨A1_4, c1_4, rfl, hl1_4, hC1_4⟩⟩ := hK1
  obtain ⟨g1_0, g1_1, g1_2, g1_3, g1_4⟩ := G1
  clear hA0 hval0 hsz0 hsz
  simp only [List.cons_append, List.nil_append] at *
  obtain ⟨k, hp⟩ := Pure.TellSame x0_0 g0_0 x0_1 g0_1 x0_2 g0_2 x0_3 g0_3 x0_4 g0_4 x1_0 g1_0 x1_1 g1_1 x1_2 g1_2 x1_3 g1_3 x1_4 g1_4
  refine (turncocklaw8_TellSame.calls k x0_0 x0_1 x0_2 _ _ x0_3 _ _ x0_4 x1_0 x1_1 x1_2 _ _ x1_3 _ _ x1_4 true W hC0_3 hl0_3 hC0_4 hl0_4 hC1_3 hl1_3 hC1_4 hl1_4 hp).mono ?_
  rintro e W' ⟨he, bel⟩
  subst he
  exact ⟨_, rfl, _, _, _, [], _, [], hW', trodAll_mk1 (shut_bool Try.underlying4 _), (trodAll_cons_mk (Below.trod laidOut (by kernel_rfl) (of_decide_eq_true (by kernel_rfl)) k0 bel lt0) (trodAll_cons_mk (Below.trod laidOut (by kernel_rfl) (of_decide_eq_true (by kernel_rfl)) k1 bel lt1) trodAll_mk0)), rfl, bel.frame _, fun h => by cases h⟩
theorem closed : joinedFacts Try.pinned.checked.prog 26 Try.f26 Rows.tellSameSpec Rows.tellSameRow = true := by
  unfold joinedFacts
  rw [Hd.mayEnter, Hd.liftsFinal, Hd.make]
  kernel_rfl
theorem over : Rows.tellSameRow.holds Try.pinned (OpenSpec.ofChange Rows.tellSameSpec) :=
  OpenClaim.holds_of_wide 26 Try.f26 rfl rfl rfl rfl rfl rfl rfl ⟨rfl, rfl, rfl, rfl, rfl⟩ rfl rfl rfl rfl rfl (by kernel_rfl) Try.func26 closed
    (of_decide_eq_true (by kernel_rfl)) (by unfold Func.isWrapper; first | (rw [if_pos (by decide +kernel)]; kernel_rfl) | (rw [if_neg (by decide +kernel)]; exact ⟨rfl, rfl⟩))
    (fun os started H enc _ => lifted os started H enc)
theorem proved : Rows.TellSameSaid := over
#print axioms proved
end Go.Proofs.Ytnhblhhkjnmkkaa.tellSame
namespace Go.Proofs.Ytnhblhhkjnmkkaa
/-- The row, under a short name, for the claim. -/
theorem tellSame_holds : Rows.TellSameSaid := tellSame.proved
end Go.Proofs.Ytnhblhhkjnmkkaa
