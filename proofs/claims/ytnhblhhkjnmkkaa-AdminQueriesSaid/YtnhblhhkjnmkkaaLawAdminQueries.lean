/- The row of the law AdminQueries, out of its contract and the plain statement Pure.AdminQueries. No condition beyond the row's own. -/
import Derived.Test.YtnhblhhkjnmkkaaHd
import Derived.Test.YtnhblhhkjnmkkaaRows
import Derived.Test.YtnhblhhkjnmkkaaOp
import Derived.Test.YtnhblhhkjnmkkaaPureAdminQueries
import Derived.Test.YtnhblhhkjnmkkaaQ17
import Derived.WalkKit
import Derived.ProofKit
import Derived.OpenShut
import Derived.ShutString
import Derived.ChangeOld
import Derived.Below
import Derived.SizedLaws
namespace Go.Proofs.Ytnhblhhkjnmkkaa.adminQueries
open Go.ChangeShapes Go.WideShapes Go.ChangeAt Go.RowKit
open Go.ChangeMaps (open_string shut_string)
open Go.Proofs.Ytnhblhhkjnmkkaa.Q Go.Proofs.Ytnhblhhkjnmkkaa.Op Go.Proofs.YtnhblhhkjnmkkaaW.PrintWords
set_option linter.unusedVariables false
theorem own : ownKnob Try.prog.godebug = none := by kernel_rfl
theorem laidOut : laidOutB Try.prog = true := by kernel_rfl
set_option maxRecDepth 100000 in
theorem lifted (os : Os) (started : os.Started) (H : Type) (enc : TypeId × Value → H) :
    ReturnsInHanded {} Try.checked os 17 .any (Rows.adminQueriesSpec.pre6 enc Try.prog Try.f17 Rows.adminQueriesRow.domain false) (Rows.adminQueriesSpec.post enc Try.prog Try.f17 false true false false) := by
  refine returnsInHanded_of_change_sized (C := Try.checked) own started (by kernel_rfl) Try.func17
    (ChangeSpec.witness6 (enc := enc) (C := Try.checked) false ⟨#[], #[.agg #[.int .i64 0, .int .i64 0, .string ByteArray.empty]], []⟩ 8 (by kernel_rfl) (by kernel_rfl) (by kernel_rfl) (by kernel_rfl)) ?_
  intro W base args ds gs before hval0 hW hcnd hsz0 _
  have hsz : (DataW.weightsEach Try.prog (Try.f17.params.toList ++ Rows.adminQueriesSpec.plain.varTypes Try.prog) (ds ++ gs)).all (· ≤ reachBytes) = true := hsz0
  have hval : ∀ (j : Nat) t v, Try.f17.params[j]? = some t → args[j]? = some v → Value.okWide Try.prog W .any base t v := hval0
  have hW' := hW
  obtain ⟨p, q, hA0, hV, rfl, hfz, hnd⟩ := hW
  have hA : DataW.TrodAll enc Try.prog W 0 (fun _ => true) true Try.f17.params.toList args.toList ds p := hA0
  rw [Try.params17] at hA hval hsz
  obtain ⟨v0, vs0, d0, ds0, p0, q0, hargs, rfl, rfl, h0, r0⟩ := trodAll_cons hA
  obtain ⟨rfl, rfl, rfl⟩ := trodAll_nil r0
  obtain rfl : args = #[v0] := by cases args; simp_all
  obtain ⟨rfl, rfl⟩ := trodVars_none hV
  have k0 := h0
  have lt0 : ∀ x ∈ p0, x.block < W.heap.size := by obtain ⟨m, hm⟩ := k0; exact DataW.trod_lt m _ _ _ hm
  have W0 := arg_weights hsz (j := 0) (t := 76) rfl rfl
  obtain ⟨y0, cs0, rfl, hK0, G0⟩ := open_struct_arg Try.underlying76 (opens_struct3 Try.underlying76 (by kernel_rfl) ⟨rfl, by kernel_rfl⟩ ⟨rfl, by kernel_rfl⟩ ⟨rfl, by kernel_rfl⟩ (opens_int Try.underlying3) (opens_int Try.underlying3) (opens_string Try.underlying9)) (hval 0 76 v0 rfl rfl) h0 W0
  obtain ⟨x0_0, x0_1, x0_2⟩ := y0
  obtain ⟨_, _, rfl, rfl, _, _, rfl, rfl, rfl⟩ := hK0
  obtain ⟨g0_0, g0_1, g0_2⟩ := G0
  clear hA0 hval0 hsz0 hsz
  simp only [List.cons_append, List.nil_append] at *
  obtain ⟨k, hp⟩ := Pure.AdminQueries x0_0 g0_0 x0_1 g0_1 x0_2 g0_2
  refine (turncocklaw9_AdminQueries.calls k x0_0 x0_1 x0_2 true W  hp).mono ?_
  rintro e W' ⟨he, bel⟩
  subst he
  exact ⟨_, rfl, _, _, _, [], _, [], hW', trodAll_mk1 (shut_bool Try.underlying4 _), (trodAll_cons_mk (Below.trod laidOut (by kernel_rfl) (of_decide_eq_true (by kernel_rfl)) k0 bel lt0) trodAll_mk0), rfl, bel.frame _, fun h => by cases h⟩
theorem closed : joinedFacts Try.pinned.checked.prog 17 Try.f17 Rows.adminQueriesSpec Rows.adminQueriesRow = true := by
  unfold joinedFacts
  rw [Hd.mayEnter, Hd.liftsFinal, Hd.make]
  kernel_rfl
theorem over : Rows.adminQueriesRow.holds Try.pinned (OpenSpec.ofChange Rows.adminQueriesSpec) :=
  OpenClaim.holds_of_wide 17 Try.f17 rfl rfl rfl rfl rfl rfl rfl ⟨rfl, rfl, rfl, rfl, rfl⟩ rfl rfl rfl rfl rfl (by kernel_rfl) Try.func17 closed
    (of_decide_eq_true (by kernel_rfl)) (by unfold Func.isWrapper; first | (rw [if_pos (by decide +kernel)]; kernel_rfl) | (rw [if_neg (by decide +kernel)]; exact ⟨rfl, rfl⟩))
    (fun os started H enc _ => lifted os started H enc)
theorem proved : Rows.AdminQueriesSaid := over
#print axioms proved
end Go.Proofs.Ytnhblhhkjnmkkaa.adminQueries
namespace Go.Proofs.Ytnhblhhkjnmkkaa
/-- The row, under a short name, for the claim. -/
theorem adminQueries_holds : Rows.AdminQueriesSaid := adminQueries.proved
end Go.Proofs.Ytnhblhhkjnmkkaa
