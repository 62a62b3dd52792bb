/- The row of the law VarintPuts, out of its contract and the plain statement Pure.VarintPuts. No condition beyond the row's own. -/
import Derived.Test.YtnhblhhkjnmkkaaHd
import Derived.Test.YtnhblhhkjnmkkaaRows
import Derived.Test.YtnhblhhkjnmkkaaOp
import Derived.Test.YtnhblhhkjnmkkaaPureVarintPuts
import Derived.Test.YtnhblhhkjnmkkaaVp
import Derived.WalkKit
import Derived.ProofKit
import Derived.OpenShut
import Derived.ShutString
import Derived.ChangeOld
import Derived.Below
import Derived.SizedLaws
namespace Go.Proofs.Ytnhblhhkjnmkkaa.varintPuts
open Go.ChangeShapes Go.WideShapes Go.ChangeAt Go.RowKit
open Go.ChangeMaps (open_string shut_string)
open Go.Proofs.Ytnhblhhkjnmkkaa.Q Go.Proofs.Ytnhblhhkjnmkkaa.Op Go.Proofs.YtnhblhhkjnmkkaaW.PrintWords
set_option linter.unusedVariables false
theorem own : ownKnob Try.prog.godebug = none := by kernel_rfl
theorem laidOut : laidOutB Try.prog = true := by kernel_rfl
set_option maxRecDepth 100000 in
theorem lifted (os : Os) (started : os.Started) (H : Type) (enc : TypeId × Value → H) :
    ReturnsInHanded {} Try.checked os 3 .any (Rows.varintPutsSpec.pre6 enc Try.prog Try.f3 Rows.varintPutsRow.domain false) (Rows.varintPutsSpec.post enc Try.prog Try.f3 false true false false) := by
  refine returnsInHanded_of_change_sized (C := Try.checked) own started (by kernel_rfl) Try.func3
    (ChangeSpec.witness6 (enc := enc) (C := Try.checked) false ⟨#[], #[.slice none 0 0, .int .u64 0, .slice none 0 0], []⟩ 8 (by kernel_rfl) (by kernel_rfl) (by kernel_rfl) (by kernel_rfl)) ?_
  intro W base args ds gs before hval0 hW hcnd hsz0 _
  have hsz : (DataW.weightsEach Try.prog (Try.f3.params.toList ++ Rows.varintPutsSpec.plain.varTypes Try.prog) (ds ++ gs)).all (· ≤ reachBytes) = true := hsz0
  have hval : ∀ (j : Nat) t v, Try.f3.params[j]? = some t → args[j]? = some v → Value.okWide Try.prog W .any base t v := hval0
  have hW' := hW
  obtain ⟨p, q, hA0, hV, rfl, hfz, hnd⟩ := hW
  have hA : DataW.TrodAll enc Try.prog W 0 (fun _ => true) true Try.f3.params.toList args.toList ds p := hA0
  rw [Try.params3] at hA hval hsz
  obtain ⟨v0, vs0, d0, ds0, p0, q0, hargs, rfl, rfl, h0, r0⟩ := trodAll_cons hA
  obtain ⟨v1, vs1, d1, ds1, p1, q1, rfl, rfl, rfl, h1, r1⟩ := trodAll_cons r0
  obtain ⟨v2, vs2, d2, ds2, p2, q2, rfl, rfl, rfl, h2, r2⟩ := trodAll_cons r1
  obtain ⟨rfl, rfl, rfl⟩ := trodAll_nil r2
  obtain rfl : args = #[v0, v1, v2] := by cases args; simp_all
  obtain ⟨rfl, rfl⟩ := trodVars_none hV
  have k0 := h0
  have lt0 : ∀ x ∈ p0, x.block < W.heap.size := by obtain ⟨m, hm⟩ := k0; exact DataW.trod_lt m _ _ _ hm
  have W0 := arg_weights hsz (j := 0) (t := 22) rfl rfl
  obtain ⟨l0, A0, c0, rfl, hl0, hC0, g0⟩ := open_slice_arg Try.underlying22 (opens_slice (B := 1) Try.underlying22 (by kernel_rfl) (by kernel_rfl) (opens_int Try.underlying5)) (hval 0 22 v0 rfl rfl) h0 W0
  obtain ⟨a1, rfl, rfl, rfl, w1⟩ := open_int Try.underlying23 (hval 1 23 v1 rfl rfl) h1
  have k2 := h2
  have lt2 : ∀ x ∈ p2, x.block < W.heap.size := by obtain ⟨m, hm⟩ := k2; exact DataW.trod_lt m _ _ _ hm
  have W2 := arg_weights hsz (j := 2) (t := 22) rfl rfl
  obtain ⟨l2, A2, c2, rfl, hl2, hC2, g2⟩ := open_slice_arg Try.underlying22 (opens_slice (B := 1) Try.underlying22 (by kernel_rfl) (by kernel_rfl) (opens_int Try.underlying5)) (hval 2 22 v2 rfl rfl) h2 W2
  clear hA0 hval0 hsz0 hsz
  skip
  obtain ⟨k, hp⟩ := Pure.VarintPuts l0 g0 a1 w1 l2 g2
  refine (turncocklaw2_VarintPuts.calls k _ _ l0 a1 _ _ l2 true W hC0 hl0 hC2 hl2 hp).mono ?_
  rintro e W' ⟨he, bel⟩
  subst he
  exact ⟨_, rfl, _, _, _, [], _, [], hW', trodAll_mk1 (shut_bool Try.underlying4 _), (trodAll_cons_mk (Below.trod laidOut (by kernel_rfl) (of_decide_eq_true (by kernel_rfl)) k0 bel lt0) (trodAll_cons_mk (shut_int Try.underlying23 w1) (trodAll_cons_mk (Below.trod laidOut (by kernel_rfl) (of_decide_eq_true (by kernel_rfl)) k2 bel lt2) trodAll_mk0))), rfl, bel.frame _, fun h => by cases h⟩
theorem closed : joinedFacts Try.pinned.checked.prog 3 Try.f3 Rows.varintPutsSpec Rows.varintPutsRow = true := by
  unfold joinedFacts
  rw [Hd.mayEnter, Hd.liftsFinal, Hd.make]
  kernel_rfl
theorem over : Rows.varintPutsRow.holds Try.pinned (OpenSpec.ofChange Rows.varintPutsSpec) :=
  OpenClaim.holds_of_wide 3 Try.f3 rfl rfl rfl rfl rfl rfl rfl ⟨rfl, rfl, rfl, rfl, rfl⟩ rfl rfl rfl rfl rfl (by kernel_rfl) Try.func3 closed
    (of_decide_eq_true (by kernel_rfl)) (by unfold Func.isWrapper; first | (rw [if_pos (by decide +kernel)]; kernel_rfl) | (rw [if_neg (by decide +kernel)]; exact ⟨rfl, rfl⟩))
    (fun os started H enc _ => lifted os started H enc)
theorem proved : Rows.VarintPutsSaid := over
#print axioms proved
end Go.Proofs.Ytnhblhhkjnmkkaa.varintPuts
namespace Go.Proofs.Ytnhblhhkjnmkkaa
/-- The row, under a short name, for the claim. -/
theorem varintPuts_holds : Rows.VarintPutsSaid := varintPuts.proved
end Go.Proofs.Ytnhblhhkjnmkkaa
