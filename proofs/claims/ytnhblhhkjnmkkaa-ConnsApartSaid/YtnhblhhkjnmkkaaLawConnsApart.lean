/- The row of the law ConnsApart, out of its contract and the plain statement Pure.ConnsApart. No condition beyond the row's own. -/
import Derived.Test.YtnhblhhkjnmkkaaHd
import Derived.Test.YtnhblhhkjnmkkaaRows
import Derived.Test.YtnhblhhkjnmkkaaOp
import Derived.Test.YtnhblhhkjnmkkaaPureConnsApart
import Derived.Test.YtnhblhhkjnmkkaaCq
import Derived.WalkKit
import Derived.ProofKit
import Derived.OpenShut
import Derived.ShutString
import Derived.ChangeOld
import Derived.Below
import Derived.SizedLaws
namespace Go.Proofs.Ytnhblhhkjnmkkaa.connsApart
open Go.ChangeShapes Go.WideShapes Go.ChangeAt Go.RowKit
open Go.ChangeMaps (open_string shut_string)
open Go.Proofs.Ytnhblhhkjnmkkaa.Q Go.Proofs.Ytnhblhhkjnmkkaa.Op Go.Proofs.YtnhblhhkjnmkkaaW.PrintWords
set_option linter.unusedVariables false
theorem own : ownKnob Try.prog.godebug = none := by kernel_rfl
theorem laidOut : laidOutB Try.prog = true := by kernel_rfl
theorem opens67 {H : Type} {enc : TypeId × Value → H} {W : World} : Opens enc Try.prog W 67 k67 (fun x => good67 x) := opens_iso (fun x : S67 => (x.f0, x.f1, x.f2)) (fun y => ⟨y.1, y.2.1, y.2.2⟩) (fun _ => rfl) (opens_struct3 Try.underlying67 (by kernel_rfl) ⟨rfl, by kernel_rfl⟩ ⟨rfl, by kernel_rfl⟩ ⟨rfl, by kernel_rfl⟩ (opens_int Try.underlying3) (opens_int Try.underlying3) (opens_slice (B := 1) Try.underlying22 (by kernel_rfl) (by kernel_rfl) (opens_int Try.underlying5)))
set_option maxRecDepth 100000 in
theorem lifted (os : Os) (started : os.Started) (H : Type) (enc : TypeId × Value → H) :
    ReturnsInHanded {} Try.checked os 15 .any (Rows.connsApartSpec.pre6 enc Try.prog Try.f15 Rows.connsApartRow.domain false) (Rows.connsApartSpec.post enc Try.prog Try.f15 false true false false) := by
  refine returnsInHanded_of_change_sized (C := Try.checked) own started (by kernel_rfl) Try.func15
    (ChangeSpec.witness6 (enc := enc) (C := Try.checked) false ⟨#[], #[.slice none 0 0, .slice none 0 0], []⟩ 8 (by kernel_rfl) (by kernel_rfl) (by kernel_rfl) (by kernel_rfl)) ?_
  intro W base args ds gs before hval0 hW hcnd hsz0 _
  have hsz : (DataW.weightsEach Try.prog (Try.f15.params.toList ++ Rows.connsApartSpec.plain.varTypes Try.prog) (ds ++ gs)).all (· ≤ reachBytes) = true := hsz0
  have hval : ∀ (j : Nat) t v, Try.f15.params[j]? = some t → args[j]? = some v → Value.okWide Try.prog W .any base t v := hval0
  have hW' := hW
  obtain ⟨p, q, hA0, hV, rfl, hfz, hnd⟩ := hW
  have hA : DataW.TrodAll enc Try.prog W 0 (fun _ => true) true Try.f15.params.toList args.toList ds p := hA0
  rw [Try.params15] at hA hval hsz
  obtain ⟨v0, vs0, d0, ds0, p0, q0, hargs, rfl, rfl, h0, r0⟩ := trodAll_cons hA
  obtain ⟨v1, vs1, d1, ds1, p1, q1, rfl, rfl, rfl, h1, r1⟩ := trodAll_cons r0
  obtain ⟨rfl, rfl, rfl⟩ := trodAll_nil r1
  obtain rfl : args = #[v0, v1] := by cases args; simp_all
  obtain ⟨rfl, rfl⟩ := trodVars_none hV
  have k0 := h0
  have lt0 : ∀ x ∈ p0, x.block < W.heap.size := by obtain ⟨m, hm⟩ := k0; exact DataW.trod_lt m _ _ _ hm
  have W0 := arg_weights hsz (j := 0) (t := 59) rfl rfl
  obtain ⟨l0, A0, c0, rfl, hl0, hC0, g0⟩ := open_slice_arg Try.underlying59 (opens_slice (B := 40) Try.underlying59 (by kernel_rfl) (by kernel_rfl) opens67) (hval 0 59 v0 rfl rfl) h0 W0
  have k1 := h1
  have lt1 : ∀ x ∈ p1, x.block < W.heap.size := by obtain ⟨m, hm⟩ := k1; exact DataW.trod_lt m _ _ _ hm
  have W1 := arg_weights hsz (j := 1) (t := 59) rfl rfl
  obtain ⟨l1, A1, c1, rfl, hl1, hC1, g1⟩ := open_slice_arg Try.underlying59 (opens_slice (B := 40) Try.underlying59 (by kernel_rfl) (by kernel_rfl) opens67) (hval 1 59 v1 rfl rfl) h1 W1
  clear hA0 hval0 hsz0 hsz
  skip
  obtain ⟨k, hp⟩ := Pure.ConnsApart l0 g0 l1 g1
  refine (turncocklaw32_ConnsApart.calls k _ _ l0 _ _ l1 true W hC0 hl0 hC1 hl1 hp).mono ?_
  rintro e W' ⟨he, bel⟩
  subst he
  exact ⟨_, rfl, _, _, _, [], _, [], hW', trodAll_mk1 (shut_bool Try.underlying4 _), (trodAll_cons_mk (Below.trod laidOut (by kernel_rfl) (of_decide_eq_true (by kernel_rfl)) k0 bel lt0) (trodAll_cons_mk (Below.trod laidOut (by kernel_rfl) (of_decide_eq_true (by kernel_rfl)) k1 bel lt1) trodAll_mk0)), rfl, bel.frame _, fun h => by cases h⟩
theorem closed : joinedFacts Try.pinned.checked.prog 15 Try.f15 Rows.connsApartSpec Rows.connsApartRow = true := by
  unfold joinedFacts
  rw [Hd.mayEnter, Hd.liftsFinal, Hd.make]
  kernel_rfl
theorem over : Rows.connsApartRow.holds Try.pinned (OpenSpec.ofChange Rows.connsApartSpec) :=
  OpenClaim.holds_of_wide 15 Try.f15 rfl rfl rfl rfl rfl rfl rfl ⟨rfl, rfl, rfl, rfl, rfl⟩ rfl rfl rfl rfl rfl (by kernel_rfl) Try.func15 closed
    (of_decide_eq_true (by kernel_rfl)) (by unfold Func.isWrapper; first | (rw [if_pos (by decide +kernel)]; kernel_rfl) | (rw [if_neg (by decide +kernel)]; exact ⟨rfl, rfl⟩))
    (fun os started H enc _ => lifted os started H enc)
theorem proved : Rows.ConnsApartSaid := over
#print axioms proved
end Go.Proofs.Ytnhblhhkjnmkkaa.connsApart
namespace Go.Proofs.Ytnhblhhkjnmkkaa
/-- The row, under a short name, for the claim. -/
theorem connsApart_holds : Rows.ConnsApartSaid := connsApart.proved
end Go.Proofs.Ytnhblhhkjnmkkaa
