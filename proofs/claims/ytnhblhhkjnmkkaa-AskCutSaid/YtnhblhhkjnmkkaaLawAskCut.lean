/- The row of the law AskCut, out of its contract and the plain statement Pure.AskCut. No condition beyond the row's own. -/
import Derived.Test.YtnhblhhkjnmkkaaHd
import Derived.Test.YtnhblhhkjnmkkaaRows
import Derived.Test.YtnhblhhkjnmkkaaOp
import Derived.Test.YtnhblhhkjnmkkaaPureAskCut
import Derived.Test.YtnhblhhkjnmkkaaAc
import Derived.WalkKit
import Derived.ProofKit
import Derived.OpenShut
import Derived.ShutString
import Derived.ChangeOld
import Derived.Below
import Derived.SizedLaws
namespace Go.Proofs.Ytnhblhhkjnmkkaa.askCut
open Go.ChangeShapes Go.WideShapes Go.ChangeAt Go.RowKit
open Go.ChangeMaps (open_string shut_string)
open Go.Proofs.Ytnhblhhkjnmkkaa.Q Go.Proofs.Ytnhblhhkjnmkkaa.Op Go.Proofs.YtnhblhhkjnmkkaaW.PrintWords
set_option linter.unusedVariables false
theorem own : ownKnob Try.prog.godebug = none := by kernel_rfl
theorem laidOut : laidOutB Try.prog = true := by kernel_rfl
theorem opens142 {H : Type} {enc : TypeId × Value → H} {W : World} : Opens enc Try.prog W 142 k142 (fun x => good142 x) := opens_iso (fun x : S142 => (x.f0, x.f1)) (fun y => ⟨y.1, y.2⟩) (fun _ => rfl) (opens_struct2 Try.underlying142 (by kernel_rfl) ⟨rfl, by kernel_rfl⟩ ⟨rfl, by kernel_rfl⟩ (opens_string Try.underlying9) (opens_string Try.underlying9))
theorem opens140 {H : Type} {enc : TypeId × Value → H} {W : World} : Opens enc Try.prog W 140 k140 (fun x => good140 x) := opens_iso (fun x : S140 => (x.f0)) (fun y => ⟨y⟩) (fun _ => rfl) (opens_struct1 Try.underlying140 (by kernel_rfl) ⟨rfl, by kernel_rfl⟩ (opens_slice (B := 32) Try.underlying138 (by kernel_rfl) (by kernel_rfl) opens142))
set_option maxRecDepth 100000 in
theorem lifted (os : Os) (started : os.Started) (H : Type) (enc : TypeId × Value → H) :
    ReturnsInHanded {} Try.checked os 22 .any (Rows.askCutSpec.pre6 enc Try.prog Try.f22 Rows.askCutRow.domain false) (Rows.askCutSpec.post enc Try.prog Try.f22 false true false false) := by
  refine returnsInHanded_of_change_sized (C := Try.checked) own started (by kernel_rfl) Try.func22
    (ChangeSpec.witness6 (enc := enc) (C := Try.checked) false ⟨#[], #[.agg #[.int .i64 0, .string ByteArray.empty, .int .i64 0, .slice none 0 0], .int .i64 0, .slice none 0 0], []⟩ 8 (by kernel_rfl) (by kernel_rfl) (by kernel_rfl) (by kernel_rfl)) ?_
  intro W base args ds gs before hval0 hW hcnd hsz0 _
  have hsz : (DataW.weightsEach Try.prog (Try.f22.params.toList ++ Rows.askCutSpec.plain.varTypes Try.prog) (ds ++ gs)).all (· ≤ reachBytes) = true := hsz0
  have hval : ∀ (j : Nat) t v, Try.f22.params[j]? = some t → args[j]? = some v → Value.okWide Try.prog W .any base t v := hval0
  have hW' := hW
  obtain ⟨p, q, hA0, hV, rfl, hfz, hnd⟩ := hW
  have hA : DataW.TrodAll enc Try.prog W 0 (fun _ => true) true Try.f22.params.toList args.toList ds p := hA0
  rw [Try.params22] at hA hval hsz
  obtain ⟨v0, vs0, d0, ds0, p0, q0, hargs, rfl, rfl, h0, r0⟩ := trodAll_cons hA
  obtain ⟨v1, vs1, d1, ds1, p1, q1, rfl, rfl, rfl, h1, r1⟩ := trodAll_cons r0
  obtain ⟨v2, vs2, d2, ds2, p2, q2, rfl, rfl, rfl, h2, r2⟩ := trodAll_cons r1
  obtain ⟨rfl, rfl, rfl⟩ := trodAll_nil r2
  obtain rfl : args = #[v0, v1, v2] := by cases args; simp_all
  obtain ⟨rfl, rfl⟩ := trodVars_none hV
  have k0 := h0
  have lt0 : ∀ x ∈ p0, x.block < W.heap.size := by obtain ⟨m, hm⟩ := k0; exact DataW.trod_lt m _ _ _ hm
  have W0 := arg_weights hsz (j := 0) (t := 95) rfl rfl
  obtain ⟨y0, cs0, rfl, hK0, G0⟩ := open_struct_arg Try.underlying95 (opens_struct4 Try.underlying95 (by kernel_rfl) ⟨rfl, by kernel_rfl⟩ ⟨rfl, by kernel_rfl⟩ ⟨rfl, by kernel_rfl⟩ ⟨rfl, by kernel_rfl⟩ (opens_int Try.underlying3) (opens_string Try.underlying9) (opens_int Try.underlying3) (opens_slice (B := 24) Try.underlying93 (by kernel_rfl) (by kernel_rfl) opens140)) (hval 0 95 v0 rfl rfl) h0 W0
  obtain ⟨x0_0, x0_1, x0_2, x0_3⟩ := y0
  obtain ⟨_, _, rfl, rfl, _, _, rfl, rfl, _, _, rfl, rfl, ⟨A0_3, c0_3, rfl, hl0_3, hC0_3⟩⟩ := hK0
  obtain ⟨g0_0, g0_1, g0_2, g0_3⟩ := G0
  obtain ⟨a1, rfl, rfl, rfl, w1⟩ := open_int Try.underlying3 (hval 1 3 v1 rfl rfl) h1
  have k2 := h2
  have lt2 : ∀ x ∈ p2, x.block < W.heap.size := by obtain ⟨m, hm⟩ := k2; exact DataW.trod_lt m _ _ _ hm
  have W2 := arg_weights hsz (j := 2) (t := 22) rfl rfl
  obtain ⟨l2, A2, c2, rfl, hl2, hC2, g2⟩ := open_slice_arg Try.underlying22 (opens_slice (B := 1) Try.underlying22 (by kernel_rfl) (by kernel_rfl) (opens_int Try.underlying5)) (hval 2 22 v2 rfl rfl) h2 W2
  clear hA0 hval0 hsz0 hsz
  simp only [List.cons_append, List.nil_append] at *
  obtain ⟨k, hp⟩ := Pure.AskCut x0_0 g0_0 x0_1 g0_1 x0_2 g0_2 x0_3 g0_3 a1 w1 l2 g2
  refine (turncocklaw7_AskCut.calls k x0_0 x0_1 x0_2 _ _ x0_3 a1 _ _ l2 true W hC0_3 hl0_3 hC2 hl2 hp).mono ?_
  rintro e W' ⟨he, bel⟩
  subst he
  exact ⟨_, rfl, _, _, _, [], _, [], hW', trodAll_mk1 (shut_bool Try.underlying4 _), (trodAll_cons_mk (Below.trod laidOut (by kernel_rfl) (of_decide_eq_true (by kernel_rfl)) k0 bel lt0) (trodAll_cons_mk (shut_int Try.underlying3 w1) (trodAll_cons_mk (Below.trod laidOut (by kernel_rfl) (of_decide_eq_true (by kernel_rfl)) k2 bel lt2) trodAll_mk0))), rfl, bel.frame _, fun h => by cases h⟩
theorem closed : joinedFacts Try.pinned.checked.prog 22 Try.f22 Rows.askCutSpec Rows.askCutRow = true := by
  unfold joinedFacts
  rw [Hd.mayEnter, Hd.liftsFinal, Hd.make]
  kernel_rfl
theorem over : Rows.askCutRow.holds Try.pinned (OpenSpec.ofChange Rows.askCutSpec) :=
  OpenClaim.holds_of_wide 22 Try.f22 rfl rfl rfl rfl rfl rfl rfl ⟨rfl, rfl, rfl, rfl, rfl⟩ rfl rfl rfl rfl rfl (by kernel_rfl) Try.func22 closed
    (of_decide_eq_true (by kernel_rfl)) (by unfold Func.isWrapper; first | (rw [if_pos (by decide +kernel)]; kernel_rfl) | (rw [if_neg (by decide +kernel)]; exact ⟨rfl, rfl⟩))
    (fun os started H enc _ => lifted os started H enc)
theorem proved : Rows.AskCutSaid := over
#print axioms proved
end Go.Proofs.Ytnhblhhkjnmkkaa.askCut
namespace Go.Proofs.Ytnhblhhkjnmkkaa
/-- The row, under a short name, for the claim. -/
theorem askCut_holds : Rows.AskCutSaid := askCut.proved
end Go.Proofs.Ytnhblhhkjnmkkaa
