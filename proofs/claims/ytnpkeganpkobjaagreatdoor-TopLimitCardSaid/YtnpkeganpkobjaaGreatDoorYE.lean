/- TopLimit of the tree turncock: whatever comes, the law returns true. No condition. -/
import Derived.Test.YtnpkeganpkobjaaGreatDoorJ1
import Derived.Test.YtnpkeganpkobjaaGreatDoorJ2
import Derived.Test.YtnpkeganpkobjaaGreatDoorJ3
import Derived.Test.YtnpkeganpkobjaaGreatDoorJ4
import Derived.Test.YtnpkeganpkobjaaGreatDoorJ5
import Derived.Test.YtnpkeganpkobjaaGreatDoorJ6
import Derived.JoinedOf
import Derived.KernelRfl
import Derived.Test.YtnpkeganpkobjaaGreatDoorYC
import Derived.Test.YtnpkeganpkobjaaGreatDoorRows
import Derived.Test.YtnpkeganpkobjaaGreatDoorTie
import Derived.Test.YtnpkeganpkobjaaGreatDoorCards
import Derived.ProofKit
import Derived.OpenShut
import Derived.Below
import Derived.Lay
import Derived.SevenTiedAt
import Derived.Test.YtnpkeganpkobjaaGreatDoorYD
set_option linter.all false
namespace Go.Proofs.YtnpkeganpkobjaaGreatDoor.topLimit
open Go
set_option maxRecDepth 100000
theorem k0 : (c.wf (OpenSpec.ofChange s)) = true := by kernel_rfl
theorem k3 : (fn.params.all (P.readableRec ·)) = true := by kernel_rfl
theorem k4 : (namedTie P c.named s.vars) = true := by kernel_rfl
theorem k5 : ((c.stops == [])) = true := by kernel_rfl
theorem k6 : ((P.stops == [])) = true := by kernel_rfl
theorem k7 : ((c.knobs == [])) = true := by kernel_rfl
theorem k8 : ((P.stopKnobs == [])) = true := by kernel_rfl
theorem k13 : ((c.maps == (fn.params.toList ++ s.plain.varTypes P).any (P.mapsRec ·))) = true := by kernel_rfl
theorem k14 : ((c.ifaces == (fn.params.toList ++ s.plain.varTypes P).any (P.ifacesRec ·))) = true := by kernel_rfl
theorem k15 : ((c.mapsOut == P.mapsAmong fn.resultTypes.toList)) = true := by kernel_rfl
theorem k16 : ((c.loops == (fn.params.toList ++ s.plain.varTypes P).any (P.loopsFrom ·))) = true := by kernel_rfl
theorem k17 : ((c.wideKeys == (fn.params.toList ++ s.plain.varTypes P ++ fn.resultTypes.toList).any (P.wideKeysFrom ·))) = true := by kernel_rfl
theorem k18 : (s.vars.all (P.varReadable ·)) = true := by kernel_rfl
theorem k19 : (fn.resultTypes.all (fun t => P.readableRec t && decide (t < P.types.size))) = true := by kernel_rfl
theorem k20 : ((c.ifacesOut == fn.resultTypes.toList.any (P.ifacesRec ·))) = true := by kernel_rfl
theorem k21 : ((c.loopsOut == fn.resultTypes.toList.any (P.loopsFrom ·))) = true := by kernel_rfl
theorem k22 : ((c.plainKeys == P.plainKeys)) = true := by kernel_rfl
theorem k23 : (c.shortTexts.isNone) = true := by kernel_rfl
theorem k25 : (P.mayEnter) = true := Hd.mayEnter
theorem k26 : ((c.lifted == P.liftsFinal)) = true := by rw [Hd.liftsFinal]; kernel_rfl
theorem k27 : ((P.make == some c.make)) = true := by rw [Hd.make]; kernel_rfl
theorem k28 : ((c.kinds == (if c.domain.isEmpty then [] else fn.params.toList.map fun t => match P.underlying t with | some (.int k) => some k | _ => none))) = true := by kernel_rfl
theorem k29 : ((c.pinned == c.pinnedBy)) = true := by kernel_rfl
theorem k30 : ((c.veiled == (fn.params.toList ++ s.plain.varTypes P ++ fn.resultTypes.toList).any (P.veiledRec ·))) = true := by kernel_rfl
theorem k31 : (c.veiledFits P fn.params.toList (fn.params.toList ++ s.plain.varTypes P ++ fn.resultTypes.toList)) = true := by kernel_rfl
theorem closed : joinedFacts P f fn s c = true := by
  unfold joinedFacts
  simp only [Bool.and_eq_true]
  exact ⟨⟨⟨⟨⟨⟨⟨⟨⟨⟨⟨⟨⟨⟨⟨⟨⟨⟨⟨⟨⟨⟨⟨⟨⟨⟨⟨⟨⟨⟨⟨k0, k1⟩, k2⟩, k3⟩, k4⟩, k5⟩, k6⟩, k7⟩, k8⟩, k9⟩, k10⟩, k11⟩, k12⟩, k13⟩, k14⟩, k15⟩, k16⟩, k17⟩, k18⟩, k19⟩, k20⟩, k21⟩, k22⟩, k23⟩, k24⟩, k25⟩, k26⟩, k27⟩, k28⟩, k29⟩, k30⟩, k31⟩
end Go.Proofs.YtnpkeganpkobjaaGreatDoor.topLimit
namespace Go.Proofs.YtnpkeganpkobjaaGreatDoor.topLimit
open Go.ChangeShapes Go.WideShapes Go.ChangeAt Go.RowKit Go.Lib
theorem own : ownKnob Tryz.prog.godebug = none := by kernel_rfl
theorem below_of {W W' : World} (h : Ev.Kp W W') : Below W.heap.size W W' := ⟨h.os, h.tape, h.output, h.size, h.heap⟩
set_option maxRecDepth 100000 in
theorem lifted (os : Os) (started : os.Started) (H : Type) (enc : TypeId × Value → H) :
    ReturnsInHanded {} Tryz.checked os 4 .any (fun w args => (Rows.topLimitSpec.pre enc Tryz.prog Tryz.f4 [] false w args ∧ laidMetH Tryz.prog Rows.topLimitRow.laid w) ∧ sizedMet enc Tryz.prog Tryz.f4 (OpenSpec.ofChange Rows.topLimitSpec) false w args)
      (Rows.topLimitSpec.post enc Tryz.prog Tryz.f4 false true false false) := by
  refine returnsInHanded_of_change_and (C := Tryz.checked) (X := fun w _ => laidMetH Tryz.prog Rows.topLimitRow.laid w) (fun _ _ _ hh h => h.of_heap hh) own started (by kernel_rfl) Tryz.func4
    (ChangeSpec.witness_shaped (enc := enc) (C := Tryz.checked) (os := os) (X := fun w _ => laidMetH Tryz.prog Rows.topLimitRow.laid w) false (World.laidAll Tryz.prog os Rows.topLimitRow.laid) #[.int .i64 0, .int .i64 0, .int .i64 0, .int .i64 0, .int .i64 0] 8 (World.laidAll_os _ _ _)
      (World.shaped_of_ZipB (by kernel_rfl) (by kernel_rfl)) (by kernel_rfl) (by kernel_rfl) (by kernel_rfl)
      (by rw [MakeChecks.laidMetH_plain _ _ _ (by kernel_rfl)]; exact laidMet_laidAll _ (by kernel_rfl) (by kernel_rfl))) ?_
  intro W base args ds gs before hval0 hW _ _ hL _
  have hval : ∀ (j : Nat) t v, Tryz.f4.params[j]? = some t → args[j]? = some v → Value.okWide Tryz.prog W .any base t v := hval0
  have hW' := hW
  obtain ⟨p, q, hA0, hV, rfl, _, _⟩ := hW
  have hA : DataW.TrodAll enc Tryz.prog W 0 (fun _ => true) true Tryz.f4.params.toList args.toList ds p := hA0
  rw [Tryz.params4] at hA hval
  obtain ⟨v0, vs0, d0, ds0, p0, q0, hargs, rfl, rfl, h0, r0⟩ := trodAll_cons hA
  obtain ⟨v1, vs1, d1, ds1, p1, q1, rfl, rfl, rfl, h1, r1⟩ := trodAll_cons r0
  obtain ⟨v2, vs2, d2, ds2, p2, q2, rfl, rfl, rfl, h2, r2⟩ := trodAll_cons r1
  obtain ⟨v3, vs3, d3, ds3, p3, q3, rfl, rfl, rfl, h3, r3⟩ := trodAll_cons r2
  obtain ⟨v4, vs4, d4, ds4, p4, q4, rfl, rfl, rfl, h4, r4⟩ := trodAll_cons r3
  obtain ⟨rfl, rfl, rfl⟩ := trodAll_nil r4
  obtain rfl : args = #[v0, v1, v2, v3, v4] := by cases args; simp_all
  obtain ⟨rfl, rfl⟩ := trodVars_none hV
  obtain ⟨a0, rfl, rfl, rfl, w0⟩ := open_int Tryz.underlying3 (hval 0 3 v0 rfl rfl) h0
  obtain ⟨a1, rfl, rfl, rfl, w1⟩ := open_int Tryz.underlying3 (hval 1 3 v1 rfl rfl) h1
  obtain ⟨a2, rfl, rfl, rfl, w2⟩ := open_int Tryz.underlying3 (hval 2 3 v2 rfl rfl) h2
  obtain ⟨a3, rfl, rfl, rfl, w3⟩ := open_int Tryz.underlying3 (hval 3 3 v3 rfl rfl) h3
  obtain ⟨a4, rfl, rfl, rfl, w4⟩ := open_int Tryz.underlying3 (hval 4 3 v4 rfl rfl) h4
  have b0 : -9223372036854775808 ≤ a0 ∧ a0 ≤ 9223372036854775807 := by simpa [Lit.wf, IntKind.min, IntKind.max, IntKind.signed, IntKind.bits] using w0
  have b1 : -9223372036854775808 ≤ a1 ∧ a1 ≤ 9223372036854775807 := by simpa [Lit.wf, IntKind.min, IntKind.max, IntKind.signed, IntKind.bits] using w1
  have b2 : -9223372036854775808 ≤ a2 ∧ a2 ≤ 9223372036854775807 := by simpa [Lit.wf, IntKind.min, IntKind.max, IntKind.signed, IntKind.bits] using w2
  have b3 : -9223372036854775808 ≤ a3 ∧ a3 ≤ 9223372036854775807 := by simpa [Lit.wf, IntKind.min, IntKind.max, IntKind.signed, IntKind.bits] using w3
  have b4 : -9223372036854775808 ≤ a4 ∧ a4 ≤ 9223372036854775807 := by simpa [Lit.wf, IntKind.min, IntKind.max, IntKind.signed, IntKind.bits] using w4
  clear hA0 hval0
  simp only [List.append_nil] at hW'
  refine (Ev.law4 a0 a1 a2 a3 a4 b0 b1 b2 b3 b4 W).mono fun e W' ⟨he, hk⟩ => ?_
  subst he
  exact ⟨_, rfl, _, _, _, [], [], [], hW', trodAll_mk1 (shut_bool Tryz.underlying4 _), trodAll_cons_mk (shut_int Tryz.underlying3 w0) (trodAll_cons_mk (shut_int Tryz.underlying3 w1) (trodAll_cons_mk (shut_int Tryz.underlying3 w2) (trodAll_cons_mk (shut_int Tryz.underlying3 w3) (trodAll_cons_mk (shut_int Tryz.underlying3 w4) trodAll_mk0)))), rfl, (below_of hk).frame _, fun h => by cases h⟩
theorem over : Rows.topLimitRow.holds Tryz.pinned (OpenSpec.ofChange Rows.topLimitSpec) :=
  OpenClaim.holds_of_wide 4 Tryz.f4 rfl rfl rfl rfl rfl rfl rfl ⟨rfl, rfl, rfl, rfl, rfl⟩ rfl rfl rfl rfl rfl (by kernel_rfl) Tryz.func4 closed
    (of_decide_eq_true (by kernel_rfl)) (by unfold Func.isWrapper; first | (rw [if_pos (by decide +kernel)]; kernel_rfl) | (rw [if_neg (by decide +kernel)]; exact ⟨rfl, rfl⟩))
    (fun os started H enc _ => lifted os started H enc)
end Go.Proofs.YtnpkeganpkobjaaGreatDoor.topLimit
namespace Go.Proofs.YtnpkeganpkobjaaGreatDoor
open Go.RowKit Go.Lib
set_option maxRecDepth 100000
theorem none_goes : Tryz.prog.funcs.any Func.goes = false := by kernel_rfl
theorem goes_none {P : Program} (h : P.funcs.any Func.goes = false) (f : FuncId) : P.goes f = false := by
  have hg : ∀ g : Nat, (P.funcs[g]?).any Func.goes = false := by
    intro g
    cases hx : P.funcs[g]? with
    | none => rfl
    | some fn =>
      obtain ⟨hl, he⟩ := Array.getElem?_eq_some_iff.1 hx
      have := Array.any_eq_false.1 h g hl
      rw [he] at this
      simpa using this
  unfold Program.goes
  rw [h, Bool.and_false, Bool.or_false]
  exact List.any_eq_false.2 fun g _ => by simp [hg g]
theorem goesAt_none {P : Program} (h : P.funcs.any Func.goes = false) (n : String) : P.goesAt .entering n = false := by
  unfold Program.goesAt Program.goesFrom
  cases P.funcNamed n with
  | none => rfl
  | some f => simp [goes_none h f]
theorem topLimit_holds : Rows.TopLimitCardSaid :=
  Claim7.holds_tied_plain_at .later [] [.data, .pinned] true (true, "6ebb81c7e5c950afa440a6f9cc9bb55e1bb6154add93d0eb56ba483bfcfdc45a") true topLimit.over (fun _ h => by cases h) (by kernel_rfl) (fun _ h => by cases h) topLimit_row_tie rfl ⟨rfl, rfl⟩
    (by show Tryz.prog.mainIs = _; unfold Program.mainIs; rw [Hd.order, Hd.lit2, String.toList_ofList]; kernel_rfl) rfl
    (fun f fn hf hfn => by
      obtain rfl : f = 4 := Option.some.inj ((show Tryz.prog.funcNamed "turncock/turncocktop.TopLimit" = some 4 by kernel_rfl).symm.trans hf) |>.symm
      obtain rfl : fn = Tryz.f4 := (Option.some.inj (Tryz.func4.symm.trans hfn)).symm
      exact ⟨by kernel_rfl, fun j t ht => by
        rw [Tryz.params4] at ht
        have hm : t ∈ [3, 3, 3, 3, 3] := by simpa using Array.mem_of_getElem? ht
        have hall : ([3, 3, 3, 3, 3].all fun u => !Tryz.prog.wantsStandIn u) = true := by kernel_rfl
        exact (show Tryz.prog.wantsStandIn t = false by simpa using List.all_eq_true.1 hall t hm)⟩)
    (by rw [show Rows.topLimitRow.goesBy Tryz.pinned.checked.prog = Tryz.prog.goesAt .entering "turncock/turncocktop.TopLimit" by kernel_rfl]; exact (goesAt_none none_goes _).symm)
#print axioms topLimit_holds
end Go.Proofs.YtnpkeganpkobjaaGreatDoor
