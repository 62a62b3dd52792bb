/- The plain law of AskSame: two requests are the same just if they have the same bytes, where both may be. -/
import Derived.Test.YtnhblhhkjnmkkaaGd
import Derived.Test.YtnhblhhkjnmkkaaSr
import Derived.Test.YtnhblhhkjnmkkaaQ37
namespace Go.Proofs.Ytnhblhhkjnmkkaa.Pure
set_option linter.unusedVariables false
set_option linter.unusedSimpArgs false
open Go.RowKit Go.Proofs.YtnhblhhkjnmkkaaW.PrintWords Go.Proofs.YtnhblhhkjnmkkaaW.PrintLast Go.Proofs.YtnhblhhkjnmkkaaW.PrintMore
open Go.Proofs.Ytnhblhhkjnmkkaa.Sp Go.Proofs.Ytnhblhhkjnmkkaa.Va Go.Proofs.Ytnhblhhkjnmkkaa.Q
theorem nums_back (l : List Int) (h : Bytes l) : bytesOf (strOfNums l) = l := by
  simp only [bytesOf, strOfNums_data, List.map_map]
  refine (List.map_congr_left (fun x hx => ?_)).trans (List.map_id l)
  have hx := h x hx
  simp only [Function.comp_apply, id_eq, UInt8.toNat_ofNat']
  omega
theorem bytes_other {a b : List Int} (ha : Bytes a) (hb : Bytes b) (h : a ≠ b) : turncockref1_Bytes.f a b = some false := by
  have hn : strOfNums a ≠ strOfNums b := fun e => h (by rw [← nums_back a ha, ← nums_back b hb, e])
  unfold turncockref1_Bytes.f
  rw [str_beq, decide_eq_false hn]
theorem same_j0 (k : Nat) (hk : 20000 ≤ k) (a0 : Int) (s : ByteArray) (a2 : Int) (ds : List S140) (b0 : Int) (t : ByteArray) (b2 : Int) (fs : List S140) (hs : SmallA 5000 s ds) (ht : SmallA 5000 t fs) : turncocklaw7_AskSame.j0 (k + 1) false a0 s a2 ds b0 t b2 fs = some true := by
  have hs2 : ds.length ≤ 5000 ∧ ∀ d ∈ ds, d.f0.length ≤ 5000 := ⟨hs.2.1, fun d hd => (hs.2.2 d hd).1⟩
  simp only [turncocklaw7_AskSame.j0]
  rw [if_neg (by decide), same_ask_f _ _ _ _ _ _ _ _ hs, Option.bind_some, ref_sameA_f _ _ _ _ _ _ _ _ 5000 (by omega) hs2 _ (by omega), Option.bind_some, enc_f _ _ _ _ hs, enc_f _ _ _ _ ht]
  simp only [bne_self_eq_false, Bool.false_eq_true, if_false, Option.bind_some, awake7]
  cases h1 : askB a0 s a2 ds with
  | false => simp
  | true =>
    cases h2 : askB b0 t b2 fs with
    | false => simp
    | true =>
      simp only [if_true]
      by_cases he : askW a0 s a2 ds = askW b0 t b2 fs
      · have hi := askW_inj a0 s a2 ds b0 t b2 fs h1 h2 he
        rw [he, same_self, Option.bind_some]
        simp [hi.1, hi.2.1, hi.2.2.1, hi.2.2.2]
      · rw [bytes_other (askW_bytes _ _ _ _) (askW_bytes _ _ _ _) he, Option.bind_some]
        have hn : ¬ (a0 = b0 ∧ s = t ∧ a2 = b2 ∧ ds = fs) := fun h => he (by rw [h.1, h.2.1, h.2.2.1, h.2.2.2])
        simp [hn]
theorem AskSame (x0_0 : Int) (g0_0 : (Lit.int .i64 x0_0).wf = true) (x0_1 : ByteArray) (g0_1 : x0_1.size ≤ 140737488351232) (x0_2 : Int) (g0_2 : (Lit.int .i64 x0_2).wf = true) (x0_3 : (List S140)) (g0_3 : (x0_3.length * 24 ≤ 140737488351232 ∧ ∀ y0 ∈ x0_3, good140 y0)) (x1_0 : Int) (g1_0 : (Lit.int .i64 x1_0).wf = true) (x1_1 : ByteArray) (g1_1 : x1_1.size ≤ 140737488351232) (x1_2 : Int) (g1_2 : (Lit.int .i64 x1_2).wf = true) (x1_3 : (List S140)) (g1_3 : (x1_3.length * 24 ≤ 140737488351232 ∧ ∀ y0 ∈ x1_3, good140 y0)) : ∃ k, turncocklaw7_AskSame.f k x0_0 x0_1 x0_2 x0_3 x1_0 x1_1 x1_2 x1_3 = some true := by
  obtain ⟨K, b, hk, hb⟩ := heavy_f x0_0 x0_1 x0_2 x0_3 (by omega) (by omega) (fun d hd => (g0_3.2 d hd).1)
  obtain ⟨K', b', hk', hb'⟩ := heavy_f x1_0 x1_1 x1_2 x1_3 (by omega) (by omega) (fun d hd => (g1_3.2 d hd).1)
  refine ⟨K + K' + 20000 + 1, ?_⟩
  unfold turncocklaw7_AskSame.f
  rw [hk _ (by omega), Option.bind_some]
  cases b with
  | true => rw [if_pos rfl]; simp only [turncocklaw7_AskSame.j0, awake7]; simp
  | false =>
    rw [if_neg (by decide), hk' _ (by omega), Option.bind_some]
    cases b' with
    | true => simp only [turncocklaw7_AskSame.j0, awake7]; simp
    | false => exact same_j0 _ (by omega) _ _ _ _ _ _ _ _ (hb rfl) (hb' rfl)
end Go.Proofs.Ytnhblhhkjnmkkaa.Pure
