/- admin.encode and admin.EncodeOops: the bytes of a query, a report, an oops, or that they may not be. A text of more than 1000000000 bytes is not spoken of. -/
import Derived.Test.YtnhblhhkjnmkkaaWr
import Derived.Test.YtnhblhhkjnmkkaaQ16
namespace Go.Proofs.Ytnhblhhkjnmkkaa.Q
open Go.RowKit Go.Proofs.YtnhblhhkjnmkkaaW.PrintWords Go.Proofs.YtnhblhhkjnmkkaaW.PrintLast Go.Proofs.YtnhblhhkjnmkkaaW.PrintMore
open Go.Proofs.Ytnhblhhkjnmkkaa.Sp Go.Proofs.Ytnhblhhkjnmkkaa.Va
set_option linter.unusedVariables false
set_option linter.unusedSimpArgs false
def admin_encode.f (a0 a1 a2 : Int) (a3 : ByteArray) (a4 : Int) : Option (List Int × Int) :=
  if 0 ≤ a1 ∧ a1 ≤ 2147483647 ∧ 1 ≤ a2 ∧ a2 ≤ 6 ∧ (a3.size : Int) ≤ a4 then
    if a3.size ≤ 1000000000 then some ([a0] ++ putv a1.toNat ++ putv a2.toNat ++ putv a3.size ++ bytesOf a3, 0) else none
  else some ([], 1)
set_option maxHeartbeats 2000000 in
set_option maxRecDepth 100000 in
theorem encode_no (a0 a1 a2 : Int) (a3 : ByteArray) (a4 : Int) (w : World) (h : ¬ (0 ≤ a1 ∧ a1 ≤ 2147483647 ∧ 1 ≤ a2 ∧ a2 ≤ 6 ∧ (a3.size : Int) ≤ a4)) :
    Calls Try.prog 99 #[.int .u8 a0, .int .i64 a1, .int .i64 a2, .string a3, .int .i64 a4] w fun e w' => e = .returned (.tuple #[.slice none 0 0, .int .i64 1]) ∧ w = w' := by
  by_cases c1 : a1 < 0
  · clear h
    go_enter Try.func99, Try.ntmps99
    go_wp2
    go_ret2
    exact ⟨rfl, rfl⟩
  by_cases c2 : 2147483647 < a1
  · clear h
    have e1 : 0 ≤ a1 := by omega
    clear c1
    go_enter Try.func99, Try.ntmps99
    go_wp2
    go_ret2
    exact ⟨rfl, rfl⟩
  by_cases c3 : a2 < 1
  · clear h
    have e1 : 0 ≤ a1 := by omega
    have e2 : a1 ≤ 2147483647 := by omega
    clear c1 c2
    go_enter Try.func99, Try.ntmps99
    go_wp2
    go_ret2
    exact ⟨rfl, rfl⟩
  by_cases c4 : 6 < a2
  · clear h
    have e1 : 0 ≤ a1 := by omega
    have e2 : a1 ≤ 2147483647 := by omega
    have e3 : 1 ≤ a2 := by omega
    clear c1 c2 c3
    go_enter Try.func99, Try.ntmps99
    go_wp2
    go_ret2
    exact ⟨rfl, rfl⟩
  have c5 : a4 < (a3.size : Int) := by omega
  clear h
  have e1 : 0 ≤ a1 := by omega
  have e2 : a1 ≤ 2147483647 := by omega
  have e3 : 1 ≤ a2 := by omega
  have e4 : a2 ≤ 6 := by omega
  clear c1 c2 c3 c4
  go_enter Try.func99, Try.ntmps99
  go_wp2
  go_ret2
  exact ⟨rfl, rfl⟩
theorem len_put {y : List Int} {b : Nat} (hy : y.length ≤ b) (n : Int) (h1 : n ≤ 9223372036854775807) : (y ++ putv n.toNat).length ≤ b + 10 := by
  have h10 := putv_le10 n.toNat (by omega)
  rw [List.length_append]
  omega
set_option maxHeartbeats 2000000 in
set_option maxRecDepth 100000 in
theorem encode_yes (a0 a1 a2 : Int) (a3 : ByteArray) (a4 : Int) (w : World) (e1 : 0 ≤ a1) (e2 : a1 ≤ 2147483647) (e3 : 1 ≤ a2) (e4 : a2 ≤ 6) (e5 : (a3.size : Int) ≤ a4) (hl : a3.size ≤ 1000000000) :
    Calls Try.prog 99 #[.int .u8 a0, .int .i64 a1, .int .i64 a2, .string a3, .int .i64 a4] w fun e w' => ∃ v, e = .returned (.tuple #[v, .int .i64 0]) ∧ Kd.R (Kd.int .u8) 5 w' w.heap.size (fun _ => True) v ([a0] ++ putv a1.toNat ++ putv a2.toNat ++ putv a3.size ++ bytesOf a3) ∧ Below w.heap.size w w' := by
  have L0 : [a0].length ≤ 1 := Nat.le_refl _
  have L1 := Aside0.mk (len_put L0 a1 (by omega))
  have L2 := Aside0.mk (len_put L1.out a2 (by omega))
  clear L0
  have HL := Aside0.mk hl
  clear hl
  go_enter Try.func99, Try.ntmps99
  go_wp2_with fail
  refine (wnumP w _ _ _ _ (wat_new w w (Below.refl _ _) a0) (by omega) (by omega) (by simp)).mono ?_
  rintro e w1 ⟨rfl, hw1⟩
  have HW1 := Aside0.mk hw1
  clear hw1
  go_wp2_with fail
  refine (wnumP w _ _ _ _ HW1.out (by omega) (by omega) (by have := L1.out; omega)).mono ?_
  rintro e w2 ⟨rfl, hw2⟩
  have HW2 := Aside0.mk hw2
  clear hw2 HW1
  go_wp2_with fail
  refine (wtextP w _ _ _ _ HW2.out HL.out (by have := L2.out; omega)).mono ?_
  rintro e w3 ⟨rfl, hw3⟩
  obtain ⟨v, h1, h2, h3, h4⟩ := hw3
  have hcell : w3.cell? ⟨w.heap.size + 1, 0, none⟩ = some v := blk_cell h1 0
  have HR := Aside0.mk h2
  have HB := Aside0.mk h3
  clear h1 h2 h3 h4 HW2
  go_wp2_with fail
  go_ret2
  exact ⟨v, rfl, HR.out, HB.out⟩
theorem admin_encode.calls (a0 a1 a2 : Int) (a3 : ByteArray) (a4 : Int) (r1 : List Int) (r2 : Int) (w : World) (h : admin_encode.f a0 a1 a2 a3 a4 = some (r1, r2)) :
    Calls Try.prog 99 #[.int .u8 a0, .int .i64 a1, .int .i64 a2, .string a3, .int .i64 a4] w fun e w' => ∃ v0_ : Value, e = .returned (.tuple #[v0_, .int .i64 r2]) ∧ Kd.R (Kd.int .u8) 5 w' w.heap.size (fun _ => True) v0_ r1 ∧ Below w.heap.size w w' := by
  unfold admin_encode.f at h
  split at h
  · rename_i hc
    obtain ⟨e1, e2, e3, e4, e5⟩ := hc
    split at h
    · rename_i hl
      simp only [Option.some.injEq, Prod.mk.injEq] at h
      obtain ⟨rfl, rfl⟩ := h
      exact encode_yes a0 a1 a2 a3 a4 w e1 e2 e3 e4 e5 hl
    · cases h
  · rename_i hc
    simp only [Option.some.injEq, Prod.mk.injEq] at h
    obtain ⟨rfl, rfl⟩ := h
    refine (encode_no a0 a1 a2 a3 a4 w hc).mono ?_
    rintro e w' ⟨rfl, rfl⟩
    exact ⟨_, rfl, Kd.R_nil _ _ _ _ _, Below.refl _ _⟩

/-- May an oops be? -/
def MayO (a0 a1 a2 a3 : Int) : Prop := 0 ≤ a0 ∧ a0 ≤ 2147483647 ∧ 1 ≤ a1 ∧ a1 ≤ 8 ∧ 0 ≤ a2 ∧ a2 ≤ 17 ∧ 0 ≤ a3 ∧ a3 ≤ 4294967295
instance (a0 a1 a2 a3 : Int) : Decidable (MayO a0 a1 a2 a3) := by unfold MayO; infer_instance
theorem may_f (a0 a1 a2 a3 : Int) : admin_may.f a0 a1 a2 a3 = some (decide (MayO a0 a1 a2 a3)) := by
  unfold admin_may.f MayO
  repeat' split
  all_goals first | (congr 1; exact decide_eq_decide.2 (by omega)) | (congr 1; exact (decide_eq_false (by omega)).symm)
def admin_EncodeOops.f (a0 a1 a2 a3 : Int) : Option (List Int × Int) :=
  if MayO a0 a1 a2 a3 then some ([5] ++ putv a0.toNat ++ putv a1.toNat ++ putv a2.toNat ++ putv a3.toNat, 0) else some ([], 1)
set_option maxHeartbeats 2000000 in
set_option maxRecDepth 100000 in
theorem oops_no (a0 a1 a2 a3 : Int) (w : World) (h : ¬ MayO a0 a1 a2 a3) :
    Calls Try.prog 72 #[.agg #[.int .i64 a0, .int .i64 a1, .int .i64 a2, .int .i64 a3]] w fun e w' => e = .returned (.tuple #[.slice none 0 0, .int .i64 1]) ∧ Below w.heap.size w w' := by
  have H := Aside0.mk (show admin_may.f a0 a1 a2 a3 = some false by rw [may_f, decide_eq_false h])
  clear h
  go_enter Try.func72, Try.ntmps72
  go_wp2_with fail
  refine (admin_may.calls _ _ _ _ _ _ H.out).mono ?_
  rintro e w1 ⟨rfl, hb⟩
  have HB := Aside0.mk (below_step (below_alloc (Below.refl _ _) _) hb)
  clear hb
  go_wp2_with fail
  go_ret2
  exact ⟨rfl, HB.out⟩
set_option maxHeartbeats 4000000 in
set_option maxRecDepth 100000 in
theorem oops_yes (a0 a1 a2 a3 : Int) (w : World) (h : MayO a0 a1 a2 a3) :
    Calls Try.prog 72 #[.agg #[.int .i64 a0, .int .i64 a1, .int .i64 a2, .int .i64 a3]] w fun e w' => ∃ v, e = .returned (.tuple #[v, .int .i64 0]) ∧ Kd.R (Kd.int .u8) 5 w' w.heap.size (fun _ => True) v ([5] ++ putv a0.toNat ++ putv a1.toNat ++ putv a2.toNat ++ putv a3.toNat) ∧ Below w.heap.size w w' := by
  have H := Aside0.mk (show admin_may.f a0 a1 a2 a3 = some true by rw [may_f, decide_eq_true h])
  obtain ⟨q1, q2, q3, q4, q5, q6, q7, q8⟩ := h
  have L0 : [(5 : Int)].length ≤ 1 := Nat.le_refl _
  have L1 := Aside0.mk (len_put L0 a0 (by omega))
  have L2 := Aside0.mk (len_put L1.out a1 (by omega))
  have L3 := Aside0.mk (len_put L2.out a2 (by omega))
  clear L0
  go_enter Try.func72, Try.ntmps72
  go_wp2_with fail
  refine (admin_may.calls _ _ _ _ _ _ H.out).mono ?_
  rintro e w1 ⟨rfl, hb⟩
  have hblk := blk_below (heap_alloc_new w (.cells #[.int .i64 a0, .int .i64 a1, .int .i64 a2, .int .i64 a3] 88)) hb
  have HK := Aside0.mk hblk
  have HB := Aside0.mk (below_step (below_alloc (Below.refl _ _) _) hb)
  have hz : w.heap.size < w1.heap.size := blk_lt hblk
  have hc0 : w1.cell? ⟨w.heap.size, 0, none⟩ = some (.int .i64 a0) := blk_cell hblk 0
  clear hb hblk H
  go_wp2_with fail
  refine (wnumP w1 _ _ _ _ (wat_new w1 w1 (Below.refl _ _) 5) (by omega) (by omega) (by simp)).mono ?_
  rintro e w2 ⟨rfl, hw2⟩
  have HW2 := Aside0.mk hw2
  have hc1 : w2.cell? ⟨w.heap.size, 1, none⟩ = some (.int .i64 a1) := blk_cell (blk_below HK.out hw2.below) 1
  clear hw2 hc0
  go_wp2_with fail
  refine (wnumP w1 _ _ _ _ HW2.out (by omega) (by omega) (by have := L1.out; omega)).mono ?_
  rintro e w3 ⟨rfl, hw3⟩
  have HW3 := Aside0.mk hw3
  have hc2 : w3.cell? ⟨w.heap.size, 2, none⟩ = some (.int .i64 a2) := blk_cell (blk_below HK.out hw3.below) 2
  clear hw3 hc1 HW2
  go_wp2_with fail
  refine (wnumP w1 _ _ _ _ HW3.out (by omega) (by omega) (by have := L2.out; omega)).mono ?_
  rintro e w4 ⟨rfl, hw4⟩
  have HW4 := Aside0.mk hw4
  have hc3 : w4.cell? ⟨w.heap.size, 3, none⟩ = some (.int .i64 a3) := blk_cell (blk_below HK.out hw4.below) 3
  clear hw4 hc2 HW3
  go_wp2_with fail
  refine (wnumP w1 _ _ _ _ HW4.out (by omega) (by omega) (by have := L3.out; omega)).mono ?_
  rintro e w5 ⟨rfl, hw5⟩
  obtain ⟨v, h1, h2, h3, h4⟩ := hw5
  have hcell : w5.cell? ⟨w1.heap.size + 1, 0, none⟩ = some v := blk_cell h1 0
  have HR := Aside0.mk (Kd.R_lower h2 HB.out.size)
  have HB2 := Aside0.mk (below_step HB.out h3)
  clear h1 h2 h3 h4 HW4 hc3
  go_wp2_with fail
  go_ret2
  exact ⟨v, rfl, HR.out, HB2.out⟩
theorem admin_EncodeOops.calls (a0 a1 a2 a3 : Int) (r1 : List Int) (r2 : Int) (w : World) (h : admin_EncodeOops.f a0 a1 a2 a3 = some (r1, r2)) :
    Calls Try.prog 72 #[.agg #[.int .i64 a0, .int .i64 a1, .int .i64 a2, .int .i64 a3]] w fun e w' => ∃ v0_ : Value, e = .returned (.tuple #[v0_, .int .i64 r2]) ∧ Kd.R (Kd.int .u8) 5 w' w.heap.size (fun _ => True) v0_ r1 ∧ Below w.heap.size w w' := by
  unfold admin_EncodeOops.f at h
  split at h
  · rename_i hc
    simp only [Option.some.injEq, Prod.mk.injEq] at h
    obtain ⟨rfl, rfl⟩ := h
    exact oops_yes a0 a1 a2 a3 w hc
  · rename_i hc
    simp only [Option.some.injEq, Prod.mk.injEq] at h
    obtain ⟨rfl, rfl⟩ := h
    refine (oops_no a0 a1 a2 a3 w hc).mono ?_
    rintro e w' ⟨rfl, hb⟩
    exact ⟨_, rfl, Kd.R_nil _ _ _ _ _, hb⟩
end Go.Proofs.Ytnhblhhkjnmkkaa.Q
