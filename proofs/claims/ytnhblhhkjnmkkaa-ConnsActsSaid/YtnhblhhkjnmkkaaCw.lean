/- The conns laws' awake: what it asks at fixed inputs, walked once. -/
import Derived.Test.YtnhblhhkjnmkkaaCe
namespace Go.Proofs.Ytnhblhhkjnmkkaa.Q
open Go.RowKit Go.Proofs.YtnhblhhkjnmkkaaW.PrintWords Go.Proofs.YtnhblhhkjnmkkaaW.PrintLast Go.Proofs.YtnhblhhkjnmkkaaW.PrintMore
open Go.Proofs.Ytnhblhhkjnmkkaa.Sp Go.Proofs.Ytnhblhhkjnmkkaa.Va Go.Proofs.Ytnhblhhkjnmkkaa.Fr
set_option linter.unusedVariables false
set_option linter.unusedSimpArgs false
set_option maxHeartbeats 8000000 in
set_option maxRecDepth 100000 in
theorem c_awake (w : World) : Calls Try.prog 51 #[] w fun e w' => e = .returned (.bool true) ∧ Below w.heap.size w w' := by
  go_enter Try.func51, Try.ntmps51
  go_wp2_with fail
  refine (cnew_ok 2 5 w (by decide) (by decide) (by decide) (by decide)).mono ?_
  rintro e w1 ⟨rfl, hw1⟩
  have ht1 := tab_new w w (Below.refl _ _) 2 5 121 45 118
  rw [hw1] at ht1
  have H1 := Aside0.mk ht1
  obtain ⟨g, hg⟩ : ∃ g, g = w.heap.size + 1 := ⟨_, rfl⟩
  rw [← hg] at H1 ⊢
  have HG := Aside0.mk hg
  clear ht1 hw1 hg
  go_wp2_with fail
  refine (cnew_bad 0 5 w1 (Or.inl (by decide))).mono ?_
  rintro e w2 ⟨rfl, rfl⟩
  go_wp2_with fail
  refine (cnew_bad 1 0 w1 (Or.inr (Or.inr (Or.inl (by decide))))).mono ?_
  rintro e w2 ⟨rfl, rfl⟩
  go_wp2_with fail
  refine (to_open w w1 _ _ 5 _ H1.out [none, none] rfl (by decide) 0 true [some ([], false), none] (by decide +kernel)).mono ?_
  rintro e w2 ⟨rfl, ps2, ht2⟩
  have H2 := Aside0.mk ht2
  clear ht2
  go_wp2_with fail
  refine (to_open w w2 _ _ 5 _ H2.out.1 _ H2.out.2.1 (by decide) 0 false [some ([], false), none] (by decide +kernel)).mono ?_
  rintro e w3 ⟨rfl, ps3, ht3⟩
  have H3 := Aside0.mk ht3
  clear ht3 H2
  go_wp2_with fail
  refine (to_open w w3 _ _ 5 _ H3.out.1 _ H3.out.2.1 (by decide) 2 false [some ([], false), none] (by decide +kernel)).mono ?_
  rintro e w4 ⟨rfl, ps4, ht4⟩
  have H4 := Aside0.mk ht4
  clear ht4 H3
  have F5 := Aside0.mk (to_feed w _ _ _ 5 _ (H4.out.1.more (below_alloc (Below.refl _ _) (.cells (nums .u8 [1, 97, 9]).toArray 5))) _ H4.out.2.1 (by decide) 0 ⟨fun i y hy => by rcases i with _ | _ | i <;> simp at hy; subst hy; exact Bytes.nil, by decide⟩ 0 _ 3 [1, 97, 9] (lit_bytes w4 5 (0, 0) [1, 97, 9] _ rfl (by decide)) (by decide) (by decide) (by decide) [[97]] 4 [some ([], true), none] (by decide +kernel))
  go_wp2_with fail
  refine F5.out.mono ?_
  rintro e w5 ⟨A5, c5, ps5, rfl, hs5, ht5⟩
  have H5 := Aside0.mk ht5
  have S5 := Aside0.mk hs5
  clear ht5 hs5 H4 F5
  have hsb : SB [some (([] : List Int), true), none] 0 := ⟨fun i y hy => by rcases i with _ | _ | i <;> simp at hy; subst hy; exact Bytes.nil, by decide⟩
  have HSB := Aside0.mk hsb
  clear hsb
  go_wp2_with fail
  refine (to_feed w w5 _ _ 5 _ H5.out.1 _ H5.out.2.1 (by decide) 0 HSB.out 1 none 0 [] (Kd.C_nil _ _) (by decide) Bytes.nil (by decide) [] 5 [some ([], true), none] (by decide +kernel)).mono ?_
  rintro e w6 ⟨A6, c6, ps6, rfl, _, ht6⟩
  have S6 := Aside0.mk (ht6.rows S5.out)
  have H6 := Aside0.mk ht6
  clear ht6 H5 S5
  go_wp2_with fail
  refine (to_feed w w6 _ _ 5 _ H6.out.1 _ H6.out.2.1 (by decide) 0 HSB.out 0 none 0 [] (Kd.C_nil _ _) (by decide) Bytes.nil (by decide) [] 7 [some ([], true), none] (by decide +kernel)).mono ?_
  rintro e w7 ⟨A7, c7, ps7, rfl, _, ht7⟩
  have S7 := Aside0.mk (ht7.rows S6.out)
  have H7 := Aside0.mk ht7
  clear ht7 H6 S6
  have IS := Aside0.mk (is_calls w w7 _ _ 5 _ H7.out.1 (by rw [ab_len H7.out.2.1]; decide) 0)
  have hv : isv ps7 0 = true := by rw [← isv_ab, H7.out.2.1]; rfl
  rw [hv] at IS
  clear hv
  go_wp2_with fail
  refine IS.out.mono ?_
  rintro e w8 ⟨rfl, rfl⟩
  go_wp2_with fail
  refine (to_close w w7 _ _ 5 _ H7.out.1 _ H7.out.2.1 (by decide) 0 true [none, none] (by decide +kernel)).mono ?_
  rintro e w8 ⟨rfl, ps8, ht8⟩
  have S8 := Aside0.mk (ht8.rows S7.out)
  have H8 := Aside0.mk ht8
  clear ht8 H7 S7 IS
  obtain ⟨ga, cap, ev4, _⟩ := Kd.S_form S8.out (by decide)
  have eA5 : A5 = some ⟨ga, 0, none⟩ := by injection ev4
  subst eA5
  obtain ⟨ad, A0, c0, eA, hx, hl0, hC0⟩ := at_L1 (Kd.S_reads' S8.out).2.2 0 (by decide) (by decide)
  cases eA
  have hx' : w8.cell? ⟨ga, 0, none⟩ = some (.slice A0 1 c0) := by rw [← add_plain ga 0]; exact hx
  have hC0' : Kd.C (Kd.int .u8) w8 A0 1 [97] := hC0
  have hcv : (convert 22 9 (.slice A0 1 c0)).run Try.prog w8 = .ok (.string ⟨#[97]⟩) w8 := Kd.C_string (c := c0) Try.underlying22 Try.underlying5 Try.underlying9 hC0'
  clear hx hl0 hC0 hC0'
  go_wp2_with fail
  refine (to_close w w8 _ _ 5 _ H8.out.1 _ H8.out.2.1 (by decide) 0 false [none, none] (by decide +kernel)).mono ?_
  rintro e w9 ⟨rfl, ps9, ht9⟩
  have H9 := Aside0.mk ht9
  clear ht9 H8 S8 hx' hcv
  go_wp2_with fail
  refine (clist_calls w w9 _ _ 5 _ H9.out.1 (by rw [ab_len H9.out.2.1]; decide) _ H9.out.2.1).mono ?_
  rintro e w10 ⟨A10, c10, rfl, _, _, hb10⟩
  have hlz : (listS [(none : Option (List Int × Bool)), none] 2).length = 0 := by decide +kernel
  have HB := Aside0.mk (below_step H9.out.1.2.2.2.2.1 hb10)
  simp only [List.length_cons, List.length_nil, Nat.zero_add, Nat.reduceAdd, hlz] at *
  clear hb10
  go_wp2_with fail
  refine (copen_nil _ _).mono ?_
  rintro e w11 ⟨rfl, rfl⟩
  go_wp2_with fail
  refine (clist_nil _).mono ?_
  rintro e w11 ⟨rfl, rfl⟩
  go_wp2
  go_ret
  exact ⟨rfl, HB.out⟩
end Go.Proofs.Ytnhblhhkjnmkkaa.Q
