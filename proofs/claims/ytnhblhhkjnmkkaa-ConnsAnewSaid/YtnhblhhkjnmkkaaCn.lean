/- The walk of ConnsAnew: a connection that is closed and opened again waits for nothing. -/
import Derived.Test.YtnhblhhkjnmkkaaCw
import Derived.Test.YtnhblhhkjnmkkaaQ12
namespace Go.Proofs.Ytnhblhhkjnmkkaa.Q
open Go.RowKit Go.Proofs.YtnhblhhkjnmkkaaW.PrintWords Go.Proofs.YtnhblhhkjnmkkaaW.PrintLast Go.Proofs.YtnhblhhkjnmkkaaW.PrintMore
open Go.Proofs.Ytnhblhhkjnmkkaa.Sp Go.Proofs.Ytnhblhhkjnmkkaa.Va Go.Proofs.Ytnhblhhkjnmkkaa.Fr
set_option linter.unusedVariables false
set_option linter.unusedSimpArgs false
set_option maxHeartbeats 4000000 in
set_option maxRecDepth 100000 in
theorem cn_awake (A : Option Addr) (c : Nat) (b : List Int) (B : Option Addr) (d : Nat) (l : List Int) (most : Int) (w : World) (h : 3000 < b.length ∨ 3000 < l.length ∨ most < 1 ∨ 65536 < most) (hb : b.length ≤ 9223372036854775807) (hl : l.length ≤ 9223372036854775807) :
    Calls Try.prog 16 #[.slice A b.length c, .slice B l.length d, .int .i64 most] w fun e w' => e = .returned (.bool true) ∧ Below w.heap.size w w' := by
  have HA := Aside0.mk (c_awake w)
  by_cases c1 : 3000 < b.length
  · have d1 : decide ((3000 : Int) < (b.length : Int)) = true := decide_eq_true (by omega)
    clear h c1
    go_enter Try.func16, Try.ntmps16
    go_wp2_with fail
    refine HA.out.mono ?_
    rintro e w2 ⟨rfl, hb2⟩
    have HB2 := Aside0.mk hb2
    clear hb2
    go_wp2_with fail
    go_ret
    exact ⟨rfl, HB2.out⟩
  · have d1 : decide ((3000 : Int) < (b.length : Int)) = false := decide_eq_false (by omega)
    by_cases c2 : 3000 < l.length
    · have d2 : decide ((3000 : Int) < (l.length : Int)) = true := decide_eq_true (by omega)
      clear h c1 c2
      go_enter Try.func16, Try.ntmps16
      go_wp2_with fail
      refine HA.out.mono ?_
      rintro e w2 ⟨rfl, hb2⟩
      have HB2 := Aside0.mk hb2
      clear hb2
      go_wp2_with fail
      go_ret
      exact ⟨rfl, HB2.out⟩
    · have d2 : decide ((3000 : Int) < (l.length : Int)) = false := decide_eq_false (by omega)
      by_cases c3 : most < 1
      · have d3 : decide (most < 1) = true := decide_eq_true c3
        clear h c1 c2
        go_enter Try.func16, Try.ntmps16
        go_wp2_with fail
        refine HA.out.mono ?_
        rintro e w2 ⟨rfl, hb2⟩
        have HB2 := Aside0.mk hb2
        clear hb2
        go_wp2_with fail
        go_ret
        exact ⟨rfl, HB2.out⟩
      · have d3 : decide (most < 1) = false := decide_eq_false c3
        have d4 : decide (65536 < most) = true := decide_eq_true (by omega)
        clear h c1 c2
        go_enter Try.func16, Try.ntmps16
        go_wp2_with fail
        refine HA.out.mono ?_
        rintro e w2 ⟨rfl, hb2⟩
        have HB2 := Aside0.mk hb2
        clear hb2
        go_wp2_with fail
        go_ret
        exact ⟨rfl, HB2.out⟩
theorem feedS_one (m : Nat) (b : List Int) : feedS m [some ([], false)] 0 b = ((feedv m [] false b).1, (feedv m [] false b).2.1, [some ((feedv m [] false b).2.2.1, (feedv m [] false b).2.2.2)]) := by
  have h := feedS_yes m [some ([], false)] 0 b [] false rfl
  exact h
set_option maxHeartbeats 8000000 in
set_option maxRecDepth 100000 in
theorem cn_main (A : Option Addr) (c : Nat) (b : List Int) (B : Option Addr) (d : Nat) (l : List Int) (most : Int) (w : World) (hA : Kd.C (Kd.int .u8) w A b.length b) (hc : b.length ≤ c) (hbb : Bytes b) (h1 : b.length ≤ 3000) (hB : Kd.C (Kd.int .u8) w B l.length l) (hd : l.length ≤ d) (hbl : Bytes l) (h2 : l.length ≤ 3000) (h3 : 1 ≤ most) (h4 : most ≤ 65536) :
    Calls Try.prog 16 #[.slice A b.length c, .slice B l.length d, .int .i64 most] w fun e w' => e = .returned (.bool true) ∧ Below w.heap.size w w' := by
  have d1 : decide ((3000 : Int) < (b.length : Int)) = false := decide_eq_false (by omega)
  have d2 : decide ((3000 : Int) < (l.length : Int)) = false := decide_eq_false (by omega)
  have d3 : decide (most < 1) = false := decide_eq_false (by omega)
  have d4 : decide (65536 < most) = false := decide_eq_false (by omega)
  have HA := Aside0.mk hA
  have HB := Aside0.mk hB
  have HBB := Aside0.mk (And.intro hbb hbl)
  have HN := Aside0.mk (And.intro h3 h4)
  have HL := Aside0.mk (And.intro h1 h2)
  have hdl : ∀ (m : Nat), (feedv m [] false l).1.length ≤ 1000000000 := by
    intro m
    have h := (allv_len m ([] ++ l).length ([] ++ l) (by simpa using hbl)).1
    simp only [List.nil_append] at h
    unfold feedv
    rw [if_neg (by decide)]
    split <;> (simp only [List.nil_append]; omega)
  have HDL := Aside0.mk hdl
  clear hA hB hbb hbl h1 h2 h3 h4 hdl
  go_enter Try.func16, Try.ntmps16
  go_wp2_with fail
  refine (cnew_ok 1 most w (by decide) (by decide) HN.out.1 HN.out.2).mono ?_
  rintro e w1 ⟨rfl, hw1⟩
  have ht1 := tab_new w w (Below.refl _ _) 1 most 121 45 118
  rw [hw1] at ht1
  have H1 := Aside0.mk ht1
  obtain ⟨g, hg⟩ : ∃ g, g = w.heap.size + 1 := ⟨_, rfl⟩
  rw [← hg] at H1 ⊢
  clear ht1 hw1 hg
  go_wp2_with fail
  refine (to_open w w1 _ _ most _ H1.out [none] rfl (by decide) 0 true [some ([], false)] (by decide +kernel)).mono ?_
  rintro e w2 ⟨rfl, ps2, ht2⟩
  have H2 := Aside0.mk ht2
  clear ht2 H1
  have F3 := Aside0.mk (to_feed w w2 _ _ most _ H2.out.1 _ H2.out.2.1 (by decide) 0 ⟨fun i y hy => by rcases i with _ | i <;> simp at hy; subst hy; exact Bytes.nil, by decide⟩ 0 A c b (Kd.C_below HA.out H2.out.1.2.2.2.2.1) hc HBB.out.1 (by have := HL.out.1; omega) _ _ _ (feedS_one (lim most) b))
  go_wp2_with fail
  refine F3.out.mono ?_
  rintro e w3 ⟨A3, c3, ps3, rfl, _, ht3⟩
  have H3 := Aside0.mk ht3
  clear ht3 H2 F3
  go_wp2_with fail
  refine (to_close w w3 _ _ most _ H3.out.1 _ H3.out.2.1 (by simp) 0 true [none] (by rfl)).mono ?_
  rintro e w4 ⟨rfl, ps4, ht4⟩
  have H4 := Aside0.mk ht4
  clear ht4 H3
  go_wp2_with fail
  refine (to_open w w4 _ _ most _ H4.out.1 [none] H4.out.2.1 (by decide) 0 true [some ([], false)] (by decide +kernel)).mono ?_
  rintro e w5 ⟨rfl, ps5, ht5⟩
  have H5 := Aside0.mk ht5
  clear ht5 H4
  have F6 := Aside0.mk (to_feed w w5 _ _ most _ H5.out.1 _ H5.out.2.1 (by decide) 0 ⟨fun i y hy => by rcases i with _ | i <;> simp at hy; subst hy; exact Bytes.nil, by decide⟩ 0 B d l (Kd.C_below HB.out H5.out.1.2.2.2.2.1) hd HBB.out.2 (by have := HL.out.2; omega) _ _ _ (feedS_one (lim most) l))
  go_wp2_with fail
  refine F6.out.mono ?_
  obtain ⟨D, hD⟩ : ∃ D, D = feedv (lim most) [] false l := ⟨_, rfl⟩
  rw [← hD]
  rintro e w6 ⟨A6, c6, ps6, rfl, hs6, ht6⟩
  have HD := Aside0.mk hD
  have hrd6 := Kd.S_reads' hs6
  have H6 := Aside0.mk (And.intro hrd6 ht6.1.2.2.2.2.1)
  clear hs6 hrd6 ht6 H5 F6 hD
  have hrf := rfeed_calls w6 _ _ most [] false _ (rdr_new w6 w6 (Below.refl _ _) most 49) Bytes.nil B d l (Kd.C_alloc (Kd.C_below HB.out H6.out.2) _) hd HBB.out.2 (by have := HL.out.2; simp; omega)
  rw [← HD.out] at hrf
  have F7 := Aside0.mk hrf
  clear hrf
  go_wp2_with fail
  refine F7.out.mono ?_
  rintro e w7 ⟨vl, v', rfl, hs7, hr7, _, _⟩
  obtain ⟨A7, c7, ev⟩ := Kd.S_slice hs7
  subst ev
  have hrd7 := Kd.S_reads' hs7
  have hb7 := hr7.2.2.1
  have HROWS := Aside0.mk (turncockref1_Rows.calls (D.1.length + 1) A6 c6 D.1 A7 c7 D.1 true w7 (Kd.C_below H6.out.1.2.2 hb7) H6.out.1.2.1 hrd7.2.2 hrd7.2.1 (rows_self D.1 (by rw [HD.out]; exact HDL.out _) _ (Nat.le_refl _)))
  have HB7 := Aside0.mk (below_step H6.out.2 hb7)
  have hee : (D.2.1 == D.2.1) = true := beq_self_eq_true D.2.1
  clear hs7 hr7 hrd7 hb7 F7
  go_wp2_with fail
  refine HROWS.out.mono ?_
  rintro e w8 ⟨rfl, hd8⟩
  have HB8 := Aside0.mk (below_step HB7.out hd8.below)
  clear hd8
  go_wp2_with fail
  refine (c_awake _).mono ?_
  rintro e w9 ⟨rfl, hb9⟩
  have HB9 := Aside0.mk (below_step HB8.out hb9)
  clear hb9
  go_wp2_with fail
  go_ret
  exact ⟨rfl, HB9.out⟩
def turncocklaw32_ConnsAnew.f (k : Nat) (l0 l1 : List Int) (a2 : Int) : Option Bool :=
  if Bytes l0 ∧ Bytes l1 ∧ l0.length ≤ 140737488351232 ∧ l1.length ≤ 140737488351232 then some true else none
theorem turncocklaw32_ConnsAnew.calls (k : Nat) (A0 : Option Addr) (c0 : Nat) (l0 : List Int) (A1 : Option Addr) (c1 : Nat) (l1 : List Int) (a2 : Int) (r : Bool) (w : World) (hr0 : Kd.C (Kd.int .u8) w A0 l0.length l0) (hc0 : l0.length ≤ c0) (hr1 : Kd.C (Kd.int .u8) w A1 l1.length l1) (hc1 : l1.length ≤ c1) (h : turncocklaw32_ConnsAnew.f k l0 l1 a2 = some r) :
    Calls Try.prog 16 #[.slice A0 l0.length c0, .slice A1 l1.length c1, .int .i64 a2] w fun e w' => e = .returned (.bool r) ∧ Below w.heap.size w w' := by
  unfold turncocklaw32_ConnsAnew.f at h
  split at h
  · rename_i hh
    obtain rfl := Option.some.inj h
    by_cases c : 3000 < l0.length ∨ 3000 < l1.length ∨ a2 < 1 ∨ 65536 < a2
    · exact cn_awake A0 c0 l0 A1 c1 l1 a2 w c (by omega) (by omega)
    · exact cn_main A0 c0 l0 A1 c1 l1 a2 w hr0 hc0 hh.1 (by omega) hr1 hc1 hh.2.1 (by omega) (by omega) (by omega)
  · cases h
end Go.Proofs.Ytnhblhhkjnmkkaa.Q
