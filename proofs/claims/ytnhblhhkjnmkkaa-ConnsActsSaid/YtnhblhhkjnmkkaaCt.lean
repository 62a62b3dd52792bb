/- The walk of ConnsActs: whatever is opened, closed and fed, program and reference tell the same. -/
import Derived.Test.YtnhblhhkjnmkkaaCm
namespace Go.Proofs.Ytnhblhhkjnmkkaa.Q
open Go.RowKit Go.Proofs.YtnhblhhkjnmkkaaW.PrintWords Go.Proofs.YtnhblhhkjnmkkaaW.PrintLast Go.Proofs.YtnhblhhkjnmkkaaW.PrintMore
open Go.Proofs.Ytnhblhhkjnmkkaa.Sp Go.Proofs.Ytnhblhhkjnmkkaa.Va Go.Proofs.Ytnhblhhkjnmkkaa.Fr
set_option linter.unusedVariables false
set_option linter.unusedSimpArgs false
set_option maxHeartbeats 4000000 in
set_option maxRecDepth 100000 in
theorem acts_heavy (n most : Int) (A : Option Addr) (c : Nat) (l : List S67) (w : World) (hC : Kd.C k67 w A l.length l) (hc : l.length ≤ c) (hr : turncocklaw32_light.f (l.length + 1) l = some false) :
    Calls Try.prog 14 #[.int .i64 n, .int .i64 most, .slice A l.length c] w fun e w' => e = .returned (.bool true) ∧ Below w.heap.size w w' := by
  have HW := Aside0.mk (turncocklaw32_light.calls (l.length + 1) A c l false w hC hc hr)
  clear hC hr
  go_enter Try.func14, Try.ntmps14
  go_wp2_with fail
  refine HW.out.mono ?_
  rintro e w1 ⟨rfl, hb1⟩
  have HB1 := Aside0.mk hb1
  clear hb1
  go_wp2_with fail
  refine (c_awake _).mono ?_
  rintro e w2 ⟨rfl, hb2⟩
  have HB2 := Aside0.mk (below_step HB1.out hb2)
  clear hb2
  go_wp2_with fail
  go_ret
  exact ⟨rfl, HB2.out⟩
set_option maxHeartbeats 4000000 in
set_option maxRecDepth 100000 in
theorem acts_bad (n most : Int) (A : Option Addr) (c : Nat) (l : List S67) (w : World) (hC : Kd.C k67 w A l.length l) (hc : l.length ≤ c) (hr : turncocklaw32_light.f (l.length + 1) l = some true) (h : n < 1 ∨ 64 < n ∨ most < 1 ∨ 65536 < most) :
    Calls Try.prog 14 #[.int .i64 n, .int .i64 most, .slice A l.length c] w fun e w' => e = .returned (.bool true) ∧ Below w.heap.size w w' := by
  have HW := Aside0.mk (turncocklaw32_light.calls (l.length + 1) A c l true w hC hc hr)
  have HN := Aside0.mk (fun W => cnew_bad n most W h)
  clear hC hr
  by_cases c1 : n < 1
  · have d1 : decide (n < 1) = true := decide_eq_true c1
    clear h c1
    go_enter Try.func14, Try.ntmps14
    go_wp2_with fail
    refine HW.out.mono ?_
    rintro e w1 ⟨rfl, hb1⟩
    have HB1 := Aside0.mk hb1
    clear hb1
    go_wp2_with fail
    refine (HN.out w1).mono ?_
    rintro e w2 ⟨rfl, rfl⟩
    go_wp2_with fail
    refine (c_awake _).mono ?_
    rintro e w2 ⟨rfl, hb2⟩
    have HB2 := Aside0.mk (below_step HB1.out hb2)
    clear hb2
    go_wp2_with fail
    go_ret
    exact ⟨rfl, HB2.out⟩
  · have d1 : decide (n < 1) = false := decide_eq_false c1
    by_cases c2 : 64 < n
    · have d2 : decide (64 < n) = true := decide_eq_true c2
      clear h c1 c2
      go_enter Try.func14, Try.ntmps14
      go_wp2_with fail
      refine HW.out.mono ?_
      rintro e w1 ⟨rfl, hb1⟩
      have HB1 := Aside0.mk hb1
      clear hb1
      go_wp2_with fail
      refine (HN.out w1).mono ?_
      rintro e w2 ⟨rfl, rfl⟩
      go_wp2_with fail
      refine (c_awake _).mono ?_
      rintro e w2 ⟨rfl, hb2⟩
      have HB2 := Aside0.mk (below_step HB1.out hb2)
      clear hb2
      go_wp2_with fail
      go_ret
      exact ⟨rfl, HB2.out⟩
    · have d2 : decide (64 < n) = false := decide_eq_false c2
      by_cases c3 : most < 1
      · have d3 : decide (most < 1) = true := decide_eq_true c3
        clear h c1 c2 c3
        go_enter Try.func14, Try.ntmps14
        go_wp2_with fail
        refine HW.out.mono ?_
        rintro e w1 ⟨rfl, hb1⟩
        have HB1 := Aside0.mk hb1
        clear hb1
        go_wp2_with fail
        refine (HN.out w1).mono ?_
        rintro e w2 ⟨rfl, rfl⟩
        go_wp2_with fail
        refine (c_awake _).mono ?_
        rintro e w2 ⟨rfl, hb2⟩
        have HB2 := Aside0.mk (below_step HB1.out hb2)
        clear hb2
        go_wp2_with fail
        go_ret
        exact ⟨rfl, HB2.out⟩
      · have d3 : decide (most < 1) = false := decide_eq_false c3
        have d4 : decide (65536 < most) = true := decide_eq_true (by omega)
        clear h c1 c2 c3
        go_enter Try.func14, Try.ntmps14
        go_wp2_with fail
        refine HW.out.mono ?_
        rintro e w1 ⟨rfl, hb1⟩
        have HB1 := Aside0.mk hb1
        clear hb1
        go_wp2_with fail
        refine (HN.out w1).mono ?_
        rintro e w2 ⟨rfl, rfl⟩
        go_wp2_with fail
        refine (c_awake _).mono ?_
        rintro e w2 ⟨rfl, hb2⟩
        have HB2 := Aside0.mk (below_step HB1.out hb2)
        clear hb2
        go_wp2_with fail
        go_ret
        exact ⟨rfl, HB2.out⟩
set_option maxHeartbeats 8000000 in
set_option maxRecDepth 100000 in
theorem acts_main (n : Nat) (most : Int) (A : Option Addr) (c : Nat) (l : List S67) (w : World) (hC : Kd.C k67 w A l.length l) (hc : l.length ≤ c) (hr : turncocklaw32_light.f (l.length + 1) l = some true) (h1 : 1 ≤ n) (h2 : n ≤ 64) (h3 : 1 ≤ most) (h4 : most ≤ 65536) (hB : ∀ x ∈ l, Bytes x.f2) (hL : l.length ≤ 5000) (hT : totA l ≤ 5000) :
    Calls Try.prog 14 #[.int .i64 (n : Int), .int .i64 most, .slice A l.length c] w fun e w' => e = .returned (.bool true) ∧ Below w.heap.size w w' := by
  have HW := Aside0.mk (turncocklaw32_light.calls (l.length + 1) A c l true w hC hc hr)
  have d1 : decide ((n : Int) < 1) = false := decide_eq_false (by omega)
  have d2 : decide (64 < (n : Int)) = false := decide_eq_false (by omega)
  have d3 : decide (most < 1) = false := decide_eq_false (by omega)
  have d4 : decide (65536 < most) = false := decide_eq_false (by omega)
  have HC := Aside0.mk hC
  have HBY := Aside0.mk hB
  have HT := Aside0.mk hT
  have HN := Aside0.mk (And.intro h1 (And.intro h2 (And.intro h3 h4)))
  clear hC hr hB hT h1 h2 h3 h4
  go_enter Try.func14, Try.ntmps14
  go_wp2_with fail
  refine HW.out.mono ?_
  rintro e w1 ⟨rfl, hb1⟩
  have HB1 := Aside0.mk hb1
  clear hb1 HW
  go_wp2_with fail
  refine (cnew_ok n most w1 HN.out.1 HN.out.2.1 HN.out.2.2.1 HN.out.2.2.2).mono ?_
  rintro e w2 ⟨rfl, hw2⟩
  have ht2 := tab_new w w1 HB1.out n most 121 45 118
  have hbw2 : Below w1.heap.size w1 w2 := by rw [← hw2]; exact below_alloc (below_alloc (Below.refl _ _) _) _
  rw [hw2] at ht2
  obtain ⟨g, hg⟩ : ∃ g, g = w1.heap.size + 1 := ⟨_, rfl⟩
  obtain ⟨p, hp⟩ : ∃ p, p = w1.heap.size := ⟨_, rfl⟩
  rw [← hg, ← hp] at ht2
  rw [← hg]
  have H2 := Aside0.mk ht2
  clear ht2 hw2 hg hp hbw2
  go_wp2_with fail
  refine (rnew_calls n most w2 HN.out.2.1).mono ?_
  rintro e w3 ⟨rfl, hw3⟩
  have htn := tab_new w w2 H2.out.2.2.2.2.1 n most 124 47 49
  have hbw3 : Below w2.heap.size w2 w3 := by rw [← hw3]; exact below_alloc (below_alloc (Below.refl _ _) _) _
  rw [hw3] at htn
  have hno : ∀ (k : Nat), foot g p (List.replicate n none) k → ¬ foot (w2.heap.size + 1) w2.heap.size (List.replicate n none) k := by
    intro k hk
    have hlt := H2.out.lt hk
    rintro (rfl | rfl | ⟨i, x, hx, _⟩)
    · omega
    · omega
    · rw [List.getElem?_replicate] at hx
      split at hx <;> cases hx
  obtain ⟨g2, hg2⟩ : ∃ g2, g2 = w2.heap.size + 1 := ⟨_, rfl⟩
  obtain ⟨p2, hp2⟩ : ∃ p2, p2 = w2.heap.size := ⟨_, rfl⟩
  rw [← hg2, ← hp2] at htn hno
  rw [← hg2]
  have hab : (List.replicate n (none : Option (Nat × Value × List Int × Bool))).map ab = List.replicate n none := by simp [ab]
  have H3 := Aside0.mk (show Two w w3 g p 121 45 118 g2 p2 124 47 49 most (List.replicate n none) (List.replicate n none) (List.replicate n none) (List.replicate n none) from ⟨H2.out.more hbw3, htn, hab, hab, hno⟩)
  clear htn hw3 hno hg2 hp2 hab hbw3 H2
  go_wp2_with fail
  go_loopg [10] (l.length + 1) (fun kq v7 w' => ∃ (i k : Nat) (S : List (Option (List Int × Bool))) (ps qs : List (Option (Nat × Value × List Int × Bool))), v7 = .int .i64 (i : Int) ∧ Aside0 (i ≤ l.length) ∧ Aside0 (kq = l.length + 1 - i) ∧ Aside0 (Two w w' g p 121 45 118 g2 p2 124 47 49 most S S ps qs) ∧ Aside0 (SB S k ∧ k + totA (l.drop i) ≤ 5000 ∧ S.length = n))
  case atStart => exact ⟨0, 0, _, _, _, rfl, ⟨Nat.zero_le _⟩, ⟨rfl⟩, ⟨H3.out⟩, ⟨SB.new n 0, by have := HT.out; simpa using this, List.length_replicate⟩⟩
  case round =>
    obtain ⟨i, k, S, ps, qs, rfl, hi, hkq, hT, hSB⟩ := hrel
    by_cases c1 : i < l.length
    · have d5 : decide ((i : Int) < (l.length : Int)) = true := decide_eq_true (by omega)
      have e0 : 0 ≤ (i : Int) := by omega
      have e4 : (i : Int) < (l.length : Int) := by omega
      obtain ⟨ad, A0, c0, eA, hx0, hx1, hx2, hl0, hC0⟩ := at_T67 HC.out (i : Int) e0 e4
      subst eA
      have hbw := hT.out.below
      replace hx0 := (hbw.cell (World.block_lt_of_cell? w _ hx0)).trans hx0
      replace hx1 := (hbw.cell (World.block_lt_of_cell? w _ hx1)).trans hx1
      replace hx2 := (hbw.cell (World.block_lt_of_cell? w _ hx2)).trans hx2
      have hC1 := Kd.C_below hC0 hbw
      obtain ⟨x, hx⟩ : ∃ x, x = rd_T67 l (i : Int) := ⟨_, rfl⟩
      rw [← hx] at hx0 hx1 hx2 hl0 hC1 hC0
      rw [Int.toNat_natCast] at hx0 hx1 hx2
      have HX := Aside0.mk (And.intro hx (And.intro hl0 hC1))
      have HC0 := Aside0.mk hC0
      clear hl0 hC0 hC1 hbw hx c1
      have HTD := Aside0.mk (show x.f2.length + totA (l.drop (i + 1)) = totA (l.drop i) by rw [drop_T67 l i (by omega), totA_cons, HX.out.1])
      have HBX := Aside0.mk (show Bytes x.f2 by rw [HX.out.1]; exact HBY.out _ (mem_T67 l i (by omega)))
      have HLS := Aside0.mk (show S.length ≤ 1000 by have := hSB.out.2.2; have := HN.out; omega)
      have HT1 := Aside0.mk (hT.out.more (below_alloc (Below.refl _ _) (.cells #[.int .i64 x.f0, .int .i64 x.f1, .slice A0 x.f2.length c0] 67)))
      have X1 := Aside0.mk (show (wr.alloc (.cells #[.int .i64 x.f0, .int .i64 x.f1, .slice A0 x.f2.length c0] 67)).heap[wr.heap.size]? = some (.cells #[.int .i64 x.f0, .int .i64 x.f1, .slice A0 x.f2.length c0] 67 (0, 0)) from heap_alloc_new wr _)
      have HNF := Aside0.mk (show ¬ foot g p ps wr.heap.size ∧ ¬ foot g2 p2 qs wr.heap.size from ⟨fun hf => by have := hT.out.1.lt hf; omega, fun hf => by have := hT.out.2.1.lt hf; omega⟩)
      by_cases k0 : x.f0 = 0
      · have d6 : (x.f0 == 0) = true := by simp [k0]
        clear k0
        obtain ⟨D, hD⟩ : ∃ D, D = openS S x.f1 := ⟨_, rfl⟩
        obtain ⟨r, S'⟩ := D
        have HD := Aside0.mk hD
        have HL5 := Aside0.mk (show S'.length ≤ 1000 by have h := openS_len S x.f1; rw [← hD] at h; simp only at h; rw [h]; exact HLS.out)
        have HSB5 := Aside0.mk (show SB S' k ∧ k + totA (l.drop (i + 1)) ≤ 5000 ∧ S'.length = n by
          have h := openS_len S x.f1
          have h2 := hSB.out.1.open_ x.f1
          rw [← hD] at h h2
          simp only at h h2
          exact ⟨h2, by have := HTD.out; have := hSB.out.2.1; omega, by rw [h]; exact hSB.out.2.2⟩)
        clear hD
        have H1 := Aside0.mk (to_open w _ _ _ most _ (HT1.out.more (below_drew (Below.refl _ _))).1 S hT.out.2.2.1 HLS.out x.f1 r S' HD.out.symm)
        have hx1 := blk_cell X1.out 1
        have hrr : (r != r) = false := bne_self_eq_false r
        go_wp2_with fail
        go_region_held3 (fun W' => W'.cell? ⟨wr.heap.size, 1, none⟩ = some (.int .i64 x.f1)) (first | exact blk_cell X5.out 1 | exact blk_cell X4.out 1 | exact blk_cell X1.out 1) (first | (go_at_call 54; refine H1.out.mono ?_; rintro e w4 ⟨rfl, ps4, ht4⟩; have T4 := Aside0.mk ((HT1.out.more (below_drew (Below.refl _ _))).left ht4); have X4 := Aside0.mk (blk_kept (show (wr.alloc (.cells #[.int .i64 x.f0, .int .i64 x.f1, .slice A0 x.f2.length c0] 67)).drew.heap[wr.heap.size]? = some (.cells #[.int .i64 x.f0, .int .i64 x.f1, .slice A0 x.f2.length c0] 67 (0, 0)) from X1.out) ht4.2.2.1 (fun hf => HNF.out.1 hf)); have h2 := to_ropen w w4 _ _ most _ T4.out.2.1 S T4.out.2.2.2.1 HLS.out x.f1; rw [← HD.out] at h2; have H2 := Aside0.mk h2; clear ht4 h2) | (go_at_call 55; refine H2.out.mono ?_; rintro e w5 ⟨rfl, ps5, ht5⟩; have T5 := Aside0.mk (T4.out.right ht5); have X5 := Aside0.mk (blk_kept X4.out ht5.2.2.1 (fun hf => HNF.out.2 hf)); clear ht5))
        all_goals
          clear H1 H2 hx1 hrr
          have hx5 := blk_cell X5.out 1
          obtain ⟨v, hv⟩ : ∃ v, v = isv S' x.f1 := ⟨_, rfl⟩
          have hi1 := to_is w w5.drew _ _ most _ (T5.out.more (below_drew (Below.refl _ _))).1 _ T5.out.2.2.1 HL5.out x.f1
          have hi2 := to_ris w w5.drew _ _ most _ (T5.out.more (below_drew (Below.refl _ _))).2.1 _ T5.out.2.2.2.1 HL5.out x.f1
          rw [← hv] at hi1 hi2
          have HI1 := Aside0.mk hi1
          have HI2 := Aside0.mk hi2
          have hvv : (v != v) = false := bne_self_eq_false v
          have H63 := Aside0.mk (clist_calls w w5.drew _ _ most _ (T5.out.more (below_drew (Below.refl _ _))).1 (by rw [ab_len T5.out.2.2.1]; exact HL5.out) _ T5.out.2.2.1)
          clear hi1 hi2 hv
          go_wp2_with fail
          go_region_held3 (fun W' => W'.cell? ⟨wr.heap.size, 1, none⟩ = some (.int .i64 x.f1)) (first | exact blk_cell X5.out 1 | exact blk_cell X6.out 1 | exact blk_cell X7.out 1 | exact blk_cell X8.out 1) (first | (go_at_call 60; refine HI1.out.mono ?_; rintro e w6 ⟨rfl, rfl⟩) | (go_at_call 61; refine HI2.out.mono ?_; rintro e w6 ⟨rfl, rfl⟩) | (go_at_call 63; refine H63.out.mono ?_; rintro e w6 ⟨A6, c6, rfl, hC6, hc6, hb6⟩; have T6 := Aside0.mk ((T5.out.more (below_drew (Below.refl _ _))).more hb6); have X6 := Aside0.mk (blk_kept (show w5.drew.heap[wr.heap.size]? = _ from X5.out) (Kept.of_below hb6 (fun _ => False)) (fun h => h)); have HC6 := Aside0.mk (And.intro hC6 hc6); have H64 := Aside0.mk (rlist_calls w w6 _ _ most _ T6.out.2.1 (by rw [ab_len T5.out.2.2.2.1]; exact HL5.out) _ T6.out.2.2.2.1); clear hC6 hc6 hb6) | (go_at_call 64; refine H64.out.mono ?_; rintro e w7 ⟨A7, c7, rfl, hC7, hc7, hb7⟩; have T7 := Aside0.mk (T6.out.more hb7); have X7 := Aside0.mk (blk_kept X6.out (Kept.of_below hb7 (fun _ => False)) (fun h => h)); have H62 := Aside0.mk (turncockref1_Ints.calls _ A6 c6 _ A7 c7 _ true w7 (Kd.C_below HC6.out.1 hb7) HC6.out.2 hC7 hc7 (ints_self _ (by have := listS_len S' (S').length; have := HL5.out; omega))); clear hC7 hc7 hb7) | (go_at_call 62; refine H62.out.mono ?_; rintro e w8 ⟨rfl, hd8⟩; have T8 := Aside0.mk (T7.out.more hd8.below); have X8 := Aside0.mk (blk_kept X7.out (Kept.of_below hd8.below (fun _ => False)) (fun h => h)); clear hd8))
          all_goals
            clear hx5 HI1 HI2 H62 H63 H64
            go_wp2_with fail
            go_roundg (l.length + 1 - (i + 1))
            case measure => have := hkq.out; have := hi.out; omega
            case rel => exact ⟨i + 1, k, _, _, _, by first | (simp [wrap64, w64]; done) | (simp [wrap64, w64]; omega), ⟨by omega⟩, ⟨rfl⟩, ⟨T8.out⟩, ⟨HSB5.out⟩⟩
      · have d6 : (x.f0 == 0) = false := by simp [k0]
        clear k0
        by_cases k1 : x.f0 = 1
        · have d7 : (x.f0 == 1) = true := by simp [k1]
          clear k1
          obtain ⟨D, hD⟩ : ∃ D, D = closeS S x.f1 := ⟨_, rfl⟩
          obtain ⟨r, S'⟩ := D
          have HD := Aside0.mk hD
          have HL5 := Aside0.mk (show S'.length ≤ 1000 by have h := closeS_len S x.f1; rw [← hD] at h; simp only at h; rw [h]; exact HLS.out)
          have HSB5 := Aside0.mk (show SB S' k ∧ k + totA (l.drop (i + 1)) ≤ 5000 ∧ S'.length = n by
            have h := closeS_len S x.f1
            have h2 := hSB.out.1.close_ x.f1
            rw [← hD] at h h2
            simp only at h h2
            exact ⟨h2, by have := HTD.out; have := hSB.out.2.1; omega, by rw [h]; exact hSB.out.2.2⟩)
          clear hD
          have H1 := Aside0.mk (to_close w _ _ _ most _ (HT1.out.more (below_drew (Below.refl _ _))).1 S hT.out.2.2.1 HLS.out x.f1 r S' HD.out.symm)
          have hx1 := blk_cell X1.out 1
          have hrr : (r != r) = false := bne_self_eq_false r
          go_wp2_with fail
          go_region_held3 (fun W' => W'.cell? ⟨wr.heap.size, 1, none⟩ = some (.int .i64 x.f1)) (first | exact blk_cell X5.out 1 | exact blk_cell X4.out 1 | exact blk_cell X1.out 1) (first | (go_at_call 56; refine H1.out.mono ?_; rintro e w4 ⟨rfl, ps4, ht4⟩; have T4 := Aside0.mk ((HT1.out.more (below_drew (Below.refl _ _))).left ht4); have X4 := Aside0.mk (blk_kept (show (wr.alloc (.cells #[.int .i64 x.f0, .int .i64 x.f1, .slice A0 x.f2.length c0] 67)).drew.heap[wr.heap.size]? = some (.cells #[.int .i64 x.f0, .int .i64 x.f1, .slice A0 x.f2.length c0] 67 (0, 0)) from X1.out) ht4.2.2.1 (fun hf => HNF.out.1 hf)); have h2 := to_rclose w w4 _ _ most _ T4.out.2.1 S T4.out.2.2.2.1 HLS.out x.f1; rw [← HD.out] at h2; have H2 := Aside0.mk h2; clear ht4 h2) | (go_at_call 57; refine H2.out.mono ?_; rintro e w5 ⟨rfl, ps5, ht5⟩; have T5 := Aside0.mk (T4.out.right ht5); have X5 := Aside0.mk (blk_kept X4.out ht5.2.2.1 (fun hf => HNF.out.2 hf)); clear ht5))
          all_goals
            clear H1 H2 hx1 hrr
            have hx5 := blk_cell X5.out 1
            obtain ⟨v, hv⟩ : ∃ v, v = isv S' x.f1 := ⟨_, rfl⟩
            have hi1 := to_is w w5.drew _ _ most _ (T5.out.more (below_drew (Below.refl _ _))).1 _ T5.out.2.2.1 HL5.out x.f1
            have hi2 := to_ris w w5.drew _ _ most _ (T5.out.more (below_drew (Below.refl _ _))).2.1 _ T5.out.2.2.2.1 HL5.out x.f1
            rw [← hv] at hi1 hi2
            have HI1 := Aside0.mk hi1
            have HI2 := Aside0.mk hi2
            have hvv : (v != v) = false := bne_self_eq_false v
            have H63 := Aside0.mk (clist_calls w w5.drew _ _ most _ (T5.out.more (below_drew (Below.refl _ _))).1 (by rw [ab_len T5.out.2.2.1]; exact HL5.out) _ T5.out.2.2.1)
            clear hi1 hi2 hv
            go_wp2_with fail
            go_region_held3 (fun W' => W'.cell? ⟨wr.heap.size, 1, none⟩ = some (.int .i64 x.f1)) (first | exact blk_cell X5.out 1 | exact blk_cell X6.out 1 | exact blk_cell X7.out 1 | exact blk_cell X8.out 1) (first | (go_at_call 60; refine HI1.out.mono ?_; rintro e w6 ⟨rfl, rfl⟩) | (go_at_call 61; refine HI2.out.mono ?_; rintro e w6 ⟨rfl, rfl⟩) | (go_at_call 63; refine H63.out.mono ?_; rintro e w6 ⟨A6, c6, rfl, hC6, hc6, hb6⟩; have T6 := Aside0.mk ((T5.out.more (below_drew (Below.refl _ _))).more hb6); have X6 := Aside0.mk (blk_kept (show w5.drew.heap[wr.heap.size]? = _ from X5.out) (Kept.of_below hb6 (fun _ => False)) (fun h => h)); have HC6 := Aside0.mk (And.intro hC6 hc6); have H64 := Aside0.mk (rlist_calls w w6 _ _ most _ T6.out.2.1 (by rw [ab_len T5.out.2.2.2.1]; exact HL5.out) _ T6.out.2.2.2.1); clear hC6 hc6 hb6) | (go_at_call 64; refine H64.out.mono ?_; rintro e w7 ⟨A7, c7, rfl, hC7, hc7, hb7⟩; have T7 := Aside0.mk (T6.out.more hb7); have X7 := Aside0.mk (blk_kept X6.out (Kept.of_below hb7 (fun _ => False)) (fun h => h)); have H62 := Aside0.mk (turncockref1_Ints.calls _ A6 c6 _ A7 c7 _ true w7 (Kd.C_below HC6.out.1 hb7) HC6.out.2 hC7 hc7 (ints_self _ (by have := listS_len S' (S').length; have := HL5.out; omega))); clear hC7 hc7 hb7) | (go_at_call 62; refine H62.out.mono ?_; rintro e w8 ⟨rfl, hd8⟩; have T8 := Aside0.mk (T7.out.more hd8.below); have X8 := Aside0.mk (blk_kept X7.out (Kept.of_below hd8.below (fun _ => False)) (fun h => h)); clear hd8))
            all_goals
              clear hx5 HI1 HI2 H62 H63 H64
              go_wp2_with fail
              go_roundg (l.length + 1 - (i + 1))
              case measure => have := hkq.out; have := hi.out; omega
              case rel => exact ⟨i + 1, k, _, _, _, by first | (simp [wrap64, w64]; done) | (simp [wrap64, w64]; omega), ⟨by omega⟩, ⟨rfl⟩, ⟨T8.out⟩, ⟨HSB5.out⟩⟩
        · have d7 : (x.f0 == 1) = false := by simp [k1]
          clear k1
          obtain ⟨D, hD⟩ : ∃ D, D = feedS (lim most) S x.f1 x.f2 := ⟨_, rfl⟩
          obtain ⟨rows, err, S'⟩ := D
          have HD := Aside0.mk hD
          have HL5 := Aside0.mk (show S'.length ≤ 1000 by have h := feedS_len (lim most) S x.f1 x.f2; rw [← hD] at h; simp only at h; rw [h]; exact HLS.out)
          have HSB5 := Aside0.mk (show SB S' (k + x.f2.length) ∧ k + x.f2.length + totA (l.drop (i + 1)) ≤ 5000 ∧ S'.length = n by
            have h := feedS_len (lim most) S x.f1 x.f2
            have h2 := hSB.out.1.feed_ (lim most) x.f1 x.f2 HBX.out
            rw [← hD] at h h2
            simp only at h h2
            exact ⟨h2, by have := HTD.out; have := hSB.out.2.1; omega, by rw [h]; exact hSB.out.2.2⟩)
          have HRL := Aside0.mk (show rows.length ≤ 1000000000 by have h := feedS_rows (lim most) S k hSB.out.1 x.f1 x.f2 HBX.out (by have := HTD.out; have := hSB.out.2.1; omega); rw [← hD] at h; exact h)
          have HLL := Aside0.mk (show k + x.f2.length ≤ 1000000 by have := HTD.out; have := hSB.out.2.1; omega)
          clear hD
          go_wp2_with fail
          refine (to_feed w _ _ _ most _ HT1.out.1 S hT.out.2.2.1 HLS.out k hSB.out.1 x.f1 A0 c0 x.f2 (Kd.C_alloc HX.out.2.2 _) HX.out.2.1 HBX.out HLL.out rows err S' HD.out.symm).mono ?_
          rintro e w4 ⟨A4, c4, ps4, rfl, hs4, ht4⟩
          have T4 := Aside0.mk (HT1.out.left ht4)
          have X4 := Aside0.mk (blk_kept X1.out ht4.2.2.1 (fun hf => HNF.out.1 hf))
          have hx40 := blk_cell X4.out 0
          have hx41 := blk_cell X4.out 1
          have hx42 := blk_cell X4.out 2
          have HS4 := Aside0.mk hs4
          have HC4 := Aside0.mk (Kd.C_below HC0.out T4.out.below)
          clear ht4 hs4
          go_wp2_with fail
          refine (to_rfeed w w4 _ _ most _ T4.out.2.1 S T4.out.2.2.2.1 HLS.out k hSB.out.1 x.f1 A0 c0 x.f2 HC4.out HX.out.2.1 HBX.out HLL.out rows err S' HD.out.symm).mono ?_
          rintro e w5 ⟨A5, c5, ps5, rfl, hs5, ht5⟩
          have hs45 := rows_beside (W := wr) HS4.out (fun k hk => HT1.out.2.1.lt hk) ht5
          have T5 := Aside0.mk (T4.out.right ht5)
          have X5 := Aside0.mk (blk_kept X4.out ht5.2.2.1 (fun hf => HNF.out.2 hf))
          have hr4 := Kd.S_reads' hs45
          have hr5 := Kd.S_reads' hs5
          have HRO := Aside0.mk (turncockref1_Rows.calls (rows.length + 1) A4 c4 rows A5 c5 rows true w5 hr4.2.2 hr4.2.1 hr5.2.2 hr5.2.1 (rows_self rows HRL.out _ (Nat.le_refl _)))
          have hee : (err == err) = true := beq_self_eq_true err
          clear hs5 ht5 hs45 hr4 hr5 hx40 hx41 hx42
          go_wp2_with fail
          refine HRO.out.mono ?_
          rintro e w9 ⟨rfl, hd9⟩
          have T9 := Aside0.mk (T5.out.more hd9.below)
          have X9 := Aside0.mk (blk_below X5.out hd9.below)
          clear T5 hd9 X5
          have T5 := T9
          have X5 := X9
          clear T9 X9
          have hx5 := blk_cell X5.out 1
          obtain ⟨v, hv⟩ : ∃ v, v = isv S' x.f1 := ⟨_, rfl⟩
          have hi1 := to_is w w9.drew _ _ most _ (T5.out.more (below_drew (Below.refl _ _))).1 _ T5.out.2.2.1 HL5.out x.f1
          have hi2 := to_ris w w9.drew _ _ most _ (T5.out.more (below_drew (Below.refl _ _))).2.1 _ T5.out.2.2.2.1 HL5.out x.f1
          rw [← hv] at hi1 hi2
          have HI1 := Aside0.mk hi1
          have HI2 := Aside0.mk hi2
          have hvv : (v != v) = false := bne_self_eq_false v
          have H63 := Aside0.mk (clist_calls w w9.drew _ _ most _ (T5.out.more (below_drew (Below.refl _ _))).1 (by rw [ab_len T5.out.2.2.1]; exact HL5.out) _ T5.out.2.2.1)
          clear hi1 hi2 hv
          go_wp2_with fail
          go_region_held3 (fun W' => W'.cell? ⟨wr.heap.size, 1, none⟩ = some (.int .i64 x.f1)) (first | exact blk_cell X5.out 1 | exact blk_cell X6.out 1 | exact blk_cell X7.out 1 | exact blk_cell X8.out 1) (first | (go_at_call 60; refine HI1.out.mono ?_; rintro e w6 ⟨rfl, rfl⟩) | (go_at_call 61; refine HI2.out.mono ?_; rintro e w6 ⟨rfl, rfl⟩) | (go_at_call 63; refine H63.out.mono ?_; rintro e w6 ⟨A6, c6, rfl, hC6, hc6, hb6⟩; have T6 := Aside0.mk ((T5.out.more (below_drew (Below.refl _ _))).more hb6); have X6 := Aside0.mk (blk_kept (show w9.drew.heap[wr.heap.size]? = _ from X5.out) (Kept.of_below hb6 (fun _ => False)) (fun h => h)); have HC6 := Aside0.mk (And.intro hC6 hc6); have H64 := Aside0.mk (rlist_calls w w6 _ _ most _ T6.out.2.1 (by rw [ab_len T5.out.2.2.2.1]; exact HL5.out) _ T6.out.2.2.2.1); clear hC6 hc6 hb6) | (go_at_call 64; refine H64.out.mono ?_; rintro e w7 ⟨A7, c7, rfl, hC7, hc7, hb7⟩; have T7 := Aside0.mk (T6.out.more hb7); have X7 := Aside0.mk (blk_kept X6.out (Kept.of_below hb7 (fun _ => False)) (fun h => h)); have H62 := Aside0.mk (turncockref1_Ints.calls _ A6 c6 _ A7 c7 _ true w7 (Kd.C_below HC6.out.1 hb7) HC6.out.2 hC7 hc7 (ints_self _ (by have := listS_len S' (S').length; have := HL5.out; omega))); clear hC7 hc7 hb7) | (go_at_call 62; refine H62.out.mono ?_; rintro e w8 ⟨rfl, hd8⟩; have T8 := Aside0.mk (T7.out.more hd8.below); have X8 := Aside0.mk (blk_kept X7.out (Kept.of_below hd8.below (fun _ => False)) (fun h => h)); clear hd8))
          all_goals
            clear hx5 HI1 HI2 H62 H63 H64
            go_wp2_with fail
            go_roundg (l.length + 1 - (i + 1))
            case measure => have := hkq.out; have := hi.out; omega
            case rel => exact ⟨i + 1, (k + x.f2.length), _, _, _, by first | (simp [wrap64, w64]; done) | (simp [wrap64, w64]; omega), ⟨by omega⟩, ⟨rfl⟩, ⟨T8.out⟩, ⟨HSB5.out⟩⟩
    · have hie : i = l.length := by have := hi.out; omega
      subst hie
      have d5 : decide ((l.length : Int) < (l.length : Int)) = false := decide_eq_false (by omega)
      clear c1
      go_wp2_with fail
      refine (c_awake _).mono ?_
      rintro e w9 ⟨rfl, hb9⟩
      have HB9 := Aside0.mk (below_step hT.out.below hb9)
      clear hb9
      go_wp2_with fail
      go_ret
      exact ⟨rfl, HB9.out⟩
def turncocklaw32_ConnsActs.f (k : Nat) (a0 a1 : Int) (l2 : List S67) : Option Bool :=
  if (∀ x ∈ l2, Bytes x.f2) ∧ l2.length * 40 ≤ 140737488351232 then some true else none
theorem turncocklaw32_ConnsActs.calls (k : Nat) (a0 a1 : Int) (A2 : Option Addr) (c2 : Nat) (l2 : List S67) (r : Bool) (w : World) (hr2 : Kd.C k67 w A2 l2.length l2) (hc2 : l2.length ≤ c2) (h : turncocklaw32_ConnsActs.f k a0 a1 l2 = some r) :
    Calls Try.prog 14 #[.int .i64 a0, .int .i64 a1, .slice A2 l2.length c2] w fun e w' => e = .returned (.bool r) ∧ Below w.heap.size w w' := by
  unfold turncocklaw32_ConnsActs.f at h
  split at h
  · rename_i hh
    obtain rfl := Option.some.inj h
    obtain ⟨v, hv, hb⟩ := light_f l2 hh.2
    cases v with
    | false => exact acts_heavy a0 a1 A2 c2 l2 w hr2 hc2 hv
    | true =>
      by_cases c : a0 < 1 ∨ 64 < a0 ∨ a1 < 1 ∨ 65536 < a1
      · exact acts_bad a0 a1 A2 c2 l2 w hr2 hc2 hv c
      · obtain ⟨n, rfl⟩ : ∃ n : Nat, a0 = (n : Int) := ⟨a0.toNat, by omega⟩
        exact acts_main n a1 A2 c2 l2 w hr2 hc2 hv (by omega) (by omega) (by omega) (by omega) hh.1 (hb rfl).1 (hb rfl).2
  · cases h
end Go.Proofs.Ytnhblhhkjnmkkaa.Q
