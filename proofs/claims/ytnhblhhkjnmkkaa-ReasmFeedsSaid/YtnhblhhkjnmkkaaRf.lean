/- The walk of ReasmFeeds: whatever pieces come, program and reference tell the same. -/
import Derived.Test.YtnhblhhkjnmkkaaRw
namespace Go.Proofs.Ytnhblhhkjnmkkaa.Q
open Go.RowKit Go.Proofs.YtnhblhhkjnmkkaaW.PrintWords Go.Proofs.YtnhblhhkjnmkkaaW.PrintLast Go.Proofs.YtnhblhhkjnmkkaaW.PrintMore
open Go.Proofs.Ytnhblhhkjnmkkaa.Sp Go.Proofs.Ytnhblhhkjnmkkaa.Va Go.Proofs.Ytnhblhhkjnmkkaa.Fr
set_option linter.unusedVariables false
set_option linter.unusedSimpArgs false
set_option maxHeartbeats 4000000 in
set_option maxRecDepth 100000 in
theorem feeds_heavy (most : Int) (A : Option Addr) (c : Nat) (l : List (List Int)) (w : World) (hC : Kd.C (Kd.slice 5 (Kd.int .u8)) w A l.length l) (hc : l.length ≤ c) (K : Nat) (r : Int) (hr : turncocklaw4_weight.f K l = some r) (h : 5000 < r) :
    Calls Try.prog 11 #[.int .i64 most, .slice A l.length c] w fun e w' => e = .returned (.bool true) ∧ Below w.heap.size w w' := by
  have HW := Aside0.mk (turncocklaw4_weight.calls K A c l r w hC hc hr)
  have d1 : decide (5000 < r) = true := decide_eq_true h
  clear hC hr
  go_enter Try.func11, Try.ntmps11
  go_wp2_with fail
  refine HW.out.mono ?_
  rintro e w1 ⟨rfl, hb1⟩
  have HB1 := Aside0.mk hb1
  clear hb1
  go_wp2_with fail
  refine (a4_awake _).mono ?_
  rintro e w2 ⟨rfl, hb2⟩
  have HB2 := Aside0.mk (below_step HB1.out hb2)
  clear hb2
  go_wp2_with fail
  go_ret
  exact ⟨rfl, HB2.out⟩
set_option maxHeartbeats 8000000 in
set_option maxRecDepth 100000 in
theorem feeds_main (most : Int) (A : Option Addr) (c : Nat) (l : List (List Int)) (w : World) (hC : Kd.C (Kd.slice 5 (Kd.int .u8)) w A l.length l) (hc : l.length ≤ c) (K : Nat) (r : Int) (hr : turncocklaw4_weight.f K l = some r) (h : r ≤ 5000) (hB : ∀ b ∈ l, Bytes b) (hT : tot l ≤ 5000) (hL : l.length ≤ 5000) :
    Calls Try.prog 11 #[.int .i64 most, .slice A l.length c] w fun e w' => e = .returned (.bool true) ∧ Below w.heap.size w w' := by
  have HW := Aside0.mk (turncocklaw4_weight.calls K A c l r w hC hc hr)
  have d1 : decide (5000 < r) = false := decide_eq_false (by omega)
  have HC := Aside0.mk hC
  have HBY := Aside0.mk hB
  have HT := Aside0.mk hT
  clear hC hr hB hT
  go_enter Try.func11, Try.ntmps11
  go_wp2_with fail
  refine HW.out.mono ?_
  rintro e w1 ⟨rfl, hb1⟩
  have HB1 := Aside0.mk hb1
  clear hb1 HW
  go_wp2_with fail
  refine (new_calls most _).mono ?_
  rintro e w2 ⟨rfl, rfl⟩
  go_wp2_with fail
  have HR0 := Aside0.mk (And.intro ((rdr_new w w1 HB1.out most 118).more (below_alloc (Below.refl _ _) (.cells #[.int .i64 most, .slice none 0 0, .bool false] 49))) (show Rdr w ((w1.alloc (.cells #[.int .i64 most, .slice none 0 0, .bool false] 118)).alloc (.cells #[.int .i64 most, .slice none 0 0, .bool false] 49)) (w1.heap.size + 1) 49 most [] false (.slice none 0 0) by have h := rdr_new w (w1.alloc (.cells #[.int .i64 most, .slice none 0 0, .bool false] 118)) (below_alloc HB1.out _) most 49; simpa using h))
  go_loopg [7] (l.length + 1) (fun kq v7 w' => ∃ (i : Nat) (wt : List Int) (off : Bool) (v u : Value), v7 = .int .i64 (i : Int) ∧ Aside0 (i ≤ l.length) ∧ Aside0 (kq = l.length + 1 - i) ∧ Aside0 (Rdr w w' w1.heap.size 118 most wt off v) ∧ Aside0 (Rdr w w' (w1.heap.size + 1) 49 most wt off u) ∧ Aside0 (∀ k, u.ownBlock = some k → some k ≠ v.ownBlock) ∧ Aside0 (Bytes wt ∧ wt.length + tot (l.drop i) ≤ 5000))
  case atStart => exact ⟨0, [], false, .slice none 0 0, .slice none 0 0, rfl, ⟨Nat.zero_le _⟩, ⟨rfl⟩, ⟨HR0.out.1⟩, ⟨HR0.out.2⟩, ⟨fun k hk => by simp [Value.ownBlock] at hk⟩, ⟨Bytes.nil, by have := HT.out; simpa using this⟩⟩
  case round =>
    obtain ⟨i, wt, off, v, u, rfl, hi, hkq, hr1, hr2, hap, hlb⟩ := hrel
    by_cases c1 : i < l.length
    · have d2 : decide ((i : Int) < (l.length : Int)) = true := decide_eq_true (by omega)
      have e0 : 0 ≤ (i : Int) := by omega
      have e4 : (i : Int) < (l.length : Int) := by omega
      obtain ⟨ad, A0, c0, eA, hx, hl0, hC0⟩ := at_L1 HC.out (i : Int) e0 e4
      subst eA
      have hxl := World.block_lt_of_cell? w _ hx
      have hx1 := (hr1.out.2.2.1.cell hxl).trans hx
      rw [Int.toNat_natCast] at hx hx1 hxl
      have hDL := drop_L1 l i c1
      have hmem := mem_L1 l i c1
      obtain ⟨b, hb⟩ : ∃ b, b = rd_L1 l (i : Int) := ⟨_, rfl⟩
      rw [← hb] at hx hx1 hl0 hC0 hDL hmem
      have hbb := HBY.out b hmem
      have htt := hlb.out.2
      rw [hDL, tot_cons] at htt
      have HF1 := Aside0.mk (feed_calls w wr _ most wt off v hr1.out hlb.out.1 A0 c0 b (Kd.C_below hC0 hr1.out.2.2.1) hl0 hbb (by omega))
      have hfb := feedv_bytes (m := lim most) (off := off) hlb.out.1 hbb
      have HFB := Aside0.mk (And.intro hfb.1 (show (feedv (lim most) wt off b).2.2.1.length + tot (l.drop (i + 1)) ≤ 5000 by have := hfb.2; omega))
      have HFBW := Aside0.mk hlb.out.1
      have HE := Aside0.mk (And.intro hx (And.intro hxl (And.intro hC0 (And.intro hl0 (And.intro hbb (show wt.length + b.length ≤ 1000000 by omega))))))
      have HST := Aside0.mk (And.intro hr1.out (And.intro hr2.out (And.intro hap.out (And.intro hlb.out.1 hkq.out))))
      clear hb hx hxl hl0 hC0 hDL hmem hbb htt hfb hr1 hr2 hap hlb hkq c1
      go_wp2_with fail
      refine HF1.out.mono ?_
      rintro e w4 ⟨vl, v', rfl, hs4, hr4, hk4, ho4⟩
      obtain ⟨hr1, hr2, hap, hwt, hkq⟩ := HST.out
      have hm4 := hr2.kept hk4 (by omega) (fun h => Kd.R_ne hr1.2.1 hr2.1 (by decide) h) (fun k hk => hap k hk) hr1.1 (by decide) hr4.2.2.1
      have hul := Kd.R_lt hr2.2.1
      have hap4 : ∀ k, u.ownBlock = some k → some k ≠ v'.ownBlock := fun k hk e => by
        rcases ho4 k e.symm with h | h
        · exact hap k hk h.symm
        · have := hul k hk; omega
      have hx4 : w4.cell? (ad.add i) = some (.slice A0 b.length c0) := (hr4.2.2.1.cell HE.out.2.1).trans HE.out.1
      obtain ⟨Al, cl, el⟩ := Kd.S_slice hs4
      subst el
      have HF2 := Aside0.mk (rfeed_calls w w4 _ most wt off u hm4 hwt A0 c0 b (Kd.C_below HE.out.2.2.1 hr4.2.2.1) HE.out.2.2.2.1 HE.out.2.2.2.2.1 HE.out.2.2.2.2.2)
      have HST4 := Aside0.mk (And.intro hs4 (And.intro hr4 (And.intro hm4 (And.intro hap4 hkq))))
      clear hs4 hr4 hk4 ho4 hm4 hul hap4 hr1 hr2 hap hwt hkq HF1 HST hx1
      go_wp2_with fail
      refine HF2.out.mono ?_
      rintro e w5 ⟨ul, u', rfl, hs5, hr5, hk5, ho5⟩
      obtain ⟨hs4, hr4, hm4, hap4, hkq⟩ := HST4.out
      have hg5 := hr4.kept hk5 (by omega) (by simp) (fun k _ => by simp) hm4.1 (by decide) hr5.2.2.1
      have hs45 := Kd.S_keep (Kd.S_types hs4 hm4.1 (by decide)) hk5 (fun k hk => hk.2)
      have hvl := Kd.R_lt hr4.2.1
      have hap5 : ∀ k, u'.ownBlock = some k → some k ≠ v'.ownBlock := fun k hk e => by
        rcases ho5 k hk with h | h
        · exact hap4 k h e
        · have := hvl k e.symm; omega
      obtain ⟨Au, cu, eu⟩ := Kd.S_slice hs5
      subst eu
      obtain ⟨D, hD⟩ : ∃ D, D = feedv (lim most) wt off b := ⟨_, rfl⟩
      rw [← hD] at hs45 hs5 hg5 hr5 HFB ⊢
      obtain ⟨Av2, cv2, ev2⟩ := Kd.R_slice hg5.2.1
      subst ev2
      obtain ⟨Au2, cu2, eu2⟩ := Kd.R_slice hr5.2.1
      subst eu2
      have h45 := Kd.S_reads' (Kd.S_drew hs45)
      have h5 := Kd.S_reads' (Kd.S_drew hs5)
      have hrl : D.1.length ≤ 1000000000 := by
        have := HE.out.2.2.2.2.2
        rw [hD]; unfold feedv
        split
        · simp
        · split
          · have := (allv_len (lim most) (wt ++ b).length (wt ++ b) (Bytes.append HFBW.out HE.out.2.2.2.2.1)).1; simp only [List.length_append] at this ⊢; omega
          · have := (allv_len (lim most) (wt ++ b).length (wt ++ b) (Bytes.append HFBW.out HE.out.2.2.2.2.1)).1; simp only [List.length_append] at this ⊢; omega
      have HROWS := Aside0.mk (turncockref1_Rows.calls (D.1.length + 1) Al cl D.1 Au cu D.1 true w5.drew h45.2.2 h45.2.1 h5.2.2 h5.2.1 (rows_self D.1 hrl _ (Nat.le_refl _)))
      have HG5 := Aside0.mk (And.intro hg5 (And.intro hr5 (And.intro hap5 hkq)))
      have HDD := Aside0.mk hD
      clear hD
      clear hs4 hr4 hm4 hap4 hkq hg5 hs45 hvl hap5 hs5 hr5 hk5 ho5 h45 h5 hrl HF2 HST4 hx4
      have hbe : (D.2.1 != D.2.1) = false := bne_self_eq_false _
      have hbn : ((D.2.2.1.length : Int) != (D.2.2.1.length : Int)) = false := bne_self_eq_false _
      have hbo : (D.2.2.2 != D.2.2.2) = false := bne_self_eq_false _
      go_wp2_with fail
      refine start_ (n := 28) (S := fun w' => w'.cell? ⟨w1.heap.size + 1, 1, none⟩ = some (.slice Au2 D.2.2.1.length cu2) ∧ w'.cell? ⟨w1.heap.size + 1, 2, none⟩ = some (.bool D.2.2.2)) (ds := []) #[false, false, false, false, false, false, false, false, false, false, false, false, false, false, false, false, false, false, false, false, false, false, false, false, false, false, false, false] (by kernel_rfl) rfl rfl ⟨blk_cell (blk_drew HG5.out.2.1.1) 1, blk_cell (blk_drew HG5.out.2.1.1) 2⟩ (fun hHeld => ?_)
      refine pure_ (i := 0) (N := some 47) (v := ?_) (a' := ?_) #[true, false, false, false, false, false, false, false, false, false, false, false, false, false, false, false, false, false, false, false, false, false, false, false, false, false, false, false] rfl rfl (by kernel_rfl) (fun _ _ _ h => h) (Or.inl ⟨by rfl, ?_⟩) ?_ ?_
      rotate_left
      · intro w'
        go_simp
        with_reducible rfl
      rotate_left
      · simp only [Act.put, List.setIfInBounds_toArray, List.set_cons_zero, List.set_cons_succ, i64_w, i32_w]
        rfl
      refine pure_ (i := 1) (N := some 48) (v := ?_) (a' := ?_) #[true, true, false, false, false, false, false, false, false, false, false, false, false, false, false, false, false, false, false, false, false, false, false, false, false, false, false, false] rfl rfl (by kernel_rfl) (fun _ _ _ h => h) (Or.inl ⟨by rfl, ?_⟩) ?_ ?_
      rotate_left
      · intro w'
        go_simp
        with_reducible rfl
      rotate_left
      · simp only [Act.put, List.setIfInBounds_toArray, List.set_cons_zero, List.set_cons_succ, i64_w, i32_w]
        rfl
      refine one_ (i := 2) (N := some 49) #[true, true, true, false, false, false, false, false, false, false, false, false, false, false, false, false, false, false, false, false, false, false, false, false, false, false, false, false] rfl rfl (by kernel_rfl) (by decide) (fun K hK => ?_)
      refine goes_ Try.func38 (by kernel_rfl) rfl #[.slice Al D.1.length cl, .slice Au D.1.length cu] (by rfl) rfl rfl (by (try simp only [List.map_toArray, List.map_cons, List.map_nil]); first | done | rfl) ?_
      refine HROWS.out.mono ?_
      rintro e w6 ⟨rfl, hd6⟩
      refine ⟨_, rfl, ?_⟩
      have hb6 : Below w5.heap.size w5 w6 := below_step (below_drew (Below.refl _ _)) hd6.below
      have hm6 := blk_below HG5.out.2.1.1 hb6
      have hg6 := blk_below HG5.out.1.1 hb6
      have WT6 := Aside0.mk (waiting_calls w6 _ _ _ _ _ _ hg6)
      have OF6 := Aside0.mk (off_calls w6 _ _ _ _ hg6)
      have HB6 := Aside0.mk hb6
      have HH6 := Aside0.mk (And.intro (blk_cell hm6 1) (blk_cell hm6 2))
      clear hd6 hb6 hm6 hg6
      refine hK.out _ _ HH6.out (fun hHeld => ?_)
      clear hK K
      refine norm_ (a' := ?_) ?_ ?_
      rotate_left
      · show Act.put _ (some 49) _ = _
        simp only [Act.put, List.setIfInBounds_toArray, List.set_cons_zero, List.set_cons_succ, i64_w, i32_w]
        rfl
      refine pure_ (i := 3) (N := some 50) (v := ?_) (a' := ?_) #[true, true, true, true, false, false, false, false, false, false, false, false, false, false, false, false, false, false, false, false, false, false, false, false, false, false, false, false] rfl rfl (by kernel_rfl) (fun _ _ _ h => h) (Or.inl ⟨by rfl, ?_⟩) ?_ ?_
      rotate_left
      · intro w'
        go_simp
        with_reducible rfl
      rotate_left
      · simp only [Act.put, List.setIfInBounds_toArray, List.set_cons_zero, List.set_cons_succ, i64_w, i32_w]
        rfl
      refine pure_ (i := 4) (N := some 51) (v := ?_) (a' := ?_) #[true, true, true, true, true, false, false, false, false, false, false, false, false, false, false, false, false, false, false, false, false, false, false, false, false, false, false, false] rfl rfl (by kernel_rfl) (fun _ _ _ h => h) (Or.inl ⟨by rfl, ?_⟩) ?_ ?_
      rotate_left
      · intro w'
        go_simp
        with_reducible rfl
      rotate_left
      · simp only [Act.put, List.setIfInBounds_toArray, List.set_cons_zero, List.set_cons_succ, i64_w, i32_w]
        rfl
      refine pure_ (i := 5) (N := some 52) (v := ?_) (a' := ?_) #[true, true, true, true, true, true, false, false, false, false, false, false, false, false, false, false, false, false, false, false, false, false, false, false, false, false, false, false] rfl rfl (by kernel_rfl) (fun _ _ _ h => h) (Or.inl ⟨by rfl, ?_⟩) ?_ ?_
      rotate_left
      · intro w'
        go_simp
        with_reducible rfl
      rotate_left
      · simp only [Act.put, List.setIfInBounds_toArray, List.set_cons_zero, List.set_cons_succ, i64_w, i32_w]
        rfl
      refine pure_ (i := 6) (N := some 53) (v := ?_) (a' := ?_) #[true, true, true, true, true, true, true, false, false, false, false, false, false, false, false, false, false, false, false, false, false, false, false, false, false, false, false, false] rfl rfl (by kernel_rfl) (fun _ _ _ h => h) (Or.inl ⟨by rfl, ?_⟩) ?_ ?_
      rotate_left
      · intro w'
        go_simp
        with_reducible rfl
      rotate_left
      · simp only [Act.put, List.setIfInBounds_toArray, List.set_cons_zero, List.set_cons_succ, i64_w, i32_w]
        rfl
      refine pure_ (i := 7) (N := some 54) (v := ?_) (a' := ?_) #[true, true, true, true, true, true, true, true, false, false, false, false, false, false, false, false, false, false, false, false, false, false, false, false, false, false, false, false] rfl rfl (by kernel_rfl) (fun _ _ _ h => h) (Or.inl ⟨by rfl, ?_⟩) ?_ ?_
      rotate_left
      · intro w'
        go_simp
        with_reducible rfl
      rotate_left
      · simp only [Act.put, List.setIfInBounds_toArray, List.set_cons_zero, List.set_cons_succ, i64_w, i32_w]
        rfl
      refine pure_ (i := 8) (N := some 55) (v := ?_) (a' := ?_) #[true, true, true, true, true, true, true, true, true, false, false, false, false, false, false, false, false, false, false, false, false, false, false, false, false, false, false, false] rfl rfl (by kernel_rfl) (fun _ _ _ h => h) (Or.inl ⟨by rfl, ?_⟩) ?_ ?_
      rotate_left
      · intro w'
        go_simp
        with_reducible rfl
      rotate_left
      · simp only [Act.put, List.setIfInBounds_toArray, List.set_cons_zero, List.set_cons_succ, i64_w, i32_w]
        rfl
      refine pure_ (i := 9) (N := some 56) (v := ?_) (a' := ?_) #[true, true, true, true, true, true, true, true, true, true, false, false, false, false, false, false, false, false, false, false, false, false, false, false, false, false, false, false] rfl rfl (by kernel_rfl) (fun _ _ _ h => h) (Or.inl ⟨by rfl, ?_⟩) ?_ ?_
      rotate_left
      · intro w'
        go_simp
        with_reducible rfl
      rotate_left
      · simp only [Act.put, List.setIfInBounds_toArray, List.set_cons_zero, List.set_cons_succ, i64_w, i32_w]
        rfl
      refine pure_ (i := 10) (N := some 57) (v := ?_) (a' := ?_) #[true, true, true, true, true, true, true, true, true, true, true, false, false, false, false, false, false, false, false, false, false, false, false, false, false, false, false, false] rfl rfl (by kernel_rfl) (fun _ _ _ h => h) (Or.inl ⟨by rfl, ?_⟩) ?_ ?_
      rotate_left
      · intro w'
        go_simp
        with_reducible rfl
      rotate_left
      · simp only [Act.put, List.setIfInBounds_toArray, List.set_cons_zero, List.set_cons_succ, i64_w, i32_w]
        rfl
      refine pure_ (i := 12) (N := some 59) (v := ?_) (a' := ?_) #[true, true, true, true, true, true, true, true, true, true, true, false, true, false, false, false, false, false, false, false, false, false, false, false, false, false, false, false] rfl rfl (by kernel_rfl) (fun _ _ _ h => h) (Or.inl ⟨by rfl, ?_⟩) ?_ ?_
      rotate_left
      · intro w'
        go_simp
        with_reducible rfl
      rotate_left
      · simp only [Act.put, List.setIfInBounds_toArray, List.set_cons_zero, List.set_cons_succ, i64_w, i32_w]
        rfl
      refine pure_ (i := 13) (N := some 60) (v := ?_) (a' := ?_) #[true, true, true, true, true, true, true, true, true, true, true, false, true, true, false, false, false, false, false, false, false, false, false, false, false, false, false, false] rfl rfl (by kernel_rfl) (fun _ _ _ h => h) (Or.inl ⟨by rfl, ?_⟩) ?_ ?_
      rotate_left
      · intro w'
        go_simp
        with_reducible rfl
      rotate_left
      · simp only [Act.put, List.setIfInBounds_toArray, List.set_cons_zero, List.set_cons_succ, i64_w, i32_w]
        rfl
      refine pure_ (i := 14) (N := some 61) (v := ?_) (a' := ?_) #[true, true, true, true, true, true, true, true, true, true, true, false, true, true, true, false, false, false, false, false, false, false, false, false, false, false, false, false] rfl rfl (by kernel_rfl) (fun _ _ _ h => h) (Or.inl ⟨by rfl, ?_⟩) ?_ ?_
      rotate_left
      · intro w'
        go_simp
        with_reducible rfl
      rotate_left
      · simp only [Act.put, List.setIfInBounds_toArray, List.set_cons_zero, List.set_cons_succ, i64_w, i32_w]
        rfl
      refine take_ (i := 15) (N := some 62) (v := ?_) (a' := ?_) #[true, true, true, true, true, true, true, true, true, true, true, false, true, true, true, true, false, false, false, false, false, false, false, false, false, false, false, false] rfl rfl (by kernel_rfl) (fun _ _ _ h => h) (Or.inl ⟨by rfl, ?_⟩) hHeld ?_ ?_
      rotate_left
      · rintro w' ⟨s0, s1⟩
        go_simp
        with_reducible rfl
      rotate_left
      · simp only [Act.put, List.setIfInBounds_toArray, List.set_cons_zero, List.set_cons_succ, i64_w, i32_w]
        rfl
      refine pure_ (i := 16) (N := some 63) (v := ?_) (a' := ?_) #[true, true, true, true, true, true, true, true, true, true, true, false, true, true, true, true, true, false, false, false, false, false, false, false, false, false, false, false] rfl rfl (by kernel_rfl) (fun _ _ _ h => h) (Or.inl ⟨by rfl, ?_⟩) ?_ ?_
      rotate_left
      · intro w'
        go_simp
        with_reducible rfl
      rotate_left
      · simp only [Act.put, List.setIfInBounds_toArray, List.set_cons_zero, List.set_cons_succ, i64_w, i32_w]
        rfl
      refine one_ (i := 11) (N := some 58) #[true, true, true, true, true, true, true, true, true, true, true, true, true, true, true, true, true, false, false, false, false, false, false, false, false, false, false, false] rfl rfl (by kernel_rfl) (by decide) (fun K hK => ?_)
      refine goes_ Try.func47 (by kernel_rfl) rfl #[.pointer (some ⟨w1.heap.size, 0, none⟩)] (by rfl) rfl rfl (by (try simp only [List.map_toArray, List.map_cons, List.map_nil]); first | done | rfl) ?_
      refine WT6.out.mono ?_
      rintro e w7 ⟨rfl, rfl⟩
      refine ⟨_, rfl, ?_⟩
      refine hK.out _ _ HH6.out (fun hHeld => ?_)
      clear hK K
      refine norm_ (a' := ?_) ?_ ?_
      rotate_left
      · show Act.put _ (some 58) _ = _
        simp only [Act.put, List.setIfInBounds_toArray, List.set_cons_zero, List.set_cons_succ, i64_w, i32_w]
        rfl
      refine pure_ (i := 17) (N := some 64) (v := ?_) (a' := ?_) #[true, true, true, true, true, true, true, true, true, true, true, true, true, true, true, true, true, true, false, false, false, false, false, false, false, false, false, false] rfl rfl (by kernel_rfl) (fun _ _ _ h => h) (Or.inl ⟨by rfl, ?_⟩) ?_ ?_
      rotate_left
      · intro w'
        go_simp
        with_reducible rfl
      rotate_left
      · simp only [Act.put, List.setIfInBounds_toArray, List.set_cons_zero, List.set_cons_succ, i64_w, i32_w]
        rfl
      refine pure_ (i := 18) (N := some 65) (v := ?_) (a' := ?_) #[true, true, true, true, true, true, true, true, true, true, true, true, true, true, true, true, true, true, true, false, false, false, false, false, false, false, false, false] rfl rfl (by kernel_rfl) (fun _ _ _ h => h) (Or.inl ⟨by rfl, ?_⟩) ?_ ?_
      rotate_left
      · intro w'
        go_simp
        with_reducible rfl
      rotate_left
      · simp only [Act.put, List.setIfInBounds_toArray, List.set_cons_zero, List.set_cons_succ, i64_w, i32_w]
        rfl
      refine pure_ (i := 19) (N := some 66) (v := ?_) (a' := ?_) #[true, true, true, true, true, true, true, true, true, true, true, true, true, true, true, true, true, true, true, true, false, false, false, false, false, false, false, false] rfl rfl (by kernel_rfl) (fun _ _ _ h => h) (Or.inl ⟨by rfl, ?_⟩) ?_ ?_
      rotate_left
      · intro w'
        go_simp
        with_reducible rfl
      rotate_left
      · simp only [Act.put, List.setIfInBounds_toArray, List.set_cons_zero, List.set_cons_succ, i64_w, i32_w]
        rfl
      refine pure_ (i := 20) (N := some 67) (v := ?_) (a' := ?_) #[true, true, true, true, true, true, true, true, true, true, true, true, true, true, true, true, true, true, true, true, true, false, false, false, false, false, false, false] rfl rfl (by kernel_rfl) (fun _ _ _ h => h) (Or.inl ⟨by rfl, ?_⟩) ?_ ?_
      rotate_left
      · intro w'
        go_simp
        with_reducible rfl
      rotate_left
      · simp only [Act.put, List.setIfInBounds_toArray, List.set_cons_zero, List.set_cons_succ, i64_w, i32_w]
        rfl
      refine pure_ (i := 22) (N := some 69) (v := ?_) (a' := ?_) #[true, true, true, true, true, true, true, true, true, true, true, true, true, true, true, true, true, true, true, true, true, false, true, false, false, false, false, false] rfl rfl (by kernel_rfl) (fun _ _ _ h => h) (Or.inl ⟨by rfl, ?_⟩) ?_ ?_
      rotate_left
      · intro w'
        go_simp
        with_reducible rfl
      rotate_left
      · simp only [Act.put, List.setIfInBounds_toArray, List.set_cons_zero, List.set_cons_succ, i64_w, i32_w]
        rfl
      refine pure_ (i := 23) (N := some 70) (v := ?_) (a' := ?_) #[true, true, true, true, true, true, true, true, true, true, true, true, true, true, true, true, true, true, true, true, true, false, true, true, false, false, false, false] rfl rfl (by kernel_rfl) (fun _ _ _ h => h) (Or.inl ⟨by rfl, ?_⟩) ?_ ?_
      rotate_left
      · intro w'
        go_simp
        with_reducible rfl
      rotate_left
      · simp only [Act.put, List.setIfInBounds_toArray, List.set_cons_zero, List.set_cons_succ, i64_w, i32_w]
        rfl
      refine pure_ (i := 24) (N := some 71) (v := ?_) (a' := ?_) #[true, true, true, true, true, true, true, true, true, true, true, true, true, true, true, true, true, true, true, true, true, false, true, true, true, false, false, false] rfl rfl (by kernel_rfl) (fun _ _ _ h => h) (Or.inl ⟨by rfl, ?_⟩) ?_ ?_
      rotate_left
      · intro w'
        go_simp
        with_reducible rfl
      rotate_left
      · simp only [Act.put, List.setIfInBounds_toArray, List.set_cons_zero, List.set_cons_succ, i64_w, i32_w]
        rfl
      refine take_ (i := 25) (N := some 72) (v := ?_) (a' := ?_) #[true, true, true, true, true, true, true, true, true, true, true, true, true, true, true, true, true, true, true, true, true, false, true, true, true, true, false, false] rfl rfl (by kernel_rfl) (fun _ _ _ h => h) (Or.inl ⟨by rfl, ?_⟩) hHeld ?_ ?_
      rotate_left
      · rintro w' ⟨s0, s1⟩
        go_simp
        with_reducible rfl
      rotate_left
      · simp only [Act.put, List.setIfInBounds_toArray, List.set_cons_zero, List.set_cons_succ, i64_w, i32_w]
        rfl
      refine one_ (i := 21) (N := some 68) #[true, true, true, true, true, true, true, true, true, true, true, true, true, true, true, true, true, true, true, true, true, true, true, true, true, true, false, false] rfl rfl (by kernel_rfl) (by decide) (fun K hK => ?_)
      refine goes_ Try.func48 (by kernel_rfl) rfl #[.pointer (some ⟨w1.heap.size, 0, none⟩)] (by rfl) rfl rfl (by (try simp only [List.map_toArray, List.map_cons, List.map_nil]); first | done | rfl) ?_
      refine OF6.out.mono ?_
      rintro e w7 ⟨rfl, rfl⟩
      refine ⟨_, rfl, ?_⟩
      refine hK.out _ _ HH6.out (fun hHeld => ?_)
      clear hK K
      refine norm_ (a' := ?_) ?_ ?_
      rotate_left
      · show Act.put _ (some 68) _ = _
        simp only [Act.put, List.setIfInBounds_toArray, List.set_cons_zero, List.set_cons_succ, i64_w, i32_w]
        rfl
      refine pure_ (i := 26) (N := some 73) (v := ?_) (a' := ?_) #[true, true, true, true, true, true, true, true, true, true, true, true, true, true, true, true, true, true, true, true, true, true, true, true, true, true, true, false] rfl rfl (by kernel_rfl) (fun _ _ _ h => h) (Or.inl ⟨by rfl, ?_⟩) ?_ ?_
      rotate_left
      · intro w'
        go_simp
        with_reducible rfl
      rotate_left
      · simp only [Act.put, List.setIfInBounds_toArray, List.set_cons_zero, List.set_cons_succ, i64_w, i32_w]
        rfl
      refine pure_ (i := 27) (N := some 74) (v := ?_) (a' := ?_) #[true, true, true, true, true, true, true, true, true, true, true, true, true, true, true, true, true, true, true, true, true, true, true, true, true, true, true, true] rfl rfl (by kernel_rfl) (fun _ _ _ h => h) (Or.inl ⟨by rfl, ?_⟩) ?_ ?_
      rotate_left
      · intro w'
        go_simp
        with_reducible rfl
      rotate_left
      · simp only [Act.put, List.setIfInBounds_toArray, List.set_cons_zero, List.set_cons_succ, i64_w, i32_w]
        rfl
      refine done_ (by kernel_rfl) ?_
      go_wp2_with fail
      go_roundg (l.length + 1 - (i + 1))
      case measure => have := HG5.out.2.2.2; omega
      case rel =>
        exact ⟨i + 1, D.2.2.1, D.2.2.2, _, _, by first | (simp [wrap64, w64]; done) | (simp [wrap64, w64]; omega), ⟨by omega⟩, ⟨rfl⟩, ⟨HG5.out.1.more HB6.out⟩, ⟨HG5.out.2.1.more HB6.out⟩, ⟨HG5.out.2.2.1⟩, HFB⟩
    · have hie : i = l.length := by have := hi.out; omega
      subst hie
      have d2 : decide ((l.length : Int) < (l.length : Int)) = false := decide_eq_false (by omega)
      have HBB := Aside0.mk hr1.out.2.2.1
      clear hr1 hr2 hap hlb
      go_wp2_with fail
      refine (a4_awake _).mono ?_
      rintro e w7 ⟨rfl, hb7⟩
      have HB7 := Aside0.mk (below_step HBB.out hb7)
      clear hb7
      go_wp2_with fail
      go_ret
      exact ⟨rfl, HB7.out⟩
def turncocklaw4_ReasmFeeds.f (k : Nat) (a0 : Int) (l1 : List (List Int)) : Option Bool :=
  if (∀ b ∈ l1, Bytes b) ∧ l1.length * 24 ≤ 140737488351232 then some true else none
theorem turncocklaw4_ReasmFeeds.calls (k : Nat) (a0 : Int) (A1 : Option Addr) (c1 : Nat) (l1 : List (List Int)) (r : Bool) (w : World) (hr1 : Kd.C (Kd.slice 5 (Kd.int .u8)) w A1 l1.length l1) (hc1 : l1.length ≤ c1) (h : turncocklaw4_ReasmFeeds.f k a0 l1 = some r) :
    Calls Try.prog 11 #[.int .i64 a0, .slice A1 l1.length c1] w fun e w' => e = .returned (.bool r) ∧ Below w.heap.size w w' := by
  unfold turncocklaw4_ReasmFeeds.f at h
  split at h
  · rename_i hh
    obtain rfl := Option.some.inj h
    obtain ⟨v, hk, hb, _⟩ := weight_f l1 hh.2
    have hK := hk (l1.length + 1) (Nat.le_refl _)
    by_cases c : 5000 < v
    · exact feeds_heavy a0 A1 c1 l1 w hr1 hc1 _ v hK c
    · have h5 := hb (by omega)
      exact feeds_main a0 A1 c1 l1 w hr1 hc1 _ v hK (by omega) hh.1 h5.2 h5.1
  · cases h
end Go.Proofs.Ytnhblhhkjnmkkaa.Q
