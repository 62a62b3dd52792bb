/- The reference's reader of a stream: Feed. -/
import Derived.Test.YtnhblhhkjnmkkaaRa
import Derived.Test.YtnhblhhkjnmkkaaQ12
namespace Go.Proofs.Ytnhblhhkjnmkkaa.Q
open Go.RowKit Go.Proofs.YtnhblhhkjnmkkaaW.PrintWords Go.Proofs.YtnhblhhkjnmkkaaW.PrintLast Go.Proofs.YtnhblhhkjnmkkaaW.PrintMore
open Go.Proofs.Ytnhblhhkjnmkkaa.Sp Go.Proofs.Ytnhblhhkjnmkkaa.Va Go.Proofs.Ytnhblhhkjnmkkaa.Fr
set_option linter.unusedVariables false
set_option linter.unusedSimpArgs false
theorem empty_row' (W : World) (base : Nat) (hb : base ≤ W.heap.size) : Kd.R (Kd.int .u8) 5 (W.alloc (.cells #[] 5)) base (fun _ => True) (.slice (some ⟨W.heap.size, 0, none⟩) 0 0) [] :=
  Kd.R_of_own (h1 := fun _ => rfl) (xs := []) (enc := Value.int .u8) ⟨rfl, .inr ⟨W.heap.size, 0, _, rfl, hb, heap_alloc_new W _, Nat.le_refl _, by unfold maxLen; omega, rfl, rfl⟩⟩ (fun _ _ => trivial)
set_option maxHeartbeats 4000000 in
set_option maxRecDepth 100000 in
theorem rfeed_off (W0 W : World) (g : Nat) (most : Int) (w : List Int) (v : Value) (hr : Rdr W0 W g 49 most w true v) (b : Value) :
    Calls Try.prog 46 #[.pointer (some ⟨g, 0, none⟩), b] W (FeedSaid W0 W g 49 most v none ([], 7, w, true)) := by
  have hc2 : W.cell? ⟨g, 2, none⟩ = some (.bool true) := blk_cell hr.1 2
  have HR := Aside0.mk hr
  clear hr
  go_enter Try.func46, Try.ntmps46
  go_wp2_with fail
  go_ret2
  exact ⟨_, _, rfl, Kd.S_nil _ _ _ _ _, HR.out, KeepBut.refl _ _ _, fun k hk => Or.inl hk⟩
set_option maxHeartbeats 4000000 in
set_option maxRecDepth 100000 in
theorem rfeed_on (W0 W : World) (g : Nat) (most : Int) (w : List Int) (v : Value) (hr : Rdr W0 W g 49 most w false v) (hw : Bytes w) (A : Option Addr) (c : Nat) (b : List Int) (hC : Kd.C (Kd.int .u8) W A b.length b) (hc : b.length ≤ c) (hb : Bytes b) (hl : w.length + b.length ≤ 1000000) :
    Calls Try.prog 46 #[.pointer (some ⟨g, 0, none⟩), .slice A b.length c] W (FeedSaid W0 W g 49 most v none (feedv (lim most) w false b)) := by
  obtain ⟨Av, cv, ev⟩ := Kd.R_slice hr.2.1
  subst ev
  have hcv : W.cell? ⟨g, 1, none⟩ = some (.slice Av w.length cv) := blk_cell hr.1 1
  have hc2 : W.cell? ⟨g, 2, none⟩ = some (.bool false) := blk_cell hr.1 2
  have hgl : g < W.heap.size := blk_lt hr.1
  have hcv' : (W.alloc (.cells #[] 5)).cell? ⟨g, 1, none⟩ = some (.slice Av w.length cv) := blk_cell (blk_alloc hr.1 _) 1
  obtain ⟨r, hR⟩ : ∃ r, r = allv (lim most) (w ++ b).length (w ++ b) := ⟨_, rfl⟩
  have hA := ref_all_f (w ++ b) (Bytes.append hw hb) (by rw [List.length_append]; omega) most (1000050) (by rw [List.length_append]; omega)
  rw [← hR] at hA
  have hN := (allv_len (lim most) (w ++ b).length (w ++ b) (Bytes.append hw hb)).2
  have hE := allv_err (lim most) (w ++ b).length (w ++ b) (Bytes.append hw hb)
  rw [← hR] at hN hE
  have HF : Aside0 (feedv (lim most) w false b = if badE r.2.2 then (r.1, r.2.2, [], true) else (r.1, 0, (w ++ b).drop r.2.1, false)) := ⟨by rw [feedv, hR]; simp⟩
  have HA := Aside0.mk hA
  have HN := Aside0.mk hN
  have HE := Aside0.mk hE
  have HC := Aside0.mk (And.intro (Kd.R_reads' hr.2.1).2.2 hC)
  have HER := Aside0.mk (empty_row' W W.heap.size (Nat.le_refl _))
  have HR := Aside0.mk hr
  clear hr hC hw hb hA hN hE hR
  go_enter Try.func46, Try.ntmps46
  go_wp2_with (first
    | (at_builtin; refine Kd.R_append_rows (Kd.int .u8) (w0 := W) W.heap.size rfl (.tmp 14) (.tmp 18) 22 5 (.int .u8 0) 1 rfl Try.underlying22 info5 rfl (by decide) (by omega) (.slice (some ⟨W.heap.size, 0, none⟩) 0 0) [] w Av w.length cv (fun _ => True) (fun _ => False) rfl rfl HER.out (Kd.C_alloc HC.out.1 _) (fun _ _ h => h) (fun _ h => h.elim) (fun _ _ => trivial) (below_alloc (Below.refl _ _) _) ?aS ?aL ?_; (case aS => simp); (case aL => simp; omega); intro v5 w5 ho5 hb5 hg5 hat5; clear hg5 hat5; obtain ⟨A5, c5, e5⟩ := Kd.R_slice ho5; subst e5; have HO5 := Aside0.mk ho5; have HB5 := Aside0.mk hb5; clear ho5 hb5)
    | (at_builtin; refine Kd.R_append_rows (Kd.int .u8) (w0 := W) W.heap.size rfl (.tmp 19) (.tmp 20) 22 5 (.int .u8 0) 1 rfl Try.underlying22 info5 rfl (by decide) (by omega) _ ([] ++ w) b A b.length c (fun _ => True) (fun _ => False) rfl rfl HO5.out ?aR (fun _ _ h => h) (fun _ h => h.elim) (fun _ _ => trivial) HB5.out ?aS ?aL ?_; (case aR => exact Kd.C_below HC.out.2 HB5.out); (case aS => have := HB5.out.size; simpa using this); (case aL => simp; omega); intro v1 w1 ho6 hb6 hg6 hat6; clear hg6 hat6; obtain ⟨A1, c1, e6⟩ := Kd.R_slice ho6; subst e6; have hk1 := blk_below HR.out.1 hb6; have hc1 : w1.cell? ⟨g, 1, none⟩ = some (.slice Av w.length cv) := blk_cell hk1 1; have hf1 : w1.frozen? ⟨g, 1, none⟩ = false := blk_frozen hk1 1; have HX := Aside0.mk (And.intro ho6 (And.intro hb6 hk1)); clear ho6 hb6 hk1)
    | fail)
  obtain ⟨ho1, hb1, hk1⟩ := HX.out
  obtain ⟨y, hy⟩ : ∃ y, y = w ++ b := ⟨_, rfl⟩
  have hyl : y.length = w.length + b.length := by rw [hy, List.length_append]
  have hk2 : (w1.setCell ⟨g, 1, none⟩ (.slice A1 (w.length + b.length) c1)).heap[g]? = some (.cells #[.int .i64 most, .slice A1 (w.length + b.length) c1, .bool false] 49 (0, 0)) := by have h := blk_set hk1 1 (.slice A1 (w.length + b.length) c1); simpa using h
  have ho1' : Kd.R (Kd.int .u8) 5 w1 W.heap.size (fun _ => True) (.slice A1 (w.length + b.length) c1) y := by rw [hy]; simpa using ho1
  have ho2 : Kd.R (Kd.int .u8) 5 (w1.setCell ⟨g, 1, none⟩ (.slice A1 (w.length + b.length) c1)) W.heap.size (fun _ => True) (.slice A1 (w.length + b.length) c1) y := Kd.R_set ho1' hk1 (by decide) 1 _
  have hkb : KeepBut W (w1.setCell ⟨g, 1, none⟩ (.slice A1 (w.length + b.length) c1)) g none := (KeepBut.of_below hb1 g none).set_ 1 _
  have hb2 : Below W0.heap.size W0 (w1.setCell ⟨g, 1, none⟩ (.slice A1 (w.length + b.length) c1)) := below_set (below_step HR.out.2.2.1 hb1) HR.out.2.2.2
  have hsz : W.heap.size ≤ (w1.setCell ⟨g, 1, none⟩ (.slice A1 (w.length + b.length) c1)).heap.size := hkb.1
  obtain ⟨w2, hw2⟩ : ∃ w2, w2 = (w1.setCell ⟨g, 1, none⟩ (.slice A1 (w.length + b.length) c1)) := ⟨_, rfl⟩
  rw [← hw2] at hk2 ho2 hkb hb2 hsz ⊢
  have d0 : w2.drew.cell? ⟨g, 0, none⟩ = some (.int .i64 most) := blk_cell (blk_drew hk2) 0
  have d1 : w2.drew.cell? ⟨g, 1, none⟩ = some (.slice A1 (w.length + b.length) c1) := blk_cell (blk_drew hk2) 1
  have hrd := Kd.R_reads' (Kd.R_drew ho2)
  have hcall := turncockref1_All.calls 1000050 A1 c1 y most r.1 (r.2.1 : Int) r.2.2 w2.drew hrd.2.2 (by rw [← hrd.1]; exact hrd.2.1) (by rw [hy]; exact HA.out)
  rw [hyl] at hcall
  have HCL := Aside0.mk hcall
  have HK2 := Aside0.mk (And.intro hk2 (And.intro ho2 (And.intro hkb (And.intro hb2 hsz))))
  have HY := Aside0.mk (And.intro hy hyl)
  clear ho1 hb1 hk1 hk2 ho1' ho2 hkb hb2 hsz hw2 hrd hcall hc1 hf1 HX hy hyl hcv hcv' hc2 HC HA HO5 HB5 HER
  first | go_region_law (go_simp; go_at_call 41; refine HCL.out.mono ?_; rintro e w3 ⟨vl, rfl, hs3, hb3⟩; obtain ⟨Al, cl, el⟩ := Kd.S_slice hs3; subst el; have HS3 := Aside0.mk (And.intro hs3 hb3); clear hs3 hb3) | skip
  all_goals
    obtain ⟨hs3, hb3⟩ := HS3.out
    obtain ⟨hk2, ho2, hkb, hb2, hsz⟩ := HK2.out
    have hk3 := blk_below (blk_drew hk2) hb3
    have hb3' : Below w2.heap.size w2 w3 := below_step (below_drew (Below.refl _ _)) hb3
    have ho3 := Kd.R_below ho2 hb3'
    have hkb3 : KeepBut W w3 g none := hkb.trans (KeepBut.of_below hb3' g _) (Or.inl rfl)
    have hbW := below_step hb2 hb3'
    have hs3' : Kd.S (Kd.slice 5 (Kd.int .u8)) 22 w3 W.heap.size (fun _ => True) (.slice Al r.1.length cl) r.1 := Kd.S_lower hs3 hsz
    have hc31 : w3.cell? ⟨g, 1, none⟩ = some (.slice A1 (w.length + b.length) c1) := blk_cell hk3 1
    have hc32 : w3.cell? ⟨g, 2, none⟩ = some (.bool false) := blk_cell hk3 2
    have hf31 : w3.frozen? ⟨g, 1, none⟩ = false := blk_frozen hk3 1
    have hf32 : w3.frozen? ⟨g, 2, none⟩ = false := blk_frozen hk3 2
    have hsz3 : W.heap.size ≤ w3.heap.size := hkb3.1
    have HK3 := Aside0.mk (And.intro hk3 (And.intro ho3 (And.intro hkb3 (And.intro hbW (And.intro hs3' hsz3)))))
    have hc31' : (w3.alloc (.cells #[] 5)).cell? ⟨g, 1, none⟩ = some (.slice A1 (w.length + b.length) c1) := blk_cell (blk_alloc hk3 _) 1
    clear hs3 hb3 hk2 ho2 hkb hb2 hsz hk3 hb3' ho3 hkb3 hbW hs3' HS3 HK2 HCL d0 d1 hsz3
    rcases badE_cases HE.out with ⟨hbad, he⟩ | ⟨hbad, he⟩
    · have bad : ∀ (e : Value), e = .int .i64 r.2.2 → FeedSaid W0 W g 49 most (.slice Av w.length cv) none (feedv (lim most) w false b) (.returned (.tuple #[.slice Al r.1.length cl, e])) ((w3.setCell ⟨g, 1, none⟩ (.slice none 0 0)).setCell ⟨g, 2, none⟩ (.bool true)) := by
        rintro e rfl
        obtain ⟨hk3, ho3, hkb3, hbW, hs3', hsz3⟩ := HK3.out
        have q1 := blk_set hk3 1 (.slice none 0 0)
        have q2 := blk_set q1 2 (.bool true)
        refine ⟨.slice Al r.1.length cl, .slice none 0 0, by rw [HF.out, if_pos hbad], ?_, ?_, (hkb3.set_ 1 _).set_ 2 _, fun k hk => by simp [Value.ownBlock] at hk⟩
        · rw [HF.out, if_pos hbad]
          exact Kd.S_mono (Kd.S_set (Kd.S_set hs3' hk3 (by decide) 1 _) q1 (by decide) 2 _) (fun k _ => by simp [Value.ownBlock])
        · rw [HF.out, if_pos hbad]
          exact ⟨by simpa using q2, Kd.R_nil _ _ _ _ _, below_set (below_set hbW HR.out.2.2.2) HR.out.2.2.2, HR.out.2.2.2⟩
      have BAD := Aside0.mk bad
      clear bad hbad
      rcases he with he | he
      · have b0 : (r.2.2 == 2) = true := by rw [he]; rfl
        clear he
        go_wp2_with fail
        go_ret2
        exact BAD.out _ rfl
      · have b0 : (r.2.2 == 2) = false := by rw [he]; rfl
        have b3 : (r.2.2 == 4) = true := by rw [he]; rfl
        clear he
        go_wp2_with fail
        go_ret2
        exact BAD.out _ rfl
    · have b0 : (r.2.2 == 2) = false := beq_eq_false_iff_ne.2 (by omega)
      have b3 : (r.2.2 == 4) = false := beq_eq_false_iff_ne.2 (by omega)
      have hrd := Kd.R_reads' HK3.out.2.1
      have hyl := HY.out.2
      have hn := HN.out
      rw [List.length_append] at hn
      have hdr := Kd.C_drop (m := r.2.1) hrd.2.2 (by omega) (by omega : y.length ≤ c1)
      have hsl := slice_from A1 (w.length + b.length) c1 r.2.1 hn
      obtain ⟨A', hA'⟩ : ∃ A' : Option Addr, A' = (if c1 = r.2.1 then A1 else A1.map (·.add r.2.1)) := ⟨_, rfl⟩
      rw [← hA'] at hsl
      have hdl : (y.drop r.2.1).length = w.length + b.length - r.2.1 := by rw [List.length_drop, hyl]
      have hdr2 : Kd.C (Kd.int .u8) w3 A' (w.length + b.length - r.2.1) (y.drop r.2.1) := by rw [hA', ← hdl]; simpa [Kd.int, Kd.scalar] using hdr
      have HDR := Aside0.mk (And.intro hdr2 hdl)
      have HBAD := Aside0.mk hbad
      have HER2 := Aside0.mk (empty_row' w3 w3.heap.size (Nat.le_refl _))
      clear hrd hdr hdr2 hdl hA' hn hbad hyl he
      have fin : ∀ (w4 : World) (v' : Value), Kd.R (Kd.int .u8) 5 w4 w3.heap.size (fun _ => True) v' (y.drop r.2.1) → Below w3.heap.size w3 w4 → FeedSaid W0 W g 49 most (.slice Av w.length cv) none (feedv (lim most) w false b) (.returned (.tuple #[.slice Al r.1.length cl, .int .i64 0])) (w4.setCell ⟨g, 1, none⟩ v') := by
        intro w4 v' hv hb4
        obtain ⟨hk3, ho3, hkb3, hbW, hs3', hsz3⟩ := HK3.out
        have hk4 := blk_below hk3 hb4
        have q1 := blk_set hk4 1 v'
        refine ⟨.slice Al r.1.length cl, v', by rw [HF.out, if_neg (by rw [HBAD.out]; decide)], ?_, ?_, (hkb3.trans (KeepBut.of_below hb4 g _) (Or.inl rfl)).set_ 1 _, fun k hk => Or.inr (Nat.le_trans hsz3 (Kd.R_base hv k hk))⟩
        · rw [HF.out, if_neg (by rw [HBAD.out]; decide)]
          exact Kd.S_mono (Kd.S_set (Kd.S_below (Kd.S_mono (Kd.S_bound hs3') (fun k hk => hk.2.2.1)) hb4) hk4 (by decide) 1 _) (fun k hk e => by have := Kd.R_base hv k e.symm; omega)
        · rw [HF.out, if_neg (by rw [HBAD.out]; decide)]
          refine ⟨by simpa using q1, ?_, below_set (below_step hbW hb4) HR.out.2.2.2, HR.out.2.2.2⟩
          rw [← HY.out.1]
          exact Kd.R_set (Kd.R_lower hv hbW.size) hk4 (by decide) 1 _
      have FIN := Aside0.mk fin
      clear fin
      go_wp2_with (at_builtin; refine Kd.R_append_rows (Kd.int .u8) (w0 := w3) w3.heap.size rfl (.tmp 52) (.tmp 58) 22 5 (.int .u8 0) 1 rfl Try.underlying22 info5 rfl (by decide) (by omega) (.slice (some ⟨w3.heap.size, 0, none⟩) 0 0) [] (y.drop r.2.1) A' (w.length + b.length - r.2.1) (c1 - r.2.1) (fun _ => True) (fun _ => False) rfl rfl HER2.out (Kd.C_alloc HDR.out.1 _) (fun _ _ h => h) (fun _ h => h.elim) (fun _ _ => trivial) (below_alloc (Below.refl _ _) _) ?aS ?aL ?_; (case aS => simp); (case aL => simp; omega); intro v5 w5 ho5 hb5 hg5 hat5; clear hg5 hat5; obtain ⟨A5, c5, e5⟩ := Kd.R_slice ho5; subst e5; have hk5 := blk_below HK3.out.1 hb5; have hc51 : w5.cell? ⟨g, 1, none⟩ = some (.slice A1 (w.length + b.length) c1) := blk_cell hk5 1; have hf51 : w5.frozen? ⟨g, 1, none⟩ = false := blk_frozen hk5 1; have HO5 := Aside0.mk (And.intro ho5 hb5); clear ho5 hb5 hk5)
      go_ret2
      have hz := FIN.out w5 (.slice A5 ([] ++ y.drop r.2.1).length c5) (by simpa using HO5.out.1) HO5.out.2
      simpa using hz
/-- The reference's Feed. -/
theorem rfeed_calls (W0 W : World) (g : Nat) (most : Int) (w : List Int) (off : Bool) (v : Value) (hr : Rdr W0 W g 49 most w off v) (hw : Bytes w) (A : Option Addr) (c : Nat) (b : List Int) (hC : Kd.C (Kd.int .u8) W A b.length b) (hc : b.length ≤ c) (hb : Bytes b) (hl : w.length + b.length ≤ 1000000) :
    Calls Try.prog 46 #[.pointer (some ⟨g, 0, none⟩), .slice A b.length c] W (FeedSaid W0 W g 49 most v none (feedv (lim most) w off b)) := by
  cases off with
  | true => exact rfeed_off W0 W g most w v hr _
  | false => exact rfeed_on W0 W g most w v hr hw A c b hC hc hb hl
end Go.Proofs.Ytnhblhhkjnmkkaa.Q
