/- The reader of a stream (package reasm): New, Off, Waiting, Feed. -/
import Derived.Test.YtnhblhhkjnmkkaaPr
import Derived.Test.YtnhblhhkjnmkkaaRd
import Derived.Test.YtnhblhhkjnmkkaaBk
import Derived.Test.YtnhblhhkjnmkkaaQ11
import Derived.Deep.RegionLaw
import Derived.RegionTactic
namespace Go.Proofs.Ytnhblhhkjnmkkaa.Q
open Go.RowKit Go.Proofs.YtnhblhhkjnmkkaaW.PrintWords Go.Proofs.YtnhblhhkjnmkkaaW.PrintLast Go.Proofs.YtnhblhhkjnmkkaaW.PrintMore
open Go.Proofs.Ytnhblhhkjnmkkaa.Sp Go.Proofs.Ytnhblhhkjnmkkaa.Va Go.Proofs.Ytnhblhhkjnmkkaa.Fr
set_option linter.unusedVariables false
set_option linter.unusedSimpArgs false
/-- A reader in block g (type t), made since W0: its bound, what waits (in a row of its own), whether it is off. -/
def Rdr (W0 W : World) (g : Nat) (t : TypeId) (most : Int) (w : List Int) (off : Bool) (v : Value) : Prop :=
  W.heap[g]? = some (.cells #[.int .i64 most, v, .bool off] t (0, 0)) ∧ Kd.R (Kd.int .u8) 5 W W0.heap.size (fun _ => True) v w ∧ Below W0.heap.size W0 W ∧ W0.heap.size ≤ g
theorem Rdr.more {W0 W W1 : World} {g : Nat} {t : TypeId} {most : Int} {w : List Int} {off : Bool} {v : Value} (h : Rdr W0 W g t most w off v) (hb : Below W.heap.size W W1) : Rdr W0 W1 g t most w off v :=
  ⟨blk_below h.1 hb, Kd.R_below h.2.1 hb, below_step h.2.2.1 hb, h.2.2.2⟩
theorem new_calls (most : Int) (W : World) : Calls Try.prog 44 #[.int .i64 most] W fun e w' => e = .returned (.pointer (some ⟨W.heap.size, 0, none⟩)) ∧ W.alloc (.cells #[.int .i64 most, .slice none 0 0, .bool false] 118) = w' := by
  go_enter Try.func44, Try.ntmps44
  go_wp2_with fail
  go_ret
  exact ⟨rfl, rfl⟩
theorem rdr_new (W0 W : World) (hb : Below W0.heap.size W0 W) (most : Int) (t : TypeId) : Rdr W0 (W.alloc (.cells #[.int .i64 most, .slice none 0 0, .bool false] t)) W.heap.size t most [] false (.slice none 0 0) :=
  ⟨heap_alloc_new W _, Kd.R_nil _ _ _ _ _, below_alloc hb _, hb.size⟩
theorem off_calls (W : World) (g : Nat) (a b : Value) (off : Bool) (h : W.heap[g]? = some (.cells #[a, b, .bool off] 118 (0, 0))) : Calls Try.prog 48 #[.pointer (some ⟨g, 0, none⟩)] W fun e w' => e = .returned (.bool off) ∧ W = w' := by
  have hc : W.cell? ⟨g, 2, none⟩ = some (.bool off) := blk_cell h 2
  go_enter Try.func48, Try.ntmps48
  go_wp2_with fail
  go_ret
  exact ⟨rfl, rfl⟩
theorem off_nil (W : World) : Calls Try.prog 48 #[.pointer none] W fun e w' => e = .returned (.bool true) ∧ W = w' := by
  go_enter Try.func48, Try.ntmps48
  go_wp2_with fail
  go_ret
  exact ⟨rfl, rfl⟩
theorem waiting_calls (W : World) (g : Nat) (a c : Value) (A : Option Addr) (n cp : Nat) (h : W.heap[g]? = some (.cells #[a, .slice A n cp, c] 118 (0, 0))) : Calls Try.prog 47 #[.pointer (some ⟨g, 0, none⟩)] W fun e w' => e = .returned (.int .i64 (n : Int)) ∧ W = w' := by
  have hc : W.cell? ⟨g, 1, none⟩ = some (.slice A n cp) := blk_cell h 1
  go_enter Try.func47, Try.ntmps47
  go_wp2_with fail
  go_ret
  exact ⟨rfl, rfl⟩
theorem waiting_nil (W : World) : Calls Try.prog 47 #[.pointer none] W fun e w' => e = .returned (.int .i64 0) ∧ W = w' := by
  go_enter Try.func47, Try.ntmps47
  go_wp2_with fail
  go_ret
  exact ⟨rfl, rfl⟩
/-- What a feeding comes to: payloads, error, what waits then, off then. -/
def feedv (m : Nat) (w : List Int) (off : Bool) (b : List Int) : List (List Int) × Int × List Int × Bool :=
  if off then ([], 7, w, true) else
  if badE (allv m (w ++ b).length (w ++ b)).2.2 then ((allv m (w ++ b).length (w ++ b)).1, (allv m (w ++ b).length (w ++ b)).2.2, [], true)
  else ((allv m (w ++ b).length (w ++ b)).1, 0, (w ++ b).drop (allv m (w ++ b).length (w ++ b)).2.1, false)
/-- What a feeding leaves: the rows told, the reader as it is then, all else kept but its block and its row. -/
def FeedSaid (W0 W : World) (g : Nat) (t : TypeId) (most : Int) (v : Value) (row : Option Nat) (D : List (List Int) × Int × List Int × Bool) (e : Ending) (w' : World) : Prop :=
  ∃ vl v', e = .returned (.tuple #[vl, .int .i64 D.2.1]) ∧ Kd.S (Kd.slice 5 (Kd.int .u8)) 22 w' W.heap.size (fun k => some k ≠ v'.ownBlock) vl D.1 ∧ Rdr W0 w' g t most D.2.2.1 D.2.2.2 v' ∧ KeepBut W w' g row ∧ (∀ k, v'.ownBlock = some k → v.ownBlock = some k ∨ W.heap.size ≤ k)
set_option maxHeartbeats 4000000 in
set_option maxRecDepth 100000 in
theorem feed_off (W0 W : World) (g : Nat) (most : Int) (w : List Int) (v : Value) (row : Option Nat) (hr : Rdr W0 W g 118 most w true v) (b : Value) :
    Calls Try.prog 45 #[.pointer (some ⟨g, 0, none⟩), b] W (FeedSaid W0 W g 118 most v row ([], 7, w, true)) := by
  have HO := Aside0.mk (off_calls W g _ _ true hr.1)
  have HR := Aside0.mk hr
  clear hr
  go_enter Try.func45, Try.ntmps45
  go_wp2_with fail
  refine HO.out.mono ?_
  rintro e w1 ⟨rfl, rfl⟩
  go_wp2_with fail
  go_ret2
  exact ⟨_, _, rfl, Kd.S_nil _ _ _ _ _, HR.out, KeepBut.refl _ _ _, fun k hk => Or.inl hk⟩
set_option maxHeartbeats 4000000 in
set_option maxRecDepth 100000 in
theorem feed_on (W0 W : World) (g : Nat) (most : Int) (w : List Int) (v : Value) (hr : Rdr W0 W g 118 most w false v) (hw : Bytes w) (A : Option Addr) (c : Nat) (b : List Int) (hC : Kd.C (Kd.int .u8) W A b.length b) (hc : b.length ≤ c) (hb : Bytes b) (hl : w.length + b.length ≤ 1000000) :
    Calls Try.prog 45 #[.pointer (some ⟨g, 0, none⟩), .slice A b.length c] W (FeedSaid W0 W g 118 most v v.ownBlock (feedv (lim most) w false b)) := by
  have HO := Aside0.mk (off_calls W g _ _ false hr.1)
  obtain ⟨Av, cv, ev⟩ := Kd.R_slice hr.2.1
  subst ev
  have hcv : W.cell? ⟨g, 1, none⟩ = some (.slice Av w.length cv) := blk_cell hr.1 1
  obtain ⟨r, hR⟩ : ∃ r, r = allv (lim most) (w ++ b).length (w ++ b) := ⟨_, rfl⟩
  have hA := all_f (w ++ b) (Bytes.append hw hb) (by rw [List.length_append]; omega) most (1000050) (by rw [List.length_append]; omega)
  rw [← hR] at hA
  have hN := (allv_len (lim most) (w ++ b).length (w ++ b) (Bytes.append hw hb)).2
  have hE := allv_err (lim most) (w ++ b).length (w ++ b) (Bytes.append hw hb)
  rw [← hR] at hN hE
  have HF : Aside0 (feedv (lim most) w false b = if badE r.2.2 then (r.1, r.2.2, [], true) else (r.1, 0, (w ++ b).drop r.2.1, false)) := ⟨by rw [feedv, hR]; simp⟩
  have HA := Aside0.mk hA
  have HN := Aside0.mk hN
  have HE := Aside0.mk hE
  have HR := Aside0.mk hr
  have HC := Aside0.mk hC
  have HW := Aside0.mk (And.intro hw hb)
  clear hr hC hw hb hA hN hE hR
  go_enter Try.func45, Try.ntmps45
  go_wp2_with fail
  refine HO.out.mono ?_
  rintro e w1 ⟨rfl, rfl⟩
  have hgl : g < W.heap.size := blk_lt HR.out.1
  have hne : some g ≠ (Value.slice Av w.length cv).ownBlock := Kd.R_ne HR.out.2.1 HR.out.1 (by decide)
  go_wp2_with (at_builtin; refine Kd.R_append_rows (Kd.int .u8) (w0 := W0) W0.heap.size rfl (.tmp 15) (.tmp 16) 22 5 (.int .u8 0) 1 rfl Try.underlying22 info5 rfl (by decide) (by omega) (.slice Av w.length cv) w b A b.length c (fun _ => True) (fun _ => False) rfl rfl HR.out.2.1 HC.out (fun _ _ h => h) (fun _ h => h.elim) (fun _ _ => trivial) HR.out.2.2.1 HR.out.2.2.1.size (by omega) ?_; intro v1 w1 ho1 hb1 hg1 hat1; obtain ⟨A1, c1, e1⟩ := Kd.R_slice ho1; subst e1; have hk1 := blk_grown HR.out.1 hg1 hne; have hc1 : w1.cell? ⟨g, 1, none⟩ = some (.slice Av w.length cv) := blk_cell hk1 1; have hf1 : w1.frozen? ⟨g, 1, none⟩ = false := blk_frozen hk1 1; have HX := Aside0.mk (And.intro ho1 (And.intro hb1 (And.intro hg1 (And.intro hat1 hk1)))); clear ho1 hb1 hg1 hat1 hk1)
  obtain ⟨ho1, hb1, hg1, hat1, hk1⟩ := HX.out
  obtain ⟨y, hy⟩ : ∃ y, y = w ++ b := ⟨_, rfl⟩
  have hyl : y.length = w.length + b.length := by rw [hy, List.length_append]
  rw [← hy] at ho1
  have hk2 : (w1.setCell ⟨g, 1, none⟩ (.slice A1 (w.length + b.length) c1)).heap[g]? = some (.cells #[.int .i64 most, .slice A1 (w.length + b.length) c1, .bool false] 118 (0, 0)) := by have h := blk_set hk1 1 (.slice A1 (w.length + b.length) c1); simpa using h
  have ho1' : Kd.R (Kd.int .u8) 5 w1 W0.heap.size (fun _ => True) (.slice A1 (w.length + b.length) c1) y := by rw [← hyl]; simpa [hy] using ho1
  have ho2 : Kd.R (Kd.int .u8) 5 (w1.setCell ⟨g, 1, none⟩ (.slice A1 (w.length + b.length) c1)) W0.heap.size (fun _ => True) (.slice A1 (w.length + b.length) c1) y := Kd.R_set ho1' hk1 (by decide) 1 _
  have hkb : KeepBut W (w1.setCell ⟨g, 1, none⟩ (.slice A1 (w.length + b.length) c1)) g (Value.slice Av w.length cv).ownBlock := (KeepBut.of_grown hg1 g).set_ 1 _
  have hb2 : Below W0.heap.size W0 (w1.setCell ⟨g, 1, none⟩ (.slice A1 (w.length + b.length) c1)) := below_set hb1 HR.out.2.2.2
  have hsz : W.heap.size ≤ (w1.setCell ⟨g, 1, none⟩ (.slice A1 (w.length + b.length) c1)).heap.size := hkb.1
  obtain ⟨w2, hw2⟩ : ∃ w2, w2 = w1.setCell ⟨g, 1, none⟩ (.slice A1 (w.length + b.length) c1) := ⟨_, rfl⟩
  rw [← hw2] at hk2 ho2 hkb hb2 hsz ⊢
  have d0 : w2.drew.cell? ⟨g, 0, none⟩ = some (.int .i64 most) := blk_cell (blk_drew hk2) 0
  have d1 : w2.drew.cell? ⟨g, 1, none⟩ = some (.slice A1 (w.length + b.length) c1) := blk_cell (blk_drew hk2) 1
  have hrd := Kd.R_reads' (Kd.R_drew ho2)
  have hcall := frame_All.calls 1000050 A1 c1 y most r.1 (r.2.1 : Int) r.2.2 w2.drew hrd.2.2 (by rw [← hrd.1]; exact hrd.2.1) (by rw [hy]; exact HA.out)
  rw [hyl] at hcall
  have HCL := Aside0.mk hcall
  have HK2 := Aside0.mk (And.intro hk2 (And.intro ho2 (And.intro hkb (And.intro hb2 (And.intro hsz hat1)))))
  have HY := Aside0.mk (And.intro hy hyl)
  clear ho1 hb1 hg1 hat1 hk1 hk2 ho1' ho2 hkb hb2 hsz hw2 hrd hcall hc1 hf1 HX hy hyl hcv hne HO HC HA
  first | go_region_law (go_simp; go_at_call 37; refine HCL.out.mono ?_; rintro e w3 ⟨vl, rfl, hs3, hb3⟩; obtain ⟨Al, cl, el⟩ := Kd.S_slice hs3; subst el; have HS3 := Aside0.mk (And.intro hs3 hb3); clear hs3 hb3) | skip
  all_goals
    obtain ⟨hs3, hb3⟩ := HS3.out
    obtain ⟨hk2, ho2, hkb, hb2, hsz, hat1⟩ := HK2.out
    have hk3 := blk_below (blk_drew hk2) hb3
    have hb3' : Below w2.heap.size w2 w3 := below_step (below_drew (Below.refl _ _)) hb3
    have ho3 := Kd.R_below ho2 hb3'
    have hkb3 : KeepBut W w3 g (Value.slice Av w.length cv).ownBlock := hkb.trans (KeepBut.of_below hb3' g _) (Or.inl rfl)
    have hbW := below_step hb2 hb3'
    have hs3' : Kd.S (Kd.slice 5 (Kd.int .u8)) 22 w3 W.heap.size (fun _ => True) (.slice Al r.1.length cl) r.1 := Kd.S_lower hs3 hsz
    have hc31 : w3.cell? ⟨g, 1, none⟩ = some (.slice A1 (w.length + b.length) c1) := blk_cell hk3 1
    have hc32 : w3.cell? ⟨g, 2, none⟩ = some (.bool false) := blk_cell hk3 2
    have hf31 : w3.frozen? ⟨g, 1, none⟩ = false := blk_frozen hk3 1
    have hf32 : w3.frozen? ⟨g, 2, none⟩ = false := blk_frozen hk3 2
    have hsz3 : W.heap.size ≤ w3.heap.size := hkb3.1
    have HK3 := Aside0.mk (And.intro hk3 (And.intro ho3 (And.intro hkb3 (And.intro hbW (And.intro hs3' hsz3)))))
    clear hs3 hb3 hk2 ho2 hkb hb2 hsz hat1 hk3 hb3' ho3 hkb3 hbW hs3' HS3 HK2 HCL d0 d1 hsz3
    rcases badE_cases HE.out with ⟨hbad, he⟩ | ⟨hbad, he⟩
    · have b0 : (r.2.2 != 0) = true := bne_iff_ne.2 (by omega)
      have b3 : (r.2.2 != 3) = true := bne_iff_ne.2 (by omega)
      have HBAD := Aside0.mk hbad
      clear he hbad
      go_wp2_with fail
      go_ret2
      obtain ⟨hk3, ho3, hkb3, hbW, hs3', hsz3⟩ := HK3.out
      have q1 := blk_set hk3 1 (.slice none 0 0)
      have q2 := blk_set q1 2 (.bool true)
      refine ⟨.slice Al r.1.length cl, .slice none 0 0, by rw [HF.out, if_pos HBAD.out]; rfl, ?_, ?_, (hkb3.set_ 1 _).set_ 2 _, fun k hk => by simp [Value.ownBlock] at hk⟩
      · rw [HF.out, if_pos HBAD.out]
        exact Kd.S_mono (Kd.S_set (Kd.S_set hs3' hk3 (by decide) 1 _) q1 (by decide) 2 _) (fun k _ => by simp [Value.ownBlock])
      · rw [HF.out, if_pos HBAD.out]
        exact ⟨by simpa using q2, Kd.R_nil _ _ _ _ _, below_set (below_set hbW HR.out.2.2.2) HR.out.2.2.2, HR.out.2.2.2⟩
    · have b0 : ∀ h : r.2.2 = 0, (r.2.2 != 0) = false := fun h => by rw [h]; rfl
      have hrd := Kd.R_reads' HK3.out.2.1
      have hyl := HY.out.2
      have hn := HN.out
      rw [List.length_append] at hn
      have hdr := Kd.C_drop (m := r.2.1) hrd.2.2 (by omega) (by omega : y.length ≤ c1)
      have hsl := slice_from A1 (w.length + b.length) c1 r.2.1 hn
      obtain ⟨A', hA'⟩ : ∃ A' : Option Addr, A' = (if c1 = r.2.1 then A1 else A1.map (·.add r.2.1)) := ⟨_, rfl⟩
      rw [← hA'] at hsl
      have hdr2 : Kd.C (Kd.int .u8) w3 A' (y.drop r.2.1).length (y.drop r.2.1) := by rw [hA']; simpa [Kd.int, Kd.scalar] using hdr
      have hdl : (y.drop r.2.1).length = w.length + b.length - r.2.1 := by rw [List.length_drop, hyl]
      have hcl := slices_Clone_byte_byte.calls A' (c1 - r.2.1) (y.drop r.2.1) (y.drop r.2.1) w3 hdr2 (by omega) (by unfold slices_Clone_byte_byte.f; rw [if_pos (by omega)])
      rw [hdl] at hcl
      have HCLN := Aside0.mk hcl
      have HBAD := Aside0.mk hbad
      clear hrd hdr hdr2 hdl hcl hA' hn hbad hyl b0
      have fin : ∀ (w4 : World) (v' : Value), Kd.R (Kd.int .u8) 5 w4 w3.heap.size (fun _ => True) v' (y.drop r.2.1) → Below w3.heap.size w3 w4 → FeedSaid W0 W g 118 most (.slice Av w.length cv) (Value.slice Av w.length cv).ownBlock (feedv (lim most) w false b) (.returned (.tuple #[.slice Al r.1.length cl, .int .i64 0])) (w4.setCell ⟨g, 1, none⟩ v') := by
        intro w4 v' hv hb4
        obtain ⟨hk3, ho3, hkb3, hbW, hs3', hsz3⟩ := HK3.out
        have hk4 := blk_below hk3 hb4
        have q1 := blk_set hk4 1 v'
        refine ⟨.slice Al r.1.length cl, v', by rw [HF.out, if_neg (by rw [HBAD.out]; decide)], ?_, ?_, (hkb3.trans (KeepBut.of_below hb4 g _) (Or.inl rfl)).set_ 1 _, fun k hk => Or.inr (Nat.le_trans hsz3 (Kd.R_base hv k hk))⟩
        · rw [HF.out, if_neg (by rw [HBAD.out]; decide)]
          exact Kd.S_mono (Kd.S_set (Kd.S_below (Kd.S_mono (Kd.S_bound hs3') (fun k hk => hk.2.2.1)) hb4) hk4 (by decide) 1 _) (fun k hk e => by have := Kd.R_base hv k e.symm; omega)
        · rw [HF.out, if_neg (by rw [HBAD.out]; decide)]
          refine ⟨by simpa using q1, ?_, below_set (below_step hbW hb4) HR.out.2.2.2, HR.out.2.2.2⟩
          rw [← HY.out.1]
          exact Kd.R_set (Kd.R_lower hv hbW.size) hk4 (by decide) 1 _
      have FIN := Aside0.mk fin
      have cont : ∀ (w4 : World) (v' : Value), Below w3.heap.size w3 w4 → w4.cell? ⟨g, 1, none⟩ = some (.slice A1 (w.length + b.length) c1) ∧ w4.frozen? ⟨g, 1, none⟩ = false := by
        intro w4 v' hb4
        have hk4 := blk_below HK3.out.1 hb4
        exact ⟨blk_cell hk4 1, blk_frozen hk4 1⟩
      have CONT := Aside0.mk cont
      clear fin cont
      rcases he with he | he
      · have b0 : (r.2.2 != 0) = false := by rw [he]; rfl
        clear he
        go_wp2_with fail
        refine HCLN.out.mono ?_
        rintro e w4 ⟨v', rfl, hv, hb4⟩
        obtain ⟨x1, x2⟩ := CONT.out w4 v' hb4
        have hz := FIN.out w4 v' hv hb4
        obtain ⟨Av', cv', ev'⟩ := Kd.R_slice hv
        rw [List.length_drop] at ev'
        subst ev'
        have HZ := Aside0.mk hz
        clear hz
        clear hv hb4
        go_wp2_with fail
        go_ret2
        exact HZ.out
      · have b0 : (r.2.2 != 0) = true := by rw [he]; rfl
        have b3 : (r.2.2 != 3) = false := by rw [he]; rfl
        clear he
        go_wp2_with fail
        refine HCLN.out.mono ?_
        rintro e w4 ⟨v', rfl, hv, hb4⟩
        obtain ⟨x1, x2⟩ := CONT.out w4 v' hb4
        have hz := FIN.out w4 v' hv hb4
        obtain ⟨Av', cv', ev'⟩ := Kd.R_slice hv
        rw [List.length_drop] at ev'
        subst ev'
        have HZ := Aside0.mk hz
        clear hz
        clear hv hb4
        go_wp2_with fail
        go_ret2
        exact HZ.out
/-- Feed. -/
theorem feed_calls (W0 W : World) (g : Nat) (most : Int) (w : List Int) (off : Bool) (v : Value) (hr : Rdr W0 W g 118 most w off v) (hw : Bytes w) (A : Option Addr) (c : Nat) (b : List Int) (hC : Kd.C (Kd.int .u8) W A b.length b) (hc : b.length ≤ c) (hb : Bytes b) (hl : w.length + b.length ≤ 1000000) :
    Calls Try.prog 45 #[.pointer (some ⟨g, 0, none⟩), .slice A b.length c] W (FeedSaid W0 W g 118 most v v.ownBlock (feedv (lim most) w off b)) := by
  cases off with
  | true => exact feed_off W0 W g most w v _ hr _
  | false => exact feed_on W0 W g most w v hr hw A c b hC hc hb hl
theorem feedv_bytes {m : Nat} {w b : List Int} {off : Bool} (hw : Bytes w) (hb : Bytes b) : Bytes (feedv m w off b).2.2.1 ∧ (feedv m w off b).2.2.1.length ≤ w.length + b.length := by
  unfold feedv
  split
  · exact ⟨hw, by simp⟩
  · split
    · exact ⟨Bytes.nil, by simp⟩
    · exact ⟨(Bytes.append hw hb).drop _, by simp only [List.length_drop, List.length_append]; omega⟩
end Go.Proofs.Ytnhblhhkjnmkkaa.Q
