/- The walk of ReasmOff: behind a frame that is too long, or no frame, nothing is told any more. -/
import Derived.Test.YtnhblhhkjnmkkaaRw
namespace Go.Proofs.Ytnhblhhkjnmkkaa.Q
open Go.RowKit Go.Proofs.YtnhblhhkjnmkkaaW.PrintWords Go.Proofs.YtnhblhhkjnmkkaaW.PrintLast Go.Proofs.YtnhblhhkjnmkkaaW.PrintMore
open Go.Proofs.Ytnhblhhkjnmkkaa.Sp Go.Proofs.Ytnhblhhkjnmkkaa.Va Go.Proofs.Ytnhblhhkjnmkkaa.Fr
set_option linter.unusedVariables false
set_option linter.unusedSimpArgs false
set_option maxHeartbeats 4000000 in
set_option maxRecDepth 100000 in
theorem roff_long (most : Int) (A : Option Addr) (c : Nat) (b : List Int) (v2 : Value) (w : World) (h : 3000 < b.length) (hb : b.length ≤ 9223372036854775807) :
    Calls Try.prog 13 #[.int .i64 most, .slice A b.length c, v2] w fun e w' => e = .returned (.bool true) ∧ Below w.heap.size w w' := by
  have d1 : decide ((3000 : Int) < (b.length : Int)) = true := decide_eq_true (by omega)
  clear h
  go_enter Try.func13, Try.ntmps13
  go_wp2_with fail
  refine (a4_awake _).mono ?_
  rintro e w2 ⟨rfl, hb2⟩
  have HB2 := Aside0.mk hb2
  clear hb2
  go_wp2_with fail
  go_ret
  exact ⟨rfl, HB2.out⟩
set_option maxHeartbeats 4000000 in
set_option maxRecDepth 100000 in
theorem roff_heavy (most : Int) (A : Option Addr) (c : Nat) (b : List Int) (B : Option Addr) (d : Nat) (l : List (List Int)) (w : World) (h : b.length ≤ 3000) (hC : Kd.C (Kd.slice 5 (Kd.int .u8)) w B l.length l) (hd : l.length ≤ d) (K : Nat) (r : Int) (hr : turncocklaw4_weight.f K l = some r) (h3 : 3000 < r) :
    Calls Try.prog 13 #[.int .i64 most, .slice A b.length c, .slice B l.length d] w fun e w' => e = .returned (.bool true) ∧ Below w.heap.size w w' := by
  have d1 : decide ((3000 : Int) < (b.length : Int)) = false := decide_eq_false (by omega)
  have d2 : decide (3000 < r) = true := decide_eq_true h3
  have HW := Aside0.mk (turncocklaw4_weight.calls K B d l r w hC hd hr)
  clear h hC hr h3
  go_enter Try.func13, Try.ntmps13
  go_wp2_with fail
  refine HW.out.mono ?_
  rintro e w1 ⟨rfl, hb1⟩
  have HB1 := Aside0.mk hb1
  clear hb1
  go_wp2_with fail
  refine (a4_awake _).mono ?_
  rintro e w2 ⟨rfl, hb2⟩
  have HB2 := Aside0.mk (below_step HB1.out hb2)
  clear hb2
  go_wp2_with fail
  go_ret
  exact ⟨rfl, HB2.out⟩
theorem feedv_err (m : Nat) (b : List Int) (hb : Bytes b) : ((feedv m [] false b).2.1 = 0 ∧ (feedv m [] false b).2.2.2 = false) ∨ (((feedv m [] false b).2.1 = 4 ∨ (feedv m [] false b).2.1 = 2) ∧ (feedv m [] false b).2.2.2 = true ∧ (feedv m [] false b).2.2.1 = []) := by
  unfold feedv
  rw [if_neg (by decide)]
  have hE := allv_err m ([] ++ b).length ([] ++ b) (by simpa using hb)
  rcases badE_cases hE with ⟨h1, h2⟩ | ⟨h1, h2⟩
  · rw [if_pos h1]; exact Or.inr ⟨Or.symm h2, rfl, rfl⟩
  · rw [if_neg (by rw [h1]; decide)]; exact Or.inl ⟨rfl, rfl⟩
set_option maxHeartbeats 8000000 in
set_option maxRecDepth 100000 in
theorem roff_main (most : Int) (A : Option Addr) (c : Nat) (b : List Int) (B : Option Addr) (d : Nat) (l : List (List Int)) (w : World) (hA : Kd.C (Kd.int .u8) w A b.length b) (hc : b.length ≤ c) (hbb : Bytes b) (h : b.length ≤ 3000) (hC : Kd.C (Kd.slice 5 (Kd.int .u8)) w B l.length l) (hd : l.length ≤ d) (K : Nat) (r : Int) (hr : turncocklaw4_weight.f K l = some r) (h3 : ¬ 3000 < r) (hL : l.length ≤ 140737488355328) :
    Calls Try.prog 13 #[.int .i64 most, .slice A b.length c, .slice B l.length d] w fun e w' => e = .returned (.bool true) ∧ Below w.heap.size w w' := by
  have d1 : decide ((3000 : Int) < (b.length : Int)) = false := decide_eq_false (by omega)
  have d2 : decide (3000 < r) = false := decide_eq_false h3
  have HW := Aside0.mk (turncocklaw4_weight.calls K B d l r w hC hd hr)
  have HC := Aside0.mk hC
  have HF := Aside0.mk (fun (W : World) (g : Nat) (hr : Rdr w W g 118 most [] false (.slice none 0 0)) => feed_calls w W g most [] false _ hr Bytes.nil A c b (Kd.C_below hA hr.2.2.1) hc hbb (by simp; omega))
  have HE := Aside0.mk (feedv_err (lim most) b hbb)
  clear h hC hr h3 hA hbb
  go_enter Try.func13, Try.ntmps13
  go_wp2_with fail
  refine HW.out.mono ?_
  rintro e w1 ⟨rfl, hb1⟩
  have HB1 := Aside0.mk hb1
  clear hb1 HW
  go_wp2_with fail
  refine (new_calls most _).mono ?_
  rintro e w2 ⟨rfl, rfl⟩
  have HN := Aside0.mk (HF.out _ _ (rdr_new w w1 HB1.out most 118))
  go_wp2_with fail
  refine HN.out.mono ?_
  rintro e w3 ⟨vl, v', rfl, hs3, hr3, _, _⟩
  obtain ⟨D, hD⟩ : ∃ D, D = feedv (lim most) [] false b := ⟨_, rfl⟩
  rw [← hD] at hs3 hr3 HE ⊢
  have HDD := Aside0.mk hD
  obtain ⟨Al, cl, el⟩ := Kd.S_slice hs3
  subst el
  have HR := Aside0.mk hr3
  have OF := Aside0.mk (off_calls w3 _ _ _ _ hr3.1)
  clear hs3 hr3 hD HN HF
  rcases HE.out with ⟨he, ho⟩ | ⟨he, ho, hw⟩
  · have b0 : (D.2.1 == 0) = true := by rw [he]; rfl
    clear he
    go_wp2_with fail
    refine OF.out.mono ?_
    rintro e w4 ⟨rfl, rfl⟩
    rw [ho]
    clear ho
    go_wp2_with fail
    refine (a4_awake _).mono ?_
    rintro e w4 ⟨rfl, hb4⟩
    have HB4 := Aside0.mk (below_step HR.out.2.2.1 hb4)
    clear hb4
    go_wp2_with fail
    go_ret
    exact ⟨rfl, HB4.out⟩
  · have b0 : (D.2.1 == 0) = false := beq_eq_false_iff_ne.2 (by omega)
    have HR' : Aside0 (Rdr w w3 w1.heap.size 118 most [] true v') := ⟨by have := HR.out; rw [ho, hw] at this; exact this⟩
    have HEE := Aside0.mk he
    clear he ho hw HR OF
    go_wp2_with fail
    obtain ⟨Av, cv, ev⟩ := Kd.R_slice HR'.out.2.1
    subst ev
    go_loopg [10] (l.length + 1) (fun kq v10 w' => ∃ (i : Nat), v10 = .int .i64 (i : Int) ∧ Aside0 (i ≤ l.length) ∧ Aside0 (kq = l.length + 1 - i) ∧ Aside0 (Rdr w w' w1.heap.size 118 most [] true (.slice Av 0 cv)))
    case atStart => exact ⟨0, rfl, ⟨Nat.zero_le _⟩, ⟨rfl⟩, HR'⟩
    case round =>
      obtain ⟨i, rfl, hi, hkq, hr1⟩ := hrel
      have OF := Aside0.mk (off_calls wr _ _ _ _ hr1.out.1)
      have WT := Aside0.mk (waiting_calls wr _ _ _ _ _ _ hr1.out.1)
      by_cases c1 : i < l.length
      · have d2 : decide ((i : Int) < (l.length : Int)) = true := decide_eq_true (by omega)
        have e0 : 0 ≤ (i : Int) := by omega
        have e4 : (i : Int) < (l.length : Int) := by omega
        obtain ⟨ad, A0, c0, eA, hx, hl0, hC0⟩ := at_L1 HC.out (i : Int) e0 e4
        subst eA
        have hx1 := (hr1.out.2.2.1.cell (World.block_lt_of_cell? w _ hx)).trans hx
        rw [Int.toNat_natCast] at hx1
        have ST := Aside0.mk (feed_still wr _ _ _ hr1.out.1 (.slice A0 (rd_L1 l (i : Int)).length c0))
        clear hx hl0 hC0 c1
        go_wp2_with fail
        refine ST.out.mono ?_
        rintro e w5 ⟨rfl, rfl⟩
        go_wp2_with fail
        refine OF.out.mono ?_
        rintro e w5 ⟨rfl, rfl⟩
        go_wp2_with fail
        refine WT.out.mono ?_
        rintro e w5 ⟨rfl, rfl⟩
        go_wp2_with fail
        go_roundg (l.length + 1 - (i + 1))
        case measure => have := hkq.out; omega
        case rel => exact ⟨i + 1, by first | (simp [wrap64, w64]; done) | (simp [wrap64, w64]; omega), ⟨by omega⟩, ⟨rfl⟩, hr1⟩
      · have hie : i = l.length := by have := hi.out; omega
        subst hie
        have d2 : decide ((l.length : Int) < (l.length : Int)) = false := decide_eq_false (by omega)
        rcases HEE.out with he | he
        · have b4 : (D.2.1 == 4) = true := by rw [he]; rfl
          clear he
          go_wp2_with fail
          refine OF.out.mono ?_
          rintro e w5 ⟨rfl, rfl⟩
          go_wp2_with fail
          refine (a4_awake _).mono ?_
          rintro e w7 ⟨rfl, hb7⟩
          have HB7 := Aside0.mk (below_step hr1.out.2.2.1 hb7)
          clear hb7
          go_wp2_with fail
          go_ret
          exact ⟨rfl, HB7.out⟩
        · have b4 : (D.2.1 == 4) = false := by rw [he]; rfl
          have b2 : (D.2.1 == 2) = true := by rw [he]; rfl
          clear he
          go_wp2_with fail
          refine OF.out.mono ?_
          rintro e w5 ⟨rfl, rfl⟩
          go_wp2_with fail
          refine (a4_awake _).mono ?_
          rintro e w7 ⟨rfl, hb7⟩
          have HB7 := Aside0.mk (below_step hr1.out.2.2.1 hb7)
          clear hb7
          go_wp2_with fail
          go_ret
          exact ⟨rfl, HB7.out⟩
def turncocklaw4_ReasmOff.f (k : Nat) (a0 : Int) (l1 : List Int) (l2 : List (List Int)) : Option Bool :=
  if Bytes l1 ∧ l2.length * 24 ≤ 140737488351232 then some true else none
theorem turncocklaw4_ReasmOff.calls (k : Nat) (a0 : Int) (A1 : Option Addr) (c1 : Nat) (l1 : List Int) (A2 : Option Addr) (c2 : Nat) (l2 : List (List Int)) (r : Bool) (w : World) (hr1 : Kd.C (Kd.int .u8) w A1 l1.length l1) (hc1 : l1.length ≤ c1) (hr2 : Kd.C (Kd.slice 5 (Kd.int .u8)) w A2 l2.length l2) (hc2 : l2.length ≤ c2) (h : turncocklaw4_ReasmOff.f k a0 l1 l2 = some r) :
    Calls Try.prog 13 #[.int .i64 a0, .slice A1 l1.length c1, .slice A2 l2.length c2] w fun e w' => e = .returned (.bool r) ∧ Below w.heap.size w w' := by
  unfold turncocklaw4_ReasmOff.f at h
  split at h
  · rename_i hh
    obtain rfl := Option.some.inj h
    by_cases c : 3000 < l1.length
    · exact roff_long a0 A1 c1 l1 _ w c hr1.2.1
    · obtain ⟨v, hk, _, _⟩ := weight_f l2 hh.2
      have hK := hk (l2.length + 1) (Nat.le_refl _)
      by_cases c3 : 3000 < v
      · exact roff_heavy a0 A1 c1 l1 A2 c2 l2 w (by omega) hr2 hc2 _ v hK c3
      · exact roff_main a0 A1 c1 l1 A2 c2 l2 w hr1 hc1 hh.1 (by omega) hr2 hc2 _ v hK c3 (by omega)
  · cases h
end Go.Proofs.Ytnhblhhkjnmkkaa.Q
