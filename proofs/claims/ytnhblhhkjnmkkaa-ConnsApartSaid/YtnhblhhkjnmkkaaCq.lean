/- The walk of ConnsApart: what comes on one connection tells the same, whatever comes on others in between. -/
import Derived.Test.YtnhblhhkjnmkkaaCm
namespace Go.Proofs.Ytnhblhhkjnmkkaa.Q
open Go.RowKit Go.Proofs.YtnhblhhkjnmkkaaW.PrintWords Go.Proofs.YtnhblhhkjnmkkaaW.PrintLast Go.Proofs.YtnhblhhkjnmkkaaW.PrintMore
open Go.Proofs.Ytnhblhhkjnmkkaa.Sp Go.Proofs.Ytnhblhhkjnmkkaa.Va Go.Proofs.Ytnhblhhkjnmkkaa.Fr
set_option linter.unusedVariables false
set_option linter.unusedSimpArgs false
/-- What steps at other numbers leave of slot 0. -/
theorem set_zero {α : Type} (S : List α) (i : Nat) (x : α) (h : 1 ≤ i) : (S.set i x)[0]? = S[0]? := by
  rw [List.getElem?_set, if_neg (by omega)]
theorem openS_zero (S : List (Option (List Int × Bool))) (id : Int) (h : 1 ≤ id) : (openS S id).2[0]? = S[0]? := by
  unfold openS
  split
  all_goals first | rfl | exact set_zero S _ _ (by omega)
theorem closeS_zero (S : List (Option (List Int × Bool))) (id : Int) (h : 1 ≤ id) : (closeS S id).2[0]? = S[0]? := by
  unfold closeS
  split
  all_goals first | rfl | exact set_zero S _ _ (by omega)
theorem feedS_zero (m : Nat) (S : List (Option (List Int × Bool))) (id : Int) (b : List Int) (h : 1 ≤ id) : (feedS m S id b).2.2[0]? = S[0]? := by
  unfold feedS
  split
  all_goals first | rfl | exact set_zero S _ _ (by omega)
/-- Feeding connection 0: both tables tell the same, if their slots 0 are alike. -/
theorem feedS_at0 (m : Nat) (S : List (Option (List Int × Bool))) (b : List Int) (y : List Int × Bool) (h : S[0]? = some (some y)) :
    feedS m S 0 b = ((feedv m y.1 y.2 b).1, (feedv m y.1 y.2 b).2.1, S.set 0 (some ((feedv m y.1 y.2 b).2.2.1, (feedv m y.1 y.2 b).2.2.2))) := feedS_yes m S 0 b y.1 y.2 h
/-- What the law keeps, from round to round. -/
def Apart (S S2 : List (Option (List Int × Bool))) (k k2 : Nat) : Prop := SB S k ∧ SB S2 k2 ∧ S.length = 4 ∧ S2.length = 4 ∧ ∃ y, S[0]? = some (some y) ∧ S2[0]? = some (some y)
theorem Apart.open_ {S S2 : List (Option (List Int × Bool))} {k k2 : Nat} (h : Apart S S2 k k2) (id : Int) (hi : 1 ≤ id) : Apart S (openS S2 id).2 k k2 := by
  obtain ⟨h1, h2, h3, h4, y, h5, h6⟩ := h
  exact ⟨h1, h2.open_ id, h3, by rw [openS_len]; exact h4, y, h5, by rw [openS_zero S2 id hi]; exact h6⟩
theorem Apart.close_ {S S2 : List (Option (List Int × Bool))} {k k2 : Nat} (h : Apart S S2 k k2) (id : Int) (hi : 1 ≤ id) : Apart S (closeS S2 id).2 k k2 := by
  obtain ⟨h1, h2, h3, h4, y, h5, h6⟩ := h
  exact ⟨h1, h2.close_ id, h3, by rw [closeS_len]; exact h4, y, h5, by rw [closeS_zero S2 id hi]; exact h6⟩
theorem Apart.feed_ {S S2 : List (Option (List Int × Bool))} {k k2 : Nat} (h : Apart S S2 k k2) (m : Nat) (id : Int) (b : List Int) (hb : Bytes b) (hi : 1 ≤ id) : Apart S (feedS m S2 id b).2.2 k (k2 + b.length) := by
  obtain ⟨h1, h2, h3, h4, y, h5, h6⟩ := h
  exact ⟨h1, h2.feed_ m id b hb, h3, by rw [feedS_len]; exact h4, y, h5, by rw [feedS_zero m S2 id b hi]; exact h6⟩
theorem Apart.both {S S2 : List (Option (List Int × Bool))} {k k2 : Nat} (h : Apart S S2 k k2) (m : Nat) (b : List Int) (hb : Bytes b) : ∃ (rows : List (List Int)) (err : Int) (S' S2' : List (Option (List Int × Bool))), feedS m S 0 b = (rows, err, S') ∧ feedS m S2 0 b = (rows, err, S2') ∧ Apart S' S2' (k + b.length) (k2 + b.length) := by
  obtain ⟨h1, h2, h3, h4, y, h5, h6⟩ := h
  have f1 := h1.feed_ m 0 b hb
  have f2 := h2.feed_ m 0 b hb
  have l1 := feedS_len m S 0 b
  have l2 := feedS_len m S2 0 b
  have e1 := feedS_at0 m S b y h5
  have e2 := feedS_at0 m S2 b y h6
  rw [e1] at f1 l1
  rw [e2] at f2 l2
  exact ⟨_, _, _, _, e1, e2, f1, f2, l1.trans h3, l2.trans h4, ((feedv m y.1 y.2 b).2.2.1, (feedv m y.1 y.2 b).2.2.2), (by rw [List.getElem?_set, if_pos rfl, if_pos (by omega)]), (by rw [List.getElem?_set, if_pos rfl, if_pos (by omega)])⟩
set_option maxHeartbeats 4000000 in
set_option maxRecDepth 100000 in
theorem apart_heavy (A : Option Addr) (c : Nat) (l : List S67) (B : Option Addr) (d : Nat) (m : List S67) (w : World) (hC : Kd.C k67 w A l.length l) (hc : l.length ≤ c) (hr : turncocklaw32_light.f (l.length + 1) l = some false) :
    Calls Try.prog 15 #[.slice A l.length c, .slice B m.length d] w fun e w' => e = .returned (.bool true) ∧ Below w.heap.size w w' := by
  have HW := Aside0.mk (turncocklaw32_light.calls (l.length + 1) A c l false w hC hc hr)
  clear hC hr
  go_enter Try.func15, Try.ntmps15
  go_wp2_with fail
  refine HW.out.mono ?_
  rintro e w1 ⟨rfl, hb1⟩
  have HB1 := Aside0.mk hb1
  clear hb1
  go_wp2_with fail
  refine (c_awake _).mono ?_
  rintro e w2 ⟨rfl, hb2⟩
  have HB2 := Aside0.mk (below_step HB1.out hb2)
  clear hb2
  go_wp2_with fail
  go_ret
  exact ⟨rfl, HB2.out⟩
set_option maxHeartbeats 4000000 in
set_option maxRecDepth 100000 in
theorem apart_heavy2 (A : Option Addr) (c : Nat) (l : List S67) (B : Option Addr) (d : Nat) (m : List S67) (w : World) (hC : Kd.C k67 w A l.length l) (hc : l.length ≤ c) (hr : turncocklaw32_light.f (l.length + 1) l = some true) (hD : Kd.C k67 w B m.length m) (hd : m.length ≤ d) (hr2 : turncocklaw32_light.f (m.length + 1) m = some false) :
    Calls Try.prog 15 #[.slice A l.length c, .slice B m.length d] w fun e w' => e = .returned (.bool true) ∧ Below w.heap.size w w' := by
  have HW := Aside0.mk (turncocklaw32_light.calls (l.length + 1) A c l true w hC hc hr)
  have HD := Aside0.mk hD
  clear hC hr hD
  go_enter Try.func15, Try.ntmps15
  go_wp2_with fail
  refine HW.out.mono ?_
  rintro e w1 ⟨rfl, hb1⟩
  have HB1 := Aside0.mk hb1
  have HW2 := Aside0.mk (turncocklaw32_light.calls (m.length + 1) B d m false w1 (Kd.C_below HD.out hb1) hd hr2)
  clear hb1 hr2
  go_wp2_with fail
  refine HW2.out.mono ?_
  rintro e w2 ⟨rfl, hb2⟩
  have HB2 := Aside0.mk (below_step HB1.out hb2)
  clear hb2
  go_wp2_with fail
  refine (c_awake _).mono ?_
  rintro e w3 ⟨rfl, hb3⟩
  have HB3 := Aside0.mk (below_step HB2.out hb3)
  clear hb3
  go_wp2_with fail
  go_ret
  exact ⟨rfl, HB3.out⟩
set_option maxHeartbeats 8000000 in
set_option maxRecDepth 100000 in
theorem apart_main (A : Option Addr) (c : Nat) (l : List S67) (B : Option Addr) (d : Nat) (m : List S67) (w : World) (hC : Kd.C k67 w A l.length l) (hc : l.length ≤ c) (hr : turncocklaw32_light.f (l.length + 1) l = some true) (hD : Kd.C k67 w B m.length m) (hd : m.length ≤ d) (hr2 : turncocklaw32_light.f (m.length + 1) m = some true) (hB : ∀ x ∈ l, Bytes x.f2) (hL : l.length ≤ 5000) (hT : totA l ≤ 5000) (hB2 : ∀ x ∈ m, Bytes x.f2) (hL2 : m.length ≤ 5000) (hT2 : totA m ≤ 5000) :
    Calls Try.prog 15 #[.slice A l.length c, .slice B m.length d] w fun e w' => e = .returned (.bool true) ∧ Below w.heap.size w w' := by
  have HW := Aside0.mk (turncocklaw32_light.calls (l.length + 1) A c l true w hC hc hr)
  have HC := Aside0.mk hC
  have HD := Aside0.mk hD
  have HBY := Aside0.mk (And.intro hB hB2)
  have HT := Aside0.mk (And.intro hT hT2)
  clear hC hr hD hB hB2 hT hT2
  go_enter Try.func15, Try.ntmps15
  go_wp2_with fail
  refine HW.out.mono ?_
  rintro e w1 ⟨rfl, hb1⟩
  have HB1 := Aside0.mk hb1
  have HW2 := Aside0.mk (turncocklaw32_light.calls (m.length + 1) B d m true w1 (Kd.C_below HD.out hb1) hd hr2)
  clear hb1 hr2
  go_wp2_with fail
  refine HW2.out.mono ?_
  rintro e w2 ⟨rfl, hb2⟩
  have HB2 := Aside0.mk (below_step HB1.out hb2)
  clear hb2 HW HW2 HB1
  go_wp2_with fail
  refine (cnew_ok 4 300 w2 (by decide) (by decide) (by decide) (by decide)).mono ?_
  rintro e w3 ⟨rfl, hw3⟩
  have ht3 := tab_new w w2 HB2.out 4 300 121 45 118
  rw [hw3] at ht3
  obtain ⟨g, hg⟩ : ∃ g, g = w2.heap.size + 1 := ⟨_, rfl⟩
  obtain ⟨p, hp⟩ : ∃ p, p = w2.heap.size := ⟨_, rfl⟩
  rw [← hg, ← hp] at ht3
  rw [← hg]
  have H3 := Aside0.mk ht3
  clear ht3 hw3 hg hp
  go_wp2_with fail
  refine (cnew_ok 4 300 w3 (by decide) (by decide) (by decide) (by decide)).mono ?_
  rintro e w4 ⟨rfl, hw4⟩
  have ht4 := tab_new w w3 H3.out.2.2.2.2.1 4 300 121 45 118
  have hbw4 : Below w3.heap.size w3 w4 := by rw [← hw4]; exact below_alloc (below_alloc (Below.refl _ _) _) _
  rw [hw4] at ht4
  have hno : ∀ (k : Nat), foot g p (List.replicate 4 none) k → ¬ foot (w3.heap.size + 1) w3.heap.size (List.replicate 4 none) k := by
    intro k hk
    have hlt := H3.out.lt hk
    rintro (rfl | rfl | ⟨i, x, hx, _⟩)
    · omega
    · omega
    · rw [List.getElem?_replicate] at hx
      split at hx <;> cases hx
  obtain ⟨g2, hg2⟩ : ∃ g2, g2 = w3.heap.size + 1 := ⟨_, rfl⟩
  obtain ⟨p2, hp2⟩ : ∃ p2, p2 = w3.heap.size := ⟨_, rfl⟩
  rw [← hg2, ← hp2] at ht4 hno
  rw [← hg2]
  have H4 := Aside0.mk (show Two w w4 g p 121 45 118 g2 p2 121 45 118 300 [none, none, none, none] [none, none, none, none] (List.replicate 4 none) (List.replicate 4 none) from ⟨H3.out.more hbw4, ht4, rfl, rfl, hno⟩)
  clear ht4 hw4 hno hg2 hp2 hbw4 H3 HB2
  go_wp2_with fail
  refine (to_open w w4 _ _ 300 _ H4.out.1 _ H4.out.2.2.1 (by decide) 0 true [some ([], false), none, none, none] (by decide +kernel)).mono ?_
  rintro e w5 ⟨rfl, ps5, ht5⟩
  have H5 := Aside0.mk (H4.out.left ht5)
  clear ht5 H4
  go_wp2_with fail
  refine (to_open w w5 _ _ 300 _ H5.out.2.1 _ H5.out.2.2.2.1 (by decide) 0 true [some ([], false), none, none, none] (by decide +kernel)).mono ?_
  rintro e w6 ⟨rfl, ps6, ht6⟩
  have H6 := Aside0.mk (H5.out.right ht6)
  clear ht6 H5
  have HAP := Aside0.mk (show Apart [some (([] : List Int), false), none, none, none] [some (([] : List Int), false), none, none, none] 0 0 from by
    have h : SB [some (([] : List Int), false), none, none, none] 0 := ⟨fun i y hy => by rcases i with _ | _ | _ | _ | i <;> simp at hy; subst hy; exact Bytes.nil, by decide⟩
    exact ⟨h, h, rfl, rfl, _, rfl, rfl⟩)
  go_wp2_with fail
  go_loopg [9] (l.length + 1) (fun kq v7 w' => ∃ (i k k2 : Nat) (S S2 : List (Option (List Int × Bool))) (ps qs : List (Option (Nat × Value × List Int × Bool))), v7 = .int .i64 (i : Int) ∧ Aside0 (i ≤ l.length) ∧ Aside0 (kq = l.length + 1 - i) ∧ Aside0 (Two w w' g p 121 45 118 g2 p2 121 45 118 300 S S2 ps qs) ∧ Aside0 (Apart S S2 k k2) ∧ Aside0 (k + totA (l.drop i) ≤ 5000 ∧ k2 + totA (l.drop i) + totA (m.drop i) ≤ 10000))
  case atStart => exact ⟨0, 0, 0, _, _, _, _, rfl, ⟨Nat.zero_le _⟩, ⟨rfl⟩, ⟨H6.out⟩, ⟨HAP.out⟩, ⟨by have := HT.out; simpa using this.1, by have := HT.out; simp only [List.drop_zero]; omega⟩⟩
  case round =>
    obtain ⟨i, k, k2, S, S2, ps, qs, rfl, hi, hkq, hT, hAP, hK⟩ := hrel
    by_cases c1 : i < l.length
    · have d5 : decide ((i : Int) < (l.length : Int)) = true := decide_eq_true (by omega)
      have e0 : 0 ≤ (i : Int) := by omega
      have e4 : (i : Int) < (l.length : Int) := by omega
      obtain ⟨ad, A0, c0, eA, hx0, hx1, hx2, hl0, hC0⟩ := at_T67 HC.out (i : Int) e0 e4
      subst eA
      obtain ⟨x, hx⟩ : ∃ x, x = rd_T67 l (i : Int) := ⟨_, rfl⟩
      rw [← hx] at hx2 hl0 hC0
      have HX0 := Aside0.mk (And.intro hx2 (And.intro hC0 (And.intro hl0 hx)))
      have HTD := Aside0.mk (show x.f2.length + totA (l.drop (i + 1)) = totA (l.drop i) by rw [drop_T67 l i (by omega), totA_cons, hx])
      have HBX := Aside0.mk (show Bytes x.f2 by rw [hx]; exact HBY.out.1 _ (mem_T67 l i (by omega)))
      have HID := Aside0.mk (show 1 ≤ 1 + (i : Int) % 3 by omega)
      clear hx0 hx1 hx2 hC0 hl0 hx
      by_cases c2 : i < m.length
      · have d6 : decide ((i : Int) < (m.length : Int)) = true := decide_eq_true (by omega)
        have e6 : (i : Int) < (m.length : Int) := by omega
        obtain ⟨bd, B0, c1', eB, hy0, hy1, hy2, hl1, hC1⟩ := at_T67 HD.out (i : Int) e0 e6
        subst eB
        have hbw := hT.out.below
        replace hy0 := (hbw.cell (World.block_lt_of_cell? w _ hy0)).trans hy0
        replace hy2 := (hbw.cell (World.block_lt_of_cell? w _ hy2)).trans hy2
        replace hC1 := Kd.C_below hC1 hbw
        obtain ⟨y, hy⟩ : ∃ y, y = rd_T67 m (i : Int) := ⟨_, rfl⟩
        rw [← hy] at hy0 hy2 hl1 hC1
        rw [Int.toNat_natCast] at hy0 hy2
        have HY := Aside0.mk (And.intro hy (And.intro hl1 hC1))
        have HMD := Aside0.mk (show y.f2.length + totA (m.drop (i + 1)) = totA (m.drop i) by rw [drop_T67 m i (by omega), totA_cons, hy])
        have HBM := Aside0.mk (show Bytes y.f2 by rw [hy]; exact HBY.out.2 _ (mem_T67 m i (by omega)))
        have HS2 := Aside0.mk (show S2.length ≤ 1000 by have := hAP.out.2.2.2.1; omega)
        clear hy1 hl1 hC1 hbw hy c1 c2
        by_cases k0 : y.f0 = 0
        · have d7 : (y.f0 == 0) = true := by simp [k0]
          clear k0
          go_wp2_with fail
          refine (to_open w wr _ _ 300 _ hT.out.2.1 S2 hT.out.2.2.2.1 HS2.out (1 + (i : Int) % 3) _ _ rfl).mono ?_
          rintro e w4 ⟨rfl, ps4, ht4⟩
          have T4 := Aside0.mk (hT.out.right ht4)
          have AP4 := Aside0.mk (hAP.out.open_ _ HID.out)
          clear ht4
          obtain ⟨rows, err, S', S2', he1, he2, hap⟩ := AP4.out.both (lim 300) x.f2 HBX.out
          have HE := Aside0.mk (And.intro he1 (And.intro he2 hap))
          have HS1 := Aside0.mk (show S.length ≤ 1000 by have := hAP.out.2.2.1; omega)
          have hz2 := (T4.out.below.cell (World.block_lt_of_cell? w _ HX0.out.1)).trans HX0.out.1
          rw [Int.toNat_natCast] at hz2
          have HN := Aside0.mk (show k + x.f2.length ≤ 1000000 ∧ k2 + x.f2.length ≤ 1000000 by have := hK.out; have := HTD.out; have := HMD.out; omega)
          have HRL := Aside0.mk (show rows.length ≤ 1000000000 by have h := feedS_rows (lim 300) S k hAP.out.1 0 x.f2 HBX.out HN.out.1; rw [he1] at h; exact h)
          clear he1 he2 hap
          go_wp2_with fail
          refine (to_feed w w4 _ _ 300 _ T4.out.1 S T4.out.2.2.1 HS1.out k hAP.out.1 0 A0 c0 x.f2 (Kd.C_below HX0.out.2.1 T4.out.below) HX0.out.2.2.1 HBX.out HN.out.1 rows err S' HE.out.1).mono ?_
          rintro e w5 ⟨A5, c5, ps5, rfl, hs5, ht5⟩
          have HQL := Aside0.mk (fun (k : Nat) (hk : foot g2 p2 _ k) => T4.out.2.1.lt hk)
          have T5 := Aside0.mk (T4.out.left ht5)
          have HS5 := Aside0.mk hs5
          have hz5 := (T5.out.below.cell (World.block_lt_of_cell? w _ HX0.out.1)).trans HX0.out.1
          rw [Int.toNat_natCast] at hz5
          clear hs5 ht5 hz2
          go_wp2_with fail
          refine (to_feed w w5 _ _ 300 _ T5.out.2.1 _ T5.out.2.2.2.1 (Nat.le_trans (Nat.le_of_eq AP4.out.2.2.2.1) (by decide)) k2 AP4.out.2.1 0 A0 c0 x.f2 (Kd.C_below HX0.out.2.1 T5.out.below) HX0.out.2.2.1 HBX.out HN.out.2 rows err S2' HE.out.2.1).mono ?_
          rintro e w6 ⟨A6, c6, qs6, rfl, hs6, ht6⟩
          have hs56 := rows_beside (W := w) HS5.out HQL.out ht6
          have T6 := Aside0.mk (T5.out.right ht6)
          have hr5 := Kd.S_reads' hs56
          have hr6 := Kd.S_reads' hs6
          have HRO := Aside0.mk (turncockref1_Rows.calls (rows.length + 1) A5 c5 rows A6 c6 rows true w6 hr5.2.2 hr5.2.1 hr6.2.2 hr6.2.1 (rows_self rows HRL.out _ (Nat.le_refl _)))
          have hee : (err == err) = true := beq_self_eq_true err
          clear hs6 ht6 hs56 hr5 hr6 hz5
          go_wp2_with fail
          refine HRO.out.mono ?_
          rintro e w7 ⟨rfl, hd7⟩
          have T7 := Aside0.mk (T6.out.more hd7.below)
          clear hd7
          go_wp2_with fail
          go_roundg (l.length + 1 - (i + 1))
          case measure => have := hkq.out; have := hi.out; omega
          case rel => exact ⟨i + 1, _, _, _, _, _, _, by first | (simp [wrap64, w64]; done) | (simp [wrap64, w64]; omega), ⟨by omega⟩, ⟨rfl⟩, ⟨T7.out⟩, ⟨HE.out.2.2⟩, ⟨by have := hK.out; have := HTD.out; have := HMD.out; omega⟩⟩
        · have d7 : (y.f0 == 0) = false := by simp [k0]
          clear k0
          by_cases k1 : y.f0 = 1
          · have d8 : (y.f0 == 1) = true := by simp [k1]
            clear k1
            go_wp2_with fail
            refine (to_close w wr _ _ 300 _ hT.out.2.1 S2 hT.out.2.2.2.1 HS2.out (1 + (i : Int) % 3) _ _ rfl).mono ?_
            rintro e w4 ⟨rfl, ps4, ht4⟩
            have T4 := Aside0.mk (hT.out.right ht4)
            have AP4 := Aside0.mk (hAP.out.close_ _ HID.out)
            clear ht4
            obtain ⟨rows, err, S', S2', he1, he2, hap⟩ := AP4.out.both (lim 300) x.f2 HBX.out
            have HE := Aside0.mk (And.intro he1 (And.intro he2 hap))
            have HS1 := Aside0.mk (show S.length ≤ 1000 by have := hAP.out.2.2.1; omega)
            have hz2 := (T4.out.below.cell (World.block_lt_of_cell? w _ HX0.out.1)).trans HX0.out.1
            rw [Int.toNat_natCast] at hz2
            have HN := Aside0.mk (show k + x.f2.length ≤ 1000000 ∧ k2 + x.f2.length ≤ 1000000 by have := hK.out; have := HTD.out; have := HMD.out; omega)
            have HRL := Aside0.mk (show rows.length ≤ 1000000000 by have h := feedS_rows (lim 300) S k hAP.out.1 0 x.f2 HBX.out HN.out.1; rw [he1] at h; exact h)
            clear he1 he2 hap
            go_wp2_with fail
            refine (to_feed w w4 _ _ 300 _ T4.out.1 S T4.out.2.2.1 HS1.out k hAP.out.1 0 A0 c0 x.f2 (Kd.C_below HX0.out.2.1 T4.out.below) HX0.out.2.2.1 HBX.out HN.out.1 rows err S' HE.out.1).mono ?_
            rintro e w5 ⟨A5, c5, ps5, rfl, hs5, ht5⟩
            have HQL := Aside0.mk (fun (k : Nat) (hk : foot g2 p2 _ k) => T4.out.2.1.lt hk)
            have T5 := Aside0.mk (T4.out.left ht5)
            have HS5 := Aside0.mk hs5
            have hz5 := (T5.out.below.cell (World.block_lt_of_cell? w _ HX0.out.1)).trans HX0.out.1
            rw [Int.toNat_natCast] at hz5
            clear hs5 ht5 hz2
            go_wp2_with fail
            refine (to_feed w w5 _ _ 300 _ T5.out.2.1 _ T5.out.2.2.2.1 (Nat.le_trans (Nat.le_of_eq AP4.out.2.2.2.1) (by decide)) k2 AP4.out.2.1 0 A0 c0 x.f2 (Kd.C_below HX0.out.2.1 T5.out.below) HX0.out.2.2.1 HBX.out HN.out.2 rows err S2' HE.out.2.1).mono ?_
            rintro e w6 ⟨A6, c6, qs6, rfl, hs6, ht6⟩
            have hs56 := rows_beside (W := w) HS5.out HQL.out ht6
            have T6 := Aside0.mk (T5.out.right ht6)
            have hr5 := Kd.S_reads' hs56
            have hr6 := Kd.S_reads' hs6
            have HRO := Aside0.mk (turncockref1_Rows.calls (rows.length + 1) A5 c5 rows A6 c6 rows true w6 hr5.2.2 hr5.2.1 hr6.2.2 hr6.2.1 (rows_self rows HRL.out _ (Nat.le_refl _)))
            have hee : (err == err) = true := beq_self_eq_true err
            clear hs6 ht6 hs56 hr5 hr6 hz5
            go_wp2_with fail
            refine HRO.out.mono ?_
            rintro e w7 ⟨rfl, hd7⟩
            have T7 := Aside0.mk (T6.out.more hd7.below)
            clear hd7
            go_wp2_with fail
            go_roundg (l.length + 1 - (i + 1))
            case measure => have := hkq.out; have := hi.out; omega
            case rel => exact ⟨i + 1, _, _, _, _, _, _, by first | (simp [wrap64, w64]; done) | (simp [wrap64, w64]; omega), ⟨by omega⟩, ⟨rfl⟩, ⟨T7.out⟩, ⟨HE.out.2.2⟩, ⟨by have := hK.out; have := HTD.out; have := HMD.out; omega⟩⟩
          · have d8 : (y.f0 == 1) = false := by simp [k1]
            clear k1
            obtain ⟨rw3, er3, S3, he3⟩ : ∃ a b c, feedS (lim 300) S2 (1 + (i : Int) % 3) y.f2 = (a, b, c) := ⟨_, _, _, rfl⟩
            have hap3 := hAP.out.feed_ (lim 300) (1 + (i : Int) % 3) y.f2 HBM.out HID.out
            rw [he3] at hap3
            have HE3 := Aside0.mk (And.intro he3 hap3)
            clear he3 hap3
            go_wp2_with fail
            refine (to_feed w wr _ _ 300 _ hT.out.2.1 S2 hT.out.2.2.2.1 HS2.out k2 hAP.out.2.1 (1 + (i : Int) % 3) B0 c1' y.f2 HY.out.2.2 HY.out.2.1 HBM.out (by have := hK.out; have := HTD.out; have := HMD.out; omega) _ _ _ HE3.out.1).mono ?_
            rintro e w4 ⟨A4, c4, ps4, rfl, _, ht4⟩
            have T4 := Aside0.mk (hT.out.right ht4)
            have AP4 := Aside0.mk (HE3.out.2)
            clear ht4
            obtain ⟨rows, err, S', S2', he1, he2, hap⟩ := AP4.out.both (lim 300) x.f2 HBX.out
            have HE := Aside0.mk (And.intro he1 (And.intro he2 hap))
            have HS1 := Aside0.mk (show S.length ≤ 1000 by have := hAP.out.2.2.1; omega)
            have hz2 := (T4.out.below.cell (World.block_lt_of_cell? w _ HX0.out.1)).trans HX0.out.1
            rw [Int.toNat_natCast] at hz2
            have HN := Aside0.mk (show k + x.f2.length ≤ 1000000 ∧ (k2 + y.f2.length) + x.f2.length ≤ 1000000 by have := hK.out; have := HTD.out; have := HMD.out; omega)
            have HRL := Aside0.mk (show rows.length ≤ 1000000000 by have h := feedS_rows (lim 300) S k hAP.out.1 0 x.f2 HBX.out HN.out.1; rw [he1] at h; exact h)
            clear he1 he2 hap
            go_wp2_with fail
            refine (to_feed w w4 _ _ 300 _ T4.out.1 S T4.out.2.2.1 HS1.out k hAP.out.1 0 A0 c0 x.f2 (Kd.C_below HX0.out.2.1 T4.out.below) HX0.out.2.2.1 HBX.out HN.out.1 rows err S' HE.out.1).mono ?_
            rintro e w5 ⟨A5, c5, ps5, rfl, hs5, ht5⟩
            have HQL := Aside0.mk (fun (k : Nat) (hk : foot g2 p2 _ k) => T4.out.2.1.lt hk)
            have T5 := Aside0.mk (T4.out.left ht5)
            have HS5 := Aside0.mk hs5
            have hz5 := (T5.out.below.cell (World.block_lt_of_cell? w _ HX0.out.1)).trans HX0.out.1
            rw [Int.toNat_natCast] at hz5
            clear hs5 ht5 hz2
            go_wp2_with fail
            refine (to_feed w w5 _ _ 300 _ T5.out.2.1 _ T5.out.2.2.2.1 (Nat.le_trans (Nat.le_of_eq AP4.out.2.2.2.1) (by decide)) (k2 + y.f2.length) AP4.out.2.1 0 A0 c0 x.f2 (Kd.C_below HX0.out.2.1 T5.out.below) HX0.out.2.2.1 HBX.out HN.out.2 rows err S2' HE.out.2.1).mono ?_
            rintro e w6 ⟨A6, c6, qs6, rfl, hs6, ht6⟩
            have hs56 := rows_beside (W := w) HS5.out HQL.out ht6
            have T6 := Aside0.mk (T5.out.right ht6)
            have hr5 := Kd.S_reads' hs56
            have hr6 := Kd.S_reads' hs6
            have HRO := Aside0.mk (turncockref1_Rows.calls (rows.length + 1) A5 c5 rows A6 c6 rows true w6 hr5.2.2 hr5.2.1 hr6.2.2 hr6.2.1 (rows_self rows HRL.out _ (Nat.le_refl _)))
            have hee : (err == err) = true := beq_self_eq_true err
            clear hs6 ht6 hs56 hr5 hr6 hz5
            go_wp2_with fail
            refine HRO.out.mono ?_
            rintro e w7 ⟨rfl, hd7⟩
            have T7 := Aside0.mk (T6.out.more hd7.below)
            clear hd7
            go_wp2_with fail
            go_roundg (l.length + 1 - (i + 1))
            case measure => have := hkq.out; have := hi.out; omega
            case rel => exact ⟨i + 1, _, _, _, _, _, _, by first | (simp [wrap64, w64]; done) | (simp [wrap64, w64]; omega), ⟨by omega⟩, ⟨rfl⟩, ⟨T7.out⟩, ⟨HE.out.2.2⟩, ⟨by have := hK.out; have := HTD.out; have := HMD.out; omega⟩⟩
      · have d6 : decide ((i : Int) < (m.length : Int)) = false := decide_eq_false (by omega)
        have HMD := Aside0.mk (show totA (m.drop (i + 1)) ≤ totA (m.drop i) by rw [List.drop_eq_nil_of_le (by omega), List.drop_eq_nil_of_le (by omega)]; exact Nat.le_refl _)
        clear c1
        obtain ⟨rows, err, S', S2', he1, he2, hap⟩ := hAP.out.both (lim 300) x.f2 HBX.out
        have HE := Aside0.mk (And.intro he1 (And.intro he2 hap))
        have HS1 := Aside0.mk (show S.length ≤ 1000 by have := hAP.out.2.2.1; omega)
        have hz2 := (hT.out.below.cell (World.block_lt_of_cell? w _ HX0.out.1)).trans HX0.out.1
        rw [Int.toNat_natCast] at hz2
        have HN := Aside0.mk (show k + x.f2.length ≤ 1000000 ∧ k2 + x.f2.length ≤ 1000000 by have := hK.out; have := HTD.out; have := HMD.out; omega)
        have HRL := Aside0.mk (show rows.length ≤ 1000000000 by have h := feedS_rows (lim 300) S k hAP.out.1 0 x.f2 HBX.out HN.out.1; rw [he1] at h; exact h)
        clear he1 he2 hap
        go_wp2_with fail
        refine (to_feed w wr _ _ 300 _ hT.out.1 S hT.out.2.2.1 HS1.out k hAP.out.1 0 A0 c0 x.f2 (Kd.C_below HX0.out.2.1 hT.out.below) HX0.out.2.2.1 HBX.out HN.out.1 rows err S' HE.out.1).mono ?_
        rintro e w5 ⟨A5, c5, ps5, rfl, hs5, ht5⟩
        have HQL := Aside0.mk (fun (k : Nat) (hk : foot g2 p2 _ k) => hT.out.2.1.lt hk)
        have T5 := Aside0.mk (hT.out.left ht5)
        have HS5 := Aside0.mk hs5
        have hz5 := (T5.out.below.cell (World.block_lt_of_cell? w _ HX0.out.1)).trans HX0.out.1
        rw [Int.toNat_natCast] at hz5
        clear hs5 ht5 hz2
        go_wp2_with fail
        refine (to_feed w w5 _ _ 300 _ T5.out.2.1 _ T5.out.2.2.2.1 (Nat.le_trans (Nat.le_of_eq hAP.out.2.2.2.1) (by decide)) k2 hAP.out.2.1 0 A0 c0 x.f2 (Kd.C_below HX0.out.2.1 T5.out.below) HX0.out.2.2.1 HBX.out HN.out.2 rows err S2' HE.out.2.1).mono ?_
        rintro e w6 ⟨A6, c6, qs6, rfl, hs6, ht6⟩
        have hs56 := rows_beside (W := w) HS5.out HQL.out ht6
        have T6 := Aside0.mk (T5.out.right ht6)
        have hr5 := Kd.S_reads' hs56
        have hr6 := Kd.S_reads' hs6
        have HRO := Aside0.mk (turncockref1_Rows.calls (rows.length + 1) A5 c5 rows A6 c6 rows true w6 hr5.2.2 hr5.2.1 hr6.2.2 hr6.2.1 (rows_self rows HRL.out _ (Nat.le_refl _)))
        have hee : (err == err) = true := beq_self_eq_true err
        clear hs6 ht6 hs56 hr5 hr6 hz5
        go_wp2_with fail
        refine HRO.out.mono ?_
        rintro e w7 ⟨rfl, hd7⟩
        have T7 := Aside0.mk (T6.out.more hd7.below)
        clear hd7
        go_wp2_with fail
        go_roundg (l.length + 1 - (i + 1))
        case measure => have := hkq.out; have := hi.out; omega
        case rel => exact ⟨i + 1, _, _, _, _, _, _, by first | (simp [wrap64, w64]; done) | (simp [wrap64, w64]; omega), ⟨by omega⟩, ⟨rfl⟩, ⟨T7.out⟩, ⟨HE.out.2.2⟩, ⟨by have := hK.out; have := HTD.out; have := HMD.out; omega⟩⟩
    · have hie : i = l.length := by have := hi.out; omega
      subst hie
      have d5 : decide ((l.length : Int) < (l.length : Int)) = false := decide_eq_false (by omega)
      clear c1
      go_wp2_with fail
      refine (c_awake _).mono ?_
      rintro e w9 ⟨rfl, hb9⟩
      have HB9 := Aside0.mk (below_step hT.out.below hb9)
      clear hb9
      go_wp2_with fail
      go_ret
      exact ⟨rfl, HB9.out⟩
def turncocklaw32_ConnsApart.f (k : Nat) (l0 l1 : List S67) : Option Bool :=
  if (∀ x ∈ l0, Bytes x.f2) ∧ l0.length * 40 ≤ 140737488351232 ∧ (∀ x ∈ l1, Bytes x.f2) ∧ l1.length * 40 ≤ 140737488351232 then some true else none
theorem turncocklaw32_ConnsApart.calls (k : Nat) (A0 : Option Addr) (c0 : Nat) (l0 : List S67) (A1 : Option Addr) (c1 : Nat) (l1 : List S67) (r : Bool) (w : World) (hr0 : Kd.C k67 w A0 l0.length l0) (hc0 : l0.length ≤ c0) (hr1 : Kd.C k67 w A1 l1.length l1) (hc1 : l1.length ≤ c1) (h : turncocklaw32_ConnsApart.f k l0 l1 = some r) :
    Calls Try.prog 15 #[.slice A0 l0.length c0, .slice A1 l1.length c1] w fun e w' => e = .returned (.bool r) ∧ Below w.heap.size w w' := by
  unfold turncocklaw32_ConnsApart.f at h
  split at h
  · rename_i hh
    obtain rfl := Option.some.inj h
    obtain ⟨v, hv, hb⟩ := light_f l0 hh.2.1
    obtain ⟨v2, hv2, hb2⟩ := light_f l1 hh.2.2.2
    cases v with
    | false => exact apart_heavy A0 c0 l0 A1 c1 l1 w hr0 hc0 hv
    | true =>
      cases v2 with
      | false => exact apart_heavy2 A0 c0 l0 A1 c1 l1 w hr0 hc0 hv hr1 hc1 hv2
      | true => exact apart_main A0 c0 l0 A1 c1 l1 w hr0 hc0 hv hr1 hc1 hv2 hh.1 (hb rfl).1 (hb rfl).2 hh.2.2.1 (hb2 rfl).1 (hb2 rfl).2
  · cases h
end Go.Proofs.Ytnhblhhkjnmkkaa.Q
