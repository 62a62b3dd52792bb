/- tell.Encode: a reply's bytes, or that it may not be. Texts and lists of more than 1000000 are not spoken of. -/
import Derived.Test.YtnhblhhkjnmkkaaTc
import Derived.Test.YtnhblhhkjnmkkaaWr
import Derived.Test.YtnhblhhkjnmkkaaBk
namespace Go.Proofs.Ytnhblhhkjnmkkaa.Q
open Go.RowKit Go.Proofs.YtnhblhhkjnmkkaaW.PrintWords Go.Proofs.YtnhblhhkjnmkkaaW.PrintLast Go.Proofs.YtnhblhhkjnmkkaaW.PrintMore
open Go.Proofs.Ytnhblhhkjnmkkaa.Sp Go.Proofs.Ytnhblhhkjnmkkaa.Va
set_option linter.unusedVariables false
set_option linter.unusedSimpArgs false
theorem take_T154 (l : List S154) (i : Nat) (h : i < l.length) (y : List Int) : statW ((l.take i).foldl statW y) (rd_T154 l (i : Int)) = (l.take (i + 1)).foldl statW y := by
  rw [List.take_succ_eq_append_getElem h, List.foldl_append, rd_T154, Int.toNat_natCast, List.getD_eq_getElem?_getD, List.getElem?_eq_getElem h]; rfl
theorem take_T152 (l : List S152) (i : Nat) (h : i < l.length) (y : List Int) : headW ((l.take i).foldl headW y) (rd_T152 l (i : Int)) = (l.take (i + 1)).foldl headW y := by
  rw [List.take_succ_eq_append_getElem h, List.foldl_append, rd_T152, Int.toNat_natCast, List.getD_eq_getElem?_getD, List.getElem?_eq_getElem h]; rfl
theorem all_T154 (l : List S154) (i : Nat) (h : i < l.length) (ha : l.all statB = true) : statB (rd_T154 l (i : Int)) = true := by
  rw [List.all_eq_true] at ha
  exact ha _ (List.mem_of_mem_drop (i := i) (by rw [drop_T154 l i h]; exact List.mem_cons_self ..))
theorem all_T152 (l : List S152) (i : Nat) (h : i < l.length) (ha : l.all headB = true) : headB (rd_T152 l (i : Int)) = true := by
  rw [List.all_eq_true] at ha
  exact ha _ (List.mem_of_mem_drop (i := i) (by rw [drop_T152 l i h]; exact List.mem_cons_self ..))
/-- Numbers written. -/
def numW (y : List Int) (n : Int) : List Int := y ++ putv n.toNat
def fiveL (x : S154) : List Int := [x.f0, x.f1, x.f2, x.f3, x.f4]
theorem statW_five (y : List Int) (x : S154) : (fiveL x).foldl numW y = statW y x := rfl
theorem five_take (x : S154) (y : List Int) : ∀ j, j < 5 → numW (((fiveL x).take j).foldl numW y) ((fiveL x).getD j 0) = ((fiveL x).take (j + 1)).foldl numW y := by
  intro j hj
  have h : j = 0 ∨ j = 1 ∨ j = 2 ∨ j = 3 ∨ j = 4 := by omega
  rcases h with rfl | rfl | rfl | rfl | rfl <;> rfl
theorem five_ok (x : S154) (h : statB x = true) (j : Nat) (hj : j < 5) : 0 ≤ (fiveL x).getD j 0 ∧ (fiveL x).getD j 0 ≤ 4294967295 := by
  simp only [statB, decide_eq_true_eq] at h
  have h : j = 0 ∨ j = 1 ∨ j = 2 ∨ j = 3 ∨ j = 4 := by omega
  rcases h with rfl | rfl | rfl | rfl | rfl <;> simp [fiveL] <;> omega
theorem five_len (x : S154) (h : statB x = true) (y : List Int) (j : Nat) (hj : j ≤ 5) : (((fiveL x).take j).foldl numW y).length ≤ y.length + 50 := by
  simp only [statB, decide_eq_true_eq] at h
  have h0 := putv_len9 (v := x.f0.toNat) (by omega)
  have h1 := putv_len9 (v := x.f1.toNat) (by omega)
  have h2 := putv_len9 (v := x.f2.toNat) (by omega)
  have h3 := putv_len9 (v := x.f3.toNat) (by omega)
  have h4 := putv_len9 (v := x.f4.toNat) (by omega)
  have h : j = 0 ∨ j = 1 ∨ j = 2 ∨ j = 3 ∨ j = 4 ∨ j = 5 := by omega
  rcases h with rfl | rfl | rfl | rfl | rfl | rfl <;> simp [fiveL, numW] <;> omega
theorem five_cell {w : World} {g : Nat} {x : S154} (h : Blk w g #[.int .i64 x.f0, .int .i64 x.f1, .int .i64 x.f2, .int .i64 x.f3, .int .i64 x.f4]) (j : Nat) (hj : j < 5) : w.cell? ⟨g, j, none⟩ = some (.int .i64 ((fiveL x).getD j 0)) := by
  rw [h.cell j]
  have h : j = 0 ∨ j = 1 ∨ j = 2 ∨ j = 3 ∨ j = 4 := by omega
  rcases h with rfl | rfl | rfl | rfl | rfl <;> rfl
set_option maxHeartbeats 2000000 in
set_option maxRecDepth 100000 in
theorem tellE_no (a0 a1 : Int) (b : Bool) (A : Option Addr) (c : Nat) (ss : List S154) (B : Option Addr) (d : Nat) (hs : List S152) (w : World) (hA : Kd.C k154 w A ss.length ss) (hc : ss.length ≤ c) (hB : Kd.C k152 w B hs.length hs) (hd : hs.length ≤ d) (hsm : smallT ss hs = true) (h : tellB a0 a1 ss hs = false) :
    Calls Try.prog 89 #[.agg #[.int .i64 a0, .int .i64 a1, .bool b, .slice A ss.length c, .slice B hs.length d]] w fun e w' => e = .returned (.tuple #[.slice none 0 0, .int .i64 1]) ∧ Below w.heap.size w w' := by
  have hf : tell_Check.f a0 a1 b ss hs = some 1 := by unfold tell_Check.f; rw [if_pos hsm, h]; rfl
  have HF := Aside0.mk hf
  have HA := Aside0.mk hA
  have HB := Aside0.mk hB
  clear hf hA hB hsm h
  go_enter Try.func89, Try.ntmps89
  go_wp2_with fail
  refine (tell_Check.calls a0 a1 b A c ss B d hs 1 _ (Kd.C_alloc HA.out _) hc (Kd.C_alloc HB.out _) hd HF.out).mono ?_
  rintro e w1 ⟨rfl, hb⟩
  have HB1 := Aside0.mk (below_step (below_alloc (Below.refl _ _) _) hb)
  clear hb
  go_wp2_with fail
  go_ret2
  exact ⟨rfl, HB1.out⟩
set_option maxHeartbeats 8000000 in
set_option maxRecDepth 100000 in
theorem tellE_yes (a0 a1 : Int) (b : Bool) (A : Option Addr) (c : Nat) (ss : List S154) (B : Option Addr) (d : Nat) (hs : List S152) (w : World) (hA : Kd.C k154 w A ss.length ss) (hc : ss.length ≤ c) (hB : Kd.C k152 w B hs.length hs) (hd : hs.length ≤ d) (hsm : smallT ss hs = true) (h : tellB a0 a1 ss hs = true) :
    Calls Try.prog 89 #[.agg #[.int .i64 a0, .int .i64 a1, .bool b, .slice A ss.length c, .slice B hs.length d]] w fun e w' => ∃ v, e = .returned (.tuple #[v, .int .i64 0]) ∧ Kd.R (Kd.int .u8) 5 w' w.heap.size (fun _ => True) v (tellW a0 a1 b ss hs) ∧ Below w.heap.size w w' := by
  have hf : tell_Check.f a0 a1 b ss hs = some 0 := by unfold tell_Check.f; rw [if_pos hsm, h]; rfl
  have HF := Aside0.mk hf
  have HA := Aside0.mk hA
  have HB := Aside0.mk hB
  have h' := h
  simp only [tellB, Bool.and_eq_true, decide_eq_true_eq] at h'
  obtain ⟨⟨⟨q1, q2, q3, q4, q5⟩, q6⟩, q7⟩ := h'
  have L1 := Aside0.mk (putv_len9 (v := a0.toNat) (by omega))
  have L2 := Aside0.mk (putv_len9 (v := a1.toNat) (by omega))
  have hfl : fullN b ≤ 1 := by cases b <;> decide
  have L3 := Aside0.mk (putv_len9 (v := fullN b) (by omega))
  have L4 := Aside0.mk (putv_len9 (v := ss.length) (by omega))
  have L5 := Aside0.mk (putv_len9 (v := hs.length) (by omega))
  have Q6 := Aside0.mk q6
  have Q7 := Aside0.mk q7
  have h10 : 0 ≤ a1 ∧ a1 ≤ 2 := by omega
  clear hf h hA hB hsm q6 q7 hfl q3
  go_enter Try.func89, Try.ntmps89
  go_wp2_with fail
  refine (tell_Check.calls a0 a1 b A c ss B d hs 0 _ (Kd.C_alloc HA.out _) hc (Kd.C_alloc HB.out _) hd HF.out).mono ?_
  rintro e w1 ⟨rfl, hb⟩
  have hblk : Blk w1 w.heap.size #[.int .i64 a0, .int .i64 a1, .bool b, .slice A ss.length c, .slice B hs.length d] := (blk_one w _ 108 _ rfl).below hb
  have HK := Aside0.mk hblk
  have HB1 := Aside0.mk (below_step (below_alloc (Below.refl w.heap.size w) _) hb)
  have hz : w.heap.size < w1.heap.size := by obtain ⟨t, h⟩ := hblk; exact blk_lt h
  have hc0 : w1.cell? ⟨w.heap.size, 0, none⟩ = some (.int .i64 a0) := hblk.cell 0
  clear hb hblk HF
  go_wp2_with fail
  refine (wnumP w1 _ _ _ _ (wat_new w1 w1 (Below.refl _ _) 2) (by omega) (by omega) (by simp)).mono ?_
  rintro e w2 ⟨rfl, hw2⟩
  have HW2 := Aside0.mk hw2
  have hc1 : w2.cell? ⟨w.heap.size, 1, none⟩ = some (.int .i64 a1) := (HK.out.below hw2.below).cell 1
  clear hw2 hc0
  go_wp2_with fail
  refine (wnumP w1 _ _ _ _ HW2.out (by omega) (by omega) (by have := L1.out; simp only [List.length_append, List.length_cons, List.length_nil]; omega)).mono ?_
  rintro e w3 ⟨rfl, hw3⟩
  have HW3 := Aside0.mk hw3
  have hc2 : w3.cell? ⟨w.heap.size, 2, none⟩ = some (.bool b) := (HK.out.below hw3.below).cell 2
  clear hw3 hc1 HW2
  obtain ⟨y, hy⟩ : ∃ y, y = [2] ++ putv a0.toNat ++ putv a1.toNat ++ putv (fullN b) ++ putv ss.length := ⟨_, rfl⟩
  have hyl : y.length ≤ 50 := by
    have := L1.out; have := L2.out; have := L3.out; have := L4.out
    rw [hy]; simp only [List.length_append, List.length_cons, List.length_nil]; omega
  have HYL := Aside0.mk hyl
  have HTW := Aside0.mk (show tellW a0 a1 b ss hs = hs.foldl headW (ss.foldl statW y ++ putv hs.length) by rw [tellW, ← hy])
  have HY := Aside0.mk hy
  clear hy hyl
  cases b
  all_goals
    go_wp2_with fail
    refine (wnumP w1 _ _ _ _ HW3.out (by omega) (by omega) (by have := L1.out; have := L2.out; simp only [List.length_append, List.length_cons, List.length_nil]; omega)).mono ?_
    rintro e w4 ⟨rfl, hw4⟩
    have HW4 := Aside0.mk hw4
    have hc3 : w4.cell? ⟨w.heap.size, 3, none⟩ = some (.slice A ss.length c) := (HK.out.below hw4.below).cell 3
    clear hw4 hc2 HW3
    go_wp2_with fail
    refine (wnumP w1 _ _ _ _ HW4.out (by omega) (by omega) (by have := L1.out; have := L2.out; have := L3.out; simp [fullN] at this; simp only [List.length_append, List.length_cons, List.length_nil]; simp; omega)).mono ?_
    rintro e w5 ⟨rfl, hw5⟩
    have hw5' : Wat w1 w5 (w1.heap.size + 1) y := by rw [HY.out]; exact hw5
    have hc3' : w5.cell? ⟨w.heap.size, 3, none⟩ = some (.slice A ss.length c) := (HK.out.below hw5.below).cell 3
    have HW5 := Aside0.mk hw5'
    clear hw5 hw5' hc3 HW4 L1 L2 L3 L4
    go_wp2_with fail
    go_loopg [37] (ss.length + 1) (fun kq v37 w' => ∃ i : Nat, v37 = .int .i64 (i : Int) ∧ Aside0 (i ≤ ss.length) ∧ Aside0 (kq = ss.length + 1 - i) ∧ Aside0 (Wat w1 w' (w1.heap.size + 1) ((ss.take i).foldl statW y)))
    case atStart => exact ⟨0, rfl, ⟨Nat.zero_le _⟩, ⟨rfl⟩, by simpa using HW5⟩
    case round =>
      obtain ⟨i, rfl, hi, hkq, hw⟩ := hrel
      have hgl : w1.heap.size + 1 < wr.heap.size := by obtain ⟨v, h1, _⟩ := hw.out; exact blk_lt h1
      have hyi : ((ss.take i).foldl statW y).length ≤ 1000 := by
        have h1 := statsW_len (ss.take i) y (all_take _ _ _ Q6.out)
        have h2 := HYL.out
        have h3 : (ss.take i).length ≤ 16 := by rw [List.length_take]; omega
        omega
      have HYI := Aside0.mk hyi
      clear hyi
      by_cases c1 : i < ss.length
      · have d1 : decide ((i : Int) < (ss.length : Int)) = true := decide_eq_true (by omega)
        have hbr := below_step HB1.out hw.out.below
        obtain ⟨ad, eA, x0, x1, x2, x3, x4⟩ := at_T154 HA.out (i : Int) (by omega) (by omega)
        cases eA
        replace x0 := (hbr.cell (World.block_lt_of_cell? w _ x0)).trans x0
        replace x1 := (hbr.cell (World.block_lt_of_cell? w _ x1)).trans x1
        replace x2 := (hbr.cell (World.block_lt_of_cell? w _ x2)).trans x2
        replace x3 := (hbr.cell (World.block_lt_of_cell? w _ x3)).trans x3
        replace x4 := (hbr.cell (World.block_lt_of_cell? w _ x4)).trans x4
        rw [Int.toNat_natCast] at x0 x1 x2 x3 x4
        have hsB := all_T154 ss i c1 Q6.out
        have HT := Aside0.mk (take_T154 ss i c1 y)
        obtain ⟨x, hx⟩ : ∃ x, x = rd_T154 ss (i : Int) := ⟨_, rfl⟩
        rw [← hx] at x0 x1 x2 x3 x4 hsB
        have HX := Aside0.mk hx
        have HSB := Aside0.mk hsB
        have e0 : 0 ≤ (i : Int) := by omega
        have e4 : (i : Int) < (ss.length : Int) := by omega
        have HIL := Aside0.mk c1
        obtain ⟨z, hz⟩ : ∃ z, z = (ss.take i).foldl statW y := ⟨_, rfl⟩
        have hzl : z.length ≤ 1000 := by rw [hz]; exact HYI.out
        have hw6 := hw.out
        rw [← hz] at hw6
        have HZ := Aside0.mk hz
        have HZL := Aside0.mk hzl
        have HW6 := Aside0.mk hw6
        have HKQ := Aside0.mk hkq.out
        clear hx hsB hbr c1 hz hzl hw hw6 hkq
        go_wp2_with fail
        obtain ⟨gl, hgl2⟩ : ∃ gl, gl = wr.heap.size + 1 := ⟨_, rfl⟩
        rw [← hgl2]
        have hgl3 : gl ≠ w1.heap.size + 1 := by omega
        have HGL2 := Aside0.mk hgl2
        clear hgl2
        go_loopg [53] 6 (fun kq v53 w' => ∃ j : Nat, v53 = .int .i64 (j : Int) ∧ Aside0 (j ≤ 5) ∧ Aside0 (kq = 6 - j) ∧ Aside0 (Wat w1 w' (w1.heap.size + 1) (((fiveL x).take j).foldl numW z)) ∧ Aside0 (Blk w' gl #[.int .i64 x.f0, .int .i64 x.f1, .int .i64 x.f2, .int .i64 x.f3, .int .i64 x.f4]))
        case atStart =>
          refine ⟨0, rfl, ⟨Nat.zero_le _⟩, ⟨rfl⟩, ⟨?_⟩, ⟨?_⟩⟩
          · exact HW6.out.more (below_alloc (below_alloc (Below.refl _ _) _) _)
          · exact blk_one _ _ 3 gl (by rw [HGL2.out]; simp)
        case round =>
          obtain ⟨j, rfl, hj, hkj, hw, hbk⟩ := hrel
          by_cases c2 : j < 5
          · have d2 : decide ((j : Int) < 5) = true := decide_eq_true (by omega)
            have hcj : wr.cell? ⟨gl, j, none⟩ = some (.int .i64 ((fiveL x).getD j 0)) := five_cell hbk.out j c2
            have hok := five_ok x HSB.out j c2
            have hln := five_len x HSB.out z j (by omega)
            have HT2 := Aside0.mk (five_take x z j c2)
            obtain ⟨n, hn⟩ : ∃ n, n = (fiveL x).getD j 0 := ⟨_, rfl⟩
            rw [← hn] at hcj hok
            have HN := Aside0.mk hn
            have HLN := Aside0.mk hln
            have f0 : 0 ≤ (j : Int) := by omega
            have f4 : (j : Int) < 5 := by omega
            have HJ := Aside0.mk c2
            clear hn hln c2
            go_wp2_with fail
            refine (wnumK w1 _ _ _ _ hw.out (by omega) (by omega) (by have := HLN.out; have := HZL.out; omega)).mono ?_
            rintro e w7 ⟨rfl, hw7, hk7⟩
            have hw8 : Wat w1 w7 (w1.heap.size + 1) (((fiveL x).take (j + 1)).foldl numW z) := by
              rw [← HT2.out, ← HN.out]; exact hw7
            have HW8 := Aside0.mk hw8
            have HB8 := Aside0.mk (hbk.out.but hk7 hgl3)
            clear hw7 hk7 hw8 hw hbk hcj hok
            go_wp2_with fail
            go_roundg (6 - (j + 1))
            case measure => have := hkj.out; have := HJ.out; omega
            case rel => exact ⟨j + 1, by first | (simp [wrap64, w64]; done) | (simp [wrap64, w64]; omega), ⟨by have := HJ.out; omega⟩, ⟨rfl⟩, HW8, HB8⟩
          · have hje : j = 5 := by have := hj.out; omega
            subst hje
            have hw9 : Wat w1 wr (w1.heap.size + 1) ((ss.take (i + 1)).foldl statW y) := by
              rw [← HT.out, ← HX.out, ← HZ.out]
              exact hw.out
            have HW9 := Aside0.mk hw9
            clear hw hw9 hbk
            go_wp2_with fail
            go_roundg (ss.length + 1 - (i + 1))
            case measure => have := HKQ.out; have := HIL.out; omega
            case rel => exact ⟨i + 1, by first | (simp [wrap64, w64]; done) | (simp [wrap64, w64]; omega), ⟨by have := HIL.out; omega⟩, ⟨rfl⟩, HW9⟩
      · have hie : i = ss.length := by have := hi.out; omega
        subst hie
        have d1 : decide ((ss.length : Int) < (ss.length : Int)) = false := decide_eq_false (by omega)
        have hw6 := hw.out
        rw [List.take_length] at hw6
        obtain ⟨z, hz⟩ : ∃ z, z = ss.foldl statW y := ⟨_, rfl⟩
        have hzl : z.length ≤ 1000 := by have := HYI.out; rw [List.take_length] at this; rw [hz]; exact this
        rw [← hz] at hw6
        have HW6 := Aside0.mk hw6
        have HZ := Aside0.mk hz
        have hc4 : wr.cell? ⟨w.heap.size, 4, none⟩ = some (.slice B hs.length d) := (HK.out.below hw6.below).cell 4
        clear hw hw6 hz
        go_wp2_with fail
        refine (wnumP w1 _ _ _ _ HW6.out (by omega) (by omega) (by omega)).mono ?_
        rintro e w7 ⟨rfl, hw7⟩
        obtain ⟨u, hu⟩ : ∃ u, u = z ++ putv hs.length := ⟨_, rfl⟩
        have hul : u.length ≤ 1010 := by have := L5.out; rw [hu, List.length_append]; omega
        have hw7' : Wat w1 w7 (w1.heap.size + 1) u := by rw [hu]; exact hw7
        have hc4' : w7.cell? ⟨w.heap.size, 4, none⟩ = some (.slice B hs.length d) := (HK.out.below hw7.below).cell 4
        have HU := Aside0.mk hu
        have HUL := Aside0.mk hul
        have HW7 := Aside0.mk hw7'
        clear hw7 hw7' hu hul hc4 HW6 hgl
        go_wp2_with fail
        go_loopg [68] (hs.length + 1) (fun kq v68 w' => ∃ i : Nat, v68 = .int .i64 (i : Int) ∧ Aside0 (i ≤ hs.length) ∧ Aside0 (kq = hs.length + 1 - i) ∧ Aside0 (Wat w1 w' (w1.heap.size + 1) ((hs.take i).foldl headW u)))
        case atStart => exact ⟨0, rfl, ⟨Nat.zero_le _⟩, ⟨rfl⟩, by simpa using HW7⟩
        case round =>
          obtain ⟨k, rfl, hk, hkk, hw⟩ := hrel
          have hgl : w1.heap.size + 1 < wr.heap.size := by obtain ⟨v, h1, _⟩ := hw.out; exact blk_lt h1
          have hzj : ((hs.take k).foldl headW u).length ≤ 4000 := by
            have h1 := headsW_len (hs.take k) u (all_take _ _ _ Q7.out)
            have h2 := HUL.out
            have h3 : (hs.take k).length ≤ 4 := by rw [List.length_take]; omega
            omega
          have HZJ := Aside0.mk hzj
          clear hzj
          by_cases c2 : k < hs.length
          · have d2 : decide ((k : Int) < (hs.length : Int)) = true := decide_eq_true (by omega)
            have hbr := below_step HB1.out hw.out.below
            obtain ⟨ad2, eA2, hx0, hx1⟩ := at_T152 HB.out (k : Int) (by omega) (by omega)
            cases eA2
            replace hx0 := (hbr.cell (World.block_lt_of_cell? w _ hx0)).trans hx0
            replace hx1 := (hbr.cell (World.block_lt_of_cell? w _ hx1)).trans hx1
            rw [Int.toNat_natCast] at hx0 hx1
            have heB := all_T152 hs k c2 Q7.out
            have HT2 := Aside0.mk (take_T152 hs k c2 u)
            obtain ⟨en, hen⟩ : ∃ en, en = rd_T152 hs (k : Int) := ⟨_, rfl⟩
            rw [← hen] at hx0 hx1 heB
            have HEN := Aside0.mk hen
            simp only [headB, nameB, Bool.and_eq_true, decide_eq_true_eq] at heB
            obtain ⟨⟨⟨⟨f1, f2⟩, _⟩, f3⟩, _⟩ := heB
            have e0 : 0 ≤ (k : Int) := by omega
            have e4 : (k : Int) < (hs.length : Int) := by omega
            clear hen hbr c2
            go_wp2_with fail
            refine (wtextK w1 _ _ _ _ (hw.out.more (below_alloc (Below.refl _ _) _)) (by omega) (by have := HZJ.out; omega)).mono ?_
            rintro e w7 ⟨rfl, hw7, hk7⟩
            have hb7 : Blk w7 wr.heap.size #[.string en.f0, .string en.f1] := (blk_one wr _ 152 _ rfl).but hk7 (by omega)
            have hc7 : w7.cell? ⟨wr.heap.size, 1, none⟩ = some (.string en.f1) := hb7.cell 1
            have HW7 := Aside0.mk hw7
            clear hw7 hk7 hb7 hx0 hx1 hw d2 e0
            go_wp2_with fail
            have hlen : (((hs.take k).foldl headW u) ++ putv en.f0.size ++ bytesOf en.f0).length ≤ 5000 := by
              have h1 := HZJ.out
              have h2 := putv_len9 (v := en.f0.size) (by omega)
              have h3 := bytesOf_length en.f0
              rw [List.length_append, List.length_append]; omega
            refine (wtextK w1 _ _ _ _ HW7.out (by omega) (by omega)).mono ?_
            rintro e w8 ⟨rfl, hw8, _⟩
            have hw9 : Wat w1 w8 (w1.heap.size + 1) ((hs.take (k + 1)).foldl headW u) := by
              rw [← HT2.out, ← HEN.out]; exact hw8
            have HW9 := Aside0.mk hw9
            have hjl : k < hs.length := by omega
            clear hc7 hw8 hw9 hlen e4
            go_wp2_with fail
            go_roundg (hs.length + 1 - (k + 1))
            case measure => have := hkk.out; omega
            case rel => exact ⟨k + 1, by first | (simp [wrap64, w64]; done) | (simp [wrap64, w64]; omega), ⟨by omega⟩, ⟨rfl⟩, HW9⟩
          · have hke : k = hs.length := by have := hk.out; omega
            subst hke
            have d2 : decide ((hs.length : Int) < (hs.length : Int)) = false := decide_eq_false (by omega)
            have h1 := hw.out
            rw [List.take_length] at h1
            have h1' : Wat w1 wr (w1.heap.size + 1) (hs.foldl headW (ss.foldl statW y ++ putv hs.length)) := by
              rw [← HZ.out, ← HU.out]; exact h1
            obtain ⟨v, h2, h3, h4, h5⟩ := h1'
            have hcell : wr.cell? ⟨w1.heap.size + 1, 0, none⟩ = some v := blk_cell h2 0
            have HR := Aside0.mk (Kd.R_lower h3 HB1.out.size)
            have HB2 := Aside0.mk (below_step HB1.out h4)
            clear hw h1 h2 h3 h4 h5
            go_wp2_with fail
            go_ret2
            exact ⟨v, rfl, by rw [HTW.out]; exact HR.out, HB2.out⟩
def tell_Encode.f (a0_0 : Int) (a0_1 : Int) (a0_2 : Bool) (l0_3 : List S154) (l0_4 : List S152) : Option (List Int × Int) :=
  if smallT l0_3 l0_4 then (if tellB a0_0 a0_1 l0_3 l0_4 then some (tellW a0_0 a0_1 a0_2 l0_3 l0_4, 0) else some ([], 1)) else none
theorem tell_Encode.calls (a0_0 : Int) (a0_1 : Int) (a0_2 : Bool) (A0_3 : Option Addr) (c0_3 : Nat) (l0_3 : List S154) (A0_4 : Option Addr) (c0_4 : Nat) (l0_4 : List S152) (r1 : List Int) (r2 : Int) (w : World) (hr0_3 : Kd.C k154 w A0_3 l0_3.length l0_3) (hc0_3 : l0_3.length ≤ c0_3) (hr0_4 : Kd.C k152 w A0_4 l0_4.length l0_4) (hc0_4 : l0_4.length ≤ c0_4) (h : tell_Encode.f a0_0 a0_1 a0_2 l0_3 l0_4 = some (r1, r2)) :
    Calls Try.prog 89 #[.agg #[.int .i64 a0_0, .int .i64 a0_1, .bool a0_2, .slice A0_3 l0_3.length c0_3, .slice A0_4 l0_4.length c0_4]] w fun e w' => ∃ v0_ : Value, e = .returned (.tuple #[v0_, .int .i64 r2]) ∧ Kd.R (Kd.int .u8) 5 w' w.heap.size (fun _ => True) v0_ r1 ∧ Below w.heap.size w w' := by
  unfold tell_Encode.f at h
  split at h
  · rename_i hs
    split at h
    · rename_i ha
      simp only [Option.some.injEq, Prod.mk.injEq] at h
      obtain ⟨rfl, rfl⟩ := h
      exact tellE_yes a0_0 a0_1 a0_2 A0_3 c0_3 l0_3 A0_4 c0_4 l0_4 w hr0_3 hc0_3 hr0_4 hc0_4 hs ha
    · rename_i ha
      simp only [Option.some.injEq, Prod.mk.injEq] at h
      obtain ⟨rfl, rfl⟩ := h
      refine (tellE_no a0_0 a0_1 a0_2 A0_3 c0_3 l0_3 A0_4 c0_4 l0_4 w hr0_3 hc0_3 hr0_4 hc0_4 hs (by simpa using ha)).mono ?_
      rintro e w' ⟨rfl, hb⟩
      exact ⟨_, rfl, Kd.R_nil _ _ _ _ _, hb⟩
  · cases h
end Go.Proofs.Ytnhblhhkjnmkkaa.Q
