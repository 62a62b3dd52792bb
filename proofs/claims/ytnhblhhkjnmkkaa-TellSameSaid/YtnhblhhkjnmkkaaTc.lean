/- tell.Check: may a reply be. Lists of more than 1000000 and texts of more than 1000000 bytes are not spoken of. -/
import Derived.Test.YtnhblhhkjnmkkaaNt
import Derived.Test.YtnhblhhkjnmkkaaBk
import Derived.Test.YtnhblhhkjnmkkaaQ41
import Derived.Test.YtnhblhhkjnmkkaaQ38
namespace Go.Proofs.Ytnhblhhkjnmkkaa.Q
open Go.RowKit Go.Proofs.YtnhblhhkjnmkkaaW.PrintWords Go.Proofs.YtnhblhhkjnmkkaaW.PrintLast Go.Proofs.YtnhblhhkjnmkkaaW.PrintMore
open Go.Proofs.Ytnhblhhkjnmkkaa.Sp Go.Proofs.Ytnhblhhkjnmkkaa.Va
set_option linter.unusedVariables false
set_option linter.unusedSimpArgs false
theorem within_f (a b : Int) : tell_within.f a b = some (decide (0 ≤ a ∧ a ≤ b)) := by
  unfold tell_within.f
  by_cases h : a ≥ 0
  · rw [if_pos h]; exact congrArg some (decide_eq_decide.2 (by omega))
  · rw [if_neg h]; exact congrArg some (decide_eq_false (by omega)).symm
theorem code_f (a : Int) : tell_code.f a = some (codeB a) := by
  unfold tell_code.f codeB
  by_cases h : a = 1
  · rw [if_pos h]; exact congrArg some (decide_eq_true (by omega)).symm
  · rw [if_neg h]; exact congrArg some (Bool.eq_iff_iff.2 (by simp; omega))
theorem status_f (x : S154) : tell_status.f x.f0 x.f1 x.f2 x.f3 x.f4 = some (statB x) := by
  unfold tell_status.f
  simp only [within_f, code_f, Option.bind_some, codeB, statB, decide_eq_true_eq]
  repeat' split
  all_goals first | exact congrArg some (decide_eq_decide.2 (by omega)) | exact congrArg some (decide_eq_false (by omega)).symm
theorem head_l0 (s v : ByteArray) (hs : s.size ≤ 1000000) (hv : v.size ≤ 1000000) : ∀ (d k i : Nat), v.size - i ≤ d → i ≤ v.size → d + 1000010 ≤ k → tell_head.l0 k (v.size : Int) (i : Int) s v = some (((bytesOf v).drop i).all signV && (nameB s && decide (v.size ≤ 400))) := by
  have out : ∀ (k i : Nat), ¬ i < v.size → i ≤ v.size → 1000010 ≤ k → tell_head.l0 k (v.size : Int) (i : Int) s v = some (((bytesOf v).drop i).all signV && (nameB s && decide (v.size ≤ 400))) := by
    intro k i h1 h2 h3
    obtain ⟨k, rfl⟩ : ∃ j, k = j + 1 := ⟨k - 1, by omega⟩
    simp only [tell_head.l0]
    rw [if_neg (by omega), name_f s (by omega) k (by omega), List.drop_eq_nil_of_le (by rw [bytesOf_length]; omega)]
    simp only [Option.bind_some, List.all_nil, Bool.true_and]
    cases nameB s
    · simp
    · simp; omega
  intro d
  induction d with
  | zero => intro k i h1 h2 h3; exact out k i (by omega) h2 (by omega)
  | succ d ih =>
    intro k i h1 h2 h3
    by_cases hi : i < v.size
    · obtain ⟨k, rfl⟩ : ∃ j, k = j + 1 := ⟨k - 1, by omega⟩
      simp only [tell_head.l0]
      rw [if_pos (by omega), if_pos (by omega), if_pos (by omega), drop_bt v i hi]
      by_cases c1 : bt v (i : Int) < 32
      · rw [if_pos c1]; simp [signV]; intro h; omega
      · rw [if_neg c1]
        by_cases c2 : bt v (i : Int) > 126
        · rw [if_pos c2]; simp [signV]; intro h; omega
        · rw [if_neg c2, w64 (by omega) (by omega), show ((i : Int) + 1) = ((i + 1 : Nat) : Int) from by omega, ih k (i + 1) (by omega) (by omega) (by omega)]
          have e : signV (bt v (i : Int)) = true := by simp [signV]; omega
          simp [e]
    · exact out k i hi h2 (by omega)
theorem head_f (x : S152) (hs : x.f0.size ≤ 1000000) (hv : x.f1.size ≤ 1000000) : tell_head.f 3000000 x.f0 x.f1 = some (headB x) := by
  unfold tell_head.f headB
  have h := head_l0 x.f0 x.f1 hs hv x.f1.size 3000000 0 (by omega) (by omega) (by omega)
  rw [List.drop_zero] at h
  rw [show ((0 : Nat) : Int) = 0 from rfl] at h
  rw [h]
  congr 1
  cases nameB x.f0 <;> cases (bytesOf x.f1).all signV <;> simp
def smallH (hs : List S152) : Prop := ∀ h ∈ hs, h.f0.size ≤ 1000000 ∧ h.f1.size ≤ 1000000
theorem drop_T154 (l : List S154) (i : Nat) (h : i < l.length) : l.drop i = rd_T154 l (i : Int) :: l.drop (i + 1) := by
  rw [List.drop_eq_getElem_cons h, rd_T154, Int.toNat_natCast, List.getD_eq_getElem?_getD, List.getElem?_eq_getElem h]; rfl
theorem drop_T152 (l : List S152) (i : Nat) (h : i < l.length) : l.drop i = rd_T152 l (i : Int) :: l.drop (i + 1) := by
  rw [List.drop_eq_getElem_cons h, rd_T152, Int.toNat_natCast, List.getD_eq_getElem?_getD, List.getElem?_eq_getElem h]; rfl
set_option maxHeartbeats 4000000 in
set_option maxRecDepth 100000 in
theorem c125 (x : S154) (W : World) : Calls Try.prog 125 #[.agg #[.int .i64 x.f0, .int .i64 x.f1, .int .i64 x.f2, .int .i64 x.f3, .int .i64 x.f4]] W fun e w' => e = .returned (.bool (!statB x)) ∧ Below W.heap.size W w' := by
  have HF := Aside0.mk (fun W => tell_status.calls x.f0 x.f1 x.f2 x.f3 x.f4 _ W (status_f x))
  go_enter Try.func125, Try.ntmps125
  go_wp2_with fail
  refine (HF.out _).mono ?_
  rintro e w1 ⟨rfl, hb1⟩
  have HB1 := Aside0.mk (below_step (below_alloc (Below.refl _ _) _) hb1)
  clear hb1
  go_wp2_with fail
  go_ret
  exact ⟨rfl, HB1.out⟩
set_option maxHeartbeats 4000000 in
set_option maxRecDepth 100000 in
theorem i140 (A : Option Addr) (c : Nat) (l : List S154) (hl : l.length ≤ 1000000) (w : World) (hA : Kd.C k154 w A l.length l) :
    Calls Try.prog 140 #[.slice A l.length c, .func (.func 125) #[] #[]] w fun e w' => ∃ j : Int, e = .returned (.int .i64 j) ∧ decide (0 ≤ j) = (!l.all statB) ∧ Below w.heap.size w w' := by
  have HA := Aside0.mk hA
  clear hA
  go_enter Try.func140, Try.ntmps140
  go_wp2_with fail
  go_loopg [8] (l.length + 1) (fun kq v8 w' => ∃ i : Nat, v8 = .int .i64 (i : Int) ∧ Aside0 (i ≤ l.length) ∧ Aside0 (kq = l.length + 1 - i) ∧ Aside0 (Below w.heap.size w w') ∧ Aside0 (l.all statB = (l.drop i).all statB))
  case atStart => exact ⟨0, rfl, ⟨Nat.zero_le _⟩, ⟨rfl⟩, ⟨Below.refl _ _⟩, ⟨rfl⟩⟩
  case round =>
    obtain ⟨i, rfl, hi, hkq, hb, hq⟩ := hrel
    by_cases c1 : i < l.length
    · have d1 : decide ((i : Int) < (l.length : Int)) = true := decide_eq_true (by omega)
      have e0 : 0 ≤ (i : Int) := by omega
      have e4 : (i : Int) < (l.length : Int) := by omega
      obtain ⟨ad, eA, hx0, hx1, hx2, hx3, hx4⟩ := at_T154 HA.out (i : Int) e0 e4
      cases eA
      replace hx0 := (hb.out.cell (World.block_lt_of_cell? w _ hx0)).trans hx0
      replace hx1 := (hb.out.cell (World.block_lt_of_cell? w _ hx1)).trans hx1
      replace hx2 := (hb.out.cell (World.block_lt_of_cell? w _ hx2)).trans hx2
      replace hx3 := (hb.out.cell (World.block_lt_of_cell? w _ hx3)).trans hx3
      replace hx4 := (hb.out.cell (World.block_lt_of_cell? w _ hx4)).trans hx4
      rw [Int.toNat_natCast] at hx0 hx1 hx2 hx3 hx4
      have hDA := Aside0.mk (drop_T154 l i c1)
      have hm : rd_T154 l (i : Int) ∈ l := List.mem_of_mem_drop (i := i) (by rw [hDA.out]; exact List.mem_cons_self ..)
      obtain ⟨x, hx⟩ : ∃ x, x = rd_T154 l (i : Int) := ⟨_, rfl⟩
      rw [← hx] at hx0 hx1 hx2 hx3 hx4
      have HX := Aside0.mk hx
      have HC := Aside0.mk (fun W => c125 x W)
      have HBW := Aside0.mk hb.out
      have HQ := Aside0.mk hq.out
      have HKQ := Aside0.mk hkq.out
      clear hx hm c1 hb hq hkq
      cases hB : statB x with
      | true =>
        have hq' : l.all statB = (l.drop (i + 1)).all statB := by
          rw [HQ.out, hDA.out, ← HX.out, List.all_cons, hB, Bool.true_and]
        have HQ' := Aside0.mk hq'
        have hc := HC.out
        rw [hB] at hc
        have HC' := Aside0.mk hc
        clear hq' hB hc HC
        go_wp2_with fail
        refine (HC'.out _).mono ?_
        rintro e w2 ⟨rfl, hb2⟩
        have HB2 := Aside0.mk (below_step HBW.out hb2)
        have HIL := Aside0.mk e4
        clear hb2 e0 hx0 hx1 hx2 hx3 hx4 d1
        go_wp2_with fail
        go_roundg (l.length + 1 - (i + 1))
        case measure => have := HKQ.out; have := HIL.out; omega
        case rel => exact ⟨i + 1, by first | (simp [wrap64, w64]; done) | (simp [wrap64, w64]; omega), ⟨by have := HIL.out; omega⟩, ⟨rfl⟩, HB2, HQ'⟩
      | false =>
        have hq' : l.all statB = false := by
          rw [HQ.out, hDA.out, ← HX.out, List.all_cons, hB, Bool.false_and]
        have HQ' := Aside0.mk hq'
        have hc := HC.out
        rw [hB] at hc
        have HC' := Aside0.mk hc
        clear hq' hB hc HC
        go_wp2_with fail
        refine (HC'.out _).mono ?_
        rintro e w2 ⟨rfl, hb2⟩
        have HB2 := Aside0.mk (below_step HBW.out hb2)
        have HE0 := Aside0.mk e0
        clear hb2 e4 e0 hx0 hx1 hx2 hx3 hx4 d1
        go_wp2_with fail
        go_ret
        exact ⟨_, rfl, by rw [HQ'.out]; exact decide_eq_true HE0.out, HB2.out⟩
    · have hie : i = l.length := by have := hi.out; omega
      subst hie
      have d1 : decide ((l.length : Int) < (l.length : Int)) = false := decide_eq_false (by omega)
      have hq' : l.all statB = true := by
        rw [hq.out, List.drop_eq_nil_of_le (Nat.le_refl _)]; rfl
      have HQ' := Aside0.mk hq'
      have HB2 := Aside0.mk hb.out
      clear hq hq' hb
      go_wp2_with fail
      go_ret
      exact ⟨_, rfl, by rw [HQ'.out]; rfl, HB2.out⟩
theorem n124 (A : Option Addr) (c : Nat) (l : List S154) (hl : l.length ≤ 1000000) (w : World) (hA : Kd.C k154 w A l.length l) :
    Calls Try.prog 124 #[.slice A l.length c, .func (.func 125) #[] #[]] w fun e w' => e = .returned (.bool (!l.all statB)) ∧ Below w.heap.size w w' := by
  have HI := Aside0.mk (i140 A c l hl w hA)
  clear hA
  go_enter Try.func124, Try.ntmps124
  go_wp2_with fail
  refine HI.out.mono ?_
  rintro e w1 ⟨j, rfl, hj, hb1⟩
  have HB1 := Aside0.mk hb1
  clear hb1 HI
  go_wp2_with fail
  go_ret
  exact ⟨rfl, HB1.out⟩
set_option maxHeartbeats 4000000 in
set_option maxRecDepth 100000 in
theorem c128 (x : S152) (hx : x.f0.size ≤ 1000000 ∧ x.f1.size ≤ 1000000) (W : World) : Calls Try.prog 128 #[.agg #[.string x.f0, .string x.f1]] W fun e w' => e = .returned (.bool (!headB x)) ∧ Below W.heap.size W w' := by
  have HF := Aside0.mk (fun W => tell_head.calls 3000000 x.f0 x.f1 _ W (head_f x hx.1 hx.2))
  go_enter Try.func128, Try.ntmps128
  go_wp2_with fail
  refine (HF.out _).mono ?_
  rintro e w1 ⟨rfl, hb1⟩
  have HB1 := Aside0.mk (below_step (below_alloc (Below.refl _ _) _) hb1)
  clear hb1
  go_wp2_with fail
  go_ret
  exact ⟨rfl, HB1.out⟩
set_option maxHeartbeats 4000000 in
set_option maxRecDepth 100000 in
theorem i141 (A : Option Addr) (c : Nat) (l : List S152) (hsm : smallH l) (hl : l.length ≤ 1000000) (w : World) (hA : Kd.C k152 w A l.length l) :
    Calls Try.prog 141 #[.slice A l.length c, .func (.func 128) #[] #[]] w fun e w' => ∃ j : Int, e = .returned (.int .i64 j) ∧ decide (0 ≤ j) = (!l.all headB) ∧ Below w.heap.size w w' := by
  have HA := Aside0.mk hA
  have HSM := Aside0.mk hsm
  clear hsm
  clear hA
  go_enter Try.func141, Try.ntmps141
  go_wp2_with fail
  go_loopg [8] (l.length + 1) (fun kq v8 w' => ∃ i : Nat, v8 = .int .i64 (i : Int) ∧ Aside0 (i ≤ l.length) ∧ Aside0 (kq = l.length + 1 - i) ∧ Aside0 (Below w.heap.size w w') ∧ Aside0 (l.all headB = (l.drop i).all headB))
  case atStart => exact ⟨0, rfl, ⟨Nat.zero_le _⟩, ⟨rfl⟩, ⟨Below.refl _ _⟩, ⟨rfl⟩⟩
  case round =>
    obtain ⟨i, rfl, hi, hkq, hb, hq⟩ := hrel
    by_cases c1 : i < l.length
    · have d1 : decide ((i : Int) < (l.length : Int)) = true := decide_eq_true (by omega)
      have e0 : 0 ≤ (i : Int) := by omega
      have e4 : (i : Int) < (l.length : Int) := by omega
      obtain ⟨ad, eA, hx0, hx1⟩ := at_T152 HA.out (i : Int) e0 e4
      cases eA
      replace hx0 := (hb.out.cell (World.block_lt_of_cell? w _ hx0)).trans hx0
      replace hx1 := (hb.out.cell (World.block_lt_of_cell? w _ hx1)).trans hx1
      rw [Int.toNat_natCast] at hx0 hx1
      have hDA := Aside0.mk (drop_T152 l i c1)
      have hm : rd_T152 l (i : Int) ∈ l := List.mem_of_mem_drop (i := i) (by rw [hDA.out]; exact List.mem_cons_self ..)
      have hz := HSM.out _ hm
      obtain ⟨x, hx⟩ : ∃ x, x = rd_T152 l (i : Int) := ⟨_, rfl⟩
      rw [← hx] at hx0 hx1 hz
      have HX := Aside0.mk hx
      have HC := Aside0.mk (fun W => c128 x hz W)
      have HBW := Aside0.mk hb.out
      have HQ := Aside0.mk hq.out
      have HKQ := Aside0.mk hkq.out
      clear hx hm hz c1 hb hq hkq
      cases hB : headB x with
      | true =>
        have hq' : l.all headB = (l.drop (i + 1)).all headB := by
          rw [HQ.out, hDA.out, ← HX.out, List.all_cons, hB, Bool.true_and]
        have HQ' := Aside0.mk hq'
        have hc := HC.out
        rw [hB] at hc
        have HC' := Aside0.mk hc
        clear hq' hB hc HC
        go_wp2_with fail
        refine (HC'.out _).mono ?_
        rintro e w2 ⟨rfl, hb2⟩
        have HB2 := Aside0.mk (below_step HBW.out hb2)
        have HIL := Aside0.mk e4
        clear hb2 e0 hx0 hx1 d1
        go_wp2_with fail
        go_roundg (l.length + 1 - (i + 1))
        case measure => have := HKQ.out; have := HIL.out; omega
        case rel => exact ⟨i + 1, by first | (simp [wrap64, w64]; done) | (simp [wrap64, w64]; omega), ⟨by have := HIL.out; omega⟩, ⟨rfl⟩, HB2, HQ'⟩
      | false =>
        have hq' : l.all headB = false := by
          rw [HQ.out, hDA.out, ← HX.out, List.all_cons, hB, Bool.false_and]
        have HQ' := Aside0.mk hq'
        have hc := HC.out
        rw [hB] at hc
        have HC' := Aside0.mk hc
        clear hq' hB hc HC
        go_wp2_with fail
        refine (HC'.out _).mono ?_
        rintro e w2 ⟨rfl, hb2⟩
        have HB2 := Aside0.mk (below_step HBW.out hb2)
        have HE0 := Aside0.mk e0
        clear hb2 e4 e0 hx0 hx1 d1
        go_wp2_with fail
        go_ret
        exact ⟨_, rfl, by rw [HQ'.out]; exact decide_eq_true HE0.out, HB2.out⟩
    · have hie : i = l.length := by have := hi.out; omega
      subst hie
      have d1 : decide ((l.length : Int) < (l.length : Int)) = false := decide_eq_false (by omega)
      have hq' : l.all headB = true := by
        rw [hq.out, List.drop_eq_nil_of_le (Nat.le_refl _)]; rfl
      have HQ' := Aside0.mk hq'
      have HB2 := Aside0.mk hb.out
      clear hq hq' hb
      go_wp2_with fail
      go_ret
      exact ⟨_, rfl, by rw [HQ'.out]; rfl, HB2.out⟩
theorem n127 (A : Option Addr) (c : Nat) (l : List S152) (hsm : smallH l) (hl : l.length ≤ 1000000) (w : World) (hA : Kd.C k152 w A l.length l) :
    Calls Try.prog 127 #[.slice A l.length c, .func (.func 128) #[] #[]] w fun e w' => e = .returned (.bool (!l.all headB)) ∧ Below w.heap.size w w' := by
  have HI := Aside0.mk (i141 A c l hsm hl w hA)
  clear hA
  go_enter Try.func127, Try.ntmps127
  go_wp2_with fail
  refine HI.out.mono ?_
  rintro e w1 ⟨j, rfl, hj, hb1⟩
  have HB1 := Aside0.mk hb1
  clear hb1 HI
  go_wp2_with fail
  go_ret
  exact ⟨rfl, HB1.out⟩
theorem tellB_no (a0 a1 : Int) (ss : List S154) (hs : List S152) (h : ¬ (0 ≤ a0 ∧ a0 ≤ 2147483647 ∧ (a1 = 1 ∨ a1 = 2) ∧ ss.length ≤ 16 ∧ hs.length ≤ 4)) : tellB a0 a1 ss hs = false := by
  unfold tellB
  rw [decide_eq_false h]; rfl
set_option maxHeartbeats 8000000 in
set_option maxRecDepth 100000 in
theorem check_walk (a0 a1 : Int) (b : Bool) (A : Option Addr) (c : Nat) (ss : List S154) (B : Option Addr) (d : Nat) (hs : List S152) (hsl : ss.length ≤ 1000000) (hhl : hs.length ≤ 1000000) (hsm : smallH hs) (w : World) (hA : Kd.C k154 w A ss.length ss) (hB : Kd.C k152 w B hs.length hs) :
    Calls Try.prog 91 #[.agg #[.int .i64 a0, .int .i64 a1, .bool b, .slice A ss.length c, .slice B hs.length d]] w fun e w' => e = .returned (.int .i64 (if tellB a0 a1 ss hs then 0 else 1)) ∧ Below w.heap.size w w' := by
  have HA := Aside0.mk (fun (W : World) (hb : Below w.heap.size w W) => n124 A c ss hsl W (Kd.C_below hA hb))
  have HH := Aside0.mk (fun (W : World) (hb : Below w.heap.size w W) => n127 B d hs hsm hhl W (Kd.C_below hB hb))
  have H0 := Aside0.mk (fun W => tell_within.calls a0 2147483647 _ W (within_f _ _))
  have H1 := Aside0.mk (fun W => tell_code.calls a1 _ W (code_f _))
  clear hA hB hsm
  obtain ⟨r, hr⟩ : ∃ r, r = tellB a0 a1 ss hs := ⟨_, rfl⟩
  rw [← hr]
  have HR := Aside0.mk hr
  clear hr
  go_enter Try.func91, Try.ntmps91
  go_wp2_with fail
  refine (H0.out _).mono ?_
  rintro e w1 ⟨rfl, hd1⟩
  have hk := (blk_one w #[.int .i64 a0, .int .i64 a1, .bool b, .slice A ss.length c, .slice B hs.length d] 108 _ rfl).below hd1.below
  have hb1 := below_step (below_alloc (Below.refl w.heap.size w) _) hd1.below
  have k0 : w1.cell? ⟨w.heap.size, 0, none⟩ = some (.int .i64 a0) := hk.cell 0
  have k1 : w1.cell? ⟨w.heap.size, 1, none⟩ = some (.int .i64 a1) := hk.cell 1
  have k2 : w1.cell? ⟨w.heap.size, 2, none⟩ = some (.bool b) := hk.cell 2
  have k3 : w1.cell? ⟨w.heap.size, 3, none⟩ = some (.slice A ss.length c) := hk.cell 3
  have k4 : w1.cell? ⟨w.heap.size, 4, none⟩ = some (.slice B hs.length d) := hk.cell 4
  have HK := Aside0.mk hk
  have HB1 := Aside0.mk hb1
  clear hd1 hk hb1 H0
  by_cases p1 : 0 ≤ a0 ∧ a0 ≤ 2147483647
  case neg =>
    have hr := HR.out
    rw [tellB_no a0 a1 ss hs (by omega)] at hr
    subst hr
    rw [decide_eq_false p1]
    clear p1
    go_wp2_with fail
    go_ret
    exact ⟨rfl, HB1.out⟩
  rw [decide_eq_true p1]
  go_wp2_with fail
  refine (H1.out _).mono ?_
  rintro e w2 ⟨rfl, hd2⟩
  have hk := HK.out.below hd2.below
  have hb2 := below_step HB1.out hd2.below
  have m0 : w2.cell? ⟨w.heap.size, 0, none⟩ = some (.int .i64 a0) := hk.cell 0
  have m1 : w2.cell? ⟨w.heap.size, 1, none⟩ = some (.int .i64 a1) := hk.cell 1
  have m2 : w2.cell? ⟨w.heap.size, 2, none⟩ = some (.bool b) := hk.cell 2
  have m3 : w2.cell? ⟨w.heap.size, 3, none⟩ = some (.slice A ss.length c) := hk.cell 3
  have m4 : w2.cell? ⟨w.heap.size, 4, none⟩ = some (.slice B hs.length d) := hk.cell 4
  have HK2 := Aside0.mk hk
  have HB2 := Aside0.mk hb2
  clear hd2 hk hb2 H1 HK HB1 k0 k1 k2 k3 k4
  cases p2 : codeB a1 with
  | false =>
    have hr := HR.out
    unfold codeB at p2
    rw [tellB_no a0 a1 ss hs (by simp at p2; omega)] at hr
    subst hr
    clear p1 p2
    go_wp2_with fail
    go_ret
    exact ⟨rfl, HB2.out⟩
  | true =>
    unfold codeB at p2
    simp only [decide_eq_true_eq] at p2
    by_cases p3 : 16 < ss.length
    · have d3 : decide ((16 : Int) < (ss.length : Int)) = true := decide_eq_true (by omega)
      have hr := HR.out
      rw [tellB_no a0 a1 ss hs (by omega)] at hr
      subst hr
      clear p1 p2 p3
      go_wp2_with fail
      go_ret
      exact ⟨rfl, HB2.out⟩
    · have d3 : decide ((16 : Int) < (ss.length : Int)) = false := decide_eq_false (by omega)
      by_cases p4 : 4 < hs.length
      · have d4 : decide ((4 : Int) < (hs.length : Int)) = true := decide_eq_true (by omega)
        have hr := HR.out
        rw [tellB_no a0 a1 ss hs (by omega)] at hr
        subst hr
        clear p1 p2 p3 p4
        go_wp2_with fail
        go_ret
        exact ⟨rfl, HB2.out⟩
      · have d4 : decide ((4 : Int) < (hs.length : Int)) = false := decide_eq_false (by omega)
        have hr := HR.out
        have hr2 : r = (ss.all statB && hs.all headB) := by
          rw [hr]; unfold tellB; rw [decide_eq_true (by omega)]; simp
        have HR2 := Aside0.mk hr2
        clear hr hr2 HR p1 p2 p3 p4
        go_wp2_with fail
        refine (HA.out _ HB2.out).mono ?_
        rintro e w3 ⟨rfl, hb3⟩
        have hk := HK2.out.below hb3
        have hb4 := below_step HB2.out hb3
        have k0 : w3.cell? ⟨w.heap.size, 0, none⟩ = some (.int .i64 a0) := hk.cell 0
        have k1 : w3.cell? ⟨w.heap.size, 1, none⟩ = some (.int .i64 a1) := hk.cell 1
        have k2 : w3.cell? ⟨w.heap.size, 2, none⟩ = some (.bool b) := hk.cell 2
        have k3 : w3.cell? ⟨w.heap.size, 3, none⟩ = some (.slice A ss.length c) := hk.cell 3
        have k4 : w3.cell? ⟨w.heap.size, 4, none⟩ = some (.slice B hs.length d) := hk.cell 4
        have HB3 := Aside0.mk hb4
        clear hb3 hk hb4 HA HK2 HB2 m0 m1 m2 m3 m4
        cases p5 : ss.all statB with
        | false =>
          have hr2 := HR2.out
          rw [p5, Bool.false_and] at hr2
          subst hr2
          clear p5
          go_wp2_with fail
          go_ret
          exact ⟨rfl, HB3.out⟩
        | true =>
          have hr2 := HR2.out
          rw [p5, Bool.true_and] at hr2
          have HR3 := Aside0.mk hr2
          clear hr2 p5 HR2
          go_wp2_with fail
          refine (HH.out _ HB3.out).mono ?_
          rintro e w4 ⟨rfl, hb4⟩
          have HB4 := Aside0.mk (below_step HB3.out hb4)
          clear hb4 HH HB3 k0 k1 k2 k3 k4
          cases p6 : hs.all headB with
          | false =>
            have hr2 := HR3.out
            rw [p6] at hr2
            subst hr2
            clear p6
            go_wp2_with fail
            go_ret
            exact ⟨rfl, HB4.out⟩
          | true =>
            have hr2 := HR3.out
            rw [p6] at hr2
            subst hr2
            clear p6
            go_wp2_with fail
            go_ret
            exact ⟨rfl, HB4.out⟩
def smallT (ss : List S154) (hs : List S152) : Bool := decide (ss.length ≤ 1000000) && (decide (hs.length ≤ 1000000) && hs.all fun h => decide (h.f0.size ≤ 1000000) && decide (h.f1.size ≤ 1000000))
theorem smallT_of (ss : List S154) (hs : List S152) (h : smallT ss hs = true) : ss.length ≤ 1000000 ∧ hs.length ≤ 1000000 ∧ smallH hs := by
  simp only [smallT, Bool.and_eq_true, decide_eq_true_eq, List.all_eq_true] at h
  exact ⟨h.1, h.2.1, h.2.2⟩
def tell_Check.f (a0_0 : Int) (a0_1 : Int) (a0_2 : Bool) (l0_3 : List S154) (l0_4 : List S152) : Option Int :=
  if smallT l0_3 l0_4 then some (if tellB a0_0 a0_1 l0_3 l0_4 then 0 else 1) else none
theorem tell_Check.calls (a0_0 : Int) (a0_1 : Int) (a0_2 : Bool) (A0_3 : Option Addr) (c0_3 : Nat) (l0_3 : List S154) (A0_4 : Option Addr) (c0_4 : Nat) (l0_4 : List S152) (r : Int) (w : World) (hr0_3 : Kd.C k154 w A0_3 l0_3.length l0_3) (hc0_3 : l0_3.length ≤ c0_3) (hr0_4 : Kd.C k152 w A0_4 l0_4.length l0_4) (hc0_4 : l0_4.length ≤ c0_4) (h : tell_Check.f a0_0 a0_1 a0_2 l0_3 l0_4 = some r) :
    Calls Try.prog 91 #[.agg #[.int .i64 a0_0, .int .i64 a0_1, .bool a0_2, .slice A0_3 l0_3.length c0_3, .slice A0_4 l0_4.length c0_4]] w fun e w' => e = .returned (.int .i64 r) ∧ Below w.heap.size w w' := by
  unfold tell_Check.f at h
  split at h
  · rename_i hs
    obtain rfl := Option.some.inj h
    obtain ⟨h1, h2, h3⟩ := smallT_of _ _ hs
    exact check_walk a0_0 a0_1 a0_2 A0_3 c0_3 l0_3 A0_4 c0_4 l0_4 h1 h2 h3 w hr0_3 hr0_4
  · cases h
end Go.Proofs.Ytnhblhhkjnmkkaa.Q
