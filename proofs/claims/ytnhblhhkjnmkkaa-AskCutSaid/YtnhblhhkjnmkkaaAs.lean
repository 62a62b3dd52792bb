/- slices.EqualFunc over descriptors with desc.Same, and ask.Same, walked. -/
import Derived.Test.YtnhblhhkjnmkkaaSm
namespace Go.Proofs.Ytnhblhhkjnmkkaa.Q
open Go.RowKit Go.Proofs.YtnhblhhkjnmkkaaW.PrintWords Go.Proofs.YtnhblhhkjnmkkaaW.PrintLast Go.Proofs.YtnhblhhkjnmkkaaW.PrintMore
open Go.Proofs.Ytnhblhhkjnmkkaa.Sp Go.Proofs.Ytnhblhhkjnmkkaa.Va
set_option linter.unusedVariables false
set_option linter.unusedSimpArgs false
set_option maxHeartbeats 4000000 in
set_option maxRecDepth 100000 in
theorem eqf_ne (A B : Option Addr) (c c' n m : Nat) (w : World) (h : n ≠ m) :
    Calls Try.prog 120 #[.slice A n c, .slice B m c', .func (.func 121) #[] #[]] w fun e w' => e = .returned (.bool false) ∧ w = w' := by
  have hd : ((n : Int) == (m : Int)) = false := beq_eq_false_iff_ne.2 (by omega)
  have hd2 : ((n : Int) != (m : Int)) = true := bne_iff_ne.2 (by omega)
  clear h
  go_enter Try.func120, Try.ntmps120
  go_wp2_with fail
  go_ret
  exact ⟨rfl, rfl⟩
set_option maxHeartbeats 4000000 in
set_option maxRecDepth 100000 in
theorem eqf_eq (A B : Option Addr) (c c' : Nat) (ds fs : List S140) (w : World) (hA : Kd.C k140 w A ds.length ds) (hB : Kd.C k140 w B fs.length fs) (hl : ds.length = fs.length) (M : Nat) (hM : M ≤ 1000000) (hs : ds.length ≤ M ∧ ∀ d ∈ ds, d.f0.length ≤ M) :
    Calls Try.prog 120 #[.slice A ds.length c, .slice B ds.length c', .func (.func 121) #[] #[]] w fun e w' => e = .returned (.bool (decide (ds = fs))) ∧ Below w.heap.size w w' := by
  have HA := Aside0.mk hA
  have HB := Aside0.mk hB
  have HL := Aside0.mk hl
  have HS := Aside0.mk hs
  have h0 := hs.1
  clear hA hB hl hs
  go_enter Try.func120, Try.ntmps120
  go_wp2_with fail
  go_loopg [17] (ds.length + 1) (fun kq v17 w' => ∃ i : Nat, v17 = .int .i64 (i : Int) ∧ Aside0 (i ≤ ds.length) ∧ Aside0 (kq = ds.length + 1 - i) ∧ Aside0 (Below w.heap.size w w') ∧ Aside0 (decide (ds = fs) = decide (ds.drop i = fs.drop i)))
  case atStart => exact ⟨0, rfl, ⟨Nat.zero_le _⟩, ⟨rfl⟩, ⟨Below.refl _ _⟩, ⟨rfl⟩⟩
  case round =>
    obtain ⟨i, rfl, hi, hkq, hb, hq⟩ := hrel
    by_cases c1 : i < ds.length
    · have d1 : decide ((i : Int) < (ds.length : Int)) = true := decide_eq_true (by omega)
      have e0 : 0 ≤ (i : Int) := by omega
      have e4 : (i : Int) < (ds.length : Int) := by omega
      obtain ⟨ad, A1, n1, eA, hx, hl1, hC1⟩ := at_T140 HA.out (i : Int) e0 e4
      cases eA
      obtain ⟨bd, B1, m1, eB, hy, hl2, hC2⟩ := at_T140 HB.out (i : Int) e0 (by have := HL.out; omega)
      cases eB
      have hxl := World.block_lt_of_cell? w _ hx
      have hyl := World.block_lt_of_cell? w _ hy
      replace hx := (hb.out.cell hxl).trans hx
      replace hy := (hb.out.cell hyl).trans hy
      rw [Int.toNat_natCast] at hx hy hxl hyl
      have hyl2 := Nat.lt_of_lt_of_le hyl hb.out.size
      have hDA := Aside0.mk (drop_T140 ds i c1)
      have hDB := Aside0.mk (drop_T140 fs i (by have := HL.out; omega))
      have hm : rd_T140 ds (i : Int) ∈ ds := List.mem_of_mem_drop (i := i) (by rw [hDA.out]; exact List.mem_cons_self ..)
      have hz := HS.out.2 _ hm
      obtain ⟨xs, hxs⟩ : ∃ x, x = rd_T140 ds (i : Int) := ⟨_, rfl⟩
      obtain ⟨ys, hys⟩ : ∃ x, x = rd_T140 fs (i : Int) := ⟨_, rfl⟩
      rw [← hxs] at hx hl1 hC1 hz
      rw [← hys] at hy hl2 hC2
      have hy2 : ∀ o, (wr.alloc o).cell? (bd.add i) = some (.slice B1 ys.f0.length m1) := fun o => (World.cell?_alloc_lt wr o _ hyl2).trans hy
      have HX := Aside0.mk (And.intro hxs hys)
      have HSM := Aside0.mk (same_f xs.f0 ys.f0 (by omega) (xs.f0.length + 1) (Nat.le_refl _))
      have HCC := Aside0.mk (And.intro hC1 (And.intro hC2 (And.intro hl1 hl2)))
      clear hxs hys hm hz hC1 hC2 hl1 hl2 hxl hyl hyl2 c1
      have HBW := Aside0.mk hb.out
      have HQ := Aside0.mk hq.out
      have HKQ := Aside0.mk hkq.out
      clear hb hq hkq
      by_cases cs : xs.f0 = ys.f0
      · have hsm := HSM.out
        rw [decide_eq_true cs] at hsm
        have HSM' := Aside0.mk hsm
        have exy : xs = ys := by cases xs; cases ys; simp_all
        have hq' : decide (ds = fs) = decide (ds.drop (i + 1) = fs.drop (i + 1)) := by
          rw [HQ.out, hDA.out, hDB.out, ← HX.out.1, ← HX.out.2, exy]; simp
        have HQ' := Aside0.mk hq'
        clear hsm HSM exy hq' cs
        go_wp2_with fail
        refine (desc_Same.calls _ A1 n1 xs.f0 B1 m1 ys.f0 true _ (Kd.C_alloc (Kd.C_alloc (Kd.C_below HCC.out.1 HBW.out) _) _) HCC.out.2.2.1 (Kd.C_alloc (Kd.C_alloc (Kd.C_below HCC.out.2.1 HBW.out) _) _) HCC.out.2.2.2 HSM'.out).mono ?_
        rintro e w2 ⟨rfl, hb2⟩
        have HB2 := Aside0.mk (below_step HBW.out (below_step (below_alloc (below_alloc (Below.refl _ _) _) _) hb2))
        have HIL := Aside0.mk e4
        clear hb2 e0 hx hy hy2 d1
        go_wp2_with fail
        go_roundg (ds.length + 1 - (i + 1))
        case measure => have := HKQ.out; have := HIL.out; omega
        case rel => exact ⟨i + 1, by first | (simp [wrap64, w64]; done) | (simp [wrap64, w64]; omega), ⟨by have := HIL.out; omega⟩, ⟨rfl⟩, HB2, HQ'⟩
      · have hsm := HSM.out
        rw [decide_eq_false cs] at hsm
        have HSM' := Aside0.mk hsm
        have exy : xs ≠ ys := fun e => cs (by rw [e])
        have hq' : decide (ds = fs) = false := by
          rw [HQ.out, hDA.out, hDB.out, ← HX.out.1, ← HX.out.2]; simp [exy]
        have HQ' := Aside0.mk hq'
        clear hsm HSM exy hq' cs
        go_wp2_with fail
        refine (desc_Same.calls _ A1 n1 xs.f0 B1 m1 ys.f0 false _ (Kd.C_alloc (Kd.C_alloc (Kd.C_below HCC.out.1 HBW.out) _) _) HCC.out.2.2.1 (Kd.C_alloc (Kd.C_alloc (Kd.C_below HCC.out.2.1 HBW.out) _) _) HCC.out.2.2.2 HSM'.out).mono ?_
        rintro e w2 ⟨rfl, hb2⟩
        have HB2 := Aside0.mk (below_step HBW.out (below_step (below_alloc (below_alloc (Below.refl _ _) _) _) hb2))
        clear hb2 e4 e0 hx hy hy2 d1
        go_wp2_with fail
        go_ret
        exact ⟨by rw [HQ'.out]; rfl, HB2.out⟩
    · have hie : i = ds.length := by have := hi.out; omega
      subst hie
      have d1 : decide ((ds.length : Int) < (ds.length : Int)) = false := decide_eq_false (by omega)
      have hq' : decide (ds = fs) = true := by
        rw [hq.out, List.drop_eq_nil_of_le (Nat.le_refl _), List.drop_eq_nil_of_le (by have := HL.out; omega)]; simp
      have HQ' := Aside0.mk hq'
      have HB2 := Aside0.mk hb.out
      clear hq hq' hb
      go_wp2_with fail
      go_ret
      exact ⟨by rw [HQ'.out]; rfl, HB2.out⟩
theorem eqf_calls (A B : Option Addr) (c c' : Nat) (ds fs : List S140) (w : World) (hA : Kd.C k140 w A ds.length ds) (hB : Kd.C k140 w B fs.length fs) (M : Nat) (hM : M ≤ 1000000) (hs : ds.length ≤ M ∧ ∀ d ∈ ds, d.f0.length ≤ M) :
    Calls Try.prog 120 #[.slice A ds.length c, .slice B fs.length c', .func (.func 121) #[] #[]] w fun e w' => e = .returned (.bool (decide (ds = fs))) ∧ Below w.heap.size w w' := by
  by_cases h : ds.length = fs.length
  · rw [← h]; exact eqf_eq A B c c' ds fs w hA hB h M hM hs
  · refine (eqf_ne A B c c' ds.length fs.length w h).mono ?_
    rintro e w' ⟨rfl, rfl⟩
    exact ⟨by rw [decide_eq_false (fun e => h (by rw [e]))], Below.refl _ _⟩
/-- Is no list of a request very long? -/
def shortB (M : Nat) (ds : List S140) : Bool := decide (ds.length ≤ M) && ds.all fun d => decide (d.f0.length ≤ M)
theorem short_of (M : Nat) (ds : List S140) (h : shortB M ds = true) : ds.length ≤ M ∧ ∀ d ∈ ds, d.f0.length ≤ M := by
  simp only [shortB, Bool.and_eq_true, decide_eq_true_eq, List.all_eq_true] at h
  exact h
def ask_Same.f (a0_0 : Int) (a0_1 : ByteArray) (a0_2 : Int) (l0_3 : List S140) (a1_0 : Int) (a1_1 : ByteArray) (a1_2 : Int) (l1_3 : List S140) : Option Bool :=
  if shortB 1000000 l0_3 then some (decide (a0_0 = a1_0 ∧ a0_1 = a1_1 ∧ a0_2 = a1_2 ∧ l0_3 = l1_3)) else none
set_option maxHeartbeats 4000000 in
set_option maxRecDepth 100000 in
theorem ask_Same.calls (a0_0 : Int) (a0_1 : ByteArray) (a0_2 : Int) (A0_3 : Option Addr) (c0_3 : Nat) (l0_3 : List S140) (a1_0 : Int) (a1_1 : ByteArray) (a1_2 : Int) (A1_3 : Option Addr) (c1_3 : Nat) (l1_3 : List S140) (r : Bool) (w : World) (hr0_3 : Kd.C k140 w A0_3 l0_3.length l0_3) (hc0_3 : l0_3.length ≤ c0_3) (hr1_3 : Kd.C k140 w A1_3 l1_3.length l1_3) (hc1_3 : l1_3.length ≤ c1_3) (h : ask_Same.f a0_0 a0_1 a0_2 l0_3 a1_0 a1_1 a1_2 l1_3 = some r) :
    Calls Try.prog 86 #[.agg #[.int .i64 a0_0, .string a0_1, .int .i64 a0_2, .slice A0_3 l0_3.length c0_3], .agg #[.int .i64 a1_0, .string a1_1, .int .i64 a1_2, .slice A1_3 l1_3.length c1_3]] w fun e w' => e = .returned (.bool r) ∧ Below w.heap.size w w' := by
  unfold ask_Same.f at h
  split at h
  · rename_i hs
    obtain rfl := Option.some.inj h
    have HS := Aside0.mk (short_of _ _ hs)
    have H0 := Aside0.mk hr0_3
    have H1 := Aside0.mk hr1_3
    clear h hs hr0_3 hr1_3
    by_cases c0 : a0_0 = a1_0
    · have b0 : (a0_0 == a1_0) = true := by simp [c0]
      by_cases c1 : a0_1 = a1_1
      · have b1 : (a0_1.toList == a1_1.toList) = true := by rw [str_beq]; exact decide_eq_true c1
        by_cases c2 : a0_2 = a1_2
        · have b2 : (a0_2 == a1_2) = true := by simp [c2]
          have e : decide (a0_0 = a1_0 ∧ a0_1 = a1_1 ∧ a0_2 = a1_2 ∧ l0_3 = l1_3) = decide (l0_3 = l1_3) := by simp [c0, c1, c2]
          rw [e]
          clear e c0 c1 c2
          go_enter Try.func86, Try.ntmps86
          go_wp2_with fail
          refine (eqf_calls _ _ _ _ l0_3 l1_3 _ (Kd.C_alloc (Kd.C_alloc H0.out _) _) (Kd.C_alloc (Kd.C_alloc H1.out _) _) 1000000 (Nat.le_refl _) HS.out).mono ?_
          rintro e w2 ⟨rfl, hb2⟩
          have HB2 := Aside0.mk (below_step (below_alloc (below_alloc (Below.refl _ _) _) _) hb2)
          clear hb2
          go_wp2_with fail
          go_ret
          exact ⟨rfl, HB2.out⟩
        · have b2 : (a0_2 == a1_2) = false := by simp [c2]
          have e : decide (a0_0 = a1_0 ∧ a0_1 = a1_1 ∧ a0_2 = a1_2 ∧ l0_3 = l1_3) = false := by simp [c2]
          rw [e]
          clear e c0 c1 c2
          go_enter Try.func86, Try.ntmps86
          go_wp2_with fail
          go_ret
          exact ⟨rfl, below_alloc (below_alloc (Below.refl _ _) _) _⟩
      · have b1 : (a0_1.toList == a1_1.toList) = false := by rw [str_beq]; exact decide_eq_false c1
        have e : decide (a0_0 = a1_0 ∧ a0_1 = a1_1 ∧ a0_2 = a1_2 ∧ l0_3 = l1_3) = false := by simp [c1]
        rw [e]
        clear e c0 c1
        go_enter Try.func86, Try.ntmps86
        go_wp2_with fail
        go_ret
        exact ⟨rfl, below_alloc (below_alloc (Below.refl _ _) _) _⟩
    · have b0 : (a0_0 == a1_0) = false := by simp [c0]
      have e : decide (a0_0 = a1_0 ∧ a0_1 = a1_1 ∧ a0_2 = a1_2 ∧ l0_3 = l1_3) = false := by simp [c0]
      rw [e]
      clear e c0
      go_enter Try.func86, Try.ntmps86
      go_wp2_with fail
      go_ret
      exact ⟨rfl, below_alloc (below_alloc (Below.refl _ _) _) _⟩
  · cases h
end Go.Proofs.Ytnhblhhkjnmkkaa.Q
