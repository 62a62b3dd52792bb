/- The walk of AskCut: a request's bytes that are cut off, or go on, are none. -/
import Derived.Test.YtnhblhhkjnmkkaaGd
import Derived.Test.YtnhblhhkjnmkkaaRd
import Derived.Test.YtnhblhhkjnmkkaaQ31
import Derived.Test.YtnhblhhkjnmkkaaQ29
import Derived.ArgAppend
namespace Go.Proofs.Ytnhblhhkjnmkkaa.Q
open Go.RowKit Go.Proofs.YtnhblhhkjnmkkaaW.PrintWords Go.Proofs.YtnhblhhkjnmkkaaW.PrintLast Go.Proofs.YtnhblhhkjnmkkaaW.PrintMore
open Go.Proofs.Ytnhblhhkjnmkkaa.Sp Go.Proofs.Ytnhblhhkjnmkkaa.Va
attribute [local go_sem] max_two min_two max2_int min2_int
set_option linter.unusedVariables false
set_option linter.unusedSimpArgs false
theorem a7_awake (W : World) : Calls Try.prog 76 #[] W fun e w' => e = .returned (.bool true) ∧ Below W.heap.size W w' := turncocklaw7_awake.calls true W rfl
theorem empty_row (W : World) (base : Nat) (hb : base ≤ W.heap.size) : Kd.R (Kd.int .u8) 5 (W.alloc (.cells #[] 5)) base (fun _ => True) (.slice (some ⟨W.heap.size, 0, none⟩) 0 0) [] :=
  Kd.R_of_own (h1 := fun _ => rfl) (xs := []) (enc := Value.int .u8) ⟨rfl, .inr ⟨W.heap.size, 0, _, rfl, hb, heap_alloc_new W _, Nat.le_refl _, by unfold maxLen; omega, rfl, rfl⟩⟩ (fun _ _ => trivial)
theorem dec_none (W : World) (A : Option Addr) (c : Nat) (l : List Int) (m : Nat) (hm : l.length = m) (h : Kd.C (Kd.int .u8) W A m l) (hc : m ≤ c) (hb : Bytes l) (hl : l.length ≤ 1000000) (hr : rask l = none) :
    Calls Try.prog 84 #[.slice A m c] W fun e w' => ∃ A' c', e = .returned (.tuple #[.agg #[.int .i64 0, .string ⟨#[]⟩, .int .i64 0, .slice A' 0 c'], .int .i64 2]) ∧ Below W.heap.size W w' := by
  subst hm
  refine (ask_Decode.calls A c l 0 ⟨#[]⟩ 0 [] 2 W h hc (by unfold ask_Decode.f; rw [if_pos ⟨hb, by omega⟩, hr])).mono ?_
  rintro e w' ⟨v, rfl, hs, hb⟩
  obtain ⟨A', c', e, _, _⟩ := Kd.S_reads hs
  subst e
  exact ⟨A', c', rfl, hb⟩
set_option maxHeartbeats 4000000 in
set_option maxRecDepth 100000 in
theorem cut_heavy (a0 : Int) (s : ByteArray) (a2 : Int) (A : Option Addr) (c : Nat) (ds : List S140) (a1 : Int) (A2 : Option Addr) (c2 : Nat) (l2 : List Int) (w : World) (hC : Kd.C k140 w A ds.length ds) (hc : ds.length ≤ c) (K : Nat) (hh : turncocklaw7_heavy.f K a0 s a2 ds = some true) :
    Calls Try.prog 22 #[.agg #[.int .i64 a0, .string s, .int .i64 a2, .slice A ds.length c], .int .i64 a1, .slice A2 l2.length c2] w fun e w' => e = .returned (.bool true) ∧ Below w.heap.size w w' := by
  have HC := Aside0.mk hC
  clear hC
  go_enter Try.func22, Try.ntmps22
  go_wp2_with fail
  refine (turncocklaw7_heavy.calls K a0 s a2 A c ds true _ (Kd.C_alloc HC.out _) hc hh).mono ?_
  rintro e w1 ⟨rfl, hb1⟩
  have HB1 := Aside0.mk (below_step (below_alloc (Below.refl w.heap.size w) _) hb1)
  clear hb1
  go_wp2_with fail
  refine (a7_awake _).mono ?_
  rintro e w2 ⟨rfl, hb2⟩
  have HB2 := Aside0.mk (below_step HB1.out hb2)
  clear hb2
  go_wp2_with fail
  go_ret
  exact ⟨rfl, HB2.out⟩
set_option maxHeartbeats 4000000 in
set_option maxRecDepth 100000 in
theorem cut_not (a0 : Int) (s : ByteArray) (a2 : Int) (A : Option Addr) (c : Nat) (ds : List S140) (a1 : Int) (A2 : Option Addr) (c2 : Nat) (l2 : List Int) (w : World) (hC : Kd.C k140 w A ds.length ds) (hc : ds.length ≤ c) (hC2 : Kd.C (Kd.int .u8) w A2 l2.length l2) (hc2 : l2.length ≤ c2) (K : Nat) (hK : 20000 ≤ K) (hh : turncocklaw7_heavy.f K a0 s a2 ds = some false) (hs : SmallA 5000 s ds) (ha : askB a0 s a2 ds = false) :
    Calls Try.prog 22 #[.agg #[.int .i64 a0, .string s, .int .i64 a2, .slice A ds.length c], .int .i64 a1, .slice A2 l2.length c2] w fun e w' => e = .returned (.bool true) ∧ Below w.heap.size w w' := by
  have HC := Aside0.mk hC
  have HC2 := Aside0.mk hC2
  have HK := Aside0.mk (ref_ask_f a0 s a2 ds 5000 (by omega) hs K (by omega))
  rw [ha] at HK
  have HE := Aside0.mk (ref_enc_f a0 s a2 ds hs K (by omega))
  rw [ha] at HE
  have HH := Aside0.mk hh
  clear hC hC2 hs hh
  go_enter Try.func22, Try.ntmps22
  go_wp2_with fail
  refine (turncocklaw7_heavy.calls K a0 s a2 A c ds false _ (Kd.C_alloc HC.out _) hc HH.out).mono ?_
  rintro e w1 ⟨rfl, hb1⟩
  have hk1 : Blk w1 w.heap.size #[.int .i64 a0, .string s, .int .i64 a2, .slice A ds.length c] := (blk_one w _ 95 _ rfl).below hb1
  have hb1' := below_step (below_alloc (Below.refl w.heap.size w) _) hb1
  have HB1 := Aside0.mk hb1'
  have HC1 := Aside0.mk (Kd.C_below HC.out hb1')
  have HK1 := Aside0.mk hk1
  have k0 : w1.cell? ⟨w.heap.size, 0, none⟩ = some (.int .i64 a0) := hk1.cell 0
  have k1 : w1.cell? ⟨w.heap.size, 1, none⟩ = some (.string s) := hk1.cell 1
  have k2 : w1.cell? ⟨w.heap.size, 2, none⟩ = some (.int .i64 a2) := hk1.cell 2
  have k3 : w1.cell? ⟨w.heap.size, 3, none⟩ = some (.slice A ds.length c) := hk1.cell 3
  clear hb1 hb1' hk1
  go_wp2_with fail
  refine (turncockref1_CheckAsk.calls K a0 s a2 A c ds false _ HC1.out hc HK.out).mono ?_
  rintro e w2 ⟨rfl, hb2⟩
  have HB2 := Aside0.mk (below_step HB1.out hb2)
  clear hb2 k0 k1 k2 k3
  go_wp2_with fail
  refine (a7_awake _).mono ?_
  rintro e w3 ⟨rfl, hb3⟩
  have HB3 := Aside0.mk (below_step HB2.out hb3)
  clear hb3
  go_wp2_with fail
  go_ret
  exact ⟨rfl, HB3.out⟩
set_option maxHeartbeats 4000000 in
set_option maxRecDepth 100000 in
theorem cut_long (a0 : Int) (s : ByteArray) (a2 : Int) (A : Option Addr) (c : Nat) (ds : List S140) (a1 : Int) (A2 : Option Addr) (c2 : Nat) (l2 : List Int) (w : World) (hC : Kd.C k140 w A ds.length ds) (hc : ds.length ≤ c) (hC2 : Kd.C (Kd.int .u8) w A2 l2.length l2) (hc2 : l2.length ≤ c2) (K : Nat) (hK : 20000 ≤ K) (hh : turncocklaw7_heavy.f K a0 s a2 ds = some false) (hs : SmallA 5000 s ds) (hm2 : l2.length ≤ 9223372036854775807) (ha : askB a0 s a2 ds = true) (hl : l2.length < 1 ∨ 1000 < l2.length) :
    Calls Try.prog 22 #[.agg #[.int .i64 a0, .string s, .int .i64 a2, .slice A ds.length c], .int .i64 a1, .slice A2 l2.length c2] w fun e w' => e = .returned (.bool true) ∧ Below w.heap.size w w' := by
  have HC := Aside0.mk hC
  have HC2 := Aside0.mk hC2
  have HK := Aside0.mk (ref_ask_f a0 s a2 ds 5000 (by omega) hs K (by omega))
  rw [ha] at HK
  have HE := Aside0.mk (ref_enc_f a0 s a2 ds hs K (by omega))
  rw [ha] at HE
  have HH := Aside0.mk hh
  clear hC hC2 hs hh
  go_enter Try.func22, Try.ntmps22
  go_wp2_with fail
  refine (turncocklaw7_heavy.calls K a0 s a2 A c ds false _ (Kd.C_alloc HC.out _) hc HH.out).mono ?_
  rintro e w1 ⟨rfl, hb1⟩
  have hk1 : Blk w1 w.heap.size #[.int .i64 a0, .string s, .int .i64 a2, .slice A ds.length c] := (blk_one w _ 95 _ rfl).below hb1
  have hb1' := below_step (below_alloc (Below.refl w.heap.size w) _) hb1
  have HB1 := Aside0.mk hb1'
  have HC1 := Aside0.mk (Kd.C_below HC.out hb1')
  have HK1 := Aside0.mk hk1
  have k0 : w1.cell? ⟨w.heap.size, 0, none⟩ = some (.int .i64 a0) := hk1.cell 0
  have k1 : w1.cell? ⟨w.heap.size, 1, none⟩ = some (.string s) := hk1.cell 1
  have k2 : w1.cell? ⟨w.heap.size, 2, none⟩ = some (.int .i64 a2) := hk1.cell 2
  have k3 : w1.cell? ⟨w.heap.size, 3, none⟩ = some (.slice A ds.length c) := hk1.cell 3
  clear hb1 hb1' hk1
  go_wp2_with fail
  refine (turncockref1_CheckAsk.calls K a0 s a2 A c ds true _ HC1.out hc HK.out).mono ?_
  rintro e w2 ⟨rfl, hb2⟩
  have HB2 := Aside0.mk (below_step HB1.out hb2)
  clear hb2 k0 k1 k2 k3
  by_cases c1 : l2.length < 1
  · have d1 : decide ((l2.length : Int) < 1) = true := decide_eq_true (by omega)
    clear hl c1
    go_wp2_with fail
    refine (a7_awake _).mono ?_
    rintro e w3 ⟨rfl, hb3⟩
    have HB3 := Aside0.mk (below_step HB2.out hb3)
    clear hb3
    go_wp2_with fail
    go_ret
    exact ⟨rfl, HB3.out⟩
  · have d1 : decide ((l2.length : Int) < 1) = false := decide_eq_false (by omega)
    have d2 : decide ((1000 : Int) < (l2.length : Int)) = true := decide_eq_true (by omega)
    clear hl c1
    go_wp2_with fail
    refine (a7_awake _).mono ?_
    rintro e w3 ⟨rfl, hb3⟩
    have HB3 := Aside0.mk (below_step HB2.out hb3)
    clear hb3
    go_wp2_with fail
    go_ret
    exact ⟨rfl, HB3.out⟩
set_option maxHeartbeats 4000000 in
set_option maxRecDepth 100000 in
theorem cut_main (a0 : Int) (s : ByteArray) (a2 : Int) (A : Option Addr) (c : Nat) (ds : List S140) (a1 : Int) (A2 : Option Addr) (c2 : Nat) (l2 : List Int) (w : World) (hC : Kd.C k140 w A ds.length ds) (hc : ds.length ≤ c) (hC2 : Kd.C (Kd.int .u8) w A2 l2.length l2) (hc2 : l2.length ≤ c2) (K : Nat) (hK : 20000 ≤ K) (hh : turncocklaw7_heavy.f K a0 s a2 ds = some false) (hs : SmallA 5000 s ds) (ha : askB a0 s a2 ds = true) (hbt : Bytes l2) (hl1 : 1 ≤ l2.length) (hl2 : l2.length ≤ 1000) (hw1 : -9223372036854775808 ≤ a1 ∧ a1 ≤ 9223372036854775807) :
    Calls Try.prog 22 #[.agg #[.int .i64 a0, .string s, .int .i64 a2, .slice A ds.length c], .int .i64 a1, .slice A2 l2.length c2] w fun e w' => e = .returned (.bool true) ∧ Below w.heap.size w w' := by
  have HA := Aside0.mk ha
  have HC := Aside0.mk hC
  have HC2 := Aside0.mk hC2
  have HK := Aside0.mk (ref_ask_f a0 s a2 ds 5000 (by omega) hs K (by omega))
  rw [ha] at HK
  have HE := Aside0.mk (ref_enc_f a0 s a2 ds hs K (by omega))
  rw [ha] at HE
  have HH := Aside0.mk hh
  clear hC hC2 hs hh
  go_enter Try.func22, Try.ntmps22
  go_wp2_with fail
  refine (turncocklaw7_heavy.calls K a0 s a2 A c ds false _ (Kd.C_alloc HC.out _) hc HH.out).mono ?_
  rintro e w1 ⟨rfl, hb1⟩
  have hk1 : Blk w1 w.heap.size #[.int .i64 a0, .string s, .int .i64 a2, .slice A ds.length c] := (blk_one w _ 95 _ rfl).below hb1
  have hb1' := below_step (below_alloc (Below.refl w.heap.size w) _) hb1
  have HB1 := Aside0.mk hb1'
  have HC1 := Aside0.mk (Kd.C_below HC.out hb1')
  have HK1 := Aside0.mk hk1
  have k0 : w1.cell? ⟨w.heap.size, 0, none⟩ = some (.int .i64 a0) := hk1.cell 0
  have k1 : w1.cell? ⟨w.heap.size, 1, none⟩ = some (.string s) := hk1.cell 1
  have k2 : w1.cell? ⟨w.heap.size, 2, none⟩ = some (.int .i64 a2) := hk1.cell 2
  have k3 : w1.cell? ⟨w.heap.size, 3, none⟩ = some (.slice A ds.length c) := hk1.cell 3
  clear hb1 hb1' hk1
  go_wp2_with fail
  refine (turncockref1_CheckAsk.calls K a0 s a2 A c ds true _ HC1.out hc HK.out).mono ?_
  rintro e w2 ⟨rfl, hb2⟩
  have hk2 := HK1.out.below hb2
  have HB2 := Aside0.mk (below_step HB1.out hb2)
  have HD2 := Aside0.mk (Kd.C_below HC1.out hb2)
  have k0' : w2.cell? ⟨w.heap.size, 0, none⟩ = some (.int .i64 a0) := hk2.cell 0
  have k1' : w2.cell? ⟨w.heap.size, 1, none⟩ = some (.string s) := hk2.cell 1
  have k2' : w2.cell? ⟨w.heap.size, 2, none⟩ = some (.int .i64 a2) := hk2.cell 2
  have k3' : w2.cell? ⟨w.heap.size, 3, none⟩ = some (.slice A ds.length c) := hk2.cell 3
  have d1 : decide ((l2.length : Int) < 1) = false := decide_eq_false (by omega)
  have d2 : decide ((1000 : Int) < (l2.length : Int)) = false := decide_eq_false (by omega)
  clear hb2 k0 k1 k2 k3 HB1 HC1 HK1 hk2
  go_wp2_with fail
  refine (turncockref1_EncodeAsk.calls K a0 s a2 A c ds (askW a0 s a2 ds) 0 _ HD2.out hc HE.out).mono ?_
  rintro e w3 ⟨v3, rfl, ho3, hb3⟩
  obtain ⟨A3, c3, e3, hc3, hC3⟩ := Kd.R_reads ho3
  subst e3
  have HY := Aside0.mk (And.intro (askW_len a0 s a2 ds HA.out) (And.intro (askW_bytes a0 s a2 ds) (And.intro (rask_cut a0 s a2 ds · HA.out · (askW_bytes a0 s a2 ds)) (rask_tail a0 s a2 ds · HA.out))))
  have hpos : 1 ≤ (askW a0 s a2 ds).length := by
    rw [askW, descsW_app]; simp
  obtain ⟨y, hy⟩ : ∃ y, y = askW a0 s a2 ds := ⟨_, rfl⟩
  rw [← hy] at HY hC3 hc3 hpos ⊢
  have hyl := HY.out.1
  have HDC := Aside0.mk (fun (m : Nat) (hm : m < y.length) => dec_none w3 A3 c3 (y.take m) m (by rw [List.length_take]; omega) (by have h := Kd.C_take (m := m) hC3 (by omega); rw [List.length_take, Nat.min_eq_left (by omega)] at h; exact h) (by omega) (HY.out.2.1.take m) (by rw [List.length_take]; omega) (HY.out.2.2.1 m hm))
  have HB3 := Aside0.mk (below_step HB2.out hb3)
  have HC3 := Aside0.mk hC3
  have HT := Aside0.mk (HY.out.2.2.2 l2 (by intro h; rw [h] at hl1; simp at hl1))
  have HBY := Aside0.mk (Bytes.append HY.out.2.1 hbt)
  clear hb3 hC3 ho3 k0' k1' k2' k3' HB2 HD2 hy d1 d2 HY HH HK HE HA HC hbt
  go_wp2_with fail
  all_goals
    refine (HDC.out _ (by omega)).mono ?_
    rintro e w4 ⟨A4, c4, rfl, hb4⟩
    have HB4 := Aside0.mk (below_step HB3.out hb4)
    have HC4 := Aside0.mk (Kd.C_alloc (Kd.C_below HC3.out hb4) (.cells #[.int .i64 0, .string ⟨#[]⟩, .int .i64 0, .slice A4 0 c4] 95))
    have HC5 := Aside0.mk (Kd.C_alloc (Kd.C_below HC2.out (below_step HB3.out hb4)) (.cells #[.int .i64 0, .string ⟨#[]⟩, .int .i64 0, .slice A4 0 c4] 95))
    clear hb4
    have HE5 := Aside0.mk (empty_row (w4.alloc (.cells #[.int .i64 0, .string ⟨#[]⟩, .int .i64 0, .slice A4 0 c4] 95)) (w4.heap.size + 1) (by simp))
    go_wp2_with (first
      | (at_builtin; refine Kd.R_append_rows (Kd.int .u8) (w0 := w4.alloc (.cells #[.int .i64 0, .string ⟨#[]⟩, .int .i64 0, .slice A4 0 c4] 95)) (w4.heap.size + 1) rfl (.tmp 49) (.tmp 50) 22 5 (.int .u8 0) 1 rfl Try.underlying22 info5 rfl (by decide) (by omega) (.slice (some ⟨w4.heap.size + 1, 0, none⟩) 0 0) [] y A3 y.length c3 (fun _ => True) (fun _ => False) rfl rfl ?aO ?aR (fun _ _ h => h) (fun _ h => h.elim) (fun _ _ => trivial) ?aB ?aS ?aL ?_; (case aO => simpa using HE5.out); (case aR => exact Kd.C_alloc HC4.out _); (case aB => have h := below_alloc (Below.refl (w4.alloc (.cells #[.int .i64 0, .string ⟨#[]⟩, .int .i64 0, .slice A4 0 c4] 95)).heap.size (w4.alloc (.cells #[.int .i64 0, .string ⟨#[]⟩, .int .i64 0, .slice A4 0 c4] 95))) (.cells #[] 5); simpa using h); (case aS => simp); (case aL => simp; omega); intro v5 w5 ho5 hb5 hg5 hat5; clear hg5 hat5; obtain ⟨A5, c5, e5⟩ := Kd.R_slice ho5; subst e5; have HO5 := Aside0.mk ho5; have HB5 := Aside0.mk hb5; clear ho5 hb5)
      | (at_builtin; refine Kd.R_append_rows (Kd.int .u8) (w0 := w4.alloc (.cells #[.int .i64 0, .string ⟨#[]⟩, .int .i64 0, .slice A4 0 c4] 95)) (w4.heap.size + 1) rfl (.tmp 51) (.tmp 52) 22 5 (.int .u8 0) 1 rfl Try.underlying22 info5 rfl (by decide) (by omega) _ ([] ++ y) l2 A2 l2.length c2 (fun _ => True) (fun _ => False) rfl rfl HO5.out ?aR (fun _ _ h => h) (fun _ h => h.elim) (fun _ _ => trivial) HB5.out ?aS ?aL ?_; (case aR => exact Kd.C_below HC5.out (by simpa using HB5.out)); (case aS => have := HB5.out.size; simpa using this); (case aL => simp; omega); intro v6 w6 ho6 hb6 hg6 hat6; clear hg6 hat6; obtain ⟨A6, c6, e6⟩ := Kd.R_slice ho6; subst e6; have HO6 := Aside0.mk ho6; have HB6 := Aside0.mk hb6; clear ho6 hb6)
      | fail)
    obtain ⟨_, hc6, hC6⟩ := Kd.R_reads' HO6.out
    have hl6 : (([] ++ y) ++ l2).length ≤ 1000000 := by simp; omega
    have HD6 := Aside0.mk (dec_none w6 A6 c6 (([] ++ y) ++ l2) (y.length + l2.length) (by simp) (by simpa using hC6) (by simpa using hc6) (by simpa using HBY.out) hl6 (by simpa using HT.out))
    have HB7 := Aside0.mk (below_step (below_alloc HB4.out _) (show Below _ _ w6 by simpa using HB6.out))
    clear HO6 HO5 HB5 HB6 HE5 hc6 hC6 hl6 HDC HC4 HC5 HC3 HC2
    refine HD6.out.mono ?_
    rintro e w7 ⟨A7, c7, rfl, hb7⟩
    have HB8 := Aside0.mk (below_step HB7.out hb7)
    clear hb7 HB7 HD6
    go_wp2_with fail
    refine (a7_awake _).mono ?_
    rintro e w8 ⟨rfl, hb8⟩
    have HB9 := Aside0.mk (below_step (below_alloc HB8.out _) hb8)
    clear hb8 HB8
    go_wp2_with fail
    go_ret
    exact ⟨rfl, HB9.out⟩
def turncocklaw7_AskCut.f (k : Nat) (a0_0 : Int) (a0_1 : ByteArray) (a0_2 : Int) (l0_3 : List S140) (a1 : Int) (l2 : List Int) : Option Bool :=
  if Bytes l2 ∧ (-9223372036854775808 ≤ a1 ∧ a1 ≤ 9223372036854775807) ∧ a0_1.size ≤ 200000000000000 ∧ l0_3.length * 24 ≤ 140737488351232 ∧ (∀ d ∈ l0_3, d.f0.length * 32 ≤ 140737488351232) then some true else none
theorem turncocklaw7_AskCut.calls (k : Nat) (a0_0 : Int) (a0_1 : ByteArray) (a0_2 : Int) (A0_3 : Option Addr) (c0_3 : Nat) (l0_3 : List S140) (a1 : Int) (A2 : Option Addr) (c2 : Nat) (l2 : List Int) (r : Bool) (w : World) (hr0_3 : Kd.C k140 w A0_3 l0_3.length l0_3) (hc0_3 : l0_3.length ≤ c0_3) (hr2 : Kd.C (Kd.int .u8) w A2 l2.length l2) (hc2 : l2.length ≤ c2) (h : turncocklaw7_AskCut.f k a0_0 a0_1 a0_2 l0_3 a1 l2 = some r) :
    Calls Try.prog 22 #[.agg #[.int .i64 a0_0, .string a0_1, .int .i64 a0_2, .slice A0_3 l0_3.length c0_3], .int .i64 a1, .slice A2 l2.length c2] w fun e w' => e = .returned (.bool r) ∧ Below w.heap.size w w' := by
  unfold turncocklaw7_AskCut.f at h
  split at h
  · rename_i hh
    obtain rfl := Option.some.inj h
    obtain ⟨h1, h2, h3, h4, h5⟩ := hh
    obtain ⟨K, b, hk, hb⟩ := heavy_f a0_0 a0_1 a0_2 l0_3 h3 h4 h5
    have hK := hk (K + 20000) (by omega)
    cases b with
    | true => exact cut_heavy a0_0 a0_1 a0_2 A0_3 c0_3 l0_3 a1 A2 c2 l2 w hr0_3 hc0_3 (K + 20000) hK
    | false =>
      have hs := hb rfl
      cases ha : askB a0_0 a0_1 a0_2 l0_3 with
      | false => exact cut_not a0_0 a0_1 a0_2 A0_3 c0_3 l0_3 a1 A2 c2 l2 w hr0_3 hc0_3 hr2 hc2 (K + 20000) (by omega) hK hs ha
      | true =>
        by_cases c : l2.length < 1 ∨ 1000 < l2.length
        · exact cut_long a0_0 a0_1 a0_2 A0_3 c0_3 l0_3 a1 A2 c2 l2 w hr0_3 hc0_3 hr2 hc2 (K + 20000) (by omega) hK hs hr2.2.1 ha c
        · exact cut_main a0_0 a0_1 a0_2 A0_3 c0_3 l0_3 a1 A2 c2 l2 w hr0_3 hc0_3 hr2 hc2 (K + 20000) (by omega) hK hs ha h1 (by omega) (by omega) h2
  · cases h
end Go.Proofs.Ytnhblhhkjnmkkaa.Q
