/- The walk of VarintPuts: whatever bytes and number come, the call returns true and changes nothing that was there. The arguments are bytes and a number of 64 bits. -/
import Derived.Test.YtnhblhhkjnmkkaaQ5
import Derived.Test.YtnhblhhkjnmkkaaVa
import Derived.ArgAppend
namespace Go.Proofs.Ytnhblhhkjnmkkaa.Q
open Go.RowKit Go.Proofs.YtnhblhhkjnmkkaaW.PrintWords Go.Proofs.YtnhblhhkjnmkkaaW.PrintLast Go.Proofs.YtnhblhhkjnmkkaaW.PrintMore
open Go.Proofs.Ytnhblhhkjnmkkaa.Sp Go.Proofs.Ytnhblhhkjnmkkaa.Va
set_option linter.unusedVariables false
set_option linter.unusedSimpArgs false

theorem append_empty (W : World) (a : Addr) (n c : Nat) (hn : n ≤ c) (A : Option Addr) (c2 : Nat) (ty : TypeId) : (Builtin.append_ #[22, 22] ty #[.slice (some a) n c, .slice A 0 c2]).run Try.prog W = .ok (.slice (some a) n c) W := by
  obtain ⟨i0, hi, hz0, hz1, hz2⟩ := info_parts info5
  cases A with
  | none => simp [Builtin.append_, run_underlying Try.underlying22, sizeOf, typeInfo, hi, Builtin.lenOf, Builtin.firstCells, hn, storeCells]
  | some b =>
    have hfc := run_firstCells_some (P := Try.prog) W i0.size 0 b 0 c2 [] (by simp) (by simp)
    simp [Builtin.append_, run_underlying Try.underlying22, sizeOf, typeInfo, hi, Builtin.lenOf, hfc, hn, storeCells]
theorem slice_tail (g cap n m : Nat) (hn : n < m) (hm : m ≤ cap) (W : World) : (Instr.slice 22 (.slice (some ⟨g, 0, none⟩) m cap) (some (.int .i64 (n : Int))) (some (.int .i64 (m : Int))) (some (.int .i64 (m : Int)))).run Try.prog W = .ok (.slice (some ⟨g, n, none⟩) (m - n) (m - n)) W := by
  obtain ⟨i0, hi, hz0, hz1, hz2⟩ := info_parts info5
  have hel : Try.prog.elem 22 = 5 := by simp [Program.elem, Try.underlying22]
  have hu : Try.prog.underlying 22 = some (.slice (Try.prog.elem 22)) := by rw [hel]; exact Try.underlying22
  rw [run_slice_lhm W 22 _ m cap hu .i64 .i64 .i64 n m m (by omega) (by omega) (by omega) (by omega), hel]
  have e1 : ¬ m = n := by omega
  simp [sizeOf, typeInfo, hi, hz1, sliced, Result.andThen, Addr.add, e1]
  exact fun h => h.symm

theorem wpList_append_run {P : Program} (w : World) {ops : Array Oper} {rest : List Oper} {o : Oper} {a : Act} {Q : Exit → Act → World → Prop} (hg : o.guard = none) (s x : Operand) (t : TypeId)
    (hop : o.op = Op.call { callee := Callee.builtin Builtin.append, args := #[s, x], argTypes := #[t, t] }) (v1 v2 v' : Value) (w' : World) (h1 : a.eval s = v1) (h2 : a.eval x = v2)
    (hrun : (Builtin.append_ #[t, t] o.type #[v1, v2]).run P w = .ok v' w') (hK : wpList P ops Q rest (a.put o.dst v') w') : wpList P ops Q (o :: rest) a w := by
  refine wpList_plain hg fun K hK' => ?_
  unfold Oper.wp
  simp [execOp, hop, resolve, invoke, builtin, h1, h2, hrun, Result.andThen]
  exact hK' _ _ hK
/-- append onto a slice that is full, of bytes that are read: what comes out reads as both. -/
theorem append_read (W : World) (b : Addr) (n : Nat) (olds : List Int) (hold : Kd.C (Kd.int .u8) W (some b) n olds) (A : Option Addr) (m c : Nat) (news : List Int) (hnew : Kd.C (Kd.int .u8) W A m news) (hb : n + m ≤ 100000) (ty : TypeId) :
    ∃ A' c' w', (Builtin.append_ #[22, 22] ty #[.slice (some b) n n, .slice A m c]).run Try.prog W = .ok (.slice A' (n + m) c') w' ∧ n + m ≤ c' ∧ Kd.C (Kd.int .u8) w' A' (n + m) (olds ++ news) ∧ Below W.heap.size W w' := by
  rcases Nat.eq_zero_or_pos m with hm | hm
  · subst hm
    have hn : news = [] := List.eq_nil_of_length_eq_zero hnew.1
    subst hn
    exact ⟨some b, n, W, append_empty W b n n (Nat.le_refl _) A c ty, Nat.le_refl _, by rw [List.append_nil]; exact hold, Below.refl _ _⟩
  · obtain ⟨i0, hi, hz0, hz1, hz2⟩ := info_parts info5
    obtain ⟨ad, rfl, hnc⟩ := hnew.2.2 hm
    have hln := hnew.1
    have hlo := hold.1
    obtain ⟨v', w', hrun, r1, r2⟩ := run_append_arg_grows (P := Try.prog) W 22 ty 5 i0 (.int .u8 0) 1 1 Try.underlying22 hi hz0 hz1 hz2 rfl (by decide) b n n (encs (Value.int .u8) olds) (by simp [encs]; omega) (fun j u hu => by
      have hj : j < olds.length := by have := (List.getElem?_eq_some_iff.1 hu).1; simpa [encs] using this
      obtain ⟨ad2, e2, hc2⟩ := hold.2.2 (by omega)
      obtain rfl := Option.some.inj e2
      obtain ⟨cs, _, hk, hcell⟩ := hc2 j olds[j] (List.getElem?_eq_getElem hj)
      have hk2 : cs = [.int .u8 olds[j]] := hk
      subst hk2
      have h3 := hcell 0 _ rfl
      have hu2 : u = .int .u8 olds[j] := by
        simp [encs, List.getElem?_eq_getElem hj] at hu
        exact hu.symm
      rw [hu2]
      simpa [Kd.int, Kd.scalar] using h3) ad m c (encs (Value.int .u8) news) (by simp [encs]; omega) (fun j u hu => by
      have hj : j < news.length := by have := (List.getElem?_eq_some_iff.1 hu).1; simpa [encs] using this
      obtain ⟨cs, _, hk, hcell⟩ := hnc j news[j] (List.getElem?_eq_getElem hj)
      have hk2 : cs = [.int .u8 news[j]] := hk
      subst hk2
      have h3 := hcell 0 _ rfl
      have hu2 : u = .int .u8 news[j] := by
        simp [encs, List.getElem?_eq_getElem hj] at hu
        exact hu.symm
      rw [hu2]
      simpa [Kd.int, Kd.scalar] using h3) (by omega) (by unfold maxLen; omega) (by omega)
    have hlen : (olds ++ news).length = n + m := by rw [List.length_append]; omega
    have hR : Kd.R (Kd.int .u8) 5 w' W.heap.size (fun _ => True) v' (olds ++ news) := Kd.R_of_own (by rw [hlen, encs_append]; exact r1) (fun _ _ => trivial)
    obtain ⟨A', c', e1, h1, h2⟩ := Kd.R_reads hR
    rw [hlen] at e1 h1 h2
    subst e1
    exact ⟨A', c', w', hrun, h1, h2, ⟨r2.os, r2.tape, r2.output, r2.size, fun i hi => r2.block i hi (by simp)⟩⟩

def turncocklaw2_VarintPuts.f (k : Nat) (l0 : List Int) (a1 : Int) (l2 : List Int) : Option Bool :=
  if (∀ x ∈ l0, 0 ≤ x ∧ x ≤ 255) ∧ (∀ x ∈ l2, 0 ≤ x ∧ x ≤ 255) ∧ 0 ≤ a1 ∧ a1 < 18446744073709551616 then some true else none

theorem puts_awake (W : World) : Calls Try.prog 27 #[] W fun e w' => e = .returned (.bool true) ∧ Below W.heap.size W w' := turncocklaw2_awake.calls 30 true W awake2

set_option maxHeartbeats 4000000 in
set_option maxRecDepth 100000 in
theorem puts_long (A0 : Option Addr) (c0 : Nat) (l0 : List Int) (a1 : Int) (A2 : Option Addr) (c2 : Nat) (l2 : List Int) (w : World) (hm0 : l0.length ≤ 9223372036854775807) (hm2 : l2.length ≤ 9223372036854775807) (h : 1000 < l0.length ∨ 1000 < l2.length) :
    Calls Try.prog 3 #[.slice A0 l0.length c0, .int .u64 a1, .slice A2 l2.length c2] w fun e w' => e = .returned (.bool true) ∧ Below w.heap.size w w' := by
  by_cases h0 : 1000 < l0.length
  · have e0 : decide ((1000 : Int) < (l0.length : Int)) = true := decide_eq_true (by omega)
    clear h
    go_enter Try.func3, Try.ntmps3
    go_wp2_with fail
    refine (puts_awake _).mono ?_
    rintro e w1 ⟨rfl, hb⟩
    have HB := Aside0.mk hb
    clear hb
    go_wp2_with fail
    go_ret
    exact ⟨rfl, HB.out⟩
  · have h2 : 1000 < l2.length := by omega
    have e0 : decide ((1000 : Int) < (l0.length : Int)) = false := decide_eq_false (by omega)
    have e2 : decide ((1000 : Int) < (l2.length : Int)) = true := decide_eq_true (by omega)
    clear h
    go_enter Try.func3, Try.ntmps3
    go_wp2_with fail
    refine (puts_awake _).mono ?_
    rintro e w1 ⟨rfl, hb⟩
    have HB := Aside0.mk hb
    clear hb
    go_wp2_with fail
    go_ret
    exact ⟨rfl, HB.out⟩

set_option maxHeartbeats 4000000 in
set_option maxRecDepth 100000 in
theorem puts_short (A0 : Option Addr) (c0 : Nat) (l0 : List Int) (n : Nat) (A2 : Option Addr) (c2 : Nat) (l2 : List Int) (w : World) (hr0 : Kd.C (Kd.int .u8) w A0 l0.length l0) (hc0 : l0.length ≤ c0) (hr2 : Kd.C (Kd.int .u8) w A2 l2.length l2) (hc2 : l2.length ≤ c2)
    (hb0 : Bytes l0) (hb2 : Bytes l2) (hn : n < 18446744073709551616) (h0 : l0.length ≤ 1000) (h2 : l2.length ≤ 1000) :
    Calls Try.prog 3 #[.slice A0 l0.length c0, .int .u64 (n : Int), .slice A2 l2.length c2] w fun e w' => e = .returned (.bool true) ∧ Below w.heap.size w w' := by
  have e0 : decide ((1000 : Int) < (l0.length : Int)) = false := decide_eq_false (by omega)
  have e2 : decide ((1000 : Int) < (l2.length : Int)) = false := decide_eq_false (by omega)
  have h10 := putv_le10 n hn
  have hpos := putv_pos n
  have HR0 := Aside0.mk hr0
  have HC0 := Aside0.mk hc0
  have HR2 := Aside0.mk hr2
  have HC2 := Aside0.mk hc2
  have HB0 := Aside0.mk hb0
  have HB2 := Aside0.mk hb2
  have HN := Aside0.mk hn
  have HP := Aside0.mk (put_f n l0 30 (by omega) (by omega))
  have HQ := Aside0.mk (ref_put_f n hn l0 30 (by omega) (by omega))
  obtain ⟨y, hy⟩ : ∃ y, y = l0 ++ putv n := ⟨_, rfl⟩
  have hyl : y.length = l0.length + (putv n).length := by rw [hy, List.length_append]
  rw [← hy] at HP HQ
  have HY := Aside0.mk hy
  have hy1 : l0.length < y.length := by omega
  have hy2 : y.length ≤ 1010 := by omega
  have HYL := Aside0.mk hyl
  clear hr0 hc0 hr2 hc2 hb0 hb2 hn hy hyl h10 hpos
  go_enter Try.func3, Try.ntmps3
  go_wp2_with fail
  refine (varint_Put.calls 30 _ _ l0 _ y _ HR0.out HC0.out HP.out).mono ?_
  rintro e w1 ⟨v1, rfl, ho1, hb1⟩
  have HO1 := Aside0.mk ho1
  have HB1 := Aside0.mk hb1
  clear ho1 hb1
  go_wp2_with fail
  refine (turncockref1_Put.calls 30 _ _ l0 _ y _ (Kd.C_below HR0.out HB1.out) HC0.out HQ.out).mono ?_
  rintro e w2 ⟨v2, rfl, ho2, hb2⟩
  have HO2 := Aside0.mk ho2
  have HO3 := Aside0.mk (Kd.R_below HO1.out hb2)
  have HB3 := Aside0.mk (below_step HB1.out hb2)
  clear ho2 hb2 HO1 HB1
  obtain ⟨g, cp, e1, _⟩ := Kd.R_form HO3.out (by omega)
  subst e1
  obtain ⟨hlc, hC3⟩ := (Kd.R_reads' HO3.out).2
  have HC3 := Aside0.mk hC3
  obtain ⟨A5, c5, e5, hc5, hC5⟩ := Kd.R_reads HO2.out
  subst e5
  have HC5 := Aside0.mk hC5
  clear hC3 hC5
  go_wp2_with fail
  refine (turncockref1_Bytes.calls _ _ y _ _ y true _ HC3.out hlc HC5.out hc5 (by simp [turncockref1_Bytes.f])).mono ?_
  rintro e w3 ⟨rfl, hd⟩
  have HB4 := Aside0.mk (below_step HB3.out hd.below)
  have HC4 := Aside0.mk (Kd.C_below HC3.out hd.below)
  clear hd HC5 HC3 HO2 HO3
  have hsl := slice_tail g cp l0.length y.length hy1 hlc
  have hdrop : y.drop l0.length = putv n := by rw [HY.out]; simp
  have htail := Kd.C_drop (m := l0.length) HC4.out (by omega) hlc
  have hne : ¬ cp = l0.length := by omega
  rw [if_neg hne, List.length_drop, hdrop] at htail
  have htail2 : Kd.C (Kd.int .u8) w3 (some ⟨g, l0.length, none⟩) (y.length - l0.length) (putv n) := by
    have := htail
    simpa [Kd.int, Kd.scalar, add_plain] using this
  obtain ⟨A6, c6, w4, hrun, hc6, hC6, hb6⟩ := append_read w3 ⟨g, l0.length, none⟩ (y.length - l0.length) (putv n) htail2 A2 l2.length c2 l2 (Kd.C_below HR2.out HB4.out) (by omega) 22
  have HRUN := Aside0.mk hrun
  have HC6 := Aside0.mk hC6
  have HB6 := Aside0.mk (below_step HB4.out hb6)
  have HC6' := Aside0.mk hc6
  clear hrun hC6 hb6 hc6 htail htail2 hdrop hne HB4
  go_wp2_with (at_builtin; refine wpList_append_run _ rfl (.tmp 37) (.tmp 38) 22 rfl _ _ _ _ rfl rfl HRUN.out ?_)
  have hyl2 := HYL.out
  obtain ⟨p, hp⟩ : ∃ p, p = (putv n).length := ⟨_, rfl⟩
  rw [← hp] at hyl2
  have e5 : ((p : Int) == (y.length : Int) - (l0.length : Int)) = true := beq_iff_eq.2 (by omega)
  have hq : (putv n ++ l2).length = y.length - l0.length + l2.length := by rw [List.length_append]; omega
  have hG : varint_Get.f 30 (putv n ++ l2) = some ((n : Int), (p : Int), 0) := by
    have h10 := putv_le10 n HN.out
    rw [get_f (putv n ++ l2) ((putv_bytes n).append HB2.out) (by rw [hq]; omega) 30 (by omega), getv_putv n 0 0 l2 (by have := HN.out; omega) (Or.inl rfl)]
    simp [told, hp]
  have hcall := varint_Get.calls 30 A6 c6 (putv n ++ l2) n p 0 w4 (by rw [hq]; exact HC6.out) (by rw [hq]; exact HC6'.out) hG
  rw [hq] at hcall
  have hL : varint_Len.f 30 (n : Int) = some (p : Int) := by rw [len_f n HN.out 30 (by omega), hp]
  have HL := Aside0.mk hL
  have HCL := Aside0.mk hcall
  clear hcall hG hq hyl2 hL hp HRUN HC6 HP HQ HY HYL HC4
  refine HCL.out.mono ?_
  rintro e w5 ⟨rfl, hb5⟩
  have HB5 := Aside0.mk (below_step HB6.out hb5)
  clear hb5 HB6 HCL
  go_wp2_with fail
  refine (varint_Len.calls 30 _ _ _ HL.out).mono ?_
  rintro e w6 ⟨rfl, hd⟩
  have HB7 := Aside0.mk (below_step HB5.out hd.below)
  clear hd HB5
  go_wp2_with fail
  refine (puts_awake _).mono ?_
  rintro e w7 ⟨rfl, hb7⟩
  have HB8 := Aside0.mk (below_step HB7.out hb7)
  clear hb7 HB7
  go_wp2_with fail
  go_ret
  exact ⟨rfl, HB8.out⟩

theorem turncocklaw2_VarintPuts.calls (k : Nat) (A0 : Option Addr) (c0 : Nat) (l0 : List Int) (a1 : Int) (A2 : Option Addr) (c2 : Nat) (l2 : List Int) (r : Bool) (w : World) (hr0 : Kd.C (Kd.int .u8) w A0 l0.length l0) (hc0 : l0.length ≤ c0) (hr2 : Kd.C (Kd.int .u8) w A2 l2.length l2) (hc2 : l2.length ≤ c2)
    (h : turncocklaw2_VarintPuts.f k l0 a1 l2 = some r) : Calls Try.prog 3 #[.slice A0 l0.length c0, .int .u64 a1, .slice A2 l2.length c2] w fun e w' => e = .returned (.bool r) ∧ Below w.heap.size w w' := by
  unfold turncocklaw2_VarintPuts.f at h
  split at h
  · rename_i hh
    obtain rfl := Option.some.inj h
    obtain ⟨h1, h2, h3, h4⟩ := hh
    obtain ⟨n, rfl⟩ := Int.eq_ofNat_of_zero_le h3
    by_cases c : 1000 < l0.length ∨ 1000 < l2.length
    · exact puts_long A0 c0 l0 _ A2 c2 l2 w hr0.2.1 hr2.2.1 c
    · exact puts_short A0 c0 l0 n A2 c2 l2 w hr0 hc0 hr2 hc2 h1 h2 (by omega) (by omega) (by omega)
  · cases h
end Go.Proofs.Ytnhblhhkjnmkkaa.Q
