/- The reader of messages (package wires): what Num, Text, Open and End read, and that they give up by a panic where they may not. The bytes are bytes, fewer than 140737488351232. -/
import Derived.Test.YtnhblhhkjnmkkaaQ8
import Derived.Test.YtnhblhhkjnmkkaaVa
import Derived.WalkLawsBesides
import Derived.Recover
namespace Go.Proofs.Ytnhblhhkjnmkkaa.Q
open Go.RowKit Go.Proofs.YtnhblhhkjnmkkaaW.PrintWords Go.Proofs.YtnhblhhkjnmkkaaW.PrintLast Go.Proofs.YtnhblhhkjnmkkaaW.PrintMore
open Go.Proofs.Ytnhblhhkjnmkkaa.Sp Go.Proofs.Ytnhblhhkjnmkkaa.Va
set_option linter.unusedVariables false
set_option linter.unusedSimpArgs false
instance decBytes (l : List Int) : Decidable (Bytes l) := by unfold Bytes; infer_instance
/-- A reader's giving up. -/
def gaveUp : PanicEntry := { v := .iface 163 (.agg #[]), recovered := false }
/-- A reader in block g, made since W0, over what is left of bytes that lie below W0. -/
def Rat (W0 W : World) (g : Nat) (l : List Int) : Prop :=
  ∃ A c, W.heap[g]? = some (.cells #[.slice A l.length c] 166 (0, 0)) ∧ l.length ≤ c ∧ Kd.C (Kd.int .u8) W0 A l.length l ∧ Below W0.heap.size W0 W ∧ W0.heap.size ≤ g
theorem Rat.below {W0 W : World} {g : Nat} {l : List Int} (h : Rat W0 W g l) : Below W0.heap.size W0 W := by obtain ⟨_, _, _, _, _, h, _⟩ := h; exact h
theorem Rat.base {W0 W : World} {g : Nat} {l : List Int} (h : Rat W0 W g l) : W0.heap.size ≤ g := by obtain ⟨_, _, _, _, _, _, h⟩ := h; exact h
theorem Rat.more {W0 W W1 : World} {g : Nat} {l : List Int} (h : Rat W0 W g l) (hb : Below W.heap.size W W1) : Rat W0 W1 g l := by
  obtain ⟨A, c, h1, h2, h3, h4, h5⟩ := h
  exact ⟨A, c, blk_below h1 hb, h2, h3, below_step h4 hb, h5⟩
theorem Rat.far {W0 W : World} {g : Nat} {l : List Int} (h : Rat W0 W g l) (g' j : Nat) (v : Value) (hne : g ≠ g') (hg : W0.heap.size ≤ g') : Rat W0 (W.setCell ⟨g', j, none⟩ v) g l := by
  obtain ⟨A, c, h1, h2, h3, h4, h5⟩ := h
  exact ⟨A, c, blk_far h1 hne v, h2, h3, below_set h4 hg, h5⟩
theorem need_yes (p : Value) (W : World) : Calls Try.prog 138 #[p, .bool true] W fun e w' => e = .returned (.tuple #[]) ∧ W = w' := by
  go_enter Try.func138, Try.ntmps138
  go_wp2
  go_end0
  exact ⟨rfl, rfl⟩
theorem need_no (p : Value) (W : World) : Calls Try.prog 138 #[p, .bool false] W fun e w' => e = .panicked [gaveUp] ∧ W = w' := by
  go_enter Try.func138, Try.ntmps138
  go_wp2
  exact ⟨rfl, rfl, rfl⟩
/-- The next number, at most so great, and what is left. -/
def rnum (most : Nat) (l : List Int) : Option (Nat × List Int) :=
  if (getv 0 0 l).2.2 = 0 ∧ (getv 0 0 l).1 ≤ most then some ((getv 0 0 l).1, l.drop (getv 0 0 l).2.1) else none
theorem slice_from (A : Option Addr) (n c m : Nat) (hm : m ≤ n) (W : World) : (Instr.slice 22 (.slice A n c) (some (.int .i64 (m : Int))) none none).run Try.prog W = .ok (.slice (if c = m then A else A.map (·.add m)) (n - m) (c - m)) W := by
  obtain ⟨i0, hi, hz0, hz1, hz2⟩ := info_parts info5
  have h := cut_from (P := Try.prog) 22 5 .i64 Try.underlying22 hi 1 hz1 A n c (m : Int) (by omega) (by omega) W
  simpa using h
theorem rnum_lt {most : Nat} {l l' : List Int} {v : Nat} (hb : Bytes l) (h : rnum most l = some (v, l')) : v ≤ most ∧ l'.length ≤ l.length ∧ Bytes l' := by
  unfold rnum at h
  split at h
  · rename_i hc
    simp only [Option.some.injEq, Prod.mk.injEq] at h
    obtain ⟨rfl, rfl⟩ := h
    exact ⟨hc.2, by simp, hb.drop _⟩
  · cases h
set_option maxHeartbeats 2000000 in
set_option maxRecDepth 100000 in
theorem num_yes (W0 : World) (g : Nat) (l : List Int) (most v n : Nat) (W : World) (hr : Rat W0 W g l) (hb : Bytes l) (hl : l.length ≤ 140737488351232) (hm : most ≤ 9223372036854775807) (h : getv 0 0 l = (v, n, 0)) (hv : v ≤ most) :
    Calls Try.prog 109 #[.pointer (some ⟨g, 0, none⟩), .int .i64 (most : Int)] W fun e w' => e = .returned (.int .i64 (v : Int)) ∧ Rat W0 w' g (l.drop n) ∧ KeepBut W w' g none := by
  obtain ⟨A, c, h1, h2, h3, h4, h5⟩ := hr
  have hcell : W.cell? ⟨g, 0, none⟩ = some (.slice A l.length c) := blk_cell h1 0
  have HG := Aside0.mk (get_f l hb (by omega) 20 (by omega))
  have hn : n ≤ l.length := by
    obtain ⟨u, _, h6, h7, h8, _⟩ := getv_only l 0 0 v n hb (by omega) (by omega) h
    omega
  rw [h] at HG
  have HC := Aside0.mk (Kd.C_below h3 h4)
  have HC' := Aside0.mk h2
  have H1 := Aside0.mk h1
  have H3 := Aside0.mk h3
  have H4 := Aside0.mk h4
  have H5 := Aside0.mk h5
  have hvm : (v : Int) ≤ (most : Int) := by omega
  clear h hb hl h1 h2 h3 h4 h5 hv
  go_enter Try.func109, Try.ntmps109
  go_wp2_with fail
  refine (varint_Get.calls 20 _ _ l _ _ _ _ HC.out HC'.out HG.out).mono ?_
  rintro e w1 ⟨rfl, hb1⟩
  have HB1 := Aside0.mk (below_step H4.out hb1)
  have HK1 := Aside0.mk (blk_below H1.out hb1)
  have HKB := Aside0.mk (KeepBut.of_below hb1 g none)
  clear hb1 H1 H4 hcell
  go_wp2_with fail
  refine (need_yes _ _).mono ?_
  rintro e w2 ⟨rfl, rfl⟩
  have hc1 : w1.cell? ⟨g, 0, none⟩ = some (.slice A l.length c) := blk_cell HK1.out 0
  have hf1 : w1.frozen? ⟨g, 0, none⟩ = false := blk_frozen HK1.out 0
  have hcut := slice_from A l.length c n hn
  obtain ⟨A', hA'⟩ : ∃ A' : Option Addr, A' = (if c = n then A else A.map (·.add n)) := ⟨_, rfl⟩
  rw [← hA'] at hcut
  have HA := Aside0.mk hA'
  clear hA'
  go_wp2_with fail
  go_ret
  refine ⟨rfl, ⟨A', c - n, ?_, ?_, ?_, below_set HB1.out H5.out, H5.out⟩, HKB.out.set_ 0 _⟩
  · have hs := blk_set HK1.out 0 (.slice A' (l.length - n) (c - n))
    rw [List.length_drop]
    simpa using hs
  · rw [List.length_drop]
    have := HC'.out
    omega
  · rw [HA.out]
    have := Kd.C_drop (m := n) H3.out hn HC'.out
    simpa [Kd.int, Kd.scalar] using this
set_option maxHeartbeats 2000000 in
set_option maxRecDepth 100000 in
theorem num_no (W0 : World) (g : Nat) (l : List Int) (most : Nat) (W : World) (hr : Rat W0 W g l) (hb : Bytes l) (hl : l.length ≤ 140737488351232) (hm : most ≤ 9223372036854775807) (h : ¬ ((getv 0 0 l).2.2 = 0 ∧ (getv 0 0 l).1 ≤ most)) :
    Calls Try.prog 109 #[.pointer (some ⟨g, 0, none⟩), .int .i64 (most : Int)] W fun e w' => e = .panicked [gaveUp] ∧ Below W0.heap.size W0 w' ∧ KeepBut W w' g none := by
  obtain ⟨A, c, h1, h2, h3, h4, h5⟩ := hr
  have hcell : W.cell? ⟨g, 0, none⟩ = some (.slice A l.length c) := blk_cell h1 0
  have HG := Aside0.mk (get_f l hb (by omega) 20 (by omega))
  have HC := Aside0.mk (Kd.C_below h3 h4)
  have HC' := Aside0.mk h2
  have H4 := Aside0.mk h4
  obtain ⟨v, n, h6 | h6 | h6⟩ := getv_cases l 0 0
  · rw [h6] at HG h
    have hvm : (most : Int) < (v : Int) := by
      rcases Nat.lt_or_ge most v with h7 | h7
      · omega
      · exact absurd ⟨rfl, h7⟩ h
    have hvd : decide (v ≤ most) = false := decide_eq_false (by omega)
    clear h h6 hb hl h1 h2 h3 h4 h5
    go_enter Try.func109, Try.ntmps109
    go_wp2_with fail
    refine (varint_Get.calls 20 _ _ l _ _ _ _ HC.out HC'.out HG.out).mono ?_
    rintro e w1 ⟨rfl, hb1⟩
    have HB1 := Aside0.mk (below_step H4.out hb1)
    have HKB := Aside0.mk (KeepBut.of_below hb1 g none)
    clear hb1 hcell
    go_wp2_with fail
    refine (need_no _ _).mono ?_
    rintro e w2 ⟨rfl, rfl⟩
    go_wp2_with fail
    exact ⟨rfl, rfl, HB1.out, HKB.out⟩
  · rw [h6] at HG
    clear h h6 hb hl h1 h2 h3 h4 h5
    go_enter Try.func109, Try.ntmps109
    go_wp2_with fail
    refine (varint_Get.calls 20 _ _ l _ _ _ _ HC.out HC'.out HG.out).mono ?_
    rintro e w1 ⟨rfl, hb1⟩
    have HB1 := Aside0.mk (below_step H4.out hb1)
    have HKB := Aside0.mk (KeepBut.of_below hb1 g none)
    clear hb1 hcell
    go_wp2_with fail
    refine (need_no _ _).mono ?_
    rintro e w2 ⟨rfl, rfl⟩
    go_wp2_with fail
    exact ⟨rfl, rfl, HB1.out, HKB.out⟩
  · rw [h6] at HG
    clear h h6 hb hl h1 h2 h3 h4 h5
    go_enter Try.func109, Try.ntmps109
    go_wp2_with fail
    refine (varint_Get.calls 20 _ _ l _ _ _ _ HC.out HC'.out HG.out).mono ?_
    rintro e w1 ⟨rfl, hb1⟩
    have HB1 := Aside0.mk (below_step H4.out hb1)
    have HKB := Aside0.mk (KeepBut.of_below hb1 g none)
    clear hb1 hcell
    go_wp2_with fail
    refine (need_no _ _).mono ?_
    rintro e w2 ⟨rfl, rfl⟩
    go_wp2_with fail
    exact ⟨rfl, rfl, HB1.out, HKB.out⟩
/-- What a step of reading comes to: a value and what is left, or the giving up. -/
def Step {α : Type} (W0 W : World) (g : Nat) (mk : α → Value) (r : Option (α × List Int)) (e : Ending) (w' : World) : Prop :=
  match r with
  | some (x, l') => e = .returned (mk x) ∧ Rat W0 w' g l' ∧ KeepBut W w' g none
  | none => e = .panicked [gaveUp] ∧ Below W0.heap.size W0 w' ∧ KeepBut W w' g none
theorem num_calls (W0 : World) (g : Nat) (l : List Int) (most : Nat) (W : World) (hr : Rat W0 W g l) (hb : Bytes l) (hl : l.length ≤ 140737488351232) (hm : most ≤ 9223372036854775807) :
    Calls Try.prog 109 #[.pointer (some ⟨g, 0, none⟩), .int .i64 (most : Int)] W (Step W0 W g (fun v : Nat => .int .i64 (v : Int)) (rnum most l)) := by
  unfold rnum
  by_cases h : (getv 0 0 l).2.2 = 0 ∧ (getv 0 0 l).1 ≤ most
  · rw [if_pos h]
    exact num_yes W0 g l most _ _ W hr hb hl hm (Prod.ext rfl (Prod.ext rfl h.1)) h.2
  · rw [if_neg h]
    exact num_no W0 g l most W hr hb hl hm h
/-- The next text, of at most so many bytes, and what is left. -/
def rtext (most : Nat) (l : List Int) : Option (ByteArray × List Int) :=
  (rnum most l).bind fun p => if p.1 ≤ p.2.length then some (strOfNums (p.2.take p.1), p.2.drop p.1) else none
theorem rtext_lt {most : Nat} {l l' : List Int} {s : ByteArray} (hb : Bytes l) (h : rtext most l = some (s, l')) : s.size ≤ most ∧ l'.length ≤ l.length ∧ Bytes l' := by
  unfold rtext at h
  obtain ⟨⟨n, l1⟩, h1, h2⟩ := Option.bind_eq_some_iff.1 h
  obtain ⟨h3, h4, h5⟩ := rnum_lt hb h1
  split at h2
  · rename_i hc
    simp only [Option.some.injEq, Prod.mk.injEq] at h2
    obtain ⟨rfl, rfl⟩ := h2
    refine ⟨?_, ?_, h5.drop _⟩
    · rw [strOfNums_size, List.length_take]; simp only at hc ⊢; omega
    · simp only [List.length_drop]; omega
  · cases h2
theorem slice_to (A : Option Addr) (n c m : Nat) (hm : m ≤ n) (hc : n ≤ c) (W : World) : (Instr.slice 22 (.slice A n c) none (some (.int .i64 (m : Int))) none).run Try.prog W = .ok (.slice A m c) W := by
  obtain ⟨i0, hi, hz0, hz1, hz2⟩ := info_parts info5
  have h := cut_to (P := Try.prog) 22 5 .i64 Try.underlying22 hi A n c (m : Int) (by omega) (by omega) hc W
  simpa using h
set_option maxHeartbeats 2000000 in
set_option maxRecDepth 100000 in
theorem text_yes (W0 : World) (g : Nat) (l l1 : List Int) (most n : Nat) (W : World) (hr : Rat W0 W g l) (hb : Bytes l) (hl : l.length ≤ 140737488351232) (hm : most ≤ 9223372036854775807) (h : rnum most l = some (n, l1)) (hn : n ≤ l1.length) :
    Calls Try.prog 117 #[.pointer (some ⟨g, 0, none⟩), .int .i64 (most : Int)] W fun e w' => e = .returned (.string (strOfNums (l1.take n))) ∧ Rat W0 w' g (l1.drop n) ∧ KeepBut W w' g none := by
  have H := Aside0.mk h
  have HR := Aside0.mk hr
  have HB := Aside0.mk hb
  obtain ⟨hl1, hl2, _⟩ := rnum_lt hb h
  clear h hr hb
  go_enter Try.func117, Try.ntmps117
  go_wp2_with fail
  have hstep := num_calls W0 g l most W HR.out HB.out hl hm
  rw [H.out] at hstep
  have HS := Aside0.mk hstep
  clear hstep
  refine HS.out.mono ?_
  rintro e w1 ⟨rfl, hr1, hkb⟩
  obtain ⟨A, c, h1, h2, h3, h4, h5⟩ := hr1
  have HKB := Aside0.mk hkb
  clear hkb
  have hcell : w1.cell? ⟨g, 0, none⟩ = some (.slice A l1.length c) := blk_cell h1 0
  have hfz : w1.frozen? ⟨g, 0, none⟩ = false := blk_frozen h1 0
  have hnd : decide (n ≤ l1.length) = true := decide_eq_true hn
  have H1 := Aside0.mk h1
  have H2 := Aside0.mk h2
  have H3 := Aside0.mk h3
  have H4 := Aside0.mk h4
  have H5 := Aside0.mk h5
  clear h1 h2 h3 h4 h5 HS
  go_wp2_with fail
  refine (need_yes _ _).mono ?_
  rintro e w2 ⟨rfl, rfl⟩
  have hto := slice_to A l1.length c n hn H2.out
  have hfrom := slice_from A l1.length c n hn
  obtain ⟨A', hA'⟩ : ∃ A' : Option Addr, A' = (if c = n then A else A.map (·.add n)) := ⟨_, rfl⟩
  rw [← hA'] at hfrom
  have HA := Aside0.mk hA'
  have ht := Kd.C_take (m := n) (Kd.C_below H3.out H4.out) hn
  have hln : (l1.take n).length = n := by rw [List.length_take]; omega
  rw [hln] at ht
  have hcv : (convert 22 9 (.slice A n c)).run Try.prog w1 = .ok (.string (strOfNums (l1.take n))) w1 := Kd.C_string (c := c) Try.underlying22 Try.underlying5 Try.underlying9 ht
  clear hA' ht hln
  go_wp2_with fail
  go_ret
  refine ⟨rfl, ⟨A', c - n, ?_, ?_, ?_, below_set H4.out H5.out, H5.out⟩, HKB.out.set_ 0 _⟩
  · have hs := blk_set H1.out 0 (.slice A' (l1.length - n) (c - n))
    rw [List.length_drop]
    simpa using hs
  · rw [List.length_drop]
    have := H2.out
    omega
  · rw [HA.out]
    have := Kd.C_drop (m := n) H3.out hn H2.out
    simpa [Kd.int, Kd.scalar] using this
set_option maxHeartbeats 2000000 in
set_option maxRecDepth 100000 in
theorem text_no1 (W0 : World) (g : Nat) (l : List Int) (most : Nat) (W : World) (hr : Rat W0 W g l) (hb : Bytes l) (hl : l.length ≤ 140737488351232) (hm : most ≤ 9223372036854775807) (hn : rnum most l = none) :
    Calls Try.prog 117 #[.pointer (some ⟨g, 0, none⟩), .int .i64 (most : Int)] W fun e w' => e = .panicked [gaveUp] ∧ Below W0.heap.size W0 w' ∧ KeepBut W w' g none := by
  have hstep := num_calls W0 g l most W hr hb hl hm
  rw [hn] at hstep
  have HS := Aside0.mk hstep
  clear hstep hn hr hb
  go_enter Try.func117, Try.ntmps117
  go_wp2_with fail
  refine HS.out.mono ?_
  rintro e w1 ⟨rfl, hb1, hk1⟩
  have HB1 := Aside0.mk hb1
  have HK1 := Aside0.mk hk1
  clear hb1 hk1
  go_wp2_with fail
  exact ⟨rfl, rfl, HB1.out, HK1.out⟩
set_option maxHeartbeats 2000000 in
set_option maxRecDepth 100000 in
theorem text_no2 (W0 : World) (g : Nat) (l l1 : List Int) (most n : Nat) (W : World) (hr : Rat W0 W g l) (hb : Bytes l) (hl : l.length ≤ 140737488351232) (hm : most ≤ 9223372036854775807) (hn : rnum most l = some (n, l1)) (hlt : l1.length < n) :
    Calls Try.prog 117 #[.pointer (some ⟨g, 0, none⟩), .int .i64 (most : Int)] W fun e w' => e = .panicked [gaveUp] ∧ Below W0.heap.size W0 w' ∧ KeepBut W w' g none := by
  have hstep := num_calls W0 g l most W hr hb hl hm
  have hnd : decide (n ≤ l1.length) = false := decide_eq_false (by omega)
  obtain ⟨hl1, hl2, _⟩ := rnum_lt hb hn
  rw [hn] at hstep
  have HS := Aside0.mk hstep
  clear hstep hn hr hb
  go_enter Try.func117, Try.ntmps117
  go_wp2_with fail
  refine HS.out.mono ?_
  rintro e w1 ⟨rfl, hr1, hk1⟩
  obtain ⟨A, c, h1, h2, h3, h4, h5⟩ := hr1
  have hcell : w1.cell? ⟨g, 0, none⟩ = some (.slice A l1.length c) := blk_cell h1 0
  have HB1 := Aside0.mk h4
  have HK1 := Aside0.mk hk1
  clear h1 h2 h3 h4 h5 hk1 HS
  go_wp2_with fail
  refine (need_no _ _).mono ?_
  rintro e w2 ⟨rfl, rfl⟩
  go_wp2_with fail
  exact ⟨rfl, rfl, HB1.out, HK1.out⟩
theorem text_calls (W0 : World) (g : Nat) (l : List Int) (most : Nat) (W : World) (hr : Rat W0 W g l) (hb : Bytes l) (hl : l.length ≤ 140737488351232) (hm : most ≤ 9223372036854775807) :
    Calls Try.prog 117 #[.pointer (some ⟨g, 0, none⟩), .int .i64 (most : Int)] W (Step W0 W g (fun s : ByteArray => .string s) (rtext most l)) := by
  cases hn : rnum most l with
  | none =>
    have e : rtext most l = none := by rw [rtext, hn]; rfl
    rw [e]
    exact text_no1 W0 g l most W hr hb hl hm hn
  | some p =>
    obtain ⟨n, l1⟩ := p
    rcases Nat.lt_or_ge l1.length n with h1 | h1
    · have e : rtext most l = none := by rw [rtext, hn]; simp; omega
      rw [e]
      exact text_no2 W0 g l l1 most n W hr hb hl hm hn h1
    · have e : rtext most l = some (strOfNums (l1.take n), l1.drop n) := by rw [rtext, hn]; simp [h1]
      rw [e]
      exact text_yes W0 g l l1 most n W hr hb hl hm hn h1
set_option maxHeartbeats 2000000 in
theorem end_yes (W0 : World) (g : Nat) (W : World) (hr : Rat W0 W g []) : Calls Try.prog 110 #[.pointer (some ⟨g, 0, none⟩)] W fun e w' => e = .returned (.tuple #[]) ∧ W = w' := by
  obtain ⟨A, c, h1, _⟩ := hr
  have hcell : W.cell? ⟨g, 0, none⟩ = some (.slice A 0 c) := blk_cell h1 0
  clear h1
  go_enter Try.func110, Try.ntmps110
  go_wp2_with fail
  refine (need_yes _ _).mono ?_
  rintro e w2 ⟨rfl, rfl⟩
  go_wp2_with fail
  go_end0
  exact ⟨rfl, rfl⟩
set_option maxHeartbeats 2000000 in
theorem end_no (W0 : World) (g : Nat) (l : List Int) (W : World) (hr : Rat W0 W g l) (hl : l ≠ []) : Calls Try.prog 110 #[.pointer (some ⟨g, 0, none⟩)] W fun e w' => e = .panicked [gaveUp] ∧ W = w' := by
  obtain ⟨A, c, h1, _⟩ := hr
  have hcell : W.cell? ⟨g, 0, none⟩ = some (.slice A l.length c) := blk_cell h1 0
  have hne : (l.length == 0) = false := by cases l with | nil => exact absurd rfl hl | cons a t => simp
  have hne2 : ((l.length : Int) == 0) = false := by cases l with | nil => exact absurd rfl hl | cons a t => simp; omega
  clear h1 hl
  go_enter Try.func110, Try.ntmps110
  go_wp2_with fail
  refine (need_no _ _).mono ?_
  rintro e w2 ⟨rfl, rfl⟩
  go_wp2_with fail
  exact ⟨rfl, rfl, rfl⟩
/-- What is behind the first byte, if it is the one. -/
def ropen (kind : Int) : List Int → Option (List Int)
  | c :: t => if c = kind then some t else none
  | [] => none
set_option maxHeartbeats 2000000 in
set_option maxRecDepth 100000 in
theorem open_nil (A : Option Addr) (c : Nat) (kind : Int) (W : World) : Calls Try.prog 108 #[.slice A 0 c, .int .u8 kind] W fun e w' => e = .panicked [gaveUp] ∧ Below W.heap.size W w' := by
  go_enter Try.func108, Try.ntmps108
  go_wp2_with fail
  refine (need_no _ _).mono ?_
  rintro e w2 ⟨rfl, rfl⟩
  go_wp2_with fail
  exact ⟨rfl, rfl, below_alloc (Below.refl _ _) _⟩
set_option maxHeartbeats 2000000 in
set_option maxRecDepth 100000 in
theorem open_other (A : Option Addr) (c : Nat) (b kind : Int) (t : List Int) (W : World) (hC : Kd.C (Kd.int .u8) W A (b :: t).length (b :: t)) (hk : b ≠ kind) : Calls Try.prog 108 #[.slice A (t.length + 1) c, .int .u8 kind] W fun e w' => e = .panicked [gaveUp] ∧ Below W.heap.size W w' := by
  obtain ⟨ad, _, rfl, _, hK, hcc⟩ := Kd.C_get hC 0 0 (by omega) (by simp)
  have h0 := hcc 0
  have hkb : (b == kind) = false := by simpa using hk
  have hcell : W.cell? ad = some (.int .u8 b) := by
    have h2 : _ = [Value.int .u8 b] := hK
    subst h2
    have h3 := h0 _ rfl
    simpa [Addr.add] using h3
  have hcell2 : (W.alloc (.cells #[.slice (some ad) (t.length + 1) c] 166)).cell? ad = some (.int .u8 b) := (World.cell?_alloc_lt W _ ad (World.block_lt_of_cell? W ad hcell)).trans hcell
  have hm := hC.2.1
  simp only [List.length_cons] at hm
  clear hC hK hcc h0 hk
  go_enter Try.func108, Try.ntmps108
  go_wp2_with fail
  refine (need_no _ _).mono ?_
  rintro e w2 ⟨rfl, rfl⟩
  go_wp2_with fail
  exact ⟨rfl, rfl, below_alloc (Below.refl _ _) _⟩
set_option maxHeartbeats 2000000 in
set_option maxRecDepth 100000 in
theorem open_yes (W0 : World) (A : Option Addr) (c : Nat) (b : Int) (t : List Int) (W : World) (hC0 : Kd.C (Kd.int .u8) W0 A (b :: t).length (b :: t)) (hc : (b :: t).length ≤ c) (hb : Below W0.heap.size W0 W) :
    Calls Try.prog 108 #[.slice A (t.length + 1) c, .int .u8 b] W fun e w' => e = .returned (.pointer (some ⟨W.heap.size, 0, none⟩)) ∧ Rat W0 w' W.heap.size t ∧ KeepBut W w' W.heap.size none := by
  have hC := Kd.C_below hC0 hb
  have HC0 := Aside0.mk hC0
  have HB := Aside0.mk hb
  have HC := Aside0.mk hc
  obtain ⟨ad, _, rfl, _, hK, hcc⟩ := Kd.C_get hC 0 0 (by omega) (by simp)
  have h0 := hcc 0
  have hcell : W.cell? ad = some (.int .u8 b) := by
    have h2 : _ = [Value.int .u8 b] := hK
    subst h2
    have h3 := h0 _ rfl
    simpa [Addr.add] using h3
  have hcell2 : (W.alloc (.cells #[.slice (some ad) (t.length + 1) c] 166)).cell? ad = some (.int .u8 b) := (World.cell?_alloc_lt W _ ad (World.block_lt_of_cell? W ad hcell)).trans hcell
  have hm := hC.2.1
  simp only [List.length_cons] at hm hc
  have hfrom0 : ∀ W : World, (Instr.slice 22 (.slice (some ad) (t.length + 1) c) (some (.int .i64 1)) none none).run Try.prog W = .ok (.slice (if c = 1 then some ad else (some ad).map (·.add 1)) t.length (c - 1)) W := slice_from (some ad) (t.length + 1) c 1 (by omega)
  obtain ⟨A', hA'⟩ : ∃ A' : Option Addr, A' = (if c = 1 then some ad else (some ad).map (·.add 1)) := ⟨_, rfl⟩
  rw [← hA'] at hfrom0
  have HA := Aside0.mk hA'
  clear hC hK hcc h0 hA' hC0 hb
  go_enter Try.func108, Try.ntmps108
  go_wp2_with fail
  refine (need_yes _ _).mono ?_
  rintro e w2 ⟨rfl, rfl⟩
  go_wp2_with fail
  go_ret
  refine ⟨rfl, ⟨A', c - 1, ?_, ?_, ?_, ?_, HB.out.size⟩, ?_⟩
  · have hs := heap_alloc_new W (.cells #[.slice A' t.length (c - 1)] 166)
    simpa using hs
  · have := HC.out
    simp only [List.length_cons] at this
    omega
  · rw [HA.out]
    have := Kd.C_drop (m := 1) HC0.out (by simp) HC.out
    simpa [Kd.int, Kd.scalar] using this
  · exact below_alloc HB.out _
  · exact KeepBut.of_below (below_alloc (Below.refl _ _) _) _ none
end Go.Proofs.Ytnhblhhkjnmkkaa.Q
