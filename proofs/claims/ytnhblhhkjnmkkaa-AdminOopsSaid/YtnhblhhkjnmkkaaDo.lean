/- The decoding of an oops (package admin: DecodeOops, and its closure), walked; and the contracts of both decodings, as the printed functions ask for them. -/
import Derived.Test.YtnhblhhkjnmkkaaDe
import Derived.Test.YtnhblhhkjnmkkaaEa
namespace Go.Proofs.Ytnhblhhkjnmkkaa.Q
open Go.RowKit Go.Proofs.YtnhblhhkjnmkkaaW.PrintWords Go.Proofs.YtnhblhhkjnmkkaaW.PrintLast Go.Proofs.YtnhblhhkjnmkkaaW.PrintMore
open Go.Proofs.Ytnhblhhkjnmkkaa.Sp Go.Proofs.Ytnhblhhkjnmkkaa.Va
set_option linter.unusedVariables false
set_option linter.unusedSimpArgs false
/-- A block of its own: so many cells. -/
def Blk (W : World) (g : Nat) (vs : Array Value) : Prop := ∃ t, W.heap[g]? = some (.cells vs t (0, 0))
theorem Blk.cell {W : World} {g : Nat} {vs : Array Value} (h : Blk W g vs) (i : Nat) : W.cell? ⟨g, i, none⟩ = vs[i]? := by obtain ⟨t, h⟩ := h; exact blk_cell h i
theorem Blk.frozen {W : World} {g : Nat} {vs : Array Value} (h : Blk W g vs) (i : Nat) : W.frozen? ⟨g, i, none⟩ = false := by obtain ⟨t, h⟩ := h; exact blk_frozen h i
theorem Blk.below {W W1 : World} {g : Nat} {vs : Array Value} (h : Blk W g vs) (hb : Below W.heap.size W W1) : Blk W1 g vs := by obtain ⟨t, h⟩ := h; exact ⟨t, blk_below h hb⟩
theorem Blk.set_ {W : World} {g : Nat} {vs : Array Value} (h : Blk W g vs) (i : Nat) (v : Value) : Blk (W.setCell ⟨g, i, none⟩ v) g (vs.setIfInBounds i v) := by obtain ⟨t, h⟩ := h; exact ⟨t, by simpa using blk_set h i v⟩
theorem Blk.far {W : World} {g g' : Nat} {vs : Array Value} (h : Blk W g vs) (hne : g ≠ g') (i : Nat) (v : Value) : Blk (W.setCell ⟨g', i, none⟩ v) g vs := by obtain ⟨t, h⟩ := h; exact ⟨t, blk_far h hne v⟩
theorem Blk.but {W W1 : World} {g g' : Nat} {vs : Array Value} (h : Blk W g vs) (hk : KeepBut W W1 g' none) (hne : g ≠ g') : Blk W1 g vs := by
  obtain ⟨t, h⟩ := h; exact ⟨t, (hk.2 g (blk_lt h) hne (by simp)).trans h⟩
theorem Blk.alloc {W : World} {g : Nat} {vs : Array Value} (h : Blk W g vs) (o : Obj) : Blk (W.alloc o) g vs := by obtain ⟨t, h⟩ := h; exact ⟨t, blk_alloc h o⟩
theorem Blk.drew {W : World} {g : Nat} {vs : Array Value} (h : Blk W g vs) : Blk W.drew g vs := by obtain ⟨t, h⟩ := h; exact ⟨t, blk_drew h⟩
theorem blk_one (W : World) (vs : Array Value) (t : TypeId) (g : Nat) (hg : W.heap.size = g) : Blk (W.alloc (.cells vs t)) g vs := ⟨t, by subst hg; simpa using heap_alloc_new W (.cells vs t)⟩
theorem One.far' {W : World} {g g' : Nat} {v : Value} (h : One W g v) (hne : g ≠ g') (i : Nat) (v' : Value) : One (W.setCell ⟨g', i, none⟩ v') g v := by obtain ⟨t, h⟩ := h; exact ⟨t, blk_far h hne v'⟩
set_option maxRecDepth 10000 in
theorem oops1_gave (go ge : Nat) (a0 a1 a2 a3 : Int) (e : Int) (w : World) (ho : Blk w go #[.int .i64 a0, .int .i64 a1, .int .i64 a2, .int .i64 a3]) (he : One w ge (.int .i64 e)) (h1 : go ≠ ge) (W0 : World) (hW : Below W0.heap.size W0 w) (hB : W0.heap.size ≤ go ∧ W0.heap.size ≤ ge) :
    CallsD Try.prog 106 #[.pointer (some ⟨go, 0, none⟩), .pointer (some ⟨ge, 0, none⟩)] (.panicking [gaveUp]) w fun e u' w' =>
      e = .returned (.tuple #[]) ∧ u' = .panicking [{ gaveUp with recovered := true }] ∧ Below W0.heap.size W0 w' ∧ Blk w' go #[.int .i64 0, .int .i64 0, .int .i64 0, .int .i64 0] ∧ One w' ge (.int .i64 2) := by
  refine callsD_of_wpS Try.func106 rfl fun c₀ cs hu => ?_
  apply wpS_seq
  apply wpS_region
  simp [wpOpsS, go_sem, recoverD, hu, Try.ntmps106, Exit.thenS, gaveUp]
  refine (none_gave w).mono ?_
  rintro e1 w1 ⟨rfl, hb⟩
  have ho1 := ho.below hb
  have he1 := he.below hb
  have ck0 := ho1.cell 0
  have ck1 := ho1.cell 1
  have ck2 := ho1.cell 2
  have ck3 := ho1.cell 3
  simp [wpOpsS, go_sem, Exit.thenS]
  refine wpS_cond (t := true) (by simp [Act.eval, Array.replicate]) ?_
  simp only [if_true]
  apply wpS_region
  have hb1 := below_step hW hb
  have fr0 := ho1.frozen 0
  have fr1 := ho1.frozen 1
  have fr2 := ho1.frozen 2
  have fr3 := ho1.frozen 3
  have q1 : Blk _ go #[.int .i64 0, .int .i64 0, .int .i64 0, .int .i64 0] := (((ho1.set_ 0 (.int .i64 0)).set_ 1 (.int .i64 0)).set_ 2 (.int .i64 0)).set_ 3 (.int .i64 0)
  have r1 := (((he1.far' h1.symm 0 (.int .i64 0)).far' h1.symm 1 (.int .i64 0)).far' h1.symm 2 (.int .i64 0)).far' h1.symm 3 (.int .i64 0)
  have r2 := r1.set_ (.int .i64 2)
  have q2 := q1.far h1 0 (.int .i64 2)
  have HB := below_set (below_set (below_set (below_set (below_set hb1 (g := go) (j := 0) hB.1 (v := .int .i64 0)) (g := go) (j := 1) hB.1 (v := .int .i64 0)) (g := go) (j := 2) hB.1 (v := .int .i64 0)) (g := go) (j := 3) hB.1 (v := .int .i64 0)) (g := ge) (j := 0) hB.2 (v := .int .i64 2)
  simp [wpOpsS, go_sem, ck0, ck1, ck2, ck3, fr0, fr1, fr2, fr3, r1.cell, r1.frozen, bodyPostS, results, Try.results106]
  exact ⟨HB, q2, r2⟩
set_option maxRecDepth 10000 in
theorem oops1_bad (go ge : Nat) (a0 a1 a2 a3 : Int) (e : Int) (w : World) (hm : ¬ MayO a0 a1 a2 a3) (ho : Blk w go #[.int .i64 a0, .int .i64 a1, .int .i64 a2, .int .i64 a3]) (he : One w ge (.int .i64 e)) (h1 : go ≠ ge) (W0 : World) (hW : Below W0.heap.size W0 w) (hB : W0.heap.size ≤ go ∧ W0.heap.size ≤ ge) :
    CallsD Try.prog 106 #[.pointer (some ⟨go, 0, none⟩), .pointer (some ⟨ge, 0, none⟩)] .returning w fun e u' w' =>
      e = .returned (.tuple #[]) ∧ u' = .returning ∧ Below W0.heap.size W0 w' ∧ Blk w' go #[.int .i64 0, .int .i64 0, .int .i64 0, .int .i64 0] ∧ One w' ge (.int .i64 2) := by
  have H : admin_may.f a0 a1 a2 a3 = some false := by rw [may_f, decide_eq_false hm]
  refine callsD_of_wpS Try.func106 rfl fun c₀ cs hu => ?_
  apply wpS_seq
  apply wpS_region
  have dk0 := ho.cell 0
  have dk1 := ho.cell 1
  have dk2 := ho.cell 2
  have dk3 := ho.cell 3
  simp [wpOpsS, go_sem, recoverD, hu, Try.ntmps106, Exit.thenS]
  refine (none_nil w).mono ?_
  rintro e1 w1 ⟨rfl, rfl⟩
  simp [wpOpsS, go_sem, Exit.thenS, dk0, dk1, dk2, dk3]
  refine (admin_may.calls _ _ _ _ _ _ H).mono ?_
  rintro e1 w1 ⟨rfl, hb⟩
  have ho1 := ho.below hb
  have he1 := he.below hb
  have ck0 := ho1.cell 0
  have ck1 := ho1.cell 1
  have ck2 := ho1.cell 2
  have ck3 := ho1.cell 3
  simp [wpOpsS, go_sem, Exit.thenS]
  refine wpS_cond (t := true) (by simp [Act.eval, Array.replicate]) ?_
  simp only [if_true]
  apply wpS_region
  have hb1 := below_step hW hb
  have fr0 := ho1.frozen 0
  have fr1 := ho1.frozen 1
  have fr2 := ho1.frozen 2
  have fr3 := ho1.frozen 3
  have q1 : Blk _ go #[.int .i64 0, .int .i64 0, .int .i64 0, .int .i64 0] := (((ho1.set_ 0 (.int .i64 0)).set_ 1 (.int .i64 0)).set_ 2 (.int .i64 0)).set_ 3 (.int .i64 0)
  have r1 := (((he1.far' h1.symm 0 (.int .i64 0)).far' h1.symm 1 (.int .i64 0)).far' h1.symm 2 (.int .i64 0)).far' h1.symm 3 (.int .i64 0)
  have r2 := r1.set_ (.int .i64 2)
  have q2 := q1.far h1 0 (.int .i64 2)
  have HB := below_set (below_set (below_set (below_set (below_set hb1 (g := go) (j := 0) hB.1 (v := .int .i64 0)) (g := go) (j := 1) hB.1 (v := .int .i64 0)) (g := go) (j := 2) hB.1 (v := .int .i64 0)) (g := go) (j := 3) hB.1 (v := .int .i64 0)) (g := ge) (j := 0) hB.2 (v := .int .i64 2)
  simp [wpOpsS, go_sem, ck0, ck1, ck2, ck3, fr0, fr1, fr2, fr3, r1.cell, r1.frozen, bodyPostS, results, Try.results106]
  exact ⟨.returning, by cases c₀; cases hu; rfl, rfl, HB, q2, r2⟩
set_option maxRecDepth 10000 in
theorem oops1_good (go : Nat) (q : Value) (a0 a1 a2 a3 : Int) (w : World) (hm : MayO a0 a1 a2 a3) (ho : Blk w go #[.int .i64 a0, .int .i64 a1, .int .i64 a2, .int .i64 a3]) :
    CallsD Try.prog 106 #[.pointer (some ⟨go, 0, none⟩), q] .returning w fun e u' w' =>
      e = .returned (.tuple #[]) ∧ u' = .returning ∧ Below w.heap.size w w' := by
  have H : admin_may.f a0 a1 a2 a3 = some true := by rw [may_f, decide_eq_true hm]
  refine callsD_of_wpS Try.func106 rfl fun c₀ cs hu => ?_
  apply wpS_seq
  apply wpS_region
  have dk0 := ho.cell 0
  have dk1 := ho.cell 1
  have dk2 := ho.cell 2
  have dk3 := ho.cell 3
  simp [wpOpsS, go_sem, recoverD, hu, Try.ntmps106, Exit.thenS]
  refine (none_nil w).mono ?_
  rintro e1 w1 ⟨rfl, rfl⟩
  simp [wpOpsS, go_sem, Exit.thenS, dk0, dk1, dk2, dk3]
  refine (admin_may.calls _ _ _ _ _ _ H).mono ?_
  rintro e1 w1 ⟨rfl, hb⟩
  simp [wpOpsS, go_sem, Exit.thenS]
  refine wpS_cond (t := false) (by simp [Act.eval, Array.replicate]) ?_
  simp only [Bool.false_eq_true, if_false]
  refine wpS_of_wp (wp_skip ?_)
  cases c₀
  simp_all [bodyPostS, results, Try.results106]
/-- The four numbers of an oops, if the bytes are one that may be. -/
def roops (l : List Int) : Option (Nat × Nat × Nat × Nat) :=
  (ropen 5 l).bind fun l1 => (rnum 2147483647 l1).bind fun p => (rnum 8 p.2).bind fun q => (rnum 17 q.2).bind fun r => (rnum 4294967295 r.2).bind fun s => if s.2 = [] ∧ 1 ≤ q.1 then some (p.1, q.1, r.1, s.1) else none
def toldO : Option (Nat × Nat × Nat × Nat) → Ending
  | some (a, b, c, d) => .returned (.tuple #[.agg #[.int .i64 (a : Int), .int .i64 (b : Int), .int .i64 (c : Int), .int .i64 (d : Int)], .int .i64 0])
  | none => .returned (.tuple #[.agg #[.int .i64 0, .int .i64 0, .int .i64 0, .int .i64 0], .int .i64 2])
theorem out74 (x0 x1 x4 x5 x6 x7 x8 x9 x10 x11 x12 x13 x14 x15 x16 x17 x18 x19 x20 x21 x22 : Value) (go ge : Nat) (a b c d e : Value) (R : Ending → World → Prop) (w : World) (ho : Blk w go #[a, b, c, d]) (he : One w ge e) (h : R (.returned (.tuple #[.agg #[a, b, c, d], e])) w) :
    Leaves Try.prog Try.f74 #[x0, x1, .pointer (some ⟨go, 0, none⟩), .pointer (some ⟨ge, 0, none⟩), x4, x5, x6, x7, x8, x9, x10, x11, x12, x13, x14, x15, x16, x17, x18, x19, x20, x21, x22] R [] .returning w := by
  have c0 := ho.cell 0
  have c1 := ho.cell 1
  have c2 := ho.cell 2
  have c3 := ho.cell 3
  simp [Leaves, results, Try.results74, go_sem, c0, c1, c2, c3, he.cell, h]
theorem gave74 (x0 x1 x4 x5 x6 x7 x8 x9 x10 x11 x12 x13 x14 x15 x16 x17 x18 x19 x20 x21 x22 : Value) (go ge : Nat) (a0 a1 a2 a3 e : Int) (W0 : World) (R : Ending → World → Prop) (w : World) (ho : Blk w go #[.int .i64 a0, .int .i64 a1, .int .i64 a2, .int .i64 a3]) (he : One w ge (.int .i64 e)) (h1 : go ≠ ge) (hW : Below W0.heap.size W0 w) (hB : W0.heap.size ≤ go ∧ W0.heap.size ≤ ge) (h : ∀ w', Below W0.heap.size W0 w' → R (toldO none) w') :
    Leaves Try.prog Try.f74 #[x0, x1, .pointer (some ⟨go, 0, none⟩), .pointer (some ⟨ge, 0, none⟩), x4, x5, x6, x7, x8, x9, x10, x11, x12, x13, x14, x15, x16, x17, x18, x19, x20, x21, x22] R [{ target := .fn (.func 106) #[.pointer (some ⟨go, 0, none⟩), .pointer (some ⟨ge, 0, none⟩)], args := #[] }] (.panicking [gaveUp]) w := by
  refine leaves_cons (f := 106) (args := #[.pointer (some ⟨go, 0, none⟩), .pointer (some ⟨ge, 0, none⟩)]) (by simp) (by simp [go_sem]) ?_
  refine (oops1_gave go ge a0 a1 a2 a3 e w ho he h1 W0 hW hB).mono ?_
  rintro e' u' w' ⟨rfl, rfl, hw, q1, q2⟩
  exact out74 x0 x1 x4 x5 x6 x7 x8 x9 x10 x11 x12 x13 x14 x15 x16 x17 x18 x19 x20 x21 x22 go ge _ _ _ _ _ R w' q1 q2 (h w' hw)
theorem back74 (x0 x1 x4 x5 x6 x7 x8 x9 x10 x11 x12 x13 x14 x15 x16 x17 x18 x19 x20 x21 x22 : Value) (go ge : Nat) (a0 a1 a2 a3 e : Int) (W0 : World) (R : Ending → World → Prop) (w : World) (ho : Blk w go #[.int .i64 a0, .int .i64 a1, .int .i64 a2, .int .i64 a3]) (he : One w ge (.int .i64 e)) (h1 : go ≠ ge) (hW : Below W0.heap.size W0 w) (hB : W0.heap.size ≤ go ∧ W0.heap.size ≤ ge)
    (h : ∀ w', Below W0.heap.size W0 w' → R (if MayO a0 a1 a2 a3 then .returned (.tuple #[.agg #[.int .i64 a0, .int .i64 a1, .int .i64 a2, .int .i64 a3], .int .i64 e]) else toldO none) w') :
    Leaves Try.prog Try.f74 #[x0, x1, .pointer (some ⟨go, 0, none⟩), .pointer (some ⟨ge, 0, none⟩), x4, x5, x6, x7, x8, x9, x10, x11, x12, x13, x14, x15, x16, x17, x18, x19, x20, x21, x22] R [{ target := .fn (.func 106) #[.pointer (some ⟨go, 0, none⟩), .pointer (some ⟨ge, 0, none⟩)], args := #[] }] .returning w := by
  refine leaves_cons (f := 106) (args := #[.pointer (some ⟨go, 0, none⟩), .pointer (some ⟨ge, 0, none⟩)]) (by simp) (by simp [go_sem]) ?_
  by_cases hc : MayO a0 a1 a2 a3
  · refine (oops1_good go _ a0 a1 a2 a3 w hc ho).mono ?_
    rintro e' u' w' ⟨rfl, rfl, hb⟩
    rw [if_pos hc] at h
    exact out74 x0 x1 x4 x5 x6 x7 x8 x9 x10 x11 x12 x13 x14 x15 x16 x17 x18 x19 x20 x21 x22 go ge _ _ _ _ _ R w' (ho.below hb) (he.below hb) (h w' (below_step hW hb))
  · refine (oops1_bad go ge a0 a1 a2 a3 e w hc ho he h1 W0 hW hB).mono ?_
    rintro e' u' w' ⟨rfl, rfl, hw, q1, q2⟩
    rw [if_neg hc] at h
    exact out74 x0 x1 x4 x5 x6 x7 x8 x9 x10 x11 x12 x13 x14 x15 x16 x17 x18 x19 x20 x21 x22 go ge _ _ _ _ _ R w' q1 q2 (h w' hw)
set_option maxHeartbeats 4000000 in
set_option maxRecDepth 100000 in
theorem decodeOops_calls (W : World) (A : Option Addr) (c : Nat) (l : List Int) (hC : Kd.C (Kd.int .u8) W A l.length l) (hc : l.length ≤ c) (hb : Bytes l) (hl : l.length ≤ 140737488351232) :
    Calls Try.prog 74 #[.slice A l.length c] W fun e w' => e = toldO (roops l) ∧ Below W.heap.size W w' := by
  have hmf : ∀ (fn : Fn) (first cap : Array Value) (w : World), (Instr.makeFunc fn first cap).run Try.prog w = .ok (.func fn first cap) w := fun _ _ _ _ => rfl
  have GAVE := And.intro @gave74 @back74
  generalize hD : roops l = D
  unfold roops at hD
  obtain ⟨W1, hW1⟩ : ∃ W1, W1 = ((W.alloc (.cells #[.int .i64 0, .int .i64 0, .int .i64 0, .int .i64 0] 88)).alloc (.cells #[.int .i64 0] 27)) := ⟨_, rfl⟩
  have hs1 : W1.heap.size = W.heap.size + 1 + 1 := by rw [hW1]; simp
  have o0 : Blk W1 W.heap.size #[.int .i64 ((0 : Nat) : Int), .int .i64 ((0 : Nat) : Int), .int .i64 ((0 : Nat) : Int), .int .i64 ((0 : Nat) : Int)] := by rw [hW1]; exact (blk_one W _ _ _ rfl).alloc _
  have z0 : One W1 (W.heap.size + 1) (.int .i64 0) := by rw [hW1]; exact one_new _ _ _ _ (by simp)
  have hb1 : Below W.heap.size W W1 := by rw [hW1]; exact below_alloc (below_alloc (Below.refl _ _) _) _
  have HO := Aside0.mk (open_calls W A c 5 l W1 hC hc hb1)
  have HGV := Aside0.mk GAVE
  have HD := Aside0.mk hD
  have HB := Aside0.mk hb
  clear GAVE hC hb hD
  go_enter_defers Try.func74, Try.ntmps74
  go_wp2_with fail
  rw [← hW1]
  clear hW1
  have ho := HO.out
  have hd := HD.out
  cases h1 : ropen 5 l with
  | none =>
    rw [h1] at ho hd
    subst hd
    refine ho.mono ?_
    rintro e w1 ⟨rfl, hb2⟩
    go_wp2_with fail
    exact HGV.out.1 _ _ _ _ _ _ _ _ _ _ _ _ _ _ _ _ _ _ _ _ _ _ _ _ _ _ _ _ W _ w1 (o0.below hb2) (z0.below hb2) (by omega) (below_step hb1 hb2) (by omega) (fun w' h => ⟨rfl, h⟩)
  | some l0 =>
    rw [h1, hs1] at ho
    refine ho.mono ?_
    rintro e w1 ⟨rfl, hr1, hk1⟩
    have hl0 : l0.length ≤ l.length ∧ Bytes l0 := by
      cases l with
      | nil => simp [ropen] at h1
      | cons b t =>
        simp only [ropen] at h1
        split at h1
        · cases h1; exact ⟨by simp, HB.out.tail⟩
        · cases h1
    have HH := Aside0.mk h1
    have NX := Aside0.mk (And.intro (o0.but hk1 (by omega)) (And.intro (z0.but hk1 (by omega)) hr1))
    obtain ⟨hl0a, hl0b⟩ := hl0
    clear ho o0 z0 hd h1 hr1 hk1 hb1
    go_wp2_with fail
    obtain ⟨o1, z1, hr⟩ := NX.out
    have hn := num_calls W _ l0 2147483647 _ hr hl0b (by omega) (by omega)
    cases h1 : rnum 2147483647 l0 with
    | none =>
      rw [h1] at hn
      have hd := HD.out
      rw [HH.out, Option.bind_some, h1] at hd
      subst hd
      refine hn.mono ?_
      rintro e w2 ⟨rfl, hb2, hk2⟩
      go_wp2_with fail
      exact HGV.out.1 _ _ _ _ _ _ _ _ _ _ _ _ _ _ _ _ _ _ _ _ _ _ _ _ _ _ _ _ W _ w2 (o1.but hk2 (by omega)) (z1.but hk2 (by omega)) (by omega) hb2 (by omega) (fun w' h => ⟨rfl, h⟩)
    | some p =>
      obtain ⟨v0, l1⟩ := p
      rw [h1] at hn
      refine hn.mono ?_
      rintro e w2 ⟨rfl, hr2, hk2⟩
      have o2 := o1.but hk2 (by omega)
      have z2 := z1.but hk2 (by omega)
      have hc2 := o2.cell 0
      have hf2 := o2.frozen 0
      obtain ⟨hv0, hl1a, hl1b⟩ := rnum_lt hl0b h1
      have H0 := Aside0.mk h1
      have HN := Aside0.mk (And.intro o2 (And.intro z2 hr2))
      clear hn o1 z1 hr NX h1 o2 z2 hr2 hk2
      go_wp2_with fail
      obtain ⟨o2, z2, hr2⟩ := HN.out
      have o3 : Blk _ W.heap.size #[.int .i64 (v0 : Int), .int .i64 ((0 : Nat) : Int), .int .i64 ((0 : Nat) : Int), .int .i64 ((0 : Nat) : Int)] := o2.set_ 0 (.int .i64 (v0 : Int))
      have z3 := z2.far' (g' := W.heap.size) (by omega) 0 (.int .i64 (v0 : Int))
      have hr3 := hr2.far W.heap.size 0 (.int .i64 (v0 : Int)) (by omega) (Nat.le_refl _)
      obtain ⟨w3, hw3⟩ : ∃ w3, w3 = w2.setCell ⟨W.heap.size, 0, none⟩ (.int .i64 (v0 : Int)) := ⟨_, rfl⟩
      rw [← hw3] at o3 z3 hr3 ⊢
      have NX := Aside0.mk (And.intro o3 (And.intro z3 hr3))
      clear o2 z2 hr2 o3 z3 hr3 HN hw3 hc2 hf2
      obtain ⟨o1, z1, hr⟩ := NX.out
      have hn := num_calls W _ l1 8 _ hr hl1b (by omega) (by omega)
      cases h1 : rnum 8 l1 with
      | none =>
        rw [h1] at hn
        have hd := HD.out
        rw [HH.out, Option.bind_some, H0.out, Option.bind_some, h1] at hd
        subst hd
        refine hn.mono ?_
        rintro e w2 ⟨rfl, hb2, hk2⟩
        go_wp2_with fail
        exact HGV.out.1 _ _ _ _ _ _ _ _ _ _ _ _ _ _ _ _ _ _ _ _ _ _ _ _ _ _ _ _ W _ w2 (o1.but hk2 (by omega)) (z1.but hk2 (by omega)) (by omega) hb2 (by omega) (fun w' h => ⟨rfl, h⟩)
      | some p =>
        obtain ⟨v1, l2⟩ := p
        rw [h1] at hn
        refine hn.mono ?_
        rintro e w2 ⟨rfl, hr2, hk2⟩
        have o2 := o1.but hk2 (by omega)
        have z2 := z1.but hk2 (by omega)
        have hc2 := o2.cell 1
        have hf2 := o2.frozen 1
        obtain ⟨hv1, hl2a, hl2b⟩ := rnum_lt hl1b h1
        have H1 := Aside0.mk h1
        have HN := Aside0.mk (And.intro o2 (And.intro z2 hr2))
        clear hn o1 z1 hr NX h1 o2 z2 hr2 hk2
        go_wp2_with fail
        obtain ⟨o2, z2, hr2⟩ := HN.out
        have o3 : Blk _ W.heap.size #[.int .i64 (v0 : Int), .int .i64 (v1 : Int), .int .i64 ((0 : Nat) : Int), .int .i64 ((0 : Nat) : Int)] := o2.set_ 1 (.int .i64 (v1 : Int))
        have z3 := z2.far' (g' := W.heap.size) (by omega) 1 (.int .i64 (v1 : Int))
        have hr3 := hr2.far W.heap.size 1 (.int .i64 (v1 : Int)) (by omega) (Nat.le_refl _)
        obtain ⟨w3, hw3⟩ : ∃ w3, w3 = w2.setCell ⟨W.heap.size, 1, none⟩ (.int .i64 (v1 : Int)) := ⟨_, rfl⟩
        rw [← hw3] at o3 z3 hr3 ⊢
        have NX := Aside0.mk (And.intro o3 (And.intro z3 hr3))
        clear o2 z2 hr2 o3 z3 hr3 HN hw3 hc2 hf2
        obtain ⟨o1, z1, hr⟩ := NX.out
        have hn := num_calls W _ l2 17 _ hr hl2b (by omega) (by omega)
        cases h1 : rnum 17 l2 with
        | none =>
          rw [h1] at hn
          have hd := HD.out
          rw [HH.out, Option.bind_some, H0.out, Option.bind_some, H1.out, Option.bind_some, h1] at hd
          subst hd
          refine hn.mono ?_
          rintro e w2 ⟨rfl, hb2, hk2⟩
          go_wp2_with fail
          exact HGV.out.1 _ _ _ _ _ _ _ _ _ _ _ _ _ _ _ _ _ _ _ _ _ _ _ _ _ _ _ _ W _ w2 (o1.but hk2 (by omega)) (z1.but hk2 (by omega)) (by omega) hb2 (by omega) (fun w' h => ⟨rfl, h⟩)
        | some p =>
          obtain ⟨v2, l3⟩ := p
          rw [h1] at hn
          refine hn.mono ?_
          rintro e w2 ⟨rfl, hr2, hk2⟩
          have o2 := o1.but hk2 (by omega)
          have z2 := z1.but hk2 (by omega)
          have hc2 := o2.cell 2
          have hf2 := o2.frozen 2
          obtain ⟨hv2, hl3a, hl3b⟩ := rnum_lt hl2b h1
          have H2 := Aside0.mk h1
          have HN := Aside0.mk (And.intro o2 (And.intro z2 hr2))
          clear hn o1 z1 hr NX h1 o2 z2 hr2 hk2
          go_wp2_with fail
          obtain ⟨o2, z2, hr2⟩ := HN.out
          have o3 : Blk _ W.heap.size #[.int .i64 (v0 : Int), .int .i64 (v1 : Int), .int .i64 (v2 : Int), .int .i64 ((0 : Nat) : Int)] := o2.set_ 2 (.int .i64 (v2 : Int))
          have z3 := z2.far' (g' := W.heap.size) (by omega) 2 (.int .i64 (v2 : Int))
          have hr3 := hr2.far W.heap.size 2 (.int .i64 (v2 : Int)) (by omega) (Nat.le_refl _)
          obtain ⟨w3, hw3⟩ : ∃ w3, w3 = w2.setCell ⟨W.heap.size, 2, none⟩ (.int .i64 (v2 : Int)) := ⟨_, rfl⟩
          rw [← hw3] at o3 z3 hr3 ⊢
          have NX := Aside0.mk (And.intro o3 (And.intro z3 hr3))
          clear o2 z2 hr2 o3 z3 hr3 HN hw3 hc2 hf2
          obtain ⟨o1, z1, hr⟩ := NX.out
          have hn := num_calls W _ l3 4294967295 _ hr hl3b (by omega) (by omega)
          cases h1 : rnum 4294967295 l3 with
          | none =>
            rw [h1] at hn
            have hd := HD.out
            rw [HH.out, Option.bind_some, H0.out, Option.bind_some, H1.out, Option.bind_some, H2.out, Option.bind_some, h1] at hd
            subst hd
            refine hn.mono ?_
            rintro e w2 ⟨rfl, hb2, hk2⟩
            go_wp2_with fail
            exact HGV.out.1 _ _ _ _ _ _ _ _ _ _ _ _ _ _ _ _ _ _ _ _ _ _ _ _ _ _ _ _ W _ w2 (o1.but hk2 (by omega)) (z1.but hk2 (by omega)) (by omega) hb2 (by omega) (fun w' h => ⟨rfl, h⟩)
          | some p =>
            obtain ⟨v3, l4⟩ := p
            rw [h1] at hn
            refine hn.mono ?_
            rintro e w2 ⟨rfl, hr2, hk2⟩
            have o2 := o1.but hk2 (by omega)
            have z2 := z1.but hk2 (by omega)
            have hc2 := o2.cell 3
            have hf2 := o2.frozen 3
            obtain ⟨hv3, hl4a, hl4b⟩ := rnum_lt hl3b h1
            have H3 := Aside0.mk h1
            have HN := Aside0.mk (And.intro o2 (And.intro z2 hr2))
            clear hn o1 z1 hr NX h1 o2 z2 hr2 hk2
            go_wp2_with fail
            obtain ⟨o2, z2, hr2⟩ := HN.out
            have o3 : Blk _ W.heap.size #[.int .i64 (v0 : Int), .int .i64 (v1 : Int), .int .i64 (v2 : Int), .int .i64 (v3 : Int)] := o2.set_ 3 (.int .i64 (v3 : Int))
            have z3 := z2.far' (g' := W.heap.size) (by omega) 3 (.int .i64 (v3 : Int))
            have hr3 := hr2.far W.heap.size 3 (.int .i64 (v3 : Int)) (by omega) (Nat.le_refl _)
            obtain ⟨w3, hw3⟩ : ∃ w3, w3 = w2.setCell ⟨W.heap.size, 3, none⟩ (.int .i64 (v3 : Int)) := ⟨_, rfl⟩
            rw [← hw3] at o3 z3 hr3 ⊢
            have NX := Aside0.mk (And.intro o3 (And.intro z3 hr3))
            clear o2 z2 hr2 o3 z3 hr3 HN hw3 hc2 hf2
            obtain ⟨o1, z1, hr⟩ := NX.out
            by_cases h5 : l4 = []
            · subst h5
              refine (end_yes W _ _ hr).mono ?_
              rintro e w5 ⟨rfl, rfl⟩
              have c0 := o1.cell 0
              have c1 := o1.cell 1
              have c2 := o1.cell 2
              have c3 := o1.cell 3
              have f0 := o1.frozen 0
              have f1 := o1.frozen 1
              have f2 := o1.frozen 2
              have f3 := o1.frozen 3
              have c4 := z1.cell
              have f4 := z1.frozen
              have n1 : W.heap.size ≠ W.heap.size + 1 := by omega
              have HR := Aside0.mk hr.below
              have HX := Aside0.mk (And.intro o1 z1)
              clear o1 z1 hr NX
              go_wp2_with fail
              obtain ⟨o1, z1⟩ := HX.out
              have q1 : Blk _ W.heap.size #[.int .i64 (v0 : Int), .int .i64 (v1 : Int), .int .i64 (v2 : Int), .int .i64 (v3 : Int)] := ((((o1.set_ 0 (.int .i64 (v0 : Int))).set_ 1 (.int .i64 (v1 : Int))).set_ 2 (.int .i64 (v2 : Int))).set_ 3 (.int .i64 (v3 : Int))).far (g' := W.heap.size + 1) (by omega) 0 (.int .i64 0)
              have q2 := ((((z1.far' (g' := W.heap.size) (by omega) 0 (.int .i64 (v0 : Int))).far' (g' := W.heap.size) (by omega) 1 (.int .i64 (v1 : Int))).far' (g' := W.heap.size) (by omega) 2 (.int .i64 (v2 : Int))).far' (g' := W.heap.size) (by omega) 3 (.int .i64 (v3 : Int))).set_ (.int .i64 0)
              have HR2 := below_set (below_set (below_set (below_set (below_set HR.out (g := W.heap.size) (j := 0) (by omega) (v := .int .i64 (v0 : Int))) (g := W.heap.size) (j := 1) (by omega) (v := .int .i64 (v1 : Int))) (g := W.heap.size) (j := 2) (by omega) (v := .int .i64 (v2 : Int))) (g := W.heap.size) (j := 3) (by omega) (v := .int .i64 (v3 : Int))) (g := W.heap.size + 1) (j := 0) (by omega) (v := .int .i64 0)
              have hd := HD.out
              rw [HH.out, Option.bind_some, H0.out, Option.bind_some, H1.out, Option.bind_some, H2.out, Option.bind_some, H3.out, Option.bind_some] at hd
              simp only [true_and] at hd
              refine HGV.out.2 _ _ _ _ _ _ _ _ _ _ _ _ _ _ _ _ _ _ _ _ _ _ _ _ _ _ _ _ W _ _ q1 q2 (by omega) HR2 (by omega) (fun w' h => ⟨?_, h⟩)
              rw [← hd]
              by_cases hk : 1 ≤ v1
              · rw [if_pos (by unfold MayO; omega), if_pos hk]; rfl
              · rw [if_neg (by unfold MayO; omega), if_neg hk]
            · refine (end_no W _ l4 _ hr h5).mono ?_
              rintro e w5 ⟨rfl, rfl⟩
              have hd := HD.out
              rw [HH.out, Option.bind_some, H0.out, Option.bind_some, H1.out, Option.bind_some, H2.out, Option.bind_some, H3.out, Option.bind_some] at hd
              simp only [h5, false_and, if_false] at hd
              subst hd
              go_wp2_with fail
              exact HGV.out.1 _ _ _ _ _ _ _ _ _ _ _ _ _ _ _ _ _ _ _ _ _ _ _ _ _ _ _ _ W _ _ o1 z1 (by omega) hr.below (by omega) (fun w' h => ⟨rfl, h⟩)
instance (l : List Int) : Decidable (Bytes l) := by unfold Bytes; infer_instance
def admin_decode.f (l : List Int) (a1 a2 : Int) : Option (Int × Int × ByteArray × Int) :=
  if Bytes l ∧ l.length ≤ 140737488351232 ∧ 0 ≤ a2 ∧ a2 ≤ 9223372036854775807 then
    match rdecode a1 a2.toNat l with
    | some (i, k, t) => some ((i : Int), (k : Int), t, 0)
    | none => some (0, 0, ⟨#[]⟩, 2)
  else none
theorem admin_decode.calls (A0 : Option Addr) (c0 : Nat) (l0 : List Int) (a1 a2 : Int) (r1 r2 : Int) (r3 : ByteArray) (r4 : Int) (w : World) (hr0 : Kd.C (Kd.int .u8) w A0 l0.length l0) (hc0 : l0.length ≤ c0) (h : admin_decode.f l0 a1 a2 = some (r1, r2, r3, r4)) :
    Calls Try.prog 103 #[.slice A0 l0.length c0, .int .u8 a1, .int .i64 a2] w fun e w' => e = .returned (.tuple #[.int .i64 r1, .int .i64 r2, .string r3, .int .i64 r4]) ∧ Below w.heap.size w w' := by
  unfold admin_decode.f at h
  split at h
  · rename_i hc
    obtain ⟨h1, h2, h3, h4⟩ := hc
    have e2 : ((a2.toNat : Nat) : Int) = a2 := by omega
    have hw := decode_calls w A0 c0 l0 a1 a2.toNat hr0 hc0 h1 h2 (by omega)
    rw [e2] at hw
    refine hw.mono ?_
    rintro e w' ⟨rfl, hb⟩
    refine ⟨?_, hb⟩
    split at h
    · rename_i heq
      simp only [Option.some.injEq, Prod.mk.injEq] at h
      obtain ⟨rfl, rfl, rfl, rfl⟩ := h
      rw [heq]; rfl
    · rename_i heq
      simp only [Option.some.injEq, Prod.mk.injEq] at h
      obtain ⟨rfl, rfl, rfl, rfl⟩ := h
      rw [heq]; rfl
  · cases h
def admin_DecodeOops.f (l : List Int) : Option (Int × Int × Int × Int × Int) :=
  if Bytes l ∧ l.length ≤ 140737488351232 then
    match roops l with
    | some (a, b, c, d) => some ((a : Int), (b : Int), (c : Int), (d : Int), 0)
    | none => some (0, 0, 0, 0, 2)
  else none
theorem admin_DecodeOops.calls (A0 : Option Addr) (c0 : Nat) (l0 : List Int) (r1 r2 r3 r4 r5 : Int) (w : World) (hr0 : Kd.C (Kd.int .u8) w A0 l0.length l0) (hc0 : l0.length ≤ c0) (h : admin_DecodeOops.f l0 = some (r1, r2, r3, r4, r5)) :
    Calls Try.prog 74 #[.slice A0 l0.length c0] w fun e w' => e = .returned (.tuple #[.agg #[.int .i64 r1, .int .i64 r2, .int .i64 r3, .int .i64 r4], .int .i64 r5]) ∧ Below w.heap.size w w' := by
  unfold admin_DecodeOops.f at h
  split at h
  · rename_i hc
    obtain ⟨h1, h2⟩ := hc
    refine (decodeOops_calls w A0 c0 l0 hr0 hc0 h1 h2).mono ?_
    rintro e w' ⟨rfl, hb⟩
    refine ⟨?_, hb⟩
    split at h
    · rename_i heq
      simp only [Option.some.injEq, Prod.mk.injEq] at h
      obtain ⟨rfl, rfl, rfl, rfl, rfl⟩ := h
      rw [heq]; rfl
    · rename_i heq
      simp only [Option.some.injEq, Prod.mk.injEq] at h
      obtain ⟨rfl, rfl, rfl, rfl, rfl⟩ := h
      rw [heq]; rfl
  · cases h
end Go.Proofs.Ytnhblhhkjnmkkaa.Q
