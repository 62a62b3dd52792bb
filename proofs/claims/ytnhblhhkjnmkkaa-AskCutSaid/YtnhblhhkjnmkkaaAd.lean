/- ask.Decode and its closure, walked. -/
import Derived.Test.YtnhblhhkjnmkkaaDe
import Derived.Test.YtnhblhhkjnmkkaaOn
import Derived.Test.YtnhblhhkjnmkkaaNm
import Derived.Deep.RegionLaw
namespace Go.Proofs.Ytnhblhhkjnmkkaa.Q
open Go.RowKit Go.Proofs.YtnhblhhkjnmkkaaW.PrintWords Go.Proofs.YtnhblhhkjnmkkaaW.PrintLast Go.Proofs.YtnhblhhkjnmkkaaW.PrintMore
open Go.Proofs.Ytnhblhhkjnmkkaa.Sp Go.Proofs.Ytnhblhhkjnmkkaa.Va
set_option linter.unusedVariables false
set_option linter.unusedSimpArgs false
set_option maxRecDepth 10000 in
theorem ad1_gave (go ge : Nat) (a0 : Int) (s : ByteArray) (a2 : Int) (v : Value) (e : Int) (w : World) (ho : Blk w go #[.int .i64 a0, .string s, .int .i64 a2, v]) (he : One w ge (.int .i64 e)) (h1 : go ≠ ge) (W0 : World) (hW : Below W0.heap.size W0 w) (hB : W0.heap.size ≤ go ∧ W0.heap.size ≤ ge) :
    CallsD Try.prog 116 #[.pointer (some ⟨go, 0, none⟩), .pointer (some ⟨ge, 0, none⟩)] (.panicking [gaveUp]) w fun e u' w' =>
      e = .returned (.tuple #[]) ∧ u' = .panicking [{ gaveUp with recovered := true }] ∧ Below W0.heap.size W0 w' ∧ Blk w' go #[.int .i64 0, .string ⟨#[]⟩, .int .i64 0, .slice none 0 0] ∧ One w' ge (.int .i64 2) := by
  refine callsD_of_wpS Try.func116 rfl fun c₀ cs hu => ?_
  apply wpS_seq
  apply wpS_region
  simp [wpOpsS, go_sem, recoverD, hu, Try.ntmps116, Exit.thenS, gaveUp]
  refine (none_gave w).mono ?_
  rintro e1 w1 ⟨rfl, hb⟩
  have ho1 := ho.below hb
  have he1 := he.below hb
  have ck0 := ho1.cell 0
  have ck1 := ho1.cell 1
  have ck2 := ho1.cell 2
  have ck3 := ho1.cell 3
  simp [wpOpsS, go_sem, Exit.thenS]
  refine wpS_cond (t := true) (by simp [Act.eval, Array.replicate]) ?_
  simp only [if_true]
  apply wpS_region
  have hb1 := below_step hW hb
  have fr0 := ho1.frozen 0
  have fr1 := ho1.frozen 1
  have fr2 := ho1.frozen 2
  have fr3 := ho1.frozen 3
  have q1 : Blk _ go #[.int .i64 0, .string ⟨#[]⟩, .int .i64 0, .slice none 0 0] := (((ho1.set_ 0 (.int .i64 0)).set_ 1 (.string ⟨#[]⟩)).set_ 2 (.int .i64 0)).set_ 3 (.slice none 0 0)
  have r1 := (((he1.far' h1.symm 0 (.int .i64 0)).far' h1.symm 1 (.string ⟨#[]⟩)).far' h1.symm 2 (.int .i64 0)).far' h1.symm 3 (.slice none 0 0)
  have r2 := r1.set_ (.int .i64 2)
  have q2 := q1.far h1 0 (.int .i64 2)
  have HB := below_set (below_set (below_set (below_set (below_set hb1 (g := go) (j := 0) hB.1 (v := .int .i64 0)) (g := go) (j := 1) hB.1 (v := .string ⟨#[]⟩)) (g := go) (j := 2) hB.1 (v := .int .i64 0)) (g := go) (j := 3) hB.1 (v := .slice none 0 0)) (g := ge) (j := 0) hB.2 (v := .int .i64 2)
  simp [wpOpsS, go_sem, ck0, ck1, ck2, ck3, fr0, fr1, fr2, fr3, r1.cell, r1.frozen, bodyPostS, results, Try.results116]
  exact ⟨HB, q2, r2⟩
set_option maxRecDepth 10000 in
theorem ad1_bad (go ge : Nat) (a0 : Int) (s : ByteArray) (a2 : Int) (v : Value) (e : Int) (w : World) (A : Option Addr) (c : Nat) (ds : List S140) (hv : v = .slice A ds.length c) (hC : Kd.C k140 w A ds.length ds) (hc : ds.length ≤ c) (hs : SmallA 1000000 s ds) (hm : askB a0 s a2 ds = false) (ho : Blk w go #[.int .i64 a0, .string s, .int .i64 a2, v]) (he : One w ge (.int .i64 e)) (h1 : go ≠ ge) (W0 : World) (hW : Below W0.heap.size W0 w) (hB : W0.heap.size ≤ go ∧ W0.heap.size ≤ ge) :
    CallsD Try.prog 116 #[.pointer (some ⟨go, 0, none⟩), .pointer (some ⟨ge, 0, none⟩)] .returning w fun e u' w' =>
      e = .returned (.tuple #[]) ∧ u' = .returning ∧ Below W0.heap.size W0 w' ∧ Blk w' go #[.int .i64 0, .string ⟨#[]⟩, .int .i64 0, .slice none 0 0] ∧ One w' ge (.int .i64 2) := by
  have H := ask_f a0 s a2 ds 1000000 (by omega) hs (3 * 1000000 + 5) (Nat.le_refl _)
  rw [hm] at H
  subst hv
  refine callsD_of_wpS Try.func116 rfl fun c₀ cs hu => ?_
  apply wpS_seq
  apply wpS_region
  have dk0 := ho.cell 0
  have dk1 := ho.cell 1
  have dk2 := ho.cell 2
  have dk3 := ho.cell 3
  simp [wpOpsS, go_sem, recoverD, hu, Try.ntmps116, Exit.thenS]
  refine (none_nil w).mono ?_
  rintro e1 w1 ⟨rfl, rfl⟩
  simp [wpOpsS, go_sem, Exit.thenS, dk0, dk1, dk2, dk3]
  refine (ask_Check.calls _ _ _ _ A c ds _ _ hC hc H).mono ?_
  rintro e1 w1 ⟨rfl, hb⟩
  have ho1 := ho.below hb
  have he1 := he.below hb
  have ck0 := ho1.cell 0
  have ck1 := ho1.cell 1
  have ck2 := ho1.cell 2
  have ck3 := ho1.cell 3
  simp [wpOpsS, go_sem, Exit.thenS]
  refine wpS_cond (t := true) (by simp [Act.eval, Array.replicate]) ?_
  simp only [if_true]
  apply wpS_region
  have hb1 := below_step hW hb
  have fr0 := ho1.frozen 0
  have fr1 := ho1.frozen 1
  have fr2 := ho1.frozen 2
  have fr3 := ho1.frozen 3
  have q1 : Blk _ go #[.int .i64 0, .string ⟨#[]⟩, .int .i64 0, .slice none 0 0] := (((ho1.set_ 0 (.int .i64 0)).set_ 1 (.string ⟨#[]⟩)).set_ 2 (.int .i64 0)).set_ 3 (.slice none 0 0)
  have r1 := (((he1.far' h1.symm 0 (.int .i64 0)).far' h1.symm 1 (.string ⟨#[]⟩)).far' h1.symm 2 (.int .i64 0)).far' h1.symm 3 (.slice none 0 0)
  have r2 := r1.set_ (.int .i64 2)
  have q2 := q1.far h1 0 (.int .i64 2)
  have HB := below_set (below_set (below_set (below_set (below_set hb1 (g := go) (j := 0) hB.1 (v := .int .i64 0)) (g := go) (j := 1) hB.1 (v := .string ⟨#[]⟩)) (g := go) (j := 2) hB.1 (v := .int .i64 0)) (g := go) (j := 3) hB.1 (v := .slice none 0 0)) (g := ge) (j := 0) hB.2 (v := .int .i64 2)
  simp [wpOpsS, go_sem, ck0, ck1, ck2, ck3, fr0, fr1, fr2, fr3, r1.cell, r1.frozen, bodyPostS, results, Try.results116]
  exact ⟨.returning, by cases c₀; cases hu; rfl, rfl, HB, q2, r2⟩
set_option maxRecDepth 10000 in
theorem ad1_good (go : Nat) (q : Value) (a0 : Int) (s : ByteArray) (a2 : Int) (v : Value) (w : World) (A : Option Addr) (c : Nat) (ds : List S140) (hv : v = .slice A ds.length c) (hC : Kd.C k140 w A ds.length ds) (hc : ds.length ≤ c) (hs : SmallA 1000000 s ds) (hm : askB a0 s a2 ds = true) (ho : Blk w go #[.int .i64 a0, .string s, .int .i64 a2, v]) :
    CallsD Try.prog 116 #[.pointer (some ⟨go, 0, none⟩), q] .returning w fun e u' w' =>
      e = .returned (.tuple #[]) ∧ u' = .returning ∧ Below w.heap.size w w' := by
  have H := ask_f a0 s a2 ds 1000000 (by omega) hs (3 * 1000000 + 5) (Nat.le_refl _)
  rw [hm] at H
  subst hv
  refine callsD_of_wpS Try.func116 rfl fun c₀ cs hu => ?_
  apply wpS_seq
  apply wpS_region
  have dk0 := ho.cell 0
  have dk1 := ho.cell 1
  have dk2 := ho.cell 2
  have dk3 := ho.cell 3
  simp [wpOpsS, go_sem, recoverD, hu, Try.ntmps116, Exit.thenS]
  refine (none_nil w).mono ?_
  rintro e1 w1 ⟨rfl, rfl⟩
  simp [wpOpsS, go_sem, Exit.thenS, dk0, dk1, dk2, dk3]
  refine (ask_Check.calls _ _ _ _ A c ds _ _ hC hc H).mono ?_
  rintro e1 w1 ⟨rfl, hb⟩
  simp [wpOpsS, go_sem, Exit.thenS]
  refine wpS_cond (t := false) (by simp [Act.eval, Array.replicate]) ?_
  simp only [Bool.false_eq_true, if_false]
  refine wpS_of_wp (wp_skip ?_)
  cases c₀
  simp_all [bodyPostS, results, Try.results116]
/-- So many descriptors read. -/
def rdescs : Nat → List Int → Option (List S140 × List Int)
  | 0, l => some ([], l)
  | n + 1, l => (rdesc l).bind fun p => (rdescs n p.2).bind fun r => some (⟨p.1⟩ :: r.1, r.2)
/-- The request of bytes, if they are one that may be. -/
def rask (l : List Int) : Option (Nat × ByteArray × Nat × List S140) :=
  (ropen 1 l).bind fun l0 => (rnum 2147483647 l0).bind fun p => (rtext 64 p.2).bind fun q => (rnum 4294967295 q.2).bind fun r => (rnum 16 r.2).bind fun s => (rdescs s.1 s.2).bind fun t =>
    if t.2 = [] ∧ askB (p.1 : Int) q.1 (r.1 : Int) t.1 = true then some (p.1, q.1, r.1, t.1) else none
theorem out84 (x0 x1 x4 x5 x6 x7 x8 x9 x10 x11 x12 x13 x14 x15 x16 x17 x18 x19 x20 x21 x22 x23 x24 x25 x26 x27 x28 x29 x30 x31 : Value) (go ge : Nat) (a b c d e : Value) (R : Ending → World → Prop) (w : World) (ho : Blk w go #[a, b, c, d]) (he : One w ge e) (h : R (.returned (.tuple #[.agg #[a, b, c, d], e])) w) :
    Leaves Try.prog Try.f84 #[x0, x1, .pointer (some ⟨go, 0, none⟩), .pointer (some ⟨ge, 0, none⟩), x4, x5, x6, x7, x8, x9, x10, x11, x12, x13, x14, x15, x16, x17, x18, x19, x20, x21, x22, x23, x24, x25, x26, x27, x28, x29, x30, x31] R [] .returning w := by
  have c0 := ho.cell 0
  have c1 := ho.cell 1
  have c2 := ho.cell 2
  have c3 := ho.cell 3
  simp [Leaves, results, Try.results84, go_sem, c0, c1, c2, c3, he.cell, h]
theorem gave84 (x0 x1 x4 x5 x6 x7 x8 x9 x10 x11 x12 x13 x14 x15 x16 x17 x18 x19 x20 x21 x22 x23 x24 x25 x26 x27 x28 x29 x30 x31 : Value) (go ge : Nat) (a0 : Int) (s : ByteArray) (a2 : Int) (v : Value) (e : Int) (W0 : World) (R : Ending → World → Prop) (w : World) (ho : Blk w go #[.int .i64 a0, .string s, .int .i64 a2, v]) (he : One w ge (.int .i64 e)) (h1 : go ≠ ge) (hW : Below W0.heap.size W0 w) (hB : W0.heap.size ≤ go ∧ W0.heap.size ≤ ge) (h : ∀ w', Below W0.heap.size W0 w' → R (.returned (.tuple #[.agg #[.int .i64 0, .string ⟨#[]⟩, .int .i64 0, .slice none 0 0], .int .i64 2])) w') :
    Leaves Try.prog Try.f84 #[x0, x1, .pointer (some ⟨go, 0, none⟩), .pointer (some ⟨ge, 0, none⟩), x4, x5, x6, x7, x8, x9, x10, x11, x12, x13, x14, x15, x16, x17, x18, x19, x20, x21, x22, x23, x24, x25, x26, x27, x28, x29, x30, x31] R [{ target := .fn (.func 116) #[.pointer (some ⟨go, 0, none⟩), .pointer (some ⟨ge, 0, none⟩)], args := #[] }] (.panicking [gaveUp]) w := by
  refine leaves_cons (f := 116) (args := #[.pointer (some ⟨go, 0, none⟩), .pointer (some ⟨ge, 0, none⟩)]) (by simp) (by simp [go_sem]) ?_
  refine (ad1_gave go ge a0 s a2 v e w ho he h1 W0 hW hB).mono ?_
  rintro e' u' w' ⟨rfl, rfl, hw, q1, q2⟩
  exact out84 x0 x1 x4 x5 x6 x7 x8 x9 x10 x11 x12 x13 x14 x15 x16 x17 x18 x19 x20 x21 x22 x23 x24 x25 x26 x27 x28 x29 x30 x31 go ge _ _ _ _ _ R w' q1 q2 (h w' hw)
theorem back84 (x0 x1 x4 x5 x6 x7 x8 x9 x10 x11 x12 x13 x14 x15 x16 x17 x18 x19 x20 x21 x22 x23 x24 x25 x26 x27 x28 x29 x30 x31 : Value) (go ge : Nat) (a0 : Int) (s : ByteArray) (a2 : Int) (v : Value) (e : Int) (W0 : World) (R : Ending → World → Prop) (w : World) (A : Option Addr) (c : Nat) (ds : List S140) (hv : v = .slice A ds.length c) (hC : Kd.C k140 w A ds.length ds) (hc : ds.length ≤ c) (hs : SmallA 1000000 s ds) (ho : Blk w go #[.int .i64 a0, .string s, .int .i64 a2, v]) (he : One w ge (.int .i64 e)) (h1 : go ≠ ge) (hW : Below W0.heap.size W0 w) (hB : W0.heap.size ≤ go ∧ W0.heap.size ≤ ge)
    (hgood : askB a0 s a2 ds = true → ∀ w', Below w.heap.size w w' → R (.returned (.tuple #[.agg #[.int .i64 a0, .string s, .int .i64 a2, v], .int .i64 e])) w') (hbad : askB a0 s a2 ds = false → ∀ w', Below W0.heap.size W0 w' → R (.returned (.tuple #[.agg #[.int .i64 0, .string ⟨#[]⟩, .int .i64 0, .slice none 0 0], .int .i64 2])) w') :
    Leaves Try.prog Try.f84 #[x0, x1, .pointer (some ⟨go, 0, none⟩), .pointer (some ⟨ge, 0, none⟩), x4, x5, x6, x7, x8, x9, x10, x11, x12, x13, x14, x15, x16, x17, x18, x19, x20, x21, x22, x23, x24, x25, x26, x27, x28, x29, x30, x31] R [{ target := .fn (.func 116) #[.pointer (some ⟨go, 0, none⟩), .pointer (some ⟨ge, 0, none⟩)], args := #[] }] .returning w := by
  refine leaves_cons (f := 116) (args := #[.pointer (some ⟨go, 0, none⟩), .pointer (some ⟨ge, 0, none⟩)]) (by simp) (by simp [go_sem]) ?_
  cases hm : askB a0 s a2 ds with
  | true =>
    refine (ad1_good go _ a0 s a2 v w A c ds hv hC hc hs hm ho).mono ?_
    rintro e' u' w' ⟨rfl, rfl, hb⟩
    exact out84 x0 x1 x4 x5 x6 x7 x8 x9 x10 x11 x12 x13 x14 x15 x16 x17 x18 x19 x20 x21 x22 x23 x24 x25 x26 x27 x28 x29 x30 x31 go ge _ _ _ _ _ R w' (ho.below hb) (he.below hb) (hgood hm w' hb)
  | false =>
    refine (ad1_bad go ge a0 s a2 v e w A c ds hv hC hc hs hm ho he h1 W0 hW hB).mono ?_
    rintro e' u' w' ⟨rfl, rfl, hw, q1, q2⟩
    exact out84 x0 x1 x4 x5 x6 x7 x8 x9 x10 x11 x12 x13 x14 x15 x16 x17 x18 x19 x20 x21 x22 x23 x24 x25 x26 x27 x28 x29 x30 x31 go ge _ _ _ _ _ R w' q1 q2 (hbad hm w' hw)
end Go.Proofs.Ytnhblhhkjnmkkaa.Q
