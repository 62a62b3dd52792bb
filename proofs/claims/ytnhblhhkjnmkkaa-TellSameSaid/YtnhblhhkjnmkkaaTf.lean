/- The closure of tell.Decode, walked; the frame's door. -/
import Derived.Test.YtnhblhhkjnmkkaaDn
import Derived.Test.YtnhblhhkjnmkkaaTc
import Derived.Deep.RegionLaw
namespace Go.Proofs.Ytnhblhhkjnmkkaa.Q
open Go.RowKit Go.Proofs.YtnhblhhkjnmkkaaW.PrintWords Go.Proofs.YtnhblhhkjnmkkaaW.PrintLast Go.Proofs.YtnhblhhkjnmkkaaW.PrintMore
open Go.Proofs.Ytnhblhhkjnmkkaa.Sp Go.Proofs.Ytnhblhhkjnmkkaa.Va
set_option linter.unusedVariables false
set_option linter.unusedSimpArgs false
set_option maxRecDepth 10000 in
theorem td_gave (go ge : Nat) (a0 a1 : Int) (b : Bool) (v u : Value) (e : Int) (w : World) (ho : Blk w go #[.int .i64 a0, .int .i64 a1, .bool b, v, u]) (he : One w ge (.int .i64 e)) (h1 : go ≠ ge) (W0 : World) (hW : Below W0.heap.size W0 w) (hB : W0.heap.size ≤ go ∧ W0.heap.size ≤ ge) :
    CallsD Try.prog 132 #[.pointer (some ⟨go, 0, none⟩), .pointer (some ⟨ge, 0, none⟩)] (.panicking [gaveUp]) w fun e u' w' =>
      e = .returned (.tuple #[]) ∧ u' = .panicking [{ gaveUp with recovered := true }] ∧ Below W0.heap.size W0 w' ∧ Blk w' go #[.int .i64 0, .int .i64 0, .bool false, .slice none 0 0, .slice none 0 0] ∧ One w' ge (.int .i64 2) := by
  refine callsD_of_wpS Try.func132 rfl fun c₀ cs hu => ?_
  apply wpS_seq
  apply wpS_region
  simp [wpOpsS, go_sem, recoverD, hu, Try.ntmps132, Exit.thenS, gaveUp]
  refine (none_gave w).mono ?_
  rintro e1 w1 ⟨rfl, hb⟩
  have ho1 := ho.below hb
  have he1 := he.below hb
  have ck0 := ho1.cell 0
  have ck1 := ho1.cell 1
  have ck2 := ho1.cell 2
  have ck3 := ho1.cell 3
  have ck4 := ho1.cell 4
  simp [wpOpsS, go_sem, Exit.thenS]
  refine wpS_cond (t := true) (by simp [Act.eval, Array.replicate]) ?_
  simp only [if_true]
  apply wpS_region
  have hb1 := below_step hW hb
  have fr0 := ho1.frozen 0
  have fr1 := ho1.frozen 1
  have fr2 := ho1.frozen 2
  have fr3 := ho1.frozen 3
  have fr4 := ho1.frozen 4
  have q1 : Blk _ go #[.int .i64 0, .int .i64 0, .bool false, .slice none 0 0, .slice none 0 0] := (((((ho1).set_ 0 (.int .i64 0)).set_ 1 (.int .i64 0)).set_ 2 (.bool false)).set_ 3 (.slice none 0 0)).set_ 4 (.slice none 0 0)
  have r1 := (((((he1).far' h1.symm 0 (.int .i64 0)).far' h1.symm 1 (.int .i64 0)).far' h1.symm 2 (.bool false)).far' h1.symm 3 (.slice none 0 0)).far' h1.symm 4 (.slice none 0 0)
  have r2 := r1.set_ (.int .i64 2)
  have q2 := q1.far h1 0 (.int .i64 2)
  have HB := below_set (below_set (below_set (below_set (below_set (below_set (hb1) (g := go) (j := 0) hB.1 (v := .int .i64 0)) (g := go) (j := 1) hB.1 (v := .int .i64 0)) (g := go) (j := 2) hB.1 (v := .bool false)) (g := go) (j := 3) hB.1 (v := .slice none 0 0)) (g := go) (j := 4) hB.1 (v := .slice none 0 0)) (g := ge) (j := 0) hB.2 (v := .int .i64 2)
  simp [wpOpsS, go_sem, ck0, ck1, ck2, ck3, ck4, fr0, fr1, fr2, fr3, fr4, r1.cell, r1.frozen, bodyPostS, results, Try.results132]
  exact ⟨HB, q2, r2⟩
set_option maxRecDepth 10000 in
theorem td_bad (go ge : Nat) (a0 a1 : Int) (b : Bool) (v u : Value) (e : Int) (w : World) (A : Option Addr) (c : Nat) (ss : List S154) (B : Option Addr) (d : Nat) (hs : List S152) (hv : v = .slice A ss.length c) (hu : u = .slice B hs.length d) (hC : Kd.C k154 w A ss.length ss) (hc : ss.length ≤ c) (hD : Kd.C k152 w B hs.length hs) (hd : hs.length ≤ d) (hsm : smallT ss hs = true) (hm : tellB a0 a1 ss hs = false) (ho : Blk w go #[.int .i64 a0, .int .i64 a1, .bool b, v, u]) (he : One w ge (.int .i64 e)) (h1 : go ≠ ge) (W0 : World) (hW : Below W0.heap.size W0 w) (hB : W0.heap.size ≤ go ∧ W0.heap.size ≤ ge) :
    CallsD Try.prog 132 #[.pointer (some ⟨go, 0, none⟩), .pointer (some ⟨ge, 0, none⟩)] .returning w fun e u' w' =>
      e = .returned (.tuple #[]) ∧ u' = .returning ∧ Below W0.heap.size W0 w' ∧ Blk w' go #[.int .i64 0, .int .i64 0, .bool false, .slice none 0 0, .slice none 0 0] ∧ One w' ge (.int .i64 2) := by
  have H : tell_Check.f a0 a1 b ss hs = some 1 := by unfold tell_Check.f; rw [if_pos hsm, hm]; rfl
  subst hv hu
  refine callsD_of_wpS Try.func132 rfl fun c₀ cs hu => ?_
  apply wpS_seq
  apply wpS_region
  have dk0 := ho.cell 0
  have dk1 := ho.cell 1
  have dk2 := ho.cell 2
  have dk3 := ho.cell 3
  have dk4 := ho.cell 4
  simp [wpOpsS, go_sem, recoverD, hu, Try.ntmps132, Exit.thenS]
  refine (none_nil w).mono ?_
  rintro e1 w1 ⟨rfl, rfl⟩
  simp [wpOpsS, go_sem, Exit.thenS, dk0, dk1, dk2, dk3, dk4]
  refine (tell_Check.calls a0 a1 b A c ss B d hs _ _ hC hc hD hd H).mono ?_
  rintro e1 w1 ⟨rfl, hb⟩
  have ho1 := ho.below hb
  have he1 := he.below hb
  have ck0 := ho1.cell 0
  have ck1 := ho1.cell 1
  have ck2 := ho1.cell 2
  have ck3 := ho1.cell 3
  have ck4 := ho1.cell 4
  simp [wpOpsS, go_sem, Exit.thenS]
  refine wpS_cond (t := true) (by simp [Act.eval, Array.replicate]) ?_
  simp only [if_true]
  apply wpS_region
  have hb1 := below_step hW hb
  have fr0 := ho1.frozen 0
  have fr1 := ho1.frozen 1
  have fr2 := ho1.frozen 2
  have fr3 := ho1.frozen 3
  have fr4 := ho1.frozen 4
  have q1 : Blk _ go #[.int .i64 0, .int .i64 0, .bool false, .slice none 0 0, .slice none 0 0] := (((((ho1).set_ 0 (.int .i64 0)).set_ 1 (.int .i64 0)).set_ 2 (.bool false)).set_ 3 (.slice none 0 0)).set_ 4 (.slice none 0 0)
  have r1 := (((((he1).far' h1.symm 0 (.int .i64 0)).far' h1.symm 1 (.int .i64 0)).far' h1.symm 2 (.bool false)).far' h1.symm 3 (.slice none 0 0)).far' h1.symm 4 (.slice none 0 0)
  have r2 := r1.set_ (.int .i64 2)
  have q2 := q1.far h1 0 (.int .i64 2)
  have HB := below_set (below_set (below_set (below_set (below_set (below_set (hb1) (g := go) (j := 0) hB.1 (v := .int .i64 0)) (g := go) (j := 1) hB.1 (v := .int .i64 0)) (g := go) (j := 2) hB.1 (v := .bool false)) (g := go) (j := 3) hB.1 (v := .slice none 0 0)) (g := go) (j := 4) hB.1 (v := .slice none 0 0)) (g := ge) (j := 0) hB.2 (v := .int .i64 2)
  simp [wpOpsS, go_sem, ck0, ck1, ck2, ck3, ck4, fr0, fr1, fr2, fr3, fr4, r1.cell, r1.frozen, bodyPostS, results, Try.results132]
  exact ⟨.returning, by cases c₀; cases hu; rfl, rfl, HB, q2, r2⟩
set_option maxRecDepth 10000 in
theorem td_good (go : Nat) (q : Value) (a0 a1 : Int) (b : Bool) (v u : Value) (w : World) (A : Option Addr) (c : Nat) (ss : List S154) (B : Option Addr) (d : Nat) (hs : List S152) (hv : v = .slice A ss.length c) (hu : u = .slice B hs.length d) (hC : Kd.C k154 w A ss.length ss) (hc : ss.length ≤ c) (hD : Kd.C k152 w B hs.length hs) (hd : hs.length ≤ d) (hsm : smallT ss hs = true) (hm : tellB a0 a1 ss hs = true) (ho : Blk w go #[.int .i64 a0, .int .i64 a1, .bool b, v, u]) :
    CallsD Try.prog 132 #[.pointer (some ⟨go, 0, none⟩), q] .returning w fun e u' w' =>
      e = .returned (.tuple #[]) ∧ u' = .returning ∧ Below w.heap.size w w' := by
  have H : tell_Check.f a0 a1 b ss hs = some 0 := by unfold tell_Check.f; rw [if_pos hsm, hm]; rfl
  subst hv hu
  refine callsD_of_wpS Try.func132 rfl fun c₀ cs hu => ?_
  apply wpS_seq
  apply wpS_region
  have dk0 := ho.cell 0
  have dk1 := ho.cell 1
  have dk2 := ho.cell 2
  have dk3 := ho.cell 3
  have dk4 := ho.cell 4
  simp [wpOpsS, go_sem, recoverD, hu, Try.ntmps132, Exit.thenS]
  refine (none_nil w).mono ?_
  rintro e1 w1 ⟨rfl, rfl⟩
  simp [wpOpsS, go_sem, Exit.thenS, dk0, dk1, dk2, dk3, dk4]
  refine (tell_Check.calls a0 a1 b A c ss B d hs _ _ hC hc hD hd H).mono ?_
  rintro e1 w1 ⟨rfl, hb⟩
  simp [wpOpsS, go_sem, Exit.thenS]
  refine wpS_cond (t := false) (by simp [Act.eval, Array.replicate]) ?_
  simp only [Bool.false_eq_true, if_false]
  refine wpS_of_wp (wp_skip ?_)
  cases c₀
  simp_all [bodyPostS, results, Try.results132]
set_option maxRecDepth 10000 in
theorem out93 (x0 x1 x4 x5 x6 x7 x8 x9 x10 x11 x12 x13 x14 x15 x16 x17 x18 x19 x20 x21 x22 x23 x24 x25 x26 x27 x28 x29 x30 x31 x32 x33 x34 x35 x36 x37 x38 x39 x40 x41 x42 x43 x44 x45 x46 x47 x48 x49 x50 x51 x52 x53 x54 x55 x56 x57 x58 x59 x60 x61 x62 x63 x64 x65 : Value) (go ge : Nat) (a b c d f e : Value) (R : Ending → World → Prop) (w : World) (ho : Blk w go #[a, b, c, d, f]) (he : One w ge e) (h : R (.returned (.tuple #[.agg #[a, b, c, d, f], e])) w) :
    Leaves Try.prog Try.f93 #[x0, x1, .pointer (some ⟨go, 0, none⟩), .pointer (some ⟨ge, 0, none⟩), x4, x5, x6, x7, x8, x9, x10, x11, x12, x13, x14, x15, x16, x17, x18, x19, x20, x21, x22, x23, x24, x25, x26, x27, x28, x29, x30, x31, x32, x33, x34, x35, x36, x37, x38, x39, x40, x41, x42, x43, x44, x45, x46, x47, x48, x49, x50, x51, x52, x53, x54, x55, x56, x57, x58, x59, x60, x61, x62, x63, x64, x65] R [] .returning w := by
  have c0 := ho.cell 0
  have c1 := ho.cell 1
  have c2 := ho.cell 2
  have c3 := ho.cell 3
  have c4 := ho.cell 4
  simp [Leaves, results, Try.results93, go_sem, c0, c1, c2, c3, c4, he.cell, h]
theorem gave93 (x0 x1 x4 x5 x6 x7 x8 x9 x10 x11 x12 x13 x14 x15 x16 x17 x18 x19 x20 x21 x22 x23 x24 x25 x26 x27 x28 x29 x30 x31 x32 x33 x34 x35 x36 x37 x38 x39 x40 x41 x42 x43 x44 x45 x46 x47 x48 x49 x50 x51 x52 x53 x54 x55 x56 x57 x58 x59 x60 x61 x62 x63 x64 x65 : Value) (go ge : Nat) (a0 a1 : Int) (b : Bool) (v u : Value) (e : Int) (W0 : World) (R : Ending → World → Prop) (w : World) (ho : Blk w go #[.int .i64 a0, .int .i64 a1, .bool b, v, u]) (he : One w ge (.int .i64 e)) (h1 : go ≠ ge) (hW : Below W0.heap.size W0 w) (hB : W0.heap.size ≤ go ∧ W0.heap.size ≤ ge) (h : ∀ w', Below W0.heap.size W0 w' → R (.returned (.tuple #[.agg #[.int .i64 0, .int .i64 0, .bool false, .slice none 0 0, .slice none 0 0], .int .i64 2])) w') :
    Leaves Try.prog Try.f93 #[x0, x1, .pointer (some ⟨go, 0, none⟩), .pointer (some ⟨ge, 0, none⟩), x4, x5, x6, x7, x8, x9, x10, x11, x12, x13, x14, x15, x16, x17, x18, x19, x20, x21, x22, x23, x24, x25, x26, x27, x28, x29, x30, x31, x32, x33, x34, x35, x36, x37, x38, x39, x40, x41, x42, x43, x44, x45, x46, x47, x48, x49, x50, x51, x52, x53, x54, x55, x56, x57, x58, x59, x60, x61, x62, x63, x64, x65] R [{ target := .fn (.func 132) #[.pointer (some ⟨go, 0, none⟩), .pointer (some ⟨ge, 0, none⟩)], args := #[] }] (.panicking [gaveUp]) w := by
  refine leaves_cons (f := 132) (args := #[.pointer (some ⟨go, 0, none⟩), .pointer (some ⟨ge, 0, none⟩)]) (by simp) (by simp [go_sem]) ?_
  refine (td_gave go ge a0 a1 b v u e w ho he h1 W0 hW hB).mono ?_
  rintro e' u' w' ⟨rfl, rfl, hw, q1, q2⟩
  exact out93 x0 x1 x4 x5 x6 x7 x8 x9 x10 x11 x12 x13 x14 x15 x16 x17 x18 x19 x20 x21 x22 x23 x24 x25 x26 x27 x28 x29 x30 x31 x32 x33 x34 x35 x36 x37 x38 x39 x40 x41 x42 x43 x44 x45 x46 x47 x48 x49 x50 x51 x52 x53 x54 x55 x56 x57 x58 x59 x60 x61 x62 x63 x64 x65 go ge _ _ _ _ _ _ R w' q1 q2 (h w' hw)
theorem back93 (x0 x1 x4 x5 x6 x7 x8 x9 x10 x11 x12 x13 x14 x15 x16 x17 x18 x19 x20 x21 x22 x23 x24 x25 x26 x27 x28 x29 x30 x31 x32 x33 x34 x35 x36 x37 x38 x39 x40 x41 x42 x43 x44 x45 x46 x47 x48 x49 x50 x51 x52 x53 x54 x55 x56 x57 x58 x59 x60 x61 x62 x63 x64 x65 : Value) (go ge : Nat) (a0 a1 : Int) (b : Bool) (v u : Value) (e : Int) (W0 : World) (R : Ending → World → Prop) (w : World) (A : Option Addr) (c : Nat) (ss : List S154) (B : Option Addr) (d : Nat) (hs : List S152) (hv : v = .slice A ss.length c) (hu : u = .slice B hs.length d) (hC : Kd.C k154 w A ss.length ss) (hc : ss.length ≤ c) (hD : Kd.C k152 w B hs.length hs) (hd : hs.length ≤ d) (hsm : smallT ss hs = true) (ho : Blk w go #[.int .i64 a0, .int .i64 a1, .bool b, v, u]) (he : One w ge (.int .i64 e)) (h1 : go ≠ ge) (hW : Below W0.heap.size W0 w) (hB : W0.heap.size ≤ go ∧ W0.heap.size ≤ ge)
    (hgood : tellB a0 a1 ss hs = true → ∀ w', Below w.heap.size w w' → R (.returned (.tuple #[.agg #[.int .i64 a0, .int .i64 a1, .bool b, v, u], .int .i64 e])) w') (hbad : tellB a0 a1 ss hs = false → ∀ w', Below W0.heap.size W0 w' → R (.returned (.tuple #[.agg #[.int .i64 0, .int .i64 0, .bool false, .slice none 0 0, .slice none 0 0], .int .i64 2])) w') :
    Leaves Try.prog Try.f93 #[x0, x1, .pointer (some ⟨go, 0, none⟩), .pointer (some ⟨ge, 0, none⟩), x4, x5, x6, x7, x8, x9, x10, x11, x12, x13, x14, x15, x16, x17, x18, x19, x20, x21, x22, x23, x24, x25, x26, x27, x28, x29, x30, x31, x32, x33, x34, x35, x36, x37, x38, x39, x40, x41, x42, x43, x44, x45, x46, x47, x48, x49, x50, x51, x52, x53, x54, x55, x56, x57, x58, x59, x60, x61, x62, x63, x64, x65] R [{ target := .fn (.func 132) #[.pointer (some ⟨go, 0, none⟩), .pointer (some ⟨ge, 0, none⟩)], args := #[] }] .returning w := by
  refine leaves_cons (f := 132) (args := #[.pointer (some ⟨go, 0, none⟩), .pointer (some ⟨ge, 0, none⟩)]) (by simp) (by simp [go_sem]) ?_
  cases hm : tellB a0 a1 ss hs with
  | true =>
    refine (td_good go _ a0 a1 b v u w A c ss B d hs hv hu hC hc hD hd hsm hm ho).mono ?_
    rintro e' u' w' ⟨rfl, rfl, hb⟩
    exact out93 x0 x1 x4 x5 x6 x7 x8 x9 x10 x11 x12 x13 x14 x15 x16 x17 x18 x19 x20 x21 x22 x23 x24 x25 x26 x27 x28 x29 x30 x31 x32 x33 x34 x35 x36 x37 x38 x39 x40 x41 x42 x43 x44 x45 x46 x47 x48 x49 x50 x51 x52 x53 x54 x55 x56 x57 x58 x59 x60 x61 x62 x63 x64 x65 go ge _ _ _ _ _ _ R w' (ho.below hb) (he.below hb) (hgood hm w' hb)
  | false =>
    refine (td_bad go ge a0 a1 b v u e w A c ss B d hs hv hu hC hc hD hd hsm hm ho he h1 W0 hW hB).mono ?_
    rintro e' u' w' ⟨rfl, rfl, hw, q1, q2⟩
    exact out93 x0 x1 x4 x5 x6 x7 x8 x9 x10 x11 x12 x13 x14 x15 x16 x17 x18 x19 x20 x21 x22 x23 x24 x25 x26 x27 x28 x29 x30 x31 x32 x33 x34 x35 x36 x37 x38 x39 x40 x41 x42 x43 x44 x45 x46 x47 x48 x49 x50 x51 x52 x53 x54 x55 x56 x57 x58 x59 x60 x61 x62 x63 x64 x65 go ge _ _ _ _ _ _ R w' q1 q2 (hbad hm w' hw)
end Go.Proofs.Ytnhblhhkjnmkkaa.Q
