/- The decoding of admin messages of one text (package admin: decode, and its closure), walked: what is read, and that whatever gives up is caught. -/
import Derived.Test.YtnhblhhkjnmkkaaRd
import Derived.Test.YtnhblhhkjnmkkaaBk
import Derived.Defers
import Derived.RegionTactic
import Derived.ChangeAlike
namespace Go.Proofs.Ytnhblhhkjnmkkaa.Q
open Go.RowKit Go.Proofs.YtnhblhhkjnmkkaaW.PrintWords Go.Proofs.YtnhblhhkjnmkkaaW.PrintLast Go.Proofs.YtnhblhhkjnmkkaaW.PrintMore
open Go.Proofs.Ytnhblhhkjnmkkaa.Sp Go.Proofs.Ytnhblhhkjnmkkaa.Va
set_option linter.unusedVariables false
set_option linter.unusedSimpArgs false
theorem none_nil (W : World) : Calls Try.prog 107 #[.nilIface] W fun e w' => e = .returned (.bool false) ∧ W = w' := by
  go_enter Try.func107, Try.ntmps107
  go_wp2
  go_ret
  exact ⟨rfl, rfl⟩
theorem none_gave (W : World) : Calls Try.prog 107 #[.iface 163 (.agg #[])] W fun e w' => e = .returned (.bool true) ∧ Below W.heap.size W w' := by
  have hta : ∀ (W : World), (Instr.typeAssert (.iface 163 (.agg #[])) 20 163 true).run Try.prog W = .ok (.tuple #[.agg #[], .bool true]) W := fun W => by kernel_rfl
  go_enter Try.func107, Try.ntmps107
  go_wp2
  go_ret
  exact ⟨rfl, below_alloc (Below.refl _ _) _⟩
set_option maxRecDepth 10000 in
theorem decode1_gave (gk gi gt ge : Nat) (k i : Int) (t : ByteArray) (e : Int) (w : World) (hk : One w gk (.int .i64 k)) (hi : One w gi (.int .i64 i)) (ht : One w gt (.string t)) (he : One w ge (.int .i64 e)) (h1 : gi ≠ gk) (h2 : gi ≠ gt) (h3 : gi ≠ ge) (h4 : gk ≠ gt) (h5 : gk ≠ ge) (h6 : gt ≠ ge) (W0 : World) (hW : Below W0.heap.size W0 w) (hB : W0.heap.size ≤ gk ∧ W0.heap.size ≤ gi ∧ W0.heap.size ≤ gt ∧ W0.heap.size ≤ ge) :
    CallsD Try.prog 137 #[.pointer (some ⟨gk, 0, none⟩), .pointer (some ⟨gi, 0, none⟩), .pointer (some ⟨gt, 0, none⟩), .pointer (some ⟨ge, 0, none⟩)] (.panicking [gaveUp]) w fun e u' w' =>
      e = .returned (.tuple #[]) ∧ u' = .panicking [{ gaveUp with recovered := true }] ∧ Below W0.heap.size W0 w' ∧ One w' gi (.int .i64 0) ∧ One w' gk (.int .i64 0) ∧ One w' gt (.string ⟨#[]⟩) ∧ One w' ge (.int .i64 2) := by
  refine callsD_of_wpS Try.func137 rfl fun c₀ cs hu => ?_
  apply wpS_seq
  apply wpS_region
  simp [wpOpsS, go_sem, recoverD, hu, Try.ntmps137, Exit.thenS, gaveUp]
  refine (none_gave w).mono ?_
  rintro e1 w1 ⟨rfl, hb⟩
  have hk1 := (hk.below hb)
  have hi1 := (hi.below hb)
  have ht1 := (ht.below hb)
  have he1 := (he.below hb)
  have ck := hk1.cell
  simp [wpOpsS, go_sem, Exit.thenS]
  refine wpS_cond (t := true) (by simp [Act.eval, Array.replicate]) ?_
  simp only [if_true]
  apply wpS_region
  have a1 := hi1.set_ (.int .i64 0)
  have b1 := hk1.far h1.symm (.int .i64 0)
  have b2 := b1.set_ (.int .i64 0)
  have a2 := a1.far h1 (.int .i64 0)
  have d1 := (ht1.far h2.symm (.int .i64 0)).far h4.symm (.int .i64 0)
  have d2 := d1.set_ (.string ⟨#[]⟩)
  have a3 := a2.far h2 (.string ⟨#[]⟩)
  have b3 := b2.far h4 (.string ⟨#[]⟩)
  have g1 := (((he1.far h3.symm (.int .i64 0)).far h5.symm (.int .i64 0)).far h6.symm (.string ⟨#[]⟩))
  have g2 := g1.set_ (.int .i64 2)
  have a4 := a3.far h3 (.int .i64 2)
  have b4 := b3.far h5 (.int .i64 2)
  have d3 := d2.far h6 (.int .i64 2)
  have HB := below_set (below_set (below_set (below_set (below_step hW hb) (g := gi) (j := 0) hB.2.1 (v := .int .i64 0)) (g := gk) (j := 0) hB.1 (v := .int .i64 0)) (g := gt) (j := 0) hB.2.2.1 (v := .string ⟨#[]⟩)) (g := ge) (j := 0) hB.2.2.2 (v := .int .i64 2)
  simp [wpOpsS, go_sem, hi1.cell, hi1.frozen, b1.cell, b1.frozen, d1.cell, d1.frozen, g1.cell, g1.frozen, bodyPostS, results, Try.results137]
  exact ⟨HB, a4, b4, d3, g2⟩
set_option maxRecDepth 10000 in
theorem decode1_bad (gk gi gt ge : Nat) (k i : Int) (t : ByteArray) (e : Int) (w : World) (hkb : k < 1) (hk : One w gk (.int .i64 k)) (hi : One w gi (.int .i64 i)) (ht : One w gt (.string t)) (he : One w ge (.int .i64 e)) (h1 : gi ≠ gk) (h2 : gi ≠ gt) (h3 : gi ≠ ge) (h4 : gk ≠ gt) (h5 : gk ≠ ge) (h6 : gt ≠ ge) (W0 : World) (hW : Below W0.heap.size W0 w) (hB : W0.heap.size ≤ gk ∧ W0.heap.size ≤ gi ∧ W0.heap.size ≤ gt ∧ W0.heap.size ≤ ge) :
    CallsD Try.prog 137 #[.pointer (some ⟨gk, 0, none⟩), .pointer (some ⟨gi, 0, none⟩), .pointer (some ⟨gt, 0, none⟩), .pointer (some ⟨ge, 0, none⟩)] .returning w fun e u' w' =>
      e = .returned (.tuple #[]) ∧ u' = .returning ∧ Below W0.heap.size W0 w' ∧ One w' gi (.int .i64 0) ∧ One w' gk (.int .i64 0) ∧ One w' gt (.string ⟨#[]⟩) ∧ One w' ge (.int .i64 2) := by
  refine callsD_of_wpS Try.func137 rfl fun c₀ cs hu => ?_
  apply wpS_seq
  apply wpS_region
  have ck := hk.cell
  have hd : decide (k < 1) = true := decide_eq_true hkb
  simp [wpOpsS, go_sem, recoverD, hu, Try.ntmps137, Exit.thenS]
  refine (none_nil w).mono ?_
  rintro e1 w1 ⟨rfl, rfl⟩
  simp [wpOpsS, go_sem, Exit.thenS, ck, hd]
  refine wpS_cond (t := true) (by simp [Act.eval, Array.replicate]) ?_
  simp only [if_true]
  apply wpS_region
  have a1 := hi.set_ (.int .i64 0)
  have b1 := hk.far h1.symm (.int .i64 0)
  have b2 := b1.set_ (.int .i64 0)
  have a2 := a1.far h1 (.int .i64 0)
  have d1 := (ht.far h2.symm (.int .i64 0)).far h4.symm (.int .i64 0)
  have d2 := d1.set_ (.string ⟨#[]⟩)
  have a3 := a2.far h2 (.string ⟨#[]⟩)
  have b3 := b2.far h4 (.string ⟨#[]⟩)
  have g1 := (((he.far h3.symm (.int .i64 0)).far h5.symm (.int .i64 0)).far h6.symm (.string ⟨#[]⟩))
  have g2 := g1.set_ (.int .i64 2)
  have a4 := a3.far h3 (.int .i64 2)
  have b4 := b3.far h5 (.int .i64 2)
  have d3 := d2.far h6 (.int .i64 2)
  have HB := below_set (below_set (below_set (below_set hW (g := gi) (j := 0) hB.2.1 (v := .int .i64 0)) (g := gk) (j := 0) hB.1 (v := .int .i64 0)) (g := gt) (j := 0) hB.2.2.1 (v := .string ⟨#[]⟩)) (g := ge) (j := 0) hB.2.2.2 (v := .int .i64 2)
  simp [wpOpsS, go_sem, hi.cell, hi.frozen, b1.cell, b1.frozen, d1.cell, d1.frozen, g1.cell, g1.frozen, bodyPostS, results, Try.results137]
  exact ⟨.returning, by cases c₀; cases hu; rfl, rfl, HB, a4, b4, d3, g2⟩
set_option maxRecDepth 10000 in
theorem decode1_good (gk : Nat) (p q r : Value) (k : Int) (w : World) (hkb : ¬ k < 1) (hk : One w gk (.int .i64 k)) :
    CallsD Try.prog 137 #[.pointer (some ⟨gk, 0, none⟩), p, q, r] .returning w fun e u' w' =>
      e = .returned (.tuple #[]) ∧ u' = .returning ∧ w' = w := by
  refine callsD_of_wpS Try.func137 rfl fun c₀ cs hu => ?_
  apply wpS_seq
  apply wpS_region
  have ck := hk.cell
  have hd : decide (k < 1) = false := decide_eq_false hkb
  simp [wpOpsS, go_sem, recoverD, hu, Try.ntmps137, Exit.thenS]
  refine (none_nil w).mono ?_
  rintro e1 w1 ⟨rfl, rfl⟩
  simp [wpOpsS, go_sem, Exit.thenS, ck, hd]
  refine wpS_cond (t := false) (by simp [Act.eval, Array.replicate]) ?_
  simp only [Bool.false_eq_true, if_false]
  refine wpS_of_wp (wp_skip ?_)
  cases c₀
  simp_all [bodyPostS, results, Try.results137]
/-- The four parts of an admin message, if the bytes are one. -/
def rdecode (first : Int) (most : Nat) (l : List Int) : Option (Nat × Nat × ByteArray) :=
  (ropen first l).bind fun l1 => (rnum 2147483647 l1).bind fun p => (rnum 6 p.2).bind fun q => (rtext most q.2).bind fun r => if r.2 = [] ∧ 1 ≤ q.1 then some (p.1, q.1, r.1) else none
def told : Option (Nat × Nat × ByteArray) → Ending
  | some (i, k, t) => .returned (.tuple #[.int .i64 (i : Int), .int .i64 (k : Int), .string t, .int .i64 0])
  | none => .returned (.tuple #[.int .i64 0, .int .i64 0, .string ⟨#[]⟩, .int .i64 2])

theorem out103 (x0 x1 x2 x3 x4 x5 x10 x11 x12 x13 x14 x15 x16 x17 x18 x19 x20 x21 x22 x23 x24 x25 x26 : Value) (gi gk gt ge : Nat) (i k t e : Value) (R : Ending → World → Prop) (w : World) (hi : One w gi i) (hk : One w gk k) (ht : One w gt t) (he : One w ge e) (h : R (.returned (.tuple #[i, k, t, e])) w) :
    Leaves Try.prog Try.f103 #[x0, x1, x2, x3, x4, x5, .pointer (some ⟨gi, 0, none⟩), .pointer (some ⟨gk, 0, none⟩), .pointer (some ⟨gt, 0, none⟩), .pointer (some ⟨ge, 0, none⟩), x10, x11, x12, x13, x14, x15, x16, x17, x18, x19, x20, x21, x22, x23, x24, x25, x26] R [] .returning w := by
  simp [Leaves, results, Try.results103, go_sem, hi.cell, hk.cell, ht.cell, he.cell, h]
theorem gave103 (x0 x1 x2 x3 x4 x5 x10 x11 x12 x13 x14 x15 x16 x17 x18 x19 x20 x21 x22 x23 x24 x25 x26 : Value) (gi gk gt ge : Nat) (i k e : Int) (t : ByteArray) (W0 : World) (R : Ending → World → Prop) (w : World) (hi : One w gi (.int .i64 i)) (hk : One w gk (.int .i64 k)) (ht : One w gt (.string t)) (he : One w ge (.int .i64 e))
    (h1 : gi ≠ gk) (h2 : gi ≠ gt) (h3 : gi ≠ ge) (h4 : gk ≠ gt) (h5 : gk ≠ ge) (h6 : gt ≠ ge) (hW : Below W0.heap.size W0 w) (hB : W0.heap.size ≤ gk ∧ W0.heap.size ≤ gi ∧ W0.heap.size ≤ gt ∧ W0.heap.size ≤ ge) (h : ∀ w', Below W0.heap.size W0 w' → R (told none) w') :
    Leaves Try.prog Try.f103 #[x0, x1, x2, x3, x4, x5, .pointer (some ⟨gi, 0, none⟩), .pointer (some ⟨gk, 0, none⟩), .pointer (some ⟨gt, 0, none⟩), .pointer (some ⟨ge, 0, none⟩), x10, x11, x12, x13, x14, x15, x16, x17, x18, x19, x20, x21, x22, x23, x24, x25, x26] R [{ target := .fn (.func 137) #[.pointer (some ⟨gk, 0, none⟩), .pointer (some ⟨gi, 0, none⟩), .pointer (some ⟨gt, 0, none⟩), .pointer (some ⟨ge, 0, none⟩)], args := #[] }] (.panicking [gaveUp]) w := by
  refine leaves_cons (f := 137) (args := #[.pointer (some ⟨gk, 0, none⟩), .pointer (some ⟨gi, 0, none⟩), .pointer (some ⟨gt, 0, none⟩), .pointer (some ⟨ge, 0, none⟩)]) (by simp) (by simp [go_sem]) ?_
  refine (decode1_gave gk gi gt ge k i t e w hk hi ht he h1 h2 h3 h4 h5 h6 W0 hW hB).mono ?_
  rintro e' u' w' ⟨rfl, rfl, hw, a1, a2, a3, a4⟩
  exact out103 x0 x1 x2 x3 x4 x5 x10 x11 x12 x13 x14 x15 x16 x17 x18 x19 x20 x21 x22 x23 x24 x25 x26 gi gk gt ge _ _ _ _ R w' a1 a2 a3 a4 (h w' hw)
theorem back103 (x0 x1 x2 x3 x4 x5 x10 x11 x12 x13 x14 x15 x16 x17 x18 x19 x20 x21 x22 x23 x24 x25 x26 : Value) (gi gk gt ge : Nat) (i k e : Int) (t : ByteArray) (W0 : World) (R : Ending → World → Prop) (w : World) (hi : One w gi (.int .i64 i)) (hk : One w gk (.int .i64 k)) (ht : One w gt (.string t)) (he : One w ge (.int .i64 e))
    (h1 : gi ≠ gk) (h2 : gi ≠ gt) (h3 : gi ≠ ge) (h4 : gk ≠ gt) (h5 : gk ≠ ge) (h6 : gt ≠ ge) (hW : Below W0.heap.size W0 w) (hB : W0.heap.size ≤ gk ∧ W0.heap.size ≤ gi ∧ W0.heap.size ≤ gt ∧ W0.heap.size ≤ ge)
    (h : ∀ w', Below W0.heap.size W0 w' → R (if k < 1 then told none else .returned (.tuple #[.int .i64 i, .int .i64 k, .string t, .int .i64 e])) w') :
    Leaves Try.prog Try.f103 #[x0, x1, x2, x3, x4, x5, .pointer (some ⟨gi, 0, none⟩), .pointer (some ⟨gk, 0, none⟩), .pointer (some ⟨gt, 0, none⟩), .pointer (some ⟨ge, 0, none⟩), x10, x11, x12, x13, x14, x15, x16, x17, x18, x19, x20, x21, x22, x23, x24, x25, x26] R [{ target := .fn (.func 137) #[.pointer (some ⟨gk, 0, none⟩), .pointer (some ⟨gi, 0, none⟩), .pointer (some ⟨gt, 0, none⟩), .pointer (some ⟨ge, 0, none⟩)], args := #[] }] .returning w := by
  refine leaves_cons (f := 137) (args := #[.pointer (some ⟨gk, 0, none⟩), .pointer (some ⟨gi, 0, none⟩), .pointer (some ⟨gt, 0, none⟩), .pointer (some ⟨ge, 0, none⟩)]) (by simp) (by simp [go_sem]) ?_
  by_cases hc : k < 1
  · refine (decode1_bad gk gi gt ge k i t e w hc hk hi ht he h1 h2 h3 h4 h5 h6 W0 hW hB).mono ?_
    rintro e' u' w' ⟨rfl, rfl, hw, a1, a2, a3, a4⟩
    rw [if_pos hc] at h
    exact out103 x0 x1 x2 x3 x4 x5 x10 x11 x12 x13 x14 x15 x16 x17 x18 x19 x20 x21 x22 x23 x24 x25 x26 gi gk gt ge _ _ _ _ R w' a1 a2 a3 a4 (h w' hw)
  · refine (decode1_good gk _ _ _ k w hc hk).mono ?_
    rintro e' u' w' ⟨rfl, rfl, rfl⟩
    rw [if_neg hc] at h
    exact out103 x0 x1 x2 x3 x4 x5 x10 x11 x12 x13 x14 x15 x16 x17 x18 x19 x20 x21 x22 x23 x24 x25 x26 gi gk gt ge _ _ _ _ R w' hi hk ht he (h w' hW)
theorem open_calls (W0 : World) (A : Option Addr) (c : Nat) (kind : Int) (l : List Int) (W : World) (hC0 : Kd.C (Kd.int .u8) W0 A l.length l) (hc : l.length ≤ c) (hb : Below W0.heap.size W0 W) :
    Calls Try.prog 108 #[.slice A l.length c, .int .u8 kind] W fun e w' =>
      match ropen kind l with
      | some t => e = .returned (.pointer (some ⟨W.heap.size, 0, none⟩)) ∧ Rat W0 w' W.heap.size t ∧ KeepBut W w' W.heap.size none
      | none => e = .panicked [gaveUp] ∧ Below W.heap.size W w' := by
  cases l with
  | nil => exact open_nil A c kind W
  | cons b t =>
    by_cases h : b = kind
    · subst h
      simp only [ropen, if_pos]
      exact open_yes W0 A c b t W hC0 hc hb
    · simp only [ropen, if_neg h]
      exact open_other A c b kind t W (Kd.C_below hC0 hb) h
set_option maxHeartbeats 4000000 in
set_option maxRecDepth 100000 in
theorem decode_calls (W : World) (A : Option Addr) (c : Nat) (l : List Int) (kind : Int) (most : Nat) (hC : Kd.C (Kd.int .u8) W A l.length l) (hc : l.length ≤ c) (hb : Bytes l) (hl : l.length ≤ 140737488351232) (hm : most ≤ 9223372036854775807) :
    Calls Try.prog 103 #[.slice A l.length c, .int .u8 kind, .int .i64 (most : Int)] W fun e w' => e = told (rdecode kind most l) ∧ Below W.heap.size W w' := by
  have hmf : ∀ (fn : Fn) (first cap : Array Value) (w : World), (Instr.makeFunc fn first cap).run Try.prog w = .ok (.func fn first cap) w := fun _ _ _ _ => rfl
  have GAVE := And.intro @gave103 @back103
  generalize hD : rdecode kind most l = D
  unfold rdecode at hD
  obtain ⟨W1, hW1⟩ : ∃ W1, W1 = ((((W.alloc (.cells #[.int .i64 0] 3)).alloc (.cells #[.int .i64 0] 3)).alloc (.cells #[.string ⟨#[]⟩] 9)).alloc (.cells #[.int .i64 0] 27)) := ⟨_, rfl⟩
  have hs1 : W1.heap.size = W.heap.size + 1 + 1 + 1 + 1 := by rw [hW1]; simp
  have o6 : One W1 W.heap.size (.int .i64 0) := by rw [hW1]; exact (((one_new W _ _ _ rfl).alloc _).alloc _).alloc _
  have o7 : One W1 (W.heap.size + 1) (.int .i64 0) := by rw [hW1]; exact ((one_new _ _ _ _ (by simp)).alloc _).alloc _
  have o8 : One W1 (W.heap.size + 1 + 1) (.string ⟨#[]⟩) := by rw [hW1]; exact (one_new _ _ _ _ (by simp)).alloc _
  have o9 : One W1 (W.heap.size + 1 + 1 + 1) (.int .i64 0) := by rw [hW1]; exact one_new _ _ _ _ (by simp)
  have hb1 : Below W.heap.size W W1 := by rw [hW1]; exact below_alloc (below_alloc (below_alloc (below_alloc (Below.refl _ _) _) _) _) _
  have HO := Aside0.mk (open_calls W A c kind l W1 hC hc hb1)
  have HGV := Aside0.mk GAVE
  have HD := Aside0.mk hD
  have HB := Aside0.mk hb
  clear GAVE hC hb hD
  go_enter_defers Try.func103, Try.ntmps103
  go_wp2_with fail
  rw [← hW1]
  clear hW1
  have ho := HO.out
  have hd := HD.out
  cases h1 : ropen kind l with
  | none =>
    rw [h1] at ho hd
    subst hd
    refine ho.mono ?_
    rintro e w1 ⟨rfl, hb2⟩
    go_wp2_with fail
    exact HGV.out.1 _ _ _ _ _ _ _ _ _ _ _ _ _ _ _ _ _ _ _ _ _ _ _ _ _ _ _ _ _ _ _ W _ w1 (o6.below hb2) (o7.below hb2) (o8.below hb2) (o9.below hb2) (by omega) (by omega) (by omega) (by omega) (by omega) (by omega) (below_step hb1 hb2) (by omega) (fun w' h => ⟨rfl, h⟩)
  | some l1 =>
    rw [h1, hs1] at ho
    rw [h1] at hd
    simp only [Option.bind_some] at hd
    refine ho.mono ?_
    rintro e w1 ⟨rfl, hr1, hk1⟩
    have a6 := o6.but hk1 (by omega)
    have a7 := o7.but hk1 (by omega)
    have a8 := o8.but hk1 (by omega)
    have a9 := o9.but hk1 (by omega)
    have hl1 : l1.length ≤ l.length ∧ Bytes l1 := by
      cases l with
      | nil => simp [ropen] at h1
      | cons b t =>
        simp only [ropen] at h1
        split at h1
        · cases h1; exact ⟨by simp, HB.out.tail⟩
        · cases h1
    have hb2 := hr1.below
    have hn1 := num_calls W _ l1 2147483647 w1 hr1 hl1.2 (by omega) (by omega)
    have NX := Aside0.mk (And.intro a6 (And.intro a7 (And.intro a8 a9)))
    have N1 := Aside0.mk hn1
    clear ho o6 o7 o8 o9 hb1 hn1 hd a6 a7 a8 a9
    go_wp2_with fail
    obtain ⟨a6, a7, a8, a9⟩ := NX.out
    have hn1 := N1.out
    cases h2 : rnum 2147483647 l1 with
    | none =>
      rw [h2] at hn1
      have hd := HD.out
      rw [h1, Option.bind_some, h2] at hd
      subst hd
      refine hn1.mono ?_
      rintro e w2 ⟨rfl, hb2, hk2⟩
      go_wp2_with fail
      exact HGV.out.1 _ _ _ _ _ _ _ _ _ _ _ _ _ _ _ _ _ _ _ _ _ _ _ _ _ _ _ _ _ _ _ W _ w2 (a6.but hk2 (by omega)) (a7.but hk2 (by omega)) (a8.but hk2 (by omega)) (a9.but hk2 (by omega)) (by omega) (by omega) (by omega) (by omega) (by omega) (by omega) hb2 (by omega) (fun w' h => ⟨rfl, h⟩)
    | some p =>
      obtain ⟨i, l2⟩ := p
      rw [h2] at hn1
      refine hn1.mono ?_
      rintro e w2 ⟨rfl, hr2, hk2⟩
      have b6 := a6.but hk2 (by omega)
      have b7 := a7.but hk2 (by omega)
      have b8 := a8.but hk2 (by omega)
      have b9 := a9.but hk2 (by omega)
      have hc6 := b6.cell
      have hf6 := b6.frozen
      clear hn1 a6 a7 a8 a9 NX N1
      go_wp2_with fail
      have c6 := b6.set_ (.int .i64 (i : Int))
      have c7 := b7.far (g' := W.heap.size) (by omega) (.int .i64 (i : Int))
      have c8 := b8.far (g' := W.heap.size) (by omega) (.int .i64 (i : Int))
      have c9 := b9.far (g' := W.heap.size) (by omega) (.int .i64 (i : Int))
      have hr2' := hr2.far W.heap.size 0 (.int .i64 (i : Int)) (by omega) (Nat.le_refl _)
      obtain ⟨_, hl2a, hl2b⟩ := rnum_lt hl1.2 h2
      obtain ⟨w2', hw2⟩ : ∃ w2', w2' = w2.setCell ⟨W.heap.size, 0, none⟩ (.int .i64 (i : Int)) := ⟨_, rfl⟩
      rw [← hw2] at c6 c7 c8 c9 hr2' ⊢
      clear b6 b7 b8 b9 hr2 hc6 hf6 hw2
      have hn2 := num_calls W _ l2 6 w2' hr2' hl2b (by omega) (by omega)
      cases h3 : rnum 6 l2 with
      | none =>
        rw [h3] at hn2
        have hd := HD.out
        rw [h1, Option.bind_some, h2, Option.bind_some, h3] at hd
        subst hd
        refine hn2.mono ?_
        rintro e w3 ⟨rfl, hb3, hk3⟩
        go_wp2_with fail
        exact HGV.out.1 _ _ _ _ _ _ _ _ _ _ _ _ _ _ _ _ _ _ _ _ _ _ _ _ _ _ _ _ _ _ _ W _ w3 (c6.but hk3 (by omega)) (c7.but hk3 (by omega)) (c8.but hk3 (by omega)) (c9.but hk3 (by omega)) (by omega) (by omega) (by omega) (by omega) (by omega) (by omega) hb3 (by omega) (fun w' h => ⟨rfl, h⟩)
      | some p =>
        obtain ⟨k, l3⟩ := p
        rw [h3] at hn2
        refine hn2.mono ?_
        rintro e w3 ⟨rfl, hr3, hk3⟩
        have d6 := c6.but hk3 (by omega)
        have d7 := c7.but hk3 (by omega)
        have d8 := c8.but hk3 (by omega)
        have d9 := c9.but hk3 (by omega)
        have hc7 := d7.cell
        have hf7 := d7.frozen
        clear hn2 c6 c7 c8 c9 hr2'
        go_wp2_with fail
        have e6 := d6.far (g' := W.heap.size + 1) (by omega) (.int .i64 (k : Int))
        have e7 := d7.set_ (.int .i64 (k : Int))
        have e8 := d8.far (g' := W.heap.size + 1) (by omega) (.int .i64 (k : Int))
        have e9 := d9.far (g' := W.heap.size + 1) (by omega) (.int .i64 (k : Int))
        have hr3' := hr3.far (W.heap.size + 1) 0 (.int .i64 (k : Int)) (by omega) (by omega)
        obtain ⟨_, hl3a, hl3b⟩ := rnum_lt hl2b h3
        obtain ⟨w3', hw3⟩ : ∃ w3', w3' = w3.setCell ⟨W.heap.size + 1, 0, none⟩ (.int .i64 (k : Int)) := ⟨_, rfl⟩
        rw [← hw3] at e6 e7 e8 e9 hr3' ⊢
        clear d6 d7 d8 d9 hr3 hc7 hf7 hw3
        have hn3 := text_calls W _ l3 most w3' hr3' hl3b (by omega) (by omega)
        cases h4 : rtext most l3 with
        | none =>
          rw [h4] at hn3
          have hd := HD.out
          rw [h1, Option.bind_some, h2, Option.bind_some, h3, Option.bind_some, h4] at hd
          subst hd
          refine hn3.mono ?_
          rintro e w4 ⟨rfl, hb4, hk4⟩
          go_wp2_with fail
          exact HGV.out.1 _ _ _ _ _ _ _ _ _ _ _ _ _ _ _ _ _ _ _ _ _ _ _ _ _ _ _ _ _ _ _ W _ w4 (e6.but hk4 (by omega)) (e7.but hk4 (by omega)) (e8.but hk4 (by omega)) (e9.but hk4 (by omega)) (by omega) (by omega) (by omega) (by omega) (by omega) (by omega) hb4 (by omega) (fun w' h => ⟨rfl, h⟩)
        | some p =>
          obtain ⟨t, l4⟩ := p
          rw [h4] at hn3
          refine hn3.mono ?_
          rintro e w4 ⟨rfl, hr4, hk4⟩
          have d6 := e6.but hk4 (by omega)
          have d7 := e7.but hk4 (by omega)
          have d8 := e8.but hk4 (by omega)
          have d9 := e9.but hk4 (by omega)
          have hc8 := d8.cell
          have hf8 := d8.frozen
          clear hn3 e6 e7 e8 e9 hr3'
          go_wp2_with fail
          have e6 := d6.far (g' := W.heap.size + 1 + 1) (by omega) (.string t)
          have e7 := d7.far (g' := W.heap.size + 1 + 1) (by omega) (.string t)
          have e8 := d8.set_ (.string t)
          have e9 := d9.far (g' := W.heap.size + 1 + 1) (by omega) (.string t)
          have hr4' := hr4.far (W.heap.size + 1 + 1) 0 (.string t) (by omega) (by omega)
          obtain ⟨w4', hw4⟩ : ∃ w4', w4' = w4.setCell ⟨W.heap.size + 1 + 1, 0, none⟩ (.string t) := ⟨_, rfl⟩
          rw [← hw4] at e6 e7 e8 e9 hr4' ⊢
          clear d6 d7 d8 d9 hr4 hc8 hf8 hw4
          by_cases h5 : l4 = []
          · subst h5
            refine (end_yes W _ w4' hr4').mono ?_
            rintro e w5 ⟨rfl, rfl⟩
            have hd := HD.out
            rw [h1, Option.bind_some, h2, Option.bind_some, h3, Option.bind_some, h4, Option.bind_some] at hd
            simp only [true_and] at hd
            go_wp2_with fail
            have c6 := e6.cell
            have f6 := e6.frozen
            have c7 := e7.cell
            have f7 := e7.frozen
            have c8 := e8.cell
            have f8 := e8.frozen
            have c9 := e9.cell
            have f9 := e9.frozen
            have n1 : W.heap.size ≠ W.heap.size + 1 := by omega
            have n2 : W.heap.size ≠ W.heap.size + 1 + 1 := by omega
            have n3 : W.heap.size ≠ W.heap.size + 1 + 1 + 1 := by omega
            have n4 : W.heap.size + 1 ≠ W.heap.size + 1 + 1 := by omega
            have n5 : W.heap.size + 1 ≠ W.heap.size + 1 + 1 + 1 := by omega
            have n6 : W.heap.size + 1 + 1 ≠ W.heap.size + 1 + 1 + 1 := by omega
            have HR := Aside0.mk hr4'.below
            clear hr4' hk1 hk2 hk3 hk4 hl1 hl2a hl2b hl3a hl3b hd hl hm hc hs1 hb2
            go_region
            have q6 := (((e6.set_ (.int .i64 (i : Int))).far (g' := W.heap.size + 1) (by omega) (.int .i64 (k : Int))).far (g' := W.heap.size + 1 + 1) (by omega) (.string t)).far (g' := W.heap.size + 1 + 1 + 1) (by omega) (.int .i64 0)
            have q7 := (((e7.far (g' := W.heap.size) (by omega) (.int .i64 (i : Int))).set_ (.int .i64 (k : Int))).far (g' := W.heap.size + 1 + 1) (by omega) (.string t)).far (g' := W.heap.size + 1 + 1 + 1) (by omega) (.int .i64 0)
            have q8 := (((e8.far (g' := W.heap.size) (by omega) (.int .i64 (i : Int))).far (g' := W.heap.size + 1) (by omega) (.int .i64 (k : Int))).set_ (.string t)).far (g' := W.heap.size + 1 + 1 + 1) (by omega) (.int .i64 0)
            have q9 := (((e9.far (g' := W.heap.size) (by omega) (.int .i64 (i : Int))).far (g' := W.heap.size + 1) (by omega) (.int .i64 (k : Int))).far (g' := W.heap.size + 1 + 1) (by omega) (.string t)).set_ (.int .i64 0)
            have HR2 := below_set (below_set (below_set (below_set HR.out (g := W.heap.size) (j := 0) (by omega) (v := .int .i64 (i : Int))) (g := W.heap.size + 1) (j := 0) (by omega) (v := .int .i64 (k : Int))) (g := W.heap.size + 1 + 1) (j := 0) (by omega) (v := .string t)) (g := W.heap.size + 1 + 1 + 1) (j := 0) (by omega) (v := .int .i64 0)
            have hd := HD.out
            rw [h1, Option.bind_some, h2, Option.bind_some, h3, Option.bind_some, h4, Option.bind_some] at hd
            simp only [true_and] at hd
            have HV := HGV.out.2
            clear HGV HD HB HR c6 c7 c8 c9 f6 f7 f8 f9 e6 e7 e8 e9
            go_wp2_with fail
            refine HV _ _ _ _ _ _ _ _ _ _ _ _ _ _ _ _ _ _ _ _ _ _ _ _ _ _ _ _ _ _ _ W _ _ q6.drew q7.drew q8.drew q9.drew (by omega) (by omega) (by omega) (by omega) (by omega) (by omega) (below_drew HR2) (by omega) (fun w' h => ⟨?_, h⟩)
            rw [← hd]
            by_cases hk : 1 ≤ k
            · rw [if_neg (by omega), if_pos hk]; rfl
            · rw [if_pos (by omega), if_neg hk]
          · refine (end_no W _ l4 w4' hr4' h5).mono ?_
            rintro e w5 ⟨rfl, rfl⟩
            have hd := HD.out
            rw [h1, Option.bind_some, h2, Option.bind_some, h3, Option.bind_some, h4, Option.bind_some] at hd
            simp only [h5, false_and, if_false] at hd
            subst hd
            go_wp2_with fail
            exact HGV.out.1 _ _ _ _ _ _ _ _ _ _ _ _ _ _ _ _ _ _ _ _ _ _ _ _ _ _ _ _ _ _ _ W _ w4' e6 e7 e8 e9 (by omega) (by omega) (by omega) (by omega) (by omega) (by omega) hr4'.below (by omega) (fun w' h => ⟨rfl, h⟩)
end Go.Proofs.Ytnhblhhkjnmkkaa.Q
