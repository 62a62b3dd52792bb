import Derived.Test.YtnpkeganpkobjaaGreatDoorXJ
set_option linter.all false
namespace Go.Proofs.YtnpkeganpkobjaaGreatDoor.Ev
set_option maxRecDepth 100000
open Go Go.RowKit
noncomputable section
theorem ue {P : Program} {σ : Nat → Int} {e : Sm} {Q : List Nm} (h : e.Ok P (sgl (Q.map (Nm.val σ)))) : e.Ok P (sgn σ (qf Q)) := by rw [sgn_qf]; exact h
section facts
variable {σ : Nat → Int} {a b r : Nm}
theorem gA (x y z : Int) (h : z = x + y ∧ 0 ≤ z ∧ z ≤ 9223372036854775807 := by omega) (ha : a.val σ = x := by rfl) (hb : b.val σ = y := by rfl) (hr : r.val σ = z := by rfl) : FAr.Ok σ ⟨.add, .u64, a, b, r⟩ :=
  fk_add (by rw [ha, hb, hr]; exact h.1) (by rw [hr]; exact h.2.1) (by rw [hr]; exact Int.le_trans h.2.2 (by decide))
theorem gM (x y z : Int) (h : z = x * y ∧ 0 ≤ z ∧ z ≤ 9223372036854775807 := by omega) (ha : a.val σ = x := by rfl) (hb : b.val σ = y := by rfl) (hr : r.val σ = z := by rfl) : FAr.Ok σ ⟨.mul, .u64, a, b, r⟩ :=
  fk_mul (by rw [ha, hb, hr]; exact h.1) (by rw [hr]; exact h.2.1) (by rw [hr]; exact Int.le_trans h.2.2 (by decide))
theorem gR {k : IntKind} (x y z : Int) (h : 0 ≤ x ∧ 0 < y ∧ z = x % y := by omega) (ha : a.val σ = x := by rfl) (hb : b.val σ = y := by rfl) (hr : r.val σ = z := by rfl) : FAr.Ok σ ⟨.rem, k, a, b, r⟩ :=
  fk_rem (by rw [ha]; exact h.1) (by rw [hb]; exact h.2.1) (by rw [ha, hb, hr]; exact h.2.2)
theorem gQ (x y z : Int) (h : 0 ≤ x ∧ 0 < y ∧ z = x / y ∧ 0 ≤ z ∧ z ≤ 9223372036854775807 := by omega) (ha : a.val σ = x := by rfl) (hb : b.val σ = y := by rfl) (hr : r.val σ = z := by rfl) : FAr.Ok σ ⟨.quo, .u64, a, b, r⟩ :=
  fk_quo (by rw [ha]; exact h.1) (by rw [hb]; exact h.2.1) (by rw [ha, hb, hr]; exact h.2.2.1) (by rw [hr]; exact h.2.2.2.1) (by rw [hr]; exact Int.le_trans h.2.2.2.2 (by decide))
theorem gN (x z : Int) (h : z = x ∧ 0 ≤ x ∧ x < 9223372036854775808 := by omega) (ha : a.val σ = x := by rfl) (hr : r.val σ = z := by rfl) : FAr.Ok σ ⟨.andNot, .u64, a, .c 9223372036854775808, r⟩ :=
  fk_andNot (by rw [ha, hr]; exact h.1) (by rw [ha]; exact h.2.1) (by rw [ha]; exact h.2.2)
theorem gO (x z : Int) (h : z = x ∧ 0 ≤ x ∧ x ≤ 9223372036854775807 := by omega) (ha : b.val σ = x := by rfl) (hr : r.val σ = z := by rfl) : FAr.Ok σ ⟨.or, .u64, .c 0, b, r⟩ :=
  fk_or0 (by rw [ha, hr]; exact h.1) (by rw [ha]; exact h.2.1) (by rw [ha]; exact h.2.2)
theorem gD (x z : Int) (h : z = x ∧ 0 ≤ x ∧ x ≤ 127 := by omega) (ha : a.val σ = x := by rfl) (hr : r.val σ = z := by rfl) : FAr.Ok σ ⟨.and, .u8, a, .c 127, r⟩ :=
  fk_and127 (by rw [ha, hr]; exact h.1) (by rw [ha]; exact h.2.1) (by rw [ha]; exact h.2.2)
end facts
def dg1F : Facts := ⟨[(0, 9), (48, 57)], [⟨.rem, .i64, .s 0, .c (10), .s 0⟩, ⟨.add, .i64, .c (48), .s 0, .s 1⟩, ⟨.quo, .i64, .s 0, .c (10), .c (0)⟩], [], [], [], [], [], []⟩
def dg1E (n : Nat) : Sm := ⟨95, [.sint .i64 0], 0, [], .str [257], n, []⟩
theorem dg1R : ∃ n, smOk (dg1E n) (callS dg1F [] [] 95 [.sint .i64 0] (mkSt [] 0)) = true := by
  exact ⟨match (callS dg1F [] [] 95 [.sint .i64 0] (mkSt [] 0)) with | some r => r.2.next | none => 0, by kernel_rfl⟩
theorem dg1 (x a : Int) (h : 0 ≤ x ∧ x ≤ 9 := by omega) (ha : a = 48 + x := by omega) : ∃ n, (dg1E n).Ok Tryz.prog (sgl [x, a]) := by
  obtain ⟨n, hn⟩ := dg1R
  exact ⟨n, sm_signs (F := dg1F) (l := [x, a]) ⟨gc (gc trivial), al (fR x 10 x) (al (fA 48 x a) (al (fQ x 10 0) an)), an, an, an, an, an, an⟩ an an 2 (by simp) hn (by kernel_rfl)⟩
def dg2F : Facts := ⟨[(10, 99), (48, 57), (48, 57), (0, 9), (1, 9)], [⟨.rem, .i64, .s 0, .c (10), .s 3⟩, ⟨.add, .i64, .c (48), .s 3, .s 2⟩, ⟨.quo, .i64, .s 0, .c (10), .s 4⟩, ⟨.rem, .i64, .s 4, .c (10), .s 4⟩, ⟨.add, .i64, .c (48), .s 4, .s 1⟩, ⟨.quo, .i64, .s 4, .c (10), .c (0)⟩], [], [], [], [], [], []⟩
def dg2E (n : Nat) : Sm := ⟨95, [.sint .i64 0], 0, [], .str [257, 258], n, []⟩
theorem dg2R : ∃ n, smOk (dg2E n) (callS dg2F [] [] 95 [.sint .i64 0] (mkSt [] 0)) = true := by
  exact ⟨match (callS dg2F [] [] 95 [.sint .i64 0] (mkSt [] 0)) with | some r => r.2.next | none => 0, by kernel_rfl⟩
theorem dg2 (x a b : Int) (h : 10 ≤ x ∧ x ≤ 99 := by omega) (ha : a = 48 + x / 10 := by omega) (hb : b = 48 + x % 10 := by omega) : ∃ n, (dg2E n).Ok Tryz.prog (sgl [x, a, b]) := by
  obtain ⟨n, hn⟩ := dg2R
  obtain ⟨y3, h3⟩ := ex (x % 10)
  obtain ⟨y4, h4⟩ := ex (x / 10)
  exact ⟨n, sm_signs (F := dg2F) (l := [x, a, b, y3, y4]) ⟨gc (gc (gc (gc (gc trivial)))), al (fR x 10 y3) (al (fA 48 y3 b) (al (fQ x 10 y4) (al (fR y4 10 y4) (al (fA 48 y4 a) (al (fQ y4 10 0) an))))), an, an, an, an, an, an⟩ an an 3 (by simp) hn (by kernel_rfl)⟩
def shC (a b : Int) : Int := Fl.op .quo (Fl.near a) (Fl.near b)
def shW (c : Int) : Int := Fl.int c
def shP (c : Int) : Int := Fl.int (Fl.op .mul (Fl.op .sub c (Fl.near (Fl.int c))) 4652007308841189376)
structure IsSh (a b w x y z : Int) : Prop where
  w : w = 48 + shW (shC a b)
  x : x = 48 + shP (shC a b) / 100
  y : y = 48 + shP (shC a b) / 10 % 10
  z : z = 48 + shP (shC a b) % 10
theorem exSh (a b : Int) : ∃ w x y z, IsSh a b w x y z := ⟨_, _, _, _, rfl, rfl, rfl, rfl⟩
theorem shC_bd (a b : Int) (h : 0 ≤ a ∧ a ≤ b ∧ 1 ≤ b ∧ b ≤ 30 := by omega) : 0 ≤ shC a b ∧ shC a b ≤ 9218868437227405312 :=
  (share_ok (a := a) (b := b) (by omega) (by omega) (by omega) (by omega) rfl rfl rfl rfl rfl rfl rfl rfl rfl).hf
theorem IsSh.bd {a b w x y z : Int} (s : IsSh a b w x y z) (h : 0 ≤ a ∧ a ≤ b ∧ 1 ≤ b ∧ b ≤ 30 := by omega) : (48 ≤ w ∧ w ≤ 49) ∧ (48 ≤ x ∧ x ≤ 57) ∧ (48 ≤ y ∧ y ≤ 57) ∧ (48 ≤ z ∧ z ≤ 57) := by
  have k := share_ok (a := a) (b := b) (by omega) (by omega) (by omega) (by omega) rfl rfl rfl rfl rfl rfl rfl rfl rfl
  have k1 := k.hw
  have k2 := k.hi
  have e1 : shW (shC a b) = Fl.int (Fl.op .quo (Fl.near a) (Fl.near b)) := rfl
  have e2 : shP (shC a b) = Fl.int (Fl.op .mul (Fl.op .sub (Fl.op .quo (Fl.near a) (Fl.near b)) (Fl.near (Fl.int (Fl.op .quo (Fl.near a) (Fl.near b))))) 4652007308841189376) := rfl
  rw [← e1] at k1
  rw [← e2] at k2
  have h1 := s.w
  have h2 := s.x
  have h3 := s.y
  have h4 := s.z
  omega
def ofF : Facts := ⟨[(0, 30), (1, 30), (0, 9218868437227405312), (0, 9218868437227405312), (0, 9218868437227405312)], [], [], [], [⟨.quo, .s 3, .s 4, .sflt 2⟩], [⟨.s 0, .sflt 3⟩, ⟨.s 1, .sflt 4⟩], [], []⟩
def ofE (n : Nat) : Sm := ⟨226, [.sint .i64 0, .sint .i64 1], 0, [], .sflt 2, n, []⟩
theorem ofR : ∃ n, smOk (ofE n) (callS ofF [] [] 226 [.sint .i64 0, .sint .i64 1] (mkSt [] 0)) = true := by
  exact ⟨match (callS ofF [] [] 226 [.sint .i64 0, .sint .i64 1] (mkSt [] 0)) with | some r => r.2.next | none => 0, by kernel_rfl⟩
theorem of0 (a b c : Int) (h : 0 ≤ a ∧ a ≤ b ∧ 1 ≤ b ∧ b ≤ 30 := by omega) (hc : c = shC a b := by assumption) : ∃ n, (ofE n).Ok Tryz.prog (sgl [a, b, c]) := by
  obtain ⟨n, hn⟩ := ofR
  obtain ⟨y3, h3⟩ := ex (Fl.near a)
  obtain ⟨y4, h4⟩ := ex (Fl.near b)
  have n3 := near_bd (by omega) (by omega) h3
  have n4 := near_bd (by omega) (by omega) h4
  have hc : c = Fl.op .quo (Fl.near a) (Fl.near b) := hc
  have k := share_ok (a := a) (b := b) (f := c) (by omega) (by omega) (by omega) (by omega) h3 h4 (by rw [h3, h4]; exact hc) rfl rfl rfl rfl rfl rfl
  have k1 := k.hf
  exact ⟨n, sm_signs (F := ofF) (l := [a, b, c, y3, y4]) ⟨gc (gc (gc (gc (gc trivial)))), an, an, an, al k.q an, al (fc_ok h3) (al (fc_ok h4) an), an, an⟩ an an 3 (by simp) hn (by kernel_rfl)⟩
def txF : Facts := ⟨[(0, 9218868437227405312), (48, 49), (48, 57), (48, 57), (48, 57), (0, 1), (0, 9218868437227405312), (0, 9218868437227405312), (0, 9218868437227405312), (0, 999), (0, 18446744073709551616)], [⟨.andNot, .u64, .s 0, .c (9223372036854775808), .s 0⟩, ⟨.rem, .i64, .s 5, .c (10), .s 5⟩, ⟨.add, .i64, .c (48), .s 5, .s 1⟩, ⟨.quo, .i64, .s 5, .c (10), .c (0)⟩], [], [],
  [⟨.neq, .s 0, .s 0, .bool false⟩, ⟨.gtr, .s 0, .c (9218868437227405311), .bool false⟩, ⟨.gtr, .s 10, .c (9218868437227405311), .bool false⟩, ⟨.geq, .s 0, .c (4845873199050653696), .bool false⟩, ⟨.sub, .s 0, .s 6, .sflt 7⟩, ⟨.mul, .s 7, .c (4652007308841189376), .sflt 8⟩], [⟨.s 5, .sflt 6⟩], [⟨.s 0, .sint .i64 5⟩, ⟨.s 8, .sint .i64 9⟩], [⟨.s 0, .sflt 10⟩]⟩
def txP : List Pur := [⟨282, [.sint .i64 9, .int .i64 3], .str [258, 259, 260]⟩]
def txE (n : Nat) : Sm := ⟨225, [.sflt 0], 0, [], .str [257, 46, 258, 259, 260], n, []⟩
theorem txR : ∃ n, smOk (txE n) (callS txF [] txP 225 [.sflt 0] (mkSt [] 0)) = true := by
  exact ⟨match (callS txF [] txP 225 [.sflt 0] (mkSt [] 0)) with | some r => r.2.next | none => 0, by kernel_rfl⟩
theorem tx0 (c w x y z a b : Int) (h : 0 ≤ a ∧ a ≤ b ∧ 1 ≤ b ∧ b ≤ 30 := by omega) (hc : c = shC a b := by assumption) (s : IsSh a b w x y z := by assumption) : ∃ n, (txE n).Ok Tryz.prog (sgl [c, w, x, y, z]) := by
  obtain ⟨n, hn⟩ := txR
  have bd := s.bd h
  obtain ⟨y5, h5⟩ := ex (Fl.int c)
  obtain ⟨y6, h6⟩ := ex (Fl.near y5)
  obtain ⟨y7, h7⟩ := ex (Fl.op .sub c y6)
  obtain ⟨y8, h8⟩ := ex (Fl.op .mul y7 (4652007308841189376))
  obtain ⟨y9, h9⟩ := ex (Fl.int y8)
  obtain ⟨y10, h10⟩ := ex (Fl.neg c)
  have k := share_ok (a := a) (b := b) (by omega) (by omega) (by omega) (by omega) rfl rfl hc h10 h5 h6 h7 h8 h9
  have e5 : shW (shC a b) = y5 := by rw [← hc]; exact h5.symm
  have e9 : shP (shC a b) = y9 := by rw [← hc, h9, h8, h7, h6, h5]; rfl
  have sw := s.w
  have sx := s.x
  have sy := s.y
  have sz := s.z
  rw [e5] at sw
  rw [e9] at sx sy sz
  have q1 := k.hf
  have q2 := k.hm
  have q3 := k.hw
  have q4 := k.hg
  have q5 := k.hs
  have q6 := k.hp
  have q7 := k.hi
  exact ⟨n, sm_signs (F := txF) (ps := txP) (l := [c, w, x, y, z, y5, y6, y7, y8, y9, y10]) ⟨gc (gc (gc (gc (gc (gc (gc (gc (gc (gc (gc trivial)))))))))),
    al (fk_andNot (show c = c by omega) (show (0 : Int) ≤ c by omega) (show c < (9223372036854775808 : Int) by omega)) (al (fR y5 10 y5) (al (fA 48 y5 w) (al (fQ y5 10 0) an))), an, an,
    al k.ne (al k.gt (al k.gm (al k.ge (al k.sb (al k.ml an))))), al (fc_ok h6) an, al k.iw (al k.ip an), al (fn_ok h10) an⟩ an
    (al (fill_ok (E := env txF.sg) (σ := sgl [c, w, x, y, z, y5, y6, y7, y8, y9, y10]) (i := 9) (a := 2) (b := 3) (c := 4) rfl (show (0 : Int) ≤ y9 by omega) (show y9 ≤ (999 : Int) by omega) (show x = 48 + y9 / 100 by omega) (show y = 48 + y9 / 10 % 10 by omega) (show z = 48 + y9 % 10 by omega)) an) 5 (by simp) hn (by kernel_rfl)⟩
def Nr (k : Int) : Prop := k = 4605380978949069210 ∨ k = 4602678819172646912
theorem Nr.bd {k : Int} (h : Nr k) : (4602678819172646912 : Int) ≤ k ∧ k ≤ 4605380978949069210 := by rcases h with rfl | rfl <;> omega
def Thr (L k : Int) : Int := if k = 4605380978949069210 then L * 4 / 5 else L / 2
theorem Thr_bd (L k : Int) (h : 0 ≤ L ∧ L ≤ 30 := by omega) : 0 ≤ Thr L k ∧ Thr L k ≤ L ∧ (L = 0 ∨ Thr L k < L) := by
  unfold Thr
  split <;> omega
def Jn (b T : Int) : Int := if T ≤ b then 1 else 0
theorem Jn_bd (b T : Int) : (T ≤ b ∧ Jn b T = 1) ∨ (b < T ∧ Jn b T = 0) := by
  unfold Jn
  split <;> omega
def t3 (i : Nat) (l : List FAr) : List FAr := ⟨.rem, .u8, .s i, .c 128, .s i⟩ :: ⟨.mul, .u64, .s i, .c 1, .s i⟩ :: ⟨.add, .u64, .c 0, .s i, .s i⟩ :: l
theorem a3 {σ : Nat → Int} {i : Nat} {l : List FAr} (x : Int) (t : ∀ e ∈ l, e.Ok σ) (h : 0 ≤ x ∧ x ≤ 127 := by omega) (hi : σ i = x := by rfl) : ∀ e ∈ t3 i l, e.Ok σ :=
  al (gR x 128 x (by omega) hi rfl hi) (al (gM x 1 x (by omega) hi rfl hi) (al (gA 0 x x (by omega) rfl hi hi) t))
end
end Go.Proofs.YtnpkeganpkobjaaGreatDoor.Ev
namespace Go.Proofs.YtnpkeganpkobjaaGreatDoor.Ev
set_option maxRecDepth 100000
set_option maxHeartbeats 4000000
open Go Go.RowKit
noncomputable section
def TkE0 (n : Nat) : Sm := ⟨253, [.str [48]], 0, [], .tup [.flt 0, .bool true], n, []⟩
def TkE0v0U : List Use := []
def TkE0v0P : List Pur := []
def TkE0v0F : Facts := ⟨[], [], [], [], [], [], [], []⟩
theorem TkE0v0R : ∃ n, smOk (TkE0 n) (callS TkE0v0F TkE0v0U TkE0v0P 253 [.str [48]] (mkSt [] 0)) = true := by
  exact ⟨match (callS TkE0v0F TkE0v0U TkE0v0P 253 [.str [48]] (mkSt [] 0)) with | some r => r.2.next | none => 0, by kernel_rfl⟩
theorem TkE0_ok : ∃ n, (TkE0 n).Ok Tryz.prog (sgl []) := by
  obtain ⟨n, hn⟩ := TkE0v0R
  exact ⟨n, sm_signs (F := TkE0v0F) (us := TkE0v0U) (ps := TkE0v0P) (l := []) ⟨trivial, an, an, an, an, an, an, an⟩ an an 0 (by simp) hn (by kernel_rfl)⟩
def TkE1 (n : Nat) : Sm := ⟨327, [.flt 4605380978949069210, .flt 0], 0, [], .bool false, n, []⟩
def TkE1v0U : List Use := []
def TkE1v0P : List Pur := []
def TkE1v0F : Facts := ⟨[], [], [], [], [], [], [], []⟩
theorem TkE1v0R : ∃ n, smOk (TkE1 n) (callS TkE1v0F TkE1v0U TkE1v0P 327 [.flt 4605380978949069210, .flt 0] (mkSt [] 0)) = true := by
  exact ⟨match (callS TkE1v0F TkE1v0U TkE1v0P 327 [.flt 4605380978949069210, .flt 0] (mkSt [] 0)) with | some r => r.2.next | none => 0, by kernel_rfl⟩
theorem TkE1_ok : ∃ n, (TkE1 n).Ok Tryz.prog (sgl []) := by
  obtain ⟨n, hn⟩ := TkE1v0R
  exact ⟨n, sm_signs (F := TkE1v0F) (us := TkE1v0U) (ps := TkE1v0P) (l := []) ⟨trivial, an, an, an, an, an, an, an⟩ an an 0 (by simp) hn (by kernel_rfl)⟩
def TkE2 (n : Nat) : Sm := ⟨253, [.str [49]], 0, [], .tup [.flt 4607182418800017408, .bool true], n, []⟩
def TkE2v0U : List Use := []
def TkE2v0P : List Pur := []
def TkE2v0F : Facts := ⟨[], [], [], [], [], [], [], []⟩
theorem TkE2v0R : ∃ n, smOk (TkE2 n) (callS TkE2v0F TkE2v0U TkE2v0P 253 [.str [49]] (mkSt [] 0)) = true := by
  exact ⟨match (callS TkE2v0F TkE2v0U TkE2v0P 253 [.str [49]] (mkSt [] 0)) with | some r => r.2.next | none => 0, by kernel_rfl⟩
theorem TkE2_ok : ∃ n, (TkE2 n).Ok Tryz.prog (sgl []) := by
  obtain ⟨n, hn⟩ := TkE2v0R
  exact ⟨n, sm_signs (F := TkE2v0F) (us := TkE2v0U) (ps := TkE2v0P) (l := []) ⟨trivial, an, an, an, an, an, an, an⟩ an an 0 (by simp) hn (by kernel_rfl)⟩
def TkE3 (n : Nat) : Sm := ⟨327, [.flt 4605380978949069210, .flt 4607182418800017408], 0, [], .bool false, n, []⟩
def TkE3v0U : List Use := []
def TkE3v0P : List Pur := []
def TkE3v0F : Facts := ⟨[], [], [], [], [], [], [], []⟩
theorem TkE3v0R : ∃ n, smOk (TkE3 n) (callS TkE3v0F TkE3v0U TkE3v0P 327 [.flt 4605380978949069210, .flt 4607182418800017408] (mkSt [] 0)) = true := by
  exact ⟨match (callS TkE3v0F TkE3v0U TkE3v0P 327 [.flt 4605380978949069210, .flt 4607182418800017408] (mkSt [] 0)) with | some r => r.2.next | none => 0, by kernel_rfl⟩
theorem TkE3_ok : ∃ n, (TkE3 n).Ok Tryz.prog (sgl []) := by
  obtain ⟨n, hn⟩ := TkE3v0R
  exact ⟨n, sm_signs (F := TkE3v0F) (us := TkE3v0U) (ps := TkE3v0P) (l := []) ⟨trivial, an, an, an, an, an, an, an⟩ an an 0 (by simp) hn (by kernel_rfl)⟩
def TkE4 (n : Nat) : Sm := ⟨253, [.str [48, 46, 55]], 0, [], .tup [.flt 4604480259023595110, .bool true], n, []⟩
def TkE4v0U : List Use := []
def TkE4v0P : List Pur := []
def TkE4v0F : Facts := ⟨[], [], [], [], [], [], [], []⟩
theorem TkE4v0R : ∃ n, smOk (TkE4 n) (callS TkE4v0F TkE4v0U TkE4v0P 253 [.str [48, 46, 55]] (mkSt [] 0)) = true := by
  exact ⟨match (callS TkE4v0F TkE4v0U TkE4v0P 253 [.str [48, 46, 55]] (mkSt [] 0)) with | some r => r.2.next | none => 0, by kernel_rfl⟩
theorem TkE4_ok : ∃ n, (TkE4 n).Ok Tryz.prog (sgl []) := by
  obtain ⟨n, hn⟩ := TkE4v0R
  exact ⟨n, sm_signs (F := TkE4v0F) (us := TkE4v0U) (ps := TkE4v0P) (l := []) ⟨trivial, an, an, an, an, an, an, an⟩ an an 0 (by simp) hn (by kernel_rfl)⟩
def TkE5 (n : Nat) : Sm := ⟨327, [.flt 4605380978949069210, .flt 4604480259023595110], 0, [], .bool false, n, []⟩
def TkE5v0U : List Use := []
def TkE5v0P : List Pur := []
def TkE5v0F : Facts := ⟨[], [], [], [], [], [], [], []⟩
theorem TkE5v0R : ∃ n, smOk (TkE5 n) (callS TkE5v0F TkE5v0U TkE5v0P 327 [.flt 4605380978949069210, .flt 4604480259023595110] (mkSt [] 0)) = true := by
  exact ⟨match (callS TkE5v0F TkE5v0U TkE5v0P 327 [.flt 4605380978949069210, .flt 4604480259023595110] (mkSt [] 0)) with | some r => r.2.next | none => 0, by kernel_rfl⟩
theorem TkE5_ok : ∃ n, (TkE5 n).Ok Tryz.prog (sgl []) := by
  obtain ⟨n, hn⟩ := TkE5v0R
  exact ⟨n, sm_signs (F := TkE5v0F) (us := TkE5v0U) (ps := TkE5v0P) (l := []) ⟨trivial, an, an, an, an, an, an, an⟩ an an 0 (by simp) hn (by kernel_rfl)⟩
def TkE6 (n : Nat) : Sm := ⟨253, [.str [48, 46, 56]], 0, [], .tup [.flt 4605380978949069210, .bool true], n, []⟩
def TkE6v0U : List Use := []
def TkE6v0P : List Pur := []
def TkE6v0F : Facts := ⟨[], [], [], [], [], [], [], []⟩
theorem TkE6v0R : ∃ n, smOk (TkE6 n) (callS TkE6v0F TkE6v0U TkE6v0P 253 [.str [48, 46, 56]] (mkSt [] 0)) = true := by
  exact ⟨match (callS TkE6v0F TkE6v0U TkE6v0P 253 [.str [48, 46, 56]] (mkSt [] 0)) with | some r => r.2.next | none => 0, by kernel_rfl⟩
theorem TkE6_ok : ∃ n, (TkE6 n).Ok Tryz.prog (sgl []) := by
  obtain ⟨n, hn⟩ := TkE6v0R
  exact ⟨n, sm_signs (F := TkE6v0F) (us := TkE6v0U) (ps := TkE6v0P) (l := []) ⟨trivial, an, an, an, an, an, an, an⟩ an an 0 (by simp) hn (by kernel_rfl)⟩
def TkE7 (n : Nat) : Sm := ⟨327, [.flt 4605380978949069210, .flt 4605380978949069210], 0, [], .bool true, n, []⟩
def TkE7v0U : List Use := []
def TkE7v0P : List Pur := []
def TkE7v0F : Facts := ⟨[], [], [], [], [], [], [], []⟩
theorem TkE7v0R : ∃ n, smOk (TkE7 n) (callS TkE7v0F TkE7v0U TkE7v0P 327 [.flt 4605380978949069210, .flt 4605380978949069210] (mkSt [] 0)) = true := by
  exact ⟨match (callS TkE7v0F TkE7v0U TkE7v0P 327 [.flt 4605380978949069210, .flt 4605380978949069210] (mkSt [] 0)) with | some r => r.2.next | none => 0, by kernel_rfl⟩
theorem TkE7_ok : ∃ n, (TkE7 n).Ok Tryz.prog (sgl []) := by
  obtain ⟨n, hn⟩ := TkE7v0R
  exact ⟨n, sm_signs (F := TkE7v0F) (us := TkE7v0U) (ps := TkE7v0P) (l := []) ⟨trivial, an, an, an, an, an, an, an⟩ an an 0 (by simp) hn (by kernel_rfl)⟩
def TkE8 (n : Nat) : Sm := ⟨365, [.flt 4605380978949069210], 0, [], .tup [.str [48, 46, 56], .bool true], n, []⟩
def TkE8v0U : List Use := []
def TkE8v0P : List Pur := [⟨253, [.str [48]], .tup [.flt 0, .bool true]⟩, ⟨327, [.flt 4605380978949069210, .flt 0], .bool false⟩, ⟨253, [.str [49]], .tup [.flt 4607182418800017408, .bool true]⟩, ⟨327, [.flt 4605380978949069210, .flt 4607182418800017408], .bool false⟩, ⟨253, [.str [48, 46, 55]], .tup [.flt 4604480259023595110, .bool true]⟩, ⟨327, [.flt 4605380978949069210, .flt 4604480259023595110], .bool false⟩, ⟨253, [.str [48, 46, 56]], .tup [.flt 4605380978949069210, .bool true]⟩, ⟨327, [.flt 4605380978949069210, .flt 4605380978949069210], .bool true⟩]
def TkE8v0F : Facts := ⟨[], [], [], [], [], [], [], []⟩
theorem TkE8v0R : ∃ n, smOk (TkE8 n) (callS TkE8v0F TkE8v0U TkE8v0P 365 [.flt 4605380978949069210] (mkSt [] 0)) = true := by
  exact ⟨match (callS TkE8v0F TkE8v0U TkE8v0P 365 [.flt 4605380978949069210] (mkSt [] 0)) with | some r => r.2.next | none => 0, by kernel_rfl⟩
theorem TkE8_ok : ∃ n, (TkE8 n).Ok Tryz.prog (sgl []) := by
  obtain ⟨n, hn⟩ := TkE8v0R
  exact ⟨n, sm_signs (F := TkE8v0F) (us := TkE8v0U) (ps := TkE8v0P) (l := []) ⟨trivial, an, an, an, an, an, an, an⟩ an (al (pz (TkE0_ok) []) (al (pz (TkE1_ok) []) (al (pz (TkE2_ok) []) (al (pz (TkE3_ok) []) (al (pz (TkE4_ok) []) (al (pz (TkE5_ok) []) (al (pz (TkE6_ok) []) (al (pz (TkE7_ok) []) an)))))))) 0 (by simp) hn (by kernel_rfl)⟩
def TkE9 (n : Nat) : Sm := ⟨269, [.agg [.str [], .int .i64 2, .sint .i64 0, .flt 4605380978949069210, .bool false, .bool false]], 0, [], .int .i64 0, n, []⟩
def TkE9v0U : List Use := []
def TkE9v0P : List Pur := [⟨365, [.flt 4605380978949069210], .tup [.str [48, 46, 56], .bool true]⟩]
def TkE9v0F : Facts := ⟨[(0, 30)], [], [], [], [], [], [], []⟩
theorem TkE9v0R : ∃ n, smOk (TkE9 n) (callS TkE9v0F TkE9v0U TkE9v0P 269 [.agg [.str [], .int .i64 2, .sint .i64 0, .flt 4605380978949069210, .bool false, .bool false]] (mkSt [] 0)) = true := by
  exact ⟨match (callS TkE9v0F TkE9v0U TkE9v0P 269 [.agg [.str [], .int .i64 2, .sint .i64 0, .flt 4605380978949069210, .bool false, .bool false]] (mkSt [] 0)) with | some r => r.2.next | none => 0, by kernel_rfl⟩
theorem TkE9_ok (x0 : Int) (b : Gs [(0, 30)] [x0] := by simp only [Gs, and_true]; omega) : ∃ n, (TkE9 n).Ok Tryz.prog (sgl [x0]) := by
  obtain ⟨n, hn⟩ := TkE9v0R
  exact ⟨n, sm_signs (F := TkE9v0F) (us := TkE9v0U) (ps := TkE9v0P) (l := [x0]) ⟨b, an, an, an, an, an, an, an⟩ an (al (pz (TkE8_ok) []) an) 1 (by simp) hn (by kernel_rfl)⟩
def TkE10 (n : Nat) : Sm := ⟨328, [.agg [.str [], .int .i64 2, .sint .i64 0, .flt 4605380978949069210, .bool false, .bool false]], 0, [], .sint .i64 3, n, []⟩
def TkE10v0U : List Use := []
def TkE10v0P : List Pur := [⟨269, [.agg [.str [], .int .i64 2, .sint .i64 0, .flt 4605380978949069210, .bool false, .bool false]], .int .i64 0⟩]
def TkE10v0F : Facts := ⟨[(0, 30), (0, 9218868437227405312), (0, 9218868437227405312), (0, 30)], [], [], [], [⟨.mul, .s 1, .c (4605380978949069210), .sflt 2⟩], [⟨.s 0, .sflt 1⟩], [⟨.s 2, .sint .i64 3⟩], []⟩
theorem TkE10v0R : ∃ n, smOk (TkE10 n) (callS TkE10v0F TkE10v0U TkE10v0P 328 [.agg [.str [], .int .i64 2, .sint .i64 0, .flt 4605380978949069210, .bool false, .bool false]] (mkSt [] 0)) = true := by
  exact ⟨match (callS TkE10v0F TkE10v0U TkE10v0P 328 [.agg [.str [], .int .i64 2, .sint .i64 0, .flt 4605380978949069210, .bool false, .bool false]] (mkSt [] 0)) with | some r => r.2.next | none => 0, by kernel_rfl⟩
theorem TkE10_ok (x0 x1 x2 x3 : Int) (b : Gs [(0, 30)] [x0] := by simp only [Gs, and_true]; omega) (h1 : x1 = Fl.near x0 := by assumption) (h2 : x2 = Fl.op .mul x1 (4605380978949069210) := by assumption) (h3 : x3 = Fl.int x2 := by assumption) (r0 : (0 : Int) ≤ x0 ∧ x0 ≤ 30 := by omega) : ∃ n, (TkE10 n).Ok Tryz.prog (sgl [x0, x1, x2, x3]) := by
  have bb := b
  simp only [Gs, and_true] at bb
  have n1 := near_bd (by omega) (by omega) h1
  obtain ⟨NR2, hN2⟩ := near8 (by omega) (by omega) h1 h2 h3
  have n2 := NR2.hf
  obtain ⟨n, hn⟩ := TkE10v0R
  exact ⟨n, sm_signs (F := TkE10v0F) (us := TkE10v0U) (ps := TkE10v0P) (l := [x0, x1, x2, x3]) ⟨gc (gc (gc (gc trivial))), an, an, an, (al NR2.ml an), (al (fc_ok h1) an), (al NR2.it an), an⟩ an (al (pz (TkE9_ok x0) [.s 0]) an) 4 (by simp) hn (by kernel_rfl)⟩
def TkE11 (n : Nat) : Sm := ⟨327, [.flt 4602678819172646912, .flt 0], 0, [], .bool false, n, []⟩
def TkE11v0U : List Use := []
def TkE11v0P : List Pur := []
def TkE11v0F : Facts := ⟨[], [], [], [], [], [], [], []⟩
theorem TkE11v0R : ∃ n, smOk (TkE11 n) (callS TkE11v0F TkE11v0U TkE11v0P 327 [.flt 4602678819172646912, .flt 0] (mkSt [] 0)) = true := by
  exact ⟨match (callS TkE11v0F TkE11v0U TkE11v0P 327 [.flt 4602678819172646912, .flt 0] (mkSt [] 0)) with | some r => r.2.next | none => 0, by kernel_rfl⟩
theorem TkE11_ok : ∃ n, (TkE11 n).Ok Tryz.prog (sgl []) := by
  obtain ⟨n, hn⟩ := TkE11v0R
  exact ⟨n, sm_signs (F := TkE11v0F) (us := TkE11v0U) (ps := TkE11v0P) (l := []) ⟨trivial, an, an, an, an, an, an, an⟩ an an 0 (by simp) hn (by kernel_rfl)⟩
def TkE12 (n : Nat) : Sm := ⟨327, [.flt 4602678819172646912, .flt 4607182418800017408], 0, [], .bool false, n, []⟩
def TkE12v0U : List Use := []
def TkE12v0P : List Pur := []
def TkE12v0F : Facts := ⟨[], [], [], [], [], [], [], []⟩
theorem TkE12v0R : ∃ n, smOk (TkE12 n) (callS TkE12v0F TkE12v0U TkE12v0P 327 [.flt 4602678819172646912, .flt 4607182418800017408] (mkSt [] 0)) = true := by
  exact ⟨match (callS TkE12v0F TkE12v0U TkE12v0P 327 [.flt 4602678819172646912, .flt 4607182418800017408] (mkSt [] 0)) with | some r => r.2.next | none => 0, by kernel_rfl⟩
theorem TkE12_ok : ∃ n, (TkE12 n).Ok Tryz.prog (sgl []) := by
  obtain ⟨n, hn⟩ := TkE12v0R
  exact ⟨n, sm_signs (F := TkE12v0F) (us := TkE12v0U) (ps := TkE12v0P) (l := []) ⟨trivial, an, an, an, an, an, an, an⟩ an an 0 (by simp) hn (by kernel_rfl)⟩
def TkE13 (n : Nat) : Sm := ⟨253, [.str [48, 46, 52]], 0, [], .tup [.flt 4600877379321698714, .bool true], n, []⟩
def TkE13v0U : List Use := []
def TkE13v0P : List Pur := []
def TkE13v0F : Facts := ⟨[], [], [], [], [], [], [], []⟩
theorem TkE13v0R : ∃ n, smOk (TkE13 n) (callS TkE13v0F TkE13v0U TkE13v0P 253 [.str [48, 46, 52]] (mkSt [] 0)) = true := by
  exact ⟨match (callS TkE13v0F TkE13v0U TkE13v0P 253 [.str [48, 46, 52]] (mkSt [] 0)) with | some r => r.2.next | none => 0, by kernel_rfl⟩
theorem TkE13_ok : ∃ n, (TkE13 n).Ok Tryz.prog (sgl []) := by
  obtain ⟨n, hn⟩ := TkE13v0R
  exact ⟨n, sm_signs (F := TkE13v0F) (us := TkE13v0U) (ps := TkE13v0P) (l := []) ⟨trivial, an, an, an, an, an, an, an⟩ an an 0 (by simp) hn (by kernel_rfl)⟩
def TkE14 (n : Nat) : Sm := ⟨327, [.flt 4602678819172646912, .flt 4600877379321698714], 0, [], .bool false, n, []⟩
def TkE14v0U : List Use := []
def TkE14v0P : List Pur := []
def TkE14v0F : Facts := ⟨[], [], [], [], [], [], [], []⟩
theorem TkE14v0R : ∃ n, smOk (TkE14 n) (callS TkE14v0F TkE14v0U TkE14v0P 327 [.flt 4602678819172646912, .flt 4600877379321698714] (mkSt [] 0)) = true := by
  exact ⟨match (callS TkE14v0F TkE14v0U TkE14v0P 327 [.flt 4602678819172646912, .flt 4600877379321698714] (mkSt [] 0)) with | some r => r.2.next | none => 0, by kernel_rfl⟩
theorem TkE14_ok : ∃ n, (TkE14 n).Ok Tryz.prog (sgl []) := by
  obtain ⟨n, hn⟩ := TkE14v0R
  exact ⟨n, sm_signs (F := TkE14v0F) (us := TkE14v0U) (ps := TkE14v0P) (l := []) ⟨trivial, an, an, an, an, an, an, an⟩ an an 0 (by simp) hn (by kernel_rfl)⟩
def TkE15 (n : Nat) : Sm := ⟨253, [.str [48, 46, 53]], 0, [], .tup [.flt 4602678819172646912, .bool true], n, []⟩
def TkE15v0U : List Use := []
def TkE15v0P : List Pur := []
def TkE15v0F : Facts := ⟨[], [], [], [], [], [], [], []⟩
theorem TkE15v0R : ∃ n, smOk (TkE15 n) (callS TkE15v0F TkE15v0U TkE15v0P 253 [.str [48, 46, 53]] (mkSt [] 0)) = true := by
  exact ⟨match (callS TkE15v0F TkE15v0U TkE15v0P 253 [.str [48, 46, 53]] (mkSt [] 0)) with | some r => r.2.next | none => 0, by kernel_rfl⟩
theorem TkE15_ok : ∃ n, (TkE15 n).Ok Tryz.prog (sgl []) := by
  obtain ⟨n, hn⟩ := TkE15v0R
  exact ⟨n, sm_signs (F := TkE15v0F) (us := TkE15v0U) (ps := TkE15v0P) (l := []) ⟨trivial, an, an, an, an, an, an, an⟩ an an 0 (by simp) hn (by kernel_rfl)⟩
def TkE16 (n : Nat) : Sm := ⟨327, [.flt 4602678819172646912, .flt 4602678819172646912], 0, [], .bool true, n, []⟩
def TkE16v0U : List Use := []
def TkE16v0P : List Pur := []
def TkE16v0F : Facts := ⟨[], [], [], [], [], [], [], []⟩
theorem TkE16v0R : ∃ n, smOk (TkE16 n) (callS TkE16v0F TkE16v0U TkE16v0P 327 [.flt 4602678819172646912, .flt 4602678819172646912] (mkSt [] 0)) = true := by
  exact ⟨match (callS TkE16v0F TkE16v0U TkE16v0P 327 [.flt 4602678819172646912, .flt 4602678819172646912] (mkSt [] 0)) with | some r => r.2.next | none => 0, by kernel_rfl⟩
theorem TkE16_ok : ∃ n, (TkE16 n).Ok Tryz.prog (sgl []) := by
  obtain ⟨n, hn⟩ := TkE16v0R
  exact ⟨n, sm_signs (F := TkE16v0F) (us := TkE16v0U) (ps := TkE16v0P) (l := []) ⟨trivial, an, an, an, an, an, an, an⟩ an an 0 (by simp) hn (by kernel_rfl)⟩
def TkE17 (n : Nat) : Sm := ⟨365, [.flt 4602678819172646912], 0, [], .tup [.str [48, 46, 53], .bool true], n, []⟩
def TkE17v0U : List Use := []
def TkE17v0P : List Pur := [⟨253, [.str [48]], .tup [.flt 0, .bool true]⟩, ⟨327, [.flt 4602678819172646912, .flt 0], .bool false⟩, ⟨253, [.str [49]], .tup [.flt 4607182418800017408, .bool true]⟩, ⟨327, [.flt 4602678819172646912, .flt 4607182418800017408], .bool false⟩, ⟨253, [.str [48, 46, 52]], .tup [.flt 4600877379321698714, .bool true]⟩, ⟨327, [.flt 4602678819172646912, .flt 4600877379321698714], .bool false⟩, ⟨253, [.str [48, 46, 53]], .tup [.flt 4602678819172646912, .bool true]⟩, ⟨327, [.flt 4602678819172646912, .flt 4602678819172646912], .bool true⟩]
def TkE17v0F : Facts := ⟨[], [], [], [], [], [], [], []⟩
theorem TkE17v0R : ∃ n, smOk (TkE17 n) (callS TkE17v0F TkE17v0U TkE17v0P 365 [.flt 4602678819172646912] (mkSt [] 0)) = true := by
  exact ⟨match (callS TkE17v0F TkE17v0U TkE17v0P 365 [.flt 4602678819172646912] (mkSt [] 0)) with | some r => r.2.next | none => 0, by kernel_rfl⟩
theorem TkE17_ok : ∃ n, (TkE17 n).Ok Tryz.prog (sgl []) := by
  obtain ⟨n, hn⟩ := TkE17v0R
  exact ⟨n, sm_signs (F := TkE17v0F) (us := TkE17v0U) (ps := TkE17v0P) (l := []) ⟨trivial, an, an, an, an, an, an, an⟩ an (al (pz (TkE0_ok) []) (al (pz (TkE11_ok) []) (al (pz (TkE2_ok) []) (al (pz (TkE12_ok) []) (al (pz (TkE13_ok) []) (al (pz (TkE14_ok) []) (al (pz (TkE15_ok) []) (al (pz (TkE16_ok) []) an)))))))) 0 (by simp) hn (by kernel_rfl)⟩
def TkE18 (n : Nat) : Sm := ⟨269, [.agg [.str [], .int .i64 2, .sint .i64 0, .flt 4602678819172646912, .bool false, .bool false]], 0, [], .int .i64 0, n, []⟩
def TkE18v0U : List Use := []
def TkE18v0P : List Pur := [⟨365, [.flt 4602678819172646912], .tup [.str [48, 46, 53], .bool true]⟩]
def TkE18v0F : Facts := ⟨[(0, 30)], [], [], [], [], [], [], []⟩
theorem TkE18v0R : ∃ n, smOk (TkE18 n) (callS TkE18v0F TkE18v0U TkE18v0P 269 [.agg [.str [], .int .i64 2, .sint .i64 0, .flt 4602678819172646912, .bool false, .bool false]] (mkSt [] 0)) = true := by
  exact ⟨match (callS TkE18v0F TkE18v0U TkE18v0P 269 [.agg [.str [], .int .i64 2, .sint .i64 0, .flt 4602678819172646912, .bool false, .bool false]] (mkSt [] 0)) with | some r => r.2.next | none => 0, by kernel_rfl⟩
theorem TkE18_ok (x0 : Int) (b : Gs [(0, 30)] [x0] := by simp only [Gs, and_true]; omega) : ∃ n, (TkE18 n).Ok Tryz.prog (sgl [x0]) := by
  obtain ⟨n, hn⟩ := TkE18v0R
  exact ⟨n, sm_signs (F := TkE18v0F) (us := TkE18v0U) (ps := TkE18v0P) (l := [x0]) ⟨b, an, an, an, an, an, an, an⟩ an (al (pz (TkE17_ok) []) an) 1 (by simp) hn (by kernel_rfl)⟩
def TkE19 (n : Nat) : Sm := ⟨328, [.agg [.str [], .int .i64 2, .sint .i64 0, .flt 4602678819172646912, .bool false, .bool false]], 0, [], .sint .i64 3, n, []⟩
def TkE19v0U : List Use := []
def TkE19v0P : List Pur := [⟨269, [.agg [.str [], .int .i64 2, .sint .i64 0, .flt 4602678819172646912, .bool false, .bool false]], .int .i64 0⟩]
def TkE19v0F : Facts := ⟨[(0, 30), (0, 9218868437227405312), (0, 9218868437227405312), (0, 30)], [], [], [], [⟨.mul, .s 1, .c (4602678819172646912), .sflt 2⟩], [⟨.s 0, .sflt 1⟩], [⟨.s 2, .sint .i64 3⟩], []⟩
theorem TkE19v0R : ∃ n, smOk (TkE19 n) (callS TkE19v0F TkE19v0U TkE19v0P 328 [.agg [.str [], .int .i64 2, .sint .i64 0, .flt 4602678819172646912, .bool false, .bool false]] (mkSt [] 0)) = true := by
  exact ⟨match (callS TkE19v0F TkE19v0U TkE19v0P 328 [.agg [.str [], .int .i64 2, .sint .i64 0, .flt 4602678819172646912, .bool false, .bool false]] (mkSt [] 0)) with | some r => r.2.next | none => 0, by kernel_rfl⟩
theorem TkE19_ok (x0 x1 x2 x3 : Int) (b : Gs [(0, 30)] [x0] := by simp only [Gs, and_true]; omega) (h1 : x1 = Fl.near x0 := by assumption) (h2 : x2 = Fl.op .mul x1 (4602678819172646912) := by assumption) (h3 : x3 = Fl.int x2 := by assumption) (r0 : (0 : Int) ≤ x0 ∧ x0 ≤ 30 := by omega) : ∃ n, (TkE19 n).Ok Tryz.prog (sgl [x0, x1, x2, x3]) := by
  have bb := b
  simp only [Gs, and_true] at bb
  have n1 := near_bd (by omega) (by omega) h1
  obtain ⟨NR2, hN2⟩ := near5 (by omega) (by omega) h1 h2 h3
  have n2 := NR2.hf
  obtain ⟨n, hn⟩ := TkE19v0R
  exact ⟨n, sm_signs (F := TkE19v0F) (us := TkE19v0U) (ps := TkE19v0P) (l := [x0, x1, x2, x3]) ⟨gc (gc (gc (gc trivial))), an, an, an, (al NR2.ml an), (al (fc_ok h1) an), (al NR2.it an), an⟩ an (al (pz (TkE18_ok x0) [.s 0]) an) 4 (by simp) hn (by kernel_rfl)⟩
end
end Go.Proofs.YtnpkeganpkobjaaGreatDoor.Ev
namespace Go.Proofs.YtnpkeganpkobjaaGreatDoor.Ev
set_option maxRecDepth 100000
open Go Go.RowKit
noncomputable section
def nmv : Nm → V
  | .c n => .int .i64 n
  | .s i => .sint .i64 i
theorem VR_nmv {σ : Nat → Int} {ρ : Rho} {a : Nm} {u : Value} : VR σ ρ (nmv a) u ↔ u = .int .i64 (a.val σ) := by
  cases a <;> simp only [nmv, VR, Nm.val]
theorem ck_at {L : Int} {σ : Nat → Int} {ρ : Rho} {l : Nm} {k : Nat} {us : List Value} (K : Nat) (hl : l.val σ = L) (hk : σ k = (K : Int)) (h : VRs σ ρ [.agg [.str [], .int .i64 2, nmv l, .sflt k, .bool false, .bool false]] us) (r : List Int) : VRs (sgl (L :: r)) (fun _ => none) [.agg [.str [], .int .i64 2, .sint .i64 0, .flt K, .bool false, .bool false]] us := by
  simp only [VRs, VR, VR_nmv, hl, hk, BR, List.map, Int.toNat_natCast] at h ⊢
  exact h
theorem ck {g : Sg} {σ : Nat → Int} {l : Nm} {k : Nat} (L K : Int) (h : 0 ≤ L ∧ L ≤ 30 := by omega) (n : Nr K := by assumption) (hl : l.val σ = L := by rfl) (hk : σ k = K := by rfl) : DoesP (env g) σ ⟨269, [.agg [.str [], .int .i64 2, nmv l, .sflt k, .bool false, .bool false]], .int .i64 0⟩ := by
  intro s ρ W us hs hus
  rcases n with rfl | rfl
  · obtain ⟨m, hm⟩ := TkE9_ok L
    obtain ⟨g1, g2⟩ := pure_val hm hs (ck_at 4605380978949069210 hl hk hus []) rfl
    refine ⟨g1, g2.mono ?_⟩
    rintro e w' ⟨u, rfl, hu, q⟩
    exact ⟨ρ, u, rfl, by simp only [VR] at hu ⊢; exact hu, q⟩
  · obtain ⟨m, hm⟩ := TkE18_ok L
    obtain ⟨g1, g2⟩ := pure_val hm hs (ck_at 4602678819172646912 hl hk hus []) rfl
    refine ⟨g1, g2.mono ?_⟩
    rintro e w' ⟨u, rfl, hu, q⟩
    exact ⟨ρ, u, rfl, by simp only [VR] at hu ⊢; exact hu, q⟩
theorem th {g : Sg} {σ : Nat → Int} {l t : Nm} {k : Nat} (L K T : Int) (h : 0 ≤ L ∧ L ≤ 30 := by omega) (n : Nr K := by assumption) (ht : T = Thr L K := by assumption) (hl : l.val σ = L := by rfl) (hk : σ k = K := by rfl) (hT : t.val σ = T := by rfl) : DoesP (env g) σ ⟨328, [.agg [.str [], .int .i64 2, nmv l, .sflt k, .bool false, .bool false]], nmv t⟩ := by
  intro s ρ W us hs hus
  rcases n with rfl | rfl
  · obtain ⟨m, hm⟩ := TkE10_ok L _ _ _ (h1 := rfl) (h2 := rfl) (h3 := rfl)
    obtain ⟨g1, g2⟩ := pure_val hm hs (ck_at 4605380978949069210 hl hk hus _) rfl
    have e := (near8 h.1 h.2 rfl rfl rfl).2
    refine ⟨g1, g2.mono ?_⟩
    rintro e' w' ⟨u, rfl, hu, q⟩
    refine ⟨ρ, u, rfl, ?_, q⟩
    rw [VR_nmv, hT, ht]
    have hu : u = .int .i64 (Fl.int (Fl.op .mul (Fl.near L) 4605380978949069210)) := hu
    rw [hu, e]
    unfold Thr
    rw [if_pos rfl]
  · obtain ⟨m, hm⟩ := TkE19_ok L _ _ _ (h1 := rfl) (h2 := rfl) (h3 := rfl)
    obtain ⟨g1, g2⟩ := pure_val hm hs (ck_at 4602678819172646912 hl hk hus _) rfl
    have e := (near5 h.1 h.2 rfl rfl rfl).2
    refine ⟨g1, g2.mono ?_⟩
    rintro e' w' ⟨u, rfl, hu, q⟩
    refine ⟨ρ, u, rfl, ?_, q⟩
    rw [VR_nmv, hT, ht]
    have hu : u = .int .i64 (Fl.int (Fl.op .mul (Fl.near L) 4602678819172646912)) := hu
    rw [hu, e]
    unfold Thr
    rw [if_neg (by decide)]
end
end Go.Proofs.YtnpkeganpkobjaaGreatDoor.Ev
namespace Go.Proofs.YtnpkeganpkobjaaGreatDoor.Ev
set_option maxRecDepth 100000
set_option maxHeartbeats 4000000
open Go Go.RowKit
noncomputable section
def TjE0 (n : Nat) : Sm := ⟨273, [.agg [.str [], .int .i64 2, .sint .i64 0, .sflt 1, .bool false, .bool false], .sint .i64 2, .int .i64 1], 0, [], .tup [.agg [.int .i64 1, .sint .i64 3, .bool true, .int .i64 1, .int .i64 0, .int .i64 0], .int .i64 0], n, []⟩
def TjE0v0U : List Use := []
def TjE0v0P : List Pur := [⟨269, [.agg [.str [], .int .i64 2, .sint .i64 0, .sflt 1, .bool false, .bool false]], .int .i64 0⟩, ⟨328, [.agg [.str [], .int .i64 2, .sint .i64 0, .sflt 1, .bool false, .bool false]], .sint .i64 6⟩]
def TjE0v0F : Facts := ⟨[(1, 30), (4602678819172646912, 4605380978949069210), (0, 30), (-30, 29), (1, 31), (-29, 30), (0, 30), (-29, 31)], [⟨.add, .i64, .s 2, .c (1), .s 4⟩, ⟨.sub, .i64, .s 0, .s 4, .s 3⟩, ⟨.sub, .i64, .s 4, .s 0, .s 5⟩, ⟨.sub, .i64, .s 4, .s 6, .s 7⟩], [⟨.s 2, .s 0, true⟩, ⟨.s 3, .c (0), false⟩, ⟨.s 5, .c (0), true⟩, ⟨.s 4, .s 0, true⟩, ⟨.s 6, .s 2, false⟩, ⟨.s 7, .c (0), true⟩], [], [], [], [], []⟩
theorem TjE0v0R : ∃ n, smOk (TjE0 n) (callS TjE0v0F TjE0v0U TjE0v0P 273 [.agg [.str [], .int .i64 2, .sint .i64 0, .sflt 1, .bool false, .bool false], .sint .i64 2, .int .i64 1] (mkSt [] 0)) = true := by
  exact ⟨match (callS TjE0v0F TjE0v0U TjE0v0P 273 [.agg [.str [], .int .i64 2, .sint .i64 0, .sflt 1, .bool false, .bool false], .sint .i64 2, .int .i64 1] (mkSt [] 0)) with | some r => r.2.next | none => 0, by kernel_rfl⟩
theorem TjE0_ok (x0 x1 x2 x3 : Int) (b : Gs [(1, 30), (4602678819172646912, 4605380978949069210), (0, 30)] [x0, x1, x2] := by simp only [Gs, and_true]; omega) (n1 : Nr x1 := by assumption) (h3 : x3 = (-1) + x0 + (-1) * x2 := by omega) (r0 : 0 ≤ x0 ∧ x0 ≤ 30 := by omega) (r1 : x2 < x0 := by omega) (r2 : (0) ≤ x3 := by omega) (r3 : (-30 : Int) ≤ x3 ∧ x3 ≤ 29 := by omega) (r4 : ((1) + (-1) * x0 + (1) * x2) < (0) := by omega) (r5 : ((1) + (1) * x2) < x0 := by omega) (r6 : x2 ≤ (Thr x0 x1) := by omega) (r7 : ((1) + (1) * x2 + (-1) * (Thr x0 x1)) < (0) := by omega) : ∃ n, (TjE0 n).Ok Tryz.prog (sgl [x0, x1, x2, x3]) := by
  have bb := b
  simp only [Gs, and_true] at bb
  obtain ⟨y4, h4⟩ := ex ((1) + x2)
  obtain ⟨y5, h5⟩ := ex ((1) + (-1) * x0 + x2)
  obtain ⟨y6, h6⟩ := ex (Thr x0 x1)
  obtain ⟨y7, h7⟩ := ex ((1) + x2 + (-1) * y6)
  have d6 := Thr_bd x0 x1
  obtain ⟨n, hn⟩ := TjE0v0R
  exact ⟨n, sm_signs (F := TjE0v0F) (us := TjE0v0U) (ps := TjE0v0P) (l := [x0, x1, x2, x3, y4, y5, y6, y7]) ⟨gc (gc (gc (gc (gc (gc (gc (gc trivial))))))), (al (fA x2 (1) y4) (al (fS x0 y4 x3) (al (fS y4 x0 y5) (al (fS y4 y6 y7) an)))), (al (fT x2 x0) (al (fN x3 (0)) (al (fT y5 (0)) (al (fT y4 x0) (al (fN y6 x2) (al (fT y7 (0)) an)))))), an, an, an, an, an⟩ an (al (ck (l := .s 0) (k := 1) x0 x1) (al (th (l := .s 0) (k := 1) (t := .s 6) x0 x1 y6) an)) 4 (by simp) hn (by kernel_rfl)⟩
def TjE1 (n : Nat) : Sm := ⟨273, [.agg [.str [], .int .i64 2, .sint .i64 0, .sflt 1, .bool false, .bool false], .sint .i64 2, .int .i64 1], 0, [], .tup [.agg [.int .i64 1, .sint .i64 3, .bool true, .sint .i64 6, .sint .i64 5, .int .i64 0], .int .i64 0], n, []⟩
def TjE1v0U : List Use := []
def TjE1v0P : List Pur := [⟨269, [.agg [.str [], .int .i64 2, .sint .i64 0, .sflt 1, .bool false, .bool false]], .int .i64 0⟩, ⟨328, [.agg [.str [], .int .i64 2, .sint .i64 0, .sflt 1, .bool false, .bool false]], .sint .i64 4⟩]
def TjE1v0F : Facts := ⟨[(1, 30), (4602678819172646912, 4605380978949069210), (0, 30), (-30, 29), (0, 30), (-29, 31), (-30, 30), (1, 31), (-29, 30)], [⟨.add, .i64, .s 2, .c (1), .s 7⟩, ⟨.sub, .i64, .s 0, .s 7, .s 3⟩, ⟨.sub, .i64, .s 7, .s 0, .s 8⟩, ⟨.sub, .i64, .s 7, .s 4, .s 5⟩, ⟨.sub, .i64, .c (1), .s 5, .s 6⟩], [⟨.s 2, .s 0, true⟩, ⟨.s 3, .c (0), false⟩, ⟨.s 8, .c (0), true⟩, ⟨.s 7, .s 0, true⟩, ⟨.s 4, .s 2, false⟩, ⟨.s 5, .c (0), false⟩], [], [], [], [], []⟩
theorem TjE1v0R : ∃ n, smOk (TjE1 n) (callS TjE1v0F TjE1v0U TjE1v0P 273 [.agg [.str [], .int .i64 2, .sint .i64 0, .sflt 1, .bool false, .bool false], .sint .i64 2, .int .i64 1] (mkSt [] 0)) = true := by
  exact ⟨match (callS TjE1v0F TjE1v0U TjE1v0P 273 [.agg [.str [], .int .i64 2, .sint .i64 0, .sflt 1, .bool false, .bool false], .sint .i64 2, .int .i64 1] (mkSt [] 0)) with | some r => r.2.next | none => 0, by kernel_rfl⟩
theorem TjE1_ok (x0 x1 x2 x3 x4 x5 x6 : Int) (b : Gs [(1, 30), (4602678819172646912, 4605380978949069210), (0, 30)] [x0, x1, x2] := by simp only [Gs, and_true]; omega) (n1 : Nr x1 := by assumption) (h3 : x3 = (-1) + x0 + (-1) * x2 := by omega) (h4 : x4 = Thr x0 x1 := by assumption) (h5 : x5 = (1) + x2 + (-1) * x4 := by omega) (h6 : x6 = (-1) * x2 + x4 := by omega) (r0 : 0 ≤ x0 ∧ x0 ≤ 30 := by omega) (r1 : x2 < x0 := by omega) (r2 : (0) ≤ x3 := by omega) (r3 : x2 ≤ x4 := by omega) (r4 : (0) ≤ x5 := by omega) (r5 : (-30 : Int) ≤ x3 ∧ x3 ≤ 29 := by omega) (r6 : (-29 : Int) ≤ x5 ∧ x5 ≤ 31 := by omega) (r7 : (-30 : Int) ≤ x6 ∧ x6 ≤ 30 := by omega) (r8 : ((1) + (-1) * x0 + (1) * x2) < (0) := by omega) (r9 : ((1) + (1) * x2) < x0 := by omega) : ∃ n, (TjE1 n).Ok Tryz.prog (sgl [x0, x1, x2, x3, x4, x5, x6]) := by
  have bb := b
  simp only [Gs, and_true] at bb
  obtain ⟨y7, h7⟩ := ex ((1) + x2)
  obtain ⟨y8, h8⟩ := ex ((1) + (-1) * x0 + x2)
  have d4 := Thr_bd x0 x1
  obtain ⟨n, hn⟩ := TjE1v0R
  exact ⟨n, sm_signs (F := TjE1v0F) (us := TjE1v0U) (ps := TjE1v0P) (l := [x0, x1, x2, x3, x4, x5, x6, y7, y8]) ⟨gc (gc (gc (gc (gc (gc (gc (gc (gc trivial)))))))), (al (fA x2 (1) y7) (al (fS x0 y7 x3) (al (fS y7 x0 y8) (al (fS y7 x4 x5) (al (fS (1) x5 x6) an))))), (al (fT x2 x0) (al (fN x3 (0)) (al (fT y8 (0)) (al (fT y7 x0) (al (fN x4 x2) (al (fN x5 (0)) an)))))), an, an, an, an, an⟩ an (al (ck (l := .s 0) (k := 1) x0 x1) (al (th (l := .s 0) (k := 1) (t := .s 4) x0 x1 x4) an)) 7 (by simp) hn (by kernel_rfl)⟩
def TjE2 (n : Nat) : Sm := ⟨273, [.agg [.str [], .int .i64 2, .sint .i64 0, .sflt 1, .bool false, .bool false], .sint .i64 2, .int .i64 1], 0, [], .tup [.agg [.int .i64 1, .sint .i64 3, .bool true, .int .i64 0, .int .i64 1, .int .i64 0], .int .i64 0], n, []⟩
def TjE2v0U : List Use := []
def TjE2v0P : List Pur := [⟨269, [.agg [.str [], .int .i64 2, .sint .i64 0, .sflt 1, .bool false, .bool false]], .int .i64 0⟩, ⟨328, [.agg [.str [], .int .i64 2, .sint .i64 0, .sflt 1, .bool false, .bool false]], .sint .i64 6⟩]
def TjE2v0F : Facts := ⟨[(1, 30), (4602678819172646912, 4605380978949069210), (0, 30), (-30, 29), (1, 31), (-29, 30), (0, 30)], [⟨.add, .i64, .s 2, .c (1), .s 4⟩, ⟨.sub, .i64, .s 0, .s 4, .s 3⟩, ⟨.sub, .i64, .s 4, .s 0, .s 5⟩, ⟨.sub, .i64, .s 4, .s 2, .c (1)⟩], [⟨.s 2, .s 0, true⟩, ⟨.s 3, .c (0), false⟩, ⟨.s 5, .c (0), true⟩, ⟨.s 4, .s 0, true⟩, ⟨.s 6, .s 2, true⟩], [], [], [], [], []⟩
theorem TjE2v0R : ∃ n, smOk (TjE2 n) (callS TjE2v0F TjE2v0U TjE2v0P 273 [.agg [.str [], .int .i64 2, .sint .i64 0, .sflt 1, .bool false, .bool false], .sint .i64 2, .int .i64 1] (mkSt [] 0)) = true := by
  exact ⟨match (callS TjE2v0F TjE2v0U TjE2v0P 273 [.agg [.str [], .int .i64 2, .sint .i64 0, .sflt 1, .bool false, .bool false], .sint .i64 2, .int .i64 1] (mkSt [] 0)) with | some r => r.2.next | none => 0, by kernel_rfl⟩
theorem TjE2_ok (x0 x1 x2 x3 : Int) (b : Gs [(1, 30), (4602678819172646912, 4605380978949069210), (0, 30)] [x0, x1, x2] := by simp only [Gs, and_true]; omega) (n1 : Nr x1 := by assumption) (h3 : x3 = (-1) + x0 + (-1) * x2 := by omega) (r0 : 0 ≤ x0 ∧ x0 ≤ 30 := by omega) (r1 : x2 < x0 := by omega) (r2 : (0) ≤ x3 := by omega) (r3 : (-30 : Int) ≤ x3 ∧ x3 ≤ 29 := by omega) (r4 : ((1) + (-1) * x0 + (1) * x2) < (0) := by omega) (r5 : ((1) + (1) * x2) < x0 := by omega) (r6 : (Thr x0 x1) < x2 := by omega) : ∃ n, (TjE2 n).Ok Tryz.prog (sgl [x0, x1, x2, x3]) := by
  have bb := b
  simp only [Gs, and_true] at bb
  obtain ⟨y4, h4⟩ := ex ((1) + x2)
  obtain ⟨y5, h5⟩ := ex ((1) + (-1) * x0 + x2)
  obtain ⟨y6, h6⟩ := ex (Thr x0 x1)
  have d6 := Thr_bd x0 x1
  obtain ⟨n, hn⟩ := TjE2v0R
  exact ⟨n, sm_signs (F := TjE2v0F) (us := TjE2v0U) (ps := TjE2v0P) (l := [x0, x1, x2, x3, y4, y5, y6]) ⟨gc (gc (gc (gc (gc (gc (gc trivial)))))), (al (fA x2 (1) y4) (al (fS x0 y4 x3) (al (fS y4 x0 y5) (al (fS y4 x2 (1)) an)))), (al (fT x2 x0) (al (fN x3 (0)) (al (fT y5 (0)) (al (fT y4 x0) (al (fT y6 x2) an))))), an, an, an, an, an⟩ an (al (ck (l := .s 0) (k := 1) x0 x1) (al (th (l := .s 0) (k := 1) (t := .s 6) x0 x1 y6) an)) 4 (by simp) hn (by kernel_rfl)⟩
def TjE3 (n : Nat) : Sm := ⟨273, [.agg [.str [], .int .i64 2, .sint .i64 0, .sflt 1, .bool false, .bool false], .sint .i64 2, .int .i64 1], 0, [], .tup [.agg [.int .i64 1, .sint .i64 3, .bool true, .int .i64 0, .sint .i64 5, .sint .i64 4], .int .i64 0], n, []⟩
def TjE3v0U : List Use := []
def TjE3v0P : List Pur := [⟨269, [.agg [.str [], .int .i64 2, .sint .i64 0, .sflt 1, .bool false, .bool false]], .int .i64 0⟩, ⟨328, [.agg [.str [], .int .i64 2, .sint .i64 0, .sflt 1, .bool false, .bool false]], .sint .i64 7⟩]
def TjE3v0F : Facts := ⟨[(1, 30), (4602678819172646912, 4605380978949069210), (0, 30), (-30, 29), (-29, 30), (-29, 30), (1, 31), (0, 30)], [⟨.add, .i64, .s 2, .c (1), .s 6⟩, ⟨.sub, .i64, .s 0, .s 6, .s 3⟩, ⟨.sub, .i64, .s 6, .s 0, .s 4⟩, ⟨.sub, .i64, .s 0, .s 2, .s 5⟩, ⟨.sub, .i64, .c (1), .s 4, .s 5⟩, ⟨.sub, .i64, .s 5, .s 5, .c (0)⟩], [⟨.s 2, .s 0, true⟩, ⟨.s 3, .c (0), false⟩, ⟨.s 4, .c (0), false⟩, ⟨.s 6, .s 0, false⟩, ⟨.s 7, .s 2, true⟩, ⟨.s 5, .c (0), false⟩, ⟨.c (0), .s 4, false⟩], [], [], [], [], []⟩
theorem TjE3v0R : ∃ n, smOk (TjE3 n) (callS TjE3v0F TjE3v0U TjE3v0P 273 [.agg [.str [], .int .i64 2, .sint .i64 0, .sflt 1, .bool false, .bool false], .sint .i64 2, .int .i64 1] (mkSt [] 0)) = true := by
  exact ⟨match (callS TjE3v0F TjE3v0U TjE3v0P 273 [.agg [.str [], .int .i64 2, .sint .i64 0, .sflt 1, .bool false, .bool false], .sint .i64 2, .int .i64 1] (mkSt [] 0)) with | some r => r.2.next | none => 0, by kernel_rfl⟩
theorem TjE3_ok (x0 x1 x2 x3 x4 x5 : Int) (b : Gs [(1, 30), (4602678819172646912, 4605380978949069210), (0, 30)] [x0, x1, x2] := by simp only [Gs, and_true]; omega) (n1 : Nr x1 := by assumption) (h3 : x3 = (-1) + x0 + (-1) * x2 := by omega) (h4 : x4 = (1) + (-1) * x0 + x2 := by omega) (h5 : x5 = x0 + (-1) * x2 := by omega) (r0 : 0 ≤ x0 ∧ x0 ≤ 30 := by omega) (r1 : x2 < x0 := by omega) (r2 : (0) ≤ x3 := by omega) (r3 : (0) ≤ x4 := by omega) (r4 : (0) ≤ x5 := by omega) (r5 : x4 ≤ (0) := by omega) (r6 : (-30 : Int) ≤ x3 ∧ x3 ≤ 29 := by omega) (r7 : (-29 : Int) ≤ x4 ∧ x4 ≤ 30 := by omega) (r8 : (-29 : Int) ≤ x5 ∧ x5 ≤ 30 := by omega) (r9 : x0 ≤ ((1) + (1) * x2) := by omega) (r10 : (Thr x0 x1) < x2 := by omega) : ∃ n, (TjE3 n).Ok Tryz.prog (sgl [x0, x1, x2, x3, x4, x5]) := by
  have bb := b
  simp only [Gs, and_true] at bb
  obtain ⟨y6, h6⟩ := ex ((1) + x2)
  obtain ⟨y7, h7⟩ := ex (Thr x0 x1)
  have d7 := Thr_bd x0 x1
  obtain ⟨n, hn⟩ := TjE3v0R
  exact ⟨n, sm_signs (F := TjE3v0F) (us := TjE3v0U) (ps := TjE3v0P) (l := [x0, x1, x2, x3, x4, x5, y6, y7]) ⟨gc (gc (gc (gc (gc (gc (gc (gc trivial))))))), (al (fA x2 (1) y6) (al (fS x0 y6 x3) (al (fS y6 x0 x4) (al (fS x0 x2 x5) (al (fS (1) x4 x5) (al (fS x5 x5 (0)) an)))))), (al (fT x2 x0) (al (fN x3 (0)) (al (fN x4 (0)) (al (fN y6 x0) (al (fT y7 x2) (al (fN x5 (0)) (al (fN (0) x4) an))))))), an, an, an, an, an⟩ an (al (ck (l := .s 0) (k := 1) x0 x1) (al (th (l := .s 0) (k := 1) (t := .s 7) x0 x1 y7) an)) 6 (by simp) hn (by kernel_rfl)⟩
def TjE4 (n : Nat) : Sm := ⟨273, [.agg [.str [], .int .i64 2, .sint .i64 0, .sflt 1, .bool false, .bool false], .sint .i64 2, .int .i64 1], 0, [], .tup [.agg [.int .i64 1, .sint .i64 3, .bool true, .sint .i64 7, .sint .i64 6, .sint .i64 4], .int .i64 0], n, []⟩
def TjE4v0U : List Use := []
def TjE4v0P : List Pur := [⟨269, [.agg [.str [], .int .i64 2, .sint .i64 0, .sflt 1, .bool false, .bool false]], .int .i64 0⟩, ⟨328, [.agg [.str [], .int .i64 2, .sint .i64 0, .sflt 1, .bool false, .bool false]], .sint .i64 5⟩]
def TjE4v0F : Facts := ⟨[(1, 30), (4602678819172646912, 4605380978949069210), (0, 30), (-30, 29), (-29, 30), (0, 30), (-29, 30), (-30, 30), (1, 31), (-29, 30)], [⟨.add, .i64, .s 2, .c (1), .s 8⟩, ⟨.sub, .i64, .s 0, .s 8, .s 3⟩, ⟨.sub, .i64, .s 8, .s 0, .s 4⟩, ⟨.sub, .i64, .s 0, .s 5, .s 6⟩, ⟨.sub, .i64, .c (1), .s 4, .s 9⟩, ⟨.sub, .i64, .s 9, .s 6, .s 7⟩], [⟨.s 2, .s 0, true⟩, ⟨.s 3, .c (0), false⟩, ⟨.s 4, .c (0), false⟩, ⟨.s 8, .s 0, false⟩, ⟨.s 5, .s 2, false⟩, ⟨.s 6, .c (0), false⟩, ⟨.c (0), .s 4, false⟩], [], [], [], [], []⟩
theorem TjE4v0R : ∃ n, smOk (TjE4 n) (callS TjE4v0F TjE4v0U TjE4v0P 273 [.agg [.str [], .int .i64 2, .sint .i64 0, .sflt 1, .bool false, .bool false], .sint .i64 2, .int .i64 1] (mkSt [] 0)) = true := by
  exact ⟨match (callS TjE4v0F TjE4v0U TjE4v0P 273 [.agg [.str [], .int .i64 2, .sint .i64 0, .sflt 1, .bool false, .bool false], .sint .i64 2, .int .i64 1] (mkSt [] 0)) with | some r => r.2.next | none => 0, by kernel_rfl⟩
theorem TjE4_ok (x0 x1 x2 x3 x4 x5 x6 x7 : Int) (b : Gs [(1, 30), (4602678819172646912, 4605380978949069210), (0, 30)] [x0, x1, x2] := by simp only [Gs, and_true]; omega) (n1 : Nr x1 := by assumption) (h3 : x3 = (-1) + x0 + (-1) * x2 := by omega) (h4 : x4 = (1) + (-1) * x0 + x2 := by omega) (h5 : x5 = Thr x0 x1 := by assumption) (h6 : x6 = x0 + (-1) * x5 := by omega) (h7 : x7 = (-1) * x2 + x5 := by omega) (r0 : 0 ≤ x0 ∧ x0 ≤ 30 := by omega) (r1 : x2 < x0 := by omega) (r2 : (0) ≤ x3 := by omega) (r3 : (0) ≤ x4 := by omega) (r4 : x2 ≤ x5 := by omega) (r5 : (0) ≤ x6 := by omega) (r6 : x4 ≤ (0) := by omega) (r7 : (-30 : Int) ≤ x3 ∧ x3 ≤ 29 := by omega) (r8 : (-29 : Int) ≤ x4 ∧ x4 ≤ 30 := by omega) (r9 : (-29 : Int) ≤ x6 ∧ x6 ≤ 30 := by omega) (r10 : (-30 : Int) ≤ x7 ∧ x7 ≤ 30 := by omega) (r11 : x0 ≤ ((1) + (1) * x2) := by omega) : ∃ n, (TjE4 n).Ok Tryz.prog (sgl [x0, x1, x2, x3, x4, x5, x6, x7]) := by
  have bb := b
  simp only [Gs, and_true] at bb
  obtain ⟨y8, h8⟩ := ex ((1) + x2)
  obtain ⟨y9, h9⟩ := ex (x0 + (-1) * x2)
  have d5 := Thr_bd x0 x1
  obtain ⟨n, hn⟩ := TjE4v0R
  exact ⟨n, sm_signs (F := TjE4v0F) (us := TjE4v0U) (ps := TjE4v0P) (l := [x0, x1, x2, x3, x4, x5, x6, x7, y8, y9]) ⟨gc (gc (gc (gc (gc (gc (gc (gc (gc (gc trivial))))))))), (al (fA x2 (1) y8) (al (fS x0 y8 x3) (al (fS y8 x0 x4) (al (fS x0 x5 x6) (al (fS (1) x4 y9) (al (fS y9 x6 x7) an)))))), (al (fT x2 x0) (al (fN x3 (0)) (al (fN x4 (0)) (al (fN y8 x0) (al (fN x5 x2) (al (fN x6 (0)) (al (fN (0) x4) an))))))), an, an, an, an, an⟩ an (al (ck (l := .s 0) (k := 1) x0 x1) (al (th (l := .s 0) (k := 1) (t := .s 5) x0 x1 x5) an)) 8 (by simp) hn (by kernel_rfl)⟩
end
end Go.Proofs.YtnpkeganpkobjaaGreatDoor.Ev
namespace Go.Proofs.YtnpkeganpkobjaaGreatDoor.Ev
set_option maxRecDepth 100000
open Go Go.RowKit
theorem jo_at {L K B : Int} {σ : Nat → Int} {ρ : Rho} {l b : Nm} {k : Nat} {us : List Value} (hl : l.val σ = L) (hk : σ k = K) (hb : b.val σ = B) (h : VRs σ ρ [.agg [.str [], .int .i64 2, nmv l, .sflt k, .bool false, .bool false], nmv b, .int .i64 1] us) (r : List Int) : VRs (sgl (L :: K :: B :: r)) (fun _ => none) [.agg [.str [], .int .i64 2, .sint .i64 0, .sflt 1, .bool false, .bool false], .sint .i64 2, .int .i64 1] us := by
  simp only [VRs, VR, VR_nmv, hl, hk, hb, BR, List.map] at h ⊢
  exact h
theorem jo {g : Sg} {σ : Nat → Int} {l b e w n : Nm} {k : Nat} (L K B T E' W' N' : Int) (h : (0 ≤ B ∧ B < L) ∧ L ≤ 30 := by omega) (hn : Nr K := by assumption) (hT : T = Thr L K := by assumption) (hE : E' = L - B - 1 := by omega) (hN : N' = Jn B T := by assumption) (hW : W' = 1 - N' := by omega)
    (hl : l.val σ = L := by rfl) (hk : σ k = K := by rfl) (hb : b.val σ = B := by rfl) (he : e.val σ = E' := by rfl) (hw : w.val σ = W' := by rfl) (hnn : n.val σ = N' := by rfl) :
    DoesP (env g) σ ⟨273, [.agg [.str [], .int .i64 2, nmv l, .sflt k, .bool false, .bool false], nmv b, .int .i64 1], .tup [.agg [.int .i64 1, nmv e, .bool true, nmv w, nmv n, .int .i64 0], .int .i64 0]⟩ := by
  intro s ρ W us hs hus
  have d := Thr_bd L K
  have kb := hn.bd
  have fin : ∀ {a b c : Int} {u : Value}, u = .tuple #[.agg #[.int .i64 1, .int .i64 a, .bool true, .int .i64 b, .int .i64 c, .int .i64 0], .int .i64 0] → a = E' → b = W' → c = N' → VR σ ρ (.tup [.agg [.int .i64 1, nmv e, .bool true, nmv w, nmv n, .int .i64 0], .int .i64 0]) u := by
    rintro a b c u rfl rfl rfl rfl
    simp only [VR, VRs, VR_nmv, he, hw, hnn]
    exact ⟨_, ⟨_, _, ⟨_, ⟨_, _, rfl, ⟨_, _, rfl, ⟨_, _, rfl, ⟨_, _, rfl, ⟨_, _, rfl, ⟨_, _, rfl, rfl, rfl⟩, rfl⟩, rfl⟩, rfl⟩, rfl⟩, rfl⟩, rfl⟩, ⟨_, _, rfl, rfl, rfl⟩, rfl⟩, rfl⟩
  have op : ∀ {τ : Nat → Int} {x y z o : V} {a b c : Int} {u : Value}, (∀ q, VR τ (fun _ => none) x q → q = .int .i64 a) → (∀ q, VR τ (fun _ => none) y q → q = .int .i64 b) → (∀ q, VR τ (fun _ => none) z q → q = .int .i64 c) → (∀ q, VR τ (fun _ => none) o q → q = .int .i64 0) → VR τ (fun _ => none) (.tup [.agg [.int .i64 1, x, .bool true, y, z, o], .int .i64 0]) u → u = .tuple #[.agg #[.int .i64 1, .int .i64 a, .bool true, .int .i64 b, .int .i64 c, .int .i64 0], .int .i64 0] := by
    intro τ x y z o a b c u hx hy hz ho hu
    simp only [VR, VRs] at hu
    obtain ⟨_, ⟨_, _, ⟨_, ⟨_, _, rfl, ⟨_, _, k2, ⟨_, _, rfl, ⟨_, _, k4, ⟨_, _, k5, ⟨_, _, k6, rfl, rfl⟩, rfl⟩, rfl⟩, rfl⟩, rfl⟩, rfl⟩, rfl⟩, ⟨_, _, rfl, rfl, rfl⟩, rfl⟩, rfl⟩ := hu
    rw [hx _ k2, hy _ k4, hz _ k5, ho _ k6]
  have jd := Jn_bd B T
  rcases (show B + 1 < T ∨ (B ≤ T ∧ T ≤ B + 1 ∧ B + 1 < L) ∨ (T < B ∧ B + 1 < L) ∨ (T < B ∧ B + 1 = L) ∨ (B = T ∧ B + 1 = L) by omega) with c | c | c | c | c
  · obtain ⟨m, hm⟩ := TjE0_ok L K B (L - B - 1)
    obtain ⟨g1, g2⟩ := pure_val hm hs (jo_at hl hk hb hus _) rfl
    refine ⟨g1, g2.mono ?_⟩
    rintro e' w' ⟨u, rfl, hu, q⟩
    exact ⟨ρ, u, rfl, fin (op (x := .sint .i64 3) (y := .int .i64 1) (z := .int .i64 0) (o := .int .i64 0) (a := L - B - 1) (b := 1) (c := 0) (fun q h => by simp only [VR] at h; exact h) (fun q h => by simp only [VR] at h; exact h) (fun q h => by simp only [VR] at h; exact h) (fun q h => by simp only [VR] at h; exact h) hu) hE.symm (by omega) (by omega), q⟩
  · obtain ⟨m, hm⟩ := TjE1_ok L K B (L - B - 1) T (B + 1 - T) (T - B)
    obtain ⟨g1, g2⟩ := pure_val hm hs (jo_at hl hk hb hus _) rfl
    refine ⟨g1, g2.mono ?_⟩
    rintro e' w' ⟨u, rfl, hu, q⟩
    exact ⟨ρ, u, rfl, fin (op (x := .sint .i64 3) (y := .sint .i64 6) (z := .sint .i64 5) (o := .int .i64 0) (a := L - B - 1) (b := T - B) (c := B + 1 - T) (fun q h => by simp only [VR] at h; exact h) (fun q h => by simp only [VR] at h; exact h) (fun q h => by simp only [VR] at h; exact h) (fun q h => by simp only [VR] at h; exact h) hu) hE.symm (by omega) (by omega), q⟩
  · obtain ⟨m, hm⟩ := TjE2_ok L K B (L - B - 1)
    obtain ⟨g1, g2⟩ := pure_val hm hs (jo_at hl hk hb hus _) rfl
    refine ⟨g1, g2.mono ?_⟩
    rintro e' w' ⟨u, rfl, hu, q⟩
    exact ⟨ρ, u, rfl, fin (op (x := .sint .i64 3) (y := .int .i64 0) (z := .int .i64 1) (o := .int .i64 0) (a := L - B - 1) (b := 0) (c := 1) (fun q h => by simp only [VR] at h; exact h) (fun q h => by simp only [VR] at h; exact h) (fun q h => by simp only [VR] at h; exact h) (fun q h => by simp only [VR] at h; exact h) hu) hE.symm (by omega) (by omega), q⟩
  · obtain ⟨m, hm⟩ := TjE3_ok L K B (L - B - 1) (1 - L + B) (L - B)
    obtain ⟨g1, g2⟩ := pure_val hm hs (jo_at hl hk hb hus _) rfl
    refine ⟨g1, g2.mono ?_⟩
    rintro e' w' ⟨u, rfl, hu, q⟩
    exact ⟨ρ, u, rfl, fin (op (x := .sint .i64 3) (y := .int .i64 0) (z := .sint .i64 5) (o := .sint .i64 4) (a := L - B - 1) (b := 0) (c := L - B) (fun q h => by simp only [VR] at h; exact h) (fun q h => by simp only [VR] at h; exact h) (fun q h => by simp only [VR] at h; exact h) (fun q h => by simp only [VR] at h; rw [h]; show Value.int .i64 (1 - L + B) = _; rw [show 1 - L + B = 0 by omega]) hu) hE.symm (by omega) (by omega), q⟩
  · obtain ⟨m, hm⟩ := TjE4_ok L K B (L - B - 1) (1 - L + B) T (L - T) (T - B)
    obtain ⟨g1, g2⟩ := pure_val hm hs (jo_at hl hk hb hus _) rfl
    refine ⟨g1, g2.mono ?_⟩
    rintro e' w' ⟨u, rfl, hu, q⟩
    exact ⟨ρ, u, rfl, fin (op (x := .sint .i64 3) (y := .sint .i64 7) (z := .sint .i64 6) (o := .sint .i64 4) (a := L - B - 1) (b := T - B) (c := L - T) (fun q h => by simp only [VR] at h; exact h) (fun q h => by simp only [VR] at h; exact h) (fun q h => by simp only [VR] at h; exact h) (fun q h => by simp only [VR] at h; rw [h]; show Value.int .i64 (1 - L + B) = _; rw [show 1 - L + B = 0 by omega]) hu) hE.symm (by omega) (by omega), q⟩
end Go.Proofs.YtnpkeganpkobjaaGreatDoor.Ev
namespace Go.Proofs.YtnpkeganpkobjaaGreatDoor.Ev
open Go Go.RowKit
variable {W0 : World}
noncomputable section
def hasKey (i : Nat) : List (Nat × B) → Bool
  | [] => false
  | x :: l => match Nat.beq x.1 i with | true => true | false => hasKey i l
theorem hasKey_mem {i : Nat} : ∀ {l : List (Nat × B)}, hasKey i l = false → ∀ x ∈ l, x.1 ≠ i := by
  intro l
  induction l with
  | nil => intro _ x hx; simp at hx
  | cons y l ih =>
    intro h x hx
    simp only [hasKey] at h
    split at h
    · cases h
    · rename_i q
      simp only [List.mem_cons] at hx
      rcases hx with rfl | hx
      · intro e; rw [e, Nat.beq_refl] at q; cases q
      · exact ih h x hx
def others (k : List (Nat × B)) : List (Nat × B) → List (Nat × B)
  | [] => []
  | x :: l => match hasKey x.1 k with | true => others k l | false => x :: others k l
theorem others_mem {k : List (Nat × B)} : ∀ {l : List (Nat × B)} {x : Nat × B}, x ∈ others k l → x ∈ l ∧ ∀ y ∈ k, y.1 ≠ x.1 := by
  intro l
  induction l with
  | nil => intro x hx; simp [others] at hx
  | cons y l ih =>
    intro x hx
    simp only [others] at hx
    split at hx
    · obtain ⟨h1, h2⟩ := ih hx; exact ⟨by simp [h1], h2⟩
    · rename_i q
      simp only [List.mem_cons] at hx
      rcases hx with rfl | hx
      · exact ⟨by simp, hasKey_mem q⟩
      · obtain ⟨h1, h2⟩ := ih hx; exact ⟨by simp [h1], h2⟩
def Pc.full (e : Pc) (t : Tm) : Pc := ⟨e.n, e.f0, e.n0, e.h0, e.o, e.f1, e.n1, e.h1 ++ others e.h0 t.h0⟩
def inF : List (Nat × V) → List (Nat × V) → Bool
  | [], _ => true
  | x :: l, r => (match pickF.lookT x.1 r with | some v => vEq v x.2 | none => false) && inF l r
theorem inF_mem {r : List (Nat × V)} : ∀ {l : List (Nat × V)}, inF l r = true → ∀ x ∈ l, x ∈ r := by
  intro l
  induction l with
  | nil => intro _ x hx; simp at hx
  | cons y l ih =>
    intro h x hx
    simp only [inF, Bool.and_eq_true] at h
    simp only [List.mem_cons] at hx
    rcases hx with rfl | hx
    · have h1 := h.1
      split at h1
      · rename_i v hv
        have := lookT_mem hv
        rw [vEq_sound _ _ h1] at this
        exact this
      · cases h1
    · exact ih h.2 x hx
def partOk (e : Pc) (t : Tm) : Bool := Nat.ble e.n t.n && (Nat.beq e.n0 t.n0 && (inF e.f0 t.f0 && (has (mkH t.h0 .e) e.h0 && has (mkH t.h0 .e) t.h0)))
theorem part_sim {l : List Int} {e : Pc} {t : Tm} (ht : partOk e t = true) {ρ : Rho} {a : Act} {W : World} (ha : t.At W0 (sgl l) ρ a W) : Sim (sgl l) ρ (mkSt e.h0 e.n0) W ∧ e.n ≤ a.tmps.size ∧ ∀ x ∈ e.f0, VR (sgl l) ρ x.2 (a.tmps.getD x.1 Go.undef) := by
  simp only [partOk, Bool.and_eq_true (Nat.ble _ _), Bool.and_eq_true (Nat.beq _ _), Bool.and_eq_true (inF _ _), Bool.and_eq_true (has _ _)] at ht
  obtain ⟨t1, t2, t3, t4, t5⟩ := ht
  rw [Nat.ble_eq] at t1
  rw [Nat.beq_eq] at t2
  have t3 := inF_mem t3
  have t4 := has_sound t4
  have hs := ha.sim
  have hsub : ∀ i b, (mkSt e.h0 e.n0).heap.get i = some b → (mkSt t.h0 t.n0).heap.get i = some b := fun i b hb => t4 _ (mkSt_get hb)
  have hlive : ∀ i, ((mkSt e.h0 e.n0).heap.get i).isSome → ((mkSt t.h0 t.n0).heap.get i).isSome := by
    intro i hi
    obtain ⟨b, hb⟩ := Option.isSome_iff_exists.1 hi
    rw [hsub i b hb]; rfl
  exact ⟨⟨fun i b hb => hs.blk i b (hsub i b hb), fun i j b n m hi hj => hs.inj i j b n m (hlive i hi) (hlive j hj), fun i hi => hs.dom i (by have hi : e.n0 ≤ i := hi; show t.n0 ≤ i; omega), hs.old⟩, by have := ha.size; omega, fun x hx => ha.tmps x (t3 x hx)⟩
theorem part_post {l : List Int} {e : Pc} {P : List Nat} {Q : List Nm} {t t' : Tm} (ht : partOk e t = true) (hq : pickOk (e.full t) P Q t' = true) {ρ ρ' : Rho} {s1 : St} {a a' : Act} {W W' : World} (ha : t.At W0 (sgl l) ρ a W)
    (hpost : e.Post (sgl l) ρ W ρ' s1 W' a') (hd : DOK (env sg0) [] a'.defers) : t'.At W0 (sgl (Q.map (Nm.val (sgl l)))) (fun i => ρ' (pf P e.n1 i)) a' W' := by
  simp only [partOk, Bool.and_eq_true (Nat.ble _ _), Bool.and_eq_true (Nat.beq _ _), Bool.and_eq_true (inF _ _), Bool.and_eq_true (has _ _)] at ht
  obtain ⟨t1, t2, t3, t4, t5⟩ := ht
  rw [Nat.ble_eq] at t1
  rw [Nat.beq_eq] at t2
  have t3 := inF_mem t3
  have t4 := has_sound t4
  have t5 := has_sound t5
  have hs := ha.sim
  have hsub : ∀ i b, (mkSt e.h0 e.n0).heap.get i = some b → (mkSt t.h0 t.n0).heap.get i = some b := fun i b hb => t4 _ (mkSt_get hb)
  have hlive : ∀ i, ((mkSt e.h0 e.n0).heap.get i).isSome → ((mkSt t.h0 t.n0).heap.get i).isSome ∧ ∃ b, (i, b) ∈ e.h0 := by
    intro i hi
    obtain ⟨b, hb⟩ := Option.isSome_iff_exists.1 hi
    exact ⟨by rw [hsub i b hb]; rfl, b, mkSt_get hb⟩
  have hs0 : Sim (sgl l) ρ (mkSt e.h0 e.n0) W := ⟨fun i b hb => hs.blk i b (hsub i b hb), fun i j b n m hi hj => hs.inj i j b n m (hlive i hi).1 (hlive j hj).1, fun i hi => hs.dom i (by have hi : e.n0 ≤ i := hi; show t.n0 ≤ i; omega), hs.old⟩
  obtain ⟨kk, hn, hh, hf, hz⟩ := hpost
  have hmono := kk.mono hs0
  have hrest : ∀ x ∈ others e.h0 t.h0, ∃ b n o, ρ x.1 = some (b, n) ∧ ρ' x.1 = some (b, n) ∧ W'.heap[b]? = some o ∧ OR (sgl l) ρ' n x.2 o ∧ ((mkSt t.h0 t.n0).heap.get x.1).isSome := by
    intro x hx
    obtain ⟨x1, x2⟩ := others_mem hx
    have hg : (mkSt t.h0 t.n0).heap.get x.1 = some x.2 := t5 _ x1
    obtain ⟨b, n, o, k1, k2, k3⟩ := hs.blk _ _ hg
    refine ⟨b, n, o, k1, hmono _ _ k1, ?_, OR.mono hmono k3, by rw [hg]; rfl⟩
    rw [kk.frame b (hs.old _ _ _ k1) ?_, k2]
    intro id m hid hr
    obtain ⟨g1, bb, g2⟩ := hlive id hid
    have := hs.inj id x.1 b m n g1 (by rw [hg]; rfl) hr k1
    exact x2 _ g2 this
  have hsim : Sim (sgl l) ρ' (mkSt (e.full t).h1 (e.full t).n1) W' := by
    have hk : ∀ i b, (mkSt (e.full t).h1 (e.full t).n1).heap.get i = some b → s1.heap.get i = some b ∨ (i, b) ∈ others e.h0 t.h0 := by
      intro i b hb
      have := mkSt_get hb
      rcases List.mem_append.1 this with h | h
      · exact .inl (hh _ h)
      · exact .inr h
    refine ⟨fun i b hb => ?_, fun i j b n m hi hj ri rj => ?_, fun i hi => kk.sim.dom i (by rw [hn]; exact hi), kk.sim.old⟩
    · rcases hk i b hb with h | h
      · exact kk.sim.blk i b h
      · obtain ⟨bb, n, o, k1, k2, k3, k4, _⟩ := hrest _ h
        exact ⟨bb, n, o, k2, k3, k4⟩
    · obtain ⟨bi, hbi⟩ := Option.isSome_iff_exists.1 hi
      obtain ⟨bj, hbj⟩ := Option.isSome_iff_exists.1 hj
      have cross : ∀ i j bi bj n m, s1.heap.get i = some bi → (j, bj) ∈ others e.h0 t.h0 → ρ' i = some (b, n) → ρ' j = some (b, m) → i = j := by
        intro i j bi bj n m h1 h2 ri rj
        obtain ⟨bb, n', o, k1, k2, k3, k4, k5⟩ := hrest _ h2
        simp only at k1 k2 k5
        rw [k2] at rj; cases rj
        obtain ⟨j', g1, g2⟩ := kk.live i b n (by rw [h1]; rfl) ri (hs.old _ _ _ k1)
        obtain ⟨g3, bb', g4⟩ := hlive j' g1
        have := hs.inj j' j b n _ g3 k5 g2 k1
        exact absurd this ((others_mem h2).2 _ g4)
      rcases hk i bi hbi with h1 | h1 <;> rcases hk j bj hbj with h2 | h2
      · exact kk.sim.inj i j b n m (by rw [h1]; rfl) (by rw [h2]; rfl) ri rj
      · exact cross i j bi bj n m h1 h2 ri rj
      · exact (cross j i bj bi m n h2 h1 rj ri).symm
      · obtain ⟨b1, n1, o1, p1, p2, _, _, p5⟩ := hrest _ h1
        obtain ⟨b2, n2, o2, q1, q2, _, _, q5⟩ := hrest _ h2
        simp only at p1 p2 p5 q1 q2 q5
        rw [p2] at ri; cases ri
        rw [q2] at rj; cases rj
        exact hs.inj i j b _ _ p5 q5 p1 q1
  have hq2 := hq
  simp only [pickOk, Bool.and_eq_true (Nat.ble _ _), Bool.and_eq_true (pickF _ _ _ _), Bool.and_eq_true (has _ _)] at hq2
  obtain ⟨h1, h2, h3, h4⟩ := hq2
  rw [Nat.ble_eq] at h1
  rw [← sgn_qf]
  have ho0 : Off W0 (mkSt e.h0 e.n0) ρ := fun i b n hi hr => ha.off i b n (hlive i hi).1 hr
  obtain ⟨kp, of1⟩ := kk.kp ha.kept ho0
  refine ⟨sim_pick hsim h4, by have : t'.n ≤ e.n := h1; omega, fun x hx => (VR_ren _ _).1 (hf _ (pickF_mem h2 x hx)), hd, ?_, kp⟩
  have h5 := h4
  simp only [Bool.and_eq_true] at h5
  have f3 := found1_get h5.1.2
  intro id b n hid hr
  obtain ⟨x, hx⟩ := Option.isSome_iff_exists.1 hid
  have hg := f3 _ (mkSt_get hx)
  have := mkSt_get (n := e.n1) hg
  rcases List.mem_append.1 this with h9 | h9
  · have h9 : s1.heap.get (pf P e.n1 id) = some (renB (pf P e.n1) (qf Q) x) := hh _ h9
    exact of1 (pf P e.n1 id) b n (by rw [h9]; rfl) hr
  · obtain ⟨b9, n9, o9, k1, k2, _, _, k5⟩ := hrest _ h9
    have hr : ρ' (pf P e.n1 id) = some (b, n) := hr
    have k2 : ρ' (pf P e.n1 id) = some (b9, n9) := k2
    rw [k2] at hr; cases hr
    exact ha.off _ _ _ k5 k1
theorem pc_part {F : Facts} {l : List Int} (hF : F.Ok l) {us : List Use} {ps : List Pur} (hu : ∀ u ∈ us, u.e.Ok Tryz.prog (sgn (sgl l) (qf u.Q))) (hp : ∀ e ∈ ps, DoesP (env F.sg) (sgl l) e) {c : Code} {e : Pc} {k : Nat}
    (h : pcOk e (exec (env F.sg) (callS F us ps) k c (fr e.n e.f0) (mkSt e.h0 e.n0)) = true) {P : List Nat} {Q : List Nm} {t t' : Tm} (ht : partOk e t = true) (hq : pickOk (e.full t) P Q t' = true)
    {ρ : Rho} {a : Act} {W : World} {R : Exit → Act → World → Prop} (ha : t.At W0 (sgl l) ρ a W)
    (hR : ∀ ρ' a' W', t'.At W0 (sgl (Q.map (Nm.val (sgl l)))) ρ' a' W' → R (toExit e.o) a' W') : c.wp Tryz.prog R a W := by
  obtain ⟨h1, h2, h3⟩ := part_sim ht ha
  exact pc_wp (E := env F.sg) (D := []) (env_ok _ _ (Facts.sgOk hF)) (callS_ok hF hu hp) h h1 h2 h3 ha.dfr (fun ρ' s1 W' a' hpost hd => hR _ _ _ (part_post ht hq ha hpost hd))
end
end Go.Proofs.YtnpkeganpkobjaaGreatDoor.Ev
namespace Go.Proofs.YtnpkeganpkobjaaGreatDoor.Ev
set_option maxRecDepth 100000
open Go Go.RowKit
noncomputable section
def ntF (b : Int) : Facts := ⟨[(0, b)], [], [], [], [⟨.neq, .s 0, .s 0, .bool true⟩], [], [], []⟩
def ntE (n : Nat) : Sm := ⟨225, [.sflt 0], 0, [], .str [110, 97, 110], n, []⟩
theorem ntR (b : Int) : smOk (ntE 0) (callS (ntF b) [] [] 225 [.sflt 0] (mkSt [] 0)) = true := by kernel_rfl
theorem nan_text {g : Sg} {σ : Nat → Int} : DoesP (env g) σ ⟨225, [.nan], .str [110, 97, 110]⟩ := by
  intro s ρ W us hs hus
  simp only [VRs, VR] at hus
  obtain ⟨u, r, ⟨b, hb, rfl⟩, rfl, rfl⟩ := hus
  have hm : (ntE 0).Ok Tryz.prog (sgl [(b : Int)]) := sm_signs (F := ntF (b : Int)) (us := []) (ps := []) (l := [(b : Int)]) ⟨gc trivial, an, an, an, al (by simpa [sgl, lget, Nm.val, conc] using hb) an, an, an, an⟩ an an 1 (by simp) (ntR _) (by kernel_rfl)
  obtain ⟨g1, g2⟩ := pure_val hm hs (us := [.float .f64 b]) (by simp [VRs, VR, sgl, lget]) rfl
  refine ⟨g1, g2.mono ?_⟩
  rintro e w' ⟨u, rfl, hu, k⟩
  exact ⟨ρ, u, rfl, by simp only [VR, BR, List.map] at hu ⊢; exact hu, k⟩
theorem nan_read (t : Nat) : ∃ g m, fmt.read ((t % 2) * 2 ^ 63 + 0x7ff0000000000000 + 1 + (t / 2) % (2 ^ 52 - 1)) = .nan g m := by
  have h1 : (t / 2) % (2 ^ 52 - 1) < 2 ^ 52 - 1 := Nat.mod_lt _ (by decide)
  obtain ⟨r, hr⟩ : ∃ r, r = (t / 2) % (2 ^ 52 - 1) := ⟨_, rfl⟩
  rw [← hr] at h1 ⊢
  have e1 : fmt.signWeight = 9223372036854775808 := by decide
  have e2 : fmt.binade = 4503599627370496 := by decide
  have e3 : fmt.infRung = 9218868437227405312 := by decide
  unfold Ieee.Format.read
  simp only [e1, e2, e3]
  have h2 : ((t % 2) * 2 ^ 63 + 0x7ff0000000000000 + 1 + r) % 9223372036854775808 = 9218868437227405313 + r := by omega
  rw [h2, if_neg (by omega), if_neg (by omega), if_neg (by omega)]
  exact ⟨_, _, rfl⟩
theorem nan_neq (t : Nat) : binF .neq ((t % 2) * 2 ^ 63 + 0x7ff0000000000000 + 1 + (t / 2) % (2 ^ 52 - 1)) (.flt ((t % 2) * 2 ^ 63 + 0x7ff0000000000000 + 1 + (t / 2) % (2 ^ 52 - 1))) = some (.bool true) := by
  obtain ⟨g, m, h⟩ := nan_read t
  show some (V.bool (Ieee.Format.order fmt _ _ != some .eq)) = _
  unfold Ieee.Format.order
  rw [h]
  rfl
theorem nan_run (w : World) : ∃ b w', binF .neq b (.flt b) = some (.bool true) ∧ (binOp .quo 170 (.float .f64 (floatOfInt .f64 0)) (.float .f64 (floatOfInt .f64 0))).run Tryz.prog w = .ok (.float .f64 b) w' ∧ w'.heap = w.heap ∧ w'.os = w.os ∧ w'.tape = w.tape ∧ w'.output = w.output := by
  refine ⟨_, { w with drawn := w.drawn + 1 }, nan_neq (w.tape w.drawn (.nanBits .f64 0 0)), ?_, rfl, rfl, rfl, rfl⟩
  kernel_rfl
theorem nan_calls (w : World) : Calls Tryz.prog 226 #[.int .i64 0, .int .i64 0] w fun e w' => ∃ b, binF .neq b (.flt b) = some (.bool true) ∧ e = .returned (.float .f64 b) ∧ w'.heap = w.heap ∧ w'.os = w.os ∧ w'.tape = w.tape ∧ w'.output = w.output := by
  obtain ⟨b, w', h1, h2, h3⟩ := nan_run w
  have H := Apart.mk h3
  have H1 := Apart.mk h1
  clear h3 h1
  go_enter Tryz.func226, Tryz.ntmps226
  go_wp2_with fail
  go_ret
  exact ⟨b, H1.out, rfl, H.out⟩
theorem nan_of {g : Sg} {σ : Nat → Int} : DoesP (env g) σ ⟨226, [.int .i64 0, .int .i64 0], .nan⟩ := by
  intro s ρ W us hs hus
  simp only [VRs, VR] at hus
  obtain ⟨u1, r1, rfl, ⟨u2, r2, rfl, rfl, rfl⟩, rfl⟩ := hus
  refine ⟨call_body Tryz.func226 rfl _ _, (nan_calls W).mono ?_⟩
  rintro e w' ⟨b, hb, rfl, k1, k2, k3, k4⟩
  refine ⟨ρ, _, rfl, ⟨b, hb, rfl⟩, ?_⟩
  exact ⟨⟨fun id x hx => by rw [k1]; exact hs.blk id x hx, hs.inj, hs.dom, fun id b n hr => by rw [k1]; exact hs.old id b n hr⟩, fun _ _ => rfl, Nat.le_refl _, by rw [k1]; exact Nat.le_refl _, fun j _ _ => by rw [k1], fun id b n h1 h2 _ => ⟨id, h1, h2⟩, Nat.le_refl _, fun _ _ _ => rfl, k2, k3, k4⟩
end
end Go.Proofs.YtnpkeganpkobjaaGreatDoor.Ev
