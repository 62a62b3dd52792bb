import Derived.Test.YtnpkeganpkobjaaGreatDoorCA
import Derived.Test.YtnpkeganpkobjaaGreatDoorCB
import Derived.Test.YtnpkeganpkobjaaGreatDoorCC
import Derived.Test.YtnpkeganpkobjaaGreatDoorCD
import Derived.Test.YtnpkeganpkobjaaGreatDoorCE
import Derived.Test.YtnpkeganpkobjaaGreatDoorCF
import Derived.Test.YtnpkeganpkobjaaGreatDoorCK
import Derived.LoopN
import Derived.Test.YtnpkeganpkobjaaGreatDoorXL
set_option linter.all false
namespace Go.Proofs.YtnpkeganpkobjaaGreatDoor.Ev
set_option maxRecDepth 100000
set_option maxHeartbeats 4000000
open Go Go.RowKit
variable {W0 : World}
noncomputable section
def loopsOf : Code → List Code
  | .seq a b => loopsOf a ++ loopsOf b
  | .cond _ a b => loopsOf a ++ loopsOf b
  | .block _ b => loopsOf b
  | .loop b => b :: loopsOf b
  | .scope b => loopsOf b
  | _ => []
def bodyOf (f li : Nat) : Code := match fnT f with | some e => (match (loopsOf e.code)[li]? with | some c => c | none => .skip) | none => .skip
def nl : Nat → V → List V
  | 0, v => [v, .sint .i64 5, .sint .i64 6]
  | 1, v => [.sint .i64 5, v, .sint .i64 6]
  | _, v => [.sint .i64 5, .sint .i64 6, v]
def if0 : Nat → FCm → List FCm → List FCm
  | 0, x, l => x :: l
  | _, _, l => l
theorem if0_ok {p : Nat} {x : FCm} {l : List FCm} {q : FCm → Prop} (h : p = 0 → q x) (t : ∀ e ∈ l, q e) : ∀ e ∈ if0 p x l, q e := by
  cases p with
  | zero => exact al (h rfl) t
  | succ p => exact t
theorem p2 {q : Nat → Prop} (h0 : q 0) (h1 : q 1) : ∀ p, p < 2 → q p
  | 0, _ => h0
  | 1, _ => h1
  | p + 2, h => by omega
theorem pC {q : Nat → Prop} (h : q 2) : ∀ p, p = 2 → q p := by rintro p rfl; exact h
theorem k1 {q : Nat → Prop} (h0 : q 0) : ∀ p, p < 1 → q p
  | 0, _ => h0
  | p + 1, h => by omega
theorem k2 {q : Nat → Prop} (h0 : q 0) (h1 : q 1) : ∀ p, p < 2 → q p := p2 h0 h1
theorem k3 {q : Nat → Prop} (h0 : q 0) (h1 : q 1) (h2 : q 2) : ∀ p, p < 3 → q p
  | 0, _ => h0
  | 1, _ => h1
  | 2, _ => h2
  | p + 3, h => by omega
theorem k4 {q : Nat → Prop} (h0 : q 0) (h1 : q 1) (h2 : q 2) (h3 : q 3) : ∀ p, p < 4 → q p
  | 0, _ => h0
  | 1, _ => h1
  | 2, _ => h2
  | 3, _ => h3
  | p + 4, h => by omega
theorem k6 {q : Nat → Prop} (h0 : q 0) (h1 : q 1) (h2 : q 2) (h3 : q 3) (h4 : q 4) (h5 : q 5) : ∀ p, p < 6 → q p
  | 0, _ => h0
  | 1, _ => h1
  | 2, _ => h2
  | 3, _ => h3
  | 4, _ => h4
  | 5, _ => h5
  | p + 6, h => by omega
theorem and3 {a b c : Bool} (h : (a && (b && c)) = true) : a = true ∧ b = true ∧ c = true := by
  cases a <;> cases b <;> cases c <;> first | exact ⟨rfl, rfl, rfl⟩ | cases h
def q14 : List Nm := k23n
structure Co (i most n na nb near loads many first second tick : Int) : Prop where
  i : (0 : Int) ≤ i ∧ i ≤ 59
  most : (0 : Int) ≤ most ∧ most ≤ 2
  n : (0 : Int) ≤ n ∧ n ≤ 60
  na : (0 : Int) ≤ na ∧ na ≤ 60
  nb : (0 : Int) ≤ nb ∧ nb ≤ 60
  near : Nr near
  loads : (1 : Int) ≤ loads ∧ loads ≤ 2
  many : (0 : Int) ≤ many ∧ many ≤ 60
  first : (0 : Int) ≤ first ∧ first ≤ 30
  second : (0 : Int) ≤ second ∧ second ≤ 30
  tick : (0 : Int) ≤ tick ∧ tick ≤ 59
structure Rp (L left after reset l1 l0 f1 f0 r1 r0 w x y z : Int) : Prop where
  e : ((1 : Int) ≤ L ∧ L ≤ 30) ∧ (0 ≤ left ∧ left < L) ∧ after = L - left ∧ (1 ≤ reset ∧ reset ≤ 60) ∧ (l1 = 48 + L / 10 ∧ l0 = 48 + L % 10) ∧ (f1 = 48 + left / 10 ∧ f0 = 48 + left % 10) ∧ r1 = 48 + reset / 10 ∧ r0 = 48 + reset % 10
  s : IsSh after L w x y z
theorem exRp (L left after reset : Int) (h : ((1 : Int) ≤ L ∧ L ≤ 30) ∧ (0 ≤ left ∧ left < L) ∧ after = L - left ∧ (1 ≤ reset ∧ reset ≤ 60) := by omega) : ∃ l1 l0 f1 f0 r1 r0 w x y z, Rp L left after reset l1 l0 f1 f0 r1 r0 w x y z := by
  obtain ⟨w, x, y, z, s⟩ := exSh after L
  exact ⟨_, _, _, _, _, _, w, x, y, z, ⟨h.1, h.2.1, h.2.2.1, h.2.2.2, ⟨rfl, rfl⟩, ⟨rfl, rfl⟩, rfl, rfl⟩, s⟩
theorem Rp.bd {L left after reset l1 l0 f1 f0 r1 r0 w x y z : Int} (q : Rp L left after reset l1 l0 f1 f0 r1 r0 w x y z) : ((1 : Int) ≤ L ∧ L ≤ 30) ∧ (0 ≤ left ∧ left ≤ 29) ∧ (1 ≤ after ∧ after ≤ 30) ∧ (1 ≤ reset ∧ reset ≤ 60) ∧ (48 ≤ l1 ∧ l1 ≤ 57) ∧ (48 ≤ l0 ∧ l0 ≤ 57) ∧ (48 ≤ f1 ∧ f1 ≤ 57) ∧ (48 ≤ f0 ∧ f0 ≤ 57) ∧ (48 ≤ r1 ∧ r1 ≤ 57) ∧ (48 ≤ r0 ∧ r0 ≤ 57) ∧ (48 ≤ w ∧ w ≤ 49) ∧ (48 ≤ x ∧ x ≤ 57) ∧ (48 ≤ y ∧ y ≤ 57) ∧ (48 ≤ z ∧ z ≤ 57) := by
  have e := q.e
  have s := q.s.bd
  omega
structure Rz (left after reset l1 l0 f1 f0 r1 r0 w x y z : Int) : Prop where
  e : (left = 0 ∧ after = 1 ∧ l1 = 48 ∧ l0 = 48 ∧ f1 = 48 ∧ f0 = 48 ∧ w = 48 ∧ x = 48 ∧ y = 48 ∧ z = 48) ∧ (1 ≤ reset ∧ reset ≤ 60) ∧ r1 = 48 + reset / 10 ∧ r0 = 48 + reset % 10
theorem exRz (left after reset : Int) (h : left = 0 ∧ after = 1 ∧ (1 ≤ reset ∧ reset ≤ 60) := by omega) : ∃ l1 l0 f1 f0 r1 r0 w x y z, Rz left after reset l1 l0 f1 f0 r1 r0 w x y z :=
  ⟨_, _, _, _, _, _, _, _, _, _, ⟨⟨h.1, h.2.1, rfl, rfl, rfl, rfl, rfl, rfl, rfl, rfl⟩, h.2.2, rfl, rfl⟩⟩
theorem Rz.bd {left after reset l1 l0 f1 f0 r1 r0 w x y z : Int} (q : Rz left after reset l1 l0 f1 f0 r1 r0 w x y z) : (left = 0 ∧ after = 1) ∧ (1 ≤ reset ∧ reset ≤ 60) ∧ (48 ≤ l1 ∧ l1 ≤ 57) ∧ (48 ≤ l0 ∧ l0 ≤ 57) ∧ (48 ≤ f1 ∧ f1 ≤ 57) ∧ (48 ≤ f0 ∧ f0 ≤ 57) ∧ (48 ≤ r1 ∧ r1 ≤ 57) ∧ (48 ≤ r0 ∧ r0 ≤ 57) ∧ (48 ≤ w ∧ w ≤ 49) ∧ (48 ≤ x ∧ x ≤ 57) ∧ (48 ≤ y ∧ y ≤ 57) ∧ (48 ≤ z ∧ z ≤ 57) := by
  have e := q.e
  omega
def repW : Nat → Nat → List Use
  | 0, a => [⟨TcE12, a, [a - 3], [.s 0, .s 14, .s 16, .s 17, .s 18, .s 19, .s 20, .s 21, .s 22, .s 15, .s 23, .s 24, .s 25, .s 26]⟩, ⟨TcE21, (a + 6), [a - 3, a + 4], k225n⟩, ⟨TcE29, (a + 84), [a + 83], k225n⟩]
  | 1, a => [⟨TcE85, a, [a - 3], [.s 0, .s 14, .s 16, .s 17, .s 18, .s 20, .s 21, .s 22, .s 15, .s 23, .s 24, .s 25, .s 26]⟩, ⟨TcE87, (a + 6), [a - 3, a + 4], k237n⟩, ⟨TcE89, (a + 84), [a + 83], k237n⟩]
  | 2, a => [⟨TcE90, a, [a - 3], [.s 0, .s 14, .s 16, .s 18, .s 20, .s 21, .s 22, .s 15, .s 23, .s 24, .s 25, .s 26]⟩, ⟨TcE91, (a + 6), [a - 3, a + 4], k246n⟩, ⟨TcE92, (a + 84), [a + 83], k246n⟩]
  | 3, a => [⟨TcE93, a, [a - 3], [.s 0, .s 14, .s 16, .s 17, .s 18, .s 19, .s 20, .s 22, .s 15, .s 23, .s 24, .s 25, .s 26]⟩, ⟨TcE95, (a + 6), [a - 3, a + 4], k238n⟩, ⟨TcE96, (a + 84), [a + 83], k238n⟩]
  | 4, a => [⟨TcE97, a, [a - 3], [.s 0, .s 14, .s 16, .s 17, .s 18, .s 20, .s 22, .s 15, .s 23, .s 24, .s 25, .s 26]⟩, ⟨TcE98, (a + 6), [a - 3, a + 4], k247n⟩, ⟨TcE99, (a + 84), [a + 83], k247n⟩]
  | _, a => [⟨TcE100, a, [a - 3], [.s 0, .s 14, .s 16, .s 18, .s 20, .s 22, .s 15, .s 23, .s 24, .s 25, .s 26]⟩, ⟨TcE101, (a + 6), [a - 3, a + 4], k260n⟩, ⟨TcE102, (a + 84), [a + 83], k260n⟩]
def ClW (d : Nat) (x0 y14 y16 : Int) : Prop := match d with
  | 0 => 10 ≤ x0 ∧ 10 ≤ y14 ∧ 10 ≤ y16
  | 1 => 10 ≤ x0 ∧ (1 ≤ y14 ∧ y14 ≤ 9) ∧ 10 ≤ y16
  | 2 => x0 ≤ 9 ∧ 1 ≤ y14 ∧ 10 ≤ y16
  | 3 => 10 ≤ x0 ∧ 10 ≤ y14 ∧ y16 ≤ 9
  | 4 => 10 ≤ x0 ∧ (1 ≤ y14 ∧ y14 ≤ 9) ∧ y16 ≤ 9
  | 5 => x0 ≤ 9 ∧ 1 ≤ y14 ∧ y16 ≤ 9
  | _ => False
theorem repW_ok {x0 x1 x2 x3 x4 x5 x6 x7 x8 x9 x10 x11 x12 x13 y14 y15 y16 y17 y18 y19 y20 y21 y22 y23 y24 y25 y26 : Int} {a : Nat} (d : Nat) (hc : ClW d x0 y14 y16) (q : Rp x0 y14 y15 y16 y17 y18 y19 y20 y21 y22 y23 y24 y25 y26) (l : List Int) (b2 : (0 : Int) ≤ x2 ∧ x2 ≤ 59 := by assumption) : ∀ u ∈ repW d a, u.e.Ok Tryz.prog (sgn (sgl (x0 :: x1 :: x2 :: x3 :: x4 :: x5 :: x6 :: x7 :: x8 :: x9 :: x10 :: x11 :: x12 :: x13 :: y14 :: y15 :: y16 :: y17 :: y18 :: y19 :: y20 :: y21 :: y22 :: y23 :: y24 :: y25 :: y26 :: l)) (qf u.Q)) := by
  have qb := q.bd
  have qs := q.s
  have qe := q.e
  revert hc
  match d with
  | 0 =>
    intro hc
    have hc : 10 ≤ x0 ∧ 10 ≤ y14 ∧ 10 ≤ y16 := hc
    exact (al (ue (TcE12_ok x0 y14 y16 y17 y18 y19 y20 y21 y22 y15 y23 y24 y25 y26)) (al (ue (TcE21_ok x2 x0 y14 y16 y17 y18 y19 y20 y21 y22 y23 y24 y25 y26)) (al (ue (TcE29_ok x2 x0 y14 y16 y17 y18 y19 y20 y21 y22 y23 y24 y25 y26)) an)))
  | 1 =>
    intro hc
    have hc : 10 ≤ x0 ∧ (1 ≤ y14 ∧ y14 ≤ 9) ∧ 10 ≤ y16 := hc
    exact (al (ue (TcE85_ok x0 y14 y16 y17 y18 y20 y21 y22 y15 y23 y24 y25 y26)) (al (ue (TcE87_ok x2 x0 y14 y16 y17 y18 y20 y21 y22 y23 y24 y25 y26)) (al (ue (TcE89_ok x2 x0 y14 y16 y17 y18 y20 y21 y22 y23 y24 y25 y26)) an)))
  | 2 =>
    intro hc
    have hc : x0 ≤ 9 ∧ 1 ≤ y14 ∧ 10 ≤ y16 := hc
    exact (al (ue (TcE90_ok x0 y14 y16 y18 y20 y21 y22 y15 y23 y24 y25 y26)) (al (ue (TcE91_ok x2 x0 y14 y16 y18 y20 y21 y22 y23 y24 y25 y26)) (al (ue (TcE92_ok x2 x0 y14 y16 y18 y20 y21 y22 y23 y24 y25 y26)) an)))
  | 3 =>
    intro hc
    have hc : 10 ≤ x0 ∧ 10 ≤ y14 ∧ y16 ≤ 9 := hc
    exact (al (ue (TcE93_ok x0 y14 y16 y17 y18 y19 y20 y22 y15 y23 y24 y25 y26)) (al (ue (TcE95_ok x2 x0 y14 y16 y17 y18 y19 y20 y22 y23 y24 y25 y26)) (al (ue (TcE96_ok x2 x0 y14 y16 y17 y18 y19 y20 y22 y23 y24 y25 y26)) an)))
  | 4 =>
    intro hc
    have hc : 10 ≤ x0 ∧ (1 ≤ y14 ∧ y14 ≤ 9) ∧ y16 ≤ 9 := hc
    exact (al (ue (TcE97_ok x0 y14 y16 y17 y18 y20 y22 y15 y23 y24 y25 y26)) (al (ue (TcE98_ok x2 x0 y14 y16 y17 y18 y20 y22 y23 y24 y25 y26)) (al (ue (TcE99_ok x2 x0 y14 y16 y17 y18 y20 y22 y23 y24 y25 y26)) an)))
  | 5 =>
    intro hc
    have hc : x0 ≤ 9 ∧ 1 ≤ y14 ∧ y16 ≤ 9 := hc
    exact (al (ue (TcE100_ok x0 y14 y16 y18 y20 y22 y15 y23 y24 y25 y26)) (al (ue (TcE101_ok x2 x0 y14 y16 y18 y20 y22 y23 y24 y25 y26)) (al (ue (TcE102_ok x2 x0 y14 y16 y18 y20 y22 y23 y24 y25 y26)) an)))
  | n + 6 => exact fun h => h.elim
theorem clW (x0 y14 y16 : Int) (b0 : (1 : Int) ≤ x0 ∧ x0 ≤ 30 := by omega) (b14 : (1 : Int) ≤ y14 ∧ y14 < x0 := by omega) (b16 : (1 : Int) ≤ y16 ∧ y16 ≤ 60 := by omega) : ∃ d, d < 6 ∧ ClW d x0 y14 y16 := by
  rcases (show (10 ≤ x0 ∧ 10 ≤ y14 ∧ 10 ≤ y16) ∨ (10 ≤ x0 ∧ (1 ≤ y14 ∧ y14 ≤ 9) ∧ 10 ≤ y16) ∨ (x0 ≤ 9 ∧ 1 ≤ y14 ∧ 10 ≤ y16) ∨ (10 ≤ x0 ∧ 10 ≤ y14 ∧ y16 ≤ 9) ∨ (10 ≤ x0 ∧ (1 ≤ y14 ∧ y14 ≤ 9) ∧ y16 ≤ 9) ∨ (x0 ≤ 9 ∧ 1 ≤ y14 ∧ y16 ≤ 9) by omega) with h | h | h | h | h | h
  · exact ⟨0, by decide, h⟩
  · exact ⟨1, by decide, h⟩
  · exact ⟨2, by decide, h⟩
  · exact ⟨3, by decide, h⟩
  · exact ⟨4, by decide, h⟩
  · exact ⟨5, by decide, h⟩
theorem clWc (x0 y14 y16 : Int) (b0 : (1 : Int) ≤ x0 ∧ x0 ≤ 30 := by omega) (b14 : (1 : Int) ≤ y14 ∧ y14 < x0 := by omega) (b16 : (10 : Int) ≤ y16 ∧ y16 ≤ 60 := by omega) : ∃ d, d < 3 ∧ ClW d x0 y14 y16 := by
  rcases (show (10 ≤ x0 ∧ 10 ≤ y14 ∧ 10 ≤ y16) ∨ (10 ≤ x0 ∧ (1 ≤ y14 ∧ y14 ≤ 9) ∧ 10 ≤ y16) ∨ (x0 ≤ 9 ∧ 1 ≤ y14 ∧ 10 ≤ y16) by omega) with h | h | h
  · exact ⟨0, by decide, h⟩
  · exact ⟨1, by decide, h⟩
  · exact ⟨2, by decide, h⟩
def repL : Nat → Nat → List Use
  | 0, a => [⟨TcE41, a, [a - 3], k273n⟩, ⟨TcE42, (a + 6), [a - 3, a + 4], k143n⟩, ⟨TcE43, (a + 84), [a + 83], k143n⟩]
  | 1, a => [⟨TcE31, a, [a - 3], k288n⟩, ⟨TcE34, (a + 6), [a - 3, a + 4], k161n⟩, ⟨TcE37, (a + 84), [a + 83], k161n⟩]
  | 2, a => [⟨TcE103, a, [a - 3], k289n⟩, ⟨TcE104, (a + 6), [a - 3, a + 4], k162n⟩, ⟨TcE105, (a + 84), [a + 83], k162n⟩]
  | _, a => [⟨TcE106, a, [a - 3], [.s 0, .s 16, .s 18, .s 22, .s 23, .s 24, .s 25, .s 26]⟩, ⟨TcE107, (a + 6), [a - 3, a + 4], k167n⟩, ⟨TcE108, (a + 84), [a + 83], k167n⟩]
def ClL (d : Nat) (x0 y16 : Int) : Prop := match d with
  | 0 => 10 ≤ x0 ∧ 10 ≤ y16
  | 1 => x0 ≤ 9 ∧ 10 ≤ y16
  | 2 => 10 ≤ x0 ∧ y16 ≤ 9
  | 3 => x0 ≤ 9 ∧ y16 ≤ 9
  | _ => False
theorem repL_ok {x0 x1 x2 x3 x4 x5 x6 x7 x8 x9 x10 x11 x12 x13 y14 y15 y16 y17 y18 y19 y20 y21 y22 y23 y24 y25 y26 : Int} {a : Nat} (d : Nat) (hc : ClL d x0 y16) (q : Rp x0 y14 y15 y16 y17 y18 y19 y20 y21 y22 y23 y24 y25 y26) (l : List Int) (e14 : y14 = 0 ∧ y15 = x0 := by omega) (b2 : (0 : Int) ≤ x2 ∧ x2 ≤ 59 := by assumption) : ∀ u ∈ repL d a, u.e.Ok Tryz.prog (sgn (sgl (x0 :: x1 :: x2 :: x3 :: x4 :: x5 :: x6 :: x7 :: x8 :: x9 :: x10 :: x11 :: x12 :: x13 :: y14 :: y15 :: y16 :: y17 :: y18 :: y19 :: y20 :: y21 :: y22 :: y23 :: y24 :: y25 :: y26 :: l)) (qf u.Q)) := by
  have qb := q.bd
  have qs := q.s
  have qe := q.e
  revert hc
  match d with
  | 0 =>
    intro hc
    have hc : 10 ≤ x0 ∧ 10 ≤ y16 := hc
    obtain ⟨e14, e15⟩ := e14
    rw [e15] at qs
    exact (al (ue (TcE41_ok x0 y16 y17 y18 y21 y22 y23 y24 y25 y26)) (al (ue (TcE42_ok x2 x0 y16 y17 y18 y21 y22 y23 y24 y25 y26)) (al (ue (TcE43_ok x2 x0 y16 y17 y18 y21 y22 y23 y24 y25 y26)) an)))
  | 1 =>
    intro hc
    have hc : x0 ≤ 9 ∧ 10 ≤ y16 := hc
    obtain ⟨e14, e15⟩ := e14
    rw [e15] at qs
    exact (al (ue (TcE31_ok x0 y16 y18 y21 y22 y23 y24 y25 y26)) (al (ue (TcE34_ok x2 x0 y16 y18 y21 y22 y23 y24 y25 y26)) (al (ue (TcE37_ok x2 x0 y16 y18 y21 y22 y23 y24 y25 y26)) an)))
  | 2 =>
    intro hc
    have hc : 10 ≤ x0 ∧ y16 ≤ 9 := hc
    obtain ⟨e14, e15⟩ := e14
    rw [e15] at qs
    exact (al (ue (TcE103_ok x0 y16 y17 y18 y22 y23 y24 y25 y26)) (al (ue (TcE104_ok x2 x0 y16 y17 y18 y22 y23 y24 y25 y26)) (al (ue (TcE105_ok x2 x0 y16 y17 y18 y22 y23 y24 y25 y26)) an)))
  | 3 =>
    intro hc
    have hc : x0 ≤ 9 ∧ y16 ≤ 9 := hc
    obtain ⟨e14, e15⟩ := e14
    rw [e15] at qs
    exact (al (ue (TcE106_ok x0 y16 y18 y22 y23 y24 y25 y26)) (al (ue (TcE107_ok x2 x0 y16 y18 y22 y23 y24 y25 y26)) (al (ue (TcE108_ok x2 x0 y16 y18 y22 y23 y24 y25 y26)) an)))
  | n + 4 => exact fun h => h.elim
theorem clL (x0 y16 : Int) (b0 : (1 : Int) ≤ x0 ∧ x0 ≤ 30 := by omega) (b16 : (1 : Int) ≤ y16 ∧ y16 ≤ 60 := by omega) : ∃ d, d < 4 ∧ ClL d x0 y16 := by
  rcases (show (10 ≤ x0 ∧ 10 ≤ y16) ∨ (x0 ≤ 9 ∧ 10 ≤ y16) ∨ (10 ≤ x0 ∧ y16 ≤ 9) ∨ (x0 ≤ 9 ∧ y16 ≤ 9) by omega) with h | h | h | h
  · exact ⟨0, by decide, h⟩
  · exact ⟨1, by decide, h⟩
  · exact ⟨2, by decide, h⟩
  · exact ⟨3, by decide, h⟩
theorem clLc (x0 y16 : Int) (b0 : (1 : Int) ≤ x0 ∧ x0 ≤ 30 := by omega) (b16 : (10 : Int) ≤ y16 ∧ y16 ≤ 60 := by omega) : ∃ d, d < 2 ∧ ClL d x0 y16 := by
  rcases (show (10 ≤ x0 ∧ 10 ≤ y16) ∨ (x0 ≤ 9 ∧ 10 ≤ y16) by omega) with h | h
  · exact ⟨0, by decide, h⟩
  · exact ⟨1, by decide, h⟩
def repO : Nat → Nat → List Use
  | 0, a => [⟨TcE46, a, [a - 3], k273n⟩, ⟨TcE47, (a + 6), [a - 3, a + 4], k143n⟩, ⟨TcE48, (a + 84), [a + 83], k143n⟩]
  | 1, a => [⟨TcE109, a, [a - 3], k288n⟩, ⟨TcE110, (a + 6), [a - 3, a + 4], k161n⟩, ⟨TcE111, (a + 84), [a + 83], k161n⟩]
  | 2, a => [⟨TcE112, a, [a - 3], k289n⟩, ⟨TcE113, (a + 6), [a - 3, a + 4], k162n⟩, ⟨TcE114, (a + 84), [a + 83], k162n⟩]
  | _, a => [⟨TcE115, a, [a - 3], [.s 0, .s 16, .s 18, .s 22, .s 23, .s 24, .s 25, .s 26]⟩, ⟨TcE116, (a + 6), [a - 3, a + 4], k167n⟩, ⟨TcE117, (a + 84), [a + 83], k167n⟩]
def ClO (d : Nat) (x0 y16 : Int) : Prop := match d with
  | 0 => 10 ≤ x0 ∧ 10 ≤ y16
  | 1 => x0 ≤ 9 ∧ 10 ≤ y16
  | 2 => 10 ≤ x0 ∧ y16 ≤ 9
  | 3 => x0 ≤ 9 ∧ y16 ≤ 9
  | _ => False
theorem repO_ok {x0 x1 x2 x3 x4 x5 x6 x7 x8 x9 x10 x11 x12 x13 y14 y15 y16 y17 y18 y19 y20 y21 y22 y23 y24 y25 y26 : Int} {a : Nat} (d : Nat) (hc : ClO d x0 y16) (q : Rp x0 y14 y15 y16 y17 y18 y19 y20 y21 y22 y23 y24 y25 y26) (l : List Int) (e14 : y14 = 0 ∧ y15 = x0 := by omega) (b2 : (0 : Int) ≤ x2 ∧ x2 ≤ 59 := by assumption) : ∀ u ∈ repO d a, u.e.Ok Tryz.prog (sgn (sgl (x0 :: x1 :: x2 :: x3 :: x4 :: x5 :: x6 :: x7 :: x8 :: x9 :: x10 :: x11 :: x12 :: x13 :: y14 :: y15 :: y16 :: y17 :: y18 :: y19 :: y20 :: y21 :: y22 :: y23 :: y24 :: y25 :: y26 :: l)) (qf u.Q)) := by
  have qb := q.bd
  have qs := q.s
  have qe := q.e
  revert hc
  match d with
  | 0 =>
    intro hc
    have hc : 10 ≤ x0 ∧ 10 ≤ y16 := hc
    obtain ⟨e14, e15⟩ := e14
    rw [e15] at qs
    exact (al (ue (TcE46_ok x0 y16 y17 y18 y21 y22 y23 y24 y25 y26)) (al (ue (TcE47_ok x2 x0 y16 y17 y18 y21 y22 y23 y24 y25 y26)) (al (ue (TcE48_ok x2 x0 y16 y17 y18 y21 y22 y23 y24 y25 y26)) an)))
  | 1 =>
    intro hc
    have hc : x0 ≤ 9 ∧ 10 ≤ y16 := hc
    obtain ⟨e14, e15⟩ := e14
    rw [e15] at qs
    exact (al (ue (TcE109_ok x0 y16 y18 y21 y22 y23 y24 y25 y26)) (al (ue (TcE110_ok x2 x0 y16 y18 y21 y22 y23 y24 y25 y26)) (al (ue (TcE111_ok x2 x0 y16 y18 y21 y22 y23 y24 y25 y26)) an)))
  | 2 =>
    intro hc
    have hc : 10 ≤ x0 ∧ y16 ≤ 9 := hc
    obtain ⟨e14, e15⟩ := e14
    rw [e15] at qs
    exact (al (ue (TcE112_ok x0 y16 y17 y18 y22 y23 y24 y25 y26)) (al (ue (TcE113_ok x2 x0 y16 y17 y18 y22 y23 y24 y25 y26)) (al (ue (TcE114_ok x2 x0 y16 y17 y18 y22 y23 y24 y25 y26)) an)))
  | 3 =>
    intro hc
    have hc : x0 ≤ 9 ∧ y16 ≤ 9 := hc
    obtain ⟨e14, e15⟩ := e14
    rw [e15] at qs
    exact (al (ue (TcE115_ok x0 y16 y18 y22 y23 y24 y25 y26)) (al (ue (TcE116_ok x2 x0 y16 y18 y22 y23 y24 y25 y26)) (al (ue (TcE117_ok x2 x0 y16 y18 y22 y23 y24 y25 y26)) an)))
  | n + 4 => exact fun h => h.elim
theorem clO (x0 y16 : Int) (b0 : (1 : Int) ≤ x0 ∧ x0 ≤ 30 := by omega) (b16 : (1 : Int) ≤ y16 ∧ y16 ≤ 60 := by omega) : ∃ d, d < 4 ∧ ClO d x0 y16 := by
  rcases (show (10 ≤ x0 ∧ 10 ≤ y16) ∨ (x0 ≤ 9 ∧ 10 ≤ y16) ∨ (10 ≤ x0 ∧ y16 ≤ 9) ∨ (x0 ≤ 9 ∧ y16 ≤ 9) by omega) with h | h | h | h
  · exact ⟨0, by decide, h⟩
  · exact ⟨1, by decide, h⟩
  · exact ⟨2, by decide, h⟩
  · exact ⟨3, by decide, h⟩
theorem clOc (x0 y16 : Int) (b0 : (1 : Int) ≤ x0 ∧ x0 ≤ 30 := by omega) (b16 : (10 : Int) ≤ y16 ∧ y16 ≤ 60 := by omega) : ∃ d, d < 2 ∧ ClO d x0 y16 := by
  rcases (show (10 ≤ x0 ∧ 10 ≤ y16) ∨ (x0 ≤ 9 ∧ 10 ≤ y16) by omega) with h | h
  · exact ⟨0, by decide, h⟩
  · exact ⟨1, by decide, h⟩
def repZ : Nat → Nat → List Use
  | 0, a => [⟨TcE53, a, [a - 3], [.s 16, .s 21, .s 22]⟩, ⟨TcE56, (a + 6), [a - 3, a + 4], [.s 2, .s 16, .s 21, .s 22]⟩, ⟨TcE59, (a + 84), [a + 83], [.s 2, .s 16, .s 21, .s 22]⟩]
  | _, a => [⟨TcE118, a, [a - 3], [.s 16, .s 22]⟩, ⟨TcE119, (a + 6), [a - 3, a + 4], [.s 2, .s 16, .s 22]⟩, ⟨TcE120, (a + 84), [a + 83], [.s 2, .s 16, .s 22]⟩]
def ClZ (d : Nat) (y16 : Int) : Prop := match d with
  | 0 => 10 ≤ y16
  | 1 => y16 ≤ 9
  | _ => False
theorem repZ_ok {x0 x1 x2 x3 x4 x5 x6 x7 x8 x9 x10 x11 x12 x13 y14 y15 y16 y17 y18 y19 y20 y21 y22 y23 y24 y25 y26 : Int} {a : Nat} (d : Nat) (hc : ClZ d y16) (q : Rz y14 y15 y16 y17 y18 y19 y20 y21 y22 y23 y24 y25 y26) (l : List Int) (b2 : (0 : Int) ≤ x2 ∧ x2 ≤ 59 := by assumption) : ∀ u ∈ repZ d a, u.e.Ok Tryz.prog (sgn (sgl (x0 :: x1 :: x2 :: x3 :: x4 :: x5 :: x6 :: x7 :: x8 :: x9 :: x10 :: x11 :: x12 :: x13 :: y14 :: y15 :: y16 :: y17 :: y18 :: y19 :: y20 :: y21 :: y22 :: y23 :: y24 :: y25 :: y26 :: l)) (qf u.Q)) := by
  have qb := q.bd
  have qe := q.e
  revert hc
  match d with
  | 0 =>
    intro hc
    have hc : 10 ≤ y16 := hc
    exact (al (ue (TcE53_ok y16 y21 y22)) (al (ue (TcE56_ok x2 y16 y21 y22)) (al (ue (TcE59_ok x2 y16 y21 y22)) an)))
  | 1 =>
    intro hc
    have hc : y16 ≤ 9 := hc
    exact (al (ue (TcE118_ok y16 y22)) (al (ue (TcE119_ok x2 y16 y22)) (al (ue (TcE120_ok x2 y16 y22)) an)))
  | n + 2 => exact fun h => h.elim
theorem clZ (y16 : Int) (b16 : (1 : Int) ≤ y16 ∧ y16 ≤ 60 := by omega) : ∃ d, d < 2 ∧ ClZ d y16 := by
  rcases (show (10 ≤ y16) ∨ (y16 ≤ 9) by omega) with h | h
  · exact ⟨0, by decide, h⟩
  · exact ⟨1, by decide, h⟩
theorem clZc (y16 : Int) (b16 : (10 : Int) ≤ y16 ∧ y16 ≤ 60 := by omega) : ∃ d, d < 1 ∧ ClZ d y16 := by
  rcases (show (10 ≤ y16) by omega) with h
  · exact ⟨0, by decide, h⟩
def e3 : List V := [.bool false, k50n, .int .i64 0]
def pl (L most : V) (mk : List (V × V)) (rb : V) (cnt : Int) (wl : V) (slots : List V) (wm : List (V × V)) (n : List V) (r : List (Nat × B)) : List (Nat × B) := [(0, k106n), (1, .cells [.sl 3 0 1 2, .sl 4 0 1 13, .ptr 5 0, .ptr 6 0, .sint .i64 9, .int .i64 100, .int .i64 1, .int .i64 3, most, .int .i64 1, .bool false, .ptr 7 0, .ptr 8 0]), (2, .cells [.int .i64 100, .sl 9 0 1 1]), (3, .cells [k1n, .sl 10 0 1 1]), (4, .cells [k3n, k50n, .bool true, .int .i64 0, .int .i64 (-1), .bool true, k50n, .int .i64 2, L, .sflt 8, .bool false, .bool false, .nils]), (5, .cells [.sl 11 0 1 13, .sl 12 0 1 1, .map 13, .map 14]), (6, k192n), (7, k22n), (8, .cells [most, .map 18]), (9, .cells [.ptr 19 0]), (10, k18n), (11, .cells [k3n, k50n, .bool true, .int .i64 0, .int .i64 (-1), .bool true, k50n, .int .i64 2, L, .sflt 8, .bool false, .bool false, .nils]), (12, k172n), (13, k60n), (14, k25n), (15, .smap), (16, .cells [.int .i64 3, .int .i64 cnt, .sl 20 0 6 3]), (17, .cells [wl, .map 21]), (18, .map mk), (19, .cells [.int .i64 100, rb, .bool false]), (20, .cells slots), (21, .map wm), (22, .cells n)] ++ r
def tp (p : Nat) : List (Nat × V) := [(0, .sint .i64 11), (1, .sint .i64 12), (2, .sint .i64 10), (4, .sint .i64 13), (11, .ptr 0 0), (12, .ptr 22 0), (13, .int .i64 p), (14, .sint .i64 2)]
def Tm0a (p : Nat) : Tm := ⟨133, tp p, 26, pl (.sint .i64 0) (.sint .i64 3) [] (.nils) 0 (.nils) (e3 ++ e3 ++ e3 ++ e3 ++ e3 ++ e3) [] (nl p (.sint .i64 4)) []⟩
def Tm0e (p : Nat) : Tm := ⟨133, tp p, 26, pl (.sint .i64 0) (.sint .i64 3) [] (.sl 25 0 0 1) 1 (.sl 23 0 1 1) (e3 ++ [.bool true, .str TcK1ab9, .sint .i64 1] ++ e3 ++ e3 ++ e3 ++ e3) [(.str TcK1ab9, .ptr 24 0)] (nl p (.sint .i64 4)) [(23, k88n), (24, k17n), (25, k57n)]⟩
def Tm0em (p : Nat) : Tm := ⟨133, tp p, 26, pl (.sint .i64 0) (.sint .i64 3) [(.str TcK1ab9, .int .i64 60)] (.sl 25 0 0 1) 1 (.sl 23 0 1 1) (e3 ++ [.bool true, .str TcK1ab9, .sint .i64 1] ++ e3 ++ e3 ++ e3 ++ e3) [(.str TcK1ab9, .ptr 24 0)] (nl p (.sint .i64 4)) [(23, k88n), (24, k17n), (25, k57n)]⟩
def Tm0ao (p : Nat) : Tm := ⟨133, tp p, 26, pl (.sint .i64 0) (.int .i64 0) [] (.nils) 0 (.nils) (e3 ++ e3 ++ e3 ++ e3 ++ e3 ++ e3) [] (nl p (.sint .i64 4)) []⟩
def Tm0eo (p : Nat) : Tm := ⟨133, tp p, 26, pl (.sint .i64 0) (.int .i64 0) [] (.sl 25 0 0 1) 1 (.sl 23 0 1 1) (e3 ++ [.bool true, .str TcK1ab9, .sint .i64 1] ++ e3 ++ e3 ++ e3 ++ e3) [(.str TcK1ab9, .ptr 24 0)] (nl p (.sint .i64 4)) [(23, k88n), (24, k17n), (25, k57n)]⟩
def Tm0b (p : Nat) : Tm := ⟨133, tp p, 26, pl (.sint .i64 0) (.sint .i64 3) [] (.sl 25 0 0 1) 0 (.nils) (e3 ++ e3 ++ e3 ++ e3 ++ e3 ++ e3) [] (nl p (.sint .i64 4)) [(25, k57n)]⟩
def Tm0bo (p : Nat) : Tm := ⟨133, tp p, 26, pl (.sint .i64 0) (.int .i64 0) [] (.sl 25 0 0 1) 0 (.nils) (e3 ++ e3 ++ e3 ++ e3 ++ e3 ++ e3) [] (nl p (.sint .i64 4)) [(25, k57n)]⟩
def Tm0za (p : Nat) : Tm := ⟨133, tp p, 26, pl (.int .i64 0) (.sint .i64 3) [] (.nils) 0 (.nils) (e3 ++ e3 ++ e3 ++ e3 ++ e3 ++ e3) [] (nl p (.sint .i64 4)) []⟩
def Tm0zbm (p : Nat) : Tm := ⟨133, tp p, 26, pl (.int .i64 0) (.sint .i64 3) [(.str TcK1ab9, .int .i64 60)] (.sl 25 0 0 1) 0 (.nils) (e3 ++ e3 ++ e3 ++ e3 ++ e3 ++ e3) [] (nl p (.sint .i64 4)) [(25, k57n)]⟩
def Tm0zao (p : Nat) : Tm := ⟨133, tp p, 26, pl (.int .i64 0) (.int .i64 0) [] (.nils) 0 (.nils) (e3 ++ e3 ++ e3 ++ e3 ++ e3 ++ e3) [] (nl p (.sint .i64 4)) []⟩
def Tm0zbo (p : Nat) : Tm := ⟨133, tp p, 26, pl (.int .i64 0) (.int .i64 0) [] (.sl 25 0 0 1) 0 (.nils) (e3 ++ e3 ++ e3 ++ e3 ++ e3 ++ e3) [] (nl p (.sint .i64 4)) [(25, k57n)]⟩
def Tm0zb (p : Nat) : Tm := ⟨133, tp p, 26, pl (.int .i64 0) (.sint .i64 3) [] (.sl 25 0 0 1) 0 (.nils) (e3 ++ e3 ++ e3 ++ e3 ++ e3 ++ e3) [] (nl p (.sint .i64 4)) [(25, k57n)]⟩
def Tm0ze (p : Nat) : Tm := ⟨133, tp p, 26, pl (.int .i64 0) (.sint .i64 3) [] (.sl 25 0 0 1) 1 (.sl 23 0 1 1) (e3 ++ [.bool true, .str TcK1ab9, .sint .i64 1] ++ e3 ++ e3 ++ e3 ++ e3) [(.str TcK1ab9, .ptr 24 0)] (nl p (.sint .i64 4)) [(23, k88n), (24, k17n), (25, k57n)]⟩
def Tm0zem (p : Nat) : Tm := ⟨133, tp p, 26, pl (.int .i64 0) (.sint .i64 3) [(.str TcK1ab9, .int .i64 60)] (.sl 25 0 0 1) 1 (.sl 23 0 1 1) (e3 ++ [.bool true, .str TcK1ab9, .sint .i64 1] ++ e3 ++ e3 ++ e3 ++ e3) [(.str TcK1ab9, .ptr 24 0)] (nl p (.sint .i64 4)) [(23, k88n), (24, k17n), (25, k57n)]⟩
def Tm0zeo (p : Nat) : Tm := ⟨133, tp p, 26, pl (.int .i64 0) (.int .i64 0) [] (.sl 25 0 0 1) 1 (.sl 23 0 1 1) (e3 ++ [.bool true, .str TcK1ab9, .sint .i64 1] ++ e3 ++ e3 ++ e3 ++ e3) [(.str TcK1ab9, .ptr 24 0)] (nl p (.sint .i64 4)) [(23, k88n), (24, k17n), (25, k57n)]⟩
def Tm1dk (p : Nat) : Tm := ⟨133, tp p, 26, pl (.sint .i64 0) (.sint .i64 3) [(.str TcK1ab9, .int .i64 60)] (.sl 25 0 0 1) 0 (.sl 23 0 0 1) (e3 ++ e3 ++ e3 ++ e3 ++ e3 ++ e3) [] (nl p (.sint .i64 4)) [(23, k57n), (25, k57n)]⟩
def Tm1ek (p : Nat) : Tm := ⟨133, tp p, 26, pl (.sint .i64 0) (.sint .i64 3) [(.str TcK1ab9, .int .i64 60)] (.sl 25 0 0 1) 1 (.sl 23 0 1 1) ([.bool true, .str TcK058b, .sint .i64 1] ++ e3 ++ e3 ++ e3 ++ e3 ++ e3) [(.str TcK058b, .ptr 24 0)] (nl p (.sint .i64 4)) [(23, k88n), (24, k16n), (25, k57n)]⟩
def Tm1do (p : Nat) : Tm := ⟨133, tp p, 26, pl (.sint .i64 0) (.int .i64 0) [] (.sl 25 0 0 1) 0 (.sl 23 0 0 1) (e3 ++ e3 ++ e3 ++ e3 ++ e3 ++ e3) [] (nl p (.sint .i64 4)) [(23, k57n), (25, k57n)]⟩
def Tm1eo (p : Nat) : Tm := ⟨133, tp p, 26, pl (.sint .i64 0) (.int .i64 0) [] (.sl 25 0 0 1) 1 (.sl 23 0 1 1) ([.bool true, .str TcK058b, .sint .i64 1] ++ e3 ++ e3 ++ e3 ++ e3 ++ e3) [(.str TcK058b, .ptr 24 0)] (nl p (.sint .i64 4)) [(23, k88n), (24, k16n), (25, k57n)]⟩
def Tm1ekm (p : Nat) : Tm := ⟨133, tp p, 26, pl (.sint .i64 0) (.sint .i64 3) [(.str TcK1ab9, .int .i64 60), (.str TcK058b, .int .i64 120)] (.sl 25 0 0 1) 1 (.sl 23 0 1 1) ([.bool true, .str TcK058b, .sint .i64 1] ++ e3 ++ e3 ++ e3 ++ e3 ++ e3) [(.str TcK058b, .ptr 24 0)] (nl p (.sint .i64 4)) [(23, k88n), (24, k16n), (25, k57n)]⟩
def Tm1em (p : Nat) : Tm := ⟨133, tp p, 26, pl (.sint .i64 0) (.sint .i64 3) [(.str TcK058b, .int .i64 120)] (.sl 25 0 0 1) 1 (.sl 23 0 1 1) ([.bool true, .str TcK058b, .sint .i64 1] ++ e3 ++ e3 ++ e3 ++ e3 ++ e3) [(.str TcK058b, .ptr 24 0)] (nl p (.sint .i64 4)) [(23, k88n), (24, k16n), (25, k57n)]⟩
def Tm1zbk (p : Nat) : Tm := ⟨133, tp p, 26, pl (.int .i64 0) (.sint .i64 3) [(.str TcK1ab9, .int .i64 60)] (.sl 25 0 0 1) 0 (.nils) (e3 ++ e3 ++ e3 ++ e3 ++ e3 ++ e3) [] (nl p (.sint .i64 4)) [(25, k57n)]⟩
def Tm1zbkm (p : Nat) : Tm := ⟨133, tp p, 26, pl (.int .i64 0) (.sint .i64 3) [(.str TcK1ab9, .int .i64 60), (.str TcK058b, .int .i64 120)] (.sl 25 0 0 1) 0 (.nils) (e3 ++ e3 ++ e3 ++ e3 ++ e3 ++ e3) [] (nl p (.sint .i64 4)) [(25, k57n)]⟩
def Tm1zbo (p : Nat) : Tm := ⟨133, tp p, 26, pl (.int .i64 0) (.int .i64 0) [] (.sl 25 0 0 1) 0 (.nils) (e3 ++ e3 ++ e3 ++ e3 ++ e3 ++ e3) [] (nl p (.sint .i64 4)) [(25, k57n)]⟩
def Tm1zbm (p : Nat) : Tm := ⟨133, tp p, 26, pl (.int .i64 0) (.sint .i64 3) [(.str TcK058b, .int .i64 120)] (.sl 25 0 0 1) 0 (.nils) (e3 ++ e3 ++ e3 ++ e3 ++ e3 ++ e3) [] (nl p (.sint .i64 4)) [(25, k57n)]⟩
def Tm1zdk (p : Nat) : Tm := ⟨133, tp p, 26, pl (.int .i64 0) (.sint .i64 3) [(.str TcK1ab9, .int .i64 60)] (.sl 25 0 0 1) 0 (.sl 23 0 0 1) (e3 ++ e3 ++ e3 ++ e3 ++ e3 ++ e3) [] (nl p (.sint .i64 4)) [(23, k57n), (25, k57n)]⟩
def Tm1zdkm (p : Nat) : Tm := ⟨133, tp p, 26, pl (.int .i64 0) (.sint .i64 3) [(.str TcK1ab9, .int .i64 60), (.str TcK058b, .int .i64 120)] (.sl 25 0 0 1) 0 (.sl 23 0 0 1) (e3 ++ e3 ++ e3 ++ e3 ++ e3 ++ e3) [] (nl p (.sint .i64 4)) [(23, k57n), (25, k57n)]⟩
def Tm1zdo (p : Nat) : Tm := ⟨133, tp p, 26, pl (.int .i64 0) (.int .i64 0) [] (.sl 25 0 0 1) 0 (.sl 23 0 0 1) (e3 ++ e3 ++ e3 ++ e3 ++ e3 ++ e3) [] (nl p (.sint .i64 4)) [(23, k57n), (25, k57n)]⟩
def Tm1zdm (p : Nat) : Tm := ⟨133, tp p, 26, pl (.int .i64 0) (.sint .i64 3) [(.str TcK058b, .int .i64 120)] (.sl 25 0 0 1) 0 (.sl 23 0 0 1) (e3 ++ e3 ++ e3 ++ e3 ++ e3 ++ e3) [] (nl p (.sint .i64 4)) [(23, k57n), (25, k57n)]⟩
end
end Go.Proofs.YtnpkeganpkobjaaGreatDoor.Ev
namespace Go.Proofs.YtnpkeganpkobjaaGreatDoor.Ev
set_option maxRecDepth 100000
open Go Go.RowKit
variable {W0 : World}
noncomputable section
def codeOf (f : Nat) : Code := match fnT f with | some e => e.code | none => .skip
def preC : Code := match codeOf 4 with | .seq _ (.seq _ (.seq r3 (.seq x4 (.seq r6 _)))) => .seq r3 (.seq x4 r6) | _ => .skip
def app : Code → Code → Code
  | .seq a b, r => .seq a (app b r)
  | c, r => .seq c r
theorem exec_app {E : Env} {σ : Nat → Int} {call : Call} {D : List Deferred} (hE : EnvOk E σ) (hc : CallOk E σ call) : ∀ (c : Code) (n : Nat) (f : F) (s : St) (o : Out) (f' : F) (s' : St), exec E call n c f s = some (o, f', s') → ∀ (ρ : Rho) (W : World) (a : Act) (Q : Exit → Act → World → Prop) (r : Code), Sim σ ρ s W → FR σ ρ f a → DOK E D a.defers →
    (∀ ρ' W' a', Stp σ ρ s W ρ' s' W' → FR σ ρ' f' a' → DOK E D a'.defers → Exit.then (r.wp E.P Q) Q (toExit o) a' W') → (app c r).wp E.P Q a W := by
  intro c
  induction c with
  | seq x y ihx ihy =>
    intro n f s o f' s' h ρ W a Q r hs hf hd hQ
    cases n with
    | zero => cases h
    | succ n =>
      rw [exec_succ] at h
      have h : then? (exec E call n y) (exec E call n x f s) = some (o, f', s') := h
      show (Code.seq x (app y r)).wp E.P Q a W
      rcases then_some h with ⟨f1, s1, h1, h2⟩ | ⟨h1, h2⟩
      · exact wp_seq (exec_wp hE hc n x f s .norm f1 s1 h1 ρ W a (Exit.then ((app y r).wp E.P Q) Q) hs hf hd (fun ρ1 W1 a1 k1 k2 k3 => ihy n f1 s1 o f' s' h2 ρ1 W1 a1 Q r k1.sim k2 k3 (fun ρ2 W2 a2 j1 j2 j3 => hQ ρ2 W2 a2 (k1.trans j1) j2 j3))).1
      · refine wp_seq (exec_wp hE hc n x f s o f' s' h1 ρ W a (Exit.then ((app y r).wp E.P Q) Q) hs hf hd (fun ρ1 W1 a1 k1 k2 k3 => ?_)).1
        have := hQ ρ1 W1 a1 k1 k2 k3
        cases o with
        | norm => exact absurd rfl h2
        | exit id => exact this
        | ret => exact this
  | _ =>
    intro n f s o f' s' h ρ W a Q r hs hf hd hQ
    exact wp_seq (exec_wp hE hc n _ f s o f' s' h ρ W a (Exit.then (r.wp E.P Q) Q) hs hf hd hQ).1
theorem pc_app {F : Facts} {l : List Int} (hF : F.Ok l) {us : List Use} {ps : List Pur} (hu : ∀ u ∈ us, u.e.Ok Tryz.prog (sgn (sgl l) (qf u.Q))) (hp : ∀ e ∈ ps, DoesP (env F.sg) (sgl l) e) {c r : Code} {e : Pc} {k : Nat}
    (h : pcOk e (exec (env F.sg) (callS F us ps) k c (fr e.n e.f0) (mkSt e.h0 e.n0)) = true) {P : List Nat} {Q : List Nm} {t t' : Tm} (ht : partOk e t = true) (hq : pickOk (e.full t) P Q t' = true) (ho : e.o = .norm)
    {ρ : Rho} {a : Act} {W : World} {R : Exit → Act → World → Prop} (ha : t.At W0 (sgl l) ρ a W)
    (hR : ∀ ρ' a' W', t'.At W0 (sgl (Q.map (Nm.val (sgl l)))) ρ' a' W' → r.wp Tryz.prog R a' W') : (app c r).wp Tryz.prog R a W := by
  obtain ⟨s1, s2, s3⟩ := part_sim ht ha
  cases hx : exec (env F.sg) (callS F us ps) k c (fr e.n e.f0) (mkSt e.h0 e.n0) with
  | none => rw [hx] at h; cases h
  | some g =>
    rw [hx] at h
    obtain ⟨o, f', st⟩ := g
    simp only [pcOk, Bool.and_eq_true, Nat.beq_eq] at h
    obtain ⟨⟨⟨⟨⟨h1, h2⟩, h3⟩, h4⟩, h5⟩, h6⟩ := h
    have h1 := outEq_sound h1
    rw [Nat.blt_eq] at h6
    obtain ⟨w, hw⟩ := Option.isSome_iff_exists.1 h5
    subst h1
    rw [ho] at hx
    refine exec_app (E := env F.sg) (D := []) (env_ok _ _ (Facts.sgOk hF)) (callS_ok hF hu hp) c k _ _ _ _ _ hx ρ W a R r s1 (fr_FR s2 s3) ha.dfr ?_
    intro ρ' W' a' k1 k2 k3
    exact hR _ _ _ (part_post ht hq ha ⟨k1, h3, has_sound h4, fun x hx => (k2 x.1 x.2 (tmpsAre_get h2 x hx)).2, by have := (k2 _ _ hw).1; omega⟩ k3)
theorem pc_tiny {F : Facts} {l : List Int} (hF : F.Ok l) {c : Code} {e : Pc} {k : Nat} (h : (pcOk e (exec (env F.sg) (callS F [] []) k c (fr e.n e.f0) (mkSt e.h0 e.n0)) && (Nat.beq e.n1 e.n0 && Nat.beq (llen e.h0) 0)) = true)
    {t : Tm} (hn : t.n = e.n) (hm : t.n0 = e.n0) (hf : t.f0 = e.f0) {ρ : Rho} {a : Act} {W : World} {R : Exit → Act → World → Prop} (ha : t.At W0 (sgl l) ρ a W)
    (hR : ∀ ρ' a' W', (⟨e.n, e.f1, t.n0, t.h0⟩ : Tm).At W0 (sgl l) ρ' a' W' → R (toExit e.o) a' W') : c.wp Tryz.prog R a W := by
  rw [Bool.and_eq_true (pcOk _ _), Bool.and_eq_true (Nat.beq _ _), Nat.beq_eq, Nat.beq_eq, llen_eq] at h
  obtain ⟨h, g1, g2⟩ := h
  have g2 : e.h0 = [] := List.length_eq_zero_iff.1 g2
  have hs := ha.sim
  have hnone : ∀ id, (mkSt e.h0 e.n0).heap.get id = none := by rw [g2]; intro id; rfl
  have hs0 : Sim (sgl l) ρ (mkSt e.h0 e.n0) W := ⟨(fun id b hb => by rw [hnone] at hb; cases hb), (fun i j b n m hi => by rw [hnone] at hi; cases hi), fun i hi => hs.dom i (by have hi : e.n0 ≤ i := hi; show t.n0 ≤ i; omega), hs.old⟩
  refine pc_wp (E := env F.sg) (D := []) (env_ok _ _ (Facts.sgOk hF)) (callS_ok hF (fun u hu => by cases hu) (fun u hu => by cases hu)) h hs0 (by have := ha.size; omega) (fun x hx => ha.tmps x (by rw [hf]; exact hx)) ha.dfr (fun ρ' s1 W' a' hpost hd => ?_)
  obtain ⟨kk, hn1, hh, hf1, hz⟩ := hpost
  have hmono := kk.mono hs0
  refine hR ρ' a' W' ⟨⟨fun id b hb => ?_, fun i j b n m hi hj ri rj => ?_, fun i hi => kk.sim.dom i (by have hi : t.n0 ≤ i := hi; rw [hn1]; omega), kk.sim.old⟩, hz, hf1, hd, fun id b n hid hr => ?_, (kk.kp ha.kept (fun id b n hid => by rw [hnone] at hid; cases hid)).1⟩
  · obtain ⟨bb, n, o, k1, k2, k3⟩ := hs.blk id b hb
    refine ⟨bb, n, o, hmono _ _ k1, ?_, OR.mono hmono k3⟩
    rw [kk.frame bb (hs.old _ _ _ k1) (fun id' n' hid => by rw [hnone] at hid; cases hid), k2]
  · have q : ∀ i b n, ((mkSt t.h0 t.n0).heap.get i).isSome → ρ' i = some (b, n) → ρ i = some (b, n) := by
      intro i b n hi hr
      have hlt : i < t.n0 := hs.lt hi
      rw [kk.ext i (by show i < e.n0; omega)] at hr
      exact hr
    exact hs.inj i j b n m hi hj (q i b n hi ri) (q j b m hj rj)
  · have hlt : id < t.n0 := hs.lt hid
    rw [kk.ext id (by show id < e.n0; omega)] at hr
    exact ha.off id b n hid hr
def Tm.ren (Q : List Nm) (t : Tm) : Tm := ⟨t.n, t.f0.map fun x => (x.1, Ev.ren id (qf Q) x.2), t.n0, t.h0.map fun x => (x.1, renB id (qf Q) x.2)⟩
theorem Tm.At.ren {t : Tm} {l : List Int} {Q : List Nm} {ρ : Rho} {a : Act} {W : World} (h : t.At W0 (sgl (Q.map (Nm.val (sgl l)))) ρ a W) (hq : has (mkH t.h0 .e) t.h0 = true) : (t.ren Q).At W0 (sgl l) ρ a W := by
  rw [← sgn_qf] at h
  have q5 := has_sound hq
  have hg : ∀ i b, (mkSt (t.ren Q).h0 (t.ren Q).n0).heap.get i = some b → ∃ c, (mkSt t.h0 t.n0).heap.get i = some c ∧ renB id (qf Q) c = b := by
    intro i b hb
    have := mkSt_get hb
    simp only [Tm.ren, List.mem_map] at this
    obtain ⟨x, x1, x2⟩ := this
    cases x2
    exact ⟨x.2, q5 _ x1, rfl⟩
  have hl : ∀ i, ((mkSt (t.ren Q).h0 (t.ren Q).n0).heap.get i).isSome → ((mkSt t.h0 t.n0).heap.get i).isSome := by
    intro i hi
    obtain ⟨b, hb⟩ := Option.isSome_iff_exists.1 hi
    obtain ⟨c, hc, _⟩ := hg i b hb
    rw [hc]; rfl
  refine ⟨⟨fun i b hb => ?_, fun i j b n m hi hj => h.sim.inj i j b n m (hl i hi) (hl j hj), h.sim.dom, h.sim.old⟩, h.size, fun x hx => ?_, h.dfr, fun i b n hi hr => h.off i b n (hl i hi) hr, h.kept⟩
  · obtain ⟨c, hc, rfl⟩ := hg i b hb
    obtain ⟨bb, n, o, k1, k2, k3⟩ := h.sim.blk i c hc
    exact ⟨bb, n, o, k1, k2, OR_ren.2 k3⟩
  · simp only [Tm.ren, List.mem_map] at hx
    obtain ⟨y, y1, rfl⟩ := hx
    exact (VR_ren _ _).2 (h.tmps _ y1)
def cutH (i : Nat) (h : T B) : List (Nat × B) → Bool
  | [] => true
  | x :: l => (match Nat.beq x.1 i with | true => bEq x.2 (.cells []) && (match h.get x.1 with | some (.cells _) => true | _ => false) | false => oEq (h.get x.1) (some x.2)) && cutH i h l
theorem cutH_mem {i : Nat} {h : T B} : ∀ {l : List (Nat × B)}, cutH i h l = true → ∀ x ∈ l, (x.2 = .cells [] ∧ ∃ r, h.get x.1 = some (.cells r)) ∨ h.get x.1 = some x.2 := by
  intro l
  induction l with
  | nil => intro _ x hx; simp at hx
  | cons y l ih =>
    intro h x hx
    simp only [cutH, Bool.and_eq_true] at h
    simp only [List.mem_cons] at hx
    rcases hx with rfl | hx
    · have h1 := h.1
      split at h1
      · rw [Bool.and_eq_true] at h1
        refine .inl ⟨bEq_sound h1.1, ?_⟩
        have h2 := h1.2
        split at h2
        · rename_i r e; exact ⟨r, e⟩
        · cases h2
      · exact .inr (oEq_sound h1)
    · exact ih h.2 x hx
theorem Tm.At.cut {t t' : Tm} {σ : Nat → Int} {ρ : Rho} {a : Act} {W : World} (i : Nat) (h : t'.At W0 σ ρ a W)
    (hq : (Nat.beq t.n t'.n && (Nat.beq t.n0 t'.n0 && (cutH i (mkH t'.h0 .e) t.h0 && inF t.f0 t'.f0))) = true) : t.At W0 σ ρ a W := by
  simp only [Bool.and_eq_true (Nat.beq _ _), Bool.and_eq_true (cutH _ _ _), Nat.beq_eq] at hq
  obtain ⟨q1, q2, q5, q6⟩ := hq
  have q5 := cutH_mem q5
  have hl : ∀ j, ((mkSt t.h0 t.n0).heap.get j).isSome → ((mkSt t'.h0 t'.n0).heap.get j).isSome := by
    intro j hj
    obtain ⟨b, hb⟩ := Option.isSome_iff_exists.1 hj
    rcases q5 _ (mkSt_get hb) with ⟨_, r, e⟩ | e
    · show ((mkH t'.h0 .e).get j).isSome = true; rw [e]; rfl
    · show ((mkH t'.h0 .e).get j).isSome = true; rw [e]; rfl
  refine ⟨⟨fun j b hb => ?_, fun j k b n m hi hj => h.sim.inj j k b n m (hl j hi) (hl k hj), fun j hj => h.sim.dom j (by have hj : t.n0 ≤ j := hj; show t'.n0 ≤ j; omega), h.sim.old⟩, by rw [q1]; exact h.size, fun x hx => h.tmps x (inF_mem q6 x hx), h.dfr, fun i b n hi hr => h.off i b n (hl i hi) hr, h.kept⟩
  rcases q5 _ (mkSt_get hb) with ⟨e2, r, e⟩ | e
  · simp only at e2
    subst e2
    obtain ⟨bb, n, o, k1, k2, k3⟩ := h.sim.blk j _ e
    obtain ⟨c, ty, fz, rfl, h2, h3, h4⟩ := k3
    exact ⟨bb, n, _, k1, k2, c, ty, fz, rfl, h2, fun i v hv => by simp at hv, h4⟩
  · exact h.sim.blk j b e
def Tm.out (t : Tm) : Tm := ⟨t.n, List.take 7 t.f0, t.n0, t.h0⟩
def Tm.pre (t : Tm) : Tm := ⟨t.n, List.take 6 t.f0, t.n0, t.h0⟩
end
end Go.Proofs.YtnpkeganpkobjaaGreatDoor.Ev
namespace Go.Proofs.YtnpkeganpkobjaaGreatDoor.Ev
set_option maxRecDepth 100000
set_option maxHeartbeats 4000000
open Go Go.RowKit
noncomputable section
def TcE122 : Sm := ⟨114, [.ptr 0 0, .ptr 1 0, .ptr 2 0, .sl 3 0 1 9, .int .i64 1, .sint .i64 0], 11, [(0, k12n), (1, k36n), (2, k61n), (3, k14n), (4, k40n), (5, k158n), (6, k39n), (7, .smap), (8, k0n), (9, k57n), (10, k90n)], k188n, 22, [(21, k108n), (0, k12n), (1, k36n), (2, k61n), (3, k14n), (4, k19n), (5, k242n), (6, k103n), (7, .smap), (8, k10n), (10, k236n), (17, .cells [.ptr 15 0]), (15, k16n)]⟩
def TcE122v0U : List Use := [⟨del, 19, [6, 18], [.s 0]⟩]
def TcE122v0P : List Pur := [⟨239, [.str TcK058b], .int .u64 12469190679453589782⟩, ⟨269, [k13n], .int .i64 0⟩, ⟨273, [k13n, .int .i64 0, .int .i64 1], k85n⟩]
def TcE122v0F (d0 d1 : Bool) : Facts := ⟨[(60, 119), (1, 30), (1, 30), (4602678819172646912, 4605380978949069210), (0, 29), (1, 60), (0, 30), (0, 1), (0, 1), (4611686018427387903, 4611686018427387904)], [⟨.sub, .i64, .c (4611686018427387904), .s 7, .s 9⟩, ⟨.add, .i64, .s 8, .s 7, .c (1)⟩, ⟨.quo, .i64, .s 0, .c (60), .c (1)⟩, ⟨.sub, .i64, .c (120), .s 0, .s 5⟩], [⟨.c (1), .s 2, false⟩, ⟨.c (1), .s 1, false⟩, ⟨.s 8, .c (1), d0⟩, ⟨.s 7, .c (1), d1⟩], [], [], [], [], []⟩
theorem TcE122v0R : ∀ d0 d1, Sr TcE122 (TcE122v0F d0 d1) TcE122v0U TcE122v0P = true := by intro d0 d1; cases d0 <;> cases d1 <;> kernel_rfl
theorem TcE122_ok (x0 x1 x2 x3 x4 x5 : Int) (b : Gs [(60, 119), (1, 30), (1, 30), (4602678819172646912, 4605380978949069210)] [x0, x1, x2, x3] := by simp only [Gs, and_true]; omega) (n3 : Nr x3 := by assumption) (h4 : x4 = (-1) + x2 := by omega) (h5 : x5 = (120) + (-1) * x0 := by omega) (r0 : 0 ≤ x2 ∧ x2 ≤ 30 := by omega) (r1 : (0 ≤ (0) ∧ (0) < x2) ∧ x2 ≤ 30 := by omega) (r2 : x2 ≤ (1) := by omega) (r3 : x1 ≤ (1) := by omega) (r4 : (0 : Int) ≤ x4 ∧ x4 ≤ 29 := by omega) (r5 : (1 : Int) ≤ x5 ∧ x5 ≤ 60 := by omega) : TcE122.Ok Tryz.prog (sgl [x0, x1, x2, x3, x4, x5]) := by
  have bb := b
  simp only [Gs, and_true] at bb
  obtain ⟨y6, h6⟩ := ex (Thr x2 x3)
  obtain ⟨y7, h7⟩ := ex (Jn (0) y6)
  obtain ⟨y8, h8⟩ := ex ((1) + (-1) * y7)
  obtain ⟨y9, h9⟩ := ex ((4611686018427387904) + (-1) * y7)
  have d6 := Thr_bd x2 x3
  have d7 := Jn_bd (0) y6
  exact sm_signs (F := (TcE122v0F (decide (y8 < (1))) (decide (y7 < (1))))) (us := TcE122v0U) (ps := TcE122v0P) (l := [x0, x1, x2, x3, x4, x5, y6, y7, y8, y9]) ⟨gc (gc (gc (gc (gc (gc (gc (gc (gc (gc trivial))))))))), (al (fS (4611686018427387904) y7 y9) (al (fA y8 y7 (1)) (al (fQ x0 (60) (1)) (al (fS (120) x0 x5) an)))), (al (fN (1) x2) (al (fN (1) x1) (al rfl (al rfl an)))), an, an, an, an, an⟩ (al (ue (del_ok x0)) an) (al (pz (TcE66_ok) []) (al (ck (l := .s 2) (k := 3) x2 x3) (al (jo (l := .s 2) (k := 3) (b := .c (0)) (e := .s 4) (w := .s 8) (n := .s 7) x2 x3 (0) y6 x4 y8 y7) an))) 6 (by simp) (TcE122v0R (decide (y8 < (1))) (decide (y7 < (1)))) (by kernel_rfl)
def TcE123 : Sm := ⟨114, [.ptr 0 0, .ptr 1 0, .ptr 2 0, .sl 3 0 1 9, .int .i64 1, .sint .i64 0], 12, [(0, k12n), (1, k36n), (2, k61n), (3, k14n), (4, k19n), (5, k86n), (6, k39n), (7, .smap), (8, k33n), (9, k156n), (10, k170n), (11, k16n)], k281n, 23, [(22, k107n), (0, k12n), (1, k36n), (2, k61n), (3, k14n), (4, k19n), (5, k179n), (6, k103n), (7, .smap), (8, k83n), (10, k235n), (11, k16n), (18, k239n), (16, k16n)]⟩
def TcE123v0U : List Use := [⟨del, 20, [6, 19], [.s 0]⟩]
def TcE123v0P : List Pur := [⟨239, [.str TcK058b], .int .u64 12469190679453589782⟩, ⟨269, [k13n], .int .i64 0⟩, ⟨273, [k13n, .sint .i64 4, .int .i64 1], k74n⟩]
def TcE123v0F (d0 d1 : Bool) : Facts := ⟨[(60, 119), (1, 30), (1, 30), (4602678819172646912, 4605380978949069210), (1, 30), (-30, 28), (2, 31), (1, 60), (0, 30), (0, 1), (0, 1), (4611686018427387903, 4611686018427387904)], [⟨.add, .i64, .s 4, .c (1), .s 6⟩, ⟨.sub, .i64, .c (4611686018427387904), .s 9, .s 11⟩, ⟨.add, .i64, .s 10, .s 9, .c (1)⟩, ⟨.quo, .i64, .s 0, .c (60), .c (1)⟩, ⟨.sub, .i64, .c (120), .s 0, .s 7⟩], [⟨.s 6, .s 2, false⟩, ⟨.c (1), .s 1, false⟩, ⟨.s 10, .c (1), d0⟩, ⟨.s 9, .c (1), d1⟩], [], [], [], [], []⟩
theorem TcE123v0R : ∀ d0 d1, Sr TcE123 (TcE123v0F d0 d1) TcE123v0U TcE123v0P = true := by intro d0 d1; cases d0 <;> cases d1 <;> kernel_rfl
theorem TcE123_ok (x0 x1 x2 x3 x4 x5 x6 x7 : Int) (b : Gs [(60, 119), (1, 30), (1, 30), (4602678819172646912, 4605380978949069210), (1, 30)] [x0, x1, x2, x3, x4] := by simp only [Gs, and_true]; omega) (n3 : Nr x3 := by assumption) (h5 : x5 = (-1) + x2 + (-1) * x4 := by omega) (h6 : x6 = (1) + x4 := by omega) (h7 : x7 = (120) + (-1) * x0 := by omega) (r0 : 0 ≤ x2 ∧ x2 ≤ 30 := by omega) (r1 : (0 ≤ x4 ∧ x4 < x2) ∧ x2 ≤ 30 := by omega) (r2 : x2 ≤ x6 := by omega) (r3 : x1 ≤ (1) := by omega) (r4 : (-30 : Int) ≤ x5 ∧ x5 ≤ 28 := by omega) (r5 : (2 : Int) ≤ x6 ∧ x6 ≤ 31 := by omega) (r6 : (1 : Int) ≤ x7 ∧ x7 ≤ 60 := by omega) : TcE123.Ok Tryz.prog (sgl [x0, x1, x2, x3, x4, x5, x6, x7]) := by
  have bb := b
  simp only [Gs, and_true] at bb
  obtain ⟨y8, h8⟩ := ex (Thr x2 x3)
  obtain ⟨y9, h9⟩ := ex (Jn x4 y8)
  obtain ⟨y10, h10⟩ := ex ((1) + (-1) * y9)
  obtain ⟨y11, h11⟩ := ex ((4611686018427387904) + (-1) * y9)
  have d8 := Thr_bd x2 x3
  have d9 := Jn_bd x4 y8
  exact sm_signs (F := (TcE123v0F (decide (y10 < (1))) (decide (y9 < (1))))) (us := TcE123v0U) (ps := TcE123v0P) (l := [x0, x1, x2, x3, x4, x5, x6, x7, y8, y9, y10, y11]) ⟨gc (gc (gc (gc (gc (gc (gc (gc (gc (gc (gc (gc trivial))))))))))), (al (fA x4 (1) x6) (al (fS (4611686018427387904) y9 y11) (al (fA y10 y9 (1)) (al (fQ x0 (60) (1)) (al (fS (120) x0 x7) an))))), (al (fN x6 x2) (al (fN (1) x1) (al rfl (al rfl an)))), an, an, an, an, an⟩ (al (ue (del_ok x0)) an) (al (pz (TcE66_ok) []) (al (ck (l := .s 2) (k := 3) x2 x3) (al (jo (l := .s 2) (k := 3) (b := .s 4) (e := .s 5) (w := .s 10) (n := .s 9) x2 x3 x4 y8 x5 y10 y9) an))) 8 (by simp) (TcE123v0R (decide (y10 < (1))) (decide (y9 < (1)))) (by kernel_rfl)
def TcE124H : List (Nat × B) := [(0, k12n), (1, k36n), (2, k61n), (3, k31n), (4, k40n), (5, k165n), (6, k39n), (7, .smap), (8, k0n), (9, k90n)]
def TcE124 : Sm := ⟨114, [.ptr 0 0, .ptr 1 0, .ptr 2 0, .sl 3 0 1 9, .int .i64 1, .sint .i64 0], 10, TcE124H, k169n, 18, upd TcE124H [(6, k103n)] ++ [(17, k48n)]⟩
def TcE124v0U : List Use := [⟨del, 15, [6, 14], [.s 0]⟩]
def TcE124v0P : List Pur := [⟨269, [k43n], .int .i64 0⟩]
def TcE124v0F : Facts := ⟨[(60, 119), (1, 30), (4602678819172646912, 4605380978949069210), (1, 60)], [⟨.quo, .i64, .s 0, .c (60), .c (1)⟩, ⟨.sub, .i64, .c (120), .s 0, .s 3⟩], [⟨.c (1), .s 1, false⟩], [], [], [], [], []⟩
theorem TcE124v0R : Sr TcE124 TcE124v0F TcE124v0U TcE124v0P = true := by kernel_rfl
theorem TcE124_ok (x0 x1 x2 x3 : Int) (b : Gs [(60, 119), (1, 30), (4602678819172646912, 4605380978949069210)] [x0, x1, x2] := by simp only [Gs, and_true]; omega) (n2 : Nr x2 := by assumption) (h3 : x3 = (120) + (-1) * x0 := by omega) (r0 : x1 ≤ (1) := by omega) (r1 : (1 : Int) ≤ x3 ∧ x3 ≤ 60 := by omega) : TcE124.Ok Tryz.prog (sgl [x0, x1, x2, x3]) := by
  have bb := b
  simp only [Gs, and_true] at bb
  exact sm_signs (F := TcE124v0F) (us := TcE124v0U) (ps := TcE124v0P) (l := [x0, x1, x2, x3]) ⟨gc (gc (gc (gc trivial))), (al (fQ x0 (60) (1)) (al (fS (120) x0 x3) an)), (al (fN (1) x1) an), an, an, an, an, an⟩ (al (ue (del_ok x0)) an) (al (ck (l := .c (0)) (k := 2) (0) x2) an) 4 (by simp) TcE124v0R (by kernel_rfl)
def TcE125H : List (Nat × B) := [(0, k12n), (1, k36n), (2, k61n), (3, k31n), (4, k40n), (5, k158n), (6, k39n), (7, .smap), (8, k0n), (9, k57n), (10, k90n)]
def TcE125 : Sm := ⟨114, [.ptr 0 0, .ptr 1 0, .ptr 2 0, .sl 3 0 1 9, .int .i64 1, .sint .i64 0], 11, TcE125H, k168n, 19, upd TcE125H [(6, k103n)] ++ [(18, k48n)]⟩
def TcE125v0U : List Use := [⟨del, 16, [6, 15], [.s 0]⟩]
def TcE125v0P : List Pur := [⟨269, [k43n], .int .i64 0⟩]
def TcE125v0F : Facts := ⟨[(60, 119), (1, 30), (4602678819172646912, 4605380978949069210), (1, 60)], [⟨.quo, .i64, .s 0, .c (60), .c (1)⟩, ⟨.sub, .i64, .c (120), .s 0, .s 3⟩], [⟨.c (1), .s 1, false⟩], [], [], [], [], []⟩
theorem TcE125v0R : Sr TcE125 TcE125v0F TcE125v0U TcE125v0P = true := by kernel_rfl
theorem TcE125_ok (x0 x1 x2 x3 : Int) (b : Gs [(60, 119), (1, 30), (4602678819172646912, 4605380978949069210)] [x0, x1, x2] := by simp only [Gs, and_true]; omega) (n2 : Nr x2 := by assumption) (h3 : x3 = (120) + (-1) * x0 := by omega) (r0 : x1 ≤ (1) := by omega) (r1 : (1 : Int) ≤ x3 ∧ x3 ≤ 60 := by omega) : TcE125.Ok Tryz.prog (sgl [x0, x1, x2, x3]) := by
  have bb := b
  simp only [Gs, and_true] at bb
  exact sm_signs (F := TcE125v0F) (us := TcE125v0U) (ps := TcE125v0P) (l := [x0, x1, x2, x3]) ⟨gc (gc (gc (gc trivial))), (al (fQ x0 (60) (1)) (al (fS (120) x0 x3) an)), (al (fN (1) x1) an), an, an, an, an, an⟩ (al (ue (del_ok x0)) an) (al (ck (l := .c (0)) (k := 2) (0) x2) an) 4 (by simp) TcE125v0R (by kernel_rfl)
end
end Go.Proofs.YtnpkeganpkobjaaGreatDoor.Ev
