import Derived.Test.YtnpkeganpkobjaaGreatDoorCK
import Derived.Test.YtnpkeganpkobjaaGreatDoorCA
set_option linter.all false
namespace Go.Proofs.YtnpkeganpkobjaaGreatDoor.Ev
set_option maxRecDepth 100000
set_option maxHeartbeats 4000000
open Go Go.RowKit
noncomputable section
def TcE34 : Sm := ⟨85, [k55n], 2, [(0, k45n), (1, k51n)], k275n, 73, [(72, .typ false 5 (u8s TcKa57c)), (0, k45n), (1, k51n)]⟩
def TcE34v0P : List Pur := [⟨184, [k230n], .bool true⟩, ⟨184, [k105n], .bool true⟩, ⟨184, [.agg [.str TcK66a8, k292n]], .bool true⟩, ⟨184, [k261n], .bool true⟩]
def TcE34v0F : Facts := ⟨[(0, 59), (1, 30), (1, 60), (48, 57), (48, 57), (48, 57), (48, 57), (48, 57), (48, 57), (48, 57)], [], [], [], [], [], [], []⟩
theorem TcE34v0R : Sr TcE34 TcE34v0F [] TcE34v0P = true := by kernel_rfl
theorem TcE34_ok (x0 x1 x2 x3 x4 x5 x6 x7 x8 x9 : Int) (b : Gs [(0, 59), (1, 30), (1, 60), (48, 57), (48, 57), (48, 57), (48, 57), (48, 57), (48, 57), (48, 57)] [x0, x1, x2, x3, x4, x5, x6, x7, x8, x9] := by simp only [Gs, and_true]; omega) : TcE34.Ok Tryz.prog (sgl [x0, x1, x2, x3, x4, x5, x6, x7, x8, x9]) := by
  have bb := b
  simp only [Gs, and_true] at bb
  exact sm_signs (F := TcE34v0F) (us := []) (ps := TcE34v0P) (l := [x0, x1, x2, x3, x4, x5, x6, x7, x8, x9]) ⟨b, an, an, an, an, an, an, an⟩ an (al (pz (TcE32_ok x3) [.s 3]) (al (pz (TcE33_ok) []) (al (pz (TcE18_ok x4 x5) k245n) (al (pz (TcE20_ok x6 x7 x8 x9) k194n) an)))) 10 (by simp) TcE34v0R (by kernel_rfl)
def TcE35 (n : Nat) : Sm := ⟨102, [.str TcK4fbe], 0, [], .bool true, n, []⟩
def TcE35v0F : Facts := ⟨[(48, 57)], [], [], [], [], [], [], []⟩
theorem TcE35v0R : ∃ n, smOk (TcE35 n) (callS TcE35v0F [] [] 102 [.str TcK4fbe] (mkSt [] 0)) = true := by
  exact ⟨match (callS TcE35v0F [] [] 102 [.str TcK4fbe] (mkSt [] 0)) with | some r => r.2.next | none => 0, by kernel_rfl⟩
theorem TcE35_ok (x0 : Int) (b : Gs [(48, 57)] [x0] := by simp only [Gs, and_true]; omega) : ∃ n, (TcE35 n).Ok Tryz.prog (sgl [x0]) := by
  have bb := b
  simp only [Gs, and_true] at bb
  obtain ⟨n, hn⟩ := TcE35v0R
  exact ⟨n, sm_signs (F := TcE35v0F) (us := []) (ps := []) (l := [x0]) ⟨b, an, an, an, an, an, an, an⟩ an an 1 (by simp) hn (by kernel_rfl)⟩
def TcE36 (n : Nat) : Sm := ⟨102, [k180n], 0, [], .bool true, n, []⟩
theorem TcE36_ok : ∃ n, (TcE36 n).Ok Tryz.prog (sgl []) := pe
def TcE37 : Sm := ⟨38, [.sl 0 0 107 1], 1, [(0, .cells (u8s TcKa57c))], k41n, 15, [(14, k51n), (6, k45n), (0, .cells (u8s TcKa57c))]⟩
def TcE37v0P : List Pur := [⟨81, [.str TcKb987], .bool true⟩, ⟨102, [.str TcK2e14], .bool true⟩, ⟨81, [.str TcK6d81], .bool true⟩, ⟨102, [k180n], .bool true⟩, ⟨81, [.str TcK66a8], .bool true⟩, ⟨102, [k292n], .bool true⟩, ⟨81, [.str TcK8148], .bool true⟩, ⟨102, [k117n], .bool true⟩]
def TcE37v0F (d0 : Bool) : Facts := ⟨[(0, 59), (1, 30), (1, 60), (48, 57), (48, 57), (48, 57), (48, 57), (48, 57), (48, 57), (48, 57)], t3 0 (t3 1 (t3 2 ([]))), [], [⟨.s 0, .c (0), d0⟩], [], [], [], []⟩
theorem TcE37v0R : ∀ d0, Sr TcE37 (TcE37v0F d0) [] TcE37v0P = true := by intro d0; cases d0 <;> kernel_rfl
theorem TcE37_ok (x0 x1 x2 x3 x4 x5 x6 x7 x8 x9 : Int) (b : Gs [(0, 59), (1, 30), (1, 60), (48, 57), (48, 57), (48, 57), (48, 57), (48, 57), (48, 57), (48, 57)] [x0, x1, x2, x3, x4, x5, x6, x7, x8, x9] := by simp only [Gs, and_true]; omega) : TcE37.Ok Tryz.prog (sgl [x0, x1, x2, x3, x4, x5, x6, x7, x8, x9]) := by
  have bb := b
  simp only [Gs, and_true] at bb
  exact sm_signs (F := (TcE37v0F (decide (x0 = (0))))) (us := []) (ps := TcE37v0P) (l := [x0, x1, x2, x3, x4, x5, x6, x7, x8, x9]) ⟨b, (a3 x0 (a3 x1 (a3 x2 an))), an, (al rfl an), an, an, an, an⟩ an (al (pz (TcE22_ok) []) (al (pz (TcE35_ok x3) [.s 3]) (al (pz (TcE24_ok) []) (al (pz (TcE36_ok) []) (al (pz (TcE26_ok) []) (al (pz (TcE25_ok x4 x5) k245n) (al (pz (TcE27_ok) []) (al (pz (TcE28_ok x6 x7 x8 x9) k194n) an)))))))) 10 (by simp) (TcE37v0R (decide (x0 = (0)))) (by kernel_rfl)
def TcE38H : List (Nat × B) := [(0, k12n), (1, k110n), (2, k61n), (3, k94n), (4, k40n), (5, k165n), (6, k90n), (7, .smap), (8, k0n), (9, k90n)]
def TcE38 : Sm := ⟨114, [.ptr 0 0, .ptr 1 0, .ptr 2 0, .sl 3 0 1 9, .int .i64 1, .sint .i64 0], 10, TcE38H, .tup [.sl 19 0 1 5, .int .i64 1], 20, upd TcE38H [(4, k19n), (5, k301n), (8, k11n), (9, k284n)] ++ [(19, k251n), (16, .cells [.ptr 14 0]), (14, k17n)]⟩
def TcE38v0P : List Pur := [⟨239, [.str TcK1ab9], .int .u64 12469191778965217993⟩, ⟨269, [k75n], .int .i64 0⟩, ⟨273, [k75n, .int .i64 0, .int .i64 1], k214n⟩]
def TcE38v0F (d0 d1 : Bool) : Facts := ⟨[(0, 59), (1, 30), (4602678819172646912, 4605380978949069210), (0, 29), (1, 60), (0, 30), (0, 1), (0, 1), (4611686018427387903, 4611686018427387904)], [⟨.sub, .i64, .c (4611686018427387904), .s 6, .s 8⟩, ⟨.add, .i64, .s 7, .s 6, .c (1)⟩, ⟨.quo, .i64, .s 0, .c (60), .c (0)⟩, ⟨.sub, .i64, .c (60), .s 0, .s 4⟩], [⟨.c (1), .s 1, false⟩, ⟨.s 7, .c (1), d0⟩, ⟨.s 6, .c (1), d1⟩], [], [], [], [], []⟩
theorem TcE38v0R : ∀ d0 d1, Sr TcE38 (TcE38v0F d0 d1) [] TcE38v0P = true := by intro d0 d1; cases d0 <;> cases d1 <;> kernel_rfl
theorem TcE38_ok (x0 x1 x2 x3 x4 : Int) (b : Gs [(0, 59), (1, 30), (4602678819172646912, 4605380978949069210)] [x0, x1, x2] := by simp only [Gs, and_true]; omega) (n2 : Nr x2 := by assumption) (h3 : x3 = (-1) + x1 := by omega) (h4 : x4 = (60) + (-1) * x0 := by omega) (r0 : 0 ≤ x1 ∧ x1 ≤ 30 := by omega) (r1 : (0 ≤ (0) ∧ (0) < x1) ∧ x1 ≤ 30 := by omega) (r2 : x1 ≤ (1) := by omega) (r3 : (0 : Int) ≤ x3 ∧ x3 ≤ 29 := by omega) (r4 : (1 : Int) ≤ x4 ∧ x4 ≤ 60 := by omega) : TcE38.Ok Tryz.prog (sgl [x0, x1, x2, x3, x4]) := by
  have bb := b
  simp only [Gs, and_true] at bb
  obtain ⟨y5, h5⟩ := ex (Thr x1 x2)
  obtain ⟨y6, h6⟩ := ex (Jn (0) y5)
  obtain ⟨y7, h7⟩ := ex ((1) + (-1) * y6)
  obtain ⟨y8, h8⟩ := ex ((4611686018427387904) + (-1) * y6)
  have d5 := Thr_bd x1 x2
  have d6 := Jn_bd (0) y5
  exact sm_signs (F := (TcE38v0F (decide (y7 < (1))) (decide (y6 < (1))))) (us := []) (ps := TcE38v0P) (l := [x0, x1, x2, x3, x4, y5, y6, y7, y8]) ⟨gc (gc (gc (gc (gc (gc (gc (gc (gc trivial)))))))), (al (fS (4611686018427387904) y6 y8) (al (fA y7 y6 (1)) (al (fQ x0 (60) (0)) (al (fS (60) x0 x4) an)))), (al (fN (1) x1) (al rfl (al rfl an))), an, an, an, an, an⟩ an (al (pz (TcE10_ok) []) (al (ck (l := .s 1) (k := 2) x1 x2) (al (jo (l := .s 1) (k := 2) (b := .c (0)) (e := .s 3) (w := .s 7) (n := .s 6) x1 x2 (0) y5 x3 y7 y6) an))) 5 (by simp) (TcE38v0R (decide (y7 < (1))) (decide (y6 < (1)))) (by kernel_rfl)
def TcE39 : Sm := ⟨114, [.ptr 0 0, .ptr 1 0, .ptr 2 0, .sl 3 0 1 9, .int .i64 1, .sint .i64 0], 12, [(0, k12n), (1, k36n), (2, k61n), (3, k30n), (4, k19n), (5, k86n), (6, k90n), (7, .smap), (8, k76n), (9, k156n), (10, k136n), (11, k17n)], k188n, 22, [(21, k107n), (0, k12n), (1, k36n), (2, k61n), (3, k30n), (4, k19n), (5, k179n), (6, k90n), (7, .smap), (8, k150n), (10, k283n), (11, k17n), (18, k239n), (16, k17n)]⟩
def TcE39v0P : List Pur := [⟨239, [.str TcK1ab9], .int .u64 12469191778965217993⟩, ⟨269, [k13n], .int .i64 0⟩, ⟨273, [k13n, .sint .i64 4, .int .i64 1], k74n⟩]
def TcE39v0F (d0 d1 : Bool) : Facts := ⟨[(0, 59), (0, 30), (1, 30), (4602678819172646912, 4605380978949069210), (1, 30), (-30, 28), (2, 31), (1, 60), (0, 30), (0, 1), (0, 1), (4611686018427387903, 4611686018427387904)], [⟨.add, .i64, .s 4, .c (1), .s 6⟩, ⟨.sub, .i64, .c (4611686018427387904), .s 9, .s 11⟩, ⟨.add, .i64, .s 10, .s 9, .c (1)⟩, ⟨.quo, .i64, .s 0, .c (60), .c (0)⟩, ⟨.sub, .i64, .c (60), .s 0, .s 7⟩], [⟨.s 6, .s 2, true⟩, ⟨.s 10, .c (1), d0⟩, ⟨.s 9, .c (1), d1⟩], [], [], [], [], []⟩
theorem TcE39v0R : ∀ d0 d1, Sr TcE39 (TcE39v0F d0 d1) [] TcE39v0P = true := by intro d0 d1; cases d0 <;> cases d1 <;> kernel_rfl
theorem TcE39_ok (x0 x1 x2 x3 x4 x5 x6 x7 : Int) (b : Gs [(0, 59), (0, 30), (1, 30), (4602678819172646912, 4605380978949069210), (1, 30)] [x0, x1, x2, x3, x4] := by simp only [Gs, and_true]; omega) (n3 : Nr x3 := by assumption) (h5 : x5 = (-1) + x2 + (-1) * x4 := by omega) (h6 : x6 = (1) + x4 := by omega) (h7 : x7 = (60) + (-1) * x0 := by omega) (r0 : 0 ≤ x2 ∧ x2 ≤ 30 := by omega) (r1 : (0 ≤ x4 ∧ x4 < x2) ∧ x2 ≤ 30 := by omega) (r2 : x6 < x2 := by omega) (r3 : (-30 : Int) ≤ x5 ∧ x5 ≤ 28 := by omega) (r4 : (2 : Int) ≤ x6 ∧ x6 ≤ 31 := by omega) (r5 : (1 : Int) ≤ x7 ∧ x7 ≤ 60 := by omega) : TcE39.Ok Tryz.prog (sgl [x0, x1, x2, x3, x4, x5, x6, x7]) := by
  have bb := b
  simp only [Gs, and_true] at bb
  obtain ⟨y8, h8⟩ := ex (Thr x2 x3)
  obtain ⟨y9, h9⟩ := ex (Jn x4 y8)
  obtain ⟨y10, h10⟩ := ex ((1) + (-1) * y9)
  obtain ⟨y11, h11⟩ := ex ((4611686018427387904) + (-1) * y9)
  have d8 := Thr_bd x2 x3
  have d9 := Jn_bd x4 y8
  exact sm_signs (F := (TcE39v0F (decide (y10 < (1))) (decide (y9 < (1))))) (us := []) (ps := TcE39v0P) (l := [x0, x1, x2, x3, x4, x5, x6, x7, y8, y9, y10, y11]) ⟨gc (gc (gc (gc (gc (gc (gc (gc (gc (gc (gc (gc trivial))))))))))), (al (fA x4 (1) x6) (al (fS (4611686018427387904) y9 y11) (al (fA y10 y9 (1)) (al (fQ x0 (60) (0)) (al (fS (60) x0 x7) an))))), (al (fT x6 x2) (al rfl (al rfl an))), an, an, an, an, an⟩ an (al (pz (TcE10_ok) []) (al (ck (l := .s 2) (k := 3) x2 x3) (al (jo (l := .s 2) (k := 3) (b := .s 4) (e := .s 5) (w := .s 10) (n := .s 9) x2 x3 x4 y8 x5 y10 y9) an))) 8 (by simp) (TcE39v0R (decide (y10 < (1))) (decide (y9 < (1)))) (by kernel_rfl)
def TcE40 : Sm := ⟨114, [.ptr 0 0, .ptr 1 0, .ptr 2 0, .sl 3 0 1 9, .int .i64 1, .sint .i64 0], 12, [(0, k12n), (1, k36n), (2, k61n), (3, k30n), (4, k19n), (5, k86n), (6, k90n), (7, .smap), (8, k76n), (9, k156n), (10, k136n), (11, k17n)], k281n, 23, [(22, k107n), (0, k12n), (1, k36n), (2, k61n), (3, k30n), (4, k19n), (5, k179n), (6, k39n), (7, .smap), (8, k150n), (10, k283n), (11, k17n), (18, k239n), (16, k17n)]⟩
def TcE40v0P : List Pur := [⟨239, [.str TcK1ab9], .int .u64 12469191778965217993⟩, ⟨269, [k13n], .int .i64 0⟩, ⟨273, [k13n, .sint .i64 4, .int .i64 1], k74n⟩]
def TcE40v0F (d0 d1 : Bool) : Facts := ⟨[(0, 59), (1, 30), (1, 30), (4602678819172646912, 4605380978949069210), (1, 30), (-30, 28), (2, 31), (1, 60), (0, 30), (0, 1), (0, 1), (4611686018427387903, 4611686018427387904)], [⟨.add, .i64, .s 4, .c (1), .s 6⟩, ⟨.sub, .i64, .c (4611686018427387904), .s 9, .s 11⟩, ⟨.add, .i64, .s 10, .s 9, .c (1)⟩, ⟨.quo, .i64, .s 0, .c (60), .c (0)⟩, ⟨.sub, .i64, .c (60), .s 0, .s 7⟩], [⟨.s 6, .s 2, false⟩, ⟨.s 10, .c (1), d0⟩, ⟨.s 9, .c (1), d1⟩], [], [], [], [], []⟩
theorem TcE40v0R : ∀ d0 d1, Sr TcE40 (TcE40v0F d0 d1) [] TcE40v0P = true := by intro d0 d1; cases d0 <;> cases d1 <;> kernel_rfl
theorem TcE40_ok (x0 x1 x2 x3 x4 x5 x6 x7 : Int) (b : Gs [(0, 59), (1, 30), (1, 30), (4602678819172646912, 4605380978949069210), (1, 30)] [x0, x1, x2, x3, x4] := by simp only [Gs, and_true]; omega) (n3 : Nr x3 := by assumption) (h5 : x5 = (-1) + x2 + (-1) * x4 := by omega) (h6 : x6 = (1) + x4 := by omega) (h7 : x7 = (60) + (-1) * x0 := by omega) (r0 : 0 ≤ x2 ∧ x2 ≤ 30 := by omega) (r1 : (0 ≤ x4 ∧ x4 < x2) ∧ x2 ≤ 30 := by omega) (r2 : x2 ≤ x6 := by omega) (r3 : (-30 : Int) ≤ x5 ∧ x5 ≤ 28 := by omega) (r4 : (2 : Int) ≤ x6 ∧ x6 ≤ 31 := by omega) (r5 : (1 : Int) ≤ x7 ∧ x7 ≤ 60 := by omega) : TcE40.Ok Tryz.prog (sgl [x0, x1, x2, x3, x4, x5, x6, x7]) := by
  have bb := b
  simp only [Gs, and_true] at bb
  obtain ⟨y8, h8⟩ := ex (Thr x2 x3)
  obtain ⟨y9, h9⟩ := ex (Jn x4 y8)
  obtain ⟨y10, h10⟩ := ex ((1) + (-1) * y9)
  obtain ⟨y11, h11⟩ := ex ((4611686018427387904) + (-1) * y9)
  have d8 := Thr_bd x2 x3
  have d9 := Jn_bd x4 y8
  exact sm_signs (F := (TcE40v0F (decide (y10 < (1))) (decide (y9 < (1))))) (us := []) (ps := TcE40v0P) (l := [x0, x1, x2, x3, x4, x5, x6, x7, y8, y9, y10, y11]) ⟨gc (gc (gc (gc (gc (gc (gc (gc (gc (gc (gc (gc trivial))))))))))), (al (fA x4 (1) x6) (al (fS (4611686018427387904) y9 y11) (al (fA y10 y9 (1)) (al (fQ x0 (60) (0)) (al (fS (60) x0 x7) an))))), (al (fN x6 x2) (al rfl (al rfl an))), an, an, an, an, an⟩ an (al (pz (TcE10_ok) []) (al (ck (l := .s 2) (k := 3) x2 x3) (al (jo (l := .s 2) (k := 3) (b := .s 4) (e := .s 5) (w := .s 10) (n := .s 9) x2 x3 x4 y8 x5 y10 y9) an))) 8 (by simp) (TcE40v0R (decide (y10 < (1))) (decide (y9 < (1)))) (by kernel_rfl)
def TcE41 : Sm := ⟨173, [.sl 0 0 1 5], 1, [(0, k65n)], .sl 5 0 4 2, 6, [(5, k211n), (0, k65n)]⟩
def TcE41v0P : List Pur := [⟨95, [.sint .i64 0], k294n⟩, ⟨95, [.sint .i64 1], k292n⟩, ⟨226, [.sint .i64 0, .sint .i64 0], .sflt 10⟩, ⟨225, [.sflt 10], k117n⟩]
def TcE41v0F : Facts := ⟨[(1, 30), (1, 60), (49, 57), (48, 57), (49, 57), (48, 57), (48, 49), (48, 57), (48, 57), (48, 57), (0, 9218868437227405312)], [⟨.sub, .i64, .s 0, .c (0), .s 0⟩], [], [], [], [], [], []⟩
theorem TcE41v0R : Sr TcE41 TcE41v0F [] TcE41v0P = true := by kernel_rfl
theorem TcE41_ok (x0 x1 x2 x3 x4 x5 x6 x7 x8 x9 : Int) (b : Gs [(1, 30), (1, 60)] [x0, x1] := by simp only [Gs, and_true]; omega) (h2 : x2 = (48) + x0 / 10 := by omega) (h3 : x3 = (48) + x0 % 10 := by omega) (h4 : x4 = (48) + x1 / 10 := by omega) (h5 : x5 = (48) + x1 % 10 := by omega) (s6 : IsSh x0 x0 x6 x7 x8 x9 := by assumption) (r0 : 10 ≤ x0 ∧ x0 ≤ 99 := by omega) (r1 : 10 ≤ x1 ∧ x1 ≤ 99 := by omega) (r2 : (0 ≤ x0 ∧ x0 ≤ x0) ∧ (1 ≤ x0 ∧ x0 ≤ 30) := by omega) : TcE41.Ok Tryz.prog (sgl [x0, x1, x2, x3, x4, x5, x6, x7, x8, x9]) := by
  have bb := b
  simp only [Gs, and_true] at bb
  obtain ⟨y10, h10⟩ := ex (shC x0 x0)
  have d6 := s6.bd
  have d10 := shC_bd x0 x0
  exact sm_signs (F := TcE41v0F) (us := []) (ps := TcE41v0P) (l := [x0, x1, x2, x3, x4, x5, x6, x7, x8, x9, y10]) ⟨gc (gc (gc (gc (gc (gc (gc (gc (gc (gc (gc trivial)))))))))), (al (fS x0 (0) x0) an), an, an, an, an, an, an⟩ an (al (pz (dg2 x0 x2 x3) [.s 0, .s 2, .s 3]) (al (pz (dg2 x1 x4 x5) [.s 1, .s 4, .s 5]) (al (pz (of0 x0 x0 y10) [.s 0, .s 0, .s 10]) (al (pz (tx0 y10 x6 x7 x8 x9 x0 x0) [.s 10, .s 6, .s 7, .s 8, .s 9]) an)))) 10 (by simp) TcE41v0R (by kernel_rfl)
def TcE42 : Sm := ⟨85, [k55n], 2, [(0, k45n), (1, k49n)], k71n, 73, [(72, .typ false 5 (u8s TcK4fd6)), (0, k45n), (1, k49n)]⟩
def TcE42v0P : List Pur := [⟨184, [k229n], .bool true⟩, ⟨184, [k105n], .bool true⟩, ⟨184, [.agg [.str TcK66a8, k223n]], .bool true⟩, ⟨184, [.agg [.str TcK8148, k166n]], .bool true⟩]
def TcE42v0F : Facts := ⟨[(0, 59), (1, 30), (1, 60), (48, 57), (48, 57), (48, 57), (48, 57), (48, 57), (48, 57), (48, 57), (48, 57)], [], [], [], [], [], [], []⟩
theorem TcE42v0R : Sr TcE42 TcE42v0F [] TcE42v0P = true := by kernel_rfl
theorem TcE42_ok (x0 x1 x2 x3 x4 x5 x6 x7 x8 x9 x10 : Int) (b : Gs [(0, 59), (1, 30), (1, 60), (48, 57), (48, 57), (48, 57), (48, 57), (48, 57), (48, 57), (48, 57), (48, 57)] [x0, x1, x2, x3, x4, x5, x6, x7, x8, x9, x10] := by simp only [Gs, and_true]; omega) : TcE42.Ok Tryz.prog (sgl [x0, x1, x2, x3, x4, x5, x6, x7, x8, x9, x10]) := by
  have bb := b
  simp only [Gs, and_true] at bb
  exact sm_signs (F := TcE42v0F) (us := []) (ps := TcE42v0P) (l := [x0, x1, x2, x3, x4, x5, x6, x7, x8, x9, x10]) ⟨b, an, an, an, an, an, an, an⟩ an (al (pz (TcE14_ok x3 x4) [.s 3, .s 4]) (al (pz (TcE33_ok) []) (al (pz (TcE18_ok x5 x6) [.s 5, .s 6]) (al (pz (TcE20_ok x7 x8 x9 x10) k221n) an)))) 11 (by simp) TcE42v0R (by kernel_rfl)
def TcE43 : Sm := ⟨38, [.sl 0 0 109 1], 1, [(0, .cells (u8s TcK4fd6))], k41n, 15, [(14, k49n), (6, k45n), (0, .cells (u8s TcK4fd6))]⟩
def TcE43v0P : List Pur := [⟨81, [.str TcKb987], .bool true⟩, ⟨102, [.str TcK4f89], .bool true⟩, ⟨81, [.str TcK6d81], .bool true⟩, ⟨102, [k180n], .bool true⟩, ⟨81, [.str TcK66a8], .bool true⟩, ⟨102, [k223n], .bool true⟩, ⟨81, [.str TcK8148], .bool true⟩, ⟨102, [k166n], .bool true⟩]
def TcE43v0F (d0 : Bool) : Facts := ⟨[(0, 59), (1, 30), (1, 60), (48, 57), (48, 57), (48, 57), (48, 57), (48, 57), (48, 57), (48, 57), (48, 57)], t3 0 (t3 1 (t3 2 ([]))), [], [⟨.s 0, .c (0), d0⟩], [], [], [], []⟩
theorem TcE43v0R : ∀ d0, Sr TcE43 (TcE43v0F d0) [] TcE43v0P = true := by intro d0; cases d0 <;> kernel_rfl
theorem TcE43_ok (x0 x1 x2 x3 x4 x5 x6 x7 x8 x9 x10 : Int) (b : Gs [(0, 59), (1, 30), (1, 60), (48, 57), (48, 57), (48, 57), (48, 57), (48, 57), (48, 57), (48, 57), (48, 57)] [x0, x1, x2, x3, x4, x5, x6, x7, x8, x9, x10] := by simp only [Gs, and_true]; omega) : TcE43.Ok Tryz.prog (sgl [x0, x1, x2, x3, x4, x5, x6, x7, x8, x9, x10]) := by
  have bb := b
  simp only [Gs, and_true] at bb
  exact sm_signs (F := (TcE43v0F (decide (x0 = (0))))) (us := []) (ps := TcE43v0P) (l := [x0, x1, x2, x3, x4, x5, x6, x7, x8, x9, x10]) ⟨b, (a3 x0 (a3 x1 (a3 x2 an))), an, (al rfl an), an, an, an, an⟩ an (al (pz (TcE22_ok) []) (al (pz (TcE23_ok x3 x4) [.s 3, .s 4]) (al (pz (TcE24_ok) []) (al (pz (TcE36_ok) []) (al (pz (TcE26_ok) []) (al (pz (TcE25_ok x5 x6) [.s 5, .s 6]) (al (pz (TcE27_ok) []) (al (pz (TcE28_ok x7 x8 x9 x10) k221n) an)))))))) 11 (by simp) (TcE43v0R (decide (x0 = (0)))) (by kernel_rfl)
def TcE44 : Sm := ⟨114, [.ptr 0 0, .ptr 1 0, .ptr 2 0, .sl 3 0 1 9, .int .i64 1, .sint .i64 0], 12, [(0, k12n), (1, k110n), (2, k61n), (3, k94n), (4, k19n), (5, k86n), (6, k90n), (7, .smap), (8, k77n), (9, k156n), (10, k136n), (11, k17n)], k188n, 22, [(21, k250n), (0, k12n), (1, k110n), (2, k61n), (3, k94n), (4, k19n), (5, k179n), (6, k90n), (7, .smap), (8, .cells [.bool false, k50n, .int .i64 0, .bool true, .str TcK1ab9, .sint .i64 5, .bool false, k50n, .int .i64 0, .bool false, k50n, .int .i64 0, .bool false, k50n, .int .i64 0, .bool false, k50n, .int .i64 0]), (10, k283n), (11, k17n), (18, k239n), (16, k17n)]⟩
def TcE44v0P : List Pur := [⟨239, [.str TcK1ab9], .int .u64 12469191778965217993⟩, ⟨269, [k75n], .int .i64 0⟩, ⟨273, [k75n, .sint .i64 3, .int .i64 1], k213n⟩]
def TcE44v0F (d0 d1 : Bool) : Facts := ⟨[(0, 59), (1, 30), (4602678819172646912, 4605380978949069210), (1, 30), (-30, 28), (2, 31), (1, 60), (0, 30), (0, 1), (0, 1), (4611686018427387903, 4611686018427387904)], [⟨.add, .i64, .s 3, .c (1), .s 5⟩, ⟨.sub, .i64, .c (4611686018427387904), .s 8, .s 10⟩, ⟨.add, .i64, .s 9, .s 8, .c (1)⟩, ⟨.quo, .i64, .s 0, .c (60), .c (0)⟩, ⟨.sub, .i64, .c (60), .s 0, .s 6⟩], [⟨.s 5, .s 1, false⟩, ⟨.s 9, .c (1), d0⟩, ⟨.s 8, .c (1), d1⟩], [], [], [], [], []⟩
theorem TcE44v0R : ∀ d0 d1, Sr TcE44 (TcE44v0F d0 d1) [] TcE44v0P = true := by intro d0 d1; cases d0 <;> cases d1 <;> kernel_rfl
theorem TcE44_ok (x0 x1 x2 x3 x4 x5 x6 : Int) (b : Gs [(0, 59), (1, 30), (4602678819172646912, 4605380978949069210), (1, 30)] [x0, x1, x2, x3] := by simp only [Gs, and_true]; omega) (n2 : Nr x2 := by assumption) (h4 : x4 = (-1) + x1 + (-1) * x3 := by omega) (h5 : x5 = (1) + x3 := by omega) (h6 : x6 = (60) + (-1) * x0 := by omega) (r0 : 0 ≤ x1 ∧ x1 ≤ 30 := by omega) (r1 : (0 ≤ x3 ∧ x3 < x1) ∧ x1 ≤ 30 := by omega) (r2 : x1 ≤ x5 := by omega) (r3 : (-30 : Int) ≤ x4 ∧ x4 ≤ 28 := by omega) (r4 : (2 : Int) ≤ x5 ∧ x5 ≤ 31 := by omega) (r5 : (1 : Int) ≤ x6 ∧ x6 ≤ 60 := by omega) : TcE44.Ok Tryz.prog (sgl [x0, x1, x2, x3, x4, x5, x6]) := by
  have bb := b
  simp only [Gs, and_true] at bb
  obtain ⟨y7, h7⟩ := ex (Thr x1 x2)
  obtain ⟨y8, h8⟩ := ex (Jn x3 y7)
  obtain ⟨y9, h9⟩ := ex ((1) + (-1) * y8)
  obtain ⟨y10, h10⟩ := ex ((4611686018427387904) + (-1) * y8)
  have d7 := Thr_bd x1 x2
  have d8 := Jn_bd x3 y7
  exact sm_signs (F := (TcE44v0F (decide (y9 < (1))) (decide (y8 < (1))))) (us := []) (ps := TcE44v0P) (l := [x0, x1, x2, x3, x4, x5, x6, y7, y8, y9, y10]) ⟨gc (gc (gc (gc (gc (gc (gc (gc (gc (gc (gc trivial)))))))))), (al (fA x3 (1) x5) (al (fS (4611686018427387904) y8 y10) (al (fA y9 y8 (1)) (al (fQ x0 (60) (0)) (al (fS (60) x0 x6) an))))), (al (fN x5 x1) (al rfl (al rfl an))), an, an, an, an, an⟩ an (al (pz (TcE10_ok) []) (al (ck (l := .s 1) (k := 2) x1 x2) (al (jo (l := .s 1) (k := 2) (b := .s 3) (e := .s 4) (w := .s 9) (n := .s 8) x1 x2 x3 y7 x4 y9 y8) an))) 7 (by simp) (TcE44v0R (decide (y9 < (1))) (decide (y8 < (1)))) (by kernel_rfl)
def TcE45H : List (Nat × B) := [(0, k12n), (1, k36n), (2, k61n), (3, k30n), (4, k19n), (5, k86n), (6, k39n), (7, .smap), (8, k76n), (9, k156n), (10, k136n), (11, k17n)]
def TcE45 : Sm := ⟨114, [.ptr 0 0, .ptr 1 0, .ptr 2 0, .sl 3 0 1 9, .int .i64 1, .sint .i64 0], 12, TcE45H, k189n, 20, TcE45H ++ [(19, k141n)]⟩
def TcE45v0P : List Pur := [⟨269, [k13n], .int .i64 0⟩]
def TcE45v0F : Facts := ⟨[(0, 59), (1, 30), (1, 30), (4602678819172646912, 4605380978949069210), (1, 30), (1, 60)], [⟨.quo, .i64, .s 0, .c (60), .c (0)⟩, ⟨.sub, .i64, .c (60), .s 0, .s 5⟩], [⟨.s 2, .s 2, false⟩], [], [], [], [], []⟩
theorem TcE45v0R : Sr TcE45 TcE45v0F [] TcE45v0P = true := by kernel_rfl
theorem TcE45_ok (x0 x1 x2 x3 x4 x5 : Int) (b : Gs [(0, 59), (1, 30), (1, 30), (4602678819172646912, 4605380978949069210), (1, 30)] [x0, x1, x2, x3, x4] := by simp only [Gs, and_true]; omega) (n3 : Nr x3 := by assumption) (h5 : x5 = (60) + (-1) * x0 := by omega) (r0 : 0 ≤ x2 ∧ x2 ≤ 30 := by omega) (r1 : x2 ≤ x2 := by omega) (r2 : (1 : Int) ≤ x5 ∧ x5 ≤ 60 := by omega) : TcE45.Ok Tryz.prog (sgl [x0, x1, x2, x3, x4, x5]) := by
  have bb := b
  simp only [Gs, and_true] at bb
  exact sm_signs (F := TcE45v0F) (us := []) (ps := TcE45v0P) (l := [x0, x1, x2, x3, x4, x5]) ⟨gc (gc (gc (gc (gc (gc trivial))))), (al (fQ x0 (60) (0)) (al (fS (60) x0 x5) an)), (al (fN x2 x2) an), an, an, an, an, an⟩ an (al (ck (l := .s 2) (k := 3) x2 x3) an) 6 (by simp) TcE45v0R (by kernel_rfl)
def TcE46 : Sm := ⟨173, [.sl 0 0 1 5], 1, [(0, k64n)], .sl 5 0 4 2, 6, [(5, k211n), (0, k64n)]⟩
def TcE46v0P : List Pur := [⟨95, [.sint .i64 0], k294n⟩, ⟨95, [.sint .i64 1], k292n⟩, ⟨226, [.sint .i64 0, .sint .i64 0], .sflt 10⟩, ⟨225, [.sflt 10], k117n⟩]
def TcE46v0F : Facts := ⟨[(1, 30), (1, 60), (49, 57), (48, 57), (49, 57), (48, 57), (48, 49), (48, 57), (48, 57), (48, 57), (0, 9218868437227405312)], [⟨.sub, .i64, .s 0, .c (0), .s 0⟩], [], [], [], [], [], []⟩
theorem TcE46v0R : Sr TcE46 TcE46v0F [] TcE46v0P = true := by kernel_rfl
theorem TcE46_ok (x0 x1 x2 x3 x4 x5 x6 x7 x8 x9 : Int) (b : Gs [(1, 30), (1, 60)] [x0, x1] := by simp only [Gs, and_true]; omega) (h2 : x2 = (48) + x0 / 10 := by omega) (h3 : x3 = (48) + x0 % 10 := by omega) (h4 : x4 = (48) + x1 / 10 := by omega) (h5 : x5 = (48) + x1 % 10 := by omega) (s6 : IsSh x0 x0 x6 x7 x8 x9 := by assumption) (r0 : 10 ≤ x0 ∧ x0 ≤ 99 := by omega) (r1 : 10 ≤ x1 ∧ x1 ≤ 99 := by omega) (r2 : (0 ≤ x0 ∧ x0 ≤ x0) ∧ (1 ≤ x0 ∧ x0 ≤ 30) := by omega) : TcE46.Ok Tryz.prog (sgl [x0, x1, x2, x3, x4, x5, x6, x7, x8, x9]) := by
  have bb := b
  simp only [Gs, and_true] at bb
  obtain ⟨y10, h10⟩ := ex (shC x0 x0)
  have d6 := s6.bd
  have d10 := shC_bd x0 x0
  exact sm_signs (F := TcE46v0F) (us := []) (ps := TcE46v0P) (l := [x0, x1, x2, x3, x4, x5, x6, x7, x8, x9, y10]) ⟨gc (gc (gc (gc (gc (gc (gc (gc (gc (gc (gc trivial)))))))))), (al (fS x0 (0) x0) an), an, an, an, an, an, an⟩ an (al (pz (dg2 x0 x2 x3) [.s 0, .s 2, .s 3]) (al (pz (dg2 x1 x4 x5) [.s 1, .s 4, .s 5]) (al (pz (of0 x0 x0 y10) [.s 0, .s 0, .s 10]) (al (pz (tx0 y10 x6 x7 x8 x9 x0 x0) [.s 10, .s 6, .s 7, .s 8, .s 9]) an)))) 10 (by simp) TcE46v0R (by kernel_rfl)
def TcE47 : Sm := ⟨85, [k95n], 2, [(0, k44n), (1, k49n)], k71n, 73, [(72, .typ false 5 (u8s TcK4519)), (0, k44n), (1, k49n)]⟩
def TcE47v0P : List Pur := [⟨184, [k229n], .bool true⟩, ⟨184, [k105n], .bool true⟩, ⟨184, [.agg [.str TcK66a8, k223n]], .bool true⟩, ⟨184, [.agg [.str TcK8148, k166n]], .bool true⟩]
def TcE47v0F : Facts := ⟨[(0, 59), (1, 30), (1, 60), (48, 57), (48, 57), (48, 57), (48, 57), (48, 57), (48, 57), (48, 57), (48, 57)], [], [], [], [], [], [], []⟩
theorem TcE47v0R : Sr TcE47 TcE47v0F [] TcE47v0P = true := by kernel_rfl
theorem TcE47_ok (x0 x1 x2 x3 x4 x5 x6 x7 x8 x9 x10 : Int) (b : Gs [(0, 59), (1, 30), (1, 60), (48, 57), (48, 57), (48, 57), (48, 57), (48, 57), (48, 57), (48, 57), (48, 57)] [x0, x1, x2, x3, x4, x5, x6, x7, x8, x9, x10] := by simp only [Gs, and_true]; omega) : TcE47.Ok Tryz.prog (sgl [x0, x1, x2, x3, x4, x5, x6, x7, x8, x9, x10]) := by
  have bb := b
  simp only [Gs, and_true] at bb
  exact sm_signs (F := TcE47v0F) (us := []) (ps := TcE47v0P) (l := [x0, x1, x2, x3, x4, x5, x6, x7, x8, x9, x10]) ⟨b, an, an, an, an, an, an, an⟩ an (al (pz (TcE14_ok x3 x4) [.s 3, .s 4]) (al (pz (TcE33_ok) []) (al (pz (TcE18_ok x5 x6) [.s 5, .s 6]) (al (pz (TcE20_ok x7 x8 x9 x10) k221n) an)))) 11 (by simp) TcE47v0R (by kernel_rfl)
end
end Go.Proofs.YtnpkeganpkobjaaGreatDoor.Ev
