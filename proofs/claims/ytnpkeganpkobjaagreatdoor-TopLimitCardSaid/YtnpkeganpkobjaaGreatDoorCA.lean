import Derived.Test.YtnpkeganpkobjaaGreatDoorCK
set_option linter.all false
namespace Go.Proofs.YtnpkeganpkobjaaGreatDoor.Ev
set_option maxRecDepth 100000
set_option maxHeartbeats 4000000
open Go Go.RowKit
noncomputable section
def TcE0 (n : Nat) : Sm := ⟨81, [k1n], 0, [], .bool true, n, []⟩
theorem TcE0_ok : ∃ n, (TcE0 n).Ok Tryz.prog (sgl []) := pe
def TcE1 (n : Nat) : Sm := ⟨81, [k3n], 0, [], .bool true, n, []⟩
theorem TcE1_ok : ∃ n, (TcE1 n).Ok Tryz.prog (sgl []) := pe
def TcE2 : Sm := ⟨10, [.sint .i64 0, k119n, .int .i64 1], 0, [], .sl 43 0 19 1, 44, [(43, .cells (u8s [18, 1, 256, 4, 115, 104, 111, 112, 1, 1, 1, 4, 117, 115, 101, 114, 2, 97, 108]))]⟩
def TcE2v0P : List Pur := [⟨81, [k1n], .bool true⟩, ⟨81, [k3n], .bool true⟩]
def TcE2v0F : Facts := ⟨[(0, 59)], [], [], [], [], [], [], []⟩
theorem TcE2v0R : Sr TcE2 TcE2v0F [] TcE2v0P = true := by kernel_rfl
theorem TcE2_ok (x0 : Int) (b : Gs [(0, 59)] [x0] := by simp only [Gs, and_true]; omega) : TcE2.Ok Tryz.prog (sgl [x0]) := by
  have bb := b
  simp only [Gs, and_true] at bb
  exact sm_signs (F := TcE2v0F) (us := []) (ps := TcE2v0P) (l := [x0]) ⟨b, an, an, an, an, an, an, an⟩ an (al (pz (TcE0_ok) []) (al (pz (TcE1_ok) []) an)) 1 (by simp) TcE2v0R (by kernel_rfl)
def TcE3 (n : Nat) : Sm := ⟨161, [k1n], 0, [], .bool true, n, []⟩
theorem TcE3_ok : ∃ n, (TcE3 n).Ok Tryz.prog (sgl []) := pe
def TcE4 (n : Nat) : Sm := ⟨161, [k3n], 0, [], .bool true, n, []⟩
theorem TcE4_ok : ∃ n, (TcE4 n).Ok Tryz.prog (sgl []) := pe
def TcE5 : Sm := ⟨84, [.sl 0 0 18 1], 1, [(0, .cells (u8s TcK9999))], .tup [.agg [.sint .i64 0, k1n, .int .i64 1, .sl 8 0 1 1], .int .i64 0], 9, [(8, k129n), (0, .cells (u8s TcK9999)), (6, k249n)]⟩
def TcE5v0P : List Pur := [⟨161, [k1n], .bool true⟩, ⟨161, [k3n], .bool true⟩]
def TcE5v0F (d0 : Bool) : Facts := ⟨[(0, 59)], [⟨.and, .u8, .s 0, .c (127), .s 0⟩, ⟨.shl, .u64, .s 0, .c (0), .s 0⟩, ⟨.or, .u64, .c (0), .s 0, .s 0⟩], [], [⟨.s 0, .c (0), d0⟩], [], [], [], []⟩
theorem TcE5v0R : ∀ d0, Sr TcE5 (TcE5v0F d0) [] TcE5v0P = true := by intro d0; cases d0 <;> kernel_rfl
theorem TcE5_ok (x0 : Int) (b : Gs [(0, 59)] [x0] := by simp only [Gs, and_true]; omega) : TcE5.Ok Tryz.prog (sgl [x0]) := by
  have bb := b
  simp only [Gs, and_true] at bb
  exact sm_signs (F := (TcE5v0F (decide (x0 = (0))))) (us := []) (ps := TcE5v0P) (l := [x0]) ⟨b, (al (gD x0 x0) (al (fk_shl0 (show x0 = x0 by omega) (show (0 : Int) ≤ x0 by omega) (show x0 ≤ (18446744073709551615 : Int) by omega)) (al (gO x0 x0) an))), an, (al rfl an), an, an, an, an⟩ an (al (pz (TcE3_ok) []) (al (pz (TcE4_ok) []) an)) 1 (by simp) (TcE5v0R (decide (x0 = (0)))) (by kernel_rfl)
def TcE6 (n : Nat) : Sm := ⟨210, [k3n], 0, [], k3n, n, []⟩
theorem TcE6_ok : ∃ n, (TcE6 n).Ok Tryz.prog (sgl []) := pe
def TcE7 (n : Nat) : Sm := ⟨210, [k1n], 0, [], k1n, n, []⟩
theorem TcE7_ok : ∃ n, (TcE7 n).Ok Tryz.prog (sgl []) := pe
def TcE8 (n : Nat) : Sm := ⟨210, [k119n], 0, [], k119n, n, []⟩
theorem TcE8_ok : ∃ n, (TcE8 n).Ok Tryz.prog (sgl []) := pe
def TcE9H : List (Nat × B) := [(0, k190n), (1, k129n), (2, k184n), (3, k172n), (4, k60n), (5, k25n), (6, k249n)]
def TcE9 : Sm := ⟨75, [.ptr 0 0, k191n, .sint .i64 1], 7, TcE9H, k234n, 11, TcE9H ++ [(10, k30n)]⟩
def TcE9v0P : List Pur := [⟨161, [k1n], .bool true⟩, ⟨161, [k3n], .bool true⟩, ⟨210, [k3n], k3n⟩, ⟨210, [k1n], k1n⟩, ⟨210, [k119n], k119n⟩]
def TcE9v0F : Facts := ⟨[(0, 59), (0, 59), (1, 30), (4602678819172646912, 4605380978949069210)], [⟨.quo, .i64, .s 1, .c (60), .c (0)⟩], [], [], [], [], [], []⟩
theorem TcE9v0R : Sr TcE9 TcE9v0F [] TcE9v0P = true := by kernel_rfl
theorem TcE9_ok (x0 x1 x2 x3 : Int) (b : Gs [(0, 59), (0, 59), (1, 30), (4602678819172646912, 4605380978949069210)] [x0, x1, x2, x3] := by simp only [Gs, and_true]; omega) (n3 : Nr x3 := by assumption) : TcE9.Ok Tryz.prog (sgl [x0, x1, x2, x3]) := by
  have bb := b
  simp only [Gs, and_true] at bb
  exact sm_signs (F := TcE9v0F) (us := []) (ps := TcE9v0P) (l := [x0, x1, x2, x3]) ⟨b, (al (fQ x1 (60) (0)) an), an, an, an, an, an, an⟩ an (al (pz (TcE3_ok) []) (al (pz (TcE4_ok) []) (al (pz (TcE6_ok) []) (al (pz (TcE7_ok) []) (al (pz (TcE8_ok) []) an))))) 4 (by simp) TcE9v0R (by kernel_rfl)
def TcE10 (n : Nat) : Sm := ⟨239, [.str TcK1ab9], 0, [], .int .u64 12469191778965217993, n, []⟩
theorem TcE10_ok : ∃ n, (TcE10 n).Ok Tryz.prog (sgl []) := pe
def TcE11H : List (Nat × B) := [(0, k12n), (1, k36n), (2, k61n), (3, k30n), (4, k40n), (5, k165n), (6, k90n), (7, .smap), (8, k0n), (9, k90n)]
def TcE11 : Sm := ⟨114, [.ptr 0 0, .ptr 1 0, .ptr 2 0, .sl 3 0 1 9, .int .i64 1, .sint .i64 0], 10, TcE11H, .tup [.sl 19 0 1 5, .int .i64 1], 20, upd TcE11H [(4, k19n), (5, k301n), (8, k11n), (9, k284n)] ++ [(19, k108n), (16, .cells [.ptr 14 0]), (14, k17n)]⟩
def TcE11v0P : List Pur := [⟨239, [.str TcK1ab9], .int .u64 12469191778965217993⟩, ⟨269, [k13n], .int .i64 0⟩, ⟨273, [k13n, .int .i64 0, .int .i64 1], k85n⟩]
def TcE11v0F (d0 d1 : Bool) : Facts := ⟨[(0, 59), (0, 30), (1, 30), (4602678819172646912, 4605380978949069210), (0, 29), (1, 60), (0, 30), (0, 1), (0, 1), (4611686018427387903, 4611686018427387904)], [⟨.sub, .i64, .c (4611686018427387904), .s 7, .s 9⟩, ⟨.add, .i64, .s 8, .s 7, .c (1)⟩, ⟨.quo, .i64, .s 0, .c (60), .c (0)⟩, ⟨.sub, .i64, .c (60), .s 0, .s 5⟩], [⟨.c (1), .s 2, true⟩, ⟨.s 8, .c (1), d0⟩, ⟨.s 7, .c (1), d1⟩], [], [], [], [], []⟩
theorem TcE11v0R : ∀ d0 d1, Sr TcE11 (TcE11v0F d0 d1) [] TcE11v0P = true := by intro d0 d1; cases d0 <;> cases d1 <;> kernel_rfl
theorem TcE11_ok (x0 x1 x2 x3 x4 x5 : Int) (b : Gs [(0, 59), (0, 30), (1, 30), (4602678819172646912, 4605380978949069210)] [x0, x1, x2, x3] := by simp only [Gs, and_true]; omega) (n3 : Nr x3 := by assumption) (h4 : x4 = (-1) + x2 := by omega) (h5 : x5 = (60) + (-1) * x0 := by omega) (r0 : 0 ≤ x2 ∧ x2 ≤ 30 := by omega) (r1 : (0 ≤ (0) ∧ (0) < x2) ∧ x2 ≤ 30 := by omega) (r2 : (1) < x2 := by omega) (r3 : (0 : Int) ≤ x4 ∧ x4 ≤ 29 := by omega) (r4 : (1 : Int) ≤ x5 ∧ x5 ≤ 60 := by omega) : TcE11.Ok Tryz.prog (sgl [x0, x1, x2, x3, x4, x5]) := by
  have bb := b
  simp only [Gs, and_true] at bb
  obtain ⟨y6, h6⟩ := ex (Thr x2 x3)
  obtain ⟨y7, h7⟩ := ex (Jn (0) y6)
  obtain ⟨y8, h8⟩ := ex ((1) + (-1) * y7)
  obtain ⟨y9, h9⟩ := ex ((4611686018427387904) + (-1) * y7)
  have d6 := Thr_bd x2 x3
  have d7 := Jn_bd (0) y6
  exact sm_signs (F := (TcE11v0F (decide (y8 < (1))) (decide (y7 < (1))))) (us := []) (ps := TcE11v0P) (l := [x0, x1, x2, x3, x4, x5, y6, y7, y8, y9]) ⟨gc (gc (gc (gc (gc (gc (gc (gc (gc (gc trivial))))))))), (al (fS (4611686018427387904) y7 y9) (al (fA y8 y7 (1)) (al (fQ x0 (60) (0)) (al (fS (60) x0 x5) an)))), (al (fT (1) x2) (al rfl (al rfl an))), an, an, an, an, an⟩ an (al (pz (TcE10_ok) []) (al (ck (l := .s 2) (k := 3) x2 x3) (al (jo (l := .s 2) (k := 3) (b := .c (0)) (e := .s 4) (w := .s 8) (n := .s 7) x2 x3 (0) y6 x4 y8 y7) an))) 6 (by simp) (TcE11v0R (decide (y8 < (1))) (decide (y7 < (1)))) (by kernel_rfl)
def TcE12 : Sm := ⟨173, [.sl 0 0 1 5], 1, [(0, k42n)], .sl 5 0 4 2, 6, [(5, .cells [.str TcKb987, .str TcK4f89, .str TcK6d81, k223n, .str TcK66a8, .str [263, 264], .str TcK8148, k243n]), (0, k42n)]⟩
def TcE12v0P : List Pur := [⟨95, [.sint .i64 0], k293n⟩, ⟨95, [.sint .i64 1], k223n⟩, ⟨95, [.sint .i64 2], .str [263, 264]⟩, ⟨226, [.sint .i64 9, .sint .i64 0], .sflt 14⟩, ⟨225, [.sflt 14], k243n⟩]
def TcE12v0F : Facts := ⟨[(1, 30), (1, 30), (1, 60), (49, 57), (48, 57), (49, 57), (48, 57), (49, 57), (48, 57), (-29, 29), (48, 49), (48, 57), (48, 57), (48, 57), (0, 9218868437227405312)], [⟨.sub, .i64, .s 0, .s 1, .s 9⟩], [], [], [], [], [], []⟩
theorem TcE12v0R : Sr TcE12 TcE12v0F [] TcE12v0P = true := by kernel_rfl
theorem TcE12_ok (x0 x1 x2 x3 x4 x5 x6 x7 x8 x9 x10 x11 x12 x13 : Int) (b : Gs [(1, 30), (1, 30), (1, 60)] [x0, x1, x2] := by simp only [Gs, and_true]; omega) (h3 : x3 = (48) + x0 / 10 := by omega) (h4 : x4 = (48) + x0 % 10 := by omega) (h5 : x5 = (48) + x1 / 10 := by omega) (h6 : x6 = (48) + x1 % 10 := by omega) (h7 : x7 = (48) + x2 / 10 := by omega) (h8 : x8 = (48) + x2 % 10 := by omega) (h9 : x9 = x0 + (-1) * x1 := by omega) (s10 : IsSh x9 x0 x10 x11 x12 x13 := by assumption) (r0 : 10 ≤ x0 ∧ x0 ≤ 99 := by omega) (r1 : 10 ≤ x1 ∧ x1 ≤ 99 := by omega) (r2 : 10 ≤ x2 ∧ x2 ≤ 99 := by omega) (r3 : (0 ≤ x9 ∧ x9 ≤ x0) ∧ (1 ≤ x0 ∧ x0 ≤ 30) := by omega) (r4 : (-29 : Int) ≤ x9 ∧ x9 ≤ 29 := by omega) : TcE12.Ok Tryz.prog (sgl [x0, x1, x2, x3, x4, x5, x6, x7, x8, x9, x10, x11, x12, x13]) := by
  have bb := b
  simp only [Gs, and_true] at bb
  obtain ⟨y14, h14⟩ := ex (shC x9 x0)
  have d10 := s10.bd
  have d14 := shC_bd x9 x0
  exact sm_signs (F := TcE12v0F) (us := []) (ps := TcE12v0P) (l := [x0, x1, x2, x3, x4, x5, x6, x7, x8, x9, x10, x11, x12, x13, y14]) ⟨gc (gc (gc (gc (gc (gc (gc (gc (gc (gc (gc (gc (gc (gc (gc trivial)))))))))))))), (al (fS x0 x1 x9) an), an, an, an, an, an, an⟩ an (al (pz (dg2 x0 x3 x4) [.s 0, .s 3, .s 4]) (al (pz (dg2 x1 x5 x6) [.s 1, .s 5, .s 6]) (al (pz (dg2 x2 x7 x8) k133n) (al (pz (of0 x9 x0 y14) [.s 9, .s 0, .s 14]) (al (pz (tx0 y14 x10 x11 x12 x13 x9 x0) [.s 14, .s 10, .s 11, .s 12, .s 13]) an))))) 14 (by simp) TcE12v0R (by kernel_rfl)
def TcE13 (n : Nat) : Sm := ⟨161, [.str TcKb987], 0, [], .bool true, n, []⟩
theorem TcE13_ok : ∃ n, (TcE13 n).Ok Tryz.prog (sgl []) := pe
def TcE14 (n : Nat) : Sm := ⟨184, [k279n], 0, [], .bool true, n, []⟩
def TcE14v0P : List Pur := [⟨161, [.str TcKb987], .bool true⟩]
def TcE14v0F : Facts := ⟨[(48, 57), (48, 57)], [], [], [], [], [], [], []⟩
theorem TcE14v0R : ∃ n, smOk (TcE14 n) (callS TcE14v0F [] TcE14v0P 184 [k279n] (mkSt [] 0)) = true := by
  exact ⟨match (callS TcE14v0F [] TcE14v0P 184 [k279n] (mkSt [] 0)) with | some r => r.2.next | none => 0, by kernel_rfl⟩
theorem TcE14_ok (x0 x1 : Int) (b : Gs [(48, 57), (48, 57)] [x0, x1] := by simp only [Gs, and_true]; omega) : ∃ n, (TcE14 n).Ok Tryz.prog (sgl [x0, x1]) := by
  have bb := b
  simp only [Gs, and_true] at bb
  obtain ⟨n, hn⟩ := TcE14v0R
  exact ⟨n, sm_signs (F := TcE14v0F) (us := []) (ps := TcE14v0P) (l := [x0, x1]) ⟨b, an, an, an, an, an, an, an⟩ an (al (pz (TcE13_ok) []) an) 2 (by simp) hn (by kernel_rfl)⟩
def TcE15 (n : Nat) : Sm := ⟨161, [.str TcK6d81], 0, [], .bool true, n, []⟩
theorem TcE15_ok : ∃ n, (TcE15 n).Ok Tryz.prog (sgl []) := pe
def TcE16 (n : Nat) : Sm := ⟨184, [.agg [.str TcK6d81, k193n]], 0, [], .bool true, n, []⟩
def TcE16v0P : List Pur := [⟨161, [.str TcK6d81], .bool true⟩]
def TcE16v0F : Facts := ⟨[(48, 57), (48, 57)], [], [], [], [], [], [], []⟩
theorem TcE16v0R : ∃ n, smOk (TcE16 n) (callS TcE16v0F [] TcE16v0P 184 [.agg [.str TcK6d81, k193n]] (mkSt [] 0)) = true := by
  exact ⟨match (callS TcE16v0F [] TcE16v0P 184 [.agg [.str TcK6d81, k193n]] (mkSt [] 0)) with | some r => r.2.next | none => 0, by kernel_rfl⟩
theorem TcE16_ok (x0 x1 : Int) (b : Gs [(48, 57), (48, 57)] [x0, x1] := by simp only [Gs, and_true]; omega) : ∃ n, (TcE16 n).Ok Tryz.prog (sgl [x0, x1]) := by
  have bb := b
  simp only [Gs, and_true] at bb
  obtain ⟨n, hn⟩ := TcE16v0R
  exact ⟨n, sm_signs (F := TcE16v0F) (us := []) (ps := TcE16v0P) (l := [x0, x1]) ⟨b, an, an, an, an, an, an, an⟩ an (al (pz (TcE15_ok) []) an) 2 (by simp) hn (by kernel_rfl)⟩
def TcE17 (n : Nat) : Sm := ⟨161, [.str TcK66a8], 0, [], .bool true, n, []⟩
theorem TcE17_ok : ∃ n, (TcE17 n).Ok Tryz.prog (sgl []) := pe
def TcE18 (n : Nat) : Sm := ⟨184, [.agg [.str TcK66a8, k193n]], 0, [], .bool true, n, []⟩
def TcE18v0P : List Pur := [⟨161, [.str TcK66a8], .bool true⟩]
def TcE18v0F : Facts := ⟨[(48, 57), (48, 57)], [], [], [], [], [], [], []⟩
theorem TcE18v0R : ∃ n, smOk (TcE18 n) (callS TcE18v0F [] TcE18v0P 184 [.agg [.str TcK66a8, k193n]] (mkSt [] 0)) = true := by
  exact ⟨match (callS TcE18v0F [] TcE18v0P 184 [.agg [.str TcK66a8, k193n]] (mkSt [] 0)) with | some r => r.2.next | none => 0, by kernel_rfl⟩
theorem TcE18_ok (x0 x1 : Int) (b : Gs [(48, 57), (48, 57)] [x0, x1] := by simp only [Gs, and_true]; omega) : ∃ n, (TcE18 n).Ok Tryz.prog (sgl [x0, x1]) := by
  have bb := b
  simp only [Gs, and_true] at bb
  obtain ⟨n, hn⟩ := TcE18v0R
  exact ⟨n, sm_signs (F := TcE18v0F) (us := []) (ps := TcE18v0P) (l := [x0, x1]) ⟨b, an, an, an, an, an, an, an⟩ an (al (pz (TcE17_ok) []) an) 2 (by simp) hn (by kernel_rfl)⟩
def TcE19 (n : Nat) : Sm := ⟨161, [.str TcK8148], 0, [], .bool true, n, []⟩
theorem TcE19_ok : ∃ n, (TcE19 n).Ok Tryz.prog (sgl []) := pe
def TcE20 (n : Nat) : Sm := ⟨184, [.agg [.str TcK8148, k197n]], 0, [], .bool true, n, []⟩
def TcE20v0P : List Pur := [⟨161, [.str TcK8148], .bool true⟩]
def TcE20v0F : Facts := ⟨[(48, 57), (48, 57), (48, 57), (48, 57)], [], [], [], [], [], [], []⟩
theorem TcE20v0R : ∃ n, smOk (TcE20 n) (callS TcE20v0F [] TcE20v0P 184 [.agg [.str TcK8148, k197n]] (mkSt [] 0)) = true := by
  exact ⟨match (callS TcE20v0F [] TcE20v0P 184 [.agg [.str TcK8148, k197n]] (mkSt [] 0)) with | some r => r.2.next | none => 0, by kernel_rfl⟩
theorem TcE20_ok (x0 x1 x2 x3 : Int) (b : Gs [(48, 57), (48, 57), (48, 57), (48, 57)] [x0, x1, x2, x3] := by simp only [Gs, and_true]; omega) : ∃ n, (TcE20 n).Ok Tryz.prog (sgl [x0, x1, x2, x3]) := by
  have bb := b
  simp only [Gs, and_true] at bb
  obtain ⟨n, hn⟩ := TcE20v0R
  exact ⟨n, sm_signs (F := TcE20v0F) (us := []) (ps := TcE20v0P) (l := [x0, x1, x2, x3]) ⟨b, an, an, an, an, an, an, an⟩ an (al (pz (TcE19_ok) []) an) 4 (by simp) hn (by kernel_rfl)⟩
def TcE21 : Sm := ⟨85, [k55n], 2, [(0, k20n), (1, k114n)], .tup [.sl 72 0 110 1, .int .i64 0], 73, [(72, .typ false 5 (u8s TcKfab1)), (0, k20n), (1, k114n)]⟩
def TcE21v0P : List Pur := [⟨184, [k228n], .bool true⟩, ⟨184, [.agg [.str TcK6d81, k248n]], .bool true⟩, ⟨184, [.agg [.str TcK66a8, .str [264, 265]]], .bool true⟩, ⟨184, [.agg [.str TcK8148, k243n]], .bool true⟩]
def TcE21v0F : Facts := ⟨[(0, 59), (1, 30), (1, 30), (1, 60), (48, 57), (48, 57), (48, 57), (48, 57), (48, 57), (48, 57), (48, 57), (48, 57), (48, 57), (48, 57)], [], [], [], [], [], [], []⟩
theorem TcE21v0R : Sr TcE21 TcE21v0F [] TcE21v0P = true := by kernel_rfl
theorem TcE21_ok (x0 x1 x2 x3 x4 x5 x6 x7 x8 x9 x10 x11 x12 x13 : Int) (b : Gs [(0, 59), (1, 30), (1, 30), (1, 60), (48, 57), (48, 57), (48, 57), (48, 57), (48, 57), (48, 57), (48, 57), (48, 57), (48, 57), (48, 57)] [x0, x1, x2, x3, x4, x5, x6, x7, x8, x9, x10, x11, x12, x13] := by simp only [Gs, and_true]; omega) : TcE21.Ok Tryz.prog (sgl [x0, x1, x2, x3, x4, x5, x6, x7, x8, x9, x10, x11, x12, x13]) := by
  have bb := b
  simp only [Gs, and_true] at bb
  exact sm_signs (F := TcE21v0F) (us := []) (ps := TcE21v0P) (l := [x0, x1, x2, x3, x4, x5, x6, x7, x8, x9, x10, x11, x12, x13]) ⟨b, an, an, an, an, an, an, an⟩ an (al (pz (TcE14_ok x4 x5) k245n) (al (pz (TcE16_ok x6 x7) [.s 6, .s 7]) (al (pz (TcE18_ok x8 x9) [.s 8, .s 9]) (al (pz (TcE20_ok x10 x11 x12 x13) [.s 10, .s 11, .s 12, .s 13]) an)))) 14 (by simp) TcE21v0R (by kernel_rfl)
def TcE22 (n : Nat) : Sm := ⟨81, [.str TcKb987], 0, [], .bool true, n, []⟩
theorem TcE22_ok : ∃ n, (TcE22 n).Ok Tryz.prog (sgl []) := pe
def TcE23 (n : Nat) : Sm := ⟨102, [.str TcKff9c], 0, [], .bool true, n, []⟩
def TcE23v0F : Facts := ⟨[(48, 57), (48, 57)], [], [], [], [], [], [], []⟩
theorem TcE23v0R : ∃ n, smOk (TcE23 n) (callS TcE23v0F [] [] 102 [.str TcKff9c] (mkSt [] 0)) = true := by
  exact ⟨match (callS TcE23v0F [] [] 102 [.str TcKff9c] (mkSt [] 0)) with | some r => r.2.next | none => 0, by kernel_rfl⟩
theorem TcE23_ok (x0 x1 : Int) (b : Gs [(48, 57), (48, 57)] [x0, x1] := by simp only [Gs, and_true]; omega) : ∃ n, (TcE23 n).Ok Tryz.prog (sgl [x0, x1]) := by
  have bb := b
  simp only [Gs, and_true] at bb
  obtain ⟨n, hn⟩ := TcE23v0R
  exact ⟨n, sm_signs (F := TcE23v0F) (us := []) (ps := []) (l := [x0, x1]) ⟨b, an, an, an, an, an, an, an⟩ an an 2 (by simp) hn (by kernel_rfl)⟩
def TcE24 (n : Nat) : Sm := ⟨81, [.str TcK6d81], 0, [], .bool true, n, []⟩
theorem TcE24_ok : ∃ n, (TcE24 n).Ok Tryz.prog (sgl []) := pe
def TcE25 (n : Nat) : Sm := ⟨102, [k193n], 0, [], .bool true, n, []⟩
def TcE25v0F : Facts := ⟨[(48, 57), (48, 57)], [], [], [], [], [], [], []⟩
theorem TcE25v0R : ∃ n, smOk (TcE25 n) (callS TcE25v0F [] [] 102 [k193n] (mkSt [] 0)) = true := by
  exact ⟨match (callS TcE25v0F [] [] 102 [k193n] (mkSt [] 0)) with | some r => r.2.next | none => 0, by kernel_rfl⟩
theorem TcE25_ok (x0 x1 : Int) (b : Gs [(48, 57), (48, 57)] [x0, x1] := by simp only [Gs, and_true]; omega) : ∃ n, (TcE25 n).Ok Tryz.prog (sgl [x0, x1]) := by
  have bb := b
  simp only [Gs, and_true] at bb
  obtain ⟨n, hn⟩ := TcE25v0R
  exact ⟨n, sm_signs (F := TcE25v0F) (us := []) (ps := []) (l := [x0, x1]) ⟨b, an, an, an, an, an, an, an⟩ an an 2 (by simp) hn (by kernel_rfl)⟩
def TcE26 (n : Nat) : Sm := ⟨81, [.str TcK66a8], 0, [], .bool true, n, []⟩
theorem TcE26_ok : ∃ n, (TcE26 n).Ok Tryz.prog (sgl []) := pe
def TcE27 (n : Nat) : Sm := ⟨81, [.str TcK8148], 0, [], .bool true, n, []⟩
theorem TcE27_ok : ∃ n, (TcE27 n).Ok Tryz.prog (sgl []) := pe
def TcE28 (n : Nat) : Sm := ⟨102, [k197n], 0, [], .bool true, n, []⟩
def TcE28v0F : Facts := ⟨[(48, 57), (48, 57), (48, 57), (48, 57)], [], [], [], [], [], [], []⟩
theorem TcE28v0R : ∃ n, smOk (TcE28 n) (callS TcE28v0F [] [] 102 [k197n] (mkSt [] 0)) = true := by
  exact ⟨match (callS TcE28v0F [] [] 102 [k197n] (mkSt [] 0)) with | some r => r.2.next | none => 0, by kernel_rfl⟩
theorem TcE28_ok (x0 x1 x2 x3 : Int) (b : Gs [(48, 57), (48, 57), (48, 57), (48, 57)] [x0, x1, x2, x3] := by simp only [Gs, and_true]; omega) : ∃ n, (TcE28 n).Ok Tryz.prog (sgl [x0, x1, x2, x3]) := by
  have bb := b
  simp only [Gs, and_true] at bb
  obtain ⟨n, hn⟩ := TcE28v0R
  exact ⟨n, sm_signs (F := TcE28v0F) (us := []) (ps := []) (l := [x0, x1, x2, x3]) ⟨b, an, an, an, an, an, an, an⟩ an an 4 (by simp) hn (by kernel_rfl)⟩
def TcE29 : Sm := ⟨38, [.sl 0 0 110 1], 1, [(0, .cells (u8s TcKfab1))], k41n, 15, [(14, k114n), (6, k20n), (0, .cells (u8s TcKfab1))]⟩
def TcE29v0P : List Pur := [⟨81, [.str TcKb987], .bool true⟩, ⟨102, [.str TcK6b58], .bool true⟩, ⟨81, [.str TcK6d81], .bool true⟩, ⟨102, [k248n], .bool true⟩, ⟨81, [.str TcK66a8], .bool true⟩, ⟨102, [.str [264, 265]], .bool true⟩, ⟨81, [.str TcK8148], .bool true⟩, ⟨102, [k243n], .bool true⟩]
def TcE29v0F (d0 : Bool) : Facts := ⟨[(0, 59), (1, 30), (1, 30), (1, 60), (48, 57), (48, 57), (48, 57), (48, 57), (48, 57), (48, 57), (48, 57), (48, 57), (48, 57), (48, 57)], t3 0 (t3 1 (t3 2 (t3 3 ([])))), [], [⟨.s 0, .c (0), d0⟩], [], [], [], []⟩
theorem TcE29v0R : ∀ d0, Sr TcE29 (TcE29v0F d0) [] TcE29v0P = true := by intro d0; cases d0 <;> kernel_rfl
theorem TcE29_ok (x0 x1 x2 x3 x4 x5 x6 x7 x8 x9 x10 x11 x12 x13 : Int) (b : Gs [(0, 59), (1, 30), (1, 30), (1, 60), (48, 57), (48, 57), (48, 57), (48, 57), (48, 57), (48, 57), (48, 57), (48, 57), (48, 57), (48, 57)] [x0, x1, x2, x3, x4, x5, x6, x7, x8, x9, x10, x11, x12, x13] := by simp only [Gs, and_true]; omega) : TcE29.Ok Tryz.prog (sgl [x0, x1, x2, x3, x4, x5, x6, x7, x8, x9, x10, x11, x12, x13]) := by
  have bb := b
  simp only [Gs, and_true] at bb
  exact sm_signs (F := (TcE29v0F (decide (x0 = (0))))) (us := []) (ps := TcE29v0P) (l := [x0, x1, x2, x3, x4, x5, x6, x7, x8, x9, x10, x11, x12, x13]) ⟨b, (a3 x0 (a3 x1 (a3 x2 (a3 x3 an)))), an, (al rfl an), an, an, an, an⟩ an (al (pz (TcE22_ok) []) (al (pz (TcE23_ok x4 x5) k245n) (al (pz (TcE24_ok) []) (al (pz (TcE25_ok x6 x7) [.s 6, .s 7]) (al (pz (TcE26_ok) []) (al (pz (TcE25_ok x8 x9) [.s 8, .s 9]) (al (pz (TcE27_ok) []) (al (pz (TcE28_ok x10 x11 x12 x13) [.s 10, .s 11, .s 12, .s 13]) an)))))))) 14 (by simp) (TcE29v0R (decide (x0 = (0)))) (by kernel_rfl)
def TcE30H : List (Nat × B) := [(0, k12n), (1, k36n), (2, k61n), (3, k30n), (4, k40n), (5, k165n), (6, k90n), (7, .smap), (8, k0n), (9, k90n)]
def TcE30 : Sm := ⟨114, [.ptr 0 0, .ptr 1 0, .ptr 2 0, .sl 3 0 1 9, .int .i64 1, .sint .i64 0], 10, TcE30H, k282n, 21, upd TcE30H [(4, k19n), (5, k301n), (6, k39n), (8, k11n), (9, k284n)] ++ [(20, k108n), (16, .cells [.ptr 14 0]), (14, k17n)]⟩
def TcE30v0P : List Pur := [⟨239, [.str TcK1ab9], .int .u64 12469191778965217993⟩, ⟨269, [k13n], .int .i64 0⟩, ⟨273, [k13n, .int .i64 0, .int .i64 1], k85n⟩]
def TcE30v0F (d0 d1 : Bool) : Facts := ⟨[(0, 59), (1, 30), (1, 30), (4602678819172646912, 4605380978949069210), (0, 29), (1, 60), (0, 30), (0, 1), (0, 1), (4611686018427387903, 4611686018427387904)], [⟨.sub, .i64, .c (4611686018427387904), .s 7, .s 9⟩, ⟨.add, .i64, .s 8, .s 7, .c (1)⟩, ⟨.quo, .i64, .s 0, .c (60), .c (0)⟩, ⟨.sub, .i64, .c (60), .s 0, .s 5⟩], [⟨.c (1), .s 2, false⟩, ⟨.s 8, .c (1), d0⟩, ⟨.s 7, .c (1), d1⟩], [], [], [], [], []⟩
theorem TcE30v0R : ∀ d0 d1, Sr TcE30 (TcE30v0F d0 d1) [] TcE30v0P = true := by intro d0 d1; cases d0 <;> cases d1 <;> kernel_rfl
theorem TcE30_ok (x0 x1 x2 x3 x4 x5 : Int) (b : Gs [(0, 59), (1, 30), (1, 30), (4602678819172646912, 4605380978949069210)] [x0, x1, x2, x3] := by simp only [Gs, and_true]; omega) (n3 : Nr x3 := by assumption) (h4 : x4 = (-1) + x2 := by omega) (h5 : x5 = (60) + (-1) * x0 := by omega) (r0 : 0 ≤ x2 ∧ x2 ≤ 30 := by omega) (r1 : (0 ≤ (0) ∧ (0) < x2) ∧ x2 ≤ 30 := by omega) (r2 : x2 ≤ (1) := by omega) (r3 : (0 : Int) ≤ x4 ∧ x4 ≤ 29 := by omega) (r4 : (1 : Int) ≤ x5 ∧ x5 ≤ 60 := by omega) : TcE30.Ok Tryz.prog (sgl [x0, x1, x2, x3, x4, x5]) := by
  have bb := b
  simp only [Gs, and_true] at bb
  obtain ⟨y6, h6⟩ := ex (Thr x2 x3)
  obtain ⟨y7, h7⟩ := ex (Jn (0) y6)
  obtain ⟨y8, h8⟩ := ex ((1) + (-1) * y7)
  obtain ⟨y9, h9⟩ := ex ((4611686018427387904) + (-1) * y7)
  have d6 := Thr_bd x2 x3
  have d7 := Jn_bd (0) y6
  exact sm_signs (F := (TcE30v0F (decide (y8 < (1))) (decide (y7 < (1))))) (us := []) (ps := TcE30v0P) (l := [x0, x1, x2, x3, x4, x5, y6, y7, y8, y9]) ⟨gc (gc (gc (gc (gc (gc (gc (gc (gc (gc trivial))))))))), (al (fS (4611686018427387904) y7 y9) (al (fA y8 y7 (1)) (al (fQ x0 (60) (0)) (al (fS (60) x0 x5) an)))), (al (fN (1) x2) (al rfl (al rfl an))), an, an, an, an, an⟩ an (al (pz (TcE10_ok) []) (al (ck (l := .s 2) (k := 3) x2 x3) (al (jo (l := .s 2) (k := 3) (b := .c (0)) (e := .s 4) (w := .s 8) (n := .s 7) x2 x3 (0) y6 x4 y8 y7) an))) 6 (by simp) (TcE30v0R (decide (y8 < (1))) (decide (y7 < (1)))) (by kernel_rfl)
def TcE31 : Sm := ⟨173, [.sl 0 0 1 5], 1, [(0, k65n)], .sl 5 0 4 2, 6, [(5, k212n), (0, k65n)]⟩
def TcE31v0P : List Pur := [⟨95, [.sint .i64 0], .str [258]⟩, ⟨95, [.sint .i64 1], k293n⟩, ⟨226, [.sint .i64 0, .sint .i64 0], .sflt 9⟩, ⟨225, [.sflt 9], k118n⟩]
def TcE31v0F : Facts := ⟨[(1, 30), (1, 60), (48, 57), (49, 57), (48, 57), (48, 49), (48, 57), (48, 57), (48, 57), (0, 9218868437227405312)], [⟨.sub, .i64, .s 0, .c (0), .s 0⟩], [], [], [], [], [], []⟩
theorem TcE31v0R : Sr TcE31 TcE31v0F [] TcE31v0P = true := by kernel_rfl
theorem TcE31_ok (x0 x1 x2 x3 x4 x5 x6 x7 x8 : Int) (b : Gs [(1, 30), (1, 60)] [x0, x1] := by simp only [Gs, and_true]; omega) (h2 : x2 = (48) + x0 := by omega) (h3 : x3 = (48) + x1 / 10 := by omega) (h4 : x4 = (48) + x1 % 10 := by omega) (s5 : IsSh x0 x0 x5 x6 x7 x8 := by assumption) (r0 : 0 ≤ x0 ∧ x0 ≤ 9 := by omega) (r1 : 10 ≤ x1 ∧ x1 ≤ 99 := by omega) (r2 : (0 ≤ x0 ∧ x0 ≤ x0) ∧ (1 ≤ x0 ∧ x0 ≤ 30) := by omega) : TcE31.Ok Tryz.prog (sgl [x0, x1, x2, x3, x4, x5, x6, x7, x8]) := by
  have bb := b
  simp only [Gs, and_true] at bb
  obtain ⟨y9, h9⟩ := ex (shC x0 x0)
  have d5 := s5.bd
  have d9 := shC_bd x0 x0
  exact sm_signs (F := TcE31v0F) (us := []) (ps := TcE31v0P) (l := [x0, x1, x2, x3, x4, x5, x6, x7, x8, y9]) ⟨gc (gc (gc (gc (gc (gc (gc (gc (gc (gc trivial))))))))), (al (fS x0 (0) x0) an), an, an, an, an, an, an⟩ an (al (pz (dg1 x0 x2) [.s 0, .s 2]) (al (pz (dg2 x1 x3 x4) [.s 1, .s 3, .s 4]) (al (pz (of0 x0 x0 y9) [.s 0, .s 0, .s 9]) (al (pz (tx0 y9 x5 x6 x7 x8 x0 x0) k252n) an)))) 9 (by simp) TcE31v0R (by kernel_rfl)
def TcE32 (n : Nat) : Sm := ⟨184, [k280n], 0, [], .bool true, n, []⟩
def TcE32v0P : List Pur := [⟨161, [.str TcKb987], .bool true⟩]
def TcE32v0F : Facts := ⟨[(48, 57)], [], [], [], [], [], [], []⟩
theorem TcE32v0R : ∃ n, smOk (TcE32 n) (callS TcE32v0F [] TcE32v0P 184 [k280n] (mkSt [] 0)) = true := by
  exact ⟨match (callS TcE32v0F [] TcE32v0P 184 [k280n] (mkSt [] 0)) with | some r => r.2.next | none => 0, by kernel_rfl⟩
theorem TcE32_ok (x0 : Int) (b : Gs [(48, 57)] [x0] := by simp only [Gs, and_true]; omega) : ∃ n, (TcE32 n).Ok Tryz.prog (sgl [x0]) := by
  have bb := b
  simp only [Gs, and_true] at bb
  obtain ⟨n, hn⟩ := TcE32v0R
  exact ⟨n, sm_signs (F := TcE32v0F) (us := []) (ps := TcE32v0P) (l := [x0]) ⟨b, an, an, an, an, an, an, an⟩ an (al (pz (TcE13_ok) []) an) 1 (by simp) hn (by kernel_rfl)⟩
def TcE33 (n : Nat) : Sm := ⟨184, [k105n], 0, [], .bool true, n, []⟩
def TcE33v0P : List Pur := [⟨161, [.str TcK6d81], .bool true⟩]
theorem TcE33v0R : ∃ n, smOk (TcE33 n) (callS F0 [] TcE33v0P 184 [k105n] (mkSt [] 0)) = true := by
  exact ⟨match (callS F0 [] TcE33v0P 184 [k105n] (mkSt [] 0)) with | some r => r.2.next | none => 0, by kernel_rfl⟩
theorem TcE33_ok : ∃ n, (TcE33 n).Ok Tryz.prog (sgl []) := by
  obtain ⟨n, hn⟩ := TcE33v0R
  exact ⟨n, sm_signs (F := F0) (us := []) (ps := TcE33v0P) (l := []) ⟨trivial, an, an, an, an, an, an, an⟩ an (al (pz (TcE15_ok) []) an) 0 (by simp) hn (by kernel_rfl)⟩
end
end Go.Proofs.YtnpkeganpkobjaaGreatDoor.Ev
