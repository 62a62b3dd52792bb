import Derived.Test.YtnpkeganpkobjaaGreatDoorCK
import Derived.Test.YtnpkeganpkobjaaGreatDoorCA
import Derived.Test.YtnpkeganpkobjaaGreatDoorCB
set_option linter.all false
namespace Go.Proofs.YtnpkeganpkobjaaGreatDoor.Ev
set_option maxRecDepth 100000
set_option maxHeartbeats 4000000
open Go Go.RowKit
noncomputable section
def TcE48 : Sm := ⟨38, [.sl 0 0 109 1], 1, [(0, .cells (u8s TcK4519))], k72n, 15, [(14, k49n), (6, k44n), (0, .cells (u8s TcK4519))]⟩
def TcE48v0P : List Pur := [⟨81, [.str TcKb987], .bool true⟩, ⟨102, [.str TcK4f89], .bool true⟩, ⟨81, [.str TcK6d81], .bool true⟩, ⟨102, [k180n], .bool true⟩, ⟨81, [.str TcK66a8], .bool true⟩, ⟨102, [k223n], .bool true⟩, ⟨81, [.str TcK8148], .bool true⟩, ⟨102, [k166n], .bool true⟩]
def TcE48v0F (d0 : Bool) : Facts := ⟨[(0, 59), (1, 30), (1, 60), (48, 57), (48, 57), (48, 57), (48, 57), (48, 57), (48, 57), (48, 57), (48, 57)], t3 0 (t3 1 (t3 2 ([]))), [], [⟨.s 0, .c (0), d0⟩], [], [], [], []⟩
theorem TcE48v0R : ∀ d0, Sr TcE48 (TcE48v0F d0) [] TcE48v0P = true := by intro d0; cases d0 <;> kernel_rfl
theorem TcE48_ok (x0 x1 x2 x3 x4 x5 x6 x7 x8 x9 x10 : Int) (b : Gs [(0, 59), (1, 30), (1, 60), (48, 57), (48, 57), (48, 57), (48, 57), (48, 57), (48, 57), (48, 57), (48, 57)] [x0, x1, x2, x3, x4, x5, x6, x7, x8, x9, x10] := by simp only [Gs, and_true]; omega) : TcE48.Ok Tryz.prog (sgl [x0, x1, x2, x3, x4, x5, x6, x7, x8, x9, x10]) := by
  have bb := b
  simp only [Gs, and_true] at bb
  exact sm_signs (F := (TcE48v0F (decide (x0 = (0))))) (us := []) (ps := TcE48v0P) (l := [x0, x1, x2, x3, x4, x5, x6, x7, x8, x9, x10]) ⟨b, (a3 x0 (a3 x1 (a3 x2 an))), an, (al rfl an), an, an, an, an⟩ an (al (pz (TcE22_ok) []) (al (pz (TcE23_ok x3 x4) [.s 3, .s 4]) (al (pz (TcE24_ok) []) (al (pz (TcE36_ok) []) (al (pz (TcE26_ok) []) (al (pz (TcE25_ok x5 x6) [.s 5, .s 6]) (al (pz (TcE27_ok) []) (al (pz (TcE28_ok x7 x8 x9 x10) k221n) an)))))))) 11 (by simp) (TcE48v0R (decide (x0 = (0)))) (by kernel_rfl)
def TcE49H : List (Nat × B) := [(0, k12n), (1, k110n), (2, k61n), (3, k94n), (4, k19n), (5, k86n), (6, k90n), (7, .smap), (8, k77n), (9, k156n), (10, k136n), (11, k17n)]
def TcE49 : Sm := ⟨114, [.ptr 0 0, .ptr 1 0, .ptr 2 0, .sl 3 0 1 9, .int .i64 1, .sint .i64 0], 12, TcE49H, k168n, 19, TcE49H ++ [(18, k254n)]⟩
def TcE49v0P : List Pur := [⟨239, [.str TcK1ab9], .int .u64 12469191778965217993⟩, ⟨269, [k75n], .int .i64 0⟩]
def TcE49v0F : Facts := ⟨[(0, 59), (1, 30), (4602678819172646912, 4605380978949069210), (1, 30), (1, 60)], [⟨.quo, .i64, .s 0, .c (60), .c (0)⟩, ⟨.sub, .i64, .c (60), .s 0, .s 4⟩], [⟨.s 3, .s 1, false⟩], [], [], [], [], []⟩
theorem TcE49v0R : Sr TcE49 TcE49v0F [] TcE49v0P = true := by kernel_rfl
theorem TcE49_ok (x0 x1 x2 x3 x4 : Int) (b : Gs [(0, 59), (1, 30), (4602678819172646912, 4605380978949069210), (1, 30)] [x0, x1, x2, x3] := by simp only [Gs, and_true]; omega) (n2 : Nr x2 := by assumption) (h4 : x4 = (60) + (-1) * x0 := by omega) (r0 : 0 ≤ x1 ∧ x1 ≤ 30 := by omega) (r1 : x1 ≤ x3 := by omega) (r2 : (1 : Int) ≤ x4 ∧ x4 ≤ 60 := by omega) : TcE49.Ok Tryz.prog (sgl [x0, x1, x2, x3, x4]) := by
  have bb := b
  simp only [Gs, and_true] at bb
  exact sm_signs (F := TcE49v0F) (us := []) (ps := TcE49v0P) (l := [x0, x1, x2, x3, x4]) ⟨gc (gc (gc (gc (gc trivial)))), (al (fQ x0 (60) (0)) (al (fS (60) x0 x4) an)), (al (fN x3 x1) an), an, an, an, an, an⟩ an (al (pz (TcE10_ok) []) (al (ck (l := .s 1) (k := 2) x1 x2) an)) 5 (by simp) TcE49v0R (by kernel_rfl)
def TcE50H : List (Nat × B) := [(0, k12n), (1, k36n), (2, k61n), (3, k30n), (4, k19n), (5, k86n), (6, k90n), (7, .smap), (8, k76n), (9, k156n), (10, k136n), (11, k17n)]
def TcE50 : Sm := ⟨114, [.ptr 0 0, .ptr 1 0, .ptr 2 0, .sl 3 0 1 9, .int .i64 1, .sint .i64 0], 12, TcE50H, k189n, 20, upd TcE50H [(6, k39n)] ++ [(19, k141n)]⟩
def TcE50v0P : List Pur := [⟨239, [.str TcK1ab9], .int .u64 12469191778965217993⟩, ⟨269, [k13n], .int .i64 0⟩]
def TcE50v0F : Facts := ⟨[(0, 59), (1, 30), (1, 30), (4602678819172646912, 4605380978949069210), (1, 30), (1, 60)], [⟨.quo, .i64, .s 0, .c (60), .c (0)⟩, ⟨.sub, .i64, .c (60), .s 0, .s 5⟩], [⟨.s 4, .s 2, false⟩], [], [], [], [], []⟩
theorem TcE50v0R : Sr TcE50 TcE50v0F [] TcE50v0P = true := by kernel_rfl
theorem TcE50_ok (x0 x1 x2 x3 x4 x5 : Int) (b : Gs [(0, 59), (1, 30), (1, 30), (4602678819172646912, 4605380978949069210), (1, 30)] [x0, x1, x2, x3, x4] := by simp only [Gs, and_true]; omega) (n3 : Nr x3 := by assumption) (h5 : x5 = (60) + (-1) * x0 := by omega) (r0 : 0 ≤ x2 ∧ x2 ≤ 30 := by omega) (r1 : x2 ≤ x4 := by omega) (r2 : (1 : Int) ≤ x5 ∧ x5 ≤ 60 := by omega) : TcE50.Ok Tryz.prog (sgl [x0, x1, x2, x3, x4, x5]) := by
  have bb := b
  simp only [Gs, and_true] at bb
  exact sm_signs (F := TcE50v0F) (us := []) (ps := TcE50v0P) (l := [x0, x1, x2, x3, x4, x5]) ⟨gc (gc (gc (gc (gc (gc trivial))))), (al (fQ x0 (60) (0)) (al (fS (60) x0 x5) an)), (al (fN x4 x2) an), an, an, an, an, an⟩ an (al (pz (TcE10_ok) []) (al (ck (l := .s 2) (k := 3) x2 x3) an)) 6 (by simp) TcE50v0R (by kernel_rfl)
def TcE51H : List (Nat × B) := [(0, k190n), (1, k129n), (2, k185n), (3, k172n), (4, k60n), (5, k25n), (6, k249n)]
def TcE51 : Sm := ⟨75, [.ptr 0 0, k191n, .sint .i64 1], 7, TcE51H, k234n, 11, TcE51H ++ [(10, k81n)]⟩
def TcE51v0P : List Pur := [⟨161, [k1n], .bool true⟩, ⟨161, [k3n], .bool true⟩, ⟨210, [k3n], k3n⟩, ⟨210, [k1n], k1n⟩, ⟨210, [k119n], k119n⟩]
def TcE51v0F : Facts := ⟨[(0, 59), (0, 59), (4602678819172646912, 4605380978949069210)], [⟨.quo, .i64, .s 1, .c (60), .c (0)⟩], [], [], [], [], [], []⟩
theorem TcE51v0R : Sr TcE51 TcE51v0F [] TcE51v0P = true := by kernel_rfl
theorem TcE51_ok (x0 x1 x2 : Int) (b : Gs [(0, 59), (0, 59), (4602678819172646912, 4605380978949069210)] [x0, x1, x2] := by simp only [Gs, and_true]; omega) (n2 : Nr x2 := by assumption) : TcE51.Ok Tryz.prog (sgl [x0, x1, x2]) := by
  have bb := b
  simp only [Gs, and_true] at bb
  exact sm_signs (F := TcE51v0F) (us := []) (ps := TcE51v0P) (l := [x0, x1, x2]) ⟨b, (al (fQ x1 (60) (0)) an), an, an, an, an, an, an⟩ an (al (pz (TcE3_ok) []) (al (pz (TcE4_ok) []) (al (pz (TcE6_ok) []) (al (pz (TcE7_ok) []) (al (pz (TcE8_ok) []) an))))) 3 (by simp) TcE51v0R (by kernel_rfl)
def TcE52H : List (Nat × B) := [(0, k12n), (1, k36n), (2, k61n), (3, k81n), (4, k40n), (5, k165n), (6, k90n), (7, .smap), (8, k0n), (9, k90n)]
def TcE52 : Sm := ⟨114, [.ptr 0 0, .ptr 1 0, .ptr 2 0, .sl 3 0 1 9, .int .i64 1, .sint .i64 0], 10, TcE52H, k169n, 18, upd TcE52H [(6, k39n)] ++ [(17, k48n)]⟩
def TcE52v0P : List Pur := [⟨269, [k43n], .int .i64 0⟩]
def TcE52v0F : Facts := ⟨[(0, 59), (1, 30), (4602678819172646912, 4605380978949069210), (1, 60)], [⟨.quo, .i64, .s 0, .c (60), .c (0)⟩, ⟨.sub, .i64, .c (60), .s 0, .s 3⟩], [], [], [], [], [], []⟩
theorem TcE52v0R : Sr TcE52 TcE52v0F [] TcE52v0P = true := by kernel_rfl
theorem TcE52_ok (x0 x1 x2 x3 : Int) (b : Gs [(0, 59), (1, 30), (4602678819172646912, 4605380978949069210)] [x0, x1, x2] := by simp only [Gs, and_true]; omega) (n2 : Nr x2 := by assumption) (h3 : x3 = (60) + (-1) * x0 := by omega) (r0 : (1 : Int) ≤ x3 ∧ x3 ≤ 60 := by omega) : TcE52.Ok Tryz.prog (sgl [x0, x1, x2, x3]) := by
  have bb := b
  simp only [Gs, and_true] at bb
  exact sm_signs (F := TcE52v0F) (us := []) (ps := TcE52v0P) (l := [x0, x1, x2, x3]) ⟨gc (gc (gc (gc trivial))), (al (fQ x0 (60) (0)) (al (fS (60) x0 x3) an)), an, an, an, an, an, an⟩ an (al (ck (l := .c (0)) (k := 2) (0) x2) an) 4 (by simp) TcE52v0R (by kernel_rfl)
def TcE53 : Sm := ⟨173, [.sl 0 0 1 5], 1, [(0, k146n)], .sl 5 0 4 2, 6, [(5, .cells [.str TcKb987, .str TcK0f33, .str TcK6d81, k180n, .str TcK66a8, .str [257, 258], .str TcK8148, k177n]), (0, k146n)]⟩
def TcE53v0P : List Pur := [⟨95, [.sint .i64 0], .str [257, 258]⟩, ⟨226, [.int .i64 0, .int .i64 0], .nan⟩, ⟨225, [.nan], k177n⟩]
def TcE53v0F : Facts := ⟨[(1, 60), (49, 57), (48, 57)], [], [], [], [], [], [], []⟩
theorem TcE53v0R : Sr TcE53 TcE53v0F [] TcE53v0P = true := by kernel_rfl
theorem TcE53_ok (x0 x1 x2 : Int) (b : Gs [(1, 60)] [x0] := by simp only [Gs, and_true]; omega) (h1 : x1 = (48) + x0 / 10 := by omega) (h2 : x2 = (48) + x0 % 10 := by omega) (r0 : 10 ≤ x0 ∧ x0 ≤ 99 := by omega) : TcE53.Ok Tryz.prog (sgl [x0, x1, x2]) := by
  have bb := b
  simp only [Gs, and_true] at bb
  exact sm_signs (F := TcE53v0F) (us := []) (ps := TcE53v0P) (l := [x0, x1, x2]) ⟨gc (gc (gc trivial)), an, an, an, an, an, an, an⟩ an (al (pz (dg2 x0 x1 x2) [.s 0, .s 1, .s 2]) (al nan_of (al nan_text an))) 3 (by simp) TcE53v0R (by kernel_rfl)
def TcE54 (n : Nat) : Sm := ⟨184, [k201n], 0, [], .bool true, n, []⟩
def TcE54v0P : List Pur := [⟨161, [.str TcKb987], .bool true⟩]
theorem TcE54v0R : ∃ n, smOk (TcE54 n) (callS F0 [] TcE54v0P 184 [k201n] (mkSt [] 0)) = true := by
  exact ⟨match (callS F0 [] TcE54v0P 184 [k201n] (mkSt [] 0)) with | some r => r.2.next | none => 0, by kernel_rfl⟩
theorem TcE54_ok : ∃ n, (TcE54 n).Ok Tryz.prog (sgl []) := by
  obtain ⟨n, hn⟩ := TcE54v0R
  exact ⟨n, sm_signs (F := F0) (us := []) (ps := TcE54v0P) (l := []) ⟨trivial, an, an, an, an, an, an, an⟩ an (al (pz (TcE13_ok) []) an) 0 (by simp) hn (by kernel_rfl)⟩
def TcE55 (n : Nat) : Sm := ⟨184, [k231n], 0, [], .bool true, n, []⟩
def TcE55v0P : List Pur := [⟨161, [.str TcK8148], .bool true⟩]
theorem TcE55v0R : ∃ n, smOk (TcE55 n) (callS F0 [] TcE55v0P 184 [k231n] (mkSt [] 0)) = true := by
  exact ⟨match (callS F0 [] TcE55v0P 184 [k231n] (mkSt [] 0)) with | some r => r.2.next | none => 0, by kernel_rfl⟩
theorem TcE55_ok : ∃ n, (TcE55 n).Ok Tryz.prog (sgl []) := by
  obtain ⟨n, hn⟩ := TcE55v0R
  exact ⟨n, sm_signs (F := F0) (us := []) (ps := TcE55v0P) (l := []) ⟨trivial, an, an, an, an, an, an, an⟩ an (al (pz (TcE19_ok) []) an) 0 (by simp) hn (by kernel_rfl)⟩
def TcE56 : Sm := ⟨85, [k95n], 2, [(0, k91n), (1, k127n)], .tup [.sl 72 0 105 1, .int .i64 0], 73, [(72, .typ false 5 (u8s TcK96d8)), (0, k91n), (1, k127n)]⟩
def TcE56v0P : List Pur := [⟨184, [k201n], .bool true⟩, ⟨184, [k105n], .bool true⟩, ⟨184, [.agg [.str TcK66a8, k294n]], .bool true⟩, ⟨184, [k231n], .bool true⟩]
def TcE56v0F : Facts := ⟨[(0, 59), (1, 60), (48, 57), (48, 57)], [], [], [], [], [], [], []⟩
theorem TcE56v0R : Sr TcE56 TcE56v0F [] TcE56v0P = true := by kernel_rfl
theorem TcE56_ok (x0 x1 x2 x3 : Int) (b : Gs [(0, 59), (1, 60), (48, 57), (48, 57)] [x0, x1, x2, x3] := by simp only [Gs, and_true]; omega) : TcE56.Ok Tryz.prog (sgl [x0, x1, x2, x3]) := by
  have bb := b
  simp only [Gs, and_true] at bb
  exact sm_signs (F := TcE56v0F) (us := []) (ps := TcE56v0P) (l := [x0, x1, x2, x3]) ⟨b, an, an, an, an, an, an, an⟩ an (al (pz (TcE54_ok) []) (al (pz (TcE33_ok) []) (al (pz (TcE18_ok x2 x3) [.s 2, .s 3]) (al (pz (TcE55_ok) []) an)))) 4 (by simp) TcE56v0R (by kernel_rfl)
def TcE57 (n : Nat) : Sm := ⟨102, [.str TcK0f33], 0, [], .bool true, n, []⟩
theorem TcE57_ok : ∃ n, (TcE57 n).Ok Tryz.prog (sgl []) := pe
def TcE58 (n : Nat) : Sm := ⟨102, [k177n], 0, [], .bool true, n, []⟩
theorem TcE58_ok : ∃ n, (TcE58 n).Ok Tryz.prog (sgl []) := pe
def TcE59 : Sm := ⟨38, [.sl 0 0 105 1], 1, [(0, .cells (u8s TcK96d8))], k72n, 15, [(14, k127n), (6, k91n), (0, .cells (u8s TcK96d8))]⟩
def TcE59v0P : List Pur := [⟨81, [.str TcKb987], .bool true⟩, ⟨102, [.str TcK0f33], .bool true⟩, ⟨81, [.str TcK6d81], .bool true⟩, ⟨102, [k180n], .bool true⟩, ⟨81, [.str TcK66a8], .bool true⟩, ⟨102, [k294n], .bool true⟩, ⟨81, [.str TcK8148], .bool true⟩, ⟨102, [k177n], .bool true⟩]
def TcE59v0F (d0 : Bool) : Facts := ⟨[(0, 59), (1, 60), (48, 57), (48, 57)], t3 0 (t3 1 ([])), [], [⟨.s 0, .c (0), d0⟩], [], [], [], []⟩
theorem TcE59v0R : ∀ d0, Sr TcE59 (TcE59v0F d0) [] TcE59v0P = true := by intro d0; cases d0 <;> kernel_rfl
theorem TcE59_ok (x0 x1 x2 x3 : Int) (b : Gs [(0, 59), (1, 60), (48, 57), (48, 57)] [x0, x1, x2, x3] := by simp only [Gs, and_true]; omega) : TcE59.Ok Tryz.prog (sgl [x0, x1, x2, x3]) := by
  have bb := b
  simp only [Gs, and_true] at bb
  exact sm_signs (F := (TcE59v0F (decide (x0 = (0))))) (us := []) (ps := TcE59v0P) (l := [x0, x1, x2, x3]) ⟨b, (a3 x0 (a3 x1 an)), an, (al rfl an), an, an, an, an⟩ an (al (pz (TcE22_ok) []) (al (pz (TcE57_ok) []) (al (pz (TcE24_ok) []) (al (pz (TcE36_ok) []) (al (pz (TcE26_ok) []) (al (pz (TcE25_ok x2 x3) [.s 2, .s 3]) (al (pz (TcE27_ok) []) (al (pz (TcE58_ok) []) an)))))))) 4 (by simp) (TcE59v0R (decide (x0 = (0)))) (by kernel_rfl)
def TcE60H : List (Nat × B) := [(0, k12n), (1, k110n), (2, k61n), (3, k203n), (4, k40n), (5, k165n), (6, k90n), (7, .smap), (8, k0n), (9, k90n)]
def TcE60 : Sm := ⟨114, [.ptr 0 0, .ptr 1 0, .ptr 2 0, .sl 3 0 1 9, .int .i64 1, .sint .i64 0], 10, TcE60H, .tup [.sl 16 0 1 5, .int .i64 2], 17, TcE60H ++ [(16, k187n)]⟩
def TcE60v0P : List Pur := [⟨269, [k152n], .int .i64 0⟩]
def TcE60v0F : Facts := ⟨[(0, 59), (4602678819172646912, 4605380978949069210), (1, 60)], [⟨.quo, .i64, .s 0, .c (60), .c (0)⟩, ⟨.sub, .i64, .c (60), .s 0, .s 2⟩], [], [], [], [], [], []⟩
theorem TcE60v0R : Sr TcE60 TcE60v0F [] TcE60v0P = true := by kernel_rfl
theorem TcE60_ok (x0 x1 x2 : Int) (b : Gs [(0, 59), (4602678819172646912, 4605380978949069210)] [x0, x1] := by simp only [Gs, and_true]; omega) (n1 : Nr x1 := by assumption) (h2 : x2 = (60) + (-1) * x0 := by omega) (r0 : (1 : Int) ≤ x2 ∧ x2 ≤ 60 := by omega) : TcE60.Ok Tryz.prog (sgl [x0, x1, x2]) := by
  have bb := b
  simp only [Gs, and_true] at bb
  exact sm_signs (F := TcE60v0F) (us := []) (ps := TcE60v0P) (l := [x0, x1, x2]) ⟨gc (gc (gc trivial)), (al (fQ x0 (60) (0)) (al (fS (60) x0 x2) an)), an, an, an, an, an, an⟩ an (al (ck (l := .c (0)) (k := 1) (0) x1) an) 3 (by simp) TcE60v0R (by kernel_rfl)
def TcE61H : List (Nat × B) := [(0, k12n), (1, k36n), (2, k61n), (3, k81n), (4, k40n), (5, k165n), (6, k39n), (7, .smap), (8, k0n), (9, k90n)]
def TcE61 : Sm := ⟨114, [.ptr 0 0, .ptr 1 0, .ptr 2 0, .sl 3 0 1 9, .int .i64 1, .sint .i64 0], 10, TcE61H, k169n, 18, TcE61H ++ [(17, k48n)]⟩
def TcE61v0P : List Pur := [⟨269, [k43n], .int .i64 0⟩]
def TcE61v0F : Facts := ⟨[(0, 59), (1, 30), (4602678819172646912, 4605380978949069210), (1, 60)], [⟨.quo, .i64, .s 0, .c (60), .c (0)⟩, ⟨.sub, .i64, .c (60), .s 0, .s 3⟩], [], [], [], [], [], []⟩
theorem TcE61v0R : Sr TcE61 TcE61v0F [] TcE61v0P = true := by kernel_rfl
theorem TcE61_ok (x0 x1 x2 x3 : Int) (b : Gs [(0, 59), (1, 30), (4602678819172646912, 4605380978949069210)] [x0, x1, x2] := by simp only [Gs, and_true]; omega) (n2 : Nr x2 := by assumption) (h3 : x3 = (60) + (-1) * x0 := by omega) (r0 : (1 : Int) ≤ x3 ∧ x3 ≤ 60 := by omega) : TcE61.Ok Tryz.prog (sgl [x0, x1, x2, x3]) := by
  have bb := b
  simp only [Gs, and_true] at bb
  exact sm_signs (F := TcE61v0F) (us := []) (ps := TcE61v0P) (l := [x0, x1, x2, x3]) ⟨gc (gc (gc (gc trivial))), (al (fQ x0 (60) (0)) (al (fS (60) x0 x3) an)), an, an, an, an, an, an⟩ an (al (ck (l := .c (0)) (k := 2) (0) x2) an) 4 (by simp) TcE61v0R (by kernel_rfl)
def TcE62H : List (Nat × B) := [(0, k12n), (1, k36n), (2, k61n), (3, k81n), (4, k19n), (5, k86n), (6, k90n), (7, .smap), (8, k77n), (9, k156n), (10, k136n), (11, k17n)]
def TcE62 : Sm := ⟨114, [.ptr 0 0, .ptr 1 0, .ptr 2 0, .sl 3 0 1 9, .int .i64 1, .sint .i64 0], 12, TcE62H, k189n, 20, upd TcE62H [(6, k39n)] ++ [(19, k255n)]⟩
def TcE62v0P : List Pur := [⟨239, [.str TcK1ab9], .int .u64 12469191778965217993⟩, ⟨269, [k43n], .int .i64 0⟩]
def TcE62v0F : Facts := ⟨[(0, 59), (1, 30), (4602678819172646912, 4605380978949069210), (1, 30), (1, 60)], [⟨.quo, .i64, .s 0, .c (60), .c (0)⟩, ⟨.sub, .i64, .c (60), .s 0, .s 4⟩], [], [], [], [], [], []⟩
theorem TcE62v0R : Sr TcE62 TcE62v0F [] TcE62v0P = true := by kernel_rfl
theorem TcE62_ok (x0 x1 x2 x3 x4 : Int) (b : Gs [(0, 59), (1, 30), (4602678819172646912, 4605380978949069210), (1, 30)] [x0, x1, x2, x3] := by simp only [Gs, and_true]; omega) (n2 : Nr x2 := by assumption) (h4 : x4 = (60) + (-1) * x0 := by omega) (r0 : (1 : Int) ≤ x4 ∧ x4 ≤ 60 := by omega) : TcE62.Ok Tryz.prog (sgl [x0, x1, x2, x3, x4]) := by
  have bb := b
  simp only [Gs, and_true] at bb
  exact sm_signs (F := TcE62v0F) (us := []) (ps := TcE62v0P) (l := [x0, x1, x2, x3, x4]) ⟨gc (gc (gc (gc (gc trivial)))), (al (fQ x0 (60) (0)) (al (fS (60) x0 x4) an)), an, an, an, an, an, an⟩ an (al (pz (TcE10_ok) []) (al (ck (l := .c (0)) (k := 2) (0) x2) an)) 5 (by simp) TcE62v0R (by kernel_rfl)
def TcE63H : List (Nat × B) := [(0, k12n), (1, k110n), (2, k61n), (3, k203n), (4, k19n), (5, k86n), (6, k90n), (7, .smap), (8, .cells [.bool false, k50n, .int .i64 0, .bool true, .str TcK1ab9, .sint .i64 2, .bool false, k50n, .int .i64 0, .bool false, k50n, .int .i64 0, .bool false, k50n, .int .i64 0, .bool false, k50n, .int .i64 0]), (9, k156n), (10, k136n), (11, k17n)]
def TcE63 : Sm := ⟨114, [.ptr 0 0, .ptr 1 0, .ptr 2 0, .sl 3 0 1 9, .int .i64 1, .sint .i64 0], 12, TcE63H, k168n, 19, TcE63H ++ [(18, k48n)]⟩
def TcE63v0P : List Pur := [⟨239, [.str TcK1ab9], .int .u64 12469191778965217993⟩, ⟨269, [k152n], .int .i64 0⟩]
def TcE63v0F : Facts := ⟨[(0, 59), (4602678819172646912, 4605380978949069210), (1, 30), (1, 60)], [⟨.quo, .i64, .s 0, .c (60), .c (0)⟩, ⟨.sub, .i64, .c (60), .s 0, .s 3⟩], [], [], [], [], [], []⟩
theorem TcE63v0R : Sr TcE63 TcE63v0F [] TcE63v0P = true := by kernel_rfl
theorem TcE63_ok (x0 x1 x2 x3 : Int) (b : Gs [(0, 59), (4602678819172646912, 4605380978949069210), (1, 30)] [x0, x1, x2] := by simp only [Gs, and_true]; omega) (n1 : Nr x1 := by assumption) (h3 : x3 = (60) + (-1) * x0 := by omega) (r0 : (1 : Int) ≤ x3 ∧ x3 ≤ 60 := by omega) : TcE63.Ok Tryz.prog (sgl [x0, x1, x2, x3]) := by
  have bb := b
  simp only [Gs, and_true] at bb
  exact sm_signs (F := TcE63v0F) (us := []) (ps := TcE63v0P) (l := [x0, x1, x2, x3]) ⟨gc (gc (gc (gc trivial))), (al (fQ x0 (60) (0)) (al (fS (60) x0 x3) an)), an, an, an, an, an, an⟩ an (al (pz (TcE10_ok) []) (al (ck (l := .c (0)) (k := 1) (0) x1) an)) 4 (by simp) TcE63v0R (by kernel_rfl)
def TcE64H : List (Nat × B) := [(0, k12n), (1, k36n), (2, k61n), (3, k81n), (4, k19n), (5, k86n), (6, k39n), (7, .smap), (8, k77n), (9, k156n), (10, k136n), (11, k17n)]
def TcE64 : Sm := ⟨114, [.ptr 0 0, .ptr 1 0, .ptr 2 0, .sl 3 0 1 9, .int .i64 1, .sint .i64 0], 12, TcE64H, k189n, 20, TcE64H ++ [(19, k255n)]⟩
def TcE64v0P : List Pur := [⟨269, [k43n], .int .i64 0⟩]
def TcE64v0F : Facts := ⟨[(0, 59), (1, 30), (4602678819172646912, 4605380978949069210), (1, 30), (1, 60)], [⟨.quo, .i64, .s 0, .c (60), .c (0)⟩, ⟨.sub, .i64, .c (60), .s 0, .s 4⟩], [], [], [], [], [], []⟩
theorem TcE64v0R : Sr TcE64 TcE64v0F [] TcE64v0P = true := by kernel_rfl
theorem TcE64_ok (x0 x1 x2 x3 x4 : Int) (b : Gs [(0, 59), (1, 30), (4602678819172646912, 4605380978949069210), (1, 30)] [x0, x1, x2, x3] := by simp only [Gs, and_true]; omega) (n2 : Nr x2 := by assumption) (h4 : x4 = (60) + (-1) * x0 := by omega) (r0 : (1 : Int) ≤ x4 ∧ x4 ≤ 60 := by omega) : TcE64.Ok Tryz.prog (sgl [x0, x1, x2, x3, x4]) := by
  have bb := b
  simp only [Gs, and_true] at bb
  exact sm_signs (F := TcE64v0F) (us := []) (ps := TcE64v0P) (l := [x0, x1, x2, x3, x4]) ⟨gc (gc (gc (gc (gc trivial)))), (al (fQ x0 (60) (0)) (al (fS (60) x0 x4) an)), an, an, an, an, an, an⟩ an (al (ck (l := .c (0)) (k := 2) (0) x2) an) 5 (by simp) TcE64v0R (by kernel_rfl)
def TcE65H : List (Nat × B) := [(0, k190n), (1, k129n), (2, k184n), (3, k172n), (4, k60n), (5, k25n), (6, k249n)]
def TcE65 : Sm := ⟨75, [.ptr 0 0, k191n, .sint .i64 1], 7, TcE65H, k234n, 11, TcE65H ++ [(10, k14n)]⟩
def TcE65v0P : List Pur := [⟨161, [k1n], .bool true⟩, ⟨161, [k3n], .bool true⟩, ⟨210, [k3n], k3n⟩, ⟨210, [k1n], k1n⟩, ⟨210, [k119n], k119n⟩]
def TcE65v0F : Facts := ⟨[(0, 59), (60, 119), (1, 30), (4602678819172646912, 4605380978949069210)], [⟨.quo, .i64, .s 1, .c (60), .c (1)⟩], [], [], [], [], [], []⟩
theorem TcE65v0R : Sr TcE65 TcE65v0F [] TcE65v0P = true := by kernel_rfl
theorem TcE65_ok (x0 x1 x2 x3 : Int) (b : Gs [(0, 59), (60, 119), (1, 30), (4602678819172646912, 4605380978949069210)] [x0, x1, x2, x3] := by simp only [Gs, and_true]; omega) (n3 : Nr x3 := by assumption) : TcE65.Ok Tryz.prog (sgl [x0, x1, x2, x3]) := by
  have bb := b
  simp only [Gs, and_true] at bb
  exact sm_signs (F := TcE65v0F) (us := []) (ps := TcE65v0P) (l := [x0, x1, x2, x3]) ⟨b, (al (fQ x1 (60) (1)) an), an, an, an, an, an, an⟩ an (al (pz (TcE3_ok) []) (al (pz (TcE4_ok) []) (al (pz (TcE6_ok) []) (al (pz (TcE7_ok) []) (al (pz (TcE8_ok) []) an))))) 4 (by simp) TcE65v0R (by kernel_rfl)
end
end Go.Proofs.YtnpkeganpkobjaaGreatDoor.Ev
