import Derived.Test.YtnpkeganpkobjaaGreatDoorXL
import Derived.Test.YtnpkeganpkobjaaGreatDoorCK
set_option linter.all false
namespace Go.Proofs.YtnpkeganpkobjaaGreatDoor.Ev
noncomputable section
def TpK058b : List Nat := [115, 104, 111, 112, 44, 117, 115, 101, 114, 124, 117, 115, 101, 114, 61, 97, 108, 124, 109, 105, 110, 117, 116, 101, 124, 49]
def TpK08f7 : List Nat := [100, 111, 109, 97, 105, 110, 115, 58, 10, 32, 32, 45, 32, 100, 111, 109, 97, 105, 110, 58, 32, 115, 104, 111, 112, 10, 32, 32, 32, 32, 100, 101, 115, 99, 114, 105, 112, 116, 111, 114, 115, 58, 10, 32, 32, 32, 32, 32, 32, 45, 32, 107, 101, 121, 58, 32, 117, 115, 101, 114, 10, 32, 32, 32, 32, 32, 32, 32, 32, 114, 97, 116, 101, 95, 108, 105, 109, 105, 116, 58, 10, 32, 32, 32, 32, 32, 32, 32, 32, 32, 32, 117, 110, 105, 116, 58, 32, 109, 105, 110, 117, 116, 101, 10, 32, 32, 32, 32, 32, 32, 32, 32, 32, 32, 114, 101, 113, 117, 101, 115, 116, 115, 95, 112, 101, 114, 95, 117, 110, 105, 116, 58, 32, 257, 258, 10]
def TpK0d25 : List Nat := [0, 1, 2, 290, 295, 303, 6, 7, 8, 9, 297, 309, 306, 301, 302, 15, 16, 17, 18, 19, 20, 21, 22, 23, 24, 25]
def TpK11ed : List Nat := [32, 32, 32, 32, 32, 32, 32, 32, 32, 32, 110, 101, 97, 114, 58, 32, 48, 46, 53, 10]
def TpK1385 : List Nat := [100, 111, 109, 97, 105, 110, 115, 58, 10, 32, 32, 45, 32, 100, 111, 109, 97, 105, 110, 58, 32, 115, 104, 111, 112, 10, 32, 32, 32, 32, 100, 101, 115, 99, 114, 105, 112, 116, 111, 114, 115, 58, 10, 32, 32, 32, 32, 32, 32, 45, 32, 107, 101, 121, 58, 32, 117, 115, 101, 114, 10, 32, 32, 32, 32, 32, 32, 32, 32, 114, 97, 116, 101, 95, 108, 105, 109, 105, 116, 58, 10, 32, 32, 32, 32, 32, 32, 32, 32, 32, 32, 117, 110, 105, 116, 58, 32, 109, 105, 110, 117, 116, 101, 10, 32, 32, 32, 32, 32, 32, 32, 32, 32, 32, 114, 101, 113, 117, 101, 115, 116, 115, 95, 112, 101, 114, 95, 117, 110, 105, 116, 58, 32, 256, 257, 10, 32, 32, 32, 32, 32, 32, 32, 32, 32, 32, 110, 101, 97, 114, 58, 32, 48, 46, 53, 10]
def TpK1ab9 : List Nat := [115, 104, 111, 112, 44, 117, 115, 101, 114, 124, 117, 115, 101, 114, 61, 97, 108, 124, 109, 105, 110, 117, 116, 101, 124, 48]
def TpK1d14 : List Nat := [100, 111, 109, 97, 105, 110, 115, 58, 10, 32, 32, 45, 32, 100, 111, 109, 97, 105, 110, 58, 32, 115, 104, 111, 112, 10, 32, 32, 32, 32, 100, 101, 115, 99, 114, 105, 112, 116, 111, 114, 115, 58, 10, 32, 32, 32, 32, 32, 32, 45, 32, 107, 101, 121, 58, 32, 117, 115, 101, 114, 10, 32, 32, 32, 32, 32, 32, 32, 32, 114, 97, 116, 101, 95, 108, 105, 109, 105, 116, 58, 10, 32, 32, 32, 32, 32, 32, 32, 32, 32, 32, 117, 110, 105, 116, 58, 32, 109, 105, 110, 117, 116, 101, 10, 32, 32, 32, 32, 32, 32, 32, 32, 32, 32, 114, 101, 113, 117, 101, 115, 116, 115, 95, 112, 101, 114, 95, 117, 110, 105, 116, 58, 32, 48, 10, 32, 32, 32, 32, 32, 32, 32, 32, 32, 32, 110, 101, 97, 114, 58, 32, 48, 46, 53, 10]
def TpK269c : List Nat := [100, 111, 109, 97, 105, 110, 115, 58, 10, 32, 32, 45, 32, 100, 111, 109, 97, 105, 110, 58, 32, 115, 104, 111, 112, 10, 32, 32, 32, 32, 100, 101, 115, 99, 114, 105, 112, 116, 111, 114, 115, 58, 10, 32, 32, 32, 32, 32, 32, 45, 32, 107, 101, 121, 58, 32, 117, 115, 101, 114, 10, 32, 32, 32, 32, 32, 32, 32, 32, 114, 97, 116, 101, 95, 108, 105, 109, 105, 116, 58, 10, 32, 32, 32, 32, 32, 32, 32, 32, 32, 32, 117, 110, 105, 116, 58, 32, 109, 105, 110, 117, 116, 101, 10, 32, 32, 32, 32, 32, 32, 32, 32, 32, 32, 114, 101, 113, 117, 101, 115, 116, 115, 95, 112, 101, 114, 95, 117, 110, 105, 116, 58, 32, 48, 10]
def TpK2a0b : List Nat := [100, 111, 109, 97, 105, 110, 115, 58, 10, 32, 32, 45, 32, 100, 111, 109, 97, 105, 110, 58, 32, 115, 104, 111, 112, 10, 32, 32, 32, 32, 100, 101, 115, 99, 114, 105, 112, 116, 111, 114, 115, 58, 10, 32, 32, 32, 32, 32, 32, 45, 32, 107, 101, 121, 58, 32, 117, 115, 101, 114, 10, 32, 32, 32, 32, 32, 32, 32, 32, 114, 97, 116, 101, 95, 108, 105, 109, 105, 116, 58, 10, 32, 32, 32, 32, 32, 32, 32, 32, 32, 32, 117, 110, 105, 116, 58, 32, 109, 105, 110, 117, 116, 101, 10, 32, 32, 32, 32, 32, 32, 32, 32, 32, 32, 114, 101, 113, 117, 101, 115, 116, 115, 95, 112, 101, 114, 95, 117, 110, 105, 116, 58, 32, 256, 10]
def TpK4be8 : List Nat := [100, 111, 109, 97, 105, 110, 115, 58, 10, 32, 32, 45, 32, 100, 111, 109, 97, 105, 110, 58, 32, 115, 104, 111, 112, 10, 32, 32, 32, 32, 100, 101, 115, 99, 114, 105, 112, 116, 111, 114, 115, 58, 10, 32, 32, 32, 32, 32, 32, 45, 32, 107, 101, 121, 58, 32, 117, 115, 101, 114, 10, 32, 32, 32, 32, 32, 32, 32, 32, 114, 97, 116, 101, 95, 108, 105, 109, 105, 116, 58, 10, 32, 32, 32, 32, 32, 32, 32, 32, 32, 32, 117, 110, 105, 116, 58, 32, 109, 105, 110, 117, 116, 101, 10, 32, 32, 32, 32, 32, 32, 32, 32, 32, 32, 114, 101, 113, 117, 101, 115, 116, 115, 95, 112, 101, 114, 95, 117, 110, 105, 116, 58, 32, 256, 10, 32, 32, 32, 32, 32, 32, 32, 32, 32, 32, 110, 101, 97, 114, 58, 32, 48, 46, 53, 10]
def TpK549d : List Nat := [100, 111, 109, 97, 105, 110, 115, 58, 10, 32, 32, 45, 32, 100, 111, 109, 97, 105, 110, 58, 32, 115, 104, 111, 112, 10, 32, 32, 32, 32, 100, 101, 115, 99, 114, 105, 112, 116, 111, 114, 115, 58, 10, 32, 32, 32, 32, 32, 32, 45, 32, 107, 101, 121, 58, 32, 117, 115, 101, 114, 10, 32, 32, 32, 32, 32, 32, 32, 32, 114, 97, 116, 101, 95, 108, 105, 109, 105, 116, 58, 10, 32, 32, 32, 32, 32, 32, 32, 32, 32, 32, 117, 110, 105, 116, 58, 32, 109, 105, 110, 117, 116, 101, 10, 32, 32, 32, 32, 32, 32, 32, 32, 32, 32, 114, 101, 113, 117, 101, 115, 116, 115, 95, 112, 101, 114, 95, 117, 110, 105, 116, 58, 32, 257, 10]
def TpK6821 : List Nat := [100, 111, 109, 97, 105, 110, 115, 58, 10, 32, 32, 45, 32, 100, 111, 109, 97, 105, 110, 58, 32, 115, 104, 111, 112, 10, 32, 32, 32, 32, 100, 101, 115, 99, 114, 105, 112, 116, 111, 114, 115, 58, 10, 32, 32, 32, 32, 32, 32, 45, 32, 107, 101, 121, 58, 32, 117, 115, 101, 114, 10, 32, 32, 32, 32, 32, 32, 32, 32, 114, 97, 116, 101, 95, 108, 105, 109, 105, 116, 58, 10, 32, 32, 32, 32, 32, 32, 32, 32, 32, 32, 117, 110, 105, 116, 58, 32, 109, 105, 110, 117, 116, 101, 10, 32, 32, 32, 32, 32, 32, 32, 32, 32, 32, 114, 101, 113, 117, 101, 115, 116, 115, 95, 112, 101, 114, 95, 117, 110, 105, 116, 58, 32, 256, 257, 10]
def TpK9b01 : List Nat := [0, 1, 2, 3, 4, 5, 6, 7, 8, 9, 10, 11, 12, 13, 14, 15, 16, 17, 18, 19, 20, 21, 22, 23, 24, 25]
def TpKf433 : List Nat := [16, 13, 15, 256, 261, 269, 10, 8, 12, 14, 263, 275, 272, 267, 268, 9, 5, 7, 11, 18, 4, 6, 296, 0, 0, 0]
end
end Go.Proofs.YtnpkeganpkobjaaGreatDoor.Ev
namespace Go.Proofs.YtnpkeganpkobjaaGreatDoor.Ev
set_option maxRecDepth 100000
set_option maxHeartbeats 4000000
open Go Go.RowKit
noncomputable section
def TpE0 : Sm := ⟨9, [.sint .i64 0, k50n], 0, [], .sl 0 0 136 1, 1, [(0, .cells (u8s [100, 111, 109, 97, 105, 110, 115, 58, 10, 32, 32, 45, 32, 100, 111, 109, 97, 105, 110, 58, 32, 115, 104, 111, 112, 10, 32, 32, 32, 32, 100, 101, 115, 99, 114, 105, 112, 116, 111, 114, 115, 58, 10, 32, 32, 32, 32, 32, 32, 45, 32, 107, 101, 121, 58, 32, 117, 115, 101, 114, 10, 32, 32, 32, 32, 32, 32, 32, 32, 114, 97, 116, 101, 95, 108, 105, 109, 105, 116, 58, 10, 32, 32, 32, 32, 32, 32, 32, 32, 32, 32, 117, 110, 105, 116, 58, 32, 109, 105, 110, 117, 116, 101, 10, 32, 32, 32, 32, 32, 32, 32, 32, 32, 32, 114, 101, 113, 117, 101, 115, 116, 115, 95, 112, 101, 114, 95, 117, 110, 105, 116, 58, 32, 260, 258, 10]))]⟩
def TpE0v0U : List Use := []
def TpE0v0P : List Pur := []
def TpE0v0F : Facts := ⟨[(1, 30), (0, 9), (48, 57), (0, 3), (48, 51)], [⟨.rem, .i64, .s 0, .c (10), .s 1⟩, ⟨.add, .i64, .c (48), .s 1, .s 2⟩, ⟨.quo, .i64, .s 0, .c (10), .s 3⟩, ⟨.rem, .i64, .s 3, .c (10), .s 3⟩, ⟨.add, .i64, .c (48), .s 3, .s 4⟩, ⟨.quo, .i64, .s 3, .c (10), .c (0)⟩], [⟨.c (0), .s 3, true⟩], [], [], [], [], []⟩
theorem TpE0v0R : smOk TpE0 (callS TpE0v0F TpE0v0U TpE0v0P TpE0.f TpE0.args (mkSt TpE0.h0 TpE0.n0)) = true := by kernel_rfl
theorem TpE0_ok (x0 x1 x2 x3 x4 : Int) (b : Gs [(1, 30)] [x0] := by simp only [Gs, and_true]; omega) (h1 : x1 = x0 % (10) := by omega) (h2 : x2 = (48) + x1 := by omega) (h3 : x3 = x0 / (10) := by omega) (h4 : x4 = (48) + x3 := by omega) (r0 : (0) < x3 := by omega) (r1 : (0 : Int) ≤ x1 ∧ x1 ≤ 9 := by omega) (r2 : (48 : Int) ≤ x2 ∧ x2 ≤ 57 := by omega) (r3 : (0 : Int) ≤ x3 ∧ x3 ≤ 3 := by omega) (r4 : (48 : Int) ≤ x4 ∧ x4 ≤ 51 := by omega) : TpE0.Ok Tryz.prog (sgl [x0, x1, x2, x3, x4]) := by
  have bb := b
  simp only [Gs, and_true] at bb
  exact sm_signs (F := TpE0v0F) (us := TpE0v0U) (ps := TpE0v0P) (l := [x0, x1, x2, x3, x4]) ⟨gc (gc (gc (gc (gc trivial)))), (al (fR x0 (10) x1) (al (fA (48) x1 x2) (al (fQ x0 (10) x3) (al (fR x3 (10) x3) (al (fA (48) x3 x4) (al (fQ x3 (10) (0)) an)))))), (al (fT (0) x3) an), an, an, an, an, an⟩ an an 5 (by simp) TpE0v0R (by kernel_rfl)
def TpE1 : Sm := ⟨25, [k126n], 0, [], .tup [.ptr 14 0, .int .i64 0], 15, [(14, k298n), (11, .cells [.nils, .nils, .nilp, .ptr 8 0, .int .i64 0, .int .i64 100, .int .i64 1, .int .i64 3, .sint .i64 0, .int .i64 1, .bool false, .ptr 6 0, .ptr 10 0]), (13, .cells [.int .i64 100, .sl 12 0 1 1]), (8, k61n), (6, .cells [.int .i64 3, .ptr 3 0, .ptr 5 0]), (10, .cells [.sint .i64 0, .map 9]), (12, .cells [.nilp]), (7, k90n), (3, .cells [.int .i64 3, .int .i64 0, .sl 2 0 6 3]), (5, .cells [.nils, .map 4]), (9, k90n), (2, k0n), (4, k90n)]⟩
def TpE1v0U : List Use := []
def TpE1v0P : List Pur := []
def TpE1v0F : Facts := ⟨[(0, 30)], [], [], [], [], [], [], []⟩
theorem TpE1v0R : smOk TpE1 (callS TpE1v0F TpE1v0U TpE1v0P TpE1.f TpE1.args (mkSt TpE1.h0 TpE1.n0)) = true := by kernel_rfl
theorem TpE1_ok (x0 : Int) (b : Gs [(0, 30)] [x0] := by simp only [Gs, and_true]; omega) : TpE1.Ok Tryz.prog (sgl [x0]) := by
  have bb := b
  simp only [Gs, and_true] at bb
  exact sm_signs (F := TpE1v0F) (us := TpE1v0U) (ps := TpE1v0P) (l := [x0]) ⟨b, an, an, an, an, an, an, an⟩ an an 1 (by simp) TpE1v0R (by kernel_rfl)
def TpE2 (n : Nat) : Sm := ⟨253, [k163n], 0, [], k104n, n, []⟩
def TpE2v0U : List Use := []
def TpE2v0P : List Pur := []
def TpE2v0F : Facts := ⟨[], [], [], [], [], [], [], []⟩
theorem TpE2v0R : ∃ n, smOk (TpE2 n) (callS TpE2v0F TpE2v0U TpE2v0P 253 [k163n] (mkSt [] 0)) = true := by
  exact ⟨match (callS TpE2v0F TpE2v0U TpE2v0P 253 [k163n] (mkSt [] 0)) with | some r => r.2.next | none => 0, by kernel_rfl⟩
theorem TpE2_ok : ∃ n, (TpE2 n).Ok Tryz.prog (sgl []) := by
  obtain ⟨n, hn⟩ := TpE2v0R
  exact ⟨n, sm_signs (F := TpE2v0F) (us := TpE2v0U) (ps := TpE2v0P) (l := []) ⟨trivial, an, an, an, an, an, an, an⟩ an an 0 (by simp) hn (by kernel_rfl)⟩
def TpE3 (n : Nat) : Sm := ⟨161, [k1n], 0, [], .bool true, n, []⟩
def TpE3v0U : List Use := []
def TpE3v0P : List Pur := []
def TpE3v0F : Facts := ⟨[], [], [], [], [], [], [], []⟩
theorem TpE3v0R : ∃ n, smOk (TpE3 n) (callS TpE3v0F TpE3v0U TpE3v0P 161 [k1n] (mkSt [] 0)) = true := by
  exact ⟨match (callS TpE3v0F TpE3v0U TpE3v0P 161 [k1n] (mkSt [] 0)) with | some r => r.2.next | none => 0, by kernel_rfl⟩
theorem TpE3_ok : ∃ n, (TpE3 n).Ok Tryz.prog (sgl []) := by
  obtain ⟨n, hn⟩ := TpE3v0R
  exact ⟨n, sm_signs (F := TpE3v0F) (us := TpE3v0U) (ps := TpE3v0P) (l := []) ⟨trivial, an, an, an, an, an, an, an⟩ an an 0 (by simp) hn (by kernel_rfl)⟩
def TpE4 (n : Nat) : Sm := ⟨161, [k3n], 0, [], .bool true, n, []⟩
def TpE4v0U : List Use := []
def TpE4v0P : List Pur := []
def TpE4v0F : Facts := ⟨[], [], [], [], [], [], [], []⟩
theorem TpE4v0R : ∃ n, smOk (TpE4 n) (callS TpE4v0F TpE4v0U TpE4v0P 161 [k3n] (mkSt [] 0)) = true := by
  exact ⟨match (callS TpE4v0F TpE4v0U TpE4v0P 161 [k3n] (mkSt [] 0)) with | some r => r.2.next | none => 0, by kernel_rfl⟩
theorem TpE4_ok : ∃ n, (TpE4 n).Ok Tryz.prog (sgl []) := by
  obtain ⟨n, hn⟩ := TpE4v0R
  exact ⟨n, sm_signs (F := TpE4v0F) (us := TpE4v0U) (ps := TpE4v0P) (l := []) ⟨trivial, an, an, an, an, an, an, an⟩ an an 0 (by simp) hn (by kernel_rfl)⟩
def TpE5 (n : Nat) : Sm := ⟨423, [k193n], 0, [], k285n, n, []⟩
def TpE5v0U : List Use := []
def TpE5v0P : List Pur := []
def TpE5v0F : Facts := ⟨[(49, 57), (48, 57), (10, 99), (1, 9), (4611686018427387895, 4611686018427387903), (10, 90), (0, 9), (4611686018427387895, 4611686018427387904)], [⟨.sub, .i32, .s 0, .c (48), .s 3⟩, ⟨.sub, .i64, .c (4611686018427387904), .s 3, .s 4⟩, ⟨.add, .i64, .c (0), .s 3, .s 3⟩, ⟨.mul, .i64, .s 3, .c (10), .s 5⟩, ⟨.sub, .i32, .s 1, .c (48), .s 6⟩, ⟨.sub, .i64, .c (4611686018427387904), .s 6, .s 7⟩, ⟨.add, .i64, .s 5, .s 6, .s 2⟩, ⟨.rem, .i64, .s 2, .c (10), .s 6⟩, ⟨.add, .i64, .c (48), .s 6, .s 1⟩, ⟨.quo, .i64, .s 2, .c (10), .s 3⟩, ⟨.rem, .i64, .s 3, .c (10), .s 3⟩, ⟨.add, .i64, .c (48), .s 3, .s 0⟩, ⟨.quo, .i64, .s 3, .c (10), .c (0)⟩], [], [], [], [], [], []⟩
theorem TpE5v0R : ∃ n, smOk (TpE5 n) (callS TpE5v0F TpE5v0U TpE5v0P 423 [k193n] (mkSt [] 0)) = true := by
  exact ⟨match (callS TpE5v0F TpE5v0U TpE5v0P 423 [k193n] (mkSt [] 0)) with | some r => r.2.next | none => 0, by kernel_rfl⟩
theorem TpE5_ok (x0 x1 x2 : Int) (b : Gs [(49, 57), (48, 57)] [x0, x1] := by simp only [Gs, and_true]; omega) (h2 : x2 = (-528) + (10) * x0 + x1 := by omega) (r0 : (10 : Int) ≤ x2 ∧ x2 ≤ 99 := by omega) : ∃ n, (TpE5 n).Ok Tryz.prog (sgl [x0, x1, x2]) := by
  have bb := b
  simp only [Gs, and_true] at bb
  obtain ⟨y3, h3⟩ := ex ((-48) + x0)
  obtain ⟨y4, h4⟩ := ex ((4611686018427387952) + (-1) * x0)
  obtain ⟨y5, h5⟩ := ex ((-480) + (10) * x0)
  obtain ⟨y6, h6⟩ := ex ((-48) + x1)
  obtain ⟨y7, h7⟩ := ex ((4611686018427387952) + (-1) * x1)
  obtain ⟨n, hn⟩ := TpE5v0R
  exact ⟨n, sm_signs (F := TpE5v0F) (us := TpE5v0U) (ps := TpE5v0P) (l := [x0, x1, x2, y3, y4, y5, y6, y7]) ⟨gc (gc (gc (gc (gc (gc (gc (gc trivial))))))), (al (fk_sub (show y3 = x0 - (48) by omega) (show (-2147483648 : Int) ≤ y3 by omega) (show y3 ≤ (2147483647 : Int) by omega)) (al (fS (4611686018427387904) y3 y4) (al (fA (0) y3 y3) (al (fk_mul (show y5 = y3 * (10) by omega) (show (-9223372036854775808 : Int) ≤ y5 by omega) (show y5 ≤ (9223372036854775807 : Int) by omega)) (al (fk_sub (show y6 = x1 - (48) by omega) (show (-2147483648 : Int) ≤ y6 by omega) (show y6 ≤ (2147483647 : Int) by omega)) (al (fS (4611686018427387904) y6 y7) (al (fA y5 y6 x2) (al (fR x2 (10) y6) (al (fA (48) y6 x1) (al (fQ x2 (10) y3) (al (fR y3 (10) y3) (al (fA (48) y3 x0) (al (fQ y3 (10) (0)) an))))))))))))), an, an, an, an, an, an⟩ an an 3 (by simp) hn (by kernel_rfl)⟩
def TpE6 : Sm := ⟨108, [.sl 0 0 136 1], 1, [(0, .cells (u8s TpK6821))], k140n, 224, [(221, k100n), (216, k256n), (0, .cells (u8s TpK6821)), (223, k18n)]⟩
def TpE6v0U : List Use := []
def TpE6v0P : List Pur := [⟨253, [k163n], k104n⟩, ⟨161, [k1n], .bool true⟩, ⟨161, [k3n], .bool true⟩, ⟨423, [k193n], k285n⟩]
def TpE6v0F : Facts := ⟨[(49, 57), (48, 57), (10, 99)], [], [], [], [], [], [], []⟩
theorem TpE6v0R : smOk TpE6 (callS TpE6v0F TpE6v0U TpE6v0P TpE6.f TpE6.args (mkSt TpE6.h0 TpE6.n0)) = true := by kernel_rfl
theorem TpE6_ok (x0 x1 x2 : Int) (b : Gs [(49, 57), (48, 57)] [x0, x1] := by simp only [Gs, and_true]; omega) (h2 : x2 = (-528) + (10) * x0 + x1 := by omega) (r0 : (10 : Int) ≤ x2 ∧ x2 ≤ 99 := by omega) : TpE6.Ok Tryz.prog (sgl [x0, x1, x2]) := by
  have bb := b
  simp only [Gs, and_true] at bb
  exact sm_signs (F := TpE6v0F) (us := TpE6v0U) (ps := TpE6v0P) (l := [x0, x1, x2]) ⟨gc (gc (gc trivial)), an, an, an, an, an, an, an⟩ an (al (pz (TpE2_ok) []) (al (pz (TpE3_ok) []) (al (pz (TpE4_ok) []) (al (pz (TpE5_ok x0 x1 x2) [.s 0, .s 1, .s 2]) an)))) 3 (by simp) TpE6v0R (by kernel_rfl)
def TpE7 (n : Nat) : Sm := ⟨225, [.flt 4605380978949069210], 0, [], k215n, n, []⟩
def TpE7v0U : List Use := []
def TpE7v0P : List Pur := []
def TpE7v0F : Facts := ⟨[], [], [], [], [], [], [], []⟩
theorem TpE7v0R : ∃ n, smOk (TpE7 n) (callS TpE7v0F TpE7v0U TpE7v0P 225 [.flt 4605380978949069210] (mkSt [] 0)) = true := by
  exact ⟨match (callS TpE7v0F TpE7v0U TpE7v0P 225 [.flt 4605380978949069210] (mkSt [] 0)) with | some r => r.2.next | none => 0, by kernel_rfl⟩
theorem TpE7_ok : ∃ n, (TpE7 n).Ok Tryz.prog (sgl []) := by
  obtain ⟨n, hn⟩ := TpE7v0R
  exact ⟨n, sm_signs (F := TpE7v0F) (us := TpE7v0U) (ps := TpE7v0P) (l := []) ⟨trivial, an, an, an, an, an, an, an⟩ an an 0 (by simp) hn (by kernel_rfl)⟩
def TpE8 (n : Nat) : Sm := ⟨253, [k180n], 0, [], k264n, n, []⟩
def TpE8v0U : List Use := []
def TpE8v0P : List Pur := []
def TpE8v0F : Facts := ⟨[], [], [], [], [], [], [], []⟩
theorem TpE8v0R : ∃ n, smOk (TpE8 n) (callS TpE8v0F TpE8v0U TpE8v0P 253 [k180n] (mkSt [] 0)) = true := by
  exact ⟨match (callS TpE8v0F TpE8v0U TpE8v0P 253 [k180n] (mkSt [] 0)) with | some r => r.2.next | none => 0, by kernel_rfl⟩
theorem TpE8_ok : ∃ n, (TpE8 n).Ok Tryz.prog (sgl []) := by
  obtain ⟨n, hn⟩ := TpE8v0R
  exact ⟨n, sm_signs (F := TpE8v0F) (us := TpE8v0U) (ps := TpE8v0P) (l := []) ⟨trivial, an, an, an, an, an, an, an⟩ an an 0 (by simp) hn (by kernel_rfl)⟩
def TpE9 (n : Nat) : Sm := ⟨327, [.flt 4605380978949069210, .flt 0], 0, [], .bool false, n, []⟩
def TpE9v0U : List Use := []
def TpE9v0P : List Pur := []
def TpE9v0F : Facts := ⟨[], [], [], [], [], [], [], []⟩
theorem TpE9v0R : ∃ n, smOk (TpE9 n) (callS TpE9v0F TpE9v0U TpE9v0P 327 [.flt 4605380978949069210, .flt 0] (mkSt [] 0)) = true := by
  exact ⟨match (callS TpE9v0F TpE9v0U TpE9v0P 327 [.flt 4605380978949069210, .flt 0] (mkSt [] 0)) with | some r => r.2.next | none => 0, by kernel_rfl⟩
theorem TpE9_ok : ∃ n, (TpE9 n).Ok Tryz.prog (sgl []) := by
  obtain ⟨n, hn⟩ := TpE9v0R
  exact ⟨n, sm_signs (F := TpE9v0F) (us := TpE9v0U) (ps := TpE9v0P) (l := []) ⟨trivial, an, an, an, an, an, an, an⟩ an an 0 (by simp) hn (by kernel_rfl)⟩
def TpE10 (n : Nat) : Sm := ⟨253, [.str [49]], 0, [], k198n, n, []⟩
def TpE10v0U : List Use := []
def TpE10v0P : List Pur := []
def TpE10v0F : Facts := ⟨[], [], [], [], [], [], [], []⟩
theorem TpE10v0R : ∃ n, smOk (TpE10 n) (callS TpE10v0F TpE10v0U TpE10v0P 253 [.str [49]] (mkSt [] 0)) = true := by
  exact ⟨match (callS TpE10v0F TpE10v0U TpE10v0P 253 [.str [49]] (mkSt [] 0)) with | some r => r.2.next | none => 0, by kernel_rfl⟩
theorem TpE10_ok : ∃ n, (TpE10 n).Ok Tryz.prog (sgl []) := by
  obtain ⟨n, hn⟩ := TpE10v0R
  exact ⟨n, sm_signs (F := TpE10v0F) (us := TpE10v0U) (ps := TpE10v0P) (l := []) ⟨trivial, an, an, an, an, an, an, an⟩ an an 0 (by simp) hn (by kernel_rfl)⟩
def TpE11 (n : Nat) : Sm := ⟨327, [.flt 4605380978949069210, .flt 4607182418800017408], 0, [], .bool false, n, []⟩
def TpE11v0U : List Use := []
def TpE11v0P : List Pur := []
def TpE11v0F : Facts := ⟨[], [], [], [], [], [], [], []⟩
theorem TpE11v0R : ∃ n, smOk (TpE11 n) (callS TpE11v0F TpE11v0U TpE11v0P 327 [.flt 4605380978949069210, .flt 4607182418800017408] (mkSt [] 0)) = true := by
  exact ⟨match (callS TpE11v0F TpE11v0U TpE11v0P 327 [.flt 4605380978949069210, .flt 4607182418800017408] (mkSt [] 0)) with | some r => r.2.next | none => 0, by kernel_rfl⟩
theorem TpE11_ok : ∃ n, (TpE11 n).Ok Tryz.prog (sgl []) := by
  obtain ⟨n, hn⟩ := TpE11v0R
  exact ⟨n, sm_signs (F := TpE11v0F) (us := TpE11v0U) (ps := TpE11v0P) (l := []) ⟨trivial, an, an, an, an, an, an, an⟩ an an 0 (by simp) hn (by kernel_rfl)⟩
def TpE12 (n : Nat) : Sm := ⟨253, [k300n], 0, [], k241n, n, []⟩
def TpE12v0U : List Use := []
def TpE12v0P : List Pur := []
def TpE12v0F : Facts := ⟨[], [], [], [], [], [], [], []⟩
theorem TpE12v0R : ∃ n, smOk (TpE12 n) (callS TpE12v0F TpE12v0U TpE12v0P 253 [k300n] (mkSt [] 0)) = true := by
  exact ⟨match (callS TpE12v0F TpE12v0U TpE12v0P 253 [k300n] (mkSt [] 0)) with | some r => r.2.next | none => 0, by kernel_rfl⟩
theorem TpE12_ok : ∃ n, (TpE12 n).Ok Tryz.prog (sgl []) := by
  obtain ⟨n, hn⟩ := TpE12v0R
  exact ⟨n, sm_signs (F := TpE12v0F) (us := TpE12v0U) (ps := TpE12v0P) (l := []) ⟨trivial, an, an, an, an, an, an, an⟩ an an 0 (by simp) hn (by kernel_rfl)⟩
def TpE13 (n : Nat) : Sm := ⟨327, [.flt 4605380978949069210, .flt 4604480259023595110], 0, [], .bool false, n, []⟩
def TpE13v0U : List Use := []
def TpE13v0P : List Pur := []
def TpE13v0F : Facts := ⟨[], [], [], [], [], [], [], []⟩
theorem TpE13v0R : ∃ n, smOk (TpE13 n) (callS TpE13v0F TpE13v0U TpE13v0P 327 [.flt 4605380978949069210, .flt 4604480259023595110] (mkSt [] 0)) = true := by
  exact ⟨match (callS TpE13v0F TpE13v0U TpE13v0P 327 [.flt 4605380978949069210, .flt 4604480259023595110] (mkSt [] 0)) with | some r => r.2.next | none => 0, by kernel_rfl⟩
theorem TpE13_ok : ∃ n, (TpE13 n).Ok Tryz.prog (sgl []) := by
  obtain ⟨n, hn⟩ := TpE13v0R
  exact ⟨n, sm_signs (F := TpE13v0F) (us := TpE13v0U) (ps := TpE13v0P) (l := []) ⟨trivial, an, an, an, an, an, an, an⟩ an an 0 (by simp) hn (by kernel_rfl)⟩
def TpE14 (n : Nat) : Sm := ⟨327, [.flt 4605380978949069210, .flt 4605380978949069210], 0, [], .bool true, n, []⟩
def TpE14v0U : List Use := []
def TpE14v0P : List Pur := []
def TpE14v0F : Facts := ⟨[], [], [], [], [], [], [], []⟩
theorem TpE14v0R : ∃ n, smOk (TpE14 n) (callS TpE14v0F TpE14v0U TpE14v0P 327 [.flt 4605380978949069210, .flt 4605380978949069210] (mkSt [] 0)) = true := by
  exact ⟨match (callS TpE14v0F TpE14v0U TpE14v0P 327 [.flt 4605380978949069210, .flt 4605380978949069210] (mkSt [] 0)) with | some r => r.2.next | none => 0, by kernel_rfl⟩
theorem TpE14_ok : ∃ n, (TpE14 n).Ok Tryz.prog (sgl []) := by
  obtain ⟨n, hn⟩ := TpE14v0R
  exact ⟨n, sm_signs (F := TpE14v0F) (us := TpE14v0U) (ps := TpE14v0P) (l := []) ⟨trivial, an, an, an, an, an, an, an⟩ an an 0 (by simp) hn (by kernel_rfl)⟩
def TpE15 (n : Nat) : Sm := ⟨365, [.flt 4605380978949069210], 0, [], k240n, n, []⟩
def TpE15v0U : List Use := []
def TpE15v0P : List Pur := [⟨225, [.flt 4605380978949069210], k215n⟩, ⟨253, [k180n], k264n⟩, ⟨327, [.flt 4605380978949069210, .flt 0], .bool false⟩, ⟨253, [.str [49]], k198n⟩, ⟨327, [.flt 4605380978949069210, .flt 4607182418800017408], .bool false⟩, ⟨253, [k300n], k241n⟩, ⟨327, [.flt 4605380978949069210, .flt 4604480259023595110], .bool false⟩, ⟨253, [k163n], k104n⟩, ⟨327, [.flt 4605380978949069210, .flt 4605380978949069210], .bool true⟩]
def TpE15v0F : Facts := ⟨[], [], [], [], [], [], [], []⟩
theorem TpE15v0R : ∃ n, smOk (TpE15 n) (callS TpE15v0F TpE15v0U TpE15v0P 365 [.flt 4605380978949069210] (mkSt [] 0)) = true := by
  exact ⟨match (callS TpE15v0F TpE15v0U TpE15v0P 365 [.flt 4605380978949069210] (mkSt [] 0)) with | some r => r.2.next | none => 0, by kernel_rfl⟩
theorem TpE15_ok : ∃ n, (TpE15 n).Ok Tryz.prog (sgl []) := by
  obtain ⟨n, hn⟩ := TpE15v0R
  exact ⟨n, sm_signs (F := TpE15v0F) (us := TpE15v0U) (ps := TpE15v0P) (l := []) ⟨trivial, an, an, an, an, an, an, an⟩ an (al (pz (TpE7_ok) []) (al (pz (TpE8_ok) []) (al (pz (TpE9_ok) []) (al (pz (TpE10_ok) []) (al (pz (TpE11_ok) []) (al (pz (TpE12_ok) []) (al (pz (TpE13_ok) []) (al (pz (TpE2_ok) []) (al (pz (TpE14_ok) []) an))))))))) 0 (by simp) hn (by kernel_rfl)⟩
def TpE16 : Sm := ⟨109, [k171n], 3, [(0, k128n), (1, k26n), (2, k18n)], k186n, 13, [(6, k109n), (0, k128n), (1, k26n), (2, k18n), (12, k26n), (9, k172n), (4, k60n), (5, k25n)]⟩
def TpE16v0U : List Use := []
def TpE16v0P : List Pur := [⟨161, [k1n], .bool true⟩, ⟨161, [k3n], .bool true⟩, ⟨365, [.flt 4605380978949069210], k240n⟩]
def TpE16v0F : Facts := ⟨[(1, 99)], [], [], [], [], [], [], []⟩
theorem TpE16v0R : smOk TpE16 (callS TpE16v0F TpE16v0U TpE16v0P TpE16.f TpE16.args (mkSt TpE16.h0 TpE16.n0)) = true := by kernel_rfl
theorem TpE16_ok (x0 : Int) (b : Gs [(1, 99)] [x0] := by simp only [Gs, and_true]; omega) : TpE16.Ok Tryz.prog (sgl [x0]) := by
  have bb := b
  simp only [Gs, and_true] at bb
  exact sm_signs (F := TpE16v0F) (us := TpE16v0U) (ps := TpE16v0P) (l := [x0]) ⟨b, an, an, an, an, an, an, an⟩ an (al (pz (TpE3_ok) []) (al (pz (TpE4_ok) []) (al (pz (TpE15_ok) []) an))) 1 (by simp) TpE16v0R (by kernel_rfl)
def TpE17 : Sm := ⟨8, [k126n, .sl 0 0 136 1], 1, [(0, .cells (u8s TpK08f7))], .ptr 16 0, 296, [(16, k124n), (0, .cells (u8s TpK08f7)), (13, k93n), (15, k175n), (256, k205n), (261, k174n), (269, k116n), (10, k297n), (8, k164n), (12, k296n), (14, k259n), (263, k18n), (275, k174n), (272, k172n), (267, k60n), (268, k25n), (9, k159n), (5, k142n), (7, k226n), (11, k90n), (18, k160n), (4, k0n), (6, k90n)]⟩
def TpE17v0U : List Use := [⟨TpE1, 2, [], [.s 0]⟩, ⟨TpE6, 41, [38], [.s 1, .s 2, .s 3]⟩, ⟨TpE16, 266, [256, 261, 263], [.s 3]⟩]
def TpE17v0P : List Pur := []
def TpE17v0F : Facts := ⟨[(0, 30), (49, 57), (48, 57), (10, 99)], [], [], [], [], [], [], []⟩
theorem TpE17v0R : smOk TpE17 (callS TpE17v0F TpE17v0U TpE17v0P TpE17.f TpE17.args (mkSt TpE17.h0 TpE17.n0)) = true := by kernel_rfl
theorem TpE17_ok (x0 x1 x2 x3 : Int) (b : Gs [(0, 30), (49, 57), (48, 57)] [x0, x1, x2] := by simp only [Gs, and_true]; omega) (h3 : x3 = (-528) + (10) * x1 + x2 := by omega) (r0 : (10 : Int) ≤ x3 ∧ x3 ≤ 99 := by omega) : TpE17.Ok Tryz.prog (sgl [x0, x1, x2, x3]) := by
  have bb := b
  simp only [Gs, and_true] at bb
  exact sm_signs (F := TpE17v0F) (us := TpE17v0U) (ps := TpE17v0P) (l := [x0, x1, x2, x3]) ⟨gc (gc (gc (gc trivial))), an, an, an, an, an, an, an⟩ (al (ue (TpE1_ok x0)) (al (ue (TpE6_ok x1 x2 x3)) (al (ue (TpE16_ok x3)) an))) an 4 (by simp) TpE17v0R (by kernel_rfl)
def TpE18 : Sm := ⟨9, [.sint .i64 0, k50n], 0, [], .sl 0 0 135 1, 1, [(0, .cells (u8s [100, 111, 109, 97, 105, 110, 115, 58, 10, 32, 32, 45, 32, 100, 111, 109, 97, 105, 110, 58, 32, 115, 104, 111, 112, 10, 32, 32, 32, 32, 100, 101, 115, 99, 114, 105, 112, 116, 111, 114, 115, 58, 10, 32, 32, 32, 32, 32, 32, 45, 32, 107, 101, 121, 58, 32, 117, 115, 101, 114, 10, 32, 32, 32, 32, 32, 32, 32, 32, 114, 97, 116, 101, 95, 108, 105, 109, 105, 116, 58, 10, 32, 32, 32, 32, 32, 32, 32, 32, 32, 32, 117, 110, 105, 116, 58, 32, 109, 105, 110, 117, 116, 101, 10, 32, 32, 32, 32, 32, 32, 32, 32, 32, 32, 114, 101, 113, 117, 101, 115, 116, 115, 95, 112, 101, 114, 95, 117, 110, 105, 116, 58, 32, 258, 10]))]⟩
def TpE18v0U : List Use := []
def TpE18v0P : List Pur := []
def TpE18v0F : Facts := ⟨[(1, 30), (0, 9), (48, 57), (0, 3)], [⟨.rem, .i64, .s 0, .c (10), .s 1⟩, ⟨.add, .i64, .c (48), .s 1, .s 2⟩, ⟨.quo, .i64, .s 0, .c (10), .s 3⟩], [⟨.c (0), .s 3, false⟩], [], [], [], [], []⟩
theorem TpE18v0R : smOk TpE18 (callS TpE18v0F TpE18v0U TpE18v0P TpE18.f TpE18.args (mkSt TpE18.h0 TpE18.n0)) = true := by kernel_rfl
theorem TpE18_ok (x0 x1 x2 : Int) (b : Gs [(1, 30)] [x0] := by simp only [Gs, and_true]; omega) (h1 : x1 = x0 % (10) := by omega) (h2 : x2 = (48) + x1 := by omega) (r0 : (0 : Int) ≤ x1 ∧ x1 ≤ 9 := by omega) (r1 : (48 : Int) ≤ x2 ∧ x2 ≤ 57 := by omega) (r2 : (x0 / (10)) ≤ (0) := by omega) : TpE18.Ok Tryz.prog (sgl [x0, x1, x2]) := by
  have bb := b
  simp only [Gs, and_true] at bb
  obtain ⟨y3, h3⟩ := ex (x0 / (10))
  exact sm_signs (F := TpE18v0F) (us := TpE18v0U) (ps := TpE18v0P) (l := [x0, x1, x2, y3]) ⟨gc (gc (gc (gc trivial))), (al (fR x0 (10) x1) (al (fA (48) x1 x2) (al (fQ x0 (10) y3) an))), (al (fN (0) y3) an), an, an, an, an, an⟩ an an 3 (by simp) TpE18v0R (by kernel_rfl)
def TpE19 (n : Nat) : Sm := ⟨423, [k258n], 0, [], k286n, n, []⟩
def TpE19v0U : List Use := []
def TpE19v0P : List Pur := []
def TpE19v0F : Facts := ⟨[(49, 57), (1, 9), (4611686018427387895, 4611686018427387903)], [⟨.sub, .i32, .s 0, .c (48), .s 1⟩, ⟨.sub, .i64, .c (4611686018427387904), .s 1, .s 2⟩, ⟨.add, .i64, .c (0), .s 1, .s 1⟩, ⟨.rem, .i64, .s 1, .c (10), .s 1⟩, ⟨.add, .i64, .c (48), .s 1, .s 0⟩, ⟨.quo, .i64, .s 1, .c (10), .c (0)⟩], [], [], [], [], [], []⟩
theorem TpE19v0R : ∃ n, smOk (TpE19 n) (callS TpE19v0F TpE19v0U TpE19v0P 423 [k258n] (mkSt [] 0)) = true := by
  exact ⟨match (callS TpE19v0F TpE19v0U TpE19v0P 423 [k258n] (mkSt [] 0)) with | some r => r.2.next | none => 0, by kernel_rfl⟩
theorem TpE19_ok (x0 x1 : Int) (b : Gs [(49, 57)] [x0] := by simp only [Gs, and_true]; omega) (h1 : x1 = (-48) + x0 := by omega) (r0 : (1 : Int) ≤ x1 ∧ x1 ≤ 9 := by omega) : ∃ n, (TpE19 n).Ok Tryz.prog (sgl [x0, x1]) := by
  have bb := b
  simp only [Gs, and_true] at bb
  obtain ⟨y2, h2⟩ := ex ((4611686018427387952) + (-1) * x0)
  obtain ⟨n, hn⟩ := TpE19v0R
  exact ⟨n, sm_signs (F := TpE19v0F) (us := TpE19v0U) (ps := TpE19v0P) (l := [x0, x1, y2]) ⟨gc (gc (gc trivial)), (al (fk_sub (show x1 = x0 - (48) by omega) (show (-2147483648 : Int) ≤ x1 by omega) (show x1 ≤ (2147483647 : Int) by omega)) (al (fS (4611686018427387904) x1 y2) (al (fA (0) x1 x1) (al (fR x1 (10) x1) (al (fA (48) x1 x0) (al (fQ x1 (10) (0)) an)))))), an, an, an, an, an, an⟩ an an 2 (by simp) hn (by kernel_rfl)⟩
def TpE20 : Sm := ⟨108, [.sl 0 0 135 1], 1, [(0, .cells (u8s TpK2a0b))], k140n, 224, [(221, .cells [k3n, k50n, .bool true, .int .i64 0, .int .i64 (-1), .bool true, k50n, .int .i64 2, .sint .i64 1, .flt 4605380978949069210, .bool false, .bool false, .nils]), (216, k256n), (0, .cells (u8s TpK2a0b)), (223, k18n)]⟩
def TpE20v0U : List Use := []
def TpE20v0P : List Pur := [⟨253, [k163n], k104n⟩, ⟨161, [k1n], .bool true⟩, ⟨161, [k3n], .bool true⟩, ⟨423, [k258n], k286n⟩]
def TpE20v0F : Facts := ⟨[(49, 57), (1, 9)], [], [], [], [], [], [], []⟩
theorem TpE20v0R : smOk TpE20 (callS TpE20v0F TpE20v0U TpE20v0P TpE20.f TpE20.args (mkSt TpE20.h0 TpE20.n0)) = true := by kernel_rfl
theorem TpE20_ok (x0 x1 : Int) (b : Gs [(49, 57)] [x0] := by simp only [Gs, and_true]; omega) (h1 : x1 = (-48) + x0 := by omega) (r0 : (1 : Int) ≤ x1 ∧ x1 ≤ 9 := by omega) : TpE20.Ok Tryz.prog (sgl [x0, x1]) := by
  have bb := b
  simp only [Gs, and_true] at bb
  exact sm_signs (F := TpE20v0F) (us := TpE20v0U) (ps := TpE20v0P) (l := [x0, x1]) ⟨gc (gc trivial), an, an, an, an, an, an, an⟩ an (al (pz (TpE2_ok) []) (al (pz (TpE3_ok) []) (al (pz (TpE4_ok) []) (al (pz (TpE19_ok x0 x1) [.s 0, .s 1]) an)))) 2 (by simp) TpE20v0R (by kernel_rfl)
def TpE21 : Sm := ⟨109, [k171n], 3, [(0, k128n), (1, k26n), (2, k18n)], k186n, 13, [(6, k109n), (0, k128n), (1, k26n), (2, k18n), (12, k26n), (9, k172n), (4, k60n), (5, k25n)]⟩
def TpE21v0U : List Use := []
def TpE21v0P : List Pur := [⟨161, [k1n], .bool true⟩, ⟨161, [k3n], .bool true⟩, ⟨365, [.flt 4605380978949069210], k240n⟩]
def TpE21v0F : Facts := ⟨[(1, 30)], [], [], [], [], [], [], []⟩
theorem TpE21v0R : smOk TpE21 (callS TpE21v0F TpE21v0U TpE21v0P TpE21.f TpE21.args (mkSt TpE21.h0 TpE21.n0)) = true := by kernel_rfl
theorem TpE21_ok (x0 : Int) (b : Gs [(1, 30)] [x0] := by simp only [Gs, and_true]; omega) : TpE21.Ok Tryz.prog (sgl [x0]) := by
  have bb := b
  simp only [Gs, and_true] at bb
  exact sm_signs (F := TpE21v0F) (us := TpE21v0U) (ps := TpE21v0P) (l := [x0]) ⟨b, an, an, an, an, an, an, an⟩ an (al (pz (TpE3_ok) []) (al (pz (TpE4_ok) []) (al (pz (TpE15_ok) []) an))) 1 (by simp) TpE21v0R (by kernel_rfl)
def TpE22 : Sm := ⟨8, [k126n, .sl 0 0 135 1], 1, [(0, .cells (u8s TpK549d))], .ptr 16 0, 296, [(16, k124n), (0, .cells (u8s TpK549d)), (13, k93n), (15, k175n), (256, k205n), (261, k100n), (269, k116n), (10, k297n), (8, k164n), (12, k296n), (14, k259n), (263, k18n), (275, k100n), (272, k172n), (267, k60n), (268, k25n), (9, k159n), (5, k142n), (7, k226n), (11, k90n), (18, k160n), (4, k0n), (6, k90n)]⟩
def TpE22v0U : List Use := [⟨TpE1, 2, [], [.s 0]⟩, ⟨TpE20, 41, [38], [.s 1, .s 2]⟩, ⟨TpE21, 266, [256, 261, 263], k232n⟩]
def TpE22v0P : List Pur := []
def TpE22v0F : Facts := ⟨[(0, 30), (49, 57), (1, 9)], [], [], [], [], [], [], []⟩
theorem TpE22v0R : smOk TpE22 (callS TpE22v0F TpE22v0U TpE22v0P TpE22.f TpE22.args (mkSt TpE22.h0 TpE22.n0)) = true := by kernel_rfl
theorem TpE22_ok (x0 x1 x2 : Int) (b : Gs [(0, 30), (49, 57)] [x0, x1] := by simp only [Gs, and_true]; omega) (h2 : x2 = (-48) + x1 := by omega) (r0 : (1 : Int) ≤ x2 ∧ x2 ≤ 9 := by omega) : TpE22.Ok Tryz.prog (sgl [x0, x1, x2]) := by
  have bb := b
  simp only [Gs, and_true] at bb
  exact sm_signs (F := TpE22v0F) (us := TpE22v0U) (ps := TpE22v0P) (l := [x0, x1, x2]) ⟨gc (gc (gc trivial)), an, an, an, an, an, an, an⟩ (al (ue (TpE1_ok x0)) (al (ue (TpE20_ok x1 x2)) (al (ue (TpE21_ok x2)) an))) an 3 (by simp) TpE22v0R (by kernel_rfl)
def TpE23 : Sm := ⟨9, [.int .i64 0, k50n], 0, [], .sl 0 0 135 1, 1, [(0, .cells (u8s TpK269c))]⟩
def TpE23v0U : List Use := []
def TpE23v0P : List Pur := []
def TpE23v0F : Facts := ⟨[], [], [], [], [], [], [], []⟩
theorem TpE23v0R : smOk TpE23 (callS TpE23v0F TpE23v0U TpE23v0P TpE23.f TpE23.args (mkSt TpE23.h0 TpE23.n0)) = true := by kernel_rfl
theorem TpE23_ok : TpE23.Ok Tryz.prog (sgl []) := by
  exact sm_signs (F := TpE23v0F) (us := TpE23v0U) (ps := TpE23v0P) (l := []) ⟨trivial, an, an, an, an, an, an, an⟩ an an 0 (by simp) TpE23v0R (by kernel_rfl)
def TpE24 (n : Nat) : Sm := ⟨423, [k180n], 0, [], k291n, n, []⟩
def TpE24v0U : List Use := []
def TpE24v0P : List Pur := []
def TpE24v0F : Facts := ⟨[], [], [], [], [], [], [], []⟩
theorem TpE24v0R : ∃ n, smOk (TpE24 n) (callS TpE24v0F TpE24v0U TpE24v0P 423 [k180n] (mkSt [] 0)) = true := by
  exact ⟨match (callS TpE24v0F TpE24v0U TpE24v0P 423 [k180n] (mkSt [] 0)) with | some r => r.2.next | none => 0, by kernel_rfl⟩
theorem TpE24_ok : ∃ n, (TpE24 n).Ok Tryz.prog (sgl []) := by
  obtain ⟨n, hn⟩ := TpE24v0R
  exact ⟨n, sm_signs (F := TpE24v0F) (us := TpE24v0U) (ps := TpE24v0P) (l := []) ⟨trivial, an, an, an, an, an, an, an⟩ an an 0 (by simp) hn (by kernel_rfl)⟩
def TpE25 : Sm := ⟨108, [.sl 0 0 135 1], 1, [(0, .cells (u8s TpK269c))], k140n, 224, [(221, k27n), (216, k256n), (0, .cells (u8s TpK269c)), (223, k18n)]⟩
def TpE25v0U : List Use := []
def TpE25v0P : List Pur := [⟨253, [k163n], k104n⟩, ⟨161, [k1n], .bool true⟩, ⟨161, [k3n], .bool true⟩, ⟨423, [k180n], k291n⟩]
def TpE25v0F : Facts := ⟨[], [], [], [], [], [], [], []⟩
theorem TpE25v0R : smOk TpE25 (callS TpE25v0F TpE25v0U TpE25v0P TpE25.f TpE25.args (mkSt TpE25.h0 TpE25.n0)) = true := by kernel_rfl
theorem TpE25_ok : TpE25.Ok Tryz.prog (sgl []) := by
  exact sm_signs (F := TpE25v0F) (us := TpE25v0U) (ps := TpE25v0P) (l := []) ⟨trivial, an, an, an, an, an, an, an⟩ an (al (pz (TpE2_ok) []) (al (pz (TpE3_ok) []) (al (pz (TpE4_ok) []) (al (pz (TpE24_ok) []) an)))) 0 (by simp) TpE25v0R (by kernel_rfl)
def TpE26 : Sm := ⟨109, [k171n], 3, [(0, k128n), (1, k27n), (2, k18n)], k186n, 13, [(6, k109n), (0, k128n), (1, k27n), (2, k18n), (12, k27n), (9, k172n), (4, k60n), (5, k25n)]⟩
def TpE26v0U : List Use := []
def TpE26v0P : List Pur := [⟨161, [k1n], .bool true⟩, ⟨161, [k3n], .bool true⟩, ⟨365, [.flt 4605380978949069210], k240n⟩]
def TpE26v0F : Facts := ⟨[], [], [], [], [], [], [], []⟩
theorem TpE26v0R : smOk TpE26 (callS TpE26v0F TpE26v0U TpE26v0P TpE26.f TpE26.args (mkSt TpE26.h0 TpE26.n0)) = true := by kernel_rfl
theorem TpE26_ok : TpE26.Ok Tryz.prog (sgl []) := by
  exact sm_signs (F := TpE26v0F) (us := TpE26v0U) (ps := TpE26v0P) (l := []) ⟨trivial, an, an, an, an, an, an, an⟩ an (al (pz (TpE3_ok) []) (al (pz (TpE4_ok) []) (al (pz (TpE15_ok) []) an))) 0 (by simp) TpE26v0R (by kernel_rfl)
def TpE27 : Sm := ⟨8, [k126n, .sl 0 0 135 1], 1, [(0, .cells (u8s TpK269c))], .ptr 16 0, 296, [(16, k124n), (0, .cells (u8s TpK269c)), (13, k93n), (15, k175n), (256, k205n), (261, k27n), (269, k116n), (10, k297n), (8, k164n), (12, k296n), (14, k259n), (263, k18n), (275, k27n), (272, k172n), (267, k60n), (268, k25n), (9, k159n), (5, k142n), (7, k226n), (11, k90n), (18, k160n), (4, k0n), (6, k90n)]⟩
def TpE27v0U : List Use := [⟨TpE1, 2, [], [.s 0]⟩, ⟨TpE25, 41, [38], []⟩, ⟨TpE26, 266, [256, 261, 263], []⟩]
def TpE27v0P : List Pur := []
def TpE27v0F : Facts := ⟨[(0, 30)], [], [], [], [], [], [], []⟩
theorem TpE27v0R : smOk TpE27 (callS TpE27v0F TpE27v0U TpE27v0P TpE27.f TpE27.args (mkSt TpE27.h0 TpE27.n0)) = true := by kernel_rfl
theorem TpE27_ok (x0 : Int) (b : Gs [(0, 30)] [x0] := by simp only [Gs, and_true]; omega) : TpE27.Ok Tryz.prog (sgl [x0]) := by
  have bb := b
  simp only [Gs, and_true] at bb
  exact sm_signs (F := TpE27v0F) (us := TpE27v0U) (ps := TpE27v0P) (l := [x0]) ⟨b, an, an, an, an, an, an, an⟩ (al (ue (TpE1_ok x0)) (al (ue (TpE25_ok)) (al (ue (TpE26_ok)) an))) an 1 (by simp) TpE27v0R (by kernel_rfl)
def TpE28 : Sm := ⟨9, [.sint .i64 0, .str TpK11ed], 0, [], .sl 0 0 156 1, 1, [(0, .cells (u8s [100, 111, 109, 97, 105, 110, 115, 58, 10, 32, 32, 45, 32, 100, 111, 109, 97, 105, 110, 58, 32, 115, 104, 111, 112, 10, 32, 32, 32, 32, 100, 101, 115, 99, 114, 105, 112, 116, 111, 114, 115, 58, 10, 32, 32, 32, 32, 32, 32, 45, 32, 107, 101, 121, 58, 32, 117, 115, 101, 114, 10, 32, 32, 32, 32, 32, 32, 32, 32, 114, 97, 116, 101, 95, 108, 105, 109, 105, 116, 58, 10, 32, 32, 32, 32, 32, 32, 32, 32, 32, 32, 117, 110, 105, 116, 58, 32, 109, 105, 110, 117, 116, 101, 10, 32, 32, 32, 32, 32, 32, 32, 32, 32, 32, 114, 101, 113, 117, 101, 115, 116, 115, 95, 112, 101, 114, 95, 117, 110, 105, 116, 58, 32, 260, 258, 10, 32, 32, 32, 32, 32, 32, 32, 32, 32, 32, 110, 101, 97, 114, 58, 32, 48, 46, 53, 10]))]⟩
def TpE28v0U : List Use := []
def TpE28v0P : List Pur := []
def TpE28v0F : Facts := ⟨[(1, 30), (0, 9), (48, 57), (0, 3), (48, 51)], [⟨.rem, .i64, .s 0, .c (10), .s 1⟩, ⟨.add, .i64, .c (48), .s 1, .s 2⟩, ⟨.quo, .i64, .s 0, .c (10), .s 3⟩, ⟨.rem, .i64, .s 3, .c (10), .s 3⟩, ⟨.add, .i64, .c (48), .s 3, .s 4⟩, ⟨.quo, .i64, .s 3, .c (10), .c (0)⟩], [⟨.c (0), .s 3, true⟩], [], [], [], [], []⟩
theorem TpE28v0R : smOk TpE28 (callS TpE28v0F TpE28v0U TpE28v0P TpE28.f TpE28.args (mkSt TpE28.h0 TpE28.n0)) = true := by kernel_rfl
theorem TpE28_ok (x0 x1 x2 x3 x4 : Int) (b : Gs [(1, 30)] [x0] := by simp only [Gs, and_true]; omega) (h1 : x1 = x0 % (10) := by omega) (h2 : x2 = (48) + x1 := by omega) (h3 : x3 = x0 / (10) := by omega) (h4 : x4 = (48) + x3 := by omega) (r0 : (0) < x3 := by omega) (r1 : (0 : Int) ≤ x1 ∧ x1 ≤ 9 := by omega) (r2 : (48 : Int) ≤ x2 ∧ x2 ≤ 57 := by omega) (r3 : (0 : Int) ≤ x3 ∧ x3 ≤ 3 := by omega) (r4 : (48 : Int) ≤ x4 ∧ x4 ≤ 51 := by omega) : TpE28.Ok Tryz.prog (sgl [x0, x1, x2, x3, x4]) := by
  have bb := b
  simp only [Gs, and_true] at bb
  exact sm_signs (F := TpE28v0F) (us := TpE28v0U) (ps := TpE28v0P) (l := [x0, x1, x2, x3, x4]) ⟨gc (gc (gc (gc (gc trivial)))), (al (fR x0 (10) x1) (al (fA (48) x1 x2) (al (fQ x0 (10) x3) (al (fR x3 (10) x3) (al (fA (48) x3 x4) (al (fQ x3 (10) (0)) an)))))), (al (fT (0) x3) an), an, an, an, an, an⟩ an an 5 (by simp) TpE28v0R (by kernel_rfl)
def TpE29 (n : Nat) : Sm := ⟨253, [k196n], 0, [], k178n, n, []⟩
def TpE29v0U : List Use := []
def TpE29v0P : List Pur := []
def TpE29v0F : Facts := ⟨[], [], [], [], [], [], [], []⟩
theorem TpE29v0R : ∃ n, smOk (TpE29 n) (callS TpE29v0F TpE29v0U TpE29v0P 253 [k196n] (mkSt [] 0)) = true := by
  exact ⟨match (callS TpE29v0F TpE29v0U TpE29v0P 253 [k196n] (mkSt [] 0)) with | some r => r.2.next | none => 0, by kernel_rfl⟩
theorem TpE29_ok : ∃ n, (TpE29 n).Ok Tryz.prog (sgl []) := by
  obtain ⟨n, hn⟩ := TpE29v0R
  exact ⟨n, sm_signs (F := TpE29v0F) (us := TpE29v0U) (ps := TpE29v0P) (l := []) ⟨trivial, an, an, an, an, an, an, an⟩ an an 0 (by simp) hn (by kernel_rfl)⟩
end
end Go.Proofs.YtnpkeganpkobjaaGreatDoor.Ev
