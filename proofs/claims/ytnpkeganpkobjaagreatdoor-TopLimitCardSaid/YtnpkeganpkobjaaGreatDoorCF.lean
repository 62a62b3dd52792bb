import Derived.Test.YtnpkeganpkobjaaGreatDoorCK
import Derived.Test.YtnpkeganpkobjaaGreatDoorCA
import Derived.Test.YtnpkeganpkobjaaGreatDoorCB
import Derived.Test.YtnpkeganpkobjaaGreatDoorCE
import Derived.Test.YtnpkeganpkobjaaGreatDoorCC
set_option linter.all false
namespace Go.Proofs.YtnpkeganpkobjaaGreatDoor.Ev
set_option maxRecDepth 100000
set_option maxHeartbeats 4000000
open Go Go.RowKit
noncomputable section
def TcE92 : Sm := ⟨38, [.sl 0 0 107 1], 1, [(0, .cells (u8s TcK620f))], k41n, 15, [(14, k139n), (6, k20n), (0, .cells (u8s TcK620f))]⟩
def TcE92v0P : List Pur := [⟨81, [.str TcKb987], .bool true⟩, ⟨102, [.str TcK5c40], .bool true⟩, ⟨81, [.str TcK6d81], .bool true⟩, ⟨102, [k257n], .bool true⟩, ⟨81, [.str TcK66a8], .bool true⟩, ⟨102, [k248n], .bool true⟩, ⟨81, [.str TcK8148], .bool true⟩, ⟨102, [k97n], .bool true⟩]
def TcE92v0F (d0 : Bool) : Facts := ⟨[(0, 59), (1, 30), (1, 30), (1, 60), (48, 57), (48, 57), (48, 57), (48, 57), (48, 57), (48, 57), (48, 57), (48, 57)], t3 0 (t3 1 (t3 2 (t3 3 ([])))), [], [⟨.s 0, .c (0), d0⟩], [], [], [], []⟩
theorem TcE92v0R : ∀ d0, Sr TcE92 (TcE92v0F d0) [] TcE92v0P = true := by intro d0; cases d0 <;> kernel_rfl
theorem TcE92_ok (x0 x1 x2 x3 x4 x5 x6 x7 x8 x9 x10 x11 : Int) (b : Gs [(0, 59), (1, 30), (1, 30), (1, 60), (48, 57), (48, 57), (48, 57), (48, 57), (48, 57), (48, 57), (48, 57), (48, 57)] [x0, x1, x2, x3, x4, x5, x6, x7, x8, x9, x10, x11] := by simp only [Gs, and_true]; omega) : TcE92.Ok Tryz.prog (sgl [x0, x1, x2, x3, x4, x5, x6, x7, x8, x9, x10, x11]) := by
  have bb := b
  simp only [Gs, and_true] at bb
  exact sm_signs (F := (TcE92v0F (decide (x0 = (0))))) (us := []) (ps := TcE92v0P) (l := [x0, x1, x2, x3, x4, x5, x6, x7, x8, x9, x10, x11]) ⟨b, (a3 x0 (a3 x1 (a3 x2 (a3 x3 an)))), an, (al rfl an), an, an, an, an⟩ an (al (pz (TcE22_ok) []) (al (pz (TcE35_ok x4) [.s 4]) (al (pz (TcE24_ok) []) (al (pz (TcE88_ok x5) [.s 5]) (al (pz (TcE26_ok) []) (al (pz (TcE25_ok x6 x7) [.s 6, .s 7]) (al (pz (TcE27_ok) []) (al (pz (TcE28_ok x8 x9 x10 x11) k277n) an)))))))) 12 (by simp) (TcE92v0R (decide (x0 = (0)))) (by kernel_rfl)
def TcE93 : Sm := ⟨173, [.sl 0 0 1 5], 1, [(0, k42n)], .sl 5 0 4 2, 6, [(5, .cells [.str TcKb987, .str TcK4f89, .str TcK6d81, k223n, .str TcK66a8, .str [263], .str TcK8148, k96n]), (0, k42n)]⟩
def TcE93v0P : List Pur := [⟨95, [.sint .i64 0], k293n⟩, ⟨95, [.sint .i64 1], k223n⟩, ⟨95, [.sint .i64 2], .str [263]⟩, ⟨226, [.sint .i64 8, .sint .i64 0], .sflt 13⟩, ⟨225, [.sflt 13], k96n⟩]
def TcE93v0F : Facts := ⟨[(1, 30), (1, 30), (1, 30), (49, 57), (48, 57), (49, 57), (48, 57), (48, 57), (-29, 29), (48, 49), (48, 57), (48, 57), (48, 57), (0, 9218868437227405312)], [⟨.sub, .i64, .s 0, .s 1, .s 8⟩], [], [], [], [], [], []⟩
theorem TcE93v0R : Sr TcE93 TcE93v0F [] TcE93v0P = true := by kernel_rfl
theorem TcE93_ok (x0 x1 x2 x3 x4 x5 x6 x7 x8 x9 x10 x11 x12 : Int) (b : Gs [(1, 30), (1, 30), (1, 30)] [x0, x1, x2] := by simp only [Gs, and_true]; omega) (h3 : x3 = (48) + x0 / 10 := by omega) (h4 : x4 = (48) + x0 % 10 := by omega) (h5 : x5 = (48) + x1 / 10 := by omega) (h6 : x6 = (48) + x1 % 10 := by omega) (h7 : x7 = (48) + x2 := by omega) (h8 : x8 = x0 + (-1) * x1 := by omega) (s9 : IsSh x8 x0 x9 x10 x11 x12 := by assumption) (r0 : 10 ≤ x0 ∧ x0 ≤ 99 := by omega) (r1 : 10 ≤ x1 ∧ x1 ≤ 99 := by omega) (r2 : 0 ≤ x2 ∧ x2 ≤ 9 := by omega) (r3 : (0 ≤ x8 ∧ x8 ≤ x0) ∧ (1 ≤ x0 ∧ x0 ≤ 30) := by omega) (r4 : (-29 : Int) ≤ x8 ∧ x8 ≤ 29 := by omega) : TcE93.Ok Tryz.prog (sgl [x0, x1, x2, x3, x4, x5, x6, x7, x8, x9, x10, x11, x12]) := by
  have bb := b
  simp only [Gs, and_true] at bb
  obtain ⟨y13, h13⟩ := ex (shC x8 x0)
  have d9 := s9.bd
  have d13 := shC_bd x8 x0
  exact sm_signs (F := TcE93v0F) (us := []) (ps := TcE93v0P) (l := [x0, x1, x2, x3, x4, x5, x6, x7, x8, x9, x10, x11, x12, y13]) ⟨gc (gc (gc (gc (gc (gc (gc (gc (gc (gc (gc (gc (gc (gc trivial))))))))))))), (al (fS x0 x1 x8) an), an, an, an, an, an, an⟩ an (al (pz (dg2 x0 x3 x4) [.s 0, .s 3, .s 4]) (al (pz (dg2 x1 x5 x6) [.s 1, .s 5, .s 6]) (al (pz (dg1 x2 x7) [.s 2, .s 7]) (al (pz (of0 x8 x0 y13) [.s 8, .s 0, .s 13]) (al (pz (tx0 y13 x9 x10 x11 x12 x8 x0) [.s 13, .s 9, .s 10, .s 11, .s 12]) an))))) 13 (by simp) TcE93v0R (by kernel_rfl)
def TcE94 (n : Nat) : Sm := ⟨184, [.agg [.str TcK66a8, k258n]], 0, [], .bool true, n, []⟩
def TcE94v0P : List Pur := [⟨161, [.str TcK66a8], .bool true⟩]
def TcE94v0F : Facts := ⟨[(48, 57)], [], [], [], [], [], [], []⟩
theorem TcE94v0R : ∃ n, smOk (TcE94 n) (callS TcE94v0F [] TcE94v0P 184 [.agg [.str TcK66a8, k258n]] (mkSt [] 0)) = true := by
  exact ⟨match (callS TcE94v0F [] TcE94v0P 184 [.agg [.str TcK66a8, k258n]] (mkSt [] 0)) with | some r => r.2.next | none => 0, by kernel_rfl⟩
theorem TcE94_ok (x0 : Int) (b : Gs [(48, 57)] [x0] := by simp only [Gs, and_true]; omega) : ∃ n, (TcE94 n).Ok Tryz.prog (sgl [x0]) := by
  have bb := b
  simp only [Gs, and_true] at bb
  obtain ⟨n, hn⟩ := TcE94v0R
  exact ⟨n, sm_signs (F := TcE94v0F) (us := []) (ps := TcE94v0P) (l := [x0]) ⟨b, an, an, an, an, an, an, an⟩ an (al (pz (TcE17_ok) []) an) 1 (by simp) hn (by kernel_rfl)⟩
def TcE95 : Sm := ⟨85, [k55n], 2, [(0, k20n), (1, k138n)], k71n, 73, [(72, .typ false 5 (u8s TcK5ace)), (0, k20n), (1, k138n)]⟩
def TcE95v0P : List Pur := [⟨184, [k228n], .bool true⟩, ⟨184, [.agg [.str TcK6d81, k248n]], .bool true⟩, ⟨184, [.agg [.str TcK66a8, .str [264]]], .bool true⟩, ⟨184, [.agg [.str TcK8148, k96n]], .bool true⟩]
def TcE95v0F : Facts := ⟨[(0, 59), (1, 30), (1, 30), (1, 30), (48, 57), (48, 57), (48, 57), (48, 57), (48, 57), (48, 57), (48, 57), (48, 57), (48, 57)], [], [], [], [], [], [], []⟩
theorem TcE95v0R : Sr TcE95 TcE95v0F [] TcE95v0P = true := by kernel_rfl
theorem TcE95_ok (x0 x1 x2 x3 x4 x5 x6 x7 x8 x9 x10 x11 x12 : Int) (b : Gs [(0, 59), (1, 30), (1, 30), (1, 30), (48, 57), (48, 57), (48, 57), (48, 57), (48, 57), (48, 57), (48, 57), (48, 57), (48, 57)] [x0, x1, x2, x3, x4, x5, x6, x7, x8, x9, x10, x11, x12] := by simp only [Gs, and_true]; omega) : TcE95.Ok Tryz.prog (sgl [x0, x1, x2, x3, x4, x5, x6, x7, x8, x9, x10, x11, x12]) := by
  have bb := b
  simp only [Gs, and_true] at bb
  exact sm_signs (F := TcE95v0F) (us := []) (ps := TcE95v0P) (l := [x0, x1, x2, x3, x4, x5, x6, x7, x8, x9, x10, x11, x12]) ⟨b, an, an, an, an, an, an, an⟩ an (al (pz (TcE14_ok x4 x5) k245n) (al (pz (TcE16_ok x6 x7) [.s 6, .s 7]) (al (pz (TcE94_ok x8) [.s 8]) (al (pz (TcE20_ok x9 x10 x11 x12) k262n) an)))) 13 (by simp) TcE95v0R (by kernel_rfl)
def TcE96 : Sm := ⟨38, [.sl 0 0 109 1], 1, [(0, .cells (u8s TcK5ace))], k41n, 15, [(14, k138n), (6, k20n), (0, .cells (u8s TcK5ace))]⟩
def TcE96v0P : List Pur := [⟨81, [.str TcKb987], .bool true⟩, ⟨102, [.str TcK6b58], .bool true⟩, ⟨81, [.str TcK6d81], .bool true⟩, ⟨102, [k248n], .bool true⟩, ⟨81, [.str TcK66a8], .bool true⟩, ⟨102, [.str [264]], .bool true⟩, ⟨81, [.str TcK8148], .bool true⟩, ⟨102, [k96n], .bool true⟩]
def TcE96v0F (d0 : Bool) : Facts := ⟨[(0, 59), (1, 30), (1, 30), (1, 30), (48, 57), (48, 57), (48, 57), (48, 57), (48, 57), (48, 57), (48, 57), (48, 57), (48, 57)], t3 0 (t3 1 (t3 2 (t3 3 ([])))), [], [⟨.s 0, .c (0), d0⟩], [], [], [], []⟩
theorem TcE96v0R : ∀ d0, Sr TcE96 (TcE96v0F d0) [] TcE96v0P = true := by intro d0; cases d0 <;> kernel_rfl
theorem TcE96_ok (x0 x1 x2 x3 x4 x5 x6 x7 x8 x9 x10 x11 x12 : Int) (b : Gs [(0, 59), (1, 30), (1, 30), (1, 30), (48, 57), (48, 57), (48, 57), (48, 57), (48, 57), (48, 57), (48, 57), (48, 57), (48, 57)] [x0, x1, x2, x3, x4, x5, x6, x7, x8, x9, x10, x11, x12] := by simp only [Gs, and_true]; omega) : TcE96.Ok Tryz.prog (sgl [x0, x1, x2, x3, x4, x5, x6, x7, x8, x9, x10, x11, x12]) := by
  have bb := b
  simp only [Gs, and_true] at bb
  exact sm_signs (F := (TcE96v0F (decide (x0 = (0))))) (us := []) (ps := TcE96v0P) (l := [x0, x1, x2, x3, x4, x5, x6, x7, x8, x9, x10, x11, x12]) ⟨b, (a3 x0 (a3 x1 (a3 x2 (a3 x3 an)))), an, (al rfl an), an, an, an, an⟩ an (al (pz (TcE22_ok) []) (al (pz (TcE23_ok x4 x5) k245n) (al (pz (TcE24_ok) []) (al (pz (TcE25_ok x6 x7) [.s 6, .s 7]) (al (pz (TcE26_ok) []) (al (pz (TcE88_ok x8) [.s 8]) (al (pz (TcE27_ok) []) (al (pz (TcE28_ok x9 x10 x11 x12) k262n) an)))))))) 13 (by simp) (TcE96v0R (decide (x0 = (0)))) (by kernel_rfl)
def TcE97 : Sm := ⟨173, [.sl 0 0 1 5], 1, [(0, k42n)], .sl 5 0 4 2, 6, [(5, .cells [.str TcKb987, .str TcK4f89, .str TcK6d81, k257n, .str TcK66a8, .str [262], .str TcK8148, k97n]), (0, k42n)]⟩
def TcE97v0P : List Pur := [⟨95, [.sint .i64 0], k293n⟩, ⟨95, [.sint .i64 1], k257n⟩, ⟨95, [.sint .i64 2], .str [262]⟩, ⟨226, [.sint .i64 7, .sint .i64 0], .sflt 12⟩, ⟨225, [.sflt 12], k97n⟩]
def TcE97v0F : Facts := ⟨[(1, 30), (1, 30), (1, 30), (49, 57), (48, 57), (48, 57), (48, 57), (-29, 29), (48, 49), (48, 57), (48, 57), (48, 57), (0, 9218868437227405312)], [⟨.sub, .i64, .s 0, .s 1, .s 7⟩], [], [], [], [], [], []⟩
theorem TcE97v0R : Sr TcE97 TcE97v0F [] TcE97v0P = true := by kernel_rfl
theorem TcE97_ok (x0 x1 x2 x3 x4 x5 x6 x7 x8 x9 x10 x11 : Int) (b : Gs [(1, 30), (1, 30), (1, 30)] [x0, x1, x2] := by simp only [Gs, and_true]; omega) (h3 : x3 = (48) + x0 / 10 := by omega) (h4 : x4 = (48) + x0 % 10 := by omega) (h5 : x5 = (48) + x1 := by omega) (h6 : x6 = (48) + x2 := by omega) (h7 : x7 = x0 + (-1) * x1 := by omega) (s8 : IsSh x7 x0 x8 x9 x10 x11 := by assumption) (r0 : 10 ≤ x0 ∧ x0 ≤ 99 := by omega) (r1 : 0 ≤ x1 ∧ x1 ≤ 9 := by omega) (r2 : 0 ≤ x2 ∧ x2 ≤ 9 := by omega) (r3 : (0 ≤ x7 ∧ x7 ≤ x0) ∧ (1 ≤ x0 ∧ x0 ≤ 30) := by omega) (r4 : (-29 : Int) ≤ x7 ∧ x7 ≤ 29 := by omega) : TcE97.Ok Tryz.prog (sgl [x0, x1, x2, x3, x4, x5, x6, x7, x8, x9, x10, x11]) := by
  have bb := b
  simp only [Gs, and_true] at bb
  obtain ⟨y12, h12⟩ := ex (shC x7 x0)
  have d8 := s8.bd
  have d12 := shC_bd x7 x0
  exact sm_signs (F := TcE97v0F) (us := []) (ps := TcE97v0P) (l := [x0, x1, x2, x3, x4, x5, x6, x7, x8, x9, x10, x11, y12]) ⟨gc (gc (gc (gc (gc (gc (gc (gc (gc (gc (gc (gc (gc trivial)))))))))))), (al (fS x0 x1 x7) an), an, an, an, an, an, an⟩ an (al (pz (dg2 x0 x3 x4) [.s 0, .s 3, .s 4]) (al (pz (dg1 x1 x5) [.s 1, .s 5]) (al (pz (dg1 x2 x6) [.s 2, .s 6]) (al (pz (of0 x7 x0 y12) [.s 7, .s 0, .s 12]) (al (pz (tx0 y12 x8 x9 x10 x11 x7 x0) [.s 12, .s 8, .s 9, .s 10, .s 11]) an))))) 12 (by simp) TcE97v0R (by kernel_rfl)
def TcE98 : Sm := ⟨85, [k55n], 2, [(0, k20n), (1, k145n)], k274n, 73, [(72, .typ false 5 (u8s TcK2845)), (0, k20n), (1, k145n)]⟩
def TcE98v0P : List Pur := [⟨184, [k228n], .bool true⟩, ⟨184, [.agg [.str TcK6d81, .str [262]]], .bool true⟩, ⟨184, [.agg [.str TcK66a8, .str [263]]], .bool true⟩, ⟨184, [.agg [.str TcK8148, k97n]], .bool true⟩]
def TcE98v0F : Facts := ⟨[(0, 59), (1, 30), (1, 30), (1, 30), (48, 57), (48, 57), (48, 57), (48, 57), (48, 57), (48, 57), (48, 57), (48, 57)], [], [], [], [], [], [], []⟩
theorem TcE98v0R : Sr TcE98 TcE98v0F [] TcE98v0P = true := by kernel_rfl
theorem TcE98_ok (x0 x1 x2 x3 x4 x5 x6 x7 x8 x9 x10 x11 : Int) (b : Gs [(0, 59), (1, 30), (1, 30), (1, 30), (48, 57), (48, 57), (48, 57), (48, 57), (48, 57), (48, 57), (48, 57), (48, 57)] [x0, x1, x2, x3, x4, x5, x6, x7, x8, x9, x10, x11] := by simp only [Gs, and_true]; omega) : TcE98.Ok Tryz.prog (sgl [x0, x1, x2, x3, x4, x5, x6, x7, x8, x9, x10, x11]) := by
  have bb := b
  simp only [Gs, and_true] at bb
  exact sm_signs (F := TcE98v0F) (us := []) (ps := TcE98v0P) (l := [x0, x1, x2, x3, x4, x5, x6, x7, x8, x9, x10, x11]) ⟨b, an, an, an, an, an, an, an⟩ an (al (pz (TcE14_ok x4 x5) k245n) (al (pz (TcE86_ok x6) [.s 6]) (al (pz (TcE94_ok x7) [.s 7]) (al (pz (TcE20_ok x8 x9 x10 x11) k277n) an)))) 12 (by simp) TcE98v0R (by kernel_rfl)
def TcE99 : Sm := ⟨38, [.sl 0 0 108 1], 1, [(0, .cells (u8s TcK2845))], k41n, 15, [(14, k145n), (6, k20n), (0, .cells (u8s TcK2845))]⟩
def TcE99v0P : List Pur := [⟨81, [.str TcKb987], .bool true⟩, ⟨102, [.str TcK6b58], .bool true⟩, ⟨81, [.str TcK6d81], .bool true⟩, ⟨102, [.str [262]], .bool true⟩, ⟨81, [.str TcK66a8], .bool true⟩, ⟨102, [.str [263]], .bool true⟩, ⟨81, [.str TcK8148], .bool true⟩, ⟨102, [k97n], .bool true⟩]
def TcE99v0F (d0 : Bool) : Facts := ⟨[(0, 59), (1, 30), (1, 30), (1, 30), (48, 57), (48, 57), (48, 57), (48, 57), (48, 57), (48, 57), (48, 57), (48, 57)], t3 0 (t3 1 (t3 2 (t3 3 ([])))), [], [⟨.s 0, .c (0), d0⟩], [], [], [], []⟩
theorem TcE99v0R : ∀ d0, Sr TcE99 (TcE99v0F d0) [] TcE99v0P = true := by intro d0; cases d0 <;> kernel_rfl
theorem TcE99_ok (x0 x1 x2 x3 x4 x5 x6 x7 x8 x9 x10 x11 : Int) (b : Gs [(0, 59), (1, 30), (1, 30), (1, 30), (48, 57), (48, 57), (48, 57), (48, 57), (48, 57), (48, 57), (48, 57), (48, 57)] [x0, x1, x2, x3, x4, x5, x6, x7, x8, x9, x10, x11] := by simp only [Gs, and_true]; omega) : TcE99.Ok Tryz.prog (sgl [x0, x1, x2, x3, x4, x5, x6, x7, x8, x9, x10, x11]) := by
  have bb := b
  simp only [Gs, and_true] at bb
  exact sm_signs (F := (TcE99v0F (decide (x0 = (0))))) (us := []) (ps := TcE99v0P) (l := [x0, x1, x2, x3, x4, x5, x6, x7, x8, x9, x10, x11]) ⟨b, (a3 x0 (a3 x1 (a3 x2 (a3 x3 an)))), an, (al rfl an), an, an, an, an⟩ an (al (pz (TcE22_ok) []) (al (pz (TcE23_ok x4 x5) k245n) (al (pz (TcE24_ok) []) (al (pz (TcE88_ok x6) [.s 6]) (al (pz (TcE26_ok) []) (al (pz (TcE88_ok x7) [.s 7]) (al (pz (TcE27_ok) []) (al (pz (TcE28_ok x8 x9 x10 x11) k277n) an)))))))) 12 (by simp) (TcE99v0R (decide (x0 = (0)))) (by kernel_rfl)
def TcE100 : Sm := ⟨173, [.sl 0 0 1 5], 1, [(0, k42n)], .sl 5 0 4 2, 6, [(5, .cells [.str TcKb987, .str TcK2e14, .str TcK6d81, .str [260], .str TcK66a8, k257n, .str TcK8148, k166n]), (0, k42n)]⟩
def TcE100v0P : List Pur := [⟨95, [.sint .i64 0], .str [259]⟩, ⟨95, [.sint .i64 1], .str [260]⟩, ⟨95, [.sint .i64 2], k257n⟩, ⟨226, [.sint .i64 6, .sint .i64 0], .sflt 11⟩, ⟨225, [.sflt 11], k166n⟩]
def TcE100v0F : Facts := ⟨[(1, 30), (1, 30), (1, 30), (48, 57), (48, 57), (48, 57), (-29, 29), (48, 49), (48, 57), (48, 57), (48, 57), (0, 9218868437227405312)], [⟨.sub, .i64, .s 0, .s 1, .s 6⟩], [], [], [], [], [], []⟩
theorem TcE100v0R : Sr TcE100 TcE100v0F [] TcE100v0P = true := by kernel_rfl
theorem TcE100_ok (x0 x1 x2 x3 x4 x5 x6 x7 x8 x9 x10 : Int) (b : Gs [(1, 30), (1, 30), (1, 30)] [x0, x1, x2] := by simp only [Gs, and_true]; omega) (h3 : x3 = (48) + x0 := by omega) (h4 : x4 = (48) + x1 := by omega) (h5 : x5 = (48) + x2 := by omega) (h6 : x6 = x0 + (-1) * x1 := by omega) (s7 : IsSh x6 x0 x7 x8 x9 x10 := by assumption) (r0 : 0 ≤ x0 ∧ x0 ≤ 9 := by omega) (r1 : 0 ≤ x1 ∧ x1 ≤ 9 := by omega) (r2 : 0 ≤ x2 ∧ x2 ≤ 9 := by omega) (r3 : (0 ≤ x6 ∧ x6 ≤ x0) ∧ (1 ≤ x0 ∧ x0 ≤ 30) := by omega) (r4 : (-29 : Int) ≤ x6 ∧ x6 ≤ 29 := by omega) : TcE100.Ok Tryz.prog (sgl [x0, x1, x2, x3, x4, x5, x6, x7, x8, x9, x10]) := by
  have bb := b
  simp only [Gs, and_true] at bb
  obtain ⟨y11, h11⟩ := ex (shC x6 x0)
  have d7 := s7.bd
  have d11 := shC_bd x6 x0
  exact sm_signs (F := TcE100v0F) (us := []) (ps := TcE100v0P) (l := [x0, x1, x2, x3, x4, x5, x6, x7, x8, x9, x10, y11]) ⟨gc (gc (gc (gc (gc (gc (gc (gc (gc (gc (gc (gc trivial))))))))))), (al (fS x0 x1 x6) an), an, an, an, an, an, an⟩ an (al (pz (dg1 x0 x3) [.s 0, .s 3]) (al (pz (dg1 x1 x4) [.s 1, .s 4]) (al (pz (dg1 x2 x5) [.s 2, .s 5]) (al (pz (of0 x6 x0 y11) [.s 6, .s 0, .s 11]) (al (pz (tx0 y11 x7 x8 x9 x10 x6 x0) [.s 11, .s 7, .s 8, .s 9, .s 10]) an))))) 11 (by simp) TcE100v0R (by kernel_rfl)
def TcE101 : Sm := ⟨85, [k55n], 2, [(0, k20n), (1, k120n)], k276n, 73, [(72, .typ false 5 (u8s TcK1075)), (0, k20n), (1, k120n)]⟩
def TcE101v0P : List Pur := [⟨184, [.agg [.str TcKb987, .str TcK5c40]], .bool true⟩, ⟨184, [.agg [.str TcK6d81, k257n]], .bool true⟩, ⟨184, [.agg [.str TcK66a8, .str [262]]], .bool true⟩, ⟨184, [.agg [.str TcK8148, k166n]], .bool true⟩]
def TcE101v0F : Facts := ⟨[(0, 59), (1, 30), (1, 30), (1, 30), (48, 57), (48, 57), (48, 57), (48, 57), (48, 57), (48, 57), (48, 57)], [], [], [], [], [], [], []⟩
theorem TcE101v0R : Sr TcE101 TcE101v0F [] TcE101v0P = true := by kernel_rfl
theorem TcE101_ok (x0 x1 x2 x3 x4 x5 x6 x7 x8 x9 x10 : Int) (b : Gs [(0, 59), (1, 30), (1, 30), (1, 30), (48, 57), (48, 57), (48, 57), (48, 57), (48, 57), (48, 57), (48, 57)] [x0, x1, x2, x3, x4, x5, x6, x7, x8, x9, x10] := by simp only [Gs, and_true]; omega) : TcE101.Ok Tryz.prog (sgl [x0, x1, x2, x3, x4, x5, x6, x7, x8, x9, x10]) := by
  have bb := b
  simp only [Gs, and_true] at bb
  exact sm_signs (F := TcE101v0F) (us := []) (ps := TcE101v0P) (l := [x0, x1, x2, x3, x4, x5, x6, x7, x8, x9, x10]) ⟨b, an, an, an, an, an, an, an⟩ an (al (pz (TcE32_ok x4) [.s 4]) (al (pz (TcE86_ok x5) [.s 5]) (al (pz (TcE94_ok x6) [.s 6]) (al (pz (TcE20_ok x7 x8 x9 x10) k221n) an)))) 11 (by simp) TcE101v0R (by kernel_rfl)
def TcE102 : Sm := ⟨38, [.sl 0 0 106 1], 1, [(0, .cells (u8s TcK1075))], k41n, 15, [(14, k120n), (6, k20n), (0, .cells (u8s TcK1075))]⟩
def TcE102v0P : List Pur := [⟨81, [.str TcKb987], .bool true⟩, ⟨102, [.str TcK5c40], .bool true⟩, ⟨81, [.str TcK6d81], .bool true⟩, ⟨102, [k257n], .bool true⟩, ⟨81, [.str TcK66a8], .bool true⟩, ⟨102, [.str [262]], .bool true⟩, ⟨81, [.str TcK8148], .bool true⟩, ⟨102, [k166n], .bool true⟩]
def TcE102v0F (d0 : Bool) : Facts := ⟨[(0, 59), (1, 30), (1, 30), (1, 30), (48, 57), (48, 57), (48, 57), (48, 57), (48, 57), (48, 57), (48, 57)], t3 0 (t3 1 (t3 2 (t3 3 ([])))), [], [⟨.s 0, .c (0), d0⟩], [], [], [], []⟩
theorem TcE102v0R : ∀ d0, Sr TcE102 (TcE102v0F d0) [] TcE102v0P = true := by intro d0; cases d0 <;> kernel_rfl
theorem TcE102_ok (x0 x1 x2 x3 x4 x5 x6 x7 x8 x9 x10 : Int) (b : Gs [(0, 59), (1, 30), (1, 30), (1, 30), (48, 57), (48, 57), (48, 57), (48, 57), (48, 57), (48, 57), (48, 57)] [x0, x1, x2, x3, x4, x5, x6, x7, x8, x9, x10] := by simp only [Gs, and_true]; omega) : TcE102.Ok Tryz.prog (sgl [x0, x1, x2, x3, x4, x5, x6, x7, x8, x9, x10]) := by
  have bb := b
  simp only [Gs, and_true] at bb
  exact sm_signs (F := (TcE102v0F (decide (x0 = (0))))) (us := []) (ps := TcE102v0P) (l := [x0, x1, x2, x3, x4, x5, x6, x7, x8, x9, x10]) ⟨b, (a3 x0 (a3 x1 (a3 x2 (a3 x3 an)))), an, (al rfl an), an, an, an, an⟩ an (al (pz (TcE22_ok) []) (al (pz (TcE35_ok x4) [.s 4]) (al (pz (TcE24_ok) []) (al (pz (TcE88_ok x5) [.s 5]) (al (pz (TcE26_ok) []) (al (pz (TcE88_ok x6) [.s 6]) (al (pz (TcE27_ok) []) (al (pz (TcE28_ok x7 x8 x9 x10) k221n) an)))))))) 11 (by simp) (TcE102v0R (decide (x0 = (0)))) (by kernel_rfl)
def TcE103 : Sm := ⟨173, [.sl 0 0 1 5], 1, [(0, k65n)], .sl 5 0 4 2, 6, [(5, k219n), (0, k65n)]⟩
def TcE103v0P : List Pur := [⟨95, [.sint .i64 0], k294n⟩, ⟨95, [.sint .i64 1], .str [260]⟩, ⟨226, [.sint .i64 0, .sint .i64 0], .sflt 9⟩, ⟨225, [.sflt 9], k118n⟩]
def TcE103v0F : Facts := ⟨[(1, 30), (1, 30), (49, 57), (48, 57), (48, 57), (48, 49), (48, 57), (48, 57), (48, 57), (0, 9218868437227405312)], [⟨.sub, .i64, .s 0, .c (0), .s 0⟩], [], [], [], [], [], []⟩
theorem TcE103v0R : Sr TcE103 TcE103v0F [] TcE103v0P = true := by kernel_rfl
theorem TcE103_ok (x0 x1 x2 x3 x4 x5 x6 x7 x8 : Int) (b : Gs [(1, 30), (1, 30)] [x0, x1] := by simp only [Gs, and_true]; omega) (h2 : x2 = (48) + x0 / 10 := by omega) (h3 : x3 = (48) + x0 % 10 := by omega) (h4 : x4 = (48) + x1 := by omega) (s5 : IsSh x0 x0 x5 x6 x7 x8 := by assumption) (r0 : 10 ≤ x0 ∧ x0 ≤ 99 := by omega) (r1 : 0 ≤ x1 ∧ x1 ≤ 9 := by omega) (r2 : (0 ≤ x0 ∧ x0 ≤ x0) ∧ (1 ≤ x0 ∧ x0 ≤ 30) := by omega) : TcE103.Ok Tryz.prog (sgl [x0, x1, x2, x3, x4, x5, x6, x7, x8]) := by
  have bb := b
  simp only [Gs, and_true] at bb
  obtain ⟨y9, h9⟩ := ex (shC x0 x0)
  have d5 := s5.bd
  have d9 := shC_bd x0 x0
  exact sm_signs (F := TcE103v0F) (us := []) (ps := TcE103v0P) (l := [x0, x1, x2, x3, x4, x5, x6, x7, x8, y9]) ⟨gc (gc (gc (gc (gc (gc (gc (gc (gc (gc trivial))))))))), (al (fS x0 (0) x0) an), an, an, an, an, an, an⟩ an (al (pz (dg2 x0 x2 x3) [.s 0, .s 2, .s 3]) (al (pz (dg1 x1 x4) [.s 1, .s 4]) (al (pz (of0 x0 x0 y9) [.s 0, .s 0, .s 9]) (al (pz (tx0 y9 x5 x6 x7 x8 x0 x0) k252n) an)))) 9 (by simp) TcE103v0R (by kernel_rfl)
def TcE104 : Sm := ⟨85, [k55n], 2, [(0, k45n), (1, k52n)], k274n, 73, [(72, .typ false 5 (u8s TcK3957)), (0, k45n), (1, k52n)]⟩
def TcE104v0P : List Pur := [⟨184, [k229n], .bool true⟩, ⟨184, [k105n], .bool true⟩, ⟨184, [.agg [.str TcK66a8, k257n]], .bool true⟩, ⟨184, [k261n], .bool true⟩]
def TcE104v0F : Facts := ⟨[(0, 59), (1, 30), (1, 30), (48, 57), (48, 57), (48, 57), (48, 57), (48, 57), (48, 57), (48, 57)], [], [], [], [], [], [], []⟩
theorem TcE104v0R : Sr TcE104 TcE104v0F [] TcE104v0P = true := by kernel_rfl
theorem TcE104_ok (x0 x1 x2 x3 x4 x5 x6 x7 x8 x9 : Int) (b : Gs [(0, 59), (1, 30), (1, 30), (48, 57), (48, 57), (48, 57), (48, 57), (48, 57), (48, 57), (48, 57)] [x0, x1, x2, x3, x4, x5, x6, x7, x8, x9] := by simp only [Gs, and_true]; omega) : TcE104.Ok Tryz.prog (sgl [x0, x1, x2, x3, x4, x5, x6, x7, x8, x9]) := by
  have bb := b
  simp only [Gs, and_true] at bb
  exact sm_signs (F := TcE104v0F) (us := []) (ps := TcE104v0P) (l := [x0, x1, x2, x3, x4, x5, x6, x7, x8, x9]) ⟨b, an, an, an, an, an, an, an⟩ an (al (pz (TcE14_ok x3 x4) [.s 3, .s 4]) (al (pz (TcE33_ok) []) (al (pz (TcE94_ok x5) [.s 5]) (al (pz (TcE20_ok x6 x7 x8 x9) k194n) an)))) 10 (by simp) TcE104v0R (by kernel_rfl)
def TcE105 : Sm := ⟨38, [.sl 0 0 108 1], 1, [(0, .cells (u8s TcK3957))], k41n, 15, [(14, k52n), (6, k45n), (0, .cells (u8s TcK3957))]⟩
def TcE105v0P : List Pur := [⟨81, [.str TcKb987], .bool true⟩, ⟨102, [.str TcK4f89], .bool true⟩, ⟨81, [.str TcK6d81], .bool true⟩, ⟨102, [k180n], .bool true⟩, ⟨81, [.str TcK66a8], .bool true⟩, ⟨102, [k257n], .bool true⟩, ⟨81, [.str TcK8148], .bool true⟩, ⟨102, [k117n], .bool true⟩]
def TcE105v0F (d0 : Bool) : Facts := ⟨[(0, 59), (1, 30), (1, 30), (48, 57), (48, 57), (48, 57), (48, 57), (48, 57), (48, 57), (48, 57)], t3 0 (t3 1 (t3 2 ([]))), [], [⟨.s 0, .c (0), d0⟩], [], [], [], []⟩
theorem TcE105v0R : ∀ d0, Sr TcE105 (TcE105v0F d0) [] TcE105v0P = true := by intro d0; cases d0 <;> kernel_rfl
theorem TcE105_ok (x0 x1 x2 x3 x4 x5 x6 x7 x8 x9 : Int) (b : Gs [(0, 59), (1, 30), (1, 30), (48, 57), (48, 57), (48, 57), (48, 57), (48, 57), (48, 57), (48, 57)] [x0, x1, x2, x3, x4, x5, x6, x7, x8, x9] := by simp only [Gs, and_true]; omega) : TcE105.Ok Tryz.prog (sgl [x0, x1, x2, x3, x4, x5, x6, x7, x8, x9]) := by
  have bb := b
  simp only [Gs, and_true] at bb
  exact sm_signs (F := (TcE105v0F (decide (x0 = (0))))) (us := []) (ps := TcE105v0P) (l := [x0, x1, x2, x3, x4, x5, x6, x7, x8, x9]) ⟨b, (a3 x0 (a3 x1 (a3 x2 an))), an, (al rfl an), an, an, an, an⟩ an (al (pz (TcE22_ok) []) (al (pz (TcE23_ok x3 x4) [.s 3, .s 4]) (al (pz (TcE24_ok) []) (al (pz (TcE36_ok) []) (al (pz (TcE26_ok) []) (al (pz (TcE88_ok x5) [.s 5]) (al (pz (TcE27_ok) []) (al (pz (TcE28_ok x6 x7 x8 x9) k194n) an)))))))) 10 (by simp) (TcE105v0R (decide (x0 = (0)))) (by kernel_rfl)
def TcE106 : Sm := ⟨173, [.sl 0 0 1 5], 1, [(0, k65n)], .sl 5 0 4 2, 6, [(5, k200n), (0, k65n)]⟩
def TcE106v0P : List Pur := [⟨95, [.sint .i64 0], .str [258]⟩, ⟨95, [.sint .i64 1], .str [259]⟩, ⟨226, [.sint .i64 0, .sint .i64 0], .sflt 8⟩, ⟨225, [.sflt 8], .str [260, 46, 261, 262, 263]⟩]
def TcE106v0F : Facts := ⟨[(1, 30), (1, 30), (48, 57), (48, 57), (48, 49), (48, 57), (48, 57), (48, 57), (0, 9218868437227405312)], [⟨.sub, .i64, .s 0, .c (0), .s 0⟩], [], [], [], [], [], []⟩
theorem TcE106v0R : Sr TcE106 TcE106v0F [] TcE106v0P = true := by kernel_rfl
theorem TcE106_ok (x0 x1 x2 x3 x4 x5 x6 x7 : Int) (b : Gs [(1, 30), (1, 30)] [x0, x1] := by simp only [Gs, and_true]; omega) (h2 : x2 = (48) + x0 := by omega) (h3 : x3 = (48) + x1 := by omega) (s4 : IsSh x0 x0 x4 x5 x6 x7 := by assumption) (r0 : 0 ≤ x0 ∧ x0 ≤ 9 := by omega) (r1 : 0 ≤ x1 ∧ x1 ≤ 9 := by omega) (r2 : (0 ≤ x0 ∧ x0 ≤ x0) ∧ (1 ≤ x0 ∧ x0 ≤ 30) := by omega) : TcE106.Ok Tryz.prog (sgl [x0, x1, x2, x3, x4, x5, x6, x7]) := by
  have bb := b
  simp only [Gs, and_true] at bb
  obtain ⟨y8, h8⟩ := ex (shC x0 x0)
  have d4 := s4.bd
  have d8 := shC_bd x0 x0
  exact sm_signs (F := TcE106v0F) (us := []) (ps := TcE106v0P) (l := [x0, x1, x2, x3, x4, x5, x6, x7, y8]) ⟨gc (gc (gc (gc (gc (gc (gc (gc (gc trivial)))))))), (al (fS x0 (0) x0) an), an, an, an, an, an, an⟩ an (al (pz (dg1 x0 x2) [.s 0, .s 2]) (al (pz (dg1 x1 x3) [.s 1, .s 3]) (al (pz (of0 x0 x0 y8) [.s 0, .s 0, .s 8]) (al (pz (tx0 y8 x4 x5 x6 x7 x0 x0) [.s 8, .s 4, .s 5, .s 6, .s 7]) an)))) 8 (by simp) TcE106v0R (by kernel_rfl)
def TcE107 : Sm := ⟨85, [k55n], 2, [(0, k45n), (1, k53n)], k276n, 73, [(72, .typ false 5 (u8s TcKcd6e)), (0, k45n), (1, k53n)]⟩
def TcE107v0P : List Pur := [⟨184, [k230n], .bool true⟩, ⟨184, [k105n], .bool true⟩, ⟨184, [.agg [.str TcK66a8, .str [260]]], .bool true⟩, ⟨184, [.agg [.str TcK8148, k118n]], .bool true⟩]
def TcE107v0F : Facts := ⟨[(0, 59), (1, 30), (1, 30), (48, 57), (48, 57), (48, 57), (48, 57), (48, 57), (48, 57)], [], [], [], [], [], [], []⟩
theorem TcE107v0R : Sr TcE107 TcE107v0F [] TcE107v0P = true := by kernel_rfl
theorem TcE107_ok (x0 x1 x2 x3 x4 x5 x6 x7 x8 : Int) (b : Gs [(0, 59), (1, 30), (1, 30), (48, 57), (48, 57), (48, 57), (48, 57), (48, 57), (48, 57)] [x0, x1, x2, x3, x4, x5, x6, x7, x8] := by simp only [Gs, and_true]; omega) : TcE107.Ok Tryz.prog (sgl [x0, x1, x2, x3, x4, x5, x6, x7, x8]) := by
  have bb := b
  simp only [Gs, and_true] at bb
  exact sm_signs (F := TcE107v0F) (us := []) (ps := TcE107v0P) (l := [x0, x1, x2, x3, x4, x5, x6, x7, x8]) ⟨b, an, an, an, an, an, an, an⟩ an (al (pz (TcE32_ok x3) [.s 3]) (al (pz (TcE33_ok) []) (al (pz (TcE94_ok x4) [.s 4]) (al (pz (TcE20_ok x5 x6 x7 x8) k287n) an)))) 9 (by simp) TcE107v0R (by kernel_rfl)
def TcE108 : Sm := ⟨38, [.sl 0 0 106 1], 1, [(0, .cells (u8s TcKcd6e))], k41n, 15, [(14, k53n), (6, k45n), (0, .cells (u8s TcKcd6e))]⟩
def TcE108v0P : List Pur := [⟨81, [.str TcKb987], .bool true⟩, ⟨102, [.str TcK2e14], .bool true⟩, ⟨81, [.str TcK6d81], .bool true⟩, ⟨102, [k180n], .bool true⟩, ⟨81, [.str TcK66a8], .bool true⟩, ⟨102, [.str [260]], .bool true⟩, ⟨81, [.str TcK8148], .bool true⟩, ⟨102, [k118n], .bool true⟩]
def TcE108v0F (d0 : Bool) : Facts := ⟨[(0, 59), (1, 30), (1, 30), (48, 57), (48, 57), (48, 57), (48, 57), (48, 57), (48, 57)], t3 0 (t3 1 (t3 2 ([]))), [], [⟨.s 0, .c (0), d0⟩], [], [], [], []⟩
theorem TcE108v0R : ∀ d0, Sr TcE108 (TcE108v0F d0) [] TcE108v0P = true := by intro d0; cases d0 <;> kernel_rfl
theorem TcE108_ok (x0 x1 x2 x3 x4 x5 x6 x7 x8 : Int) (b : Gs [(0, 59), (1, 30), (1, 30), (48, 57), (48, 57), (48, 57), (48, 57), (48, 57), (48, 57)] [x0, x1, x2, x3, x4, x5, x6, x7, x8] := by simp only [Gs, and_true]; omega) : TcE108.Ok Tryz.prog (sgl [x0, x1, x2, x3, x4, x5, x6, x7, x8]) := by
  have bb := b
  simp only [Gs, and_true] at bb
  exact sm_signs (F := (TcE108v0F (decide (x0 = (0))))) (us := []) (ps := TcE108v0P) (l := [x0, x1, x2, x3, x4, x5, x6, x7, x8]) ⟨b, (a3 x0 (a3 x1 (a3 x2 an))), an, (al rfl an), an, an, an, an⟩ an (al (pz (TcE22_ok) []) (al (pz (TcE35_ok x3) [.s 3]) (al (pz (TcE24_ok) []) (al (pz (TcE36_ok) []) (al (pz (TcE26_ok) []) (al (pz (TcE88_ok x4) [.s 4]) (al (pz (TcE27_ok) []) (al (pz (TcE28_ok x5 x6 x7 x8) k287n) an)))))))) 9 (by simp) (TcE108v0R (decide (x0 = (0)))) (by kernel_rfl)
def TcE109 : Sm := ⟨173, [.sl 0 0 1 5], 1, [(0, k64n)], .sl 5 0 4 2, 6, [(5, k212n), (0, k64n)]⟩
def TcE109v0P : List Pur := [⟨95, [.sint .i64 0], .str [258]⟩, ⟨95, [.sint .i64 1], k293n⟩, ⟨226, [.sint .i64 0, .sint .i64 0], .sflt 9⟩, ⟨225, [.sflt 9], k118n⟩]
def TcE109v0F : Facts := ⟨[(1, 30), (1, 60), (48, 57), (49, 57), (48, 57), (48, 49), (48, 57), (48, 57), (48, 57), (0, 9218868437227405312)], [⟨.sub, .i64, .s 0, .c (0), .s 0⟩], [], [], [], [], [], []⟩
theorem TcE109v0R : Sr TcE109 TcE109v0F [] TcE109v0P = true := by kernel_rfl
theorem TcE109_ok (x0 x1 x2 x3 x4 x5 x6 x7 x8 : Int) (b : Gs [(1, 30), (1, 60)] [x0, x1] := by simp only [Gs, and_true]; omega) (h2 : x2 = (48) + x0 := by omega) (h3 : x3 = (48) + x1 / 10 := by omega) (h4 : x4 = (48) + x1 % 10 := by omega) (s5 : IsSh x0 x0 x5 x6 x7 x8 := by assumption) (r0 : 0 ≤ x0 ∧ x0 ≤ 9 := by omega) (r1 : 10 ≤ x1 ∧ x1 ≤ 99 := by omega) (r2 : (0 ≤ x0 ∧ x0 ≤ x0) ∧ (1 ≤ x0 ∧ x0 ≤ 30) := by omega) : TcE109.Ok Tryz.prog (sgl [x0, x1, x2, x3, x4, x5, x6, x7, x8]) := by
  have bb := b
  simp only [Gs, and_true] at bb
  obtain ⟨y9, h9⟩ := ex (shC x0 x0)
  have d5 := s5.bd
  have d9 := shC_bd x0 x0
  exact sm_signs (F := TcE109v0F) (us := []) (ps := TcE109v0P) (l := [x0, x1, x2, x3, x4, x5, x6, x7, x8, y9]) ⟨gc (gc (gc (gc (gc (gc (gc (gc (gc (gc trivial))))))))), (al (fS x0 (0) x0) an), an, an, an, an, an, an⟩ an (al (pz (dg1 x0 x2) [.s 0, .s 2]) (al (pz (dg2 x1 x3 x4) [.s 1, .s 3, .s 4]) (al (pz (of0 x0 x0 y9) [.s 0, .s 0, .s 9]) (al (pz (tx0 y9 x5 x6 x7 x8 x0 x0) k252n) an)))) 9 (by simp) TcE109v0R (by kernel_rfl)
def TcE110 : Sm := ⟨85, [k95n], 2, [(0, k44n), (1, k51n)], k275n, 73, [(72, .typ false 5 (u8s TcKea0a)), (0, k44n), (1, k51n)]⟩
def TcE110v0P : List Pur := [⟨184, [k230n], .bool true⟩, ⟨184, [k105n], .bool true⟩, ⟨184, [.agg [.str TcK66a8, k292n]], .bool true⟩, ⟨184, [k261n], .bool true⟩]
def TcE110v0F : Facts := ⟨[(0, 59), (1, 30), (1, 60), (48, 57), (48, 57), (48, 57), (48, 57), (48, 57), (48, 57), (48, 57)], [], [], [], [], [], [], []⟩
theorem TcE110v0R : Sr TcE110 TcE110v0F [] TcE110v0P = true := by kernel_rfl
theorem TcE110_ok (x0 x1 x2 x3 x4 x5 x6 x7 x8 x9 : Int) (b : Gs [(0, 59), (1, 30), (1, 60), (48, 57), (48, 57), (48, 57), (48, 57), (48, 57), (48, 57), (48, 57)] [x0, x1, x2, x3, x4, x5, x6, x7, x8, x9] := by simp only [Gs, and_true]; omega) : TcE110.Ok Tryz.prog (sgl [x0, x1, x2, x3, x4, x5, x6, x7, x8, x9]) := by
  have bb := b
  simp only [Gs, and_true] at bb
  exact sm_signs (F := TcE110v0F) (us := []) (ps := TcE110v0P) (l := [x0, x1, x2, x3, x4, x5, x6, x7, x8, x9]) ⟨b, an, an, an, an, an, an, an⟩ an (al (pz (TcE32_ok x3) [.s 3]) (al (pz (TcE33_ok) []) (al (pz (TcE18_ok x4 x5) k245n) (al (pz (TcE20_ok x6 x7 x8 x9) k194n) an)))) 10 (by simp) TcE110v0R (by kernel_rfl)
def TcE111 : Sm := ⟨38, [.sl 0 0 107 1], 1, [(0, .cells (u8s TcKea0a))], k72n, 15, [(14, k51n), (6, k44n), (0, .cells (u8s TcKea0a))]⟩
def TcE111v0P : List Pur := [⟨81, [.str TcKb987], .bool true⟩, ⟨102, [.str TcK2e14], .bool true⟩, ⟨81, [.str TcK6d81], .bool true⟩, ⟨102, [k180n], .bool true⟩, ⟨81, [.str TcK66a8], .bool true⟩, ⟨102, [k292n], .bool true⟩, ⟨81, [.str TcK8148], .bool true⟩, ⟨102, [k117n], .bool true⟩]
def TcE111v0F (d0 : Bool) : Facts := ⟨[(0, 59), (1, 30), (1, 60), (48, 57), (48, 57), (48, 57), (48, 57), (48, 57), (48, 57), (48, 57)], t3 0 (t3 1 (t3 2 ([]))), [], [⟨.s 0, .c (0), d0⟩], [], [], [], []⟩
theorem TcE111v0R : ∀ d0, Sr TcE111 (TcE111v0F d0) [] TcE111v0P = true := by intro d0; cases d0 <;> kernel_rfl
theorem TcE111_ok (x0 x1 x2 x3 x4 x5 x6 x7 x8 x9 : Int) (b : Gs [(0, 59), (1, 30), (1, 60), (48, 57), (48, 57), (48, 57), (48, 57), (48, 57), (48, 57), (48, 57)] [x0, x1, x2, x3, x4, x5, x6, x7, x8, x9] := by simp only [Gs, and_true]; omega) : TcE111.Ok Tryz.prog (sgl [x0, x1, x2, x3, x4, x5, x6, x7, x8, x9]) := by
  have bb := b
  simp only [Gs, and_true] at bb
  exact sm_signs (F := (TcE111v0F (decide (x0 = (0))))) (us := []) (ps := TcE111v0P) (l := [x0, x1, x2, x3, x4, x5, x6, x7, x8, x9]) ⟨b, (a3 x0 (a3 x1 (a3 x2 an))), an, (al rfl an), an, an, an, an⟩ an (al (pz (TcE22_ok) []) (al (pz (TcE35_ok x3) [.s 3]) (al (pz (TcE24_ok) []) (al (pz (TcE36_ok) []) (al (pz (TcE26_ok) []) (al (pz (TcE25_ok x4 x5) k245n) (al (pz (TcE27_ok) []) (al (pz (TcE28_ok x6 x7 x8 x9) k194n) an)))))))) 10 (by simp) (TcE111v0R (decide (x0 = (0)))) (by kernel_rfl)
def TcE112 : Sm := ⟨173, [.sl 0 0 1 5], 1, [(0, k64n)], .sl 5 0 4 2, 6, [(5, k219n), (0, k64n)]⟩
def TcE112v0P : List Pur := [⟨95, [.sint .i64 0], k294n⟩, ⟨95, [.sint .i64 1], .str [260]⟩, ⟨226, [.sint .i64 0, .sint .i64 0], .sflt 9⟩, ⟨225, [.sflt 9], k118n⟩]
def TcE112v0F : Facts := ⟨[(1, 30), (1, 30), (49, 57), (48, 57), (48, 57), (48, 49), (48, 57), (48, 57), (48, 57), (0, 9218868437227405312)], [⟨.sub, .i64, .s 0, .c (0), .s 0⟩], [], [], [], [], [], []⟩
theorem TcE112v0R : Sr TcE112 TcE112v0F [] TcE112v0P = true := by kernel_rfl
theorem TcE112_ok (x0 x1 x2 x3 x4 x5 x6 x7 x8 : Int) (b : Gs [(1, 30), (1, 30)] [x0, x1] := by simp only [Gs, and_true]; omega) (h2 : x2 = (48) + x0 / 10 := by omega) (h3 : x3 = (48) + x0 % 10 := by omega) (h4 : x4 = (48) + x1 := by omega) (s5 : IsSh x0 x0 x5 x6 x7 x8 := by assumption) (r0 : 10 ≤ x0 ∧ x0 ≤ 99 := by omega) (r1 : 0 ≤ x1 ∧ x1 ≤ 9 := by omega) (r2 : (0 ≤ x0 ∧ x0 ≤ x0) ∧ (1 ≤ x0 ∧ x0 ≤ 30) := by omega) : TcE112.Ok Tryz.prog (sgl [x0, x1, x2, x3, x4, x5, x6, x7, x8]) := by
  have bb := b
  simp only [Gs, and_true] at bb
  obtain ⟨y9, h9⟩ := ex (shC x0 x0)
  have d5 := s5.bd
  have d9 := shC_bd x0 x0
  exact sm_signs (F := TcE112v0F) (us := []) (ps := TcE112v0P) (l := [x0, x1, x2, x3, x4, x5, x6, x7, x8, y9]) ⟨gc (gc (gc (gc (gc (gc (gc (gc (gc (gc trivial))))))))), (al (fS x0 (0) x0) an), an, an, an, an, an, an⟩ an (al (pz (dg2 x0 x2 x3) [.s 0, .s 2, .s 3]) (al (pz (dg1 x1 x4) [.s 1, .s 4]) (al (pz (of0 x0 x0 y9) [.s 0, .s 0, .s 9]) (al (pz (tx0 y9 x5 x6 x7 x8 x0 x0) k252n) an)))) 9 (by simp) TcE112v0R (by kernel_rfl)
def TcE113 : Sm := ⟨85, [k95n], 2, [(0, k44n), (1, k52n)], k274n, 73, [(72, .typ false 5 (u8s TcKd059)), (0, k44n), (1, k52n)]⟩
def TcE113v0P : List Pur := [⟨184, [k229n], .bool true⟩, ⟨184, [k105n], .bool true⟩, ⟨184, [.agg [.str TcK66a8, k257n]], .bool true⟩, ⟨184, [k261n], .bool true⟩]
def TcE113v0F : Facts := ⟨[(0, 59), (1, 30), (1, 30), (48, 57), (48, 57), (48, 57), (48, 57), (48, 57), (48, 57), (48, 57)], [], [], [], [], [], [], []⟩
theorem TcE113v0R : Sr TcE113 TcE113v0F [] TcE113v0P = true := by kernel_rfl
theorem TcE113_ok (x0 x1 x2 x3 x4 x5 x6 x7 x8 x9 : Int) (b : Gs [(0, 59), (1, 30), (1, 30), (48, 57), (48, 57), (48, 57), (48, 57), (48, 57), (48, 57), (48, 57)] [x0, x1, x2, x3, x4, x5, x6, x7, x8, x9] := by simp only [Gs, and_true]; omega) : TcE113.Ok Tryz.prog (sgl [x0, x1, x2, x3, x4, x5, x6, x7, x8, x9]) := by
  have bb := b
  simp only [Gs, and_true] at bb
  exact sm_signs (F := TcE113v0F) (us := []) (ps := TcE113v0P) (l := [x0, x1, x2, x3, x4, x5, x6, x7, x8, x9]) ⟨b, an, an, an, an, an, an, an⟩ an (al (pz (TcE14_ok x3 x4) [.s 3, .s 4]) (al (pz (TcE33_ok) []) (al (pz (TcE94_ok x5) [.s 5]) (al (pz (TcE20_ok x6 x7 x8 x9) k194n) an)))) 10 (by simp) TcE113v0R (by kernel_rfl)
def TcE114 : Sm := ⟨38, [.sl 0 0 108 1], 1, [(0, .cells (u8s TcKd059))], k72n, 15, [(14, k52n), (6, k44n), (0, .cells (u8s TcKd059))]⟩
def TcE114v0P : List Pur := [⟨81, [.str TcKb987], .bool true⟩, ⟨102, [.str TcK4f89], .bool true⟩, ⟨81, [.str TcK6d81], .bool true⟩, ⟨102, [k180n], .bool true⟩, ⟨81, [.str TcK66a8], .bool true⟩, ⟨102, [k257n], .bool true⟩, ⟨81, [.str TcK8148], .bool true⟩, ⟨102, [k117n], .bool true⟩]
def TcE114v0F (d0 : Bool) : Facts := ⟨[(0, 59), (1, 30), (1, 30), (48, 57), (48, 57), (48, 57), (48, 57), (48, 57), (48, 57), (48, 57)], t3 0 (t3 1 (t3 2 ([]))), [], [⟨.s 0, .c (0), d0⟩], [], [], [], []⟩
theorem TcE114v0R : ∀ d0, Sr TcE114 (TcE114v0F d0) [] TcE114v0P = true := by intro d0; cases d0 <;> kernel_rfl
theorem TcE114_ok (x0 x1 x2 x3 x4 x5 x6 x7 x8 x9 : Int) (b : Gs [(0, 59), (1, 30), (1, 30), (48, 57), (48, 57), (48, 57), (48, 57), (48, 57), (48, 57), (48, 57)] [x0, x1, x2, x3, x4, x5, x6, x7, x8, x9] := by simp only [Gs, and_true]; omega) : TcE114.Ok Tryz.prog (sgl [x0, x1, x2, x3, x4, x5, x6, x7, x8, x9]) := by
  have bb := b
  simp only [Gs, and_true] at bb
  exact sm_signs (F := (TcE114v0F (decide (x0 = (0))))) (us := []) (ps := TcE114v0P) (l := [x0, x1, x2, x3, x4, x5, x6, x7, x8, x9]) ⟨b, (a3 x0 (a3 x1 (a3 x2 an))), an, (al rfl an), an, an, an, an⟩ an (al (pz (TcE22_ok) []) (al (pz (TcE23_ok x3 x4) [.s 3, .s 4]) (al (pz (TcE24_ok) []) (al (pz (TcE36_ok) []) (al (pz (TcE26_ok) []) (al (pz (TcE88_ok x5) [.s 5]) (al (pz (TcE27_ok) []) (al (pz (TcE28_ok x6 x7 x8 x9) k194n) an)))))))) 10 (by simp) (TcE114v0R (decide (x0 = (0)))) (by kernel_rfl)
def TcE115 : Sm := ⟨173, [.sl 0 0 1 5], 1, [(0, k64n)], .sl 5 0 4 2, 6, [(5, k200n), (0, k64n)]⟩
def TcE115v0P : List Pur := [⟨95, [.sint .i64 0], .str [258]⟩, ⟨95, [.sint .i64 1], .str [259]⟩, ⟨226, [.sint .i64 0, .sint .i64 0], .sflt 8⟩, ⟨225, [.sflt 8], .str [260, 46, 261, 262, 263]⟩]
def TcE115v0F : Facts := ⟨[(1, 30), (1, 30), (48, 57), (48, 57), (48, 49), (48, 57), (48, 57), (48, 57), (0, 9218868437227405312)], [⟨.sub, .i64, .s 0, .c (0), .s 0⟩], [], [], [], [], [], []⟩
theorem TcE115v0R : Sr TcE115 TcE115v0F [] TcE115v0P = true := by kernel_rfl
theorem TcE115_ok (x0 x1 x2 x3 x4 x5 x6 x7 : Int) (b : Gs [(1, 30), (1, 30)] [x0, x1] := by simp only [Gs, and_true]; omega) (h2 : x2 = (48) + x0 := by omega) (h3 : x3 = (48) + x1 := by omega) (s4 : IsSh x0 x0 x4 x5 x6 x7 := by assumption) (r0 : 0 ≤ x0 ∧ x0 ≤ 9 := by omega) (r1 : 0 ≤ x1 ∧ x1 ≤ 9 := by omega) (r2 : (0 ≤ x0 ∧ x0 ≤ x0) ∧ (1 ≤ x0 ∧ x0 ≤ 30) := by omega) : TcE115.Ok Tryz.prog (sgl [x0, x1, x2, x3, x4, x5, x6, x7]) := by
  have bb := b
  simp only [Gs, and_true] at bb
  obtain ⟨y8, h8⟩ := ex (shC x0 x0)
  have d4 := s4.bd
  have d8 := shC_bd x0 x0
  exact sm_signs (F := TcE115v0F) (us := []) (ps := TcE115v0P) (l := [x0, x1, x2, x3, x4, x5, x6, x7, y8]) ⟨gc (gc (gc (gc (gc (gc (gc (gc (gc trivial)))))))), (al (fS x0 (0) x0) an), an, an, an, an, an, an⟩ an (al (pz (dg1 x0 x2) [.s 0, .s 2]) (al (pz (dg1 x1 x3) [.s 1, .s 3]) (al (pz (of0 x0 x0 y8) [.s 0, .s 0, .s 8]) (al (pz (tx0 y8 x4 x5 x6 x7 x0 x0) [.s 8, .s 4, .s 5, .s 6, .s 7]) an)))) 8 (by simp) TcE115v0R (by kernel_rfl)
def TcE116 : Sm := ⟨85, [k95n], 2, [(0, k44n), (1, k53n)], k276n, 73, [(72, .typ false 5 (u8s TcK8eaa)), (0, k44n), (1, k53n)]⟩
def TcE116v0P : List Pur := [⟨184, [k230n], .bool true⟩, ⟨184, [k105n], .bool true⟩, ⟨184, [.agg [.str TcK66a8, .str [260]]], .bool true⟩, ⟨184, [.agg [.str TcK8148, k118n]], .bool true⟩]
def TcE116v0F : Facts := ⟨[(0, 59), (1, 30), (1, 30), (48, 57), (48, 57), (48, 57), (48, 57), (48, 57), (48, 57)], [], [], [], [], [], [], []⟩
theorem TcE116v0R : Sr TcE116 TcE116v0F [] TcE116v0P = true := by kernel_rfl
theorem TcE116_ok (x0 x1 x2 x3 x4 x5 x6 x7 x8 : Int) (b : Gs [(0, 59), (1, 30), (1, 30), (48, 57), (48, 57), (48, 57), (48, 57), (48, 57), (48, 57)] [x0, x1, x2, x3, x4, x5, x6, x7, x8] := by simp only [Gs, and_true]; omega) : TcE116.Ok Tryz.prog (sgl [x0, x1, x2, x3, x4, x5, x6, x7, x8]) := by
  have bb := b
  simp only [Gs, and_true] at bb
  exact sm_signs (F := TcE116v0F) (us := []) (ps := TcE116v0P) (l := [x0, x1, x2, x3, x4, x5, x6, x7, x8]) ⟨b, an, an, an, an, an, an, an⟩ an (al (pz (TcE32_ok x3) [.s 3]) (al (pz (TcE33_ok) []) (al (pz (TcE94_ok x4) [.s 4]) (al (pz (TcE20_ok x5 x6 x7 x8) k287n) an)))) 9 (by simp) TcE116v0R (by kernel_rfl)
def TcE117 : Sm := ⟨38, [.sl 0 0 106 1], 1, [(0, .cells (u8s TcK8eaa))], k72n, 15, [(14, k53n), (6, k44n), (0, .cells (u8s TcK8eaa))]⟩
def TcE117v0P : List Pur := [⟨81, [.str TcKb987], .bool true⟩, ⟨102, [.str TcK2e14], .bool true⟩, ⟨81, [.str TcK6d81], .bool true⟩, ⟨102, [k180n], .bool true⟩, ⟨81, [.str TcK66a8], .bool true⟩, ⟨102, [.str [260]], .bool true⟩, ⟨81, [.str TcK8148], .bool true⟩, ⟨102, [k118n], .bool true⟩]
def TcE117v0F (d0 : Bool) : Facts := ⟨[(0, 59), (1, 30), (1, 30), (48, 57), (48, 57), (48, 57), (48, 57), (48, 57), (48, 57)], t3 0 (t3 1 (t3 2 ([]))), [], [⟨.s 0, .c (0), d0⟩], [], [], [], []⟩
theorem TcE117v0R : ∀ d0, Sr TcE117 (TcE117v0F d0) [] TcE117v0P = true := by intro d0; cases d0 <;> kernel_rfl
theorem TcE117_ok (x0 x1 x2 x3 x4 x5 x6 x7 x8 : Int) (b : Gs [(0, 59), (1, 30), (1, 30), (48, 57), (48, 57), (48, 57), (48, 57), (48, 57), (48, 57)] [x0, x1, x2, x3, x4, x5, x6, x7, x8] := by simp only [Gs, and_true]; omega) : TcE117.Ok Tryz.prog (sgl [x0, x1, x2, x3, x4, x5, x6, x7, x8]) := by
  have bb := b
  simp only [Gs, and_true] at bb
  exact sm_signs (F := (TcE117v0F (decide (x0 = (0))))) (us := []) (ps := TcE117v0P) (l := [x0, x1, x2, x3, x4, x5, x6, x7, x8]) ⟨b, (a3 x0 (a3 x1 (a3 x2 an))), an, (al rfl an), an, an, an, an⟩ an (al (pz (TcE22_ok) []) (al (pz (TcE35_ok x3) [.s 3]) (al (pz (TcE24_ok) []) (al (pz (TcE36_ok) []) (al (pz (TcE26_ok) []) (al (pz (TcE88_ok x4) [.s 4]) (al (pz (TcE27_ok) []) (al (pz (TcE28_ok x5 x6 x7 x8) k287n) an)))))))) 9 (by simp) (TcE117v0R (decide (x0 = (0)))) (by kernel_rfl)
def TcE118 : Sm := ⟨173, [.sl 0 0 1 5], 1, [(0, k146n)], .sl 5 0 4 2, 6, [(5, .cells [.str TcKb987, .str TcK0f33, .str TcK6d81, k180n, .str TcK66a8, .str [257], .str TcK8148, k177n]), (0, k146n)]⟩
def TcE118v0P : List Pur := [⟨95, [.sint .i64 0], .str [257]⟩, ⟨226, [.int .i64 0, .int .i64 0], .nan⟩, ⟨225, [.nan], k177n⟩]
def TcE118v0F : Facts := ⟨[(1, 30), (48, 57)], [], [], [], [], [], [], []⟩
theorem TcE118v0R : Sr TcE118 TcE118v0F [] TcE118v0P = true := by kernel_rfl
theorem TcE118_ok (x0 x1 : Int) (b : Gs [(1, 30)] [x0] := by simp only [Gs, and_true]; omega) (h1 : x1 = (48) + x0 := by omega) (r0 : 0 ≤ x0 ∧ x0 ≤ 9 := by omega) : TcE118.Ok Tryz.prog (sgl [x0, x1]) := by
  have bb := b
  simp only [Gs, and_true] at bb
  exact sm_signs (F := TcE118v0F) (us := []) (ps := TcE118v0P) (l := [x0, x1]) ⟨gc (gc trivial), an, an, an, an, an, an, an⟩ an (al (pz (dg1 x0 x1) [.s 0, .s 1]) (al nan_of (al nan_text an))) 2 (by simp) TcE118v0R (by kernel_rfl)
def TcE119 : Sm := ⟨85, [k95n], 2, [(0, k91n), (1, k132n)], .tup [.sl 72 0 104 1, .int .i64 0], 73, [(72, .typ false 5 (u8s TcKd83c)), (0, k91n), (1, k132n)]⟩
def TcE119v0P : List Pur := [⟨184, [k201n], .bool true⟩, ⟨184, [k105n], .bool true⟩, ⟨184, [.agg [.str TcK66a8, .str [258]]], .bool true⟩, ⟨184, [k231n], .bool true⟩]
def TcE119v0F : Facts := ⟨[(0, 59), (1, 30), (48, 57)], [], [], [], [], [], [], []⟩
theorem TcE119v0R : Sr TcE119 TcE119v0F [] TcE119v0P = true := by kernel_rfl
theorem TcE119_ok (x0 x1 x2 : Int) (b : Gs [(0, 59), (1, 30), (48, 57)] [x0, x1, x2] := by simp only [Gs, and_true]; omega) : TcE119.Ok Tryz.prog (sgl [x0, x1, x2]) := by
  have bb := b
  simp only [Gs, and_true] at bb
  exact sm_signs (F := TcE119v0F) (us := []) (ps := TcE119v0P) (l := [x0, x1, x2]) ⟨b, an, an, an, an, an, an, an⟩ an (al (pz (TcE54_ok) []) (al (pz (TcE33_ok) []) (al (pz (TcE94_ok x2) k232n) (al (pz (TcE55_ok) []) an)))) 3 (by simp) TcE119v0R (by kernel_rfl)
def TcE120 : Sm := ⟨38, [.sl 0 0 104 1], 1, [(0, .cells (u8s TcKd83c))], k72n, 15, [(14, k132n), (6, k91n), (0, .cells (u8s TcKd83c))]⟩
def TcE120v0P : List Pur := [⟨81, [.str TcKb987], .bool true⟩, ⟨102, [.str TcK0f33], .bool true⟩, ⟨81, [.str TcK6d81], .bool true⟩, ⟨102, [k180n], .bool true⟩, ⟨81, [.str TcK66a8], .bool true⟩, ⟨102, [.str [258]], .bool true⟩, ⟨81, [.str TcK8148], .bool true⟩, ⟨102, [k177n], .bool true⟩]
def TcE120v0F (d0 : Bool) : Facts := ⟨[(0, 59), (1, 30), (48, 57)], t3 0 (t3 1 ([])), [], [⟨.s 0, .c (0), d0⟩], [], [], [], []⟩
theorem TcE120v0R : ∀ d0, Sr TcE120 (TcE120v0F d0) [] TcE120v0P = true := by intro d0; cases d0 <;> kernel_rfl
theorem TcE120_ok (x0 x1 x2 : Int) (b : Gs [(0, 59), (1, 30), (48, 57)] [x0, x1, x2] := by simp only [Gs, and_true]; omega) : TcE120.Ok Tryz.prog (sgl [x0, x1, x2]) := by
  have bb := b
  simp only [Gs, and_true] at bb
  exact sm_signs (F := (TcE120v0F (decide (x0 = (0))))) (us := []) (ps := TcE120v0P) (l := [x0, x1, x2]) ⟨b, (a3 x0 (a3 x1 an)), an, (al rfl an), an, an, an, an⟩ an (al (pz (TcE22_ok) []) (al (pz (TcE57_ok) []) (al (pz (TcE24_ok) []) (al (pz (TcE36_ok) []) (al (pz (TcE26_ok) []) (al (pz (TcE88_ok x2) k232n) (al (pz (TcE27_ok) []) (al (pz (TcE58_ok) []) an)))))))) 3 (by simp) (TcE120v0R (decide (x0 = (0)))) (by kernel_rfl)
end
end Go.Proofs.YtnpkeganpkobjaaGreatDoor.Ev
