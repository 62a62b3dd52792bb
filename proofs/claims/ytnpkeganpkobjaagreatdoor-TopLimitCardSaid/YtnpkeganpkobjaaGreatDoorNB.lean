import Derived.Test.YtnpkeganpkobjaaGreatDoorNA
import Derived.Test.YtnpkeganpkobjaaGreatDoorCK
import Derived.Test.YtnpkeganpkobjaaGreatDoorCG
set_option linter.all false
namespace Go.Proofs.YtnpkeganpkobjaaGreatDoor.Ev
set_option maxRecDepth 100000
set_option maxHeartbeats 4000000
open Go Go.RowKit
noncomputable section
def TpE30 : Sm := ⟨108, [.sl 0 0 156 1], 1, [(0, .cells (u8s TpK1385))], k183n, 250, [(247, .cells [k3n, k50n, .bool true, .int .i64 0, .int .i64 (-1), .bool true, k50n, .int .i64 2, .sint .i64 2, .flt 4602678819172646912, .bool false, .bool false, .nils]), (242, .cells [k1n, .sl 249 0 1 1]), (0, .cells (u8s TpK1385)), (249, k18n)]⟩
def TpE30v0U : List Use := []
def TpE30v0P : List Pur := [⟨253, [k163n], k104n⟩, ⟨161, [k1n], .bool true⟩, ⟨161, [k3n], .bool true⟩, ⟨423, [k193n], k285n⟩, ⟨253, [k196n], k178n⟩]
def TpE30v0F : Facts := ⟨[(49, 57), (48, 57), (10, 99)], [], [], [], [], [], [], []⟩
theorem TpE30v0R : smOk TpE30 (callS TpE30v0F TpE30v0U TpE30v0P TpE30.f TpE30.args (mkSt TpE30.h0 TpE30.n0)) = true := by kernel_rfl
theorem TpE30_ok (x0 x1 x2 : Int) (b : Gs [(49, 57), (48, 57)] [x0, x1] := by simp only [Gs, and_true]; omega) (h2 : x2 = (-528) + (10) * x0 + x1 := by omega) (r0 : (10 : Int) ≤ x2 ∧ x2 ≤ 99 := by omega) : TpE30.Ok Tryz.prog (sgl [x0, x1, x2]) := by
  have bb := b
  simp only [Gs, and_true] at bb
  exact sm_signs (F := TpE30v0F) (us := TpE30v0U) (ps := TpE30v0P) (l := [x0, x1, x2]) ⟨gc (gc (gc trivial)), an, an, an, an, an, an, an⟩ an (al (pz (TpE2_ok) []) (al (pz (TpE3_ok) []) (al (pz (TpE4_ok) []) (al (pz (TpE5_ok x0 x1 x2) [.s 0, .s 1, .s 2]) (al (pz (TpE29_ok) []) an))))) 3 (by simp) TpE30v0R (by kernel_rfl)
def TpE31 (n : Nat) : Sm := ⟨225, [.flt 4602678819172646912], 0, [], k216n, n, []⟩
def TpE31v0U : List Use := []
def TpE31v0P : List Pur := []
def TpE31v0F : Facts := ⟨[], [], [], [], [], [], [], []⟩
theorem TpE31v0R : ∃ n, smOk (TpE31 n) (callS TpE31v0F TpE31v0U TpE31v0P 225 [.flt 4602678819172646912] (mkSt [] 0)) = true := by
  exact ⟨match (callS TpE31v0F TpE31v0U TpE31v0P 225 [.flt 4602678819172646912] (mkSt [] 0)) with | some r => r.2.next | none => 0, by kernel_rfl⟩
theorem TpE31_ok : ∃ n, (TpE31 n).Ok Tryz.prog (sgl []) := by
  obtain ⟨n, hn⟩ := TpE31v0R
  exact ⟨n, sm_signs (F := TpE31v0F) (us := TpE31v0U) (ps := TpE31v0P) (l := []) ⟨trivial, an, an, an, an, an, an, an⟩ an an 0 (by simp) hn (by kernel_rfl)⟩
def TpE32 (n : Nat) : Sm := ⟨327, [.flt 4602678819172646912, .flt 0], 0, [], .bool false, n, []⟩
def TpE32v0U : List Use := []
def TpE32v0P : List Pur := []
def TpE32v0F : Facts := ⟨[], [], [], [], [], [], [], []⟩
theorem TpE32v0R : ∃ n, smOk (TpE32 n) (callS TpE32v0F TpE32v0U TpE32v0P 327 [.flt 4602678819172646912, .flt 0] (mkSt [] 0)) = true := by
  exact ⟨match (callS TpE32v0F TpE32v0U TpE32v0P 327 [.flt 4602678819172646912, .flt 0] (mkSt [] 0)) with | some r => r.2.next | none => 0, by kernel_rfl⟩
theorem TpE32_ok : ∃ n, (TpE32 n).Ok Tryz.prog (sgl []) := by
  obtain ⟨n, hn⟩ := TpE32v0R
  exact ⟨n, sm_signs (F := TpE32v0F) (us := TpE32v0U) (ps := TpE32v0P) (l := []) ⟨trivial, an, an, an, an, an, an, an⟩ an an 0 (by simp) hn (by kernel_rfl)⟩
def TpE33 (n : Nat) : Sm := ⟨327, [.flt 4602678819172646912, .flt 4607182418800017408], 0, [], .bool false, n, []⟩
def TpE33v0U : List Use := []
def TpE33v0P : List Pur := []
def TpE33v0F : Facts := ⟨[], [], [], [], [], [], [], []⟩
theorem TpE33v0R : ∃ n, smOk (TpE33 n) (callS TpE33v0F TpE33v0U TpE33v0P 327 [.flt 4602678819172646912, .flt 4607182418800017408] (mkSt [] 0)) = true := by
  exact ⟨match (callS TpE33v0F TpE33v0U TpE33v0P 327 [.flt 4602678819172646912, .flt 4607182418800017408] (mkSt [] 0)) with | some r => r.2.next | none => 0, by kernel_rfl⟩
theorem TpE33_ok : ∃ n, (TpE33 n).Ok Tryz.prog (sgl []) := by
  obtain ⟨n, hn⟩ := TpE33v0R
  exact ⟨n, sm_signs (F := TpE33v0F) (us := TpE33v0U) (ps := TpE33v0P) (l := []) ⟨trivial, an, an, an, an, an, an, an⟩ an an 0 (by simp) hn (by kernel_rfl)⟩
def TpE34 (n : Nat) : Sm := ⟨253, [.str [48, 46, 52]], 0, [], .tup [.flt 4600877379321698714, .bool true], n, []⟩
def TpE34v0U : List Use := []
def TpE34v0P : List Pur := []
def TpE34v0F : Facts := ⟨[], [], [], [], [], [], [], []⟩
theorem TpE34v0R : ∃ n, smOk (TpE34 n) (callS TpE34v0F TpE34v0U TpE34v0P 253 [.str [48, 46, 52]] (mkSt [] 0)) = true := by
  exact ⟨match (callS TpE34v0F TpE34v0U TpE34v0P 253 [.str [48, 46, 52]] (mkSt [] 0)) with | some r => r.2.next | none => 0, by kernel_rfl⟩
theorem TpE34_ok : ∃ n, (TpE34 n).Ok Tryz.prog (sgl []) := by
  obtain ⟨n, hn⟩ := TpE34v0R
  exact ⟨n, sm_signs (F := TpE34v0F) (us := TpE34v0U) (ps := TpE34v0P) (l := []) ⟨trivial, an, an, an, an, an, an, an⟩ an an 0 (by simp) hn (by kernel_rfl)⟩
def TpE35 (n : Nat) : Sm := ⟨327, [.flt 4602678819172646912, .flt 4600877379321698714], 0, [], .bool false, n, []⟩
def TpE35v0U : List Use := []
def TpE35v0P : List Pur := []
def TpE35v0F : Facts := ⟨[], [], [], [], [], [], [], []⟩
theorem TpE35v0R : ∃ n, smOk (TpE35 n) (callS TpE35v0F TpE35v0U TpE35v0P 327 [.flt 4602678819172646912, .flt 4600877379321698714] (mkSt [] 0)) = true := by
  exact ⟨match (callS TpE35v0F TpE35v0U TpE35v0P 327 [.flt 4602678819172646912, .flt 4600877379321698714] (mkSt [] 0)) with | some r => r.2.next | none => 0, by kernel_rfl⟩
theorem TpE35_ok : ∃ n, (TpE35 n).Ok Tryz.prog (sgl []) := by
  obtain ⟨n, hn⟩ := TpE35v0R
  exact ⟨n, sm_signs (F := TpE35v0F) (us := TpE35v0U) (ps := TpE35v0P) (l := []) ⟨trivial, an, an, an, an, an, an, an⟩ an an 0 (by simp) hn (by kernel_rfl)⟩
def TpE36 (n : Nat) : Sm := ⟨327, [.flt 4602678819172646912, .flt 4602678819172646912], 0, [], .bool true, n, []⟩
def TpE36v0U : List Use := []
def TpE36v0P : List Pur := []
def TpE36v0F : Facts := ⟨[], [], [], [], [], [], [], []⟩
theorem TpE36v0R : ∃ n, smOk (TpE36 n) (callS TpE36v0F TpE36v0U TpE36v0P 327 [.flt 4602678819172646912, .flt 4602678819172646912] (mkSt [] 0)) = true := by
  exact ⟨match (callS TpE36v0F TpE36v0U TpE36v0P 327 [.flt 4602678819172646912, .flt 4602678819172646912] (mkSt [] 0)) with | some r => r.2.next | none => 0, by kernel_rfl⟩
theorem TpE36_ok : ∃ n, (TpE36 n).Ok Tryz.prog (sgl []) := by
  obtain ⟨n, hn⟩ := TpE36v0R
  exact ⟨n, sm_signs (F := TpE36v0F) (us := TpE36v0U) (ps := TpE36v0P) (l := []) ⟨trivial, an, an, an, an, an, an, an⟩ an an 0 (by simp) hn (by kernel_rfl)⟩
def TpE37 (n : Nat) : Sm := ⟨365, [.flt 4602678819172646912], 0, [], k278n, n, []⟩
def TpE37v0U : List Use := []
def TpE37v0P : List Pur := [⟨225, [.flt 4602678819172646912], k216n⟩, ⟨253, [k180n], k264n⟩, ⟨327, [.flt 4602678819172646912, .flt 0], .bool false⟩, ⟨253, [.str [49]], k198n⟩, ⟨327, [.flt 4602678819172646912, .flt 4607182418800017408], .bool false⟩, ⟨253, [.str [48, 46, 52]], .tup [.flt 4600877379321698714, .bool true]⟩, ⟨327, [.flt 4602678819172646912, .flt 4600877379321698714], .bool false⟩, ⟨253, [k196n], k178n⟩, ⟨327, [.flt 4602678819172646912, .flt 4602678819172646912], .bool true⟩]
def TpE37v0F : Facts := ⟨[], [], [], [], [], [], [], []⟩
theorem TpE37v0R : ∃ n, smOk (TpE37 n) (callS TpE37v0F TpE37v0U TpE37v0P 365 [.flt 4602678819172646912] (mkSt [] 0)) = true := by
  exact ⟨match (callS TpE37v0F TpE37v0U TpE37v0P 365 [.flt 4602678819172646912] (mkSt [] 0)) with | some r => r.2.next | none => 0, by kernel_rfl⟩
theorem TpE37_ok : ∃ n, (TpE37 n).Ok Tryz.prog (sgl []) := by
  obtain ⟨n, hn⟩ := TpE37v0R
  exact ⟨n, sm_signs (F := TpE37v0F) (us := TpE37v0U) (ps := TpE37v0P) (l := []) ⟨trivial, an, an, an, an, an, an, an⟩ an (al (pz (TpE31_ok) []) (al (pz (TpE8_ok) []) (al (pz (TpE32_ok) []) (al (pz (TpE10_ok) []) (al (pz (TpE33_ok) []) (al (pz (TpE34_ok) []) (al (pz (TpE35_ok) []) (al (pz (TpE29_ok) []) (al (pz (TpE36_ok) []) an))))))))) 0 (by simp) hn (by kernel_rfl)⟩
def TpE38 : Sm := ⟨109, [k171n], 3, [(0, k128n), (1, k35n), (2, k18n)], k186n, 13, [(6, k109n), (0, k128n), (1, k35n), (2, k18n), (12, k35n), (9, k172n), (4, k60n), (5, k25n)]⟩
def TpE38v0U : List Use := []
def TpE38v0P : List Pur := [⟨161, [k1n], .bool true⟩, ⟨161, [k3n], .bool true⟩, ⟨365, [.flt 4602678819172646912], k278n⟩]
def TpE38v0F : Facts := ⟨[(0, 59)], [], [], [], [], [], [], []⟩
theorem TpE38v0R : smOk TpE38 (callS TpE38v0F TpE38v0U TpE38v0P TpE38.f TpE38.args (mkSt TpE38.h0 TpE38.n0)) = true := by kernel_rfl
theorem TpE38_ok (x0 : Int) (b : Gs [(0, 59)] [x0] := by simp only [Gs, and_true]; omega) : TpE38.Ok Tryz.prog (sgl [x0]) := by
  have bb := b
  simp only [Gs, and_true] at bb
  exact sm_signs (F := TpE38v0F) (us := TpE38v0U) (ps := TpE38v0P) (l := [x0]) ⟨b, an, an, an, an, an, an, an⟩ an (al (pz (TpE3_ok) []) (al (pz (TpE4_ok) []) (al (pz (TpE37_ok) []) an))) 1 (by simp) TpE38v0R (by kernel_rfl)
def TpE39 : Sm := ⟨9, [.sint .i64 0, .str TpK11ed], 0, [], .sl 0 0 155 1, 1, [(0, .cells (u8s [100, 111, 109, 97, 105, 110, 115, 58, 10, 32, 32, 45, 32, 100, 111, 109, 97, 105, 110, 58, 32, 115, 104, 111, 112, 10, 32, 32, 32, 32, 100, 101, 115, 99, 114, 105, 112, 116, 111, 114, 115, 58, 10, 32, 32, 32, 32, 32, 32, 45, 32, 107, 101, 121, 58, 32, 117, 115, 101, 114, 10, 32, 32, 32, 32, 32, 32, 32, 32, 114, 97, 116, 101, 95, 108, 105, 109, 105, 116, 58, 10, 32, 32, 32, 32, 32, 32, 32, 32, 32, 32, 117, 110, 105, 116, 58, 32, 109, 105, 110, 117, 116, 101, 10, 32, 32, 32, 32, 32, 32, 32, 32, 32, 32, 114, 101, 113, 117, 101, 115, 116, 115, 95, 112, 101, 114, 95, 117, 110, 105, 116, 58, 32, 258, 10, 32, 32, 32, 32, 32, 32, 32, 32, 32, 32, 110, 101, 97, 114, 58, 32, 48, 46, 53, 10]))]⟩
def TpE39v0U : List Use := []
def TpE39v0P : List Pur := []
def TpE39v0F : Facts := ⟨[(1, 30), (0, 9), (48, 57), (0, 3)], [⟨.rem, .i64, .s 0, .c (10), .s 1⟩, ⟨.add, .i64, .c (48), .s 1, .s 2⟩, ⟨.quo, .i64, .s 0, .c (10), .s 3⟩], [⟨.c (0), .s 3, false⟩], [], [], [], [], []⟩
theorem TpE39v0R : smOk TpE39 (callS TpE39v0F TpE39v0U TpE39v0P TpE39.f TpE39.args (mkSt TpE39.h0 TpE39.n0)) = true := by kernel_rfl
theorem TpE39_ok (x0 x1 x2 : Int) (b : Gs [(1, 30)] [x0] := by simp only [Gs, and_true]; omega) (h1 : x1 = x0 % (10) := by omega) (h2 : x2 = (48) + x1 := by omega) (r0 : (0 : Int) ≤ x1 ∧ x1 ≤ 9 := by omega) (r1 : (48 : Int) ≤ x2 ∧ x2 ≤ 57 := by omega) (r2 : (x0 / (10)) ≤ (0) := by omega) : TpE39.Ok Tryz.prog (sgl [x0, x1, x2]) := by
  have bb := b
  simp only [Gs, and_true] at bb
  obtain ⟨y3, h3⟩ := ex (x0 / (10))
  exact sm_signs (F := TpE39v0F) (us := TpE39v0U) (ps := TpE39v0P) (l := [x0, x1, x2, y3]) ⟨gc (gc (gc (gc trivial))), (al (fR x0 (10) x1) (al (fA (48) x1 x2) (al (fQ x0 (10) y3) an))), (al (fN (0) y3) an), an, an, an, an, an⟩ an an 3 (by simp) TpE39v0R (by kernel_rfl)
def TpE40 : Sm := ⟨108, [.sl 0 0 155 1], 1, [(0, .cells (u8s TpK4be8))], k183n, 250, [(247, .cells [k3n, k50n, .bool true, .int .i64 0, .int .i64 (-1), .bool true, k50n, .int .i64 2, .sint .i64 1, .flt 4602678819172646912, .bool false, .bool false, .nils]), (242, .cells [k1n, .sl 249 0 1 1]), (0, .cells (u8s TpK4be8)), (249, k18n)]⟩
def TpE40v0U : List Use := []
def TpE40v0P : List Pur := [⟨253, [k163n], k104n⟩, ⟨161, [k1n], .bool true⟩, ⟨161, [k3n], .bool true⟩, ⟨423, [k258n], k286n⟩, ⟨253, [k196n], k178n⟩]
def TpE40v0F : Facts := ⟨[(49, 57), (1, 9)], [], [], [], [], [], [], []⟩
theorem TpE40v0R : smOk TpE40 (callS TpE40v0F TpE40v0U TpE40v0P TpE40.f TpE40.args (mkSt TpE40.h0 TpE40.n0)) = true := by kernel_rfl
theorem TpE40_ok (x0 x1 : Int) (b : Gs [(49, 57)] [x0] := by simp only [Gs, and_true]; omega) (h1 : x1 = (-48) + x0 := by omega) (r0 : (1 : Int) ≤ x1 ∧ x1 ≤ 9 := by omega) : TpE40.Ok Tryz.prog (sgl [x0, x1]) := by
  have bb := b
  simp only [Gs, and_true] at bb
  exact sm_signs (F := TpE40v0F) (us := TpE40v0U) (ps := TpE40v0P) (l := [x0, x1]) ⟨gc (gc trivial), an, an, an, an, an, an, an⟩ an (al (pz (TpE2_ok) []) (al (pz (TpE3_ok) []) (al (pz (TpE4_ok) []) (al (pz (TpE19_ok x0 x1) [.s 0, .s 1]) (al (pz (TpE29_ok) []) an))))) 2 (by simp) TpE40v0R (by kernel_rfl)
def TpE41 : Sm := ⟨109, [k171n], 3, [(0, k128n), (1, k35n), (2, k18n)], k186n, 13, [(6, k109n), (0, k128n), (1, k35n), (2, k18n), (12, k35n), (9, k172n), (4, k60n), (5, k25n)]⟩
def TpE41v0U : List Use := []
def TpE41v0P : List Pur := [⟨161, [k1n], .bool true⟩, ⟨161, [k3n], .bool true⟩, ⟨365, [.flt 4602678819172646912], k278n⟩]
def TpE41v0F : Facts := ⟨[(1, 30)], [], [], [], [], [], [], []⟩
theorem TpE41v0R : smOk TpE41 (callS TpE41v0F TpE41v0U TpE41v0P TpE41.f TpE41.args (mkSt TpE41.h0 TpE41.n0)) = true := by kernel_rfl
theorem TpE41_ok (x0 : Int) (b : Gs [(1, 30)] [x0] := by simp only [Gs, and_true]; omega) : TpE41.Ok Tryz.prog (sgl [x0]) := by
  have bb := b
  simp only [Gs, and_true] at bb
  exact sm_signs (F := TpE41v0F) (us := TpE41v0U) (ps := TpE41v0P) (l := [x0]) ⟨b, an, an, an, an, an, an, an⟩ an (al (pz (TpE3_ok) []) (al (pz (TpE4_ok) []) (al (pz (TpE37_ok) []) an))) 1 (by simp) TpE41v0R (by kernel_rfl)
def TpE42 : Sm := ⟨9, [.int .i64 0, .str TpK11ed], 0, [], .sl 0 0 155 1, 1, [(0, .cells (u8s TpK1d14))]⟩
def TpE42v0U : List Use := []
def TpE42v0P : List Pur := []
def TpE42v0F : Facts := ⟨[], [], [], [], [], [], [], []⟩
theorem TpE42v0R : smOk TpE42 (callS TpE42v0F TpE42v0U TpE42v0P TpE42.f TpE42.args (mkSt TpE42.h0 TpE42.n0)) = true := by kernel_rfl
theorem TpE42_ok : TpE42.Ok Tryz.prog (sgl []) := by
  exact sm_signs (F := TpE42v0F) (us := TpE42v0U) (ps := TpE42v0P) (l := []) ⟨trivial, an, an, an, an, an, an, an⟩ an an 0 (by simp) TpE42v0R (by kernel_rfl)
def TpE43 : Sm := ⟨108, [.sl 0 0 155 1], 1, [(0, .cells (u8s TpK1d14))], k183n, 250, [(247, k28n), (242, .cells [k1n, .sl 249 0 1 1]), (0, .cells (u8s TpK1d14)), (249, k18n)]⟩
def TpE43v0U : List Use := []
def TpE43v0P : List Pur := [⟨253, [k163n], k104n⟩, ⟨161, [k1n], .bool true⟩, ⟨161, [k3n], .bool true⟩, ⟨423, [k180n], k291n⟩, ⟨253, [k196n], k178n⟩]
def TpE43v0F : Facts := ⟨[], [], [], [], [], [], [], []⟩
theorem TpE43v0R : smOk TpE43 (callS TpE43v0F TpE43v0U TpE43v0P TpE43.f TpE43.args (mkSt TpE43.h0 TpE43.n0)) = true := by kernel_rfl
theorem TpE43_ok : TpE43.Ok Tryz.prog (sgl []) := by
  exact sm_signs (F := TpE43v0F) (us := TpE43v0U) (ps := TpE43v0P) (l := []) ⟨trivial, an, an, an, an, an, an, an⟩ an (al (pz (TpE2_ok) []) (al (pz (TpE3_ok) []) (al (pz (TpE4_ok) []) (al (pz (TpE24_ok) []) (al (pz (TpE29_ok) []) an))))) 0 (by simp) TpE43v0R (by kernel_rfl)
def TpE44 : Sm := ⟨109, [k171n], 3, [(0, k128n), (1, k28n), (2, k18n)], k186n, 13, [(6, k109n), (0, k128n), (1, k28n), (2, k18n), (12, k28n), (9, k172n), (4, k60n), (5, k25n)]⟩
def TpE44v0U : List Use := []
def TpE44v0P : List Pur := [⟨161, [k1n], .bool true⟩, ⟨161, [k3n], .bool true⟩, ⟨365, [.flt 4602678819172646912], k278n⟩]
def TpE44v0F : Facts := ⟨[], [], [], [], [], [], [], []⟩
theorem TpE44v0R : smOk TpE44 (callS TpE44v0F TpE44v0U TpE44v0P TpE44.f TpE44.args (mkSt TpE44.h0 TpE44.n0)) = true := by kernel_rfl
theorem TpE44_ok : TpE44.Ok Tryz.prog (sgl []) := by
  exact sm_signs (F := TpE44v0F) (us := TpE44v0U) (ps := TpE44v0P) (l := []) ⟨trivial, an, an, an, an, an, an, an⟩ an (al (pz (TpE3_ok) []) (al (pz (TpE4_ok) []) (al (pz (TpE37_ok) []) an))) 0 (by simp) TpE44v0R (by kernel_rfl)
def TpE45 (n : Nat) : Sm := ⟨239, [.str TpK1ab9], 0, [], .int .u64 12469191778965217993, n, []⟩
def TpE45v0U : List Use := []
def TpE45v0P : List Pur := []
def TpE45v0F : Facts := ⟨[], [], [], [], [], [], [], []⟩
theorem TpE45v0R : ∃ n, smOk (TpE45 n) (callS TpE45v0F TpE45v0U TpE45v0P 239 [.str TpK1ab9] (mkSt [] 0)) = true := by
  exact ⟨match (callS TpE45v0F TpE45v0U TpE45v0P 239 [.str TpK1ab9] (mkSt [] 0)) with | some r => r.2.next | none => 0, by kernel_rfl⟩
theorem TpE45_ok : ∃ n, (TpE45 n).Ok Tryz.prog (sgl []) := by
  obtain ⟨n, hn⟩ := TpE45v0R
  exact ⟨n, sm_signs (F := TpE45v0F) (us := TpE45v0U) (ps := TpE45v0P) (l := []) ⟨trivial, an, an, an, an, an, an, an⟩ an an 0 (by simp) hn (by kernel_rfl)⟩
def TpE46 (n : Nat) : Sm := ⟨239, [.str TpK058b], 0, [], .int .u64 12469190679453589782, n, []⟩
def TpE46v0U : List Use := []
def TpE46v0P : List Pur := []
def TpE46v0F : Facts := ⟨[], [], [], [], [], [], [], []⟩
theorem TpE46v0R : ∃ n, smOk (TpE46 n) (callS TpE46v0F TpE46v0U TpE46v0P 239 [.str TpK058b] (mkSt [] 0)) = true := by
  exact ⟨match (callS TpE46v0F TpE46v0U TpE46v0P 239 [.str TpK058b] (mkSt [] 0)) with | some r => r.2.next | none => 0, by kernel_rfl⟩
theorem TpE46_ok : ∃ n, (TpE46 n).Ok Tryz.prog (sgl []) := by
  obtain ⟨n, hn⟩ := TpE46v0R
  exact ⟨n, sm_signs (F := TpE46v0F) (us := TpE46v0U) (ps := TpE46v0P) (l := []) ⟨trivial, an, an, an, an, an, an, an⟩ an an 0 (by simp) hn (by kernel_rfl)⟩
end
end Go.Proofs.YtnpkeganpkobjaaGreatDoor.Ev
namespace Go.Proofs.YtnpkeganpkobjaaGreatDoor.Ev
set_option maxRecDepth 100000
set_option maxHeartbeats 4000000
open Go Go.RowKit
variable {W0 : World}
noncomputable section
def mkL : Nat → List (V × V)
  | 0 => []
  | _ => [(.str TpK1ab9, .int .i64 60)]
def qL : List Nm := [.s 0, .s 1, .s 2, .s 3, .s 4, .s 5, .s 6, .c 0, .s 8, .c 1, .s 10, .s 11, .s 12, .s 13]
def qL0 : List Nm := [.s 0, .s 1, .s 2, .s 3, .s 4, .s 5, .s 6, .c 0, .s 8, .c 1, .s 10, .s 11, .c 0, .s 13]
def qS : List Nm := [.s 0, .s 1, .s 2, .s 3, .s 4, .s 5, .s 6, .s 13, .s 8, .s 9, .s 10, .s 11, .s 12, .s 13]
def tailC : Code := match bodyOf 4 0 with | .seq _ (.seq (.block _ (.seq _ sb)) _) => sb | _ => .skip
end
end Go.Proofs.YtnpkeganpkobjaaGreatDoor.Ev
