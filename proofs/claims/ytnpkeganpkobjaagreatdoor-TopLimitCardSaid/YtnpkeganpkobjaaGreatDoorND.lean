import Derived.Test.YtnpkeganpkobjaaGreatDoorNB
import Derived.Test.YtnpkeganpkobjaaGreatDoorCK
set_option linter.all false
namespace Go.Proofs.YtnpkeganpkobjaaGreatDoor.Ev
set_option maxRecDepth 100000
set_option maxHeartbeats 4000000
open Go Go.RowKit
variable {W0 : World}
noncomputable section
def YTTbU : List Use := []
def YTTbP : List Pur := []
def YTTbF : Facts := ⟨[(0, 30), (0, 30), (0, 59), (0, 2), (0, 60), (0, 60), (0, 60), (60, 60), (4602678819172646912, 4605380978949069210), (1, 2), (0, 60), (0, 30), (0, 30), (1, 59), (1, 59), (4611686018427387845, 4611686018427387903), (61, 119)], [⟨.sub, .i64, .c (60), .s 13, .s 14⟩, ⟨.sub, .i64, .c (4611686018427387904), .s 14, .s 15⟩, ⟨.add, .i64, .s 7, .s 14, .s 16⟩], [], [], [], [], [], []⟩
def YTTb : Pc := ⟨133, [(0, .sint .i64 11), (1, .sint .i64 12), (2, .sint .i64 10), (4, .sint .i64 13), (11, .ptr 0 0), (12, .ptr 22 0), (13, .int .i64 2)], 26, [(0, k106n), (1, k5n), (7, k22n), (16, k69n), (17, k155n), (20, k0n), (21, k90n)], .norm, [(0, .sint .i64 11), (1, .sint .i64 12), (2, .sint .i64 10), (4, .sint .i64 13), (11, .ptr 0 0), (12, .ptr 22 0), (13, .int .i64 2)], 27, [(0, k217n), (1, k5n), (7, k22n), (16, k69n), (17, k155n), (20, k0n), (21, k90n)]⟩
theorem YTTbR : pcOk YTTb (exec (env YTTbF.sg) (callS YTTbF YTTbU YTTbP) 1000 tailC (fr YTTb.n YTTb.f0) (mkSt YTTb.h0 YTTb.n0)) = true := by kernel_rfl
theorem YTTb_ok {t t' : Tm} (hck : (partOk YTTb (t.ren q14) && (has (mkH t.h0 .e) t.h0 && pickOk (YTTb.full (t.ren q14)) TpK9b01 k23n t')) = true) (x0 x1 x2 x3 x4 x5 x6 x7 x8 x9 x10 x11 x12 x13 : Int) (b : Gs [(0, 30), (0, 30), (0, 59), (0, 2), (0, 60), (0, 60), (0, 60), (60, 60), (4602678819172646912, 4605380978949069210), (1, 2), (0, 60), (0, 30), (0, 30), (1, 59)] [x0, x1, x2, x3, x4, x5, x6, x7, x8, x9, x10, x11, x12, x13]) (n8 : Nr x8) {ρ : Rho} {a : Act} {W : World} {R : Exit → Act → World → Prop} (ha : t.At W0 (sgl [x0, x1, x2, x3, x4, x5, x6, x7, x8, x9, x10, x11, x12, x13]) ρ a W) (hR : ∀ ρ' a' W', t'.At W0 (sgl [x0, x1, x2, x3, x4, x5, x6, x7, x8, x9, x10, x11, x12, x13]) ρ' a' W' → R (toExit .norm) a' W') : tailC.wp Tryz.prog R a W := by
  obtain ⟨h1, h2, h3⟩ := and3 hck
  have bb := b
  simp only [Gs, and_true] at bb
  obtain ⟨y14, h14⟩ := ex ((60) + (-1) * x13)
  obtain ⟨y15, h15⟩ := ex ((4611686018427387844) + x13)
  obtain ⟨y16, h16⟩ := ex ((60) + x7 + (-1) * x13)
  refine pc_part (W0 := W0) (ρ := ρ) (F := YTTbF) (us := YTTbU) (ps := YTTbP) (l := [x0, x1, x2, x3, x4, x5, x6, x7, x8, x9, x10, x11, x12, x13, y14, y15, y16]) (e := YTTb) (P := TpK9b01) (Q := k23n) ⟨gc (gc (gc (gc (gc (gc (gc (gc (gc (gc (gc (gc (gc (gc (gc (gc (gc trivial)))))))))))))))), (al (fS (60) x13 y14) (al (fS (4611686018427387904) y14 y15) (al (fA x7 y14 y16) an))), an, an, an, an, an, an⟩ an an YTTbR h1 h3 (Tm.At.ren (Q := q14) ?_ h2) ?_
  · exact ha
  intro ρ' a' W' h
  exact hR ρ' a' W' h
def YTTdU : List Use := []
def YTTdP : List Pur := []
def YTTdF : Facts := ⟨[(0, 30), (0, 30), (0, 59), (0, 2), (0, 60), (0, 60), (0, 60), (60, 60), (4602678819172646912, 4605380978949069210), (1, 2), (0, 60), (0, 30), (0, 30), (1, 59), (1, 59), (4611686018427387845, 4611686018427387903), (61, 119)], [⟨.sub, .i64, .c (60), .s 13, .s 14⟩, ⟨.sub, .i64, .c (4611686018427387904), .s 14, .s 15⟩, ⟨.add, .i64, .s 7, .s 14, .s 16⟩], [], [], [], [], [], []⟩
def YTTd : Pc := ⟨133, [(0, .sint .i64 11), (1, .sint .i64 12), (2, .sint .i64 10), (4, .sint .i64 13), (11, .ptr 0 0), (12, .ptr 22 0), (13, .int .i64 2)], 26, [(0, k106n), (1, k5n), (7, k22n), (16, k69n), (17, k195n), (20, k0n), (21, k90n), (23, k57n)], .norm, [(0, .sint .i64 11), (1, .sint .i64 12), (2, .sint .i64 10), (4, .sint .i64 13), (11, .ptr 0 0), (12, .ptr 22 0), (13, .int .i64 2)], 27, [(0, k217n), (1, k5n), (7, k22n), (16, k69n), (17, k195n), (20, k0n), (23, k57n), (21, k90n)]⟩
theorem YTTdR : pcOk YTTd (exec (env YTTdF.sg) (callS YTTdF YTTdU YTTdP) 1000 tailC (fr YTTd.n YTTd.f0) (mkSt YTTd.h0 YTTd.n0)) = true := by kernel_rfl
theorem YTTd_ok {t t' : Tm} (hck : (partOk YTTd (t.ren q14) && (has (mkH t.h0 .e) t.h0 && pickOk (YTTd.full (t.ren q14)) TpK9b01 k23n t')) = true) (x0 x1 x2 x3 x4 x5 x6 x7 x8 x9 x10 x11 x12 x13 : Int) (b : Gs [(0, 30), (0, 30), (0, 59), (0, 2), (0, 60), (0, 60), (0, 60), (60, 60), (4602678819172646912, 4605380978949069210), (1, 2), (0, 60), (0, 30), (0, 30), (1, 59)] [x0, x1, x2, x3, x4, x5, x6, x7, x8, x9, x10, x11, x12, x13]) (n8 : Nr x8) {ρ : Rho} {a : Act} {W : World} {R : Exit → Act → World → Prop} (ha : t.At W0 (sgl [x0, x1, x2, x3, x4, x5, x6, x7, x8, x9, x10, x11, x12, x13]) ρ a W) (hR : ∀ ρ' a' W', t'.At W0 (sgl [x0, x1, x2, x3, x4, x5, x6, x7, x8, x9, x10, x11, x12, x13]) ρ' a' W' → R (toExit .norm) a' W') : tailC.wp Tryz.prog R a W := by
  obtain ⟨h1, h2, h3⟩ := and3 hck
  have bb := b
  simp only [Gs, and_true] at bb
  obtain ⟨y14, h14⟩ := ex ((60) + (-1) * x13)
  obtain ⟨y15, h15⟩ := ex ((4611686018427387844) + x13)
  obtain ⟨y16, h16⟩ := ex ((60) + x7 + (-1) * x13)
  refine pc_part (W0 := W0) (ρ := ρ) (F := YTTdF) (us := YTTdU) (ps := YTTdP) (l := [x0, x1, x2, x3, x4, x5, x6, x7, x8, x9, x10, x11, x12, x13, y14, y15, y16]) (e := YTTd) (P := TpK9b01) (Q := k23n) ⟨gc (gc (gc (gc (gc (gc (gc (gc (gc (gc (gc (gc (gc (gc (gc (gc (gc trivial)))))))))))))))), (al (fS (60) x13 y14) (al (fS (4611686018427387904) y14 y15) (al (fA x7 y14 y16) an))), an, an, an, an, an, an⟩ an an YTTdR h1 h3 (Tm.At.ren (Q := q14) ?_ h2) ?_
  · exact ha
  intro ρ' a' W' h
  exact hR ρ' a' W' h
def YTTeU : List Use := []
def YTTeP : List Pur := []
def YTTeF : Facts := ⟨[(0, 30), (0, 30), (0, 59), (0, 2), (0, 60), (0, 60), (0, 60), (60, 60), (4602678819172646912, 4605380978949069210), (1, 2), (0, 60), (0, 30), (0, 30), (1, 59), (1, 59), (4611686018427387845, 4611686018427387903), (61, 119)], [⟨.sub, .i64, .c (60), .s 13, .s 14⟩, ⟨.sub, .i64, .c (4611686018427387904), .s 14, .s 15⟩, ⟨.add, .i64, .s 7, .s 14, .s 16⟩], [], [], [], [], [], []⟩
def YTTe : Pc := ⟨133, [(0, .sint .i64 11), (1, .sint .i64 12), (2, .sint .i64 10), (4, .sint .i64 13), (11, .ptr 0 0), (12, .ptr 22 0), (13, .int .i64 2)], 26, [(0, k106n), (1, k5n), (7, k22n), (16, k56n), (17, k134n), (20, .cells [.bool true, .str TpK058b, .sint .i64 1, .bool false, k50n, .int .i64 0, .bool false, k50n, .int .i64 0, .bool false, k50n, .int .i64 0, .bool false, k50n, .int .i64 0, .bool false, k50n, .int .i64 0]), (21, .map [(.str TpK058b, .ptr 24 0)]), (23, k88n), (24, .cells [.str TpK058b, .int .i64 120, .int .i64 0])], .norm, [(0, .sint .i64 11), (1, .sint .i64 12), (2, .sint .i64 10), (4, .sint .i64 13), (11, .ptr 0 0), (12, .ptr 22 0), (13, .int .i64 2)], 27, [(0, k217n), (1, k5n), (7, k22n), (16, k56n), (17, k134n), (20, .cells [.bool true, .str TpK058b, .sint .i64 1, .bool false, k50n, .int .i64 0, .bool false, k50n, .int .i64 0, .bool false, k50n, .int .i64 0, .bool false, k50n, .int .i64 0, .bool false, k50n, .int .i64 0]), (23, k88n), (21, .map [(.str TpK058b, .ptr 24 0)]), (24, .cells [.str TpK058b, .int .i64 120, .int .i64 0])]⟩
theorem YTTeR : pcOk YTTe (exec (env YTTeF.sg) (callS YTTeF YTTeU YTTeP) 1000 tailC (fr YTTe.n YTTe.f0) (mkSt YTTe.h0 YTTe.n0)) = true := by kernel_rfl
theorem YTTe_ok {t t' : Tm} (hck : (partOk YTTe (t.ren q14) && (has (mkH t.h0 .e) t.h0 && pickOk (YTTe.full (t.ren q14)) TpK9b01 k23n t')) = true) (x0 x1 x2 x3 x4 x5 x6 x7 x8 x9 x10 x11 x12 x13 : Int) (b : Gs [(0, 30), (0, 30), (0, 59), (0, 2), (0, 60), (0, 60), (0, 60), (60, 60), (4602678819172646912, 4605380978949069210), (1, 2), (0, 60), (0, 30), (0, 30), (1, 59)] [x0, x1, x2, x3, x4, x5, x6, x7, x8, x9, x10, x11, x12, x13]) (n8 : Nr x8) {ρ : Rho} {a : Act} {W : World} {R : Exit → Act → World → Prop} (ha : t.At W0 (sgl [x0, x1, x2, x3, x4, x5, x6, x7, x8, x9, x10, x11, x12, x13]) ρ a W) (hR : ∀ ρ' a' W', t'.At W0 (sgl [x0, x1, x2, x3, x4, x5, x6, x7, x8, x9, x10, x11, x12, x13]) ρ' a' W' → R (toExit .norm) a' W') : tailC.wp Tryz.prog R a W := by
  obtain ⟨h1, h2, h3⟩ := and3 hck
  have bb := b
  simp only [Gs, and_true] at bb
  obtain ⟨y14, h14⟩ := ex ((60) + (-1) * x13)
  obtain ⟨y15, h15⟩ := ex ((4611686018427387844) + x13)
  obtain ⟨y16, h16⟩ := ex ((60) + x7 + (-1) * x13)
  refine pc_part (W0 := W0) (ρ := ρ) (F := YTTeF) (us := YTTeU) (ps := YTTeP) (l := [x0, x1, x2, x3, x4, x5, x6, x7, x8, x9, x10, x11, x12, x13, y14, y15, y16]) (e := YTTe) (P := TpK9b01) (Q := k23n) ⟨gc (gc (gc (gc (gc (gc (gc (gc (gc (gc (gc (gc (gc (gc (gc (gc (gc trivial)))))))))))))))), (al (fS (60) x13 y14) (al (fS (4611686018427387904) y14 y15) (al (fA x7 y14 y16) an))), an, an, an, an, an, an⟩ an an YTTeR h1 h3 (Tm.At.ren (Q := q14) ?_ h2) ?_
  · exact ha
  intro ρ' a' W' h
  exact hR ρ' a' W' h
def YTUbU : List Use := []
def YTUbP : List Pur := []
def YTUbF : Facts := ⟨[(0, 30), (0, 30), (0, 59), (0, 2), (0, 60), (0, 60), (0, 60), (60, 60), (4602678819172646912, 4605380978949069210), (1, 2), (0, 60), (0, 30), (0, 30), (0, 0)], [⟨.sub, .i64, .c (60), .s 13, .c (60)⟩, ⟨.add, .i64, .s 7, .c (60), .c (120)⟩], [], [], [], [], [], []⟩
def YTUb : Pc := ⟨133, [(0, .sint .i64 11), (1, .sint .i64 12), (2, .sint .i64 10), (4, .sint .i64 13), (11, .ptr 0 0), (12, .ptr 22 0), (13, .int .i64 2)], 26, [(0, k106n), (1, k5n), (7, k22n), (16, k69n), (17, k155n), (20, k0n), (21, k90n)], .norm, [(0, .sint .i64 11), (1, .sint .i64 12), (2, .sint .i64 10), (4, .sint .i64 13), (11, .ptr 0 0), (12, .ptr 22 0), (13, .int .i64 2)], 27, [(0, k218n), (1, k5n), (7, k22n), (16, k69n), (17, k155n), (20, k0n), (21, k90n)]⟩
theorem YTUbR : pcOk YTUb (exec (env YTUbF.sg) (callS YTUbF YTUbU YTUbP) 1000 tailC (fr YTUb.n YTUb.f0) (mkSt YTUb.h0 YTUb.n0)) = true := by kernel_rfl
theorem YTUb_ok {t t' : Tm} (hck : (partOk YTUb (t.ren q14) && (has (mkH t.h0 .e) t.h0 && pickOk (YTUb.full (t.ren q14)) TpK9b01 k23n t')) = true) (x0 x1 x2 x3 x4 x5 x6 x7 x8 x9 x10 x11 x12 x13 : Int) (b : Gs [(0, 30), (0, 30), (0, 59), (0, 2), (0, 60), (0, 60), (0, 60), (60, 60), (4602678819172646912, 4605380978949069210), (1, 2), (0, 60), (0, 30), (0, 30), (0, 0)] [x0, x1, x2, x3, x4, x5, x6, x7, x8, x9, x10, x11, x12, x13]) (n8 : Nr x8) {ρ : Rho} {a : Act} {W : World} {R : Exit → Act → World → Prop} (ha : t.At W0 (sgl [x0, x1, x2, x3, x4, x5, x6, x7, x8, x9, x10, x11, x12, x13]) ρ a W) (hR : ∀ ρ' a' W', t'.At W0 (sgl [x0, x1, x2, x3, x4, x5, x6, x7, x8, x9, x10, x11, x12, x13]) ρ' a' W' → R (toExit .norm) a' W') : tailC.wp Tryz.prog R a W := by
  obtain ⟨h1, h2, h3⟩ := and3 hck
  have bb := b
  simp only [Gs, and_true] at bb
  refine pc_part (W0 := W0) (ρ := ρ) (F := YTUbF) (us := YTUbU) (ps := YTUbP) (l := [x0, x1, x2, x3, x4, x5, x6, x7, x8, x9, x10, x11, x12, x13]) (e := YTUb) (P := TpK9b01) (Q := k23n) ⟨gc (gc (gc (gc (gc (gc (gc (gc (gc (gc (gc (gc (gc (gc trivial))))))))))))), (al (fS (60) x13 (60)) (al (fA x7 (60) (120)) an)), an, an, an, an, an, an⟩ an an YTUbR h1 h3 (Tm.At.ren (Q := q14) ?_ h2) ?_
  · exact ha
  intro ρ' a' W' h
  exact hR ρ' a' W' h
def YTUdU : List Use := []
def YTUdP : List Pur := []
def YTUdF : Facts := ⟨[(0, 30), (0, 30), (0, 59), (0, 2), (0, 60), (0, 60), (0, 60), (60, 60), (4602678819172646912, 4605380978949069210), (1, 2), (0, 60), (0, 30), (0, 30), (0, 0)], [⟨.sub, .i64, .c (60), .s 13, .c (60)⟩, ⟨.add, .i64, .s 7, .c (60), .c (120)⟩], [], [], [], [], [], []⟩
def YTUd : Pc := ⟨133, [(0, .sint .i64 11), (1, .sint .i64 12), (2, .sint .i64 10), (4, .sint .i64 13), (11, .ptr 0 0), (12, .ptr 22 0), (13, .int .i64 2)], 26, [(0, k106n), (1, k5n), (7, k22n), (16, k69n), (17, k195n), (20, k0n), (21, k90n), (23, k57n)], .norm, [(0, .sint .i64 11), (1, .sint .i64 12), (2, .sint .i64 10), (4, .sint .i64 13), (11, .ptr 0 0), (12, .ptr 22 0), (13, .int .i64 2)], 27, [(0, k218n), (1, k5n), (7, k22n), (16, k69n), (17, k195n), (20, k0n), (23, k57n), (21, k90n)]⟩
theorem YTUdR : pcOk YTUd (exec (env YTUdF.sg) (callS YTUdF YTUdU YTUdP) 1000 tailC (fr YTUd.n YTUd.f0) (mkSt YTUd.h0 YTUd.n0)) = true := by kernel_rfl
theorem YTUd_ok {t t' : Tm} (hck : (partOk YTUd (t.ren q14) && (has (mkH t.h0 .e) t.h0 && pickOk (YTUd.full (t.ren q14)) TpK9b01 k23n t')) = true) (x0 x1 x2 x3 x4 x5 x6 x7 x8 x9 x10 x11 x12 x13 : Int) (b : Gs [(0, 30), (0, 30), (0, 59), (0, 2), (0, 60), (0, 60), (0, 60), (60, 60), (4602678819172646912, 4605380978949069210), (1, 2), (0, 60), (0, 30), (0, 30), (0, 0)] [x0, x1, x2, x3, x4, x5, x6, x7, x8, x9, x10, x11, x12, x13]) (n8 : Nr x8) {ρ : Rho} {a : Act} {W : World} {R : Exit → Act → World → Prop} (ha : t.At W0 (sgl [x0, x1, x2, x3, x4, x5, x6, x7, x8, x9, x10, x11, x12, x13]) ρ a W) (hR : ∀ ρ' a' W', t'.At W0 (sgl [x0, x1, x2, x3, x4, x5, x6, x7, x8, x9, x10, x11, x12, x13]) ρ' a' W' → R (toExit .norm) a' W') : tailC.wp Tryz.prog R a W := by
  obtain ⟨h1, h2, h3⟩ := and3 hck
  have bb := b
  simp only [Gs, and_true] at bb
  refine pc_part (W0 := W0) (ρ := ρ) (F := YTUdF) (us := YTUdU) (ps := YTUdP) (l := [x0, x1, x2, x3, x4, x5, x6, x7, x8, x9, x10, x11, x12, x13]) (e := YTUd) (P := TpK9b01) (Q := k23n) ⟨gc (gc (gc (gc (gc (gc (gc (gc (gc (gc (gc (gc (gc (gc trivial))))))))))))), (al (fS (60) x13 (60)) (al (fA x7 (60) (120)) an)), an, an, an, an, an, an⟩ an an YTUdR h1 h3 (Tm.At.ren (Q := q14) ?_ h2) ?_
  · exact ha
  intro ρ' a' W' h
  exact hR ρ' a' W' h
def YTUeU : List Use := []
def YTUeP : List Pur := [⟨239, [.str TpK058b], .int .u64 12469190679453589782⟩]
def YTUeF : Facts := ⟨[(0, 30), (0, 30), (0, 59), (0, 2), (0, 60), (0, 60), (0, 60), (60, 60), (4602678819172646912, 4605380978949069210), (1, 2), (0, 60), (0, 30), (0, 30), (0, 0)], [⟨.sub, .i64, .c (60), .s 13, .c (60)⟩, ⟨.add, .i64, .s 7, .c (60), .c (120)⟩], [], [], [], [], [], []⟩
def YTUe : Pc := ⟨133, [(0, .sint .i64 11), (1, .sint .i64 12), (2, .sint .i64 10), (4, .sint .i64 13), (11, .ptr 0 0), (12, .ptr 22 0), (13, .int .i64 2)], 26, [(0, k106n), (1, k5n), (7, k22n), (16, k56n), (17, k134n), (20, .cells [.bool true, .str TpK058b, .sint .i64 1, .bool false, k50n, .int .i64 0, .bool false, k50n, .int .i64 0, .bool false, k50n, .int .i64 0, .bool false, k50n, .int .i64 0, .bool false, k50n, .int .i64 0]), (21, .map [(.str TpK058b, .ptr 24 0)]), (23, k88n), (24, .cells [.str TpK058b, .int .i64 120, .int .i64 0])], .norm, [(0, .sint .i64 11), (1, .sint .i64 12), (2, .sint .i64 10), (4, .sint .i64 13), (11, .ptr 0 0), (12, .ptr 22 0), (13, .int .i64 2)], 29, [(0, k218n), (1, k5n), (7, k22n), (16, k69n), (17, k195n), (20, k0n), (23, k88n), (21, k90n), (24, .cells [.str TpK058b, .int .i64 120, .int .i64 0])]⟩
theorem YTUeR : pcOk YTUe (exec (env YTUeF.sg) (callS YTUeF YTUeU YTUeP) 1000 tailC (fr YTUe.n YTUe.f0) (mkSt YTUe.h0 YTUe.n0)) = true := by kernel_rfl
theorem YTUe_ok {t t' : Tm} (hck : (partOk YTUe (t.ren q14) && (has (mkH t.h0 .e) t.h0 && pickOk (YTUe.full (t.ren q14)) TpK9b01 k23n t')) = true) (x0 x1 x2 x3 x4 x5 x6 x7 x8 x9 x10 x11 x12 x13 : Int) (b : Gs [(0, 30), (0, 30), (0, 59), (0, 2), (0, 60), (0, 60), (0, 60), (60, 60), (4602678819172646912, 4605380978949069210), (1, 2), (0, 60), (0, 30), (0, 30), (0, 0)] [x0, x1, x2, x3, x4, x5, x6, x7, x8, x9, x10, x11, x12, x13]) (n8 : Nr x8) {ρ : Rho} {a : Act} {W : World} {R : Exit → Act → World → Prop} (ha : t.At W0 (sgl [x0, x1, x2, x3, x4, x5, x6, x7, x8, x9, x10, x11, x12, x13]) ρ a W) (hR : ∀ ρ' a' W', t'.At W0 (sgl [x0, x1, x2, x3, x4, x5, x6, x7, x8, x9, x10, x11, x12, x13]) ρ' a' W' → R (toExit .norm) a' W') : tailC.wp Tryz.prog R a W := by
  obtain ⟨h1, h2, h3⟩ := and3 hck
  have bb := b
  simp only [Gs, and_true] at bb
  refine pc_part (W0 := W0) (ρ := ρ) (F := YTUeF) (us := YTUeU) (ps := YTUeP) (l := [x0, x1, x2, x3, x4, x5, x6, x7, x8, x9, x10, x11, x12, x13]) (e := YTUe) (P := TpK9b01) (Q := k23n) ⟨gc (gc (gc (gc (gc (gc (gc (gc (gc (gc (gc (gc (gc (gc trivial))))))))))))), (al (fS (60) x13 (60)) (al (fA x7 (60) (120)) an)), an, an, an, an, an, an⟩ an (al (pz (TpE46_ok) []) an) YTUeR h1 h3 (Tm.At.ren (Q := q14) ?_ h2) ?_
  · exact ha
  intro ρ' a' W' h
  exact hR ρ' a' W' h
end
end Go.Proofs.YtnpkeganpkobjaaGreatDoor.Ev
