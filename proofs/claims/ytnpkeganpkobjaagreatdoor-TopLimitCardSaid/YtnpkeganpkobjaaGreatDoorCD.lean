import Derived.Test.YtnpkeganpkobjaaGreatDoorCK
set_option linter.all false
namespace Go.Proofs.YtnpkeganpkobjaaGreatDoor.Ev
set_option maxRecDepth 100000
set_option maxHeartbeats 4000000
open Go Go.RowKit
noncomputable section
def TcE66 (n : Nat) : Sm := ⟨239, [.str TcK058b], 0, [], .int .u64 12469190679453589782, n, []⟩
theorem TcE66_ok : ∃ n, (TcE66 n).Ok Tryz.prog (sgl []) := pe
def TcE67 : Sm := ⟨114, [.ptr 0 0, .ptr 1 0, .ptr 2 0, .sl 3 0 1 9, .int .i64 1, .sint .i64 0], 11, [(0, k12n), (1, k36n), (2, k61n), (3, k14n), (4, k40n), (5, k158n), (6, k39n), (7, .smap), (8, k0n), (9, k57n), (10, k90n)], k282n, 21, [(20, k108n), (0, k12n), (1, k36n), (2, k61n), (3, k14n), (4, k19n), (5, k242n), (6, k39n), (7, .smap), (8, k10n), (10, k236n), (17, .cells [.ptr 15 0]), (15, k16n)]⟩
def TcE67v0P : List Pur := [⟨239, [.str TcK058b], .int .u64 12469190679453589782⟩, ⟨269, [k13n], .int .i64 0⟩, ⟨273, [k13n, .int .i64 0, .int .i64 1], k85n⟩]
def TcE67v0F (d0 d1 : Bool) : Facts := ⟨[(60, 119), (0, 30), (1, 30), (4602678819172646912, 4605380978949069210), (0, 29), (1, 60), (0, 30), (0, 1), (0, 1), (4611686018427387903, 4611686018427387904)], [⟨.sub, .i64, .c (4611686018427387904), .s 7, .s 9⟩, ⟨.add, .i64, .s 8, .s 7, .c (1)⟩, ⟨.quo, .i64, .s 0, .c (60), .c (1)⟩, ⟨.sub, .i64, .c (120), .s 0, .s 5⟩], [⟨.c (1), .s 2, true⟩, ⟨.s 8, .c (1), d0⟩, ⟨.s 7, .c (1), d1⟩], [], [], [], [], []⟩
theorem TcE67v0R : ∀ d0 d1, Sr TcE67 (TcE67v0F d0 d1) [] TcE67v0P = true := by intro d0 d1; cases d0 <;> cases d1 <;> kernel_rfl
theorem TcE67_ok (x0 x1 x2 x3 x4 x5 : Int) (b : Gs [(60, 119), (0, 30), (1, 30), (4602678819172646912, 4605380978949069210)] [x0, x1, x2, x3] := by simp only [Gs, and_true]; omega) (n3 : Nr x3 := by assumption) (h4 : x4 = (-1) + x2 := by omega) (h5 : x5 = (120) + (-1) * x0 := by omega) (r0 : 0 ≤ x2 ∧ x2 ≤ 30 := by omega) (r1 : (0 ≤ (0) ∧ (0) < x2) ∧ x2 ≤ 30 := by omega) (r2 : (1) < x2 := by omega) (r3 : (0 : Int) ≤ x4 ∧ x4 ≤ 29 := by omega) (r4 : (1 : Int) ≤ x5 ∧ x5 ≤ 60 := by omega) : TcE67.Ok Tryz.prog (sgl [x0, x1, x2, x3, x4, x5]) := by
  have bb := b
  simp only [Gs, and_true] at bb
  obtain ⟨y6, h6⟩ := ex (Thr x2 x3)
  obtain ⟨y7, h7⟩ := ex (Jn (0) y6)
  obtain ⟨y8, h8⟩ := ex ((1) + (-1) * y7)
  obtain ⟨y9, h9⟩ := ex ((4611686018427387904) + (-1) * y7)
  have d6 := Thr_bd x2 x3
  have d7 := Jn_bd (0) y6
  exact sm_signs (F := (TcE67v0F (decide (y8 < (1))) (decide (y7 < (1))))) (us := []) (ps := TcE67v0P) (l := [x0, x1, x2, x3, x4, x5, y6, y7, y8, y9]) ⟨gc (gc (gc (gc (gc (gc (gc (gc (gc (gc trivial))))))))), (al (fS (4611686018427387904) y7 y9) (al (fA y8 y7 (1)) (al (fQ x0 (60) (1)) (al (fS (120) x0 x5) an)))), (al (fT (1) x2) (al rfl (al rfl an))), an, an, an, an, an⟩ an (al (pz (TcE66_ok) []) (al (ck (l := .s 2) (k := 3) x2 x3) (al (jo (l := .s 2) (k := 3) (b := .c (0)) (e := .s 4) (w := .s 8) (n := .s 7) x2 x3 (0) y6 x4 y8 y7) an))) 6 (by simp) (TcE67v0R (decide (y8 < (1))) (decide (y7 < (1)))) (by kernel_rfl)
def TcE68 : Sm := ⟨114, [.ptr 0 0, .ptr 1 0, .ptr 2 0, .sl 3 0 1 9, .int .i64 1, .sint .i64 0], 11, [(0, k12n), (1, k110n), (2, k61n), (3, k80n), (4, k40n), (5, k158n), (6, k90n), (7, .smap), (8, k0n), (9, k57n), (10, k90n)], k282n, 21, [(20, k251n), (0, k12n), (1, k110n), (2, k61n), (3, k80n), (4, k19n), (5, k242n), (6, k90n), (7, .smap), (8, k10n), (10, k236n), (17, .cells [.ptr 15 0]), (15, k16n)]⟩
def TcE68v0P : List Pur := [⟨239, [.str TcK058b], .int .u64 12469190679453589782⟩, ⟨269, [k75n], .int .i64 0⟩, ⟨273, [k75n, .int .i64 0, .int .i64 1], k214n⟩]
def TcE68v0F (d0 d1 : Bool) : Facts := ⟨[(60, 119), (1, 30), (4602678819172646912, 4605380978949069210), (0, 29), (1, 60), (0, 30), (0, 1), (0, 1), (4611686018427387903, 4611686018427387904)], [⟨.sub, .i64, .c (4611686018427387904), .s 6, .s 8⟩, ⟨.add, .i64, .s 7, .s 6, .c (1)⟩, ⟨.quo, .i64, .s 0, .c (60), .c (1)⟩, ⟨.sub, .i64, .c (120), .s 0, .s 4⟩], [⟨.c (1), .s 1, true⟩, ⟨.s 7, .c (1), d0⟩, ⟨.s 6, .c (1), d1⟩], [], [], [], [], []⟩
theorem TcE68v0R : ∀ d0 d1, Sr TcE68 (TcE68v0F d0 d1) [] TcE68v0P = true := by intro d0 d1; cases d0 <;> cases d1 <;> kernel_rfl
theorem TcE68_ok0 (x0 x1 x2 x3 x4 : Int) (b : Gs [(60, 119), (1, 30), (4602678819172646912, 4605380978949069210)] [x0, x1, x2] := by simp only [Gs, and_true]; omega) (n2 : Nr x2 := by assumption) (h3 : x3 = (-1) + x1 := by omega) (h4 : x4 = (120) + (-1) * x0 := by omega) (r0 : 0 ≤ x1 ∧ x1 ≤ 30 := by omega) (r1 : (0 ≤ (0) ∧ (0) < x1) ∧ x1 ≤ 30 := by omega) (r2 : (0 : Int) ≤ x3 ∧ x3 ≤ 29 := by omega) (r3 : (1 : Int) ≤ x4 ∧ x4 ≤ 60 := by omega) (c : (1) < x1) : TcE68.Ok Tryz.prog (sgl [x0, x1, x2, x3, x4]) := by
  have bb := b
  simp only [Gs, and_true] at bb
  obtain ⟨y5, h5⟩ := ex (Thr x1 x2)
  obtain ⟨y6, h6⟩ := ex (Jn (0) y5)
  obtain ⟨y7, h7⟩ := ex ((1) + (-1) * y6)
  obtain ⟨y8, h8⟩ := ex ((4611686018427387904) + (-1) * y6)
  have d5 := Thr_bd x1 x2
  have d6 := Jn_bd (0) y5
  exact sm_signs (F := (TcE68v0F (decide (y7 < (1))) (decide (y6 < (1))))) (us := []) (ps := TcE68v0P) (l := [x0, x1, x2, x3, x4, y5, y6, y7, y8]) ⟨gc (gc (gc (gc (gc (gc (gc (gc (gc trivial)))))))), (al (fS (4611686018427387904) y6 y8) (al (fA y7 y6 (1)) (al (fQ x0 (60) (1)) (al (fS (120) x0 x4) an)))), (al (fT (1) x1) (al rfl (al rfl an))), an, an, an, an, an⟩ an (al (pz (TcE66_ok) []) (al (ck (l := .s 1) (k := 2) x1 x2) (al (jo (l := .s 1) (k := 2) (b := .c (0)) (e := .s 3) (w := .s 7) (n := .s 6) x1 x2 (0) y5 x3 y7 y6) an))) 5 (by simp) (TcE68v0R (decide (y7 < (1))) (decide (y6 < (1)))) (by kernel_rfl)
def TcE68v1F (d0 d1 : Bool) : Facts := ⟨[(60, 119), (1, 30), (4602678819172646912, 4605380978949069210), (0, 29), (1, 60), (0, 30), (0, 1), (0, 1), (4611686018427387903, 4611686018427387904)], [⟨.sub, .i64, .c (4611686018427387904), .s 6, .s 8⟩, ⟨.add, .i64, .s 7, .s 6, .c (1)⟩, ⟨.quo, .i64, .s 0, .c (60), .c (1)⟩, ⟨.sub, .i64, .c (120), .s 0, .s 4⟩], [⟨.c (1), .s 1, false⟩, ⟨.s 7, .c (1), d0⟩, ⟨.s 6, .c (1), d1⟩], [], [], [], [], []⟩
theorem TcE68v1R : ∀ d0 d1, Sr TcE68 (TcE68v1F d0 d1) [] TcE68v0P = true := by intro d0 d1; cases d0 <;> cases d1 <;> kernel_rfl
theorem TcE68_ok1 (x0 x1 x2 x3 x4 : Int) (b : Gs [(60, 119), (1, 30), (4602678819172646912, 4605380978949069210)] [x0, x1, x2] := by simp only [Gs, and_true]; omega) (n2 : Nr x2 := by assumption) (h3 : x3 = (-1) + x1 := by omega) (h4 : x4 = (120) + (-1) * x0 := by omega) (r0 : 0 ≤ x1 ∧ x1 ≤ 30 := by omega) (r1 : (0 ≤ (0) ∧ (0) < x1) ∧ x1 ≤ 30 := by omega) (r2 : (0 : Int) ≤ x3 ∧ x3 ≤ 29 := by omega) (r3 : (1 : Int) ≤ x4 ∧ x4 ≤ 60 := by omega) (c : x1 ≤ (1)) : TcE68.Ok Tryz.prog (sgl [x0, x1, x2, x3, x4]) := by
  have bb := b
  simp only [Gs, and_true] at bb
  obtain ⟨y5, h5⟩ := ex (Thr x1 x2)
  obtain ⟨y6, h6⟩ := ex (Jn (0) y5)
  obtain ⟨y7, h7⟩ := ex ((1) + (-1) * y6)
  obtain ⟨y8, h8⟩ := ex ((4611686018427387904) + (-1) * y6)
  have d5 := Thr_bd x1 x2
  have d6 := Jn_bd (0) y5
  exact sm_signs (F := (TcE68v1F (decide (y7 < (1))) (decide (y6 < (1))))) (us := []) (ps := TcE68v0P) (l := [x0, x1, x2, x3, x4, y5, y6, y7, y8]) ⟨gc (gc (gc (gc (gc (gc (gc (gc (gc trivial)))))))), (al (fS (4611686018427387904) y6 y8) (al (fA y7 y6 (1)) (al (fQ x0 (60) (1)) (al (fS (120) x0 x4) an)))), (al (fN (1) x1) (al rfl (al rfl an))), an, an, an, an, an⟩ an (al (pz (TcE66_ok) []) (al (ck (l := .s 1) (k := 2) x1 x2) (al (jo (l := .s 1) (k := 2) (b := .c (0)) (e := .s 3) (w := .s 7) (n := .s 6) x1 x2 (0) y5 x3 y7 y6) an))) 5 (by simp) (TcE68v1R (decide (y7 < (1))) (decide (y6 < (1)))) (by kernel_rfl)
theorem TcE68_ok (x0 x1 x2 x3 x4 : Int) (b : Gs [(60, 119), (1, 30), (4602678819172646912, 4605380978949069210)] [x0, x1, x2] := by simp only [Gs, and_true]; omega) (n2 : Nr x2 := by assumption) (h3 : x3 = (-1) + x1 := by omega) (h4 : x4 = (120) + (-1) * x0 := by omega) (r0 : 0 ≤ x1 ∧ x1 ≤ 30 := by omega) (r1 : (0 ≤ (0) ∧ (0) < x1) ∧ x1 ≤ 30 := by omega) (r2 : (0 : Int) ≤ x3 ∧ x3 ≤ 29 := by omega) (r3 : (1 : Int) ≤ x4 ∧ x4 ≤ 60 := by omega) : TcE68.Ok Tryz.prog (sgl [x0, x1, x2, x3, x4]) := by
  have bb := b
  simp only [Gs, and_true] at bb
  have d0 := Thr_bd x1 x2
  rcases (show ((1) < x1) ∨ (x1 ≤ (1)) by omega) with c | c
  · exact TcE68_ok0 x0 x1 x2 x3 x4 b n2 h3 h4 r0 r1 r2 r3 c
  · exact TcE68_ok1 x0 x1 x2 x3 x4 b n2 h3 h4 r0 r1 r2 r3 c
def TcE69 : Sm := ⟨114, [.ptr 0 0, .ptr 1 0, .ptr 2 0, .sl 3 0 1 9, .int .i64 1, .sint .i64 0], 11, [(0, k12n), (1, k36n), (2, k61n), (3, k14n), (4, k40n), (5, k158n), (6, k39n), (7, .smap), (8, k0n), (9, k57n), (10, k90n)], k188n, 22, [(21, k108n), (0, k12n), (1, k36n), (2, k61n), (3, k14n), (4, k19n), (5, k242n), (6, k54n), (7, .smap), (8, k10n), (10, k236n), (17, .cells [.ptr 15 0]), (15, k16n)]⟩
def TcE69v0P : List Pur := [⟨239, [.str TcK058b], .int .u64 12469190679453589782⟩, ⟨269, [k13n], .int .i64 0⟩, ⟨273, [k13n, .int .i64 0, .int .i64 1], k85n⟩]
def TcE69v0F (d0 d1 : Bool) : Facts := ⟨[(60, 119), (1, 30), (1, 30), (4602678819172646912, 4605380978949069210), (0, 29), (1, 60), (0, 30), (0, 1), (0, 1), (4611686018427387903, 4611686018427387904)], [⟨.sub, .i64, .c (4611686018427387904), .s 7, .s 9⟩, ⟨.add, .i64, .s 8, .s 7, .c (1)⟩, ⟨.quo, .i64, .s 0, .c (60), .c (1)⟩, ⟨.sub, .i64, .c (120), .s 0, .s 5⟩], [⟨.c (1), .s 2, false⟩, ⟨.c (1), .s 1, true⟩, ⟨.s 8, .c (1), d0⟩, ⟨.s 7, .c (1), d1⟩], [], [], [], [], []⟩
theorem TcE69v0R : ∀ d0 d1, Sr TcE69 (TcE69v0F d0 d1) [] TcE69v0P = true := by intro d0 d1; cases d0 <;> cases d1 <;> kernel_rfl
theorem TcE69_ok (x0 x1 x2 x3 x4 x5 : Int) (b : Gs [(60, 119), (1, 30), (1, 30), (4602678819172646912, 4605380978949069210)] [x0, x1, x2, x3] := by simp only [Gs, and_true]; omega) (n3 : Nr x3 := by assumption) (h4 : x4 = (-1) + x2 := by omega) (h5 : x5 = (120) + (-1) * x0 := by omega) (r0 : 0 ≤ x2 ∧ x2 ≤ 30 := by omega) (r1 : (0 ≤ (0) ∧ (0) < x2) ∧ x2 ≤ 30 := by omega) (r2 : x2 ≤ (1) := by omega) (r3 : (1) < x1 := by omega) (r4 : (0 : Int) ≤ x4 ∧ x4 ≤ 29 := by omega) (r5 : (1 : Int) ≤ x5 ∧ x5 ≤ 60 := by omega) : TcE69.Ok Tryz.prog (sgl [x0, x1, x2, x3, x4, x5]) := by
  have bb := b
  simp only [Gs, and_true] at bb
  obtain ⟨y6, h6⟩ := ex (Thr x2 x3)
  obtain ⟨y7, h7⟩ := ex (Jn (0) y6)
  obtain ⟨y8, h8⟩ := ex ((1) + (-1) * y7)
  obtain ⟨y9, h9⟩ := ex ((4611686018427387904) + (-1) * y7)
  have d6 := Thr_bd x2 x3
  have d7 := Jn_bd (0) y6
  exact sm_signs (F := (TcE69v0F (decide (y8 < (1))) (decide (y7 < (1))))) (us := []) (ps := TcE69v0P) (l := [x0, x1, x2, x3, x4, x5, y6, y7, y8, y9]) ⟨gc (gc (gc (gc (gc (gc (gc (gc (gc (gc trivial))))))))), (al (fS (4611686018427387904) y7 y9) (al (fA y8 y7 (1)) (al (fQ x0 (60) (1)) (al (fS (120) x0 x5) an)))), (al (fN (1) x2) (al (fT (1) x1) (al rfl (al rfl an)))), an, an, an, an, an⟩ an (al (pz (TcE66_ok) []) (al (ck (l := .s 2) (k := 3) x2 x3) (al (jo (l := .s 2) (k := 3) (b := .c (0)) (e := .s 4) (w := .s 8) (n := .s 7) x2 x3 (0) y6 x4 y8 y7) an))) 6 (by simp) (TcE69v0R (decide (y8 < (1))) (decide (y7 < (1)))) (by kernel_rfl)
def TcE70 : Sm := ⟨114, [.ptr 0 0, .ptr 1 0, .ptr 2 0, .sl 3 0 1 9, .int .i64 1, .sint .i64 0], 12, [(0, k12n), (1, k36n), (2, k61n), (3, k14n), (4, k19n), (5, k86n), (6, k39n), (7, .smap), (8, k33n), (9, k156n), (10, k170n), (11, k16n)], k188n, 22, [(21, k107n), (0, k12n), (1, k36n), (2, k61n), (3, k14n), (4, k19n), (5, k179n), (6, k39n), (7, .smap), (8, k83n), (10, k235n), (11, k16n), (18, k239n), (16, k16n)]⟩
def TcE70v0P : List Pur := [⟨239, [.str TcK058b], .int .u64 12469190679453589782⟩, ⟨269, [k13n], .int .i64 0⟩, ⟨273, [k13n, .sint .i64 4, .int .i64 1], k74n⟩]
def TcE70v0F (d0 d1 : Bool) : Facts := ⟨[(60, 119), (0, 30), (1, 30), (4602678819172646912, 4605380978949069210), (1, 30), (-30, 28), (2, 31), (1, 60), (0, 30), (0, 1), (0, 1), (4611686018427387903, 4611686018427387904)], [⟨.add, .i64, .s 4, .c (1), .s 6⟩, ⟨.sub, .i64, .c (4611686018427387904), .s 9, .s 11⟩, ⟨.add, .i64, .s 10, .s 9, .c (1)⟩, ⟨.quo, .i64, .s 0, .c (60), .c (1)⟩, ⟨.sub, .i64, .c (120), .s 0, .s 7⟩], [⟨.s 6, .s 2, true⟩, ⟨.s 10, .c (1), d0⟩, ⟨.s 9, .c (1), d1⟩], [], [], [], [], []⟩
theorem TcE70v0R : ∀ d0 d1, Sr TcE70 (TcE70v0F d0 d1) [] TcE70v0P = true := by intro d0 d1; cases d0 <;> cases d1 <;> kernel_rfl
theorem TcE70_ok (x0 x1 x2 x3 x4 x5 x6 x7 : Int) (b : Gs [(60, 119), (0, 30), (1, 30), (4602678819172646912, 4605380978949069210), (1, 30)] [x0, x1, x2, x3, x4] := by simp only [Gs, and_true]; omega) (n3 : Nr x3 := by assumption) (h5 : x5 = (-1) + x2 + (-1) * x4 := by omega) (h6 : x6 = (1) + x4 := by omega) (h7 : x7 = (120) + (-1) * x0 := by omega) (r0 : 0 ≤ x2 ∧ x2 ≤ 30 := by omega) (r1 : (0 ≤ x4 ∧ x4 < x2) ∧ x2 ≤ 30 := by omega) (r2 : x6 < x2 := by omega) (r3 : (-30 : Int) ≤ x5 ∧ x5 ≤ 28 := by omega) (r4 : (2 : Int) ≤ x6 ∧ x6 ≤ 31 := by omega) (r5 : (1 : Int) ≤ x7 ∧ x7 ≤ 60 := by omega) : TcE70.Ok Tryz.prog (sgl [x0, x1, x2, x3, x4, x5, x6, x7]) := by
  have bb := b
  simp only [Gs, and_true] at bb
  obtain ⟨y8, h8⟩ := ex (Thr x2 x3)
  obtain ⟨y9, h9⟩ := ex (Jn x4 y8)
  obtain ⟨y10, h10⟩ := ex ((1) + (-1) * y9)
  obtain ⟨y11, h11⟩ := ex ((4611686018427387904) + (-1) * y9)
  have d8 := Thr_bd x2 x3
  have d9 := Jn_bd x4 y8
  exact sm_signs (F := (TcE70v0F (decide (y10 < (1))) (decide (y9 < (1))))) (us := []) (ps := TcE70v0P) (l := [x0, x1, x2, x3, x4, x5, x6, x7, y8, y9, y10, y11]) ⟨gc (gc (gc (gc (gc (gc (gc (gc (gc (gc (gc (gc trivial))))))))))), (al (fA x4 (1) x6) (al (fS (4611686018427387904) y9 y11) (al (fA y10 y9 (1)) (al (fQ x0 (60) (1)) (al (fS (120) x0 x7) an))))), (al (fT x6 x2) (al rfl (al rfl an))), an, an, an, an, an⟩ an (al (pz (TcE66_ok) []) (al (ck (l := .s 2) (k := 3) x2 x3) (al (jo (l := .s 2) (k := 3) (b := .s 4) (e := .s 5) (w := .s 10) (n := .s 9) x2 x3 x4 y8 x5 y10 y9) an))) 8 (by simp) (TcE70v0R (decide (y10 < (1))) (decide (y9 < (1)))) (by kernel_rfl)
def TcE71 : Sm := ⟨114, [.ptr 0 0, .ptr 1 0, .ptr 2 0, .sl 3 0 1 9, .int .i64 1, .sint .i64 0], 12, [(0, k12n), (1, k110n), (2, k61n), (3, k80n), (4, k19n), (5, k86n), (6, k90n), (7, .smap), (8, k149n), (9, k156n), (10, k170n), (11, k16n)], k188n, 22, [(21, k250n), (0, k12n), (1, k110n), (2, k61n), (3, k80n), (4, k19n), (5, k179n), (6, k90n), (7, .smap), (8, .cells [.bool true, .str TcK058b, .sint .i64 5, .bool false, k50n, .int .i64 0, .bool false, k50n, .int .i64 0, .bool false, k50n, .int .i64 0, .bool false, k50n, .int .i64 0, .bool false, k50n, .int .i64 0]), (10, k235n), (11, k16n), (18, k239n), (16, k16n)]⟩
def TcE71v0P : List Pur := [⟨239, [.str TcK058b], .int .u64 12469190679453589782⟩, ⟨269, [k75n], .int .i64 0⟩, ⟨273, [k75n, .sint .i64 3, .int .i64 1], k213n⟩]
def TcE71v0F (d0 d1 : Bool) : Facts := ⟨[(60, 119), (1, 30), (4602678819172646912, 4605380978949069210), (1, 30), (-30, 28), (2, 31), (1, 60), (0, 30), (0, 1), (0, 1), (4611686018427387903, 4611686018427387904)], [⟨.add, .i64, .s 3, .c (1), .s 5⟩, ⟨.sub, .i64, .c (4611686018427387904), .s 8, .s 10⟩, ⟨.add, .i64, .s 9, .s 8, .c (1)⟩, ⟨.quo, .i64, .s 0, .c (60), .c (1)⟩, ⟨.sub, .i64, .c (120), .s 0, .s 6⟩], [⟨.s 5, .s 1, true⟩, ⟨.s 9, .c (1), d0⟩, ⟨.s 8, .c (1), d1⟩], [], [], [], [], []⟩
theorem TcE71v0R : ∀ d0 d1, Sr TcE71 (TcE71v0F d0 d1) [] TcE71v0P = true := by intro d0 d1; cases d0 <;> cases d1 <;> kernel_rfl
theorem TcE71_ok0 (x0 x1 x2 x3 x4 x5 x6 : Int) (b : Gs [(60, 119), (1, 30), (4602678819172646912, 4605380978949069210), (1, 30)] [x0, x1, x2, x3] := by simp only [Gs, and_true]; omega) (n2 : Nr x2 := by assumption) (h4 : x4 = (-1) + x1 + (-1) * x3 := by omega) (h5 : x5 = (1) + x3 := by omega) (h6 : x6 = (120) + (-1) * x0 := by omega) (r0 : 0 ≤ x1 ∧ x1 ≤ 30 := by omega) (r1 : (0 ≤ x3 ∧ x3 < x1) ∧ x1 ≤ 30 := by omega) (r2 : (-30 : Int) ≤ x4 ∧ x4 ≤ 28 := by omega) (r3 : (2 : Int) ≤ x5 ∧ x5 ≤ 31 := by omega) (r4 : (1 : Int) ≤ x6 ∧ x6 ≤ 60 := by omega) (c : x5 < x1) : TcE71.Ok Tryz.prog (sgl [x0, x1, x2, x3, x4, x5, x6]) := by
  have bb := b
  simp only [Gs, and_true] at bb
  obtain ⟨y7, h7⟩ := ex (Thr x1 x2)
  obtain ⟨y8, h8⟩ := ex (Jn x3 y7)
  obtain ⟨y9, h9⟩ := ex ((1) + (-1) * y8)
  obtain ⟨y10, h10⟩ := ex ((4611686018427387904) + (-1) * y8)
  have d7 := Thr_bd x1 x2
  have d8 := Jn_bd x3 y7
  exact sm_signs (F := (TcE71v0F (decide (y9 < (1))) (decide (y8 < (1))))) (us := []) (ps := TcE71v0P) (l := [x0, x1, x2, x3, x4, x5, x6, y7, y8, y9, y10]) ⟨gc (gc (gc (gc (gc (gc (gc (gc (gc (gc (gc trivial)))))))))), (al (fA x3 (1) x5) (al (fS (4611686018427387904) y8 y10) (al (fA y9 y8 (1)) (al (fQ x0 (60) (1)) (al (fS (120) x0 x6) an))))), (al (fT x5 x1) (al rfl (al rfl an))), an, an, an, an, an⟩ an (al (pz (TcE66_ok) []) (al (ck (l := .s 1) (k := 2) x1 x2) (al (jo (l := .s 1) (k := 2) (b := .s 3) (e := .s 4) (w := .s 9) (n := .s 8) x1 x2 x3 y7 x4 y9 y8) an))) 7 (by simp) (TcE71v0R (decide (y9 < (1))) (decide (y8 < (1)))) (by kernel_rfl)
def TcE71v1F (d0 d1 : Bool) : Facts := ⟨[(60, 119), (1, 30), (4602678819172646912, 4605380978949069210), (1, 30), (-30, 28), (2, 31), (1, 60), (0, 30), (0, 1), (0, 1), (4611686018427387903, 4611686018427387904)], [⟨.add, .i64, .s 3, .c (1), .s 5⟩, ⟨.sub, .i64, .c (4611686018427387904), .s 8, .s 10⟩, ⟨.add, .i64, .s 9, .s 8, .c (1)⟩, ⟨.quo, .i64, .s 0, .c (60), .c (1)⟩, ⟨.sub, .i64, .c (120), .s 0, .s 6⟩], [⟨.s 5, .s 1, false⟩, ⟨.s 9, .c (1), d0⟩, ⟨.s 8, .c (1), d1⟩], [], [], [], [], []⟩
theorem TcE71v1R : ∀ d0 d1, Sr TcE71 (TcE71v1F d0 d1) [] TcE71v0P = true := by intro d0 d1; cases d0 <;> cases d1 <;> kernel_rfl
theorem TcE71_ok1 (x0 x1 x2 x3 x4 x5 x6 : Int) (b : Gs [(60, 119), (1, 30), (4602678819172646912, 4605380978949069210), (1, 30)] [x0, x1, x2, x3] := by simp only [Gs, and_true]; omega) (n2 : Nr x2 := by assumption) (h4 : x4 = (-1) + x1 + (-1) * x3 := by omega) (h5 : x5 = (1) + x3 := by omega) (h6 : x6 = (120) + (-1) * x0 := by omega) (r0 : 0 ≤ x1 ∧ x1 ≤ 30 := by omega) (r1 : (0 ≤ x3 ∧ x3 < x1) ∧ x1 ≤ 30 := by omega) (r2 : (-30 : Int) ≤ x4 ∧ x4 ≤ 28 := by omega) (r3 : (2 : Int) ≤ x5 ∧ x5 ≤ 31 := by omega) (r4 : (1 : Int) ≤ x6 ∧ x6 ≤ 60 := by omega) (c : x1 ≤ x5) : TcE71.Ok Tryz.prog (sgl [x0, x1, x2, x3, x4, x5, x6]) := by
  have bb := b
  simp only [Gs, and_true] at bb
  obtain ⟨y7, h7⟩ := ex (Thr x1 x2)
  obtain ⟨y8, h8⟩ := ex (Jn x3 y7)
  obtain ⟨y9, h9⟩ := ex ((1) + (-1) * y8)
  obtain ⟨y10, h10⟩ := ex ((4611686018427387904) + (-1) * y8)
  have d7 := Thr_bd x1 x2
  have d8 := Jn_bd x3 y7
  exact sm_signs (F := (TcE71v1F (decide (y9 < (1))) (decide (y8 < (1))))) (us := []) (ps := TcE71v0P) (l := [x0, x1, x2, x3, x4, x5, x6, y7, y8, y9, y10]) ⟨gc (gc (gc (gc (gc (gc (gc (gc (gc (gc (gc trivial)))))))))), (al (fA x3 (1) x5) (al (fS (4611686018427387904) y8 y10) (al (fA y9 y8 (1)) (al (fQ x0 (60) (1)) (al (fS (120) x0 x6) an))))), (al (fN x5 x1) (al rfl (al rfl an))), an, an, an, an, an⟩ an (al (pz (TcE66_ok) []) (al (ck (l := .s 1) (k := 2) x1 x2) (al (jo (l := .s 1) (k := 2) (b := .s 3) (e := .s 4) (w := .s 9) (n := .s 8) x1 x2 x3 y7 x4 y9 y8) an))) 7 (by simp) (TcE71v1R (decide (y9 < (1))) (decide (y8 < (1)))) (by kernel_rfl)
theorem TcE71_ok (x0 x1 x2 x3 x4 x5 x6 : Int) (b : Gs [(60, 119), (1, 30), (4602678819172646912, 4605380978949069210), (1, 30)] [x0, x1, x2, x3] := by simp only [Gs, and_true]; omega) (n2 : Nr x2 := by assumption) (h4 : x4 = (-1) + x1 + (-1) * x3 := by omega) (h5 : x5 = (1) + x3 := by omega) (h6 : x6 = (120) + (-1) * x0 := by omega) (r0 : 0 ≤ x1 ∧ x1 ≤ 30 := by omega) (r1 : (0 ≤ x3 ∧ x3 < x1) ∧ x1 ≤ 30 := by omega) (r2 : (-30 : Int) ≤ x4 ∧ x4 ≤ 28 := by omega) (r3 : (2 : Int) ≤ x5 ∧ x5 ≤ 31 := by omega) (r4 : (1 : Int) ≤ x6 ∧ x6 ≤ 60 := by omega) : TcE71.Ok Tryz.prog (sgl [x0, x1, x2, x3, x4, x5, x6]) := by
  have bb := b
  simp only [Gs, and_true] at bb
  have d0 := Thr_bd x1 x2
  rcases (show (x5 < x1) ∨ (x1 ≤ x5) by omega) with c | c
  · exact TcE71_ok0 x0 x1 x2 x3 x4 x5 x6 b n2 h4 h5 h6 r0 r1 r2 r3 r4 c
  · exact TcE71_ok1 x0 x1 x2 x3 x4 x5 x6 b n2 h4 h5 h6 r0 r1 r2 r3 r4 c
end
end Go.Proofs.YtnpkeganpkobjaaGreatDoor.Ev
