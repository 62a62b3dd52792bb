import Derived.Test.YtnpkeganpkobjaaGreatDoorCK
import Derived.Test.YtnpkeganpkobjaaGreatDoorCA
import Derived.Test.YtnpkeganpkobjaaGreatDoorCD
set_option linter.all false
namespace Go.Proofs.YtnpkeganpkobjaaGreatDoor.Ev
set_option maxRecDepth 100000
set_option maxHeartbeats 4000000
open Go Go.RowKit
noncomputable section
def TcE72 : Sm := ⟨114, [.ptr 0 0, .ptr 1 0, .ptr 2 0, .sl 3 0 1 9, .int .i64 1, .sint .i64 0], 12, [(0, k12n), (1, k36n), (2, k61n), (3, k14n), (4, k19n), (5, k86n), (6, k39n), (7, .smap), (8, k33n), (9, k156n), (10, k170n), (11, k16n)], k281n, 23, [(22, k107n), (0, k12n), (1, k36n), (2, k61n), (3, k14n), (4, k19n), (5, k179n), (6, k54n), (7, .smap), (8, k83n), (10, k235n), (11, k16n), (18, k239n), (16, k16n)]⟩
def TcE72v0P : List Pur := [⟨239, [.str TcK058b], .int .u64 12469190679453589782⟩, ⟨269, [k13n], .int .i64 0⟩, ⟨273, [k13n, .sint .i64 4, .int .i64 1], k74n⟩]
def TcE72v0F (d0 d1 : Bool) : Facts := ⟨[(60, 119), (1, 30), (1, 30), (4602678819172646912, 4605380978949069210), (1, 30), (-30, 28), (2, 31), (1, 60), (0, 30), (0, 1), (0, 1), (4611686018427387903, 4611686018427387904)], [⟨.add, .i64, .s 4, .c (1), .s 6⟩, ⟨.sub, .i64, .c (4611686018427387904), .s 9, .s 11⟩, ⟨.add, .i64, .s 10, .s 9, .c (1)⟩, ⟨.quo, .i64, .s 0, .c (60), .c (1)⟩, ⟨.sub, .i64, .c (120), .s 0, .s 7⟩], [⟨.s 6, .s 2, false⟩, ⟨.c (1), .s 1, true⟩, ⟨.s 10, .c (1), d0⟩, ⟨.s 9, .c (1), d1⟩], [], [], [], [], []⟩
theorem TcE72v0R : ∀ d0 d1, Sr TcE72 (TcE72v0F d0 d1) [] TcE72v0P = true := by intro d0 d1; cases d0 <;> cases d1 <;> kernel_rfl
theorem TcE72_ok (x0 x1 x2 x3 x4 x5 x6 x7 : Int) (b : Gs [(60, 119), (1, 30), (1, 30), (4602678819172646912, 4605380978949069210), (1, 30)] [x0, x1, x2, x3, x4] := by simp only [Gs, and_true]; omega) (n3 : Nr x3 := by assumption) (h5 : x5 = (-1) + x2 + (-1) * x4 := by omega) (h6 : x6 = (1) + x4 := by omega) (h7 : x7 = (120) + (-1) * x0 := by omega) (r0 : 0 ≤ x2 ∧ x2 ≤ 30 := by omega) (r1 : (0 ≤ x4 ∧ x4 < x2) ∧ x2 ≤ 30 := by omega) (r2 : x2 ≤ x6 := by omega) (r3 : (1) < x1 := by omega) (r4 : (-30 : Int) ≤ x5 ∧ x5 ≤ 28 := by omega) (r5 : (2 : Int) ≤ x6 ∧ x6 ≤ 31 := by omega) (r6 : (1 : Int) ≤ x7 ∧ x7 ≤ 60 := by omega) : TcE72.Ok Tryz.prog (sgl [x0, x1, x2, x3, x4, x5, x6, x7]) := by
  have bb := b
  simp only [Gs, and_true] at bb
  obtain ⟨y8, h8⟩ := ex (Thr x2 x3)
  obtain ⟨y9, h9⟩ := ex (Jn x4 y8)
  obtain ⟨y10, h10⟩ := ex ((1) + (-1) * y9)
  obtain ⟨y11, h11⟩ := ex ((4611686018427387904) + (-1) * y9)
  have d8 := Thr_bd x2 x3
  have d9 := Jn_bd x4 y8
  exact sm_signs (F := (TcE72v0F (decide (y10 < (1))) (decide (y9 < (1))))) (us := []) (ps := TcE72v0P) (l := [x0, x1, x2, x3, x4, x5, x6, x7, y8, y9, y10, y11]) ⟨gc (gc (gc (gc (gc (gc (gc (gc (gc (gc (gc (gc trivial))))))))))), (al (fA x4 (1) x6) (al (fS (4611686018427387904) y9 y11) (al (fA y10 y9 (1)) (al (fQ x0 (60) (1)) (al (fS (120) x0 x7) an))))), (al (fN x6 x2) (al (fT (1) x1) (al rfl (al rfl an)))), an, an, an, an, an⟩ an (al (pz (TcE66_ok) []) (al (ck (l := .s 2) (k := 3) x2 x3) (al (jo (l := .s 2) (k := 3) (b := .s 4) (e := .s 5) (w := .s 10) (n := .s 9) x2 x3 x4 y8 x5 y10 y9) an))) 8 (by simp) (TcE72v0R (decide (y10 < (1))) (decide (y9 < (1)))) (by kernel_rfl)
def TcE73H : List (Nat × B) := [(0, k12n), (1, k36n), (2, k61n), (3, k14n), (4, k19n), (5, k86n), (6, k103n), (7, .smap), (8, k33n), (9, k156n), (10, k170n), (11, k16n)]
def TcE73 : Sm := ⟨114, [.ptr 0 0, .ptr 1 0, .ptr 2 0, .sl 3 0 1 9, .int .i64 1, .sint .i64 0], 12, TcE73H, k189n, 20, TcE73H ++ [(19, k141n)]⟩
def TcE73v0P : List Pur := [⟨269, [k13n], .int .i64 0⟩]
def TcE73v0F : Facts := ⟨[(60, 119), (1, 30), (1, 30), (4602678819172646912, 4605380978949069210), (1, 30), (1, 60)], [⟨.quo, .i64, .s 0, .c (60), .c (1)⟩, ⟨.sub, .i64, .c (120), .s 0, .s 5⟩], [⟨.s 2, .s 2, false⟩], [], [], [], [], []⟩
theorem TcE73v0R : Sr TcE73 TcE73v0F [] TcE73v0P = true := by kernel_rfl
theorem TcE73_ok (x0 x1 x2 x3 x4 x5 : Int) (b : Gs [(60, 119), (1, 30), (1, 30), (4602678819172646912, 4605380978949069210), (1, 30)] [x0, x1, x2, x3, x4] := by simp only [Gs, and_true]; omega) (n3 : Nr x3 := by assumption) (h5 : x5 = (120) + (-1) * x0 := by omega) (r0 : 0 ≤ x2 ∧ x2 ≤ 30 := by omega) (r1 : x2 ≤ x2 := by omega) (r2 : (1 : Int) ≤ x5 ∧ x5 ≤ 60 := by omega) : TcE73.Ok Tryz.prog (sgl [x0, x1, x2, x3, x4, x5]) := by
  have bb := b
  simp only [Gs, and_true] at bb
  exact sm_signs (F := TcE73v0F) (us := []) (ps := TcE73v0P) (l := [x0, x1, x2, x3, x4, x5]) ⟨gc (gc (gc (gc (gc (gc trivial))))), (al (fQ x0 (60) (1)) (al (fS (120) x0 x5) an)), (al (fN x2 x2) an), an, an, an, an, an⟩ an (al (ck (l := .s 2) (k := 3) x2 x3) an) 6 (by simp) TcE73v0R (by kernel_rfl)
def TcE74H : List (Nat × B) := [(0, k12n), (1, k36n), (2, k61n), (3, k14n), (4, k19n), (5, k86n), (6, k54n), (7, .smap), (8, k33n), (9, k156n), (10, k170n), (11, k16n)]
def TcE74 : Sm := ⟨114, [.ptr 0 0, .ptr 1 0, .ptr 2 0, .sl 3 0 1 9, .int .i64 1, .sint .i64 0], 12, TcE74H, k189n, 20, TcE74H ++ [(19, k141n)]⟩
def TcE74v0P : List Pur := [⟨269, [k13n], .int .i64 0⟩]
def TcE74v0F : Facts := ⟨[(60, 119), (1, 30), (1, 30), (4602678819172646912, 4605380978949069210), (1, 30), (1, 60)], [⟨.quo, .i64, .s 0, .c (60), .c (1)⟩, ⟨.sub, .i64, .c (120), .s 0, .s 5⟩], [⟨.s 2, .s 2, false⟩], [], [], [], [], []⟩
theorem TcE74v0R : Sr TcE74 TcE74v0F [] TcE74v0P = true := by kernel_rfl
theorem TcE74_ok (x0 x1 x2 x3 x4 x5 : Int) (b : Gs [(60, 119), (1, 30), (1, 30), (4602678819172646912, 4605380978949069210), (1, 30)] [x0, x1, x2, x3, x4] := by simp only [Gs, and_true]; omega) (n3 : Nr x3 := by assumption) (h5 : x5 = (120) + (-1) * x0 := by omega) (r0 : 0 ≤ x2 ∧ x2 ≤ 30 := by omega) (r1 : x2 ≤ x2 := by omega) (r2 : (1 : Int) ≤ x5 ∧ x5 ≤ 60 := by omega) : TcE74.Ok Tryz.prog (sgl [x0, x1, x2, x3, x4, x5]) := by
  have bb := b
  simp only [Gs, and_true] at bb
  exact sm_signs (F := TcE74v0F) (us := []) (ps := TcE74v0P) (l := [x0, x1, x2, x3, x4, x5]) ⟨gc (gc (gc (gc (gc (gc trivial))))), (al (fQ x0 (60) (1)) (al (fS (120) x0 x5) an)), (al (fN x2 x2) an), an, an, an, an, an⟩ an (al (ck (l := .s 2) (k := 3) x2 x3) an) 6 (by simp) TcE74v0R (by kernel_rfl)
def TcE75H : List (Nat × B) := [(0, k12n), (1, k110n), (2, k61n), (3, k80n), (4, k19n), (5, k86n), (6, k90n), (7, .smap), (8, k149n), (9, k156n), (10, k170n), (11, k16n)]
def TcE75 : Sm := ⟨114, [.ptr 0 0, .ptr 1 0, .ptr 2 0, .sl 3 0 1 9, .int .i64 1, .sint .i64 0], 12, TcE75H, k168n, 19, TcE75H ++ [(18, k254n)]⟩
def TcE75v0P : List Pur := [⟨239, [.str TcK058b], .int .u64 12469190679453589782⟩, ⟨269, [k75n], .int .i64 0⟩]
def TcE75v0F : Facts := ⟨[(60, 119), (1, 30), (4602678819172646912, 4605380978949069210), (1, 30), (1, 60)], [⟨.quo, .i64, .s 0, .c (60), .c (1)⟩, ⟨.sub, .i64, .c (120), .s 0, .s 4⟩], [⟨.s 3, .s 1, false⟩], [], [], [], [], []⟩
theorem TcE75v0R : Sr TcE75 TcE75v0F [] TcE75v0P = true := by kernel_rfl
theorem TcE75_ok (x0 x1 x2 x3 x4 : Int) (b : Gs [(60, 119), (1, 30), (4602678819172646912, 4605380978949069210), (1, 30)] [x0, x1, x2, x3] := by simp only [Gs, and_true]; omega) (n2 : Nr x2 := by assumption) (h4 : x4 = (120) + (-1) * x0 := by omega) (r0 : 0 ≤ x1 ∧ x1 ≤ 30 := by omega) (r1 : x1 ≤ x3 := by omega) (r2 : (1 : Int) ≤ x4 ∧ x4 ≤ 60 := by omega) : TcE75.Ok Tryz.prog (sgl [x0, x1, x2, x3, x4]) := by
  have bb := b
  simp only [Gs, and_true] at bb
  exact sm_signs (F := TcE75v0F) (us := []) (ps := TcE75v0P) (l := [x0, x1, x2, x3, x4]) ⟨gc (gc (gc (gc (gc trivial)))), (al (fQ x0 (60) (1)) (al (fS (120) x0 x4) an)), (al (fN x3 x1) an), an, an, an, an, an⟩ an (al (pz (TcE66_ok) []) (al (ck (l := .s 1) (k := 2) x1 x2) an)) 5 (by simp) TcE75v0R (by kernel_rfl)
def TcE76H : List (Nat × B) := [(0, k190n), (1, k129n), (2, k185n), (3, k172n), (4, k60n), (5, k25n), (6, k249n)]
def TcE76 : Sm := ⟨75, [.ptr 0 0, k191n, .sint .i64 1], 7, TcE76H, k234n, 11, TcE76H ++ [(10, k31n)]⟩
def TcE76v0P : List Pur := [⟨161, [k1n], .bool true⟩, ⟨161, [k3n], .bool true⟩, ⟨210, [k3n], k3n⟩, ⟨210, [k1n], k1n⟩, ⟨210, [k119n], k119n⟩]
def TcE76v0F : Facts := ⟨[(0, 59), (60, 119), (4602678819172646912, 4605380978949069210)], [⟨.quo, .i64, .s 1, .c (60), .c (1)⟩], [], [], [], [], [], []⟩
theorem TcE76v0R : Sr TcE76 TcE76v0F [] TcE76v0P = true := by kernel_rfl
theorem TcE76_ok (x0 x1 x2 : Int) (b : Gs [(0, 59), (60, 119), (4602678819172646912, 4605380978949069210)] [x0, x1, x2] := by simp only [Gs, and_true]; omega) (n2 : Nr x2 := by assumption) : TcE76.Ok Tryz.prog (sgl [x0, x1, x2]) := by
  have bb := b
  simp only [Gs, and_true] at bb
  exact sm_signs (F := TcE76v0F) (us := []) (ps := TcE76v0P) (l := [x0, x1, x2]) ⟨b, (al (fQ x1 (60) (1)) an), an, an, an, an, an, an⟩ an (al (pz (TcE3_ok) []) (al (pz (TcE4_ok) []) (al (pz (TcE6_ok) []) (al (pz (TcE7_ok) []) (al (pz (TcE8_ok) []) an))))) 3 (by simp) TcE76v0R (by kernel_rfl)
def TcE77H : List (Nat × B) := [(0, k12n), (1, k36n), (2, k61n), (3, k31n), (4, k40n), (5, k165n), (6, k39n), (7, .smap), (8, k0n), (9, k90n)]
def TcE77 : Sm := ⟨114, [.ptr 0 0, .ptr 1 0, .ptr 2 0, .sl 3 0 1 9, .int .i64 1, .sint .i64 0], 10, TcE77H, k169n, 18, upd TcE77H [(6, k54n)] ++ [(17, k48n)]⟩
def TcE77v0P : List Pur := [⟨269, [k43n], .int .i64 0⟩]
def TcE77v0F : Facts := ⟨[(60, 119), (1, 30), (4602678819172646912, 4605380978949069210), (1, 60)], [⟨.quo, .i64, .s 0, .c (60), .c (1)⟩, ⟨.sub, .i64, .c (120), .s 0, .s 3⟩], [⟨.c (1), .s 1, true⟩], [], [], [], [], []⟩
theorem TcE77v0R : Sr TcE77 TcE77v0F [] TcE77v0P = true := by kernel_rfl
theorem TcE77_ok (x0 x1 x2 x3 : Int) (b : Gs [(60, 119), (1, 30), (4602678819172646912, 4605380978949069210)] [x0, x1, x2] := by simp only [Gs, and_true]; omega) (n2 : Nr x2 := by assumption) (h3 : x3 = (120) + (-1) * x0 := by omega) (r0 : (1) < x1 := by omega) (r1 : (1 : Int) ≤ x3 ∧ x3 ≤ 60 := by omega) : TcE77.Ok Tryz.prog (sgl [x0, x1, x2, x3]) := by
  have bb := b
  simp only [Gs, and_true] at bb
  exact sm_signs (F := TcE77v0F) (us := []) (ps := TcE77v0P) (l := [x0, x1, x2, x3]) ⟨gc (gc (gc (gc trivial))), (al (fQ x0 (60) (1)) (al (fS (120) x0 x3) an)), (al (fT (1) x1) an), an, an, an, an, an⟩ an (al (ck (l := .c (0)) (k := 2) (0) x2) an) 4 (by simp) TcE77v0R (by kernel_rfl)
def TcE78H : List (Nat × B) := [(0, k12n), (1, k110n), (2, k61n), (3, k199n), (4, k40n), (5, k165n), (6, k90n), (7, .smap), (8, k0n), (9, k90n)]
def TcE78 : Sm := ⟨114, [.ptr 0 0, .ptr 1 0, .ptr 2 0, .sl 3 0 1 9, .int .i64 1, .sint .i64 0], 10, TcE78H, .tup [.sl 16 0 1 5, .int .i64 2], 17, TcE78H ++ [(16, k187n)]⟩
def TcE78v0P : List Pur := [⟨269, [k152n], .int .i64 0⟩]
def TcE78v0F : Facts := ⟨[(60, 119), (4602678819172646912, 4605380978949069210), (1, 60)], [⟨.quo, .i64, .s 0, .c (60), .c (1)⟩, ⟨.sub, .i64, .c (120), .s 0, .s 2⟩], [], [], [], [], [], []⟩
theorem TcE78v0R : Sr TcE78 TcE78v0F [] TcE78v0P = true := by kernel_rfl
theorem TcE78_ok (x0 x1 x2 : Int) (b : Gs [(60, 119), (4602678819172646912, 4605380978949069210)] [x0, x1] := by simp only [Gs, and_true]; omega) (n1 : Nr x1 := by assumption) (h2 : x2 = (120) + (-1) * x0 := by omega) (r0 : (1 : Int) ≤ x2 ∧ x2 ≤ 60 := by omega) : TcE78.Ok Tryz.prog (sgl [x0, x1, x2]) := by
  have bb := b
  simp only [Gs, and_true] at bb
  exact sm_signs (F := TcE78v0F) (us := []) (ps := TcE78v0P) (l := [x0, x1, x2]) ⟨gc (gc (gc trivial)), (al (fQ x0 (60) (1)) (al (fS (120) x0 x2) an)), an, an, an, an, an, an⟩ an (al (ck (l := .c (0)) (k := 1) (0) x1) an) 3 (by simp) TcE78v0R (by kernel_rfl)
def TcE79H : List (Nat × B) := [(0, k12n), (1, k36n), (2, k61n), (3, k31n), (4, k40n), (5, k165n), (6, k103n), (7, .smap), (8, k0n), (9, k90n)]
def TcE79 : Sm := ⟨114, [.ptr 0 0, .ptr 1 0, .ptr 2 0, .sl 3 0 1 9, .int .i64 1, .sint .i64 0], 10, TcE79H, k169n, 18, TcE79H ++ [(17, k48n)]⟩
def TcE79v0P : List Pur := [⟨269, [k43n], .int .i64 0⟩]
def TcE79v0F : Facts := ⟨[(60, 119), (1, 30), (4602678819172646912, 4605380978949069210), (1, 60)], [⟨.quo, .i64, .s 0, .c (60), .c (1)⟩, ⟨.sub, .i64, .c (120), .s 0, .s 3⟩], [], [], [], [], [], []⟩
theorem TcE79v0R : Sr TcE79 TcE79v0F [] TcE79v0P = true := by kernel_rfl
theorem TcE79_ok (x0 x1 x2 x3 : Int) (b : Gs [(60, 119), (1, 30), (4602678819172646912, 4605380978949069210)] [x0, x1, x2] := by simp only [Gs, and_true]; omega) (n2 : Nr x2 := by assumption) (h3 : x3 = (120) + (-1) * x0 := by omega) (r0 : (1 : Int) ≤ x3 ∧ x3 ≤ 60 := by omega) : TcE79.Ok Tryz.prog (sgl [x0, x1, x2, x3]) := by
  have bb := b
  simp only [Gs, and_true] at bb
  exact sm_signs (F := TcE79v0F) (us := []) (ps := TcE79v0P) (l := [x0, x1, x2, x3]) ⟨gc (gc (gc (gc trivial))), (al (fQ x0 (60) (1)) (al (fS (120) x0 x3) an)), an, an, an, an, an, an⟩ an (al (ck (l := .c (0)) (k := 2) (0) x2) an) 4 (by simp) TcE79v0R (by kernel_rfl)
def TcE80H : List (Nat × B) := [(0, k12n), (1, k36n), (2, k61n), (3, k31n), (4, k40n), (5, k165n), (6, k54n), (7, .smap), (8, k0n), (9, k90n)]
def TcE80 : Sm := ⟨114, [.ptr 0 0, .ptr 1 0, .ptr 2 0, .sl 3 0 1 9, .int .i64 1, .sint .i64 0], 10, TcE80H, k169n, 18, TcE80H ++ [(17, k48n)]⟩
def TcE80v0P : List Pur := [⟨269, [k43n], .int .i64 0⟩]
def TcE80v0F : Facts := ⟨[(60, 119), (1, 30), (4602678819172646912, 4605380978949069210), (1, 60)], [⟨.quo, .i64, .s 0, .c (60), .c (1)⟩, ⟨.sub, .i64, .c (120), .s 0, .s 3⟩], [], [], [], [], [], []⟩
theorem TcE80v0R : Sr TcE80 TcE80v0F [] TcE80v0P = true := by kernel_rfl
theorem TcE80_ok (x0 x1 x2 x3 : Int) (b : Gs [(60, 119), (1, 30), (4602678819172646912, 4605380978949069210)] [x0, x1, x2] := by simp only [Gs, and_true]; omega) (n2 : Nr x2 := by assumption) (h3 : x3 = (120) + (-1) * x0 := by omega) (r0 : (1 : Int) ≤ x3 ∧ x3 ≤ 60 := by omega) : TcE80.Ok Tryz.prog (sgl [x0, x1, x2, x3]) := by
  have bb := b
  simp only [Gs, and_true] at bb
  exact sm_signs (F := TcE80v0F) (us := []) (ps := TcE80v0P) (l := [x0, x1, x2, x3]) ⟨gc (gc (gc (gc trivial))), (al (fQ x0 (60) (1)) (al (fS (120) x0 x3) an)), an, an, an, an, an, an⟩ an (al (ck (l := .c (0)) (k := 2) (0) x2) an) 4 (by simp) TcE80v0R (by kernel_rfl)
def TcE81H : List (Nat × B) := [(0, k12n), (1, k36n), (2, k61n), (3, k31n), (4, k40n), (5, k158n), (6, k39n), (7, .smap), (8, k0n), (9, k57n), (10, k90n)]
def TcE81 : Sm := ⟨114, [.ptr 0 0, .ptr 1 0, .ptr 2 0, .sl 3 0 1 9, .int .i64 1, .sint .i64 0], 11, TcE81H, k168n, 19, upd TcE81H [(6, k54n)] ++ [(18, k48n)]⟩
def TcE81v0P : List Pur := [⟨269, [k43n], .int .i64 0⟩]
def TcE81v0F : Facts := ⟨[(60, 119), (1, 30), (4602678819172646912, 4605380978949069210), (1, 60)], [⟨.quo, .i64, .s 0, .c (60), .c (1)⟩, ⟨.sub, .i64, .c (120), .s 0, .s 3⟩], [⟨.c (1), .s 1, true⟩], [], [], [], [], []⟩
theorem TcE81v0R : Sr TcE81 TcE81v0F [] TcE81v0P = true := by kernel_rfl
theorem TcE81_ok (x0 x1 x2 x3 : Int) (b : Gs [(60, 119), (1, 30), (4602678819172646912, 4605380978949069210)] [x0, x1, x2] := by simp only [Gs, and_true]; omega) (n2 : Nr x2 := by assumption) (h3 : x3 = (120) + (-1) * x0 := by omega) (r0 : (1) < x1 := by omega) (r1 : (1 : Int) ≤ x3 ∧ x3 ≤ 60 := by omega) : TcE81.Ok Tryz.prog (sgl [x0, x1, x2, x3]) := by
  have bb := b
  simp only [Gs, and_true] at bb
  exact sm_signs (F := TcE81v0F) (us := []) (ps := TcE81v0P) (l := [x0, x1, x2, x3]) ⟨gc (gc (gc (gc trivial))), (al (fQ x0 (60) (1)) (al (fS (120) x0 x3) an)), (al (fT (1) x1) an), an, an, an, an, an⟩ an (al (ck (l := .c (0)) (k := 2) (0) x2) an) 4 (by simp) TcE81v0R (by kernel_rfl)
def TcE82H : List (Nat × B) := [(0, k12n), (1, k110n), (2, k61n), (3, k199n), (4, k40n), (5, k158n), (6, k90n), (7, .smap), (8, k0n), (9, k57n), (10, k90n)]
def TcE82 : Sm := ⟨114, [.ptr 0 0, .ptr 1 0, .ptr 2 0, .sl 3 0 1 9, .int .i64 1, .sint .i64 0], 11, TcE82H, k169n, 18, TcE82H ++ [(17, k187n)]⟩
def TcE82v0P : List Pur := [⟨269, [k152n], .int .i64 0⟩]
def TcE82v0F : Facts := ⟨[(60, 119), (4602678819172646912, 4605380978949069210), (1, 60)], [⟨.quo, .i64, .s 0, .c (60), .c (1)⟩, ⟨.sub, .i64, .c (120), .s 0, .s 2⟩], [], [], [], [], [], []⟩
theorem TcE82v0R : Sr TcE82 TcE82v0F [] TcE82v0P = true := by kernel_rfl
theorem TcE82_ok (x0 x1 x2 : Int) (b : Gs [(60, 119), (4602678819172646912, 4605380978949069210)] [x0, x1] := by simp only [Gs, and_true]; omega) (n1 : Nr x1 := by assumption) (h2 : x2 = (120) + (-1) * x0 := by omega) (r0 : (1 : Int) ≤ x2 ∧ x2 ≤ 60 := by omega) : TcE82.Ok Tryz.prog (sgl [x0, x1, x2]) := by
  have bb := b
  simp only [Gs, and_true] at bb
  exact sm_signs (F := TcE82v0F) (us := []) (ps := TcE82v0P) (l := [x0, x1, x2]) ⟨gc (gc (gc trivial)), (al (fQ x0 (60) (1)) (al (fS (120) x0 x2) an)), an, an, an, an, an, an⟩ an (al (ck (l := .c (0)) (k := 1) (0) x1) an) 3 (by simp) TcE82v0R (by kernel_rfl)
def TcE83H : List (Nat × B) := [(0, k12n), (1, k36n), (2, k61n), (3, k31n), (4, k40n), (5, k158n), (6, k103n), (7, .smap), (8, k0n), (9, k57n), (10, k90n)]
def TcE83 : Sm := ⟨114, [.ptr 0 0, .ptr 1 0, .ptr 2 0, .sl 3 0 1 9, .int .i64 1, .sint .i64 0], 11, TcE83H, k168n, 19, TcE83H ++ [(18, k48n)]⟩
def TcE83v0P : List Pur := [⟨269, [k43n], .int .i64 0⟩]
def TcE83v0F : Facts := ⟨[(60, 119), (1, 30), (4602678819172646912, 4605380978949069210), (1, 60)], [⟨.quo, .i64, .s 0, .c (60), .c (1)⟩, ⟨.sub, .i64, .c (120), .s 0, .s 3⟩], [], [], [], [], [], []⟩
theorem TcE83v0R : Sr TcE83 TcE83v0F [] TcE83v0P = true := by kernel_rfl
theorem TcE83_ok (x0 x1 x2 x3 : Int) (b : Gs [(60, 119), (1, 30), (4602678819172646912, 4605380978949069210)] [x0, x1, x2] := by simp only [Gs, and_true]; omega) (n2 : Nr x2 := by assumption) (h3 : x3 = (120) + (-1) * x0 := by omega) (r0 : (1 : Int) ≤ x3 ∧ x3 ≤ 60 := by omega) : TcE83.Ok Tryz.prog (sgl [x0, x1, x2, x3]) := by
  have bb := b
  simp only [Gs, and_true] at bb
  exact sm_signs (F := TcE83v0F) (us := []) (ps := TcE83v0P) (l := [x0, x1, x2, x3]) ⟨gc (gc (gc (gc trivial))), (al (fQ x0 (60) (1)) (al (fS (120) x0 x3) an)), an, an, an, an, an, an⟩ an (al (ck (l := .c (0)) (k := 2) (0) x2) an) 4 (by simp) TcE83v0R (by kernel_rfl)
def TcE84H : List (Nat × B) := [(0, k12n), (1, k36n), (2, k61n), (3, k31n), (4, k40n), (5, k158n), (6, k54n), (7, .smap), (8, k0n), (9, k57n), (10, k90n)]
def TcE84 : Sm := ⟨114, [.ptr 0 0, .ptr 1 0, .ptr 2 0, .sl 3 0 1 9, .int .i64 1, .sint .i64 0], 11, TcE84H, k168n, 19, TcE84H ++ [(18, k48n)]⟩
def TcE84v0P : List Pur := [⟨269, [k43n], .int .i64 0⟩]
def TcE84v0F : Facts := ⟨[(60, 119), (1, 30), (4602678819172646912, 4605380978949069210), (1, 60)], [⟨.quo, .i64, .s 0, .c (60), .c (1)⟩, ⟨.sub, .i64, .c (120), .s 0, .s 3⟩], [], [], [], [], [], []⟩
theorem TcE84v0R : Sr TcE84 TcE84v0F [] TcE84v0P = true := by kernel_rfl
theorem TcE84_ok (x0 x1 x2 x3 : Int) (b : Gs [(60, 119), (1, 30), (4602678819172646912, 4605380978949069210)] [x0, x1, x2] := by simp only [Gs, and_true]; omega) (n2 : Nr x2 := by assumption) (h3 : x3 = (120) + (-1) * x0 := by omega) (r0 : (1 : Int) ≤ x3 ∧ x3 ≤ 60 := by omega) : TcE84.Ok Tryz.prog (sgl [x0, x1, x2, x3]) := by
  have bb := b
  simp only [Gs, and_true] at bb
  exact sm_signs (F := TcE84v0F) (us := []) (ps := TcE84v0P) (l := [x0, x1, x2, x3]) ⟨gc (gc (gc (gc trivial))), (al (fQ x0 (60) (1)) (al (fS (120) x0 x3) an)), an, an, an, an, an, an⟩ an (al (ck (l := .c (0)) (k := 2) (0) x2) an) 4 (by simp) TcE84v0R (by kernel_rfl)
def TcE85 : Sm := ⟨173, [.sl 0 0 1 5], 1, [(0, k42n)], .sl 5 0 4 2, 6, [(5, .cells [.str TcKb987, .str TcK4f89, .str TcK6d81, k257n, .str TcK66a8, k248n, .str TcK8148, k96n]), (0, k42n)]⟩
def TcE85v0P : List Pur := [⟨95, [.sint .i64 0], k293n⟩, ⟨95, [.sint .i64 1], k257n⟩, ⟨95, [.sint .i64 2], k248n⟩, ⟨226, [.sint .i64 8, .sint .i64 0], .sflt 13⟩, ⟨225, [.sflt 13], k96n⟩]
def TcE85v0F : Facts := ⟨[(1, 30), (1, 30), (1, 60), (49, 57), (48, 57), (48, 57), (49, 57), (48, 57), (-29, 29), (48, 49), (48, 57), (48, 57), (48, 57), (0, 9218868437227405312)], [⟨.sub, .i64, .s 0, .s 1, .s 8⟩], [], [], [], [], [], []⟩
theorem TcE85v0R : Sr TcE85 TcE85v0F [] TcE85v0P = true := by kernel_rfl
theorem TcE85_ok (x0 x1 x2 x3 x4 x5 x6 x7 x8 x9 x10 x11 x12 : Int) (b : Gs [(1, 30), (1, 30), (1, 60)] [x0, x1, x2] := by simp only [Gs, and_true]; omega) (h3 : x3 = (48) + x0 / 10 := by omega) (h4 : x4 = (48) + x0 % 10 := by omega) (h5 : x5 = (48) + x1 := by omega) (h6 : x6 = (48) + x2 / 10 := by omega) (h7 : x7 = (48) + x2 % 10 := by omega) (h8 : x8 = x0 + (-1) * x1 := by omega) (s9 : IsSh x8 x0 x9 x10 x11 x12 := by assumption) (r0 : 10 ≤ x0 ∧ x0 ≤ 99 := by omega) (r1 : 0 ≤ x1 ∧ x1 ≤ 9 := by omega) (r2 : 10 ≤ x2 ∧ x2 ≤ 99 := by omega) (r3 : (0 ≤ x8 ∧ x8 ≤ x0) ∧ (1 ≤ x0 ∧ x0 ≤ 30) := by omega) (r4 : (-29 : Int) ≤ x8 ∧ x8 ≤ 29 := by omega) : TcE85.Ok Tryz.prog (sgl [x0, x1, x2, x3, x4, x5, x6, x7, x8, x9, x10, x11, x12]) := by
  have bb := b
  simp only [Gs, and_true] at bb
  obtain ⟨y13, h13⟩ := ex (shC x8 x0)
  have d9 := s9.bd
  have d13 := shC_bd x8 x0
  exact sm_signs (F := TcE85v0F) (us := []) (ps := TcE85v0P) (l := [x0, x1, x2, x3, x4, x5, x6, x7, x8, x9, x10, x11, x12, y13]) ⟨gc (gc (gc (gc (gc (gc (gc (gc (gc (gc (gc (gc (gc (gc trivial))))))))))))), (al (fS x0 x1 x8) an), an, an, an, an, an, an⟩ an (al (pz (dg2 x0 x3 x4) [.s 0, .s 3, .s 4]) (al (pz (dg1 x1 x5) [.s 1, .s 5]) (al (pz (dg2 x2 x6 x7) [.s 2, .s 6, .s 7]) (al (pz (of0 x8 x0 y13) [.s 8, .s 0, .s 13]) (al (pz (tx0 y13 x9 x10 x11 x12 x8 x0) [.s 13, .s 9, .s 10, .s 11, .s 12]) an))))) 13 (by simp) TcE85v0R (by kernel_rfl)
def TcE86 (n : Nat) : Sm := ⟨184, [.agg [.str TcK6d81, k258n]], 0, [], .bool true, n, []⟩
def TcE86v0P : List Pur := [⟨161, [.str TcK6d81], .bool true⟩]
def TcE86v0F : Facts := ⟨[(48, 57)], [], [], [], [], [], [], []⟩
theorem TcE86v0R : ∃ n, smOk (TcE86 n) (callS TcE86v0F [] TcE86v0P 184 [.agg [.str TcK6d81, k258n]] (mkSt [] 0)) = true := by
  exact ⟨match (callS TcE86v0F [] TcE86v0P 184 [.agg [.str TcK6d81, k258n]] (mkSt [] 0)) with | some r => r.2.next | none => 0, by kernel_rfl⟩
theorem TcE86_ok (x0 : Int) (b : Gs [(48, 57)] [x0] := by simp only [Gs, and_true]; omega) : ∃ n, (TcE86 n).Ok Tryz.prog (sgl [x0]) := by
  have bb := b
  simp only [Gs, and_true] at bb
  obtain ⟨n, hn⟩ := TcE86v0R
  exact ⟨n, sm_signs (F := TcE86v0F) (us := []) (ps := TcE86v0P) (l := [x0]) ⟨b, an, an, an, an, an, an, an⟩ an (al (pz (TcE15_ok) []) an) 1 (by simp) hn (by kernel_rfl)⟩
def TcE87 : Sm := ⟨85, [k55n], 2, [(0, k20n), (1, k137n)], k71n, 73, [(72, .typ false 5 (u8s TcK3d6f)), (0, k20n), (1, k137n)]⟩
def TcE87v0P : List Pur := [⟨184, [k228n], .bool true⟩, ⟨184, [.agg [.str TcK6d81, .str [262]]], .bool true⟩, ⟨184, [.agg [.str TcK66a8, .str [263, 264]]], .bool true⟩, ⟨184, [.agg [.str TcK8148, k96n]], .bool true⟩]
def TcE87v0F : Facts := ⟨[(0, 59), (1, 30), (1, 30), (1, 60), (48, 57), (48, 57), (48, 57), (48, 57), (48, 57), (48, 57), (48, 57), (48, 57), (48, 57)], [], [], [], [], [], [], []⟩
theorem TcE87v0R : Sr TcE87 TcE87v0F [] TcE87v0P = true := by kernel_rfl
theorem TcE87_ok (x0 x1 x2 x3 x4 x5 x6 x7 x8 x9 x10 x11 x12 : Int) (b : Gs [(0, 59), (1, 30), (1, 30), (1, 60), (48, 57), (48, 57), (48, 57), (48, 57), (48, 57), (48, 57), (48, 57), (48, 57), (48, 57)] [x0, x1, x2, x3, x4, x5, x6, x7, x8, x9, x10, x11, x12] := by simp only [Gs, and_true]; omega) : TcE87.Ok Tryz.prog (sgl [x0, x1, x2, x3, x4, x5, x6, x7, x8, x9, x10, x11, x12]) := by
  have bb := b
  simp only [Gs, and_true] at bb
  exact sm_signs (F := TcE87v0F) (us := []) (ps := TcE87v0P) (l := [x0, x1, x2, x3, x4, x5, x6, x7, x8, x9, x10, x11, x12]) ⟨b, an, an, an, an, an, an, an⟩ an (al (pz (TcE14_ok x4 x5) k245n) (al (pz (TcE86_ok x6) [.s 6]) (al (pz (TcE18_ok x7 x8) [.s 7, .s 8]) (al (pz (TcE20_ok x9 x10 x11 x12) k262n) an)))) 13 (by simp) TcE87v0R (by kernel_rfl)
def TcE88 (n : Nat) : Sm := ⟨102, [k258n], 0, [], .bool true, n, []⟩
def TcE88v0F : Facts := ⟨[(48, 57)], [], [], [], [], [], [], []⟩
theorem TcE88v0R : ∃ n, smOk (TcE88 n) (callS TcE88v0F [] [] 102 [k258n] (mkSt [] 0)) = true := by
  exact ⟨match (callS TcE88v0F [] [] 102 [k258n] (mkSt [] 0)) with | some r => r.2.next | none => 0, by kernel_rfl⟩
theorem TcE88_ok (x0 : Int) (b : Gs [(48, 57)] [x0] := by simp only [Gs, and_true]; omega) : ∃ n, (TcE88 n).Ok Tryz.prog (sgl [x0]) := by
  have bb := b
  simp only [Gs, and_true] at bb
  obtain ⟨n, hn⟩ := TcE88v0R
  exact ⟨n, sm_signs (F := TcE88v0F) (us := []) (ps := []) (l := [x0]) ⟨b, an, an, an, an, an, an, an⟩ an an 1 (by simp) hn (by kernel_rfl)⟩
def TcE89 : Sm := ⟨38, [.sl 0 0 109 1], 1, [(0, .cells (u8s TcK3d6f))], k41n, 15, [(14, k137n), (6, k20n), (0, .cells (u8s TcK3d6f))]⟩
def TcE89v0P : List Pur := [⟨81, [.str TcKb987], .bool true⟩, ⟨102, [.str TcK6b58], .bool true⟩, ⟨81, [.str TcK6d81], .bool true⟩, ⟨102, [.str [262]], .bool true⟩, ⟨81, [.str TcK66a8], .bool true⟩, ⟨102, [.str [263, 264]], .bool true⟩, ⟨81, [.str TcK8148], .bool true⟩, ⟨102, [k96n], .bool true⟩]
def TcE89v0F (d0 : Bool) : Facts := ⟨[(0, 59), (1, 30), (1, 30), (1, 60), (48, 57), (48, 57), (48, 57), (48, 57), (48, 57), (48, 57), (48, 57), (48, 57), (48, 57)], t3 0 (t3 1 (t3 2 (t3 3 ([])))), [], [⟨.s 0, .c (0), d0⟩], [], [], [], []⟩
theorem TcE89v0R : ∀ d0, Sr TcE89 (TcE89v0F d0) [] TcE89v0P = true := by intro d0; cases d0 <;> kernel_rfl
theorem TcE89_ok (x0 x1 x2 x3 x4 x5 x6 x7 x8 x9 x10 x11 x12 : Int) (b : Gs [(0, 59), (1, 30), (1, 30), (1, 60), (48, 57), (48, 57), (48, 57), (48, 57), (48, 57), (48, 57), (48, 57), (48, 57), (48, 57)] [x0, x1, x2, x3, x4, x5, x6, x7, x8, x9, x10, x11, x12] := by simp only [Gs, and_true]; omega) : TcE89.Ok Tryz.prog (sgl [x0, x1, x2, x3, x4, x5, x6, x7, x8, x9, x10, x11, x12]) := by
  have bb := b
  simp only [Gs, and_true] at bb
  exact sm_signs (F := (TcE89v0F (decide (x0 = (0))))) (us := []) (ps := TcE89v0P) (l := [x0, x1, x2, x3, x4, x5, x6, x7, x8, x9, x10, x11, x12]) ⟨b, (a3 x0 (a3 x1 (a3 x2 (a3 x3 an)))), an, (al rfl an), an, an, an, an⟩ an (al (pz (TcE22_ok) []) (al (pz (TcE23_ok x4 x5) k245n) (al (pz (TcE24_ok) []) (al (pz (TcE88_ok x6) [.s 6]) (al (pz (TcE26_ok) []) (al (pz (TcE25_ok x7 x8) [.s 7, .s 8]) (al (pz (TcE27_ok) []) (al (pz (TcE28_ok x9 x10 x11 x12) k262n) an)))))))) 13 (by simp) (TcE89v0R (decide (x0 = (0)))) (by kernel_rfl)
def TcE90 : Sm := ⟨173, [.sl 0 0 1 5], 1, [(0, k42n)], .sl 5 0 4 2, 6, [(5, .cells [.str TcKb987, .str TcK2e14, .str TcK6d81, .str [260], .str TcK66a8, k223n, .str TcK8148, k97n]), (0, k42n)]⟩
def TcE90v0P : List Pur := [⟨95, [.sint .i64 0], .str [259]⟩, ⟨95, [.sint .i64 1], .str [260]⟩, ⟨95, [.sint .i64 2], k223n⟩, ⟨226, [.sint .i64 7, .sint .i64 0], .sflt 12⟩, ⟨225, [.sflt 12], k97n⟩]
def TcE90v0F : Facts := ⟨[(1, 30), (1, 30), (1, 60), (48, 57), (48, 57), (49, 57), (48, 57), (-29, 29), (48, 49), (48, 57), (48, 57), (48, 57), (0, 9218868437227405312)], [⟨.sub, .i64, .s 0, .s 1, .s 7⟩], [], [], [], [], [], []⟩
theorem TcE90v0R : Sr TcE90 TcE90v0F [] TcE90v0P = true := by kernel_rfl
theorem TcE90_ok (x0 x1 x2 x3 x4 x5 x6 x7 x8 x9 x10 x11 : Int) (b : Gs [(1, 30), (1, 30), (1, 60)] [x0, x1, x2] := by simp only [Gs, and_true]; omega) (h3 : x3 = (48) + x0 := by omega) (h4 : x4 = (48) + x1 := by omega) (h5 : x5 = (48) + x2 / 10 := by omega) (h6 : x6 = (48) + x2 % 10 := by omega) (h7 : x7 = x0 + (-1) * x1 := by omega) (s8 : IsSh x7 x0 x8 x9 x10 x11 := by assumption) (r0 : 0 ≤ x0 ∧ x0 ≤ 9 := by omega) (r1 : 0 ≤ x1 ∧ x1 ≤ 9 := by omega) (r2 : 10 ≤ x2 ∧ x2 ≤ 99 := by omega) (r3 : (0 ≤ x7 ∧ x7 ≤ x0) ∧ (1 ≤ x0 ∧ x0 ≤ 30) := by omega) (r4 : (-29 : Int) ≤ x7 ∧ x7 ≤ 29 := by omega) : TcE90.Ok Tryz.prog (sgl [x0, x1, x2, x3, x4, x5, x6, x7, x8, x9, x10, x11]) := by
  have bb := b
  simp only [Gs, and_true] at bb
  obtain ⟨y12, h12⟩ := ex (shC x7 x0)
  have d8 := s8.bd
  have d12 := shC_bd x7 x0
  exact sm_signs (F := TcE90v0F) (us := []) (ps := TcE90v0P) (l := [x0, x1, x2, x3, x4, x5, x6, x7, x8, x9, x10, x11, y12]) ⟨gc (gc (gc (gc (gc (gc (gc (gc (gc (gc (gc (gc (gc trivial)))))))))))), (al (fS x0 x1 x7) an), an, an, an, an, an, an⟩ an (al (pz (dg1 x0 x3) [.s 0, .s 3]) (al (pz (dg1 x1 x4) [.s 1, .s 4]) (al (pz (dg2 x2 x5 x6) [.s 2, .s 5, .s 6]) (al (pz (of0 x7 x0 y12) [.s 7, .s 0, .s 12]) (al (pz (tx0 y12 x8 x9 x10 x11 x7 x0) [.s 12, .s 8, .s 9, .s 10, .s 11]) an))))) 12 (by simp) TcE90v0R (by kernel_rfl)
def TcE91 : Sm := ⟨85, [k55n], 2, [(0, k20n), (1, k139n)], k275n, 73, [(72, .typ false 5 (u8s TcK620f)), (0, k20n), (1, k139n)]⟩
def TcE91v0P : List Pur := [⟨184, [.agg [.str TcKb987, .str TcK5c40]], .bool true⟩, ⟨184, [.agg [.str TcK6d81, k257n]], .bool true⟩, ⟨184, [.agg [.str TcK66a8, k248n]], .bool true⟩, ⟨184, [.agg [.str TcK8148, k97n]], .bool true⟩]
def TcE91v0F : Facts := ⟨[(0, 59), (1, 30), (1, 30), (1, 60), (48, 57), (48, 57), (48, 57), (48, 57), (48, 57), (48, 57), (48, 57), (48, 57)], [], [], [], [], [], [], []⟩
theorem TcE91v0R : Sr TcE91 TcE91v0F [] TcE91v0P = true := by kernel_rfl
theorem TcE91_ok (x0 x1 x2 x3 x4 x5 x6 x7 x8 x9 x10 x11 : Int) (b : Gs [(0, 59), (1, 30), (1, 30), (1, 60), (48, 57), (48, 57), (48, 57), (48, 57), (48, 57), (48, 57), (48, 57), (48, 57)] [x0, x1, x2, x3, x4, x5, x6, x7, x8, x9, x10, x11] := by simp only [Gs, and_true]; omega) : TcE91.Ok Tryz.prog (sgl [x0, x1, x2, x3, x4, x5, x6, x7, x8, x9, x10, x11]) := by
  have bb := b
  simp only [Gs, and_true] at bb
  exact sm_signs (F := TcE91v0F) (us := []) (ps := TcE91v0P) (l := [x0, x1, x2, x3, x4, x5, x6, x7, x8, x9, x10, x11]) ⟨b, an, an, an, an, an, an, an⟩ an (al (pz (TcE32_ok x4) [.s 4]) (al (pz (TcE86_ok x5) [.s 5]) (al (pz (TcE18_ok x6 x7) [.s 6, .s 7]) (al (pz (TcE20_ok x8 x9 x10 x11) k277n) an)))) 12 (by simp) TcE91v0R (by kernel_rfl)
end
end Go.Proofs.YtnpkeganpkobjaaGreatDoor.Ev
