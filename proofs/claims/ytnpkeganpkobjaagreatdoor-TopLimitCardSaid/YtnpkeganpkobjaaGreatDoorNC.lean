import Derived.Test.YtnpkeganpkobjaaGreatDoorNB
import Derived.Test.YtnpkeganpkobjaaGreatDoorCK
set_option linter.all false
namespace Go.Proofs.YtnpkeganpkobjaaGreatDoor.Ev
set_option maxRecDepth 100000
set_option maxHeartbeats 4000000
open Go Go.RowKit
variable {W0 : World}
noncomputable section
def YTLb2U : List Use := [⟨TpE28, 26, [], [.s 12, .s 14, .s 15, .s 16, .s 17]⟩, ⟨TpE30, 49, [46], [.s 17, .s 15, .s 18]⟩, ⟨TpE38, 300, [290, 295, 297], [.s 18]⟩]
def YTLb2P : List Pur := []
def YTLb2F : Facts := ⟨[(0, 30), (0, 30), (0, 59), (0, 2), (0, 60), (0, 60), (0, 60), (0, 59), (4602678819172646912, 4605380978949069210), (1, 2), (0, 60), (0, 30), (10, 30), (0, 59), (0, 9), (48, 57), (1, 3), (49, 51), (10, 39), (4611686018427387845, 4611686018427387904)], [⟨.sub, .i64, .c (4611686018427387904), .s 13, .s 19⟩, ⟨.add, .i64, .c (0), .s 13, .s 13⟩], [], [], [], [], [], []⟩
def YTLb2 (m : Nat) : Pc := ⟨133, [(0, .sint .i64 11), (1, .sint .i64 12), (2, .sint .i64 10), (4, .sint .i64 13), (11, .ptr 0 0), (12, .ptr 22 0), (13, .int .i64 0)], 26, [(0, k130n), (1, k37n), (6, k192n), (7, k22n), (8, k113n), (15, .smap), (17, k155n), (18, .map (mkL m))], .norm, [(0, .sint .i64 11), (1, .sint .i64 12), (2, .sint .i64 10), (4, .sint .i64 13), (11, .ptr 0 0), (12, .ptr 22 0), (13, .int .i64 0)], 331, [(0, k89n), (1, k34n), (290, k204n), (295, k78n), (303, k115n), (6, k192n), (7, k22n), (8, k113n), (297, k18n), (309, k78n), (306, k172n), (301, k60n), (302, k25n), (15, .smap), (17, k155n), (18, k90n)]⟩
theorem YTLb2R : ∀ m, m < 2 → pcOk (YTLb2 m) (exec (env YTLb2F.sg) (callS YTLb2F YTLb2U YTLb2P) 1000 tailC (fr (YTLb2 m).n (YTLb2 m).f0) (mkSt (YTLb2 m).h0 (YTLb2 m).n0)) = true := p2 (by kernel_rfl) (by kernel_rfl)
theorem YTLb2_ok (m : Nat) (hm : m < 2) {t t' : Tm} (hck : (partOk (YTLb2 m) (t.ren qL) && (has (mkH t.h0 .e) t.h0 && pickOk ((YTLb2 m).full (t.ren qL)) TpK0d25 k101n t')) = true) (x0 x1 x2 x3 x4 x5 x6 x7 x8 x9 x10 x11 x12 x13 : Int) (b : Gs [(0, 30), (0, 30), (0, 59), (0, 2), (0, 60), (0, 60), (0, 60), (0, 59), (4602678819172646912, 4605380978949069210), (1, 2), (0, 60), (0, 30), (10, 30), (0, 59)] [x0, x1, x2, x3, x4, x5, x6, x7, x8, x9, x10, x11, x12, x13]) (n8 : Nr x8) {ρ : Rho} {a : Act} {W : World} {R : Exit → Act → World → Prop} (ha : t.At W0 (sgl [x0, x1, x2, x3, x4, x5, x6, 0, x8, 1, x10, x11, x12, x13]) ρ a W) (hR : ∀ ρ' a' W', t'.At W0 (sgl [x12, x1, x2, x3, x4, x5, x6, x13, 4602678819172646912, 2, x10, x11, x12, x13]) ρ' a' W' → R (toExit .norm) a' W') : tailC.wp Tryz.prog R a W := by
  obtain ⟨h1, h2, h3⟩ := and3 hck
  have bb := b
  simp only [Gs, and_true] at bb
  obtain ⟨y14, h14⟩ := ex (x12 % (10))
  obtain ⟨y15, h15⟩ := ex ((48) + y14)
  obtain ⟨y16, h16⟩ := ex (x12 / (10))
  obtain ⟨y17, h17⟩ := ex ((48) + y16)
  obtain ⟨y18, h18⟩ := ex (y14 + (10) * y16)
  obtain ⟨y19, h19⟩ := ex ((4611686018427387904) + (-1) * x13)
  refine pc_part (W0 := W0) (ρ := ρ) (F := YTLb2F) (us := YTLb2U) (ps := YTLb2P) (l := [x0, x1, x2, x3, x4, x5, x6, x7, x8, x9, x10, x11, x12, x13, y14, y15, y16, y17, y18, y19]) (e := (YTLb2 m)) (P := TpK0d25) (Q := k101n) ⟨gc (gc (gc (gc (gc (gc (gc (gc (gc (gc (gc (gc (gc (gc (gc (gc (gc (gc (gc (gc trivial))))))))))))))))))), (al (fS (4611686018427387904) x13 y19) (al (fA (0) x13 x13) an)), an, an, an, an, an, an⟩ (al (ue (TpE28_ok x12 y14 y15 y16 y17)) (al (ue (TpE30_ok y17 y15 y18)) (al (ue (TpE38_ok y18)) an))) an (YTLb2R m hm) h1 h3 (Tm.At.ren (Q := qL) ?_ h2) ?_
  · exact ha
  intro ρ' a' W' h
  have e18 : y18 = x12 := by omega
  subst e18
  exact hR ρ' a' W' h
def YTLb1U : List Use := [⟨TpE39, 26, [], [.s 12, .s 12, .s 14]⟩, ⟨TpE40, 49, [46], [.s 14, .s 12]⟩, ⟨TpE41, 300, [290, 295, 297], [.s 12]⟩]
def YTLb1P : List Pur := []
def YTLb1F : Facts := ⟨[(0, 30), (0, 30), (0, 59), (0, 2), (0, 60), (0, 60), (0, 60), (0, 59), (4602678819172646912, 4605380978949069210), (1, 2), (0, 60), (0, 30), (1, 9), (0, 59), (49, 57), (4611686018427387845, 4611686018427387904)], [⟨.sub, .i64, .c (4611686018427387904), .s 13, .s 15⟩, ⟨.add, .i64, .c (0), .s 13, .s 13⟩], [], [], [], [], [], []⟩
def YTLb1 (m : Nat) : Pc := ⟨133, [(0, .sint .i64 11), (1, .sint .i64 12), (2, .sint .i64 10), (4, .sint .i64 13), (11, .ptr 0 0), (12, .ptr 22 0), (13, .int .i64 0)], 26, [(0, k130n), (1, k37n), (6, k192n), (7, k22n), (8, k113n), (15, .smap), (17, k155n), (18, .map (mkL m))], .norm, [(0, .sint .i64 11), (1, .sint .i64 12), (2, .sint .i64 10), (4, .sint .i64 13), (11, .ptr 0 0), (12, .ptr 22 0), (13, .int .i64 0)], 331, [(0, k89n), (1, k34n), (290, k204n), (295, k79n), (303, k115n), (6, k192n), (7, k22n), (8, k113n), (297, k18n), (309, k79n), (306, k172n), (301, k60n), (302, k25n), (15, .smap), (17, k155n), (18, k90n)]⟩
theorem YTLb1R : ∀ m, m < 2 → pcOk (YTLb1 m) (exec (env YTLb1F.sg) (callS YTLb1F YTLb1U YTLb1P) 1000 tailC (fr (YTLb1 m).n (YTLb1 m).f0) (mkSt (YTLb1 m).h0 (YTLb1 m).n0)) = true := p2 (by kernel_rfl) (by kernel_rfl)
theorem YTLb1_ok (m : Nat) (hm : m < 2) {t t' : Tm} (hck : (partOk (YTLb1 m) (t.ren qL) && (has (mkH t.h0 .e) t.h0 && pickOk ((YTLb1 m).full (t.ren qL)) TpK0d25 k102n t')) = true) (x0 x1 x2 x3 x4 x5 x6 x7 x8 x9 x10 x11 x12 x13 : Int) (b : Gs [(0, 30), (0, 30), (0, 59), (0, 2), (0, 60), (0, 60), (0, 60), (0, 59), (4602678819172646912, 4605380978949069210), (1, 2), (0, 60), (0, 30), (1, 9), (0, 59)] [x0, x1, x2, x3, x4, x5, x6, x7, x8, x9, x10, x11, x12, x13]) (n8 : Nr x8) {ρ : Rho} {a : Act} {W : World} {R : Exit → Act → World → Prop} (ha : t.At W0 (sgl [x0, x1, x2, x3, x4, x5, x6, 0, x8, 1, x10, x11, x12, x13]) ρ a W) (hR : ∀ ρ' a' W', t'.At W0 (sgl [x12, x1, x2, x3, x4, x5, x6, x13, 4602678819172646912, 2, x10, x11, x12, x13]) ρ' a' W' → R (toExit .norm) a' W') : tailC.wp Tryz.prog R a W := by
  obtain ⟨h1, h2, h3⟩ := and3 hck
  have bb := b
  simp only [Gs, and_true] at bb
  obtain ⟨y14, h14⟩ := ex ((48) + x12)
  obtain ⟨y15, h15⟩ := ex ((4611686018427387904) + (-1) * x13)
  refine pc_part (W0 := W0) (ρ := ρ) (F := YTLb1F) (us := YTLb1U) (ps := YTLb1P) (l := [x0, x1, x2, x3, x4, x5, x6, x7, x8, x9, x10, x11, x12, x13, y14, y15]) (e := (YTLb1 m)) (P := TpK0d25) (Q := k102n) ⟨gc (gc (gc (gc (gc (gc (gc (gc (gc (gc (gc (gc (gc (gc (gc (gc trivial))))))))))))))), (al (fS (4611686018427387904) x13 y15) (al (fA (0) x13 x13) an)), an, an, an, an, an, an⟩ (al (ue (TpE39_ok x12 x12 y14)) (al (ue (TpE40_ok y14 x12)) (al (ue (TpE41_ok x12)) an))) an (YTLb1R m hm) h1 h3 (Tm.At.ren (Q := qL) ?_ h2) ?_
  · exact ha
  intro ρ' a' W' h
  exact hR ρ' a' W' h
def YTLb0U : List Use := [⟨TpE42, 26, [], []⟩, ⟨TpE43, 49, [46], []⟩, ⟨TpE44, 300, [290, 295, 297], []⟩]
def YTLb0P : List Pur := []
def YTLb0F : Facts := ⟨[(0, 30), (0, 30), (0, 59), (0, 2), (0, 60), (0, 60), (0, 60), (0, 59), (4602678819172646912, 4605380978949069210), (1, 2), (0, 60), (0, 30), (0, 0), (0, 59), (4611686018427387845, 4611686018427387904)], [⟨.sub, .i64, .c (4611686018427387904), .s 13, .s 14⟩, ⟨.add, .i64, .c (0), .s 13, .s 13⟩], [], [], [], [], [], []⟩
def YTLb0 (m : Nat) : Pc := ⟨133, [(0, .sint .i64 11), (1, .int .i64 0), (2, .sint .i64 10), (4, .sint .i64 13), (11, .ptr 0 0), (12, .ptr 22 0), (13, .int .i64 0)], 26, [(0, k130n), (1, k37n), (6, k192n), (7, k22n), (8, k113n), (15, .smap), (17, k155n), (18, .map (mkL m))], .norm, [(0, .sint .i64 11), (1, .int .i64 0), (2, .sint .i64 10), (4, .sint .i64 13), (11, .ptr 0 0), (12, .ptr 22 0), (13, .int .i64 0)], 331, [(0, k89n), (1, k34n), (290, k204n), (295, k28n), (303, k115n), (6, k192n), (7, k22n), (8, k113n), (297, k18n), (309, k28n), (306, k172n), (301, k60n), (302, k25n), (15, .smap), (17, k155n), (18, k90n)]⟩
theorem YTLb0R : ∀ m, m < 2 → pcOk (YTLb0 m) (exec (env YTLb0F.sg) (callS YTLb0F YTLb0U YTLb0P) 1000 tailC (fr (YTLb0 m).n (YTLb0 m).f0) (mkSt (YTLb0 m).h0 (YTLb0 m).n0)) = true := p2 (by kernel_rfl) (by kernel_rfl)
theorem YTLb0_ok (m : Nat) (hm : m < 2) {t t' : Tm} (hck : (partOk (YTLb0 m) (t.ren qL0) && (has (mkH t.h0 .e) t.h0 && pickOk ((YTLb0 m).full (t.ren qL0)) TpK0d25 k98n t')) = true) (x0 x1 x2 x3 x4 x5 x6 x7 x8 x9 x10 x11 x12 x13 : Int) (b : Gs [(0, 30), (0, 30), (0, 59), (0, 2), (0, 60), (0, 60), (0, 60), (0, 59), (4602678819172646912, 4605380978949069210), (1, 2), (0, 60), (0, 30), (0, 0), (0, 59)] [x0, x1, x2, x3, x4, x5, x6, x7, x8, x9, x10, x11, x12, x13]) (n8 : Nr x8) {ρ : Rho} {a : Act} {W : World} {R : Exit → Act → World → Prop} (ha : t.At W0 (sgl [x0, x1, x2, x3, x4, x5, x6, 0, x8, 1, x10, x11, 0, x13]) ρ a W) (hR : ∀ ρ' a' W', t'.At W0 (sgl [0, x1, x2, x3, x4, x5, x6, x13, 4602678819172646912, 2, x10, x11, 0, x13]) ρ' a' W' → R (toExit .norm) a' W') : tailC.wp Tryz.prog R a W := by
  obtain ⟨h1, h2, h3⟩ := and3 hck
  have bb := b
  simp only [Gs, and_true] at bb
  obtain ⟨y14, h14⟩ := ex ((4611686018427387904) + (-1) * x13)
  refine pc_part (W0 := W0) (ρ := ρ) (F := YTLb0F) (us := YTLb0U) (ps := YTLb0P) (l := [x0, x1, x2, x3, x4, x5, x6, x7, x8, x9, x10, x11, x12, x13, y14]) (e := (YTLb0 m)) (P := TpK0d25) (Q := k98n) ⟨gc (gc (gc (gc (gc (gc (gc (gc (gc (gc (gc (gc (gc (gc (gc trivial)))))))))))))), (al (fS (4611686018427387904) x13 y14) (al (fA (0) x13 x13) an)), an, an, an, an, an, an⟩ (al (ue (TpE42_ok)) (al (ue (TpE43_ok)) (al (ue (TpE44_ok)) an))) an (YTLb0R m hm) h1 h3 (Tm.At.ren (Q := qL0) ?_ h2) ?_
  · exact ha
  intro ρ' a' W' h
  exact hR ρ' a' W' h
def YTLe2U : List Use := [⟨TpE28, 26, [], [.s 12, .s 14, .s 15, .s 16, .s 17]⟩, ⟨TpE30, 49, [46], [.s 17, .s 15, .s 18]⟩, ⟨TpE38, 300, [290, 295, 297], [.s 18]⟩]
def YTLe2P : List Pur := []
def YTLe2F : Facts := ⟨[(0, 30), (0, 30), (0, 59), (0, 2), (0, 60), (0, 60), (0, 60), (0, 59), (4602678819172646912, 4605380978949069210), (1, 2), (0, 60), (0, 30), (10, 30), (0, 59), (0, 9), (48, 57), (1, 3), (49, 51), (10, 39), (4611686018427387845, 4611686018427387904)], [⟨.sub, .i64, .c (4611686018427387904), .s 13, .s 19⟩, ⟨.add, .i64, .c (0), .s 13, .s 13⟩], [], [], [], [], [], []⟩
def YTLe2 (m : Nat) : Pc := ⟨133, [(0, .sint .i64 11), (1, .sint .i64 12), (2, .sint .i64 10), (4, .sint .i64 13), (11, .ptr 0 0), (12, .ptr 22 0), (13, .int .i64 0)], 26, [(0, k130n), (1, k37n), (6, k192n), (7, k22n), (8, k113n), (15, .smap), (17, k134n), (18, .map (mkL m)), (23, k88n), (24, .cells [.str TpK1ab9, .int .i64 60, .int .i64 0])], .norm, [(0, .sint .i64 11), (1, .sint .i64 12), (2, .sint .i64 10), (4, .sint .i64 13), (11, .ptr 0 0), (12, .ptr 22 0), (13, .int .i64 0)], 331, [(0, k89n), (1, k34n), (290, k204n), (295, k78n), (303, k115n), (6, k192n), (7, k22n), (8, k113n), (297, k18n), (309, k78n), (306, k172n), (301, k60n), (302, k25n), (15, .smap), (17, k134n), (18, k90n), (23, k88n), (24, .cells [.str TpK1ab9, .int .i64 60, .int .i64 0])]⟩
theorem YTLe2R : ∀ m, m < 2 → pcOk (YTLe2 m) (exec (env YTLe2F.sg) (callS YTLe2F YTLe2U YTLe2P) 1000 tailC (fr (YTLe2 m).n (YTLe2 m).f0) (mkSt (YTLe2 m).h0 (YTLe2 m).n0)) = true := p2 (by kernel_rfl) (by kernel_rfl)
theorem YTLe2_ok (m : Nat) (hm : m < 2) {t t' : Tm} (hck : (partOk (YTLe2 m) (t.ren qL) && (has (mkH t.h0 .e) t.h0 && pickOk ((YTLe2 m).full (t.ren qL)) TpK0d25 k101n t')) = true) (x0 x1 x2 x3 x4 x5 x6 x7 x8 x9 x10 x11 x12 x13 : Int) (b : Gs [(0, 30), (0, 30), (0, 59), (0, 2), (0, 60), (0, 60), (0, 60), (0, 59), (4602678819172646912, 4605380978949069210), (1, 2), (0, 60), (0, 30), (10, 30), (0, 59)] [x0, x1, x2, x3, x4, x5, x6, x7, x8, x9, x10, x11, x12, x13]) (n8 : Nr x8) {ρ : Rho} {a : Act} {W : World} {R : Exit → Act → World → Prop} (ha : t.At W0 (sgl [x0, x1, x2, x3, x4, x5, x6, 0, x8, 1, x10, x11, x12, x13]) ρ a W) (hR : ∀ ρ' a' W', t'.At W0 (sgl [x12, x1, x2, x3, x4, x5, x6, x13, 4602678819172646912, 2, x10, x11, x12, x13]) ρ' a' W' → R (toExit .norm) a' W') : tailC.wp Tryz.prog R a W := by
  obtain ⟨h1, h2, h3⟩ := and3 hck
  have bb := b
  simp only [Gs, and_true] at bb
  obtain ⟨y14, h14⟩ := ex (x12 % (10))
  obtain ⟨y15, h15⟩ := ex ((48) + y14)
  obtain ⟨y16, h16⟩ := ex (x12 / (10))
  obtain ⟨y17, h17⟩ := ex ((48) + y16)
  obtain ⟨y18, h18⟩ := ex (y14 + (10) * y16)
  obtain ⟨y19, h19⟩ := ex ((4611686018427387904) + (-1) * x13)
  refine pc_part (W0 := W0) (ρ := ρ) (F := YTLe2F) (us := YTLe2U) (ps := YTLe2P) (l := [x0, x1, x2, x3, x4, x5, x6, x7, x8, x9, x10, x11, x12, x13, y14, y15, y16, y17, y18, y19]) (e := (YTLe2 m)) (P := TpK0d25) (Q := k101n) ⟨gc (gc (gc (gc (gc (gc (gc (gc (gc (gc (gc (gc (gc (gc (gc (gc (gc (gc (gc (gc trivial))))))))))))))))))), (al (fS (4611686018427387904) x13 y19) (al (fA (0) x13 x13) an)), an, an, an, an, an, an⟩ (al (ue (TpE28_ok x12 y14 y15 y16 y17)) (al (ue (TpE30_ok y17 y15 y18)) (al (ue (TpE38_ok y18)) an))) an (YTLe2R m hm) h1 h3 (Tm.At.ren (Q := qL) ?_ h2) ?_
  · exact ha
  intro ρ' a' W' h
  have e18 : y18 = x12 := by omega
  subst e18
  exact hR ρ' a' W' h
def YTLe1U : List Use := [⟨TpE39, 26, [], [.s 12, .s 12, .s 14]⟩, ⟨TpE40, 49, [46], [.s 14, .s 12]⟩, ⟨TpE41, 300, [290, 295, 297], [.s 12]⟩]
def YTLe1P : List Pur := []
def YTLe1F : Facts := ⟨[(0, 30), (0, 30), (0, 59), (0, 2), (0, 60), (0, 60), (0, 60), (0, 59), (4602678819172646912, 4605380978949069210), (1, 2), (0, 60), (0, 30), (1, 9), (0, 59), (49, 57), (4611686018427387845, 4611686018427387904)], [⟨.sub, .i64, .c (4611686018427387904), .s 13, .s 15⟩, ⟨.add, .i64, .c (0), .s 13, .s 13⟩], [], [], [], [], [], []⟩
def YTLe1 (m : Nat) : Pc := ⟨133, [(0, .sint .i64 11), (1, .sint .i64 12), (2, .sint .i64 10), (4, .sint .i64 13), (11, .ptr 0 0), (12, .ptr 22 0), (13, .int .i64 0)], 26, [(0, k130n), (1, k37n), (6, k192n), (7, k22n), (8, k113n), (15, .smap), (17, k134n), (18, .map (mkL m)), (23, k88n), (24, .cells [.str TpK1ab9, .int .i64 60, .int .i64 0])], .norm, [(0, .sint .i64 11), (1, .sint .i64 12), (2, .sint .i64 10), (4, .sint .i64 13), (11, .ptr 0 0), (12, .ptr 22 0), (13, .int .i64 0)], 331, [(0, k89n), (1, k34n), (290, k204n), (295, k79n), (303, k115n), (6, k192n), (7, k22n), (8, k113n), (297, k18n), (309, k79n), (306, k172n), (301, k60n), (302, k25n), (15, .smap), (17, k134n), (18, k90n), (23, k88n), (24, .cells [.str TpK1ab9, .int .i64 60, .int .i64 0])]⟩
theorem YTLe1R : ∀ m, m < 2 → pcOk (YTLe1 m) (exec (env YTLe1F.sg) (callS YTLe1F YTLe1U YTLe1P) 1000 tailC (fr (YTLe1 m).n (YTLe1 m).f0) (mkSt (YTLe1 m).h0 (YTLe1 m).n0)) = true := p2 (by kernel_rfl) (by kernel_rfl)
theorem YTLe1_ok (m : Nat) (hm : m < 2) {t t' : Tm} (hck : (partOk (YTLe1 m) (t.ren qL) && (has (mkH t.h0 .e) t.h0 && pickOk ((YTLe1 m).full (t.ren qL)) TpK0d25 k102n t')) = true) (x0 x1 x2 x3 x4 x5 x6 x7 x8 x9 x10 x11 x12 x13 : Int) (b : Gs [(0, 30), (0, 30), (0, 59), (0, 2), (0, 60), (0, 60), (0, 60), (0, 59), (4602678819172646912, 4605380978949069210), (1, 2), (0, 60), (0, 30), (1, 9), (0, 59)] [x0, x1, x2, x3, x4, x5, x6, x7, x8, x9, x10, x11, x12, x13]) (n8 : Nr x8) {ρ : Rho} {a : Act} {W : World} {R : Exit → Act → World → Prop} (ha : t.At W0 (sgl [x0, x1, x2, x3, x4, x5, x6, 0, x8, 1, x10, x11, x12, x13]) ρ a W) (hR : ∀ ρ' a' W', t'.At W0 (sgl [x12, x1, x2, x3, x4, x5, x6, x13, 4602678819172646912, 2, x10, x11, x12, x13]) ρ' a' W' → R (toExit .norm) a' W') : tailC.wp Tryz.prog R a W := by
  obtain ⟨h1, h2, h3⟩ := and3 hck
  have bb := b
  simp only [Gs, and_true] at bb
  obtain ⟨y14, h14⟩ := ex ((48) + x12)
  obtain ⟨y15, h15⟩ := ex ((4611686018427387904) + (-1) * x13)
  refine pc_part (W0 := W0) (ρ := ρ) (F := YTLe1F) (us := YTLe1U) (ps := YTLe1P) (l := [x0, x1, x2, x3, x4, x5, x6, x7, x8, x9, x10, x11, x12, x13, y14, y15]) (e := (YTLe1 m)) (P := TpK0d25) (Q := k102n) ⟨gc (gc (gc (gc (gc (gc (gc (gc (gc (gc (gc (gc (gc (gc (gc (gc trivial))))))))))))))), (al (fS (4611686018427387904) x13 y15) (al (fA (0) x13 x13) an)), an, an, an, an, an, an⟩ (al (ue (TpE39_ok x12 x12 y14)) (al (ue (TpE40_ok y14 x12)) (al (ue (TpE41_ok x12)) an))) an (YTLe1R m hm) h1 h3 (Tm.At.ren (Q := qL) ?_ h2) ?_
  · exact ha
  intro ρ' a' W' h
  exact hR ρ' a' W' h
def YTLe0U : List Use := [⟨TpE42, 26, [], []⟩, ⟨TpE43, 49, [46], []⟩, ⟨TpE44, 300, [290, 295, 297], []⟩]
def YTLe0P : List Pur := []
def YTLe0F : Facts := ⟨[(0, 30), (0, 30), (0, 59), (0, 2), (0, 60), (0, 60), (0, 60), (0, 59), (4602678819172646912, 4605380978949069210), (1, 2), (0, 60), (0, 30), (0, 0), (0, 59), (4611686018427387845, 4611686018427387904)], [⟨.sub, .i64, .c (4611686018427387904), .s 13, .s 14⟩, ⟨.add, .i64, .c (0), .s 13, .s 13⟩], [], [], [], [], [], []⟩
def YTLe0 (m : Nat) : Pc := ⟨133, [(0, .sint .i64 11), (1, .int .i64 0), (2, .sint .i64 10), (4, .sint .i64 13), (11, .ptr 0 0), (12, .ptr 22 0), (13, .int .i64 0)], 26, [(0, k130n), (1, k37n), (6, k192n), (7, k22n), (8, k113n), (15, .smap), (17, k134n), (18, .map (mkL m)), (23, k88n), (24, .cells [.str TpK1ab9, .int .i64 60, .int .i64 0])], .norm, [(0, .sint .i64 11), (1, .int .i64 0), (2, .sint .i64 10), (4, .sint .i64 13), (11, .ptr 0 0), (12, .ptr 22 0), (13, .int .i64 0)], 331, [(0, k89n), (1, k34n), (290, k204n), (295, k28n), (303, k115n), (6, k192n), (7, k22n), (8, k113n), (297, k18n), (309, k28n), (306, k172n), (301, k60n), (302, k25n), (15, .smap), (17, k134n), (18, k90n), (23, k88n), (24, .cells [.str TpK1ab9, .int .i64 60, .int .i64 0])]⟩
theorem YTLe0R : ∀ m, m < 2 → pcOk (YTLe0 m) (exec (env YTLe0F.sg) (callS YTLe0F YTLe0U YTLe0P) 1000 tailC (fr (YTLe0 m).n (YTLe0 m).f0) (mkSt (YTLe0 m).h0 (YTLe0 m).n0)) = true := p2 (by kernel_rfl) (by kernel_rfl)
theorem YTLe0_ok (m : Nat) (hm : m < 2) {t t' : Tm} (hck : (partOk (YTLe0 m) (t.ren qL0) && (has (mkH t.h0 .e) t.h0 && pickOk ((YTLe0 m).full (t.ren qL0)) TpK0d25 k98n t')) = true) (x0 x1 x2 x3 x4 x5 x6 x7 x8 x9 x10 x11 x12 x13 : Int) (b : Gs [(0, 30), (0, 30), (0, 59), (0, 2), (0, 60), (0, 60), (0, 60), (0, 59), (4602678819172646912, 4605380978949069210), (1, 2), (0, 60), (0, 30), (0, 0), (0, 59)] [x0, x1, x2, x3, x4, x5, x6, x7, x8, x9, x10, x11, x12, x13]) (n8 : Nr x8) {ρ : Rho} {a : Act} {W : World} {R : Exit → Act → World → Prop} (ha : t.At W0 (sgl [x0, x1, x2, x3, x4, x5, x6, 0, x8, 1, x10, x11, 0, x13]) ρ a W) (hR : ∀ ρ' a' W', t'.At W0 (sgl [0, x1, x2, x3, x4, x5, x6, x13, 4602678819172646912, 2, x10, x11, 0, x13]) ρ' a' W' → R (toExit .norm) a' W') : tailC.wp Tryz.prog R a W := by
  obtain ⟨h1, h2, h3⟩ := and3 hck
  have bb := b
  simp only [Gs, and_true] at bb
  obtain ⟨y14, h14⟩ := ex ((4611686018427387904) + (-1) * x13)
  refine pc_part (W0 := W0) (ρ := ρ) (F := YTLe0F) (us := YTLe0U) (ps := YTLe0P) (l := [x0, x1, x2, x3, x4, x5, x6, x7, x8, x9, x10, x11, x12, x13, y14]) (e := (YTLe0 m)) (P := TpK0d25) (Q := k98n) ⟨gc (gc (gc (gc (gc (gc (gc (gc (gc (gc (gc (gc (gc (gc (gc trivial)))))))))))))), (al (fS (4611686018427387904) x13 y14) (al (fA (0) x13 x13) an)), an, an, an, an, an, an⟩ (al (ue (TpE42_ok)) (al (ue (TpE43_ok)) (al (ue (TpE44_ok)) an))) an (YTLe0R m hm) h1 h3 (Tm.At.ren (Q := qL0) ?_ h2) ?_
  · exact ha
  intro ρ' a' W' h
  exact hR ρ' a' W' h
def YTSbU : List Use := []
def YTSbP : List Pur := []
def YTSbF : Facts := ⟨[(0, 30), (0, 30), (0, 59), (0, 2), (0, 60), (0, 60), (0, 60), (0, 59), (4602678819172646912, 4605380978949069210), (1, 2), (0, 60), (0, 30), (0, 30), (0, 59), (1, 60), (4611686018427387844, 4611686018427387903)], [⟨.sub, .i64, .c (60), .s 13, .s 14⟩, ⟨.sub, .i64, .c (4611686018427387904), .s 14, .s 15⟩, ⟨.add, .i64, .s 13, .s 14, .c (60)⟩], [], [], [], [], [], []⟩
def YTSb : Pc := ⟨133, [(0, .sint .i64 11), (1, .sint .i64 12), (2, .sint .i64 10), (4, .sint .i64 13), (11, .ptr 0 0), (12, .ptr 22 0), (13, .int .i64 1)], 26, [(0, k89n), (1, k5n), (7, k22n), (16, k69n), (17, k155n), (20, k0n), (21, k90n)], .norm, [(0, .sint .i64 11), (1, .sint .i64 12), (2, .sint .i64 10), (4, .sint .i64 13), (11, .ptr 0 0), (12, .ptr 22 0), (13, .int .i64 1)], 27, [(0, k299n), (1, k5n), (7, k22n), (16, k69n), (17, k155n), (20, k0n), (21, k90n)]⟩
theorem YTSbR : pcOk YTSb (exec (env YTSbF.sg) (callS YTSbF YTSbU YTSbP) 1000 tailC (fr YTSb.n YTSb.f0) (mkSt YTSb.h0 YTSb.n0)) = true := by kernel_rfl
theorem YTSb_ok {t t' : Tm} (hck : (partOk YTSb (t.ren qS) && (has (mkH t.h0 .e) t.h0 && pickOk (YTSb.full (t.ren qS)) TpK9b01 k123n t')) = true) (x0 x1 x2 x3 x4 x5 x6 x7 x8 x9 x10 x11 x12 x13 : Int) (b : Gs [(0, 30), (0, 30), (0, 59), (0, 2), (0, 60), (0, 60), (0, 60), (0, 59), (4602678819172646912, 4605380978949069210), (1, 2), (0, 60), (0, 30), (0, 30), (0, 59)] [x0, x1, x2, x3, x4, x5, x6, x7, x8, x9, x10, x11, x12, x13]) (n8 : Nr x8) {ρ : Rho} {a : Act} {W : World} {R : Exit → Act → World → Prop} (ha : t.At W0 (sgl [x0, x1, x2, x3, x4, x5, x6, x13, x8, x9, x10, x11, x12, x13]) ρ a W) (hR : ∀ ρ' a' W', t'.At W0 (sgl [x0, x1, x2, x3, x4, x5, x6, 60, x8, x9, x10, x11, x12, x13]) ρ' a' W' → R (toExit .norm) a' W') : tailC.wp Tryz.prog R a W := by
  obtain ⟨h1, h2, h3⟩ := and3 hck
  have bb := b
  simp only [Gs, and_true] at bb
  obtain ⟨y14, h14⟩ := ex ((60) + (-1) * x13)
  obtain ⟨y15, h15⟩ := ex ((4611686018427387844) + x13)
  refine pc_part (W0 := W0) (ρ := ρ) (F := YTSbF) (us := YTSbU) (ps := YTSbP) (l := [x0, x1, x2, x3, x4, x5, x6, x7, x8, x9, x10, x11, x12, x13, y14, y15]) (e := YTSb) (P := TpK9b01) (Q := k123n) ⟨gc (gc (gc (gc (gc (gc (gc (gc (gc (gc (gc (gc (gc (gc (gc (gc trivial))))))))))))))), (al (fS (60) x13 y14) (al (fS (4611686018427387904) y14 y15) (al (fA x13 y14 (60)) an))), an, an, an, an, an, an⟩ an an YTSbR h1 h3 (Tm.At.ren (Q := qS) ?_ h2) ?_
  · exact ha
  intro ρ' a' W' h
  exact hR ρ' a' W' h
def YTSeU : List Use := []
def YTSeP : List Pur := [⟨239, [.str TpK1ab9], .int .u64 12469191778965217993⟩]
def YTSeF : Facts := ⟨[(0, 30), (0, 30), (0, 59), (0, 2), (0, 60), (0, 60), (0, 60), (0, 59), (4602678819172646912, 4605380978949069210), (1, 2), (0, 60), (0, 30), (0, 30), (0, 59), (1, 60), (4611686018427387844, 4611686018427387903)], [⟨.sub, .i64, .c (60), .s 13, .s 14⟩, ⟨.sub, .i64, .c (4611686018427387904), .s 14, .s 15⟩, ⟨.add, .i64, .s 13, .s 14, .c (60)⟩], [], [], [], [], [], []⟩
def YTSe : Pc := ⟨133, [(0, .sint .i64 11), (1, .sint .i64 12), (2, .sint .i64 10), (4, .sint .i64 13), (11, .ptr 0 0), (12, .ptr 22 0), (13, .int .i64 1)], 26, [(0, k89n), (1, k5n), (7, k22n), (16, k56n), (17, k134n), (20, .cells [.bool false, k50n, .int .i64 0, .bool true, .str TpK1ab9, .sint .i64 1, .bool false, k50n, .int .i64 0, .bool false, k50n, .int .i64 0, .bool false, k50n, .int .i64 0, .bool false, k50n, .int .i64 0]), (21, .map [(.str TpK1ab9, .ptr 24 0)]), (23, k88n), (24, .cells [.str TpK1ab9, .int .i64 60, .int .i64 0])], .norm, [(0, .sint .i64 11), (1, .sint .i64 12), (2, .sint .i64 10), (4, .sint .i64 13), (11, .ptr 0 0), (12, .ptr 22 0), (13, .int .i64 1)], 29, [(0, k299n), (1, k5n), (7, k22n), (16, k69n), (17, k195n), (20, k0n), (23, k88n), (21, k90n), (24, .cells [.str TpK1ab9, .int .i64 60, .int .i64 0])]⟩
theorem YTSeR : pcOk YTSe (exec (env YTSeF.sg) (callS YTSeF YTSeU YTSeP) 1000 tailC (fr YTSe.n YTSe.f0) (mkSt YTSe.h0 YTSe.n0)) = true := by kernel_rfl
theorem YTSe_ok {t t' : Tm} (hck : (partOk YTSe (t.ren qS) && (has (mkH t.h0 .e) t.h0 && pickOk (YTSe.full (t.ren qS)) TpK9b01 k123n t')) = true) (x0 x1 x2 x3 x4 x5 x6 x7 x8 x9 x10 x11 x12 x13 : Int) (b : Gs [(0, 30), (0, 30), (0, 59), (0, 2), (0, 60), (0, 60), (0, 60), (0, 59), (4602678819172646912, 4605380978949069210), (1, 2), (0, 60), (0, 30), (0, 30), (0, 59)] [x0, x1, x2, x3, x4, x5, x6, x7, x8, x9, x10, x11, x12, x13]) (n8 : Nr x8) {ρ : Rho} {a : Act} {W : World} {R : Exit → Act → World → Prop} (ha : t.At W0 (sgl [x0, x1, x2, x3, x4, x5, x6, x13, x8, x9, x10, x11, x12, x13]) ρ a W) (hR : ∀ ρ' a' W', t'.At W0 (sgl [x0, x1, x2, x3, x4, x5, x6, 60, x8, x9, x10, x11, x12, x13]) ρ' a' W' → R (toExit .norm) a' W') : tailC.wp Tryz.prog R a W := by
  obtain ⟨h1, h2, h3⟩ := and3 hck
  have bb := b
  simp only [Gs, and_true] at bb
  obtain ⟨y14, h14⟩ := ex ((60) + (-1) * x13)
  obtain ⟨y15, h15⟩ := ex ((4611686018427387844) + x13)
  refine pc_part (W0 := W0) (ρ := ρ) (F := YTSeF) (us := YTSeU) (ps := YTSeP) (l := [x0, x1, x2, x3, x4, x5, x6, x7, x8, x9, x10, x11, x12, x13, y14, y15]) (e := YTSe) (P := TpK9b01) (Q := k123n) ⟨gc (gc (gc (gc (gc (gc (gc (gc (gc (gc (gc (gc (gc (gc (gc (gc trivial))))))))))))))), (al (fS (60) x13 y14) (al (fS (4611686018427387904) y14 y15) (al (fA x13 y14 (60)) an))), an, an, an, an, an, an⟩ an (al (pz (TpE45_ok) []) an) YTSeR h1 h3 (Tm.At.ren (Q := qS) ?_ h2) ?_
  · exact ha
  intro ρ' a' W' h
  exact hR ρ' a' W' h
end
end Go.Proofs.YtnpkeganpkobjaaGreatDoor.Ev
