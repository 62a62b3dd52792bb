import Derived.Test.YtnpkeganpkobjaaGreatDoorNB
import Derived.Test.YtnpkeganpkobjaaGreatDoorCK
set_option linter.all false
namespace Go.Proofs.YtnpkeganpkobjaaGreatDoor.Ev
set_option maxRecDepth 100000
set_option maxHeartbeats 4000000
open Go Go.RowKit
variable {W0 : World}
noncomputable section
def YP2U : List Use := [⟨TpE0, 0, [], [.s 0, .s 6, .s 7, .s 8, .s 9]⟩, ⟨TpE17, 1, [0], [.s 5, .s 9, .s 7, .s 10]⟩]
def YP2P : List Pur := [⟨11, [.sint .i64 3, .int .i64 3], .sint .i64 5⟩]
def YP2F : Facts := ⟨[(10, 30), (0, 30), (0, 60), (-9223372036854775808, 9223372036854775807), (0, 59), (0, 2), (0, 9), (48, 57), (1, 3), (49, 51), (10, 39)], [], [], [], [], [], [], []⟩
def YP2 : Pc := ⟨133, [(0, .sint .i64 0), (1, .sint .i64 1), (2, .sint .i64 2), (3, .sint .i64 3), (4, .sint .i64 4)], 0, [], .norm, [(0, .sint .i64 0), (1, .sint .i64 1), (2, .sint .i64 2), (4, .sint .i64 4), (11, .ptr 16 0), (12, .ptr 296 0)], 297, [(16, k124n), (296, k233n), (13, k92n), (15, k175n), (256, k205n), (261, k173n), (269, k116n), (10, k297n), (8, k164n), (12, k295n), (14, k259n), (263, k18n), (275, k173n), (272, k172n), (267, k60n), (268, k25n), (9, k159n), (5, k142n), (7, k226n), (11, k90n), (18, k160n), (4, k0n), (6, k90n)]⟩
theorem YP2R : (pcOk YP2 (exec (env YP2F.sg) (callS YP2F YP2U YP2P) 1000 preC (fr YP2.n YP2.f0) (mkSt YP2.h0 YP2.n0)) && (partOk YP2 (⟨133, [(0, .sint .i64 0), (1, .sint .i64 1), (2, .sint .i64 2), (3, .sint .i64 3), (4, .sint .i64 4)], 0, []⟩ : Tm) && pickOk (YP2.full (⟨133, [(0, .sint .i64 0), (1, .sint .i64 1), (2, .sint .i64 2), (3, .sint .i64 3), (4, .sint .i64 4)], 0, []⟩ : Tm)) TpKf433 k206n ⟨133, List.take 6 (tp 0), 26, upd (Tm0a 0).h0 [(15, k159n)]⟩)) = true := by kernel_rfl
theorem YP2_ok (x0 x1 x2 x3 x4 : Int) (b : Gs [(10, 30), (0, 30), (0, 60), (-9223372036854775808, 9223372036854775807), (0, 59)] [x0, x1, x2, x3, x4]) {ρ : Rho} {a : Act} {W : World} {R : Exit → Act → World → Prop} {r : Code} (ha : (⟨133, [(0, .sint .i64 0), (1, .sint .i64 1), (2, .sint .i64 2), (3, .sint .i64 3), (4, .sint .i64 4)], 0, []⟩ : Tm).At W0 (sgl [x0, x1, x2, x3, x4]) ρ a W) (hR : ∀ ρ' a' W', (Tm.pre (Tm0a 0)).At W0 (sgl [x0, 0, 0, (x3 % 3), 0, 0, 0, 0, 4605380978949069210, 1, x2, x0, x1, x4]) ρ' a' W' → r.wp Tryz.prog R a' W') : (app preC r).wp Tryz.prog R a W := by
  obtain ⟨h1, h2, h3⟩ := and3 YP2R
  have bb := b
  simp only [Gs, and_true] at bb
  obtain ⟨y5, h5⟩ := ex (x3 % (3))
  obtain ⟨y6, h6⟩ := ex (x0 % (10))
  obtain ⟨y7, h7⟩ := ex ((48) + y6)
  obtain ⟨y8, h8⟩ := ex (x0 / (10))
  obtain ⟨y9, h9⟩ := ex ((48) + y8)
  obtain ⟨y10, h10⟩ := ex (y6 + (10) * y8)
  refine pc_app (W0 := W0) (ρ := ρ) (F := YP2F) (us := YP2U) (ps := YP2P) (l := [x0, x1, x2, x3, x4, y5, y6, y7, y8, y9, y10]) (e := YP2) (P := TpKf433) (Q := k206n) ⟨gc (gc (gc (gc (gc (gc (gc (gc (gc (gc (gc trivial)))))))))), an, an, an, an, an, an, an⟩ (al (ue (TpE0_ok x0 y6 y7 y8 y9)) (al (ue (TpE17_ok y5 y9 y7 y10)) an)) (al (rd (i := 3) (j := 5) x3 y5) an) h1 h2 h3 rfl (Tm.At.up (m := 5) ha (by simp) (by kernel_rfl)) ?_
  intro ρ' a' W' h
  have e10 : y10 = x0 := by omega
  have e5 : y5 = (x3 % 3) := by omega
  subst e10
  subst e5
  exact hR ρ' a' W' (Tm.At.smap 15 [(k67n, .int .i64 1)] h (by kernel_rfl))
def YP1U : List Use := [⟨TpE18, 0, [], [.s 0, .s 0, .s 6]⟩, ⟨TpE22, 1, [0], [.s 5, .s 6, .s 0]⟩]
def YP1P : List Pur := [⟨11, [.sint .i64 3, .int .i64 3], .sint .i64 5⟩]
def YP1F : Facts := ⟨[(1, 9), (0, 30), (0, 60), (-9223372036854775808, 9223372036854775807), (0, 59), (0, 2), (49, 57)], [], [], [], [], [], [], []⟩
def YP1 : Pc := ⟨133, [(0, .sint .i64 0), (1, .sint .i64 1), (2, .sint .i64 2), (3, .sint .i64 3), (4, .sint .i64 4)], 0, [], .norm, [(0, .sint .i64 0), (1, .sint .i64 1), (2, .sint .i64 2), (4, .sint .i64 4), (11, .ptr 16 0), (12, .ptr 296 0)], 297, [(16, k124n), (296, k233n), (13, k92n), (15, k175n), (256, k205n), (261, k26n), (269, k116n), (10, k297n), (8, k164n), (12, k295n), (14, k259n), (263, k18n), (275, k26n), (272, k172n), (267, k60n), (268, k25n), (9, k159n), (5, k142n), (7, k226n), (11, k90n), (18, k160n), (4, k0n), (6, k90n)]⟩
theorem YP1R : (pcOk YP1 (exec (env YP1F.sg) (callS YP1F YP1U YP1P) 1000 preC (fr YP1.n YP1.f0) (mkSt YP1.h0 YP1.n0)) && (partOk YP1 (⟨133, [(0, .sint .i64 0), (1, .sint .i64 1), (2, .sint .i64 2), (3, .sint .i64 3), (4, .sint .i64 4)], 0, []⟩ : Tm) && pickOk (YP1.full (⟨133, [(0, .sint .i64 0), (1, .sint .i64 1), (2, .sint .i64 2), (3, .sint .i64 3), (4, .sint .i64 4)], 0, []⟩ : Tm)) TpKf433 k207n ⟨133, List.take 6 (tp 0), 26, upd (Tm0a 0).h0 [(15, k159n)]⟩)) = true := by kernel_rfl
theorem YP1_ok (x0 x1 x2 x3 x4 : Int) (b : Gs [(1, 9), (0, 30), (0, 60), (-9223372036854775808, 9223372036854775807), (0, 59)] [x0, x1, x2, x3, x4]) {ρ : Rho} {a : Act} {W : World} {R : Exit → Act → World → Prop} {r : Code} (ha : (⟨133, [(0, .sint .i64 0), (1, .sint .i64 1), (2, .sint .i64 2), (3, .sint .i64 3), (4, .sint .i64 4)], 0, []⟩ : Tm).At W0 (sgl [x0, x1, x2, x3, x4]) ρ a W) (hR : ∀ ρ' a' W', (Tm.pre (Tm0a 0)).At W0 (sgl [x0, 0, 0, (x3 % 3), 0, 0, 0, 0, 4605380978949069210, 1, x2, x0, x1, x4]) ρ' a' W' → r.wp Tryz.prog R a' W') : (app preC r).wp Tryz.prog R a W := by
  obtain ⟨h1, h2, h3⟩ := and3 YP1R
  have bb := b
  simp only [Gs, and_true] at bb
  obtain ⟨y5, h5⟩ := ex (x3 % (3))
  obtain ⟨y6, h6⟩ := ex ((48) + x0)
  refine pc_app (W0 := W0) (ρ := ρ) (F := YP1F) (us := YP1U) (ps := YP1P) (l := [x0, x1, x2, x3, x4, y5, y6]) (e := YP1) (P := TpKf433) (Q := k207n) ⟨gc (gc (gc (gc (gc (gc (gc trivial)))))), an, an, an, an, an, an, an⟩ (al (ue (TpE18_ok x0 x0 y6)) (al (ue (TpE22_ok y5 y6 x0)) an)) (al (rd (i := 3) (j := 5) x3 y5) an) h1 h2 h3 rfl (Tm.At.up (m := 5) ha (by simp) (by kernel_rfl)) ?_
  intro ρ' a' W' h
  have e5 : y5 = (x3 % 3) := by omega
  subst e5
  exact hR ρ' a' W' (Tm.At.smap 15 [(k67n, .int .i64 1)] h (by kernel_rfl))
def YP0U : List Use := [⟨TpE23, 0, [], []⟩, ⟨TpE27, 1, [0], [.s 5]⟩]
def YP0P : List Pur := [⟨11, [.sint .i64 3, .int .i64 3], .sint .i64 5⟩]
def YP0F : Facts := ⟨[(0, 0), (0, 30), (0, 60), (-9223372036854775808, 9223372036854775807), (0, 59), (0, 2)], [], [], [], [], [], [], []⟩
def YP0 : Pc := ⟨133, [(0, .int .i64 0), (1, .sint .i64 1), (2, .sint .i64 2), (3, .sint .i64 3), (4, .sint .i64 4)], 0, [], .norm, [(0, .int .i64 0), (1, .sint .i64 1), (2, .sint .i64 2), (4, .sint .i64 4), (11, .ptr 16 0), (12, .ptr 296 0)], 297, [(16, k124n), (296, k233n), (13, k92n), (15, k175n), (256, k205n), (261, k27n), (269, k116n), (10, k297n), (8, k164n), (12, k295n), (14, k259n), (263, k18n), (275, k27n), (272, k172n), (267, k60n), (268, k25n), (9, k159n), (5, k142n), (7, k226n), (11, k90n), (18, k160n), (4, k0n), (6, k90n)]⟩
theorem YP0R : (pcOk YP0 (exec (env YP0F.sg) (callS YP0F YP0U YP0P) 1000 preC (fr YP0.n YP0.f0) (mkSt YP0.h0 YP0.n0)) && (partOk YP0 (⟨133, [(0, .int .i64 0), (1, .sint .i64 1), (2, .sint .i64 2), (3, .sint .i64 3), (4, .sint .i64 4)], 0, []⟩ : Tm) && pickOk (YP0.full (⟨133, [(0, .int .i64 0), (1, .sint .i64 1), (2, .sint .i64 2), (3, .sint .i64 3), (4, .sint .i64 4)], 0, []⟩ : Tm)) TpKf433 k202n ⟨133, List.take 6 (tp 0), 26, upd (Tm0za 0).h0 [(15, k159n)]⟩)) = true := by kernel_rfl
theorem YP0_ok (x0 x1 x2 x3 x4 : Int) (b : Gs [(0, 0), (0, 30), (0, 60), (-9223372036854775808, 9223372036854775807), (0, 59)] [x0, x1, x2, x3, x4]) {ρ : Rho} {a : Act} {W : World} {R : Exit → Act → World → Prop} {r : Code} (ha : (⟨133, [(0, .int .i64 0), (1, .sint .i64 1), (2, .sint .i64 2), (3, .sint .i64 3), (4, .sint .i64 4)], 0, []⟩ : Tm).At W0 (sgl [x0, x1, x2, x3, x4]) ρ a W) (hR : ∀ ρ' a' W', (Tm.pre (Tm0za 0)).At W0 (sgl [0, 0, 0, (x3 % 3), 0, 0, 0, 0, 4605380978949069210, 1, x2, 0, x1, x4]) ρ' a' W' → r.wp Tryz.prog R a' W') : (app preC r).wp Tryz.prog R a W := by
  obtain ⟨h1, h2, h3⟩ := and3 YP0R
  have bb := b
  simp only [Gs, and_true] at bb
  obtain ⟨y5, h5⟩ := ex (x3 % (3))
  refine pc_app (W0 := W0) (ρ := ρ) (F := YP0F) (us := YP0U) (ps := YP0P) (l := [x0, x1, x2, x3, x4, y5]) (e := YP0) (P := TpKf433) (Q := k202n) ⟨gc (gc (gc (gc (gc (gc trivial))))), an, an, an, an, an, an, an⟩ (al (ue (TpE23_ok)) (al (ue (TpE27_ok y5)) an)) (al (rd (i := 3) (j := 5) x3 y5) an) h1 h2 h3 rfl (Tm.At.up (m := 5) ha (by simp) (by kernel_rfl)) ?_
  intro ρ' a' W' h
  have e5 : y5 = (x3 % 3) := by omega
  subst e5
  exact hR ρ' a' W' (Tm.At.smap 15 [(k67n, .int .i64 1)] h (by kernel_rfl))
end
end Go.Proofs.YtnpkeganpkobjaaGreatDoor.Ev
