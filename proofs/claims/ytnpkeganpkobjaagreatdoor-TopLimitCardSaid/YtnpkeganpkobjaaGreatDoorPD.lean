import Derived.Test.YtnpkeganpkobjaaGreatDoorCG
import Derived.Test.YtnpkeganpkobjaaGreatDoorCK
set_option linter.all false
namespace Go.Proofs.YtnpkeganpkobjaaGreatDoor.Ev
set_option maxRecDepth 100000
set_option maxHeartbeats 4000000
open Go Go.RowKit
variable {W0 : World}
noncomputable section
def TlCdkZU (d : Nat) : List Use := ⟨TcE2, 26, [], k232n⟩ :: ⟨TcE5, 78, [73], k232n⟩ :: ⟨TcE76, 89, [5, 85, 11, 12, 13, 14, 83], k133n⟩ :: ⟨TcE84, 93, TcK20e7, k157n⟩ :: repZ d 103
def TlCdkZP : List Pur := [⟨161, [k1n], .bool true⟩, ⟨161, [k3n], .bool true⟩, ⟨269, [k21n], .int .i64 0⟩]
def TlCdkZ (p : Nat) : Pc := ⟨133, (Tm1zdkm p).f0, 26, (Tm1zdkm p).h0, .norm, [(0, .sint .i64 11), (1, .sint .i64 12), (2, .sint .i64 10), (4, .sint .i64 13), (11, .ptr 0 0), (12, .ptr 22 0), (13, .int .i64 p), (14, .sint .i64 27)], 204, upd (List.take 24 (Tm1zdkm p).h0) [(19, k7n)] ++ [(77, k57n)]⟩
def TlCdkZF : Facts := ⟨[(0, 0), (0, 30), (0, 59), (1, 2), (0, 60), (0, 60), (0, 60), (60, 110), (4602678819172646912, 4605380978949069210), (1, 2), (0, 60), (0, 30), (0, 30), (0, 59), (0, 29), (1, 30), (1, 60), (48, 57), (48, 57), (48, 57), (48, 57), (48, 57), (48, 57), (48, 49), (48, 57), (48, 57), (48, 57), (1, 60)], [⟨.add, .i64, .s 2, .c (1), .s 27⟩], [], [], [], [], [], []⟩
theorem TlCdkZR : ∀ p, p = 2 → ∀ d, d < 1 → (pcOk (TlCdkZ p) (exec (env TlCdkZF.sg) (callS TlCdkZF (TlCdkZU d) TlCdkZP) 1000 (bodyOf 4 1) (fr (TlCdkZ p).n (TlCdkZ p).f0) (mkSt (TlCdkZ p).h0 (TlCdkZ p).n0)) && (pickOk (TlCdkZ p) TcK3e8e k2n (Tm1zdkm p) && swapOk (qf q14) (Tm1zdkm p) ⟨(TlCdkZ p).n, (TlCdkZ p).f0, (TlCdkZ p).n0, (TlCdkZ p).h0⟩)) = true :=
  pC (k1 (by kernel_rfl))
theorem TlCdkZ_ok (p : Nat) (hp : p = 2) (x0 x1 x2 x3 x4 x5 x6 x7 x8 x9 x10 x11 x12 x13 : Int) (b0 : x0 = 0) (b1 : (0 : Int) ≤ x1 ∧ x1 ≤ 30) (b7 : (60 : Int) ≤ x7 ∧ x7 ≤ 110) (b3 : (1 : Int) ≤ x3 ∧ x3 ≤ 2) (k : Co x2 x3 x4 x5 x6 x8 x9 x10 x11 x12 x13) {ρ : Rho} {a : Act} {W : World} {R : Exit → Act → World → Prop} (ha : (Tm1zdkm p).At W0 (sgl [x0, x1, x2, x3, x4, x5, x6, x7, x8, x9, x10, x11, x12, x13]) ρ a W) (hR : ∀ ρ' a' W', (Tm1zdkm p).At W0 (sgl [x0, x1, ((1) + x2), x3, x4, x5, x6, x7, x8, x9, x10, x11, x12, x13]) ρ' a' W' → R (toExit .norm) a' W') : (bodyOf 4 1).wp Tryz.prog R a W := by
  obtain ⟨b2, _, b4, b5, b6, b8, b9, b10, b11, b12, b13⟩ := k
  have d8 := b8.bd
  obtain ⟨y14, h14⟩ := ex (0)
  obtain ⟨y15, h15⟩ := ex (1)
  obtain ⟨y16, h16⟩ := ex (120 - x7)
  obtain ⟨y17, y18, y19, y20, y21, y22, y23, y24, y25, y26, q⟩ := exRz y14 y15 y16
  have qb := q.bd
  obtain ⟨d, hd, hc⟩ := clZc y16
  obtain ⟨y27, h27⟩ := ex ((1) + x2)
  obtain ⟨h1, h2, h3⟩ := and3 (TlCdkZR p hp d hd)
  refine pc_at (W0 := W0) (ρ := ρ) (F := TlCdkZF) (us := TlCdkZU d) (ps := TlCdkZP) (l := [x0, x1, x2, x3, x4, x5, x6, x7, x8, x9, x10, x11, x12, x13, y14, y15, y16, y17, y18, y19, y20, y21, y22, y23, y24, y25, y26, y27]) (e := TlCdkZ p) (P := _) (Q := k2n) (t := Tm1zdkm p) ⟨gc (gc (gc (gc (gc (gc (gc (gc (gc (gc (gc (gc (gc (gc (gc (gc (gc (gc (gc (gc (gc (gc (gc (gc (gc (gc (gc (gc trivial))))))))))))))))))))))))))), (al (fA x2 (1) y27) an), an, an, an, an, an, an⟩ (al (ue (TcE2_ok x2)) (al (ue (TcE5_ok x2)) (al (ue (TcE76_ok x2 x7 x8)) (al (ue (TcE84_ok x7 x3 x8 y16)) (repZ_ok d hc q _))))) (al (pz (TcE3_ok) []) (al (pz (TcE4_ok) []) (al (ck (l := .c (0)) (k := 8) (0) x8) an))) h1 h2 (Tm.At.swap (t := Tm1zdkm p) (Q := q14) ?_ h3) ?_
  · exact ha
  · intro ρ' a' W' h
    subst h27
    exact hR ρ' a' W' h
def TlCdmZU (d : Nat) : List Use := ⟨TcE2, 26, [], k232n⟩ :: ⟨TcE5, 78, [73], k232n⟩ :: ⟨TcE76, 89, [5, 85, 11, 12, 13, 14, 83], k133n⟩ :: ⟨TcE83, 93, TcK20e7, k157n⟩ :: repZ d 103
def TlCdmZP : List Pur := [⟨161, [k1n], .bool true⟩, ⟨161, [k3n], .bool true⟩, ⟨269, [k21n], .int .i64 0⟩]
def TlCdmZ (p : Nat) : Pc := ⟨133, (Tm1zdm p).f0, 26, (Tm1zdm p).h0, .norm, [(0, .sint .i64 11), (1, .sint .i64 12), (2, .sint .i64 10), (4, .sint .i64 13), (11, .ptr 0 0), (12, .ptr 22 0), (13, .int .i64 p), (14, .sint .i64 27)], 204, upd (List.take 24 (Tm1zdm p).h0) [(19, k7n)] ++ [(77, k57n)]⟩
def TlCdmZF : Facts := ⟨[(0, 0), (0, 30), (0, 59), (1, 2), (0, 60), (0, 60), (0, 60), (60, 110), (4602678819172646912, 4605380978949069210), (1, 2), (0, 60), (0, 30), (0, 30), (0, 59), (0, 29), (1, 30), (1, 60), (48, 57), (48, 57), (48, 57), (48, 57), (48, 57), (48, 57), (48, 49), (48, 57), (48, 57), (48, 57), (1, 60)], [⟨.add, .i64, .s 2, .c (1), .s 27⟩], [], [], [], [], [], []⟩
theorem TlCdmZR : ∀ p, p = 2 → ∀ d, d < 1 → (pcOk (TlCdmZ p) (exec (env TlCdmZF.sg) (callS TlCdmZF (TlCdmZU d) TlCdmZP) 1000 (bodyOf 4 1) (fr (TlCdmZ p).n (TlCdmZ p).f0) (mkSt (TlCdmZ p).h0 (TlCdmZ p).n0)) && (pickOk (TlCdmZ p) TcK3e8e k2n (Tm1zdm p) && swapOk (qf q14) (Tm1zdm p) ⟨(TlCdmZ p).n, (TlCdmZ p).f0, (TlCdmZ p).n0, (TlCdmZ p).h0⟩)) = true :=
  pC (k1 (by kernel_rfl))
theorem TlCdmZ_ok (p : Nat) (hp : p = 2) (x0 x1 x2 x3 x4 x5 x6 x7 x8 x9 x10 x11 x12 x13 : Int) (b0 : x0 = 0) (b1 : (0 : Int) ≤ x1 ∧ x1 ≤ 30) (b7 : (60 : Int) ≤ x7 ∧ x7 ≤ 110) (b3 : (1 : Int) ≤ x3 ∧ x3 ≤ 2) (k : Co x2 x3 x4 x5 x6 x8 x9 x10 x11 x12 x13) {ρ : Rho} {a : Act} {W : World} {R : Exit → Act → World → Prop} (ha : (Tm1zdm p).At W0 (sgl [x0, x1, x2, x3, x4, x5, x6, x7, x8, x9, x10, x11, x12, x13]) ρ a W) (hR : ∀ ρ' a' W', (Tm1zdm p).At W0 (sgl [x0, x1, ((1) + x2), x3, x4, x5, x6, x7, x8, x9, x10, x11, x12, x13]) ρ' a' W' → R (toExit .norm) a' W') : (bodyOf 4 1).wp Tryz.prog R a W := by
  obtain ⟨b2, _, b4, b5, b6, b8, b9, b10, b11, b12, b13⟩ := k
  have d8 := b8.bd
  obtain ⟨y14, h14⟩ := ex (0)
  obtain ⟨y15, h15⟩ := ex (1)
  obtain ⟨y16, h16⟩ := ex (120 - x7)
  obtain ⟨y17, y18, y19, y20, y21, y22, y23, y24, y25, y26, q⟩ := exRz y14 y15 y16
  have qb := q.bd
  obtain ⟨d, hd, hc⟩ := clZc y16
  obtain ⟨y27, h27⟩ := ex ((1) + x2)
  obtain ⟨h1, h2, h3⟩ := and3 (TlCdmZR p hp d hd)
  refine pc_at (W0 := W0) (ρ := ρ) (F := TlCdmZF) (us := TlCdmZU d) (ps := TlCdmZP) (l := [x0, x1, x2, x3, x4, x5, x6, x7, x8, x9, x10, x11, x12, x13, y14, y15, y16, y17, y18, y19, y20, y21, y22, y23, y24, y25, y26, y27]) (e := TlCdmZ p) (P := _) (Q := k2n) (t := Tm1zdm p) ⟨gc (gc (gc (gc (gc (gc (gc (gc (gc (gc (gc (gc (gc (gc (gc (gc (gc (gc (gc (gc (gc (gc (gc (gc (gc (gc (gc (gc trivial))))))))))))))))))))))))))), (al (fA x2 (1) y27) an), an, an, an, an, an, an⟩ (al (ue (TcE2_ok x2)) (al (ue (TcE5_ok x2)) (al (ue (TcE76_ok x2 x7 x8)) (al (ue (TcE83_ok x7 x3 x8 y16)) (repZ_ok d hc q _))))) (al (pz (TcE3_ok) []) (al (pz (TcE4_ok) []) (al (ck (l := .c (0)) (k := 8) (0) x8) an))) h1 h2 (Tm.At.swap (t := Tm1zdm p) (Q := q14) ?_ h3) ?_
  · exact ha
  · intro ρ' a' W' h
    subst h27
    exact hR ρ' a' W' h
def TlCdoZU (d : Nat) : List Use := ⟨TcE2, 26, [], k232n⟩ :: ⟨TcE5, 78, [73], k232n⟩ :: ⟨TcE76, 89, [5, 85, 11, 12, 13, 14, 83], k133n⟩ :: ⟨TcE82, 93, TcK20e7, [.s 7, .s 8, .s 16]⟩ :: repZ d 102
def TlCdoZP : List Pur := [⟨161, [k1n], .bool true⟩, ⟨161, [k3n], .bool true⟩, ⟨269, [k21n], .int .i64 0⟩]
def TlCdoZ (p : Nat) : Pc := ⟨133, (Tm1zdo p).f0, 26, (Tm1zdo p).h0, .norm, [(0, .sint .i64 11), (1, .sint .i64 12), (2, .sint .i64 10), (4, .sint .i64 13), (11, .ptr 0 0), (12, .ptr 22 0), (13, .int .i64 p), (14, .sint .i64 27)], 203, upd (List.take 24 (Tm1zdo p).h0) [(19, k7n)] ++ [(77, k57n)]⟩
def TlCdoZF : Facts := ⟨[(0, 0), (0, 30), (0, 59), (0, 2), (0, 60), (0, 60), (0, 60), (60, 110), (4602678819172646912, 4605380978949069210), (1, 2), (0, 60), (0, 30), (0, 30), (0, 59), (0, 29), (1, 30), (1, 60), (48, 57), (48, 57), (48, 57), (48, 57), (48, 57), (48, 57), (48, 49), (48, 57), (48, 57), (48, 57), (1, 60)], [⟨.add, .i64, .s 2, .c (1), .s 27⟩], [], [], [], [], [], []⟩
theorem TlCdoZR : ∀ p, p = 2 → ∀ d, d < 1 → (pcOk (TlCdoZ p) (exec (env TlCdoZF.sg) (callS TlCdoZF (TlCdoZU d) TlCdoZP) 1000 (bodyOf 4 1) (fr (TlCdoZ p).n (TlCdoZ p).f0) (mkSt (TlCdoZ p).h0 (TlCdoZ p).n0)) && (pickOk (TlCdoZ p) TcK3e8e k2n (Tm1zdo p) && swapOk (qf q14) (Tm1zdo p) ⟨(TlCdoZ p).n, (TlCdoZ p).f0, (TlCdoZ p).n0, (TlCdoZ p).h0⟩)) = true :=
  pC (k1 (by kernel_rfl))
theorem TlCdoZ_ok (p : Nat) (hp : p = 2) (x0 x1 x2 x3 x4 x5 x6 x7 x8 x9 x10 x11 x12 x13 : Int) (b0 : x0 = 0) (b1 : (0 : Int) ≤ x1 ∧ x1 ≤ 30) (b7 : (60 : Int) ≤ x7 ∧ x7 ≤ 110) (k : Co x2 x3 x4 x5 x6 x8 x9 x10 x11 x12 x13) {ρ : Rho} {a : Act} {W : World} {R : Exit → Act → World → Prop} (ha : (Tm1zdo p).At W0 (sgl [x0, x1, x2, x3, x4, x5, x6, x7, x8, x9, x10, x11, x12, x13]) ρ a W) (hR : ∀ ρ' a' W', (Tm1zdo p).At W0 (sgl [x0, x1, ((1) + x2), x3, x4, x5, x6, x7, x8, x9, x10, x11, x12, x13]) ρ' a' W' → R (toExit .norm) a' W') : (bodyOf 4 1).wp Tryz.prog R a W := by
  obtain ⟨b2, b3, b4, b5, b6, b8, b9, b10, b11, b12, b13⟩ := k
  have d8 := b8.bd
  obtain ⟨y14, h14⟩ := ex (0)
  obtain ⟨y15, h15⟩ := ex (1)
  obtain ⟨y16, h16⟩ := ex (120 - x7)
  obtain ⟨y17, y18, y19, y20, y21, y22, y23, y24, y25, y26, q⟩ := exRz y14 y15 y16
  have qb := q.bd
  obtain ⟨d, hd, hc⟩ := clZc y16
  obtain ⟨y27, h27⟩ := ex ((1) + x2)
  obtain ⟨h1, h2, h3⟩ := and3 (TlCdoZR p hp d hd)
  refine pc_at (W0 := W0) (ρ := ρ) (F := TlCdoZF) (us := TlCdoZU d) (ps := TlCdoZP) (l := [x0, x1, x2, x3, x4, x5, x6, x7, x8, x9, x10, x11, x12, x13, y14, y15, y16, y17, y18, y19, y20, y21, y22, y23, y24, y25, y26, y27]) (e := TlCdoZ p) (P := _) (Q := k2n) (t := Tm1zdo p) ⟨gc (gc (gc (gc (gc (gc (gc (gc (gc (gc (gc (gc (gc (gc (gc (gc (gc (gc (gc (gc (gc (gc (gc (gc (gc (gc (gc (gc trivial))))))))))))))))))))))))))), (al (fA x2 (1) y27) an), an, an, an, an, an, an⟩ (al (ue (TcE2_ok x2)) (al (ue (TcE5_ok x2)) (al (ue (TcE76_ok x2 x7 x8)) (al (ue (TcE82_ok x7 x8 y16)) (repZ_ok d hc q _))))) (al (pz (TcE3_ok) []) (al (pz (TcE4_ok) []) (al (ck (l := .c (0)) (k := 8) (0) x8) an))) h1 h2 (Tm.At.swap (t := Tm1zdo p) (Q := q14) ?_ h3) ?_
  · exact ha
  · intro ρ' a' W' h
    subst h27
    exact hR ρ' a' W' h
def TlCdxZU (d : Nat) : List Use := ⟨TcE2, 26, [], k232n⟩ :: ⟨TcE5, 78, [73], k232n⟩ :: ⟨TcE76, 89, [5, 85, 11, 12, 13, 14, 83], k133n⟩ :: ⟨TcE125, 93, TcK20e7, k157n⟩ :: repZ d 103
def TlCdxZP : List Pur := [⟨161, [k1n], .bool true⟩, ⟨161, [k3n], .bool true⟩, ⟨269, [k21n], .int .i64 0⟩]
def TlCdxZ (p : Nat) : Pc := ⟨133, (Tm1zdk p).f0, 26, (Tm1zdk p).h0, .norm, [(0, .sint .i64 11), (1, .sint .i64 12), (2, .sint .i64 10), (4, .sint .i64 13), (11, .ptr 0 0), (12, .ptr 22 0), (13, .int .i64 p), (14, .sint .i64 27)], 204, upd (List.take 24 (Tm1zdk p).h0) [(18, k103n), (19, k7n)] ++ [(77, k57n)]⟩
def TlCdxZF : Facts := ⟨[(0, 0), (0, 30), (0, 59), (1, 1), (0, 60), (0, 60), (0, 60), (60, 110), (4602678819172646912, 4605380978949069210), (1, 2), (0, 60), (0, 30), (0, 30), (0, 59), (0, 29), (1, 30), (1, 60), (48, 57), (48, 57), (48, 57), (48, 57), (48, 57), (48, 57), (48, 49), (48, 57), (48, 57), (48, 57), (1, 60)], [⟨.add, .i64, .s 2, .c (1), .s 27⟩], [], [], [], [], [], []⟩
theorem TlCdxZR : ∀ p, p = 2 → ∀ d, d < 1 → (pcOk (TlCdxZ p) (exec (env TlCdxZF.sg) (callS TlCdxZF (TlCdxZU d) TlCdxZP) 1000 (bodyOf 4 1) (fr (TlCdxZ p).n (TlCdxZ p).f0) (mkSt (TlCdxZ p).h0 (TlCdxZ p).n0)) && (pickOk (TlCdxZ p) TcK3e8e k2n (Tm1zdm p) && swapOk (qf q14) (Tm1zdk p) ⟨(TlCdxZ p).n, (TlCdxZ p).f0, (TlCdxZ p).n0, (TlCdxZ p).h0⟩)) = true :=
  pC (k1 (by kernel_rfl))
theorem TlCdxZ_ok (p : Nat) (hp : p = 2) (x0 x1 x2 x3 x4 x5 x6 x7 x8 x9 x10 x11 x12 x13 : Int) (b0 : x0 = 0) (b1 : (0 : Int) ≤ x1 ∧ x1 ≤ 30) (b7 : (60 : Int) ≤ x7 ∧ x7 ≤ 110) (b3 : (1 : Int) ≤ x3 ∧ x3 ≤ 1) (k : Co x2 x3 x4 x5 x6 x8 x9 x10 x11 x12 x13) {ρ : Rho} {a : Act} {W : World} {R : Exit → Act → World → Prop} (ha : (Tm1zdk p).At W0 (sgl [x0, x1, x2, x3, x4, x5, x6, x7, x8, x9, x10, x11, x12, x13]) ρ a W) (hR : ∀ ρ' a' W', (Tm1zdm p).At W0 (sgl [x0, x1, ((1) + x2), x3, x4, x5, x6, x7, x8, x9, x10, x11, x12, x13]) ρ' a' W' → R (toExit .norm) a' W') : (bodyOf 4 1).wp Tryz.prog R a W := by
  obtain ⟨b2, _, b4, b5, b6, b8, b9, b10, b11, b12, b13⟩ := k
  have d8 := b8.bd
  obtain ⟨y14, h14⟩ := ex (0)
  obtain ⟨y15, h15⟩ := ex (1)
  obtain ⟨y16, h16⟩ := ex (120 - x7)
  obtain ⟨y17, y18, y19, y20, y21, y22, y23, y24, y25, y26, q⟩ := exRz y14 y15 y16
  have qb := q.bd
  obtain ⟨d, hd, hc⟩ := clZc y16
  obtain ⟨y27, h27⟩ := ex ((1) + x2)
  obtain ⟨h1, h2, h3⟩ := and3 (TlCdxZR p hp d hd)
  refine pc_at (W0 := W0) (ρ := ρ) (F := TlCdxZF) (us := TlCdxZU d) (ps := TlCdxZP) (l := [x0, x1, x2, x3, x4, x5, x6, x7, x8, x9, x10, x11, x12, x13, y14, y15, y16, y17, y18, y19, y20, y21, y22, y23, y24, y25, y26, y27]) (e := TlCdxZ p) (P := _) (Q := k2n) (t := Tm1zdm p) ⟨gc (gc (gc (gc (gc (gc (gc (gc (gc (gc (gc (gc (gc (gc (gc (gc (gc (gc (gc (gc (gc (gc (gc (gc (gc (gc (gc (gc trivial))))))))))))))))))))))))))), (al (fA x2 (1) y27) an), an, an, an, an, an, an⟩ (al (ue (TcE2_ok x2)) (al (ue (TcE5_ok x2)) (al (ue (TcE76_ok x2 x7 x8)) (al (ue (TcE125_ok x7 x3 x8 y16)) (repZ_ok d hc q _))))) (al (pz (TcE3_ok) []) (al (pz (TcE4_ok) []) (al (ck (l := .c (0)) (k := 8) (0) x8) an))) h1 h2 (Tm.At.swap (t := Tm1zdk p) (Q := q14) ?_ h3) ?_
  · exact ha
  · intro ρ' a' W' h
    subst h27
    exact hR ρ' a' W' h
def TlCdyZU (d : Nat) : List Use := ⟨TcE2, 26, [], k232n⟩ :: ⟨TcE5, 78, [73], k232n⟩ :: ⟨TcE76, 89, [5, 85, 11, 12, 13, 14, 83], k133n⟩ :: ⟨TcE81, 93, TcK20e7, k157n⟩ :: repZ d 103
def TlCdyZP : List Pur := [⟨161, [k1n], .bool true⟩, ⟨161, [k3n], .bool true⟩, ⟨269, [k21n], .int .i64 0⟩]
def TlCdyZ (p : Nat) : Pc := ⟨133, (Tm1zdk p).f0, 26, (Tm1zdk p).h0, .norm, [(0, .sint .i64 11), (1, .sint .i64 12), (2, .sint .i64 10), (4, .sint .i64 13), (11, .ptr 0 0), (12, .ptr 22 0), (13, .int .i64 p), (14, .sint .i64 27)], 204, upd (List.take 24 (Tm1zdk p).h0) [(18, k54n), (19, k7n)] ++ [(77, k57n)]⟩
def TlCdyZF : Facts := ⟨[(0, 0), (0, 30), (0, 59), (2, 2), (0, 60), (0, 60), (0, 60), (60, 110), (4602678819172646912, 4605380978949069210), (1, 2), (0, 60), (0, 30), (0, 30), (0, 59), (0, 29), (1, 30), (1, 60), (48, 57), (48, 57), (48, 57), (48, 57), (48, 57), (48, 57), (48, 49), (48, 57), (48, 57), (48, 57), (1, 60)], [⟨.add, .i64, .s 2, .c (1), .s 27⟩], [], [], [], [], [], []⟩
theorem TlCdyZR : ∀ p, p = 2 → ∀ d, d < 1 → (pcOk (TlCdyZ p) (exec (env TlCdyZF.sg) (callS TlCdyZF (TlCdyZU d) TlCdyZP) 1000 (bodyOf 4 1) (fr (TlCdyZ p).n (TlCdyZ p).f0) (mkSt (TlCdyZ p).h0 (TlCdyZ p).n0)) && (pickOk (TlCdyZ p) TcK3e8e k2n (Tm1zdkm p) && swapOk (qf q14) (Tm1zdk p) ⟨(TlCdyZ p).n, (TlCdyZ p).f0, (TlCdyZ p).n0, (TlCdyZ p).h0⟩)) = true :=
  pC (k1 (by kernel_rfl))
theorem TlCdyZ_ok (p : Nat) (hp : p = 2) (x0 x1 x2 x3 x4 x5 x6 x7 x8 x9 x10 x11 x12 x13 : Int) (b0 : x0 = 0) (b1 : (0 : Int) ≤ x1 ∧ x1 ≤ 30) (b7 : (60 : Int) ≤ x7 ∧ x7 ≤ 110) (b3 : (2 : Int) ≤ x3 ∧ x3 ≤ 2) (k : Co x2 x3 x4 x5 x6 x8 x9 x10 x11 x12 x13) {ρ : Rho} {a : Act} {W : World} {R : Exit → Act → World → Prop} (ha : (Tm1zdk p).At W0 (sgl [x0, x1, x2, x3, x4, x5, x6, x7, x8, x9, x10, x11, x12, x13]) ρ a W) (hR : ∀ ρ' a' W', (Tm1zdkm p).At W0 (sgl [x0, x1, ((1) + x2), x3, x4, x5, x6, x7, x8, x9, x10, x11, x12, x13]) ρ' a' W' → R (toExit .norm) a' W') : (bodyOf 4 1).wp Tryz.prog R a W := by
  obtain ⟨b2, _, b4, b5, b6, b8, b9, b10, b11, b12, b13⟩ := k
  have d8 := b8.bd
  obtain ⟨y14, h14⟩ := ex (0)
  obtain ⟨y15, h15⟩ := ex (1)
  obtain ⟨y16, h16⟩ := ex (120 - x7)
  obtain ⟨y17, y18, y19, y20, y21, y22, y23, y24, y25, y26, q⟩ := exRz y14 y15 y16
  have qb := q.bd
  obtain ⟨d, hd, hc⟩ := clZc y16
  obtain ⟨y27, h27⟩ := ex ((1) + x2)
  obtain ⟨h1, h2, h3⟩ := and3 (TlCdyZR p hp d hd)
  refine pc_at (W0 := W0) (ρ := ρ) (F := TlCdyZF) (us := TlCdyZU d) (ps := TlCdyZP) (l := [x0, x1, x2, x3, x4, x5, x6, x7, x8, x9, x10, x11, x12, x13, y14, y15, y16, y17, y18, y19, y20, y21, y22, y23, y24, y25, y26, y27]) (e := TlCdyZ p) (P := _) (Q := k2n) (t := Tm1zdkm p) ⟨gc (gc (gc (gc (gc (gc (gc (gc (gc (gc (gc (gc (gc (gc (gc (gc (gc (gc (gc (gc (gc (gc (gc (gc (gc (gc (gc (gc trivial))))))))))))))))))))))))))), (al (fA x2 (1) y27) an), an, an, an, an, an, an⟩ (al (ue (TcE2_ok x2)) (al (ue (TcE5_ok x2)) (al (ue (TcE76_ok x2 x7 x8)) (al (ue (TcE81_ok x7 x3 x8 y16)) (repZ_ok d hc q _))))) (al (pz (TcE3_ok) []) (al (pz (TcE4_ok) []) (al (ck (l := .c (0)) (k := 8) (0) x8) an))) h1 h2 (Tm.At.swap (t := Tm1zdk p) (Q := q14) ?_ h3) ?_
  · exact ha
  · intro ρ' a' W' h
    subst h27
    exact hR ρ' a' W' h
def TlCkOU (d : Nat) : List Use := ⟨TcE2, 26, [], k232n⟩ :: ⟨TcE5, 78, [73], k232n⟩ :: ⟨TcE65, 89, [5, 85, 11, 12, 13, 14, 83], k68n⟩ :: ⟨TcE74, 93, TcK4208, k222n⟩ :: repO d 103
def TlCkOP : List Pur := [⟨161, [k1n], .bool true⟩, ⟨161, [k3n], .bool true⟩, ⟨239, [.str TcK058b], .int .u64 12469190679453589782⟩, ⟨269, [k9n], .int .i64 0⟩]
def TlCkO (p : Nat) : Pc := ⟨133, (Tm1ekm p).f0, 26, (Tm1ekm p).h0, .norm, [(0, .sint .i64 11), (1, .sint .i64 12), (2, .sint .i64 10), (4, .sint .i64 13), (11, .ptr 0 0), (12, .ptr 22 0), (13, .int .i64 p), (14, .sint .i64 27)], 204, upd (List.take 25 (Tm1ekm p).h0) [(19, k7n)] ++ [(77, k57n)]⟩
def TlCkOF : Facts := ⟨[(1, 30), (1, 30), (0, 59), (1, 2), (0, 60), (0, 60), (0, 60), (60, 110), (4602678819172646912, 4605380978949069210), (1, 2), (0, 60), (0, 30), (0, 30), (0, 59), (0, 29), (1, 30), (1, 60), (48, 57), (48, 57), (48, 57), (48, 57), (48, 57), (48, 57), (48, 49), (48, 57), (48, 57), (48, 57), (1, 60)], [⟨.add, .i64, .s 2, .c (1), .s 27⟩], [], [], [], [], [], []⟩
theorem TlCkOR : ∀ p, p = 2 → ∀ d, d < 2 → (pcOk (TlCkO p) (exec (env TlCkOF.sg) (callS TlCkOF (TlCkOU d) TlCkOP) 1000 (bodyOf 4 1) (fr (TlCkO p).n (TlCkO p).f0) (mkSt (TlCkO p).h0 (TlCkO p).n0)) && (pickOk (TlCkO p) TcK420b k2n (Tm1ekm p) && swapOk (qf q14) (Tm1ekm p) ⟨(TlCkO p).n, (TlCkO p).f0, (TlCkO p).n0, (TlCkO p).h0⟩)) = true :=
  pC (k2 (by kernel_rfl) (by kernel_rfl))
theorem TlCkO_ok (p : Nat) (hp : p = 2) (x0 x1 x2 x3 x4 x5 x6 x7 x8 x9 x10 x11 x12 x13 : Int) (b0 : (1 : Int) ≤ x0 ∧ x0 ≤ 30) (b1 : (1 : Int) ≤ x1 ∧ x1 ≤ 30) (b7 : (60 : Int) ≤ x7 ∧ x7 ≤ 110) (b3 : (1 : Int) ≤ x3 ∧ x3 ≤ 2) (k : Co x2 x3 x4 x5 x6 x8 x9 x10 x11 x12 x13) (r1 : x0 ≤ x1) {ρ : Rho} {a : Act} {W : World} {R : Exit → Act → World → Prop} (ha : (Tm1ekm p).At W0 (sgl [x0, x1, x2, x3, x4, x5, x6, x7, x8, x9, x10, x11, x12, x13]) ρ a W) (hR : ∀ ρ' a' W', (Tm1ekm p).At W0 (sgl [x0, x1, ((1) + x2), x3, x4, x5, x6, x7, x8, x9, x10, x11, x12, x13]) ρ' a' W' → R (toExit .norm) a' W') : (bodyOf 4 1).wp Tryz.prog R a W := by
  obtain ⟨b2, _, b4, b5, b6, b8, b9, b10, b11, b12, b13⟩ := k
  have d8 := b8.bd
  obtain ⟨y14, h14⟩ := ex (0)
  obtain ⟨y15, h15⟩ := ex (x0)
  obtain ⟨y16, h16⟩ := ex (120 - x7)
  obtain ⟨y17, y18, y19, y20, y21, y22, y23, y24, y25, y26, q⟩ := exRp x0 y14 y15 y16
  have qb := q.bd
  obtain ⟨d, hd, hc⟩ := clOc x0 y16
  obtain ⟨y27, h27⟩ := ex ((1) + x2)
  obtain ⟨h1, h2, h3⟩ := and3 (TlCkOR p hp d hd)
  refine pc_at (W0 := W0) (ρ := ρ) (F := TlCkOF) (us := TlCkOU d) (ps := TlCkOP) (l := [x0, x1, x2, x3, x4, x5, x6, x7, x8, x9, x10, x11, x12, x13, y14, y15, y16, y17, y18, y19, y20, y21, y22, y23, y24, y25, y26, y27]) (e := TlCkO p) (P := _) (Q := k2n) (t := Tm1ekm p) ⟨gc (gc (gc (gc (gc (gc (gc (gc (gc (gc (gc (gc (gc (gc (gc (gc (gc (gc (gc (gc (gc (gc (gc (gc (gc (gc (gc (gc trivial))))))))))))))))))))))))))), (al (fA x2 (1) y27) an), an, an, an, an, an, an⟩ (al (ue (TcE2_ok x2)) (al (ue (TcE5_ok x2)) (al (ue (TcE65_ok x2 x7 x0 x8)) (al (ue (TcE74_ok x7 x3 x0 x8 x1 y16)) (repO_ok d hc q _))))) (al (pz (TcE3_ok) []) (al (pz (TcE4_ok) []) (al (pz (TcE66_ok) []) (al (ck (l := .s 0) (k := 8) x0 x8) an)))) h1 h2 (Tm.At.swap (t := Tm1ekm p) (Q := q14) ?_ h3) ?_
  · exact ha
  · intro ρ' a' W' h
    subst h27
    exact hR ρ' a' W' h
def TlCkZU (d : Nat) : List Use := ⟨TcE2, 26, [], k232n⟩ :: ⟨TcE5, 78, [73], k232n⟩ :: ⟨TcE76, 89, [5, 85, 11, 12, 13, 14, 83], k133n⟩ :: ⟨TcE80, 93, TcK5742, k157n⟩ :: repZ d 103
def TlCkZP : List Pur := [⟨161, [k1n], .bool true⟩, ⟨161, [k3n], .bool true⟩, ⟨269, [k21n], .int .i64 0⟩]
def TlCkZ (p : Nat) : Pc := ⟨133, (Tm1zbkm p).f0, 26, (Tm1zbkm p).h0, .norm, [(0, .sint .i64 11), (1, .sint .i64 12), (2, .sint .i64 10), (4, .sint .i64 13), (11, .ptr 0 0), (12, .ptr 22 0), (13, .int .i64 p), (14, .sint .i64 27)], 204, upd (List.take 23 (Tm1zbkm p).h0) [(19, k7n)] ++ [(77, k57n)]⟩
def TlCkZF : Facts := ⟨[(0, 0), (0, 30), (0, 59), (1, 2), (0, 60), (0, 60), (0, 60), (60, 110), (4602678819172646912, 4605380978949069210), (1, 2), (0, 60), (0, 30), (0, 30), (0, 59), (0, 29), (1, 30), (1, 60), (48, 57), (48, 57), (48, 57), (48, 57), (48, 57), (48, 57), (48, 49), (48, 57), (48, 57), (48, 57), (1, 60)], [⟨.add, .i64, .s 2, .c (1), .s 27⟩], [], [], [], [], [], []⟩
theorem TlCkZR : ∀ p, p = 2 → ∀ d, d < 1 → (pcOk (TlCkZ p) (exec (env TlCkZF.sg) (callS TlCkZF (TlCkZU d) TlCkZP) 1000 (bodyOf 4 1) (fr (TlCkZ p).n (TlCkZ p).f0) (mkSt (TlCkZ p).h0 (TlCkZ p).n0)) && (pickOk (TlCkZ p) TcK9b81 k2n (Tm1zbkm p) && swapOk (qf q14) (Tm1zbkm p) ⟨(TlCkZ p).n, (TlCkZ p).f0, (TlCkZ p).n0, (TlCkZ p).h0⟩)) = true :=
  pC (k1 (by kernel_rfl))
theorem TlCkZ_ok (p : Nat) (hp : p = 2) (x0 x1 x2 x3 x4 x5 x6 x7 x8 x9 x10 x11 x12 x13 : Int) (b0 : x0 = 0) (b1 : (0 : Int) ≤ x1 ∧ x1 ≤ 30) (b7 : (60 : Int) ≤ x7 ∧ x7 ≤ 110) (b3 : (1 : Int) ≤ x3 ∧ x3 ≤ 2) (k : Co x2 x3 x4 x5 x6 x8 x9 x10 x11 x12 x13) {ρ : Rho} {a : Act} {W : World} {R : Exit → Act → World → Prop} (ha : (Tm1zbkm p).At W0 (sgl [x0, x1, x2, x3, x4, x5, x6, x7, x8, x9, x10, x11, x12, x13]) ρ a W) (hR : ∀ ρ' a' W', (Tm1zbkm p).At W0 (sgl [x0, x1, ((1) + x2), x3, x4, x5, x6, x7, x8, x9, x10, x11, x12, x13]) ρ' a' W' → R (toExit .norm) a' W') : (bodyOf 4 1).wp Tryz.prog R a W := by
  obtain ⟨b2, _, b4, b5, b6, b8, b9, b10, b11, b12, b13⟩ := k
  have d8 := b8.bd
  obtain ⟨y14, h14⟩ := ex (0)
  obtain ⟨y15, h15⟩ := ex (1)
  obtain ⟨y16, h16⟩ := ex (120 - x7)
  obtain ⟨y17, y18, y19, y20, y21, y22, y23, y24, y25, y26, q⟩ := exRz y14 y15 y16
  have qb := q.bd
  obtain ⟨d, hd, hc⟩ := clZc y16
  obtain ⟨y27, h27⟩ := ex ((1) + x2)
  obtain ⟨h1, h2, h3⟩ := and3 (TlCkZR p hp d hd)
  refine pc_at (W0 := W0) (ρ := ρ) (F := TlCkZF) (us := TlCkZU d) (ps := TlCkZP) (l := [x0, x1, x2, x3, x4, x5, x6, x7, x8, x9, x10, x11, x12, x13, y14, y15, y16, y17, y18, y19, y20, y21, y22, y23, y24, y25, y26, y27]) (e := TlCkZ p) (P := _) (Q := k2n) (t := Tm1zbkm p) ⟨gc (gc (gc (gc (gc (gc (gc (gc (gc (gc (gc (gc (gc (gc (gc (gc (gc (gc (gc (gc (gc (gc (gc (gc (gc (gc (gc (gc trivial))))))))))))))))))))))))))), (al (fA x2 (1) y27) an), an, an, an, an, an, an⟩ (al (ue (TcE2_ok x2)) (al (ue (TcE5_ok x2)) (al (ue (TcE76_ok x2 x7 x8)) (al (ue (TcE80_ok x7 x3 x8 y16)) (repZ_ok d hc q _))))) (al (pz (TcE3_ok) []) (al (pz (TcE4_ok) []) (al (ck (l := .c (0)) (k := 8) (0) x8) an))) h1 h2 (Tm.At.swap (t := Tm1zbkm p) (Q := q14) ?_ h3) ?_
  · exact ha
  · intro ρ' a' W' h
    subst h27
    exact hR ρ' a' W' h
def TlCmOU (d : Nat) : List Use := ⟨TcE2, 26, [], k232n⟩ :: ⟨TcE5, 78, [73], k232n⟩ :: ⟨TcE65, 89, [5, 85, 11, 12, 13, 14, 83], k68n⟩ :: ⟨TcE73, 93, TcK4208, k222n⟩ :: repO d 103
def TlCmOP : List Pur := [⟨161, [k1n], .bool true⟩, ⟨161, [k3n], .bool true⟩, ⟨239, [.str TcK058b], .int .u64 12469190679453589782⟩, ⟨269, [k9n], .int .i64 0⟩]
def TlCmO (p : Nat) : Pc := ⟨133, (Tm1em p).f0, 26, (Tm1em p).h0, .norm, [(0, .sint .i64 11), (1, .sint .i64 12), (2, .sint .i64 10), (4, .sint .i64 13), (11, .ptr 0 0), (12, .ptr 22 0), (13, .int .i64 p), (14, .sint .i64 27)], 204, upd (List.take 25 (Tm1em p).h0) [(19, k7n)] ++ [(77, k57n)]⟩
def TlCmOF : Facts := ⟨[(1, 30), (1, 30), (0, 59), (1, 2), (0, 60), (0, 60), (0, 60), (60, 110), (4602678819172646912, 4605380978949069210), (1, 2), (0, 60), (0, 30), (0, 30), (0, 59), (0, 29), (1, 30), (1, 60), (48, 57), (48, 57), (48, 57), (48, 57), (48, 57), (48, 57), (48, 49), (48, 57), (48, 57), (48, 57), (1, 60)], [⟨.add, .i64, .s 2, .c (1), .s 27⟩], [], [], [], [], [], []⟩
theorem TlCmOR : ∀ p, p = 2 → ∀ d, d < 2 → (pcOk (TlCmO p) (exec (env TlCmOF.sg) (callS TlCmOF (TlCmOU d) TlCmOP) 1000 (bodyOf 4 1) (fr (TlCmO p).n (TlCmO p).f0) (mkSt (TlCmO p).h0 (TlCmO p).n0)) && (pickOk (TlCmO p) TcK420b k2n (Tm1em p) && swapOk (qf q14) (Tm1em p) ⟨(TlCmO p).n, (TlCmO p).f0, (TlCmO p).n0, (TlCmO p).h0⟩)) = true :=
  pC (k2 (by kernel_rfl) (by kernel_rfl))
theorem TlCmO_ok (p : Nat) (hp : p = 2) (x0 x1 x2 x3 x4 x5 x6 x7 x8 x9 x10 x11 x12 x13 : Int) (b0 : (1 : Int) ≤ x0 ∧ x0 ≤ 30) (b1 : (1 : Int) ≤ x1 ∧ x1 ≤ 30) (b7 : (60 : Int) ≤ x7 ∧ x7 ≤ 110) (b3 : (1 : Int) ≤ x3 ∧ x3 ≤ 2) (k : Co x2 x3 x4 x5 x6 x8 x9 x10 x11 x12 x13) (r1 : x0 ≤ x1) {ρ : Rho} {a : Act} {W : World} {R : Exit → Act → World → Prop} (ha : (Tm1em p).At W0 (sgl [x0, x1, x2, x3, x4, x5, x6, x7, x8, x9, x10, x11, x12, x13]) ρ a W) (hR : ∀ ρ' a' W', (Tm1em p).At W0 (sgl [x0, x1, ((1) + x2), x3, x4, x5, x6, x7, x8, x9, x10, x11, x12, x13]) ρ' a' W' → R (toExit .norm) a' W') : (bodyOf 4 1).wp Tryz.prog R a W := by
  obtain ⟨b2, _, b4, b5, b6, b8, b9, b10, b11, b12, b13⟩ := k
  have d8 := b8.bd
  obtain ⟨y14, h14⟩ := ex (0)
  obtain ⟨y15, h15⟩ := ex (x0)
  obtain ⟨y16, h16⟩ := ex (120 - x7)
  obtain ⟨y17, y18, y19, y20, y21, y22, y23, y24, y25, y26, q⟩ := exRp x0 y14 y15 y16
  have qb := q.bd
  obtain ⟨d, hd, hc⟩ := clOc x0 y16
  obtain ⟨y27, h27⟩ := ex ((1) + x2)
  obtain ⟨h1, h2, h3⟩ := and3 (TlCmOR p hp d hd)
  refine pc_at (W0 := W0) (ρ := ρ) (F := TlCmOF) (us := TlCmOU d) (ps := TlCmOP) (l := [x0, x1, x2, x3, x4, x5, x6, x7, x8, x9, x10, x11, x12, x13, y14, y15, y16, y17, y18, y19, y20, y21, y22, y23, y24, y25, y26, y27]) (e := TlCmO p) (P := _) (Q := k2n) (t := Tm1em p) ⟨gc (gc (gc (gc (gc (gc (gc (gc (gc (gc (gc (gc (gc (gc (gc (gc (gc (gc (gc (gc (gc (gc (gc (gc (gc (gc (gc (gc trivial))))))))))))))))))))))))))), (al (fA x2 (1) y27) an), an, an, an, an, an, an⟩ (al (ue (TcE2_ok x2)) (al (ue (TcE5_ok x2)) (al (ue (TcE65_ok x2 x7 x0 x8)) (al (ue (TcE73_ok x7 x3 x0 x8 x1 y16)) (repO_ok d hc q _))))) (al (pz (TcE3_ok) []) (al (pz (TcE4_ok) []) (al (pz (TcE66_ok) []) (al (ck (l := .s 0) (k := 8) x0 x8) an)))) h1 h2 (Tm.At.swap (t := Tm1em p) (Q := q14) ?_ h3) ?_
  · exact ha
  · intro ρ' a' W' h
    subst h27
    exact hR ρ' a' W' h
def TlCmZU (d : Nat) : List Use := ⟨TcE2, 26, [], k232n⟩ :: ⟨TcE5, 78, [73], k232n⟩ :: ⟨TcE76, 89, [5, 85, 11, 12, 13, 14, 83], k133n⟩ :: ⟨TcE79, 93, TcK5742, k157n⟩ :: repZ d 103
def TlCmZP : List Pur := [⟨161, [k1n], .bool true⟩, ⟨161, [k3n], .bool true⟩, ⟨269, [k21n], .int .i64 0⟩]
def TlCmZ (p : Nat) : Pc := ⟨133, (Tm1zbm p).f0, 26, (Tm1zbm p).h0, .norm, [(0, .sint .i64 11), (1, .sint .i64 12), (2, .sint .i64 10), (4, .sint .i64 13), (11, .ptr 0 0), (12, .ptr 22 0), (13, .int .i64 p), (14, .sint .i64 27)], 204, upd (List.take 23 (Tm1zbm p).h0) [(19, k7n)] ++ [(77, k57n)]⟩
def TlCmZF : Facts := ⟨[(0, 0), (0, 30), (0, 59), (1, 2), (0, 60), (0, 60), (0, 60), (60, 110), (4602678819172646912, 4605380978949069210), (1, 2), (0, 60), (0, 30), (0, 30), (0, 59), (0, 29), (1, 30), (1, 60), (48, 57), (48, 57), (48, 57), (48, 57), (48, 57), (48, 57), (48, 49), (48, 57), (48, 57), (48, 57), (1, 60)], [⟨.add, .i64, .s 2, .c (1), .s 27⟩], [], [], [], [], [], []⟩
theorem TlCmZR : ∀ p, p = 2 → ∀ d, d < 1 → (pcOk (TlCmZ p) (exec (env TlCmZF.sg) (callS TlCmZF (TlCmZU d) TlCmZP) 1000 (bodyOf 4 1) (fr (TlCmZ p).n (TlCmZ p).f0) (mkSt (TlCmZ p).h0 (TlCmZ p).n0)) && (pickOk (TlCmZ p) TcK9b81 k2n (Tm1zbm p) && swapOk (qf q14) (Tm1zbm p) ⟨(TlCmZ p).n, (TlCmZ p).f0, (TlCmZ p).n0, (TlCmZ p).h0⟩)) = true :=
  pC (k1 (by kernel_rfl))
theorem TlCmZ_ok (p : Nat) (hp : p = 2) (x0 x1 x2 x3 x4 x5 x6 x7 x8 x9 x10 x11 x12 x13 : Int) (b0 : x0 = 0) (b1 : (0 : Int) ≤ x1 ∧ x1 ≤ 30) (b7 : (60 : Int) ≤ x7 ∧ x7 ≤ 110) (b3 : (1 : Int) ≤ x3 ∧ x3 ≤ 2) (k : Co x2 x3 x4 x5 x6 x8 x9 x10 x11 x12 x13) {ρ : Rho} {a : Act} {W : World} {R : Exit → Act → World → Prop} (ha : (Tm1zbm p).At W0 (sgl [x0, x1, x2, x3, x4, x5, x6, x7, x8, x9, x10, x11, x12, x13]) ρ a W) (hR : ∀ ρ' a' W', (Tm1zbm p).At W0 (sgl [x0, x1, ((1) + x2), x3, x4, x5, x6, x7, x8, x9, x10, x11, x12, x13]) ρ' a' W' → R (toExit .norm) a' W') : (bodyOf 4 1).wp Tryz.prog R a W := by
  obtain ⟨b2, _, b4, b5, b6, b8, b9, b10, b11, b12, b13⟩ := k
  have d8 := b8.bd
  obtain ⟨y14, h14⟩ := ex (0)
  obtain ⟨y15, h15⟩ := ex (1)
  obtain ⟨y16, h16⟩ := ex (120 - x7)
  obtain ⟨y17, y18, y19, y20, y21, y22, y23, y24, y25, y26, q⟩ := exRz y14 y15 y16
  have qb := q.bd
  obtain ⟨d, hd, hc⟩ := clZc y16
  obtain ⟨y27, h27⟩ := ex ((1) + x2)
  obtain ⟨h1, h2, h3⟩ := and3 (TlCmZR p hp d hd)
  refine pc_at (W0 := W0) (ρ := ρ) (F := TlCmZF) (us := TlCmZU d) (ps := TlCmZP) (l := [x0, x1, x2, x3, x4, x5, x6, x7, x8, x9, x10, x11, x12, x13, y14, y15, y16, y17, y18, y19, y20, y21, y22, y23, y24, y25, y26, y27]) (e := TlCmZ p) (P := _) (Q := k2n) (t := Tm1zbm p) ⟨gc (gc (gc (gc (gc (gc (gc (gc (gc (gc (gc (gc (gc (gc (gc (gc (gc (gc (gc (gc (gc (gc (gc (gc (gc (gc (gc (gc trivial))))))))))))))))))))))))))), (al (fA x2 (1) y27) an), an, an, an, an, an, an⟩ (al (ue (TcE2_ok x2)) (al (ue (TcE5_ok x2)) (al (ue (TcE76_ok x2 x7 x8)) (al (ue (TcE79_ok x7 x3 x8 y16)) (repZ_ok d hc q _))))) (al (pz (TcE3_ok) []) (al (pz (TcE4_ok) []) (al (ck (l := .c (0)) (k := 8) (0) x8) an))) h1 h2 (Tm.At.swap (t := Tm1zbm p) (Q := q14) ?_ h3) ?_
  · exact ha
  · intro ρ' a' W' h
    subst h27
    exact hR ρ' a' W' h
end
end Go.Proofs.YtnpkeganpkobjaaGreatDoor.Ev
