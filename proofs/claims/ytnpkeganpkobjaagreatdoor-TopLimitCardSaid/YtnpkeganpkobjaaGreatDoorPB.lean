import Derived.Test.YtnpkeganpkobjaaGreatDoorCG
import Derived.Test.YtnpkeganpkobjaaGreatDoorCK
set_option linter.all false
namespace Go.Proofs.YtnpkeganpkobjaaGreatDoor.Ev
set_option maxRecDepth 100000
set_option maxHeartbeats 4000000
open Go Go.RowKit
variable {W0 : World}
noncomputable section
def TlAbEU (d : Nat) : List Use := ⟨TcE2, 26, [], k232n⟩ :: ⟨TcE5, 78, [73], k232n⟩ :: ⟨TcE9, 89, [5, 85, 11, 12, 13, 14, 83], k68n⟩ :: ⟨TcE30, 93, TcK5742, k220n⟩ :: repL d 106
def TlAbEP : List Pur := [⟨161, [k1n], .bool true⟩, ⟨161, [k3n], .bool true⟩, ⟨269, [k9n], .int .i64 0⟩]
def TlAbE (p : Nat) : Pc := ⟨133, (Tm0b p).f0, 26, (Tm0b p).h0, .norm, [(0, .sint .i64 11), (1, .sint .i64 12), (2, .sint .i64 10), (4, .sint .i64 13), (11, .ptr 0 0), (12, .ptr 22 0), (13, .int .i64 p), (14, .sint .i64 28)], 207, upd (List.take 23 (Tm0b p).h0) [(16, k56n), (17, k70n), (18, k39n), (19, k7n), (20, k11n), (21, k135n), (22, .cells (nl p (.sint .i64 27)))] ++ [(99, k131n), (77, k57n), (97, k17n)]⟩
def TlAbEF (p : Nat) : Facts := ⟨[(1, 30), (0, 30), (0, 59), (1, 2), (0, 60), (0, 60), (0, 60), (0, 59), (4602678819172646912, 4605380978949069210), (1, 2), (0, 60), (0, 30), (0, 30), (0, 59), (0, 29), (1, 30), (1, 60), (48, 57), (48, 57), (48, 57), (48, 57), (48, 57), (48, 57), (48, 49), (48, 57), (48, 57), (48, 57), (1, 61), (1, 60)], [⟨.add, .i64, .s 4, .c (1), .s 27⟩, ⟨.add, .i64, .s 2, .c (1), .s 28⟩], if0 p ⟨.s 2, .s 10, true⟩ [], [], [], [], [], []⟩
theorem TlAbER : ∀ p, p < 2 → ∀ d, d < 4 → (pcOk (TlAbE p) (exec (env (TlAbEF p).sg) (callS (TlAbEF p) (TlAbEU d) TlAbEP) 1000 (bodyOf 4 1) (fr (TlAbE p).n (TlAbE p).f0) (mkSt (TlAbE p).h0 (TlAbE p).n0)) && (pickOk (TlAbE p) TcK68b3 k8n (Tm0em p) && swapOk (qf q14) (Tm0b p) ⟨(TlAbE p).n, (TlAbE p).f0, (TlAbE p).n0, (TlAbE p).h0⟩)) = true :=
  p2 (k4 (by kernel_rfl) (by kernel_rfl) (by kernel_rfl) (by kernel_rfl)) (k4 (by kernel_rfl) (by kernel_rfl) (by kernel_rfl) (by kernel_rfl))
theorem TlAbE_ok (p : Nat) (hp : p < 2) (x0 x1 x2 x3 x4 x5 x6 x7 x8 x9 x10 x11 x12 x13 : Int) (b0 : (1 : Int) ≤ x0 ∧ x0 ≤ 30) (b1 : (0 : Int) ≤ x1 ∧ x1 ≤ 30) (b7 : (0 : Int) ≤ x7 ∧ x7 ≤ 59) (b3 : (1 : Int) ≤ x3 ∧ x3 ≤ 2) (k : Co x2 x3 x4 x5 x6 x8 x9 x10 x11 x12 x13) (r0 : p = 0 → x2 < x10) (r1 : x0 = 1) {ρ : Rho} {a : Act} {W : World} {R : Exit → Act → World → Prop} (ha : (Tm0b p).At W0 (sgl [x0, x1, x2, x3, x4, x5, x6, x7, x8, x9, x10, x11, x12, x13]) ρ a W) (hR : ∀ ρ' a' W', (Tm0em p).At W0 (sgl [x0, (1), ((1) + x2), x3, ((1) + x4), x5, x6, x7, x8, x9, x10, x11, x12, x13]) ρ' a' W' → R (toExit .norm) a' W') : (bodyOf 4 1).wp Tryz.prog R a W := by
  obtain ⟨b2, _, b4, b5, b6, b8, b9, b10, b11, b12, b13⟩ := k
  have d8 := b8.bd
  obtain ⟨y14, h14⟩ := ex (0)
  obtain ⟨y15, h15⟩ := ex (1)
  obtain ⟨y16, h16⟩ := ex (60 - x7)
  obtain ⟨y17, y18, y19, y20, y21, y22, y23, y24, y25, y26, q⟩ := exRp x0 y14 y15 y16
  have qb := q.bd
  obtain ⟨d, hd, hc⟩ := clL x0 y16
  obtain ⟨y27, h27⟩ := ex ((1) + x4)
  obtain ⟨y28, h28⟩ := ex ((1) + x2)
  obtain ⟨h1, h2, h3⟩ := and3 (TlAbER p hp d hd)
  refine pc_at (W0 := W0) (ρ := ρ) (F := (TlAbEF p)) (us := TlAbEU d) (ps := TlAbEP) (l := [x0, x1, x2, x3, x4, x5, x6, x7, x8, x9, x10, x11, x12, x13, y14, y15, y16, y17, y18, y19, y20, y21, y22, y23, y24, y25, y26, y27, y28]) (e := TlAbE p) (P := _) (Q := k8n) (t := Tm0em p) ⟨gc (gc (gc (gc (gc (gc (gc (gc (gc (gc (gc (gc (gc (gc (gc (gc (gc (gc (gc (gc (gc (gc (gc (gc (gc (gc (gc (gc (gc trivial)))))))))))))))))))))))))))), (al (fA x4 (1) y27) (al (fA x2 (1) y28) an)), if0_ok (fun h => fT x2 x10 (r0 h)) an, an, an, an, an, an⟩ (al (ue (TcE2_ok x2)) (al (ue (TcE5_ok x2)) (al (ue (TcE9_ok x2 x7 x0 x8)) (al (ue (TcE30_ok x7 x3 x0 x8 (0) y16)) (repL_ok d hc q _))))) (al (pz (TcE3_ok) []) (al (pz (TcE4_ok) []) (al (ck (l := .s 0) (k := 8) x0 x8) an))) h1 h2 (Tm.At.swap (t := Tm0b p) (Q := q14) ?_ h3) ?_
  · exact ha
  · intro ρ' a' W' h
    subst h28
    subst h27
    exact hR ρ' a' W' h
def TlAbFU (d : Nat) : List Use := ⟨TcE2, 26, [], k232n⟩ :: ⟨TcE5, 78, [73], k232n⟩ :: ⟨TcE9, 89, [5, 85, 11, 12, 13, 14, 83], k68n⟩ :: ⟨TcE11, 93, TcK5742, k263n⟩ :: repW d 105
def TlAbFP : List Pur := [⟨161, [k1n], .bool true⟩, ⟨161, [k3n], .bool true⟩, ⟨269, [k9n], .int .i64 0⟩]
def TlAbF (p : Nat) : Pc := ⟨133, (Tm0b p).f0, 26, (Tm0b p).h0, .norm, [(0, .sint .i64 11), (1, .sint .i64 12), (2, .sint .i64 10), (4, .sint .i64 13), (11, .ptr 0 0), (12, .ptr 22 0), (13, .int .i64 p), (14, .sint .i64 28)], 206, upd (List.take 23 (Tm0b p).h0) [(16, k56n), (17, k70n), (19, k7n), (20, k11n), (21, k135n), (22, .cells (nl p (.sint .i64 27)))] ++ [(99, k131n), (77, k57n), (97, k17n)]⟩
def TlAbFF (p : Nat) : Facts := ⟨[(1, 30), (0, 30), (0, 59), (0, 2), (0, 60), (0, 60), (0, 60), (0, 59), (4602678819172646912, 4605380978949069210), (1, 2), (0, 60), (0, 30), (0, 30), (0, 59), (0, 29), (1, 30), (1, 60), (48, 57), (48, 57), (48, 57), (48, 57), (48, 57), (48, 57), (48, 49), (48, 57), (48, 57), (48, 57), (1, 61), (1, 60)], [⟨.add, .i64, .s 4, .c (1), .s 27⟩, ⟨.add, .i64, .s 2, .c (1), .s 28⟩], if0 p ⟨.s 2, .s 10, true⟩ [], [], [], [], [], []⟩
theorem TlAbFR : ∀ p, p < 2 → ∀ d, d < 6 → (pcOk (TlAbF p) (exec (env (TlAbFF p).sg) (callS (TlAbFF p) (TlAbFU d) TlAbFP) 1000 (bodyOf 4 1) (fr (TlAbF p).n (TlAbF p).f0) (mkSt (TlAbF p).h0 (TlAbF p).n0)) && (pickOk (TlAbF p) TcK68b3 k8n (Tm0e p) && swapOk (qf q14) (Tm0b p) ⟨(TlAbF p).n, (TlAbF p).f0, (TlAbF p).n0, (TlAbF p).h0⟩)) = true :=
  p2 (k6 (by kernel_rfl) (by kernel_rfl) (by kernel_rfl) (by kernel_rfl) (by kernel_rfl) (by kernel_rfl)) (k6 (by kernel_rfl) (by kernel_rfl) (by kernel_rfl) (by kernel_rfl) (by kernel_rfl) (by kernel_rfl))
theorem TlAbF_ok (p : Nat) (hp : p < 2) (x0 x1 x2 x3 x4 x5 x6 x7 x8 x9 x10 x11 x12 x13 : Int) (b0 : (1 : Int) ≤ x0 ∧ x0 ≤ 30) (b1 : (0 : Int) ≤ x1 ∧ x1 ≤ 30) (b7 : (0 : Int) ≤ x7 ∧ x7 ≤ 59) (k : Co x2 x3 x4 x5 x6 x8 x9 x10 x11 x12 x13) (r0 : p = 0 → x2 < x10) (r1 : 2 ≤ x0) {ρ : Rho} {a : Act} {W : World} {R : Exit → Act → World → Prop} (ha : (Tm0b p).At W0 (sgl [x0, x1, x2, x3, x4, x5, x6, x7, x8, x9, x10, x11, x12, x13]) ρ a W) (hR : ∀ ρ' a' W', (Tm0e p).At W0 (sgl [x0, (1), ((1) + x2), x3, ((1) + x4), x5, x6, x7, x8, x9, x10, x11, x12, x13]) ρ' a' W' → R (toExit .norm) a' W') : (bodyOf 4 1).wp Tryz.prog R a W := by
  obtain ⟨b2, b3, b4, b5, b6, b8, b9, b10, b11, b12, b13⟩ := k
  have d8 := b8.bd
  obtain ⟨y14, h14⟩ := ex (x0 - 1)
  obtain ⟨y15, h15⟩ := ex (1)
  obtain ⟨y16, h16⟩ := ex (60 - x7)
  obtain ⟨y17, y18, y19, y20, y21, y22, y23, y24, y25, y26, q⟩ := exRp x0 y14 y15 y16
  have qb := q.bd
  obtain ⟨d, hd, hc⟩ := clW x0 y14 y16
  obtain ⟨y27, h27⟩ := ex ((1) + x4)
  obtain ⟨y28, h28⟩ := ex ((1) + x2)
  obtain ⟨h1, h2, h3⟩ := and3 (TlAbFR p hp d hd)
  refine pc_at (W0 := W0) (ρ := ρ) (F := (TlAbFF p)) (us := TlAbFU d) (ps := TlAbFP) (l := [x0, x1, x2, x3, x4, x5, x6, x7, x8, x9, x10, x11, x12, x13, y14, y15, y16, y17, y18, y19, y20, y21, y22, y23, y24, y25, y26, y27, y28]) (e := TlAbF p) (P := _) (Q := k8n) (t := Tm0e p) ⟨gc (gc (gc (gc (gc (gc (gc (gc (gc (gc (gc (gc (gc (gc (gc (gc (gc (gc (gc (gc (gc (gc (gc (gc (gc (gc (gc (gc (gc trivial)))))))))))))))))))))))))))), (al (fA x4 (1) y27) (al (fA x2 (1) y28) an)), if0_ok (fun h => fT x2 x10 (r0 h)) an, an, an, an, an, an⟩ (al (ue (TcE2_ok x2)) (al (ue (TcE5_ok x2)) (al (ue (TcE9_ok x2 x7 x0 x8)) (al (ue (TcE11_ok x7 x3 x0 x8 y14 y16)) (repW_ok d hc q _))))) (al (pz (TcE3_ok) []) (al (pz (TcE4_ok) []) (al (ck (l := .s 0) (k := 8) x0 x8) an))) h1 h2 (Tm.At.swap (t := Tm0b p) (Q := q14) ?_ h3) ?_
  · exact ha
  · intro ρ' a' W' h
    subst h28
    subst h27
    exact hR ρ' a' W' h
def TlAbZU (d : Nat) : List Use := ⟨TcE2, 26, [], k232n⟩ :: ⟨TcE5, 78, [73], k232n⟩ :: ⟨TcE51, 89, [5, 85, 11, 12, 13, 14, 83], k133n⟩ :: ⟨TcE52, 93, TcK5742, k157n⟩ :: repZ d 103
def TlAbZP : List Pur := [⟨161, [k1n], .bool true⟩, ⟨161, [k3n], .bool true⟩, ⟨269, [k21n], .int .i64 0⟩]
def TlAbZ (p : Nat) : Pc := ⟨133, (Tm0zb p).f0, 26, (Tm0zb p).h0, .norm, [(0, .sint .i64 11), (1, .sint .i64 12), (2, .sint .i64 10), (4, .sint .i64 13), (11, .ptr 0 0), (12, .ptr 22 0), (13, .int .i64 p), (14, .sint .i64 27)], 204, upd (List.take 23 (Tm0zb p).h0) [(18, k39n), (19, k7n)] ++ [(77, k57n)]⟩
def TlAbZF (p : Nat) : Facts := ⟨[(0, 0), (0, 30), (0, 59), (1, 2), (0, 60), (0, 60), (0, 60), (0, 59), (4602678819172646912, 4605380978949069210), (1, 2), (0, 60), (0, 30), (0, 30), (0, 59), (0, 29), (1, 30), (1, 60), (48, 57), (48, 57), (48, 57), (48, 57), (48, 57), (48, 57), (48, 49), (48, 57), (48, 57), (48, 57), (1, 60)], [⟨.add, .i64, .s 2, .c (1), .s 27⟩], if0 p ⟨.s 2, .s 10, true⟩ [], [], [], [], [], []⟩
theorem TlAbZR : ∀ p, p < 2 → ∀ d, d < 2 → (pcOk (TlAbZ p) (exec (env (TlAbZF p).sg) (callS (TlAbZF p) (TlAbZU d) TlAbZP) 1000 (bodyOf 4 1) (fr (TlAbZ p).n (TlAbZ p).f0) (mkSt (TlAbZ p).h0 (TlAbZ p).n0)) && (pickOk (TlAbZ p) TcK9b81 k2n (Tm0zbm p) && swapOk (qf q14) (Tm0zb p) ⟨(TlAbZ p).n, (TlAbZ p).f0, (TlAbZ p).n0, (TlAbZ p).h0⟩)) = true :=
  p2 (k2 (by kernel_rfl) (by kernel_rfl)) (k2 (by kernel_rfl) (by kernel_rfl))
theorem TlAbZ_ok (p : Nat) (hp : p < 2) (x0 x1 x2 x3 x4 x5 x6 x7 x8 x9 x10 x11 x12 x13 : Int) (b0 : x0 = 0) (b1 : (0 : Int) ≤ x1 ∧ x1 ≤ 30) (b7 : (0 : Int) ≤ x7 ∧ x7 ≤ 59) (b3 : (1 : Int) ≤ x3 ∧ x3 ≤ 2) (k : Co x2 x3 x4 x5 x6 x8 x9 x10 x11 x12 x13) (r0 : p = 0 → x2 < x10) {ρ : Rho} {a : Act} {W : World} {R : Exit → Act → World → Prop} (ha : (Tm0zb p).At W0 (sgl [x0, x1, x2, x3, x4, x5, x6, x7, x8, x9, x10, x11, x12, x13]) ρ a W) (hR : ∀ ρ' a' W', (Tm0zbm p).At W0 (sgl [x0, x1, ((1) + x2), x3, x4, x5, x6, x7, x8, x9, x10, x11, x12, x13]) ρ' a' W' → R (toExit .norm) a' W') : (bodyOf 4 1).wp Tryz.prog R a W := by
  obtain ⟨b2, _, b4, b5, b6, b8, b9, b10, b11, b12, b13⟩ := k
  have d8 := b8.bd
  obtain ⟨y14, h14⟩ := ex (0)
  obtain ⟨y15, h15⟩ := ex (1)
  obtain ⟨y16, h16⟩ := ex (60 - x7)
  obtain ⟨y17, y18, y19, y20, y21, y22, y23, y24, y25, y26, q⟩ := exRz y14 y15 y16
  have qb := q.bd
  obtain ⟨d, hd, hc⟩ := clZ y16
  obtain ⟨y27, h27⟩ := ex ((1) + x2)
  obtain ⟨h1, h2, h3⟩ := and3 (TlAbZR p hp d hd)
  refine pc_at (W0 := W0) (ρ := ρ) (F := (TlAbZF p)) (us := TlAbZU d) (ps := TlAbZP) (l := [x0, x1, x2, x3, x4, x5, x6, x7, x8, x9, x10, x11, x12, x13, y14, y15, y16, y17, y18, y19, y20, y21, y22, y23, y24, y25, y26, y27]) (e := TlAbZ p) (P := _) (Q := k2n) (t := Tm0zbm p) ⟨gc (gc (gc (gc (gc (gc (gc (gc (gc (gc (gc (gc (gc (gc (gc (gc (gc (gc (gc (gc (gc (gc (gc (gc (gc (gc (gc (gc trivial))))))))))))))))))))))))))), (al (fA x2 (1) y27) an), if0_ok (fun h => fT x2 x10 (r0 h)) an, an, an, an, an, an⟩ (al (ue (TcE2_ok x2)) (al (ue (TcE5_ok x2)) (al (ue (TcE51_ok x2 x7 x8)) (al (ue (TcE52_ok x7 x3 x8 y16)) (repZ_ok d hc q _))))) (al (pz (TcE3_ok) []) (al (pz (TcE4_ok) []) (al (ck (l := .c (0)) (k := 8) (0) x8) an))) h1 h2 (Tm.At.swap (t := Tm0zb p) (Q := q14) ?_ h3) ?_
  · exact ha
  · intro ρ' a' W' h
    subst h27
    exact hR ρ' a' W' h
def TlAbmZU (d : Nat) : List Use := ⟨TcE2, 26, [], k232n⟩ :: ⟨TcE5, 78, [73], k232n⟩ :: ⟨TcE51, 89, [5, 85, 11, 12, 13, 14, 83], k133n⟩ :: ⟨TcE61, 93, TcK5742, k157n⟩ :: repZ d 103
def TlAbmZP : List Pur := [⟨161, [k1n], .bool true⟩, ⟨161, [k3n], .bool true⟩, ⟨269, [k21n], .int .i64 0⟩]
def TlAbmZ (p : Nat) : Pc := ⟨133, (Tm0zbm p).f0, 26, (Tm0zbm p).h0, .norm, [(0, .sint .i64 11), (1, .sint .i64 12), (2, .sint .i64 10), (4, .sint .i64 13), (11, .ptr 0 0), (12, .ptr 22 0), (13, .int .i64 p), (14, .sint .i64 27)], 204, upd (List.take 23 (Tm0zbm p).h0) [(19, k7n)] ++ [(77, k57n)]⟩
def TlAbmZF (p : Nat) : Facts := ⟨[(0, 0), (0, 30), (0, 59), (1, 2), (0, 60), (0, 60), (0, 60), (0, 59), (4602678819172646912, 4605380978949069210), (1, 2), (0, 60), (0, 30), (0, 30), (0, 59), (0, 29), (1, 30), (1, 60), (48, 57), (48, 57), (48, 57), (48, 57), (48, 57), (48, 57), (48, 49), (48, 57), (48, 57), (48, 57), (1, 60)], [⟨.add, .i64, .s 2, .c (1), .s 27⟩], if0 p ⟨.s 2, .s 10, true⟩ [], [], [], [], [], []⟩
theorem TlAbmZR : ∀ p, p < 2 → ∀ d, d < 2 → (pcOk (TlAbmZ p) (exec (env (TlAbmZF p).sg) (callS (TlAbmZF p) (TlAbmZU d) TlAbmZP) 1000 (bodyOf 4 1) (fr (TlAbmZ p).n (TlAbmZ p).f0) (mkSt (TlAbmZ p).h0 (TlAbmZ p).n0)) && (pickOk (TlAbmZ p) TcK9b81 k2n (Tm0zbm p) && swapOk (qf q14) (Tm0zbm p) ⟨(TlAbmZ p).n, (TlAbmZ p).f0, (TlAbmZ p).n0, (TlAbmZ p).h0⟩)) = true :=
  p2 (k2 (by kernel_rfl) (by kernel_rfl)) (k2 (by kernel_rfl) (by kernel_rfl))
theorem TlAbmZ_ok (p : Nat) (hp : p < 2) (x0 x1 x2 x3 x4 x5 x6 x7 x8 x9 x10 x11 x12 x13 : Int) (b0 : x0 = 0) (b1 : (0 : Int) ≤ x1 ∧ x1 ≤ 30) (b7 : (0 : Int) ≤ x7 ∧ x7 ≤ 59) (b3 : (1 : Int) ≤ x3 ∧ x3 ≤ 2) (k : Co x2 x3 x4 x5 x6 x8 x9 x10 x11 x12 x13) (r0 : p = 0 → x2 < x10) {ρ : Rho} {a : Act} {W : World} {R : Exit → Act → World → Prop} (ha : (Tm0zbm p).At W0 (sgl [x0, x1, x2, x3, x4, x5, x6, x7, x8, x9, x10, x11, x12, x13]) ρ a W) (hR : ∀ ρ' a' W', (Tm0zbm p).At W0 (sgl [x0, x1, ((1) + x2), x3, x4, x5, x6, x7, x8, x9, x10, x11, x12, x13]) ρ' a' W' → R (toExit .norm) a' W') : (bodyOf 4 1).wp Tryz.prog R a W := by
  obtain ⟨b2, _, b4, b5, b6, b8, b9, b10, b11, b12, b13⟩ := k
  have d8 := b8.bd
  obtain ⟨y14, h14⟩ := ex (0)
  obtain ⟨y15, h15⟩ := ex (1)
  obtain ⟨y16, h16⟩ := ex (60 - x7)
  obtain ⟨y17, y18, y19, y20, y21, y22, y23, y24, y25, y26, q⟩ := exRz y14 y15 y16
  have qb := q.bd
  obtain ⟨d, hd, hc⟩ := clZ y16
  obtain ⟨y27, h27⟩ := ex ((1) + x2)
  obtain ⟨h1, h2, h3⟩ := and3 (TlAbmZR p hp d hd)
  refine pc_at (W0 := W0) (ρ := ρ) (F := (TlAbmZF p)) (us := TlAbmZU d) (ps := TlAbmZP) (l := [x0, x1, x2, x3, x4, x5, x6, x7, x8, x9, x10, x11, x12, x13, y14, y15, y16, y17, y18, y19, y20, y21, y22, y23, y24, y25, y26, y27]) (e := TlAbmZ p) (P := _) (Q := k2n) (t := Tm0zbm p) ⟨gc (gc (gc (gc (gc (gc (gc (gc (gc (gc (gc (gc (gc (gc (gc (gc (gc (gc (gc (gc (gc (gc (gc (gc (gc (gc (gc (gc trivial))))))))))))))))))))))))))), (al (fA x2 (1) y27) an), if0_ok (fun h => fT x2 x10 (r0 h)) an, an, an, an, an, an⟩ (al (ue (TcE2_ok x2)) (al (ue (TcE5_ok x2)) (al (ue (TcE51_ok x2 x7 x8)) (al (ue (TcE61_ok x7 x3 x8 y16)) (repZ_ok d hc q _))))) (al (pz (TcE3_ok) []) (al (pz (TcE4_ok) []) (al (ck (l := .c (0)) (k := 8) (0) x8) an))) h1 h2 (Tm.At.swap (t := Tm0zbm p) (Q := q14) ?_ h3) ?_
  · exact ha
  · intro ρ' a' W' h
    subst h27
    exact hR ρ' a' W' h
def TlAboEU (d : Nat) : List Use := ⟨TcE2, 26, [], k232n⟩ :: ⟨TcE5, 78, [73], k232n⟩ :: ⟨TcE9, 89, [5, 85, 11, 12, 13, 14, 83], k68n⟩ :: ⟨TcE38, 93, TcK5742, k290n⟩ :: repL d 105
def TlAboEP : List Pur := [⟨161, [k1n], .bool true⟩, ⟨161, [k3n], .bool true⟩, ⟨269, [k9n], .int .i64 0⟩]
def TlAboE (p : Nat) : Pc := ⟨133, (Tm0bo p).f0, 26, (Tm0bo p).h0, .norm, [(0, .sint .i64 11), (1, .sint .i64 12), (2, .sint .i64 10), (4, .sint .i64 13), (11, .ptr 0 0), (12, .ptr 22 0), (13, .int .i64 p), (14, .sint .i64 28)], 206, upd (List.take 23 (Tm0bo p).h0) [(16, k56n), (17, k70n), (19, k7n), (20, k11n), (21, k135n), (22, .cells (nl p (.sint .i64 27)))] ++ [(99, k131n), (77, k57n), (97, k17n)]⟩
def TlAboEF (p : Nat) : Facts := ⟨[(1, 30), (0, 30), (0, 59), (0, 2), (0, 60), (0, 60), (0, 60), (0, 59), (4602678819172646912, 4605380978949069210), (1, 2), (0, 60), (0, 30), (0, 30), (0, 59), (0, 29), (1, 30), (1, 60), (48, 57), (48, 57), (48, 57), (48, 57), (48, 57), (48, 57), (48, 49), (48, 57), (48, 57), (48, 57), (1, 61), (1, 60)], [⟨.add, .i64, .s 4, .c (1), .s 27⟩, ⟨.add, .i64, .s 2, .c (1), .s 28⟩], if0 p ⟨.s 2, .s 10, true⟩ [], [], [], [], [], []⟩
theorem TlAboER : ∀ p, p < 2 → ∀ d, d < 4 → (pcOk (TlAboE p) (exec (env (TlAboEF p).sg) (callS (TlAboEF p) (TlAboEU d) TlAboEP) 1000 (bodyOf 4 1) (fr (TlAboE p).n (TlAboE p).f0) (mkSt (TlAboE p).h0 (TlAboE p).n0)) && (pickOk (TlAboE p) TcK68b3 k8n (Tm0eo p) && swapOk (qf q14) (Tm0bo p) ⟨(TlAboE p).n, (TlAboE p).f0, (TlAboE p).n0, (TlAboE p).h0⟩)) = true :=
  p2 (k4 (by kernel_rfl) (by kernel_rfl) (by kernel_rfl) (by kernel_rfl)) (k4 (by kernel_rfl) (by kernel_rfl) (by kernel_rfl) (by kernel_rfl))
theorem TlAboE_ok (p : Nat) (hp : p < 2) (x0 x1 x2 x3 x4 x5 x6 x7 x8 x9 x10 x11 x12 x13 : Int) (b0 : (1 : Int) ≤ x0 ∧ x0 ≤ 30) (b1 : (0 : Int) ≤ x1 ∧ x1 ≤ 30) (b7 : (0 : Int) ≤ x7 ∧ x7 ≤ 59) (k : Co x2 x3 x4 x5 x6 x8 x9 x10 x11 x12 x13) (r0 : p = 0 → x2 < x10) (r1 : x0 = 1) {ρ : Rho} {a : Act} {W : World} {R : Exit → Act → World → Prop} (ha : (Tm0bo p).At W0 (sgl [x0, x1, x2, x3, x4, x5, x6, x7, x8, x9, x10, x11, x12, x13]) ρ a W) (hR : ∀ ρ' a' W', (Tm0eo p).At W0 (sgl [x0, (1), ((1) + x2), x3, ((1) + x4), x5, x6, x7, x8, x9, x10, x11, x12, x13]) ρ' a' W' → R (toExit .norm) a' W') : (bodyOf 4 1).wp Tryz.prog R a W := by
  obtain ⟨b2, b3, b4, b5, b6, b8, b9, b10, b11, b12, b13⟩ := k
  have d8 := b8.bd
  obtain ⟨y14, h14⟩ := ex (0)
  obtain ⟨y15, h15⟩ := ex (1)
  obtain ⟨y16, h16⟩ := ex (60 - x7)
  obtain ⟨y17, y18, y19, y20, y21, y22, y23, y24, y25, y26, q⟩ := exRp x0 y14 y15 y16
  have qb := q.bd
  obtain ⟨d, hd, hc⟩ := clL x0 y16
  obtain ⟨y27, h27⟩ := ex ((1) + x4)
  obtain ⟨y28, h28⟩ := ex ((1) + x2)
  obtain ⟨h1, h2, h3⟩ := and3 (TlAboER p hp d hd)
  refine pc_at (W0 := W0) (ρ := ρ) (F := (TlAboEF p)) (us := TlAboEU d) (ps := TlAboEP) (l := [x0, x1, x2, x3, x4, x5, x6, x7, x8, x9, x10, x11, x12, x13, y14, y15, y16, y17, y18, y19, y20, y21, y22, y23, y24, y25, y26, y27, y28]) (e := TlAboE p) (P := _) (Q := k8n) (t := Tm0eo p) ⟨gc (gc (gc (gc (gc (gc (gc (gc (gc (gc (gc (gc (gc (gc (gc (gc (gc (gc (gc (gc (gc (gc (gc (gc (gc (gc (gc (gc (gc trivial)))))))))))))))))))))))))))), (al (fA x4 (1) y27) (al (fA x2 (1) y28) an)), if0_ok (fun h => fT x2 x10 (r0 h)) an, an, an, an, an, an⟩ (al (ue (TcE2_ok x2)) (al (ue (TcE5_ok x2)) (al (ue (TcE9_ok x2 x7 x0 x8)) (al (ue (TcE38_ok x7 x0 x8 (0) y16)) (repL_ok d hc q _))))) (al (pz (TcE3_ok) []) (al (pz (TcE4_ok) []) (al (ck (l := .s 0) (k := 8) x0 x8) an))) h1 h2 (Tm.At.swap (t := Tm0bo p) (Q := q14) ?_ h3) ?_
  · exact ha
  · intro ρ' a' W' h
    subst h28
    subst h27
    exact hR ρ' a' W' h
def TlAboZU (d : Nat) : List Use := ⟨TcE2, 26, [], k232n⟩ :: ⟨TcE5, 78, [73], k232n⟩ :: ⟨TcE51, 89, [5, 85, 11, 12, 13, 14, 83], k133n⟩ :: ⟨TcE60, 93, TcK5742, [.s 7, .s 8, .s 16]⟩ :: repZ d 102
def TlAboZP : List Pur := [⟨161, [k1n], .bool true⟩, ⟨161, [k3n], .bool true⟩, ⟨269, [k21n], .int .i64 0⟩]
def TlAboZ (p : Nat) : Pc := ⟨133, (Tm0zbo p).f0, 26, (Tm0zbo p).h0, .norm, [(0, .sint .i64 11), (1, .sint .i64 12), (2, .sint .i64 10), (4, .sint .i64 13), (11, .ptr 0 0), (12, .ptr 22 0), (13, .int .i64 p), (14, .sint .i64 27)], 203, upd (List.take 23 (Tm0zbo p).h0) [(19, k7n)] ++ [(77, k57n)]⟩
def TlAboZF (p : Nat) : Facts := ⟨[(0, 0), (0, 30), (0, 59), (0, 2), (0, 60), (0, 60), (0, 60), (0, 59), (4602678819172646912, 4605380978949069210), (1, 2), (0, 60), (0, 30), (0, 30), (0, 59), (0, 29), (1, 30), (1, 60), (48, 57), (48, 57), (48, 57), (48, 57), (48, 57), (48, 57), (48, 49), (48, 57), (48, 57), (48, 57), (1, 60)], [⟨.add, .i64, .s 2, .c (1), .s 27⟩], if0 p ⟨.s 2, .s 10, true⟩ [], [], [], [], [], []⟩
theorem TlAboZR : ∀ p, p < 2 → ∀ d, d < 2 → (pcOk (TlAboZ p) (exec (env (TlAboZF p).sg) (callS (TlAboZF p) (TlAboZU d) TlAboZP) 1000 (bodyOf 4 1) (fr (TlAboZ p).n (TlAboZ p).f0) (mkSt (TlAboZ p).h0 (TlAboZ p).n0)) && (pickOk (TlAboZ p) TcK9b81 k2n (Tm0zbo p) && swapOk (qf q14) (Tm0zbo p) ⟨(TlAboZ p).n, (TlAboZ p).f0, (TlAboZ p).n0, (TlAboZ p).h0⟩)) = true :=
  p2 (k2 (by kernel_rfl) (by kernel_rfl)) (k2 (by kernel_rfl) (by kernel_rfl))
theorem TlAboZ_ok (p : Nat) (hp : p < 2) (x0 x1 x2 x3 x4 x5 x6 x7 x8 x9 x10 x11 x12 x13 : Int) (b0 : x0 = 0) (b1 : (0 : Int) ≤ x1 ∧ x1 ≤ 30) (b7 : (0 : Int) ≤ x7 ∧ x7 ≤ 59) (k : Co x2 x3 x4 x5 x6 x8 x9 x10 x11 x12 x13) (r0 : p = 0 → x2 < x10) {ρ : Rho} {a : Act} {W : World} {R : Exit → Act → World → Prop} (ha : (Tm0zbo p).At W0 (sgl [x0, x1, x2, x3, x4, x5, x6, x7, x8, x9, x10, x11, x12, x13]) ρ a W) (hR : ∀ ρ' a' W', (Tm0zbo p).At W0 (sgl [x0, x1, ((1) + x2), x3, x4, x5, x6, x7, x8, x9, x10, x11, x12, x13]) ρ' a' W' → R (toExit .norm) a' W') : (bodyOf 4 1).wp Tryz.prog R a W := by
  obtain ⟨b2, b3, b4, b5, b6, b8, b9, b10, b11, b12, b13⟩ := k
  have d8 := b8.bd
  obtain ⟨y14, h14⟩ := ex (0)
  obtain ⟨y15, h15⟩ := ex (1)
  obtain ⟨y16, h16⟩ := ex (60 - x7)
  obtain ⟨y17, y18, y19, y20, y21, y22, y23, y24, y25, y26, q⟩ := exRz y14 y15 y16
  have qb := q.bd
  obtain ⟨d, hd, hc⟩ := clZ y16
  obtain ⟨y27, h27⟩ := ex ((1) + x2)
  obtain ⟨h1, h2, h3⟩ := and3 (TlAboZR p hp d hd)
  refine pc_at (W0 := W0) (ρ := ρ) (F := (TlAboZF p)) (us := TlAboZU d) (ps := TlAboZP) (l := [x0, x1, x2, x3, x4, x5, x6, x7, x8, x9, x10, x11, x12, x13, y14, y15, y16, y17, y18, y19, y20, y21, y22, y23, y24, y25, y26, y27]) (e := TlAboZ p) (P := _) (Q := k2n) (t := Tm0zbo p) ⟨gc (gc (gc (gc (gc (gc (gc (gc (gc (gc (gc (gc (gc (gc (gc (gc (gc (gc (gc (gc (gc (gc (gc (gc (gc (gc (gc (gc trivial))))))))))))))))))))))))))), (al (fA x2 (1) y27) an), if0_ok (fun h => fT x2 x10 (r0 h)) an, an, an, an, an, an⟩ (al (ue (TcE2_ok x2)) (al (ue (TcE5_ok x2)) (al (ue (TcE51_ok x2 x7 x8)) (al (ue (TcE60_ok x7 x8 y16)) (repZ_ok d hc q _))))) (al (pz (TcE3_ok) []) (al (pz (TcE4_ok) []) (al (ck (l := .c (0)) (k := 8) (0) x8) an))) h1 h2 (Tm.At.swap (t := Tm0zbo p) (Q := q14) ?_ h3) ?_
  · exact ha
  · intro ρ' a' W' h
    subst h27
    exact hR ρ' a' W' h
def TlAeZU (d : Nat) : List Use := ⟨TcE2, 26, [], k232n⟩ :: ⟨TcE5, 78, [73], k232n⟩ :: ⟨TcE51, 89, [5, 85, 11, 12, 13, 14, 83], k133n⟩ :: ⟨TcE62, 93, TcK4208, [.s 7, .s 3, .s 8, .s 1, .s 16]⟩ :: repZ d 103
def TlAeZP : List Pur := [⟨161, [k1n], .bool true⟩, ⟨161, [k3n], .bool true⟩, ⟨269, [k21n], .int .i64 0⟩]
def TlAeZ (p : Nat) : Pc := ⟨133, (Tm0ze p).f0, 26, (Tm0ze p).h0, .norm, [(0, .sint .i64 11), (1, .sint .i64 12), (2, .sint .i64 10), (4, .sint .i64 13), (11, .ptr 0 0), (12, .ptr 22 0), (13, .int .i64 p), (14, .sint .i64 27)], 204, upd (List.take 25 (Tm0ze p).h0) [(18, k39n), (19, k7n)] ++ [(77, k57n)]⟩
def TlAeZF (p : Nat) : Facts := ⟨[(0, 0), (1, 30), (0, 59), (1, 2), (0, 60), (0, 60), (0, 60), (0, 59), (4602678819172646912, 4605380978949069210), (1, 2), (0, 60), (0, 30), (0, 30), (0, 59), (0, 29), (1, 30), (1, 60), (48, 57), (48, 57), (48, 57), (48, 57), (48, 57), (48, 57), (48, 49), (48, 57), (48, 57), (48, 57), (1, 60)], [⟨.add, .i64, .s 2, .c (1), .s 27⟩], if0 p ⟨.s 2, .s 10, true⟩ [], [], [], [], [], []⟩
theorem TlAeZR : ∀ p, p < 2 → ∀ d, d < 2 → (pcOk (TlAeZ p) (exec (env (TlAeZF p).sg) (callS (TlAeZF p) (TlAeZU d) TlAeZP) 1000 (bodyOf 4 1) (fr (TlAeZ p).n (TlAeZ p).f0) (mkSt (TlAeZ p).h0 (TlAeZ p).n0)) && (pickOk (TlAeZ p) TcK420b k2n (Tm0zem p) && swapOk (qf q14) (Tm0ze p) ⟨(TlAeZ p).n, (TlAeZ p).f0, (TlAeZ p).n0, (TlAeZ p).h0⟩)) = true :=
  p2 (k2 (by kernel_rfl) (by kernel_rfl)) (k2 (by kernel_rfl) (by kernel_rfl))
theorem TlAeZ_ok (p : Nat) (hp : p < 2) (x0 x1 x2 x3 x4 x5 x6 x7 x8 x9 x10 x11 x12 x13 : Int) (b0 : x0 = 0) (b1 : (1 : Int) ≤ x1 ∧ x1 ≤ 30) (b7 : (0 : Int) ≤ x7 ∧ x7 ≤ 59) (b3 : (1 : Int) ≤ x3 ∧ x3 ≤ 2) (k : Co x2 x3 x4 x5 x6 x8 x9 x10 x11 x12 x13) (r0 : p = 0 → x2 < x10) {ρ : Rho} {a : Act} {W : World} {R : Exit → Act → World → Prop} (ha : (Tm0ze p).At W0 (sgl [x0, x1, x2, x3, x4, x5, x6, x7, x8, x9, x10, x11, x12, x13]) ρ a W) (hR : ∀ ρ' a' W', (Tm0zem p).At W0 (sgl [x0, x1, ((1) + x2), x3, x4, x5, x6, x7, x8, x9, x10, x11, x12, x13]) ρ' a' W' → R (toExit .norm) a' W') : (bodyOf 4 1).wp Tryz.prog R a W := by
  obtain ⟨b2, _, b4, b5, b6, b8, b9, b10, b11, b12, b13⟩ := k
  have d8 := b8.bd
  obtain ⟨y14, h14⟩ := ex (0)
  obtain ⟨y15, h15⟩ := ex (1)
  obtain ⟨y16, h16⟩ := ex (60 - x7)
  obtain ⟨y17, y18, y19, y20, y21, y22, y23, y24, y25, y26, q⟩ := exRz y14 y15 y16
  have qb := q.bd
  obtain ⟨d, hd, hc⟩ := clZ y16
  obtain ⟨y27, h27⟩ := ex ((1) + x2)
  obtain ⟨h1, h2, h3⟩ := and3 (TlAeZR p hp d hd)
  refine pc_at (W0 := W0) (ρ := ρ) (F := (TlAeZF p)) (us := TlAeZU d) (ps := TlAeZP) (l := [x0, x1, x2, x3, x4, x5, x6, x7, x8, x9, x10, x11, x12, x13, y14, y15, y16, y17, y18, y19, y20, y21, y22, y23, y24, y25, y26, y27]) (e := TlAeZ p) (P := _) (Q := k2n) (t := Tm0zem p) ⟨gc (gc (gc (gc (gc (gc (gc (gc (gc (gc (gc (gc (gc (gc (gc (gc (gc (gc (gc (gc (gc (gc (gc (gc (gc (gc (gc (gc trivial))))))))))))))))))))))))))), (al (fA x2 (1) y27) an), if0_ok (fun h => fT x2 x10 (r0 h)) an, an, an, an, an, an⟩ (al (ue (TcE2_ok x2)) (al (ue (TcE5_ok x2)) (al (ue (TcE51_ok x2 x7 x8)) (al (ue (TcE62_ok x7 x3 x8 x1 y16)) (repZ_ok d hc q _))))) (al (pz (TcE3_ok) []) (al (pz (TcE4_ok) []) (al (ck (l := .c (0)) (k := 8) (0) x8) an))) h1 h2 (Tm.At.swap (t := Tm0ze p) (Q := q14) ?_ h3) ?_
  · exact ha
  · intro ρ' a' W' h
    subst h27
    exact hR ρ' a' W' h
def TlAemZU (d : Nat) : List Use := ⟨TcE2, 26, [], k232n⟩ :: ⟨TcE5, 78, [73], k232n⟩ :: ⟨TcE51, 89, [5, 85, 11, 12, 13, 14, 83], k133n⟩ :: ⟨TcE64, 93, TcK4208, [.s 7, .s 3, .s 8, .s 1, .s 16]⟩ :: repZ d 103
def TlAemZP : List Pur := [⟨161, [k1n], .bool true⟩, ⟨161, [k3n], .bool true⟩, ⟨269, [k21n], .int .i64 0⟩]
def TlAemZ (p : Nat) : Pc := ⟨133, (Tm0zem p).f0, 26, (Tm0zem p).h0, .norm, [(0, .sint .i64 11), (1, .sint .i64 12), (2, .sint .i64 10), (4, .sint .i64 13), (11, .ptr 0 0), (12, .ptr 22 0), (13, .int .i64 p), (14, .sint .i64 27)], 204, upd (List.take 25 (Tm0zem p).h0) [(19, k7n)] ++ [(77, k57n)]⟩
def TlAemZF (p : Nat) : Facts := ⟨[(0, 0), (1, 30), (0, 59), (1, 2), (0, 60), (0, 60), (0, 60), (0, 59), (4602678819172646912, 4605380978949069210), (1, 2), (0, 60), (0, 30), (0, 30), (0, 59), (0, 29), (1, 30), (1, 60), (48, 57), (48, 57), (48, 57), (48, 57), (48, 57), (48, 57), (48, 49), (48, 57), (48, 57), (48, 57), (1, 60)], [⟨.add, .i64, .s 2, .c (1), .s 27⟩], if0 p ⟨.s 2, .s 10, true⟩ [], [], [], [], [], []⟩
theorem TlAemZR : ∀ p, p < 2 → ∀ d, d < 2 → (pcOk (TlAemZ p) (exec (env (TlAemZF p).sg) (callS (TlAemZF p) (TlAemZU d) TlAemZP) 1000 (bodyOf 4 1) (fr (TlAemZ p).n (TlAemZ p).f0) (mkSt (TlAemZ p).h0 (TlAemZ p).n0)) && (pickOk (TlAemZ p) TcK420b k2n (Tm0zem p) && swapOk (qf q14) (Tm0zem p) ⟨(TlAemZ p).n, (TlAemZ p).f0, (TlAemZ p).n0, (TlAemZ p).h0⟩)) = true :=
  p2 (k2 (by kernel_rfl) (by kernel_rfl)) (k2 (by kernel_rfl) (by kernel_rfl))
theorem TlAemZ_ok (p : Nat) (hp : p < 2) (x0 x1 x2 x3 x4 x5 x6 x7 x8 x9 x10 x11 x12 x13 : Int) (b0 : x0 = 0) (b1 : (1 : Int) ≤ x1 ∧ x1 ≤ 30) (b7 : (0 : Int) ≤ x7 ∧ x7 ≤ 59) (b3 : (1 : Int) ≤ x3 ∧ x3 ≤ 2) (k : Co x2 x3 x4 x5 x6 x8 x9 x10 x11 x12 x13) (r0 : p = 0 → x2 < x10) {ρ : Rho} {a : Act} {W : World} {R : Exit → Act → World → Prop} (ha : (Tm0zem p).At W0 (sgl [x0, x1, x2, x3, x4, x5, x6, x7, x8, x9, x10, x11, x12, x13]) ρ a W) (hR : ∀ ρ' a' W', (Tm0zem p).At W0 (sgl [x0, x1, ((1) + x2), x3, x4, x5, x6, x7, x8, x9, x10, x11, x12, x13]) ρ' a' W' → R (toExit .norm) a' W') : (bodyOf 4 1).wp Tryz.prog R a W := by
  obtain ⟨b2, _, b4, b5, b6, b8, b9, b10, b11, b12, b13⟩ := k
  have d8 := b8.bd
  obtain ⟨y14, h14⟩ := ex (0)
  obtain ⟨y15, h15⟩ := ex (1)
  obtain ⟨y16, h16⟩ := ex (60 - x7)
  obtain ⟨y17, y18, y19, y20, y21, y22, y23, y24, y25, y26, q⟩ := exRz y14 y15 y16
  have qb := q.bd
  obtain ⟨d, hd, hc⟩ := clZ y16
  obtain ⟨y27, h27⟩ := ex ((1) + x2)
  obtain ⟨h1, h2, h3⟩ := and3 (TlAemZR p hp d hd)
  refine pc_at (W0 := W0) (ρ := ρ) (F := (TlAemZF p)) (us := TlAemZU d) (ps := TlAemZP) (l := [x0, x1, x2, x3, x4, x5, x6, x7, x8, x9, x10, x11, x12, x13, y14, y15, y16, y17, y18, y19, y20, y21, y22, y23, y24, y25, y26, y27]) (e := TlAemZ p) (P := _) (Q := k2n) (t := Tm0zem p) ⟨gc (gc (gc (gc (gc (gc (gc (gc (gc (gc (gc (gc (gc (gc (gc (gc (gc (gc (gc (gc (gc (gc (gc (gc (gc (gc (gc (gc trivial))))))))))))))))))))))))))), (al (fA x2 (1) y27) an), if0_ok (fun h => fT x2 x10 (r0 h)) an, an, an, an, an, an⟩ (al (ue (TcE2_ok x2)) (al (ue (TcE5_ok x2)) (al (ue (TcE51_ok x2 x7 x8)) (al (ue (TcE64_ok x7 x3 x8 x1 y16)) (repZ_ok d hc q _))))) (al (pz (TcE3_ok) []) (al (pz (TcE4_ok) []) (al (ck (l := .c (0)) (k := 8) (0) x8) an))) h1 h2 (Tm.At.swap (t := Tm0zem p) (Q := q14) ?_ h3) ?_
  · exact ha
  · intro ρ' a' W' h
    subst h27
    exact hR ρ' a' W' h
def TlAeoZU (d : Nat) : List Use := ⟨TcE2, 26, [], k232n⟩ :: ⟨TcE5, 78, [73], k232n⟩ :: ⟨TcE51, 89, [5, 85, 11, 12, 13, 14, 83], k133n⟩ :: ⟨TcE63, 93, TcK4208, [.s 7, .s 8, .s 1, .s 16]⟩ :: repZ d 102
def TlAeoZP : List Pur := [⟨161, [k1n], .bool true⟩, ⟨161, [k3n], .bool true⟩, ⟨269, [k21n], .int .i64 0⟩]
def TlAeoZ (p : Nat) : Pc := ⟨133, (Tm0zeo p).f0, 26, (Tm0zeo p).h0, .norm, [(0, .sint .i64 11), (1, .sint .i64 12), (2, .sint .i64 10), (4, .sint .i64 13), (11, .ptr 0 0), (12, .ptr 22 0), (13, .int .i64 p), (14, .sint .i64 27)], 203, upd (List.take 25 (Tm0zeo p).h0) [(19, k7n)] ++ [(77, k57n)]⟩
def TlAeoZF (p : Nat) : Facts := ⟨[(0, 0), (1, 30), (0, 59), (0, 2), (0, 60), (0, 60), (0, 60), (0, 59), (4602678819172646912, 4605380978949069210), (1, 2), (0, 60), (0, 30), (0, 30), (0, 59), (0, 29), (1, 30), (1, 60), (48, 57), (48, 57), (48, 57), (48, 57), (48, 57), (48, 57), (48, 49), (48, 57), (48, 57), (48, 57), (1, 60)], [⟨.add, .i64, .s 2, .c (1), .s 27⟩], if0 p ⟨.s 2, .s 10, true⟩ [], [], [], [], [], []⟩
theorem TlAeoZR : ∀ p, p < 2 → ∀ d, d < 2 → (pcOk (TlAeoZ p) (exec (env (TlAeoZF p).sg) (callS (TlAeoZF p) (TlAeoZU d) TlAeoZP) 1000 (bodyOf 4 1) (fr (TlAeoZ p).n (TlAeoZ p).f0) (mkSt (TlAeoZ p).h0 (TlAeoZ p).n0)) && (pickOk (TlAeoZ p) TcK420b k2n (Tm0zeo p) && swapOk (qf q14) (Tm0zeo p) ⟨(TlAeoZ p).n, (TlAeoZ p).f0, (TlAeoZ p).n0, (TlAeoZ p).h0⟩)) = true :=
  p2 (k2 (by kernel_rfl) (by kernel_rfl)) (k2 (by kernel_rfl) (by kernel_rfl))
theorem TlAeoZ_ok (p : Nat) (hp : p < 2) (x0 x1 x2 x3 x4 x5 x6 x7 x8 x9 x10 x11 x12 x13 : Int) (b0 : x0 = 0) (b1 : (1 : Int) ≤ x1 ∧ x1 ≤ 30) (b7 : (0 : Int) ≤ x7 ∧ x7 ≤ 59) (k : Co x2 x3 x4 x5 x6 x8 x9 x10 x11 x12 x13) (r0 : p = 0 → x2 < x10) {ρ : Rho} {a : Act} {W : World} {R : Exit → Act → World → Prop} (ha : (Tm0zeo p).At W0 (sgl [x0, x1, x2, x3, x4, x5, x6, x7, x8, x9, x10, x11, x12, x13]) ρ a W) (hR : ∀ ρ' a' W', (Tm0zeo p).At W0 (sgl [x0, x1, ((1) + x2), x3, x4, x5, x6, x7, x8, x9, x10, x11, x12, x13]) ρ' a' W' → R (toExit .norm) a' W') : (bodyOf 4 1).wp Tryz.prog R a W := by
  obtain ⟨b2, b3, b4, b5, b6, b8, b9, b10, b11, b12, b13⟩ := k
  have d8 := b8.bd
  obtain ⟨y14, h14⟩ := ex (0)
  obtain ⟨y15, h15⟩ := ex (1)
  obtain ⟨y16, h16⟩ := ex (60 - x7)
  obtain ⟨y17, y18, y19, y20, y21, y22, y23, y24, y25, y26, q⟩ := exRz y14 y15 y16
  have qb := q.bd
  obtain ⟨d, hd, hc⟩ := clZ y16
  obtain ⟨y27, h27⟩ := ex ((1) + x2)
  obtain ⟨h1, h2, h3⟩ := and3 (TlAeoZR p hp d hd)
  refine pc_at (W0 := W0) (ρ := ρ) (F := (TlAeoZF p)) (us := TlAeoZU d) (ps := TlAeoZP) (l := [x0, x1, x2, x3, x4, x5, x6, x7, x8, x9, x10, x11, x12, x13, y14, y15, y16, y17, y18, y19, y20, y21, y22, y23, y24, y25, y26, y27]) (e := TlAeoZ p) (P := _) (Q := k2n) (t := Tm0zeo p) ⟨gc (gc (gc (gc (gc (gc (gc (gc (gc (gc (gc (gc (gc (gc (gc (gc (gc (gc (gc (gc (gc (gc (gc (gc (gc (gc (gc (gc trivial))))))))))))))))))))))))))), (al (fA x2 (1) y27) an), if0_ok (fun h => fT x2 x10 (r0 h)) an, an, an, an, an, an⟩ (al (ue (TcE2_ok x2)) (al (ue (TcE5_ok x2)) (al (ue (TcE51_ok x2 x7 x8)) (al (ue (TcE63_ok x7 x8 x1 y16)) (repZ_ok d hc q _))))) (al (pz (TcE3_ok) []) (al (pz (TcE4_ok) []) (al (ck (l := .c (0)) (k := 8) (0) x8) an))) h1 h2 (Tm.At.swap (t := Tm0zeo p) (Q := q14) ?_ h3) ?_
  · exact ha
  · intro ρ' a' W' h
    subst h27
    exact hR ρ' a' W' h
def TlAmOU (d : Nat) : List Use := ⟨TcE2, 26, [], k232n⟩ :: ⟨TcE5, 78, [73], k232n⟩ :: ⟨TcE9, 89, [5, 85, 11, 12, 13, 14, 83], k68n⟩ :: ⟨TcE45, 93, TcK4208, k222n⟩ :: repO d 103
def TlAmOP : List Pur := [⟨161, [k1n], .bool true⟩, ⟨161, [k3n], .bool true⟩, ⟨239, [.str TcK1ab9], .int .u64 12469191778965217993⟩, ⟨269, [k9n], .int .i64 0⟩]
def TlAmO (p : Nat) : Pc := ⟨133, (Tm0em p).f0, 26, (Tm0em p).h0, .norm, [(0, .sint .i64 11), (1, .sint .i64 12), (2, .sint .i64 10), (4, .sint .i64 13), (11, .ptr 0 0), (12, .ptr 22 0), (13, .int .i64 p), (14, .sint .i64 27)], 204, upd (List.take 25 (Tm0em p).h0) [(19, k7n)] ++ [(77, k57n)]⟩
def TlAmOF (p : Nat) : Facts := ⟨[(1, 30), (1, 30), (0, 59), (1, 2), (0, 60), (0, 60), (0, 60), (0, 59), (4602678819172646912, 4605380978949069210), (1, 2), (0, 60), (0, 30), (0, 30), (0, 59), (0, 29), (1, 30), (1, 60), (48, 57), (48, 57), (48, 57), (48, 57), (48, 57), (48, 57), (48, 49), (48, 57), (48, 57), (48, 57), (1, 60)], [⟨.add, .i64, .s 2, .c (1), .s 27⟩], if0 p ⟨.s 2, .s 10, true⟩ [], [], [], [], [], []⟩
theorem TlAmOR : ∀ p, p < 2 → ∀ d, d < 4 → (pcOk (TlAmO p) (exec (env (TlAmOF p).sg) (callS (TlAmOF p) (TlAmOU d) TlAmOP) 1000 (bodyOf 4 1) (fr (TlAmO p).n (TlAmO p).f0) (mkSt (TlAmO p).h0 (TlAmO p).n0)) && (pickOk (TlAmO p) TcK420b k2n (Tm0em p) && swapOk (qf q14) (Tm0em p) ⟨(TlAmO p).n, (TlAmO p).f0, (TlAmO p).n0, (TlAmO p).h0⟩)) = true :=
  p2 (k4 (by kernel_rfl) (by kernel_rfl) (by kernel_rfl) (by kernel_rfl)) (k4 (by kernel_rfl) (by kernel_rfl) (by kernel_rfl) (by kernel_rfl))
theorem TlAmO_ok (p : Nat) (hp : p < 2) (x0 x1 x2 x3 x4 x5 x6 x7 x8 x9 x10 x11 x12 x13 : Int) (b0 : (1 : Int) ≤ x0 ∧ x0 ≤ 30) (b1 : (1 : Int) ≤ x1 ∧ x1 ≤ 30) (b7 : (0 : Int) ≤ x7 ∧ x7 ≤ 59) (b3 : (1 : Int) ≤ x3 ∧ x3 ≤ 2) (k : Co x2 x3 x4 x5 x6 x8 x9 x10 x11 x12 x13) (r0 : p = 0 → x2 < x10) (r1 : x0 ≤ x1) {ρ : Rho} {a : Act} {W : World} {R : Exit → Act → World → Prop} (ha : (Tm0em p).At W0 (sgl [x0, x1, x2, x3, x4, x5, x6, x7, x8, x9, x10, x11, x12, x13]) ρ a W) (hR : ∀ ρ' a' W', (Tm0em p).At W0 (sgl [x0, x1, ((1) + x2), x3, x4, x5, x6, x7, x8, x9, x10, x11, x12, x13]) ρ' a' W' → R (toExit .norm) a' W') : (bodyOf 4 1).wp Tryz.prog R a W := by
  obtain ⟨b2, _, b4, b5, b6, b8, b9, b10, b11, b12, b13⟩ := k
  have d8 := b8.bd
  obtain ⟨y14, h14⟩ := ex (0)
  obtain ⟨y15, h15⟩ := ex (x0)
  obtain ⟨y16, h16⟩ := ex (60 - x7)
  obtain ⟨y17, y18, y19, y20, y21, y22, y23, y24, y25, y26, q⟩ := exRp x0 y14 y15 y16
  have qb := q.bd
  obtain ⟨d, hd, hc⟩ := clO x0 y16
  obtain ⟨y27, h27⟩ := ex ((1) + x2)
  obtain ⟨h1, h2, h3⟩ := and3 (TlAmOR p hp d hd)
  refine pc_at (W0 := W0) (ρ := ρ) (F := (TlAmOF p)) (us := TlAmOU d) (ps := TlAmOP) (l := [x0, x1, x2, x3, x4, x5, x6, x7, x8, x9, x10, x11, x12, x13, y14, y15, y16, y17, y18, y19, y20, y21, y22, y23, y24, y25, y26, y27]) (e := TlAmO p) (P := _) (Q := k2n) (t := Tm0em p) ⟨gc (gc (gc (gc (gc (gc (gc (gc (gc (gc (gc (gc (gc (gc (gc (gc (gc (gc (gc (gc (gc (gc (gc (gc (gc (gc (gc (gc trivial))))))))))))))))))))))))))), (al (fA x2 (1) y27) an), if0_ok (fun h => fT x2 x10 (r0 h)) an, an, an, an, an, an⟩ (al (ue (TcE2_ok x2)) (al (ue (TcE5_ok x2)) (al (ue (TcE9_ok x2 x7 x0 x8)) (al (ue (TcE45_ok x7 x3 x0 x8 x1 y16)) (repO_ok d hc q _))))) (al (pz (TcE3_ok) []) (al (pz (TcE4_ok) []) (al (pz (TcE10_ok) []) (al (ck (l := .s 0) (k := 8) x0 x8) an)))) h1 h2 (Tm.At.swap (t := Tm0em p) (Q := q14) ?_ h3) ?_
  · exact ha
  · intro ρ' a' W' h
    subst h27
    exact hR ρ' a' W' h
end
end Go.Proofs.YtnpkeganpkobjaaGreatDoor.Ev
