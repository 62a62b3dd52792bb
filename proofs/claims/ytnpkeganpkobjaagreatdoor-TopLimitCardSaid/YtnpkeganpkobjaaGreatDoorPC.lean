import Derived.Test.YtnpkeganpkobjaaGreatDoorCG
import Derived.Test.YtnpkeganpkobjaaGreatDoorCK
set_option linter.all false
namespace Go.Proofs.YtnpkeganpkobjaaGreatDoor.Ev
set_option maxRecDepth 100000
set_option maxHeartbeats 4000000
open Go Go.RowKit
variable {W0 : World}
noncomputable section
def TlAoEU (d : Nat) : List Use := ⟨TcE2, 26, [], k232n⟩ :: ⟨TcE5, 78, [73], k232n⟩ :: ⟨TcE9, 89, [5, 85, 11, 12, 13, 14, 83], k68n⟩ :: ⟨TcE38, 93, TcK5742, k290n⟩ :: repL d 105
def TlAoEP : List Pur := [⟨161, [k1n], .bool true⟩, ⟨161, [k3n], .bool true⟩, ⟨269, [k9n], .int .i64 0⟩]
def TlAoE (p : Nat) : Pc := ⟨133, (Tm0ao p).f0, 26, (Tm0ao p).h0, .norm, [(0, .sint .i64 11), (1, .sint .i64 12), (2, .sint .i64 10), (4, .sint .i64 13), (11, .ptr 0 0), (12, .ptr 22 0), (13, .int .i64 p), (14, .sint .i64 28)], 206, upd (Tm0ao p).h0 [(16, k56n), (17, k70n), (19, k7n), (20, k11n), (21, k135n), (22, .cells (nl p (.sint .i64 27)))] ++ [(99, k131n), (77, k57n), (97, k17n)]⟩
def TlAoEF (p : Nat) : Facts := ⟨[(1, 30), (0, 30), (0, 59), (0, 2), (0, 60), (0, 60), (0, 60), (0, 59), (4602678819172646912, 4605380978949069210), (1, 2), (0, 60), (0, 30), (0, 30), (0, 59), (0, 29), (1, 30), (1, 60), (48, 57), (48, 57), (48, 57), (48, 57), (48, 57), (48, 57), (48, 49), (48, 57), (48, 57), (48, 57), (1, 61), (1, 60)], [⟨.add, .i64, .s 4, .c (1), .s 27⟩, ⟨.add, .i64, .s 2, .c (1), .s 28⟩], if0 p ⟨.s 2, .s 10, true⟩ [], [], [], [], [], []⟩
theorem TlAoER : ∀ p, p < 2 → ∀ d, d < 4 → (pcOk (TlAoE p) (exec (env (TlAoEF p).sg) (callS (TlAoEF p) (TlAoEU d) TlAoEP) 1000 (bodyOf 4 1) (fr (TlAoE p).n (TlAoE p).f0) (mkSt (TlAoE p).h0 (TlAoE p).n0)) && (pickOk (TlAoE p) TcK68b3 k8n (Tm0eo p) && swapOk (qf q14) (Tm0ao p) ⟨(TlAoE p).n, (TlAoE p).f0, (TlAoE p).n0, (TlAoE p).h0⟩)) = true :=
  p2 (k4 (by kernel_rfl) (by kernel_rfl) (by kernel_rfl) (by kernel_rfl)) (k4 (by kernel_rfl) (by kernel_rfl) (by kernel_rfl) (by kernel_rfl))
theorem TlAoE_ok (p : Nat) (hp : p < 2) (x0 x1 x2 x3 x4 x5 x6 x7 x8 x9 x10 x11 x12 x13 : Int) (b0 : (1 : Int) ≤ x0 ∧ x0 ≤ 30) (b1 : (0 : Int) ≤ x1 ∧ x1 ≤ 30) (b7 : (0 : Int) ≤ x7 ∧ x7 ≤ 59) (k : Co x2 x3 x4 x5 x6 x8 x9 x10 x11 x12 x13) (r0 : p = 0 → x2 < x10) (r1 : x0 = 1) {ρ : Rho} {a : Act} {W : World} {R : Exit → Act → World → Prop} (ha : (Tm0ao p).At W0 (sgl [x0, x1, x2, x3, x4, x5, x6, x7, x8, x9, x10, x11, x12, x13]) ρ a W) (hR : ∀ ρ' a' W', (Tm0eo p).At W0 (sgl [x0, (1), ((1) + x2), x3, ((1) + x4), x5, x6, x7, x8, x9, x10, x11, x12, x13]) ρ' a' W' → R (toExit .norm) a' W') : (bodyOf 4 1).wp Tryz.prog R a W := by
  obtain ⟨b2, b3, b4, b5, b6, b8, b9, b10, b11, b12, b13⟩ := k
  have d8 := b8.bd
  obtain ⟨y14, h14⟩ := ex (0)
  obtain ⟨y15, h15⟩ := ex (1)
  obtain ⟨y16, h16⟩ := ex (60 - x7)
  obtain ⟨y17, y18, y19, y20, y21, y22, y23, y24, y25, y26, q⟩ := exRp x0 y14 y15 y16
  have qb := q.bd
  obtain ⟨d, hd, hc⟩ := clL x0 y16
  obtain ⟨y27, h27⟩ := ex ((1) + x4)
  obtain ⟨y28, h28⟩ := ex ((1) + x2)
  obtain ⟨h1, h2, h3⟩ := and3 (TlAoER p hp d hd)
  refine pc_at (W0 := W0) (ρ := ρ) (F := (TlAoEF p)) (us := TlAoEU d) (ps := TlAoEP) (l := [x0, x1, x2, x3, x4, x5, x6, x7, x8, x9, x10, x11, x12, x13, y14, y15, y16, y17, y18, y19, y20, y21, y22, y23, y24, y25, y26, y27, y28]) (e := TlAoE p) (P := _) (Q := k8n) (t := Tm0eo p) ⟨gc (gc (gc (gc (gc (gc (gc (gc (gc (gc (gc (gc (gc (gc (gc (gc (gc (gc (gc (gc (gc (gc (gc (gc (gc (gc (gc (gc (gc trivial)))))))))))))))))))))))))))), (al (fA x4 (1) y27) (al (fA x2 (1) y28) an)), if0_ok (fun h => fT x2 x10 (r0 h)) an, an, an, an, an, an⟩ (al (ue (TcE2_ok x2)) (al (ue (TcE5_ok x2)) (al (ue (TcE9_ok x2 x7 x0 x8)) (al (ue (TcE38_ok x7 x0 x8 (0) y16)) (repL_ok d hc q _))))) (al (pz (TcE3_ok) []) (al (pz (TcE4_ok) []) (al (ck (l := .s 0) (k := 8) x0 x8) an))) h1 h2 (Tm.At.swap (t := Tm0ao p) (Q := q14) ?_ h3) ?_
  · exact ha
  · intro ρ' a' W' h
    subst h28
    subst h27
    exact hR ρ' a' W' h
def TlAoLU (d : Nat) : List Use := ⟨TcE2, 26, [], k232n⟩ :: ⟨TcE5, 78, [73], k232n⟩ :: ⟨TcE9, 89, [5, 85, 11, 12, 13, 14, 83], k68n⟩ :: ⟨TcE44, 93, TcK4208, [.s 7, .s 0, .s 8, .s 27, .c (0), .s 0, .s 16]⟩ :: repL d 105
def TlAoLP : List Pur := [⟨161, [k1n], .bool true⟩, ⟨161, [k3n], .bool true⟩, ⟨239, [.str TcK1ab9], .int .u64 12469191778965217993⟩, ⟨269, [k9n], .int .i64 0⟩]
def TlAoL (p : Nat) : Pc := ⟨133, (Tm0eo p).f0, 26, upd (Tm0eo p).h0 [(20, k148n)], .norm, [(0, .sint .i64 11), (1, .sint .i64 12), (2, .sint .i64 10), (4, .sint .i64 13), (11, .ptr 0 0), (12, .ptr 22 0), (13, .int .i64 p), (14, .sint .i64 29)], 206, upd (List.take 23 (Tm0eo p).h0) [(17, k70n), (19, k7n), (20, k151n), (21, k135n), (22, .cells (nl p (.sint .i64 28)))] ++ [(99, k131n), (77, k57n), (97, k17n)]⟩
def TlAoLF (p : Nat) : Facts := ⟨[(1, 30), (0, 30), (0, 59), (0, 2), (0, 60), (0, 60), (0, 60), (0, 59), (4602678819172646912, 4605380978949069210), (1, 2), (0, 60), (0, 30), (0, 30), (0, 59), (0, 29), (1, 30), (1, 60), (48, 57), (48, 57), (48, 57), (48, 57), (48, 57), (48, 57), (48, 49), (48, 57), (48, 57), (48, 57), (1, 29), (1, 61), (1, 60)], [⟨.add, .i64, .s 4, .c (1), .s 28⟩, ⟨.add, .i64, .s 2, .c (1), .s 29⟩], if0 p ⟨.s 2, .s 10, true⟩ [], [], [], [], [], []⟩
theorem TlAoLR : ∀ p, p < 2 → ∀ d, d < 4 → (pcOk (TlAoL p) (exec (env (TlAoLF p).sg) (callS (TlAoLF p) (TlAoLU d) TlAoLP) 1000 (bodyOf 4 1) (fr (TlAoL p).n (TlAoL p).f0) (mkSt (TlAoL p).h0 (TlAoL p).n0)) && (pickOk (TlAoL p) TcK68b3 k46n (Tm0eo p) && swapOk (qf k47n) (Tm0eo p) ⟨(TlAoL p).n, (TlAoL p).f0, (TlAoL p).n0, (TlAoL p).h0⟩)) = true :=
  p2 (k4 (by kernel_rfl) (by kernel_rfl) (by kernel_rfl) (by kernel_rfl)) (k4 (by kernel_rfl) (by kernel_rfl) (by kernel_rfl) (by kernel_rfl))
theorem TlAoL_ok (p : Nat) (hp : p < 2) (x0 x1 x2 x3 x4 x5 x6 x7 x8 x9 x10 x11 x12 x13 : Int) (b0 : (1 : Int) ≤ x0 ∧ x0 ≤ 30) (b1 : (0 : Int) ≤ x1 ∧ x1 ≤ 30) (b7 : (0 : Int) ≤ x7 ∧ x7 ≤ 59) (k : Co x2 x3 x4 x5 x6 x8 x9 x10 x11 x12 x13) (r0 : p = 0 → x2 < x10) (r1 : 1 ≤ x1 ∧ x1 + 1 = x0) {ρ : Rho} {a : Act} {W : World} {R : Exit → Act → World → Prop} (ha : (Tm0eo p).At W0 (sgl [x0, x1, x2, x3, x4, x5, x6, x7, x8, x9, x10, x11, x12, x13]) ρ a W) (hR : ∀ ρ' a' W', (Tm0eo p).At W0 (sgl [x0, x0, ((1) + x2), x3, ((1) + x4), x5, x6, x7, x8, x9, x10, x11, x12, x13]) ρ' a' W' → R (toExit .norm) a' W') : (bodyOf 4 1).wp Tryz.prog R a W := by
  obtain ⟨b2, b3, b4, b5, b6, b8, b9, b10, b11, b12, b13⟩ := k
  have d8 := b8.bd
  obtain ⟨y14, h14⟩ := ex (0)
  obtain ⟨y15, h15⟩ := ex (x0)
  obtain ⟨y16, h16⟩ := ex (60 - x7)
  obtain ⟨y17, y18, y19, y20, y21, y22, y23, y24, y25, y26, q⟩ := exRp x0 y14 y15 y16
  have qb := q.bd
  obtain ⟨d, hd, hc⟩ := clL x0 y16
  obtain ⟨y27, h27⟩ := ex ((-1) + x0)
  obtain ⟨y28, h28⟩ := ex ((1) + x4)
  obtain ⟨y29, h29⟩ := ex ((1) + x2)
  obtain ⟨h1, h2, h3⟩ := and3 (TlAoLR p hp d hd)
  refine pc_at (W0 := W0) (ρ := ρ) (F := (TlAoLF p)) (us := TlAoLU d) (ps := TlAoLP) (l := [x0, x1, x2, x3, x4, x5, x6, x7, x8, x9, x10, x11, x12, x13, y14, y15, y16, y17, y18, y19, y20, y21, y22, y23, y24, y25, y26, y27, y28, y29]) (e := TlAoL p) (P := _) (Q := k46n) (t := Tm0eo p) ⟨gc (gc (gc (gc (gc (gc (gc (gc (gc (gc (gc (gc (gc (gc (gc (gc (gc (gc (gc (gc (gc (gc (gc (gc (gc (gc (gc (gc (gc (gc trivial))))))))))))))))))))))))))))), (al (fA x4 (1) y28) (al (fA x2 (1) y29) an)), if0_ok (fun h => fT x2 x10 (r0 h)) an, an, an, an, an, an⟩ (al (ue (TcE2_ok x2)) (al (ue (TcE5_ok x2)) (al (ue (TcE9_ok x2 x7 x0 x8)) (al (ue (TcE44_ok x7 x0 x8 y27 (0) x0 y16)) (repL_ok d hc q _))))) (al (pz (TcE3_ok) []) (al (pz (TcE4_ok) []) (al (pz (TcE10_ok) []) (al (ck (l := .s 0) (k := 8) x0 x8) an)))) h1 h2 (Tm.At.swap (t := Tm0eo p) (Q := k47n) ?_ h3) ?_
  · have e : y27 = x1 := by omega
    subst e
    exact ha
  · intro ρ' a' W' h
    subst h29
    subst h28
    exact hR ρ' a' W' h
def TlAoOU (d : Nat) : List Use := ⟨TcE2, 26, [], k232n⟩ :: ⟨TcE5, 78, [73], k232n⟩ :: ⟨TcE9, 89, [5, 85, 11, 12, 13, 14, 83], k68n⟩ :: ⟨TcE49, 93, TcK4208, [.s 7, .s 0, .s 8, .s 1, .s 16]⟩ :: repO d 102
def TlAoOP : List Pur := [⟨161, [k1n], .bool true⟩, ⟨161, [k3n], .bool true⟩, ⟨239, [.str TcK1ab9], .int .u64 12469191778965217993⟩, ⟨269, [k9n], .int .i64 0⟩]
def TlAoO (p : Nat) : Pc := ⟨133, (Tm0eo p).f0, 26, (Tm0eo p).h0, .norm, [(0, .sint .i64 11), (1, .sint .i64 12), (2, .sint .i64 10), (4, .sint .i64 13), (11, .ptr 0 0), (12, .ptr 22 0), (13, .int .i64 p), (14, .sint .i64 27)], 203, upd (List.take 25 (Tm0eo p).h0) [(19, k7n)] ++ [(77, k57n)]⟩
def TlAoOF (p : Nat) : Facts := ⟨[(1, 30), (1, 30), (0, 59), (0, 2), (0, 60), (0, 60), (0, 60), (0, 59), (4602678819172646912, 4605380978949069210), (1, 2), (0, 60), (0, 30), (0, 30), (0, 59), (0, 29), (1, 30), (1, 60), (48, 57), (48, 57), (48, 57), (48, 57), (48, 57), (48, 57), (48, 49), (48, 57), (48, 57), (48, 57), (1, 60)], [⟨.add, .i64, .s 2, .c (1), .s 27⟩], if0 p ⟨.s 2, .s 10, true⟩ [], [], [], [], [], []⟩
theorem TlAoOR : ∀ p, p < 2 → ∀ d, d < 4 → (pcOk (TlAoO p) (exec (env (TlAoOF p).sg) (callS (TlAoOF p) (TlAoOU d) TlAoOP) 1000 (bodyOf 4 1) (fr (TlAoO p).n (TlAoO p).f0) (mkSt (TlAoO p).h0 (TlAoO p).n0)) && (pickOk (TlAoO p) TcK420b k2n (Tm0eo p) && swapOk (qf q14) (Tm0eo p) ⟨(TlAoO p).n, (TlAoO p).f0, (TlAoO p).n0, (TlAoO p).h0⟩)) = true :=
  p2 (k4 (by kernel_rfl) (by kernel_rfl) (by kernel_rfl) (by kernel_rfl)) (k4 (by kernel_rfl) (by kernel_rfl) (by kernel_rfl) (by kernel_rfl))
theorem TlAoO_ok (p : Nat) (hp : p < 2) (x0 x1 x2 x3 x4 x5 x6 x7 x8 x9 x10 x11 x12 x13 : Int) (b0 : (1 : Int) ≤ x0 ∧ x0 ≤ 30) (b1 : (1 : Int) ≤ x1 ∧ x1 ≤ 30) (b7 : (0 : Int) ≤ x7 ∧ x7 ≤ 59) (k : Co x2 x3 x4 x5 x6 x8 x9 x10 x11 x12 x13) (r0 : p = 0 → x2 < x10) (r1 : x0 ≤ x1) {ρ : Rho} {a : Act} {W : World} {R : Exit → Act → World → Prop} (ha : (Tm0eo p).At W0 (sgl [x0, x1, x2, x3, x4, x5, x6, x7, x8, x9, x10, x11, x12, x13]) ρ a W) (hR : ∀ ρ' a' W', (Tm0eo p).At W0 (sgl [x0, x1, ((1) + x2), x3, x4, x5, x6, x7, x8, x9, x10, x11, x12, x13]) ρ' a' W' → R (toExit .norm) a' W') : (bodyOf 4 1).wp Tryz.prog R a W := by
  obtain ⟨b2, b3, b4, b5, b6, b8, b9, b10, b11, b12, b13⟩ := k
  have d8 := b8.bd
  obtain ⟨y14, h14⟩ := ex (0)
  obtain ⟨y15, h15⟩ := ex (x0)
  obtain ⟨y16, h16⟩ := ex (60 - x7)
  obtain ⟨y17, y18, y19, y20, y21, y22, y23, y24, y25, y26, q⟩ := exRp x0 y14 y15 y16
  have qb := q.bd
  obtain ⟨d, hd, hc⟩ := clO x0 y16
  obtain ⟨y27, h27⟩ := ex ((1) + x2)
  obtain ⟨h1, h2, h3⟩ := and3 (TlAoOR p hp d hd)
  refine pc_at (W0 := W0) (ρ := ρ) (F := (TlAoOF p)) (us := TlAoOU d) (ps := TlAoOP) (l := [x0, x1, x2, x3, x4, x5, x6, x7, x8, x9, x10, x11, x12, x13, y14, y15, y16, y17, y18, y19, y20, y21, y22, y23, y24, y25, y26, y27]) (e := TlAoO p) (P := _) (Q := k2n) (t := Tm0eo p) ⟨gc (gc (gc (gc (gc (gc (gc (gc (gc (gc (gc (gc (gc (gc (gc (gc (gc (gc (gc (gc (gc (gc (gc (gc (gc (gc (gc (gc trivial))))))))))))))))))))))))))), (al (fA x2 (1) y27) an), if0_ok (fun h => fT x2 x10 (r0 h)) an, an, an, an, an, an⟩ (al (ue (TcE2_ok x2)) (al (ue (TcE5_ok x2)) (al (ue (TcE9_ok x2 x7 x0 x8)) (al (ue (TcE49_ok x7 x0 x8 x1 y16)) (repO_ok d hc q _))))) (al (pz (TcE3_ok) []) (al (pz (TcE4_ok) []) (al (pz (TcE10_ok) []) (al (ck (l := .s 0) (k := 8) x0 x8) an)))) h1 h2 (Tm.At.swap (t := Tm0eo p) (Q := q14) ?_ h3) ?_
  · exact ha
  · intro ρ' a' W' h
    subst h27
    exact hR ρ' a' W' h
def TlAoZU (d : Nat) : List Use := ⟨TcE2, 26, [], k232n⟩ :: ⟨TcE5, 78, [73], k232n⟩ :: ⟨TcE51, 89, [5, 85, 11, 12, 13, 14, 83], k133n⟩ :: ⟨TcE60, 93, TcK5742, [.s 7, .s 8, .s 16]⟩ :: repZ d 102
def TlAoZP : List Pur := [⟨161, [k1n], .bool true⟩, ⟨161, [k3n], .bool true⟩, ⟨269, [k21n], .int .i64 0⟩]
def TlAoZ (p : Nat) : Pc := ⟨133, (Tm0zao p).f0, 26, (Tm0zao p).h0, .norm, [(0, .sint .i64 11), (1, .sint .i64 12), (2, .sint .i64 10), (4, .sint .i64 13), (11, .ptr 0 0), (12, .ptr 22 0), (13, .int .i64 p), (14, .sint .i64 27)], 203, upd (Tm0zao p).h0 [(19, k7n)] ++ [(77, k57n)]⟩
def TlAoZF (p : Nat) : Facts := ⟨[(0, 0), (0, 30), (0, 59), (0, 2), (0, 60), (0, 60), (0, 60), (0, 59), (4602678819172646912, 4605380978949069210), (1, 2), (0, 60), (0, 30), (0, 30), (0, 59), (0, 29), (1, 30), (1, 60), (48, 57), (48, 57), (48, 57), (48, 57), (48, 57), (48, 57), (48, 49), (48, 57), (48, 57), (48, 57), (1, 60)], [⟨.add, .i64, .s 2, .c (1), .s 27⟩], if0 p ⟨.s 2, .s 10, true⟩ [], [], [], [], [], []⟩
theorem TlAoZR : ∀ p, p < 2 → ∀ d, d < 2 → (pcOk (TlAoZ p) (exec (env (TlAoZF p).sg) (callS (TlAoZF p) (TlAoZU d) TlAoZP) 1000 (bodyOf 4 1) (fr (TlAoZ p).n (TlAoZ p).f0) (mkSt (TlAoZ p).h0 (TlAoZ p).n0)) && (pickOk (TlAoZ p) TcK9b81 k2n (Tm0zbo p) && swapOk (qf q14) (Tm0zao p) ⟨(TlAoZ p).n, (TlAoZ p).f0, (TlAoZ p).n0, (TlAoZ p).h0⟩)) = true :=
  p2 (k2 (by kernel_rfl) (by kernel_rfl)) (k2 (by kernel_rfl) (by kernel_rfl))
theorem TlAoZ_ok (p : Nat) (hp : p < 2) (x0 x1 x2 x3 x4 x5 x6 x7 x8 x9 x10 x11 x12 x13 : Int) (b0 : x0 = 0) (b1 : (0 : Int) ≤ x1 ∧ x1 ≤ 30) (b7 : (0 : Int) ≤ x7 ∧ x7 ≤ 59) (k : Co x2 x3 x4 x5 x6 x8 x9 x10 x11 x12 x13) (r0 : p = 0 → x2 < x10) {ρ : Rho} {a : Act} {W : World} {R : Exit → Act → World → Prop} (ha : (Tm0zao p).At W0 (sgl [x0, x1, x2, x3, x4, x5, x6, x7, x8, x9, x10, x11, x12, x13]) ρ a W) (hR : ∀ ρ' a' W', (Tm0zbo p).At W0 (sgl [x0, x1, ((1) + x2), x3, x4, x5, x6, x7, x8, x9, x10, x11, x12, x13]) ρ' a' W' → R (toExit .norm) a' W') : (bodyOf 4 1).wp Tryz.prog R a W := by
  obtain ⟨b2, b3, b4, b5, b6, b8, b9, b10, b11, b12, b13⟩ := k
  have d8 := b8.bd
  obtain ⟨y14, h14⟩ := ex (0)
  obtain ⟨y15, h15⟩ := ex (1)
  obtain ⟨y16, h16⟩ := ex (60 - x7)
  obtain ⟨y17, y18, y19, y20, y21, y22, y23, y24, y25, y26, q⟩ := exRz y14 y15 y16
  have qb := q.bd
  obtain ⟨d, hd, hc⟩ := clZ y16
  obtain ⟨y27, h27⟩ := ex ((1) + x2)
  obtain ⟨h1, h2, h3⟩ := and3 (TlAoZR p hp d hd)
  refine pc_at (W0 := W0) (ρ := ρ) (F := (TlAoZF p)) (us := TlAoZU d) (ps := TlAoZP) (l := [x0, x1, x2, x3, x4, x5, x6, x7, x8, x9, x10, x11, x12, x13, y14, y15, y16, y17, y18, y19, y20, y21, y22, y23, y24, y25, y26, y27]) (e := TlAoZ p) (P := _) (Q := k2n) (t := Tm0zbo p) ⟨gc (gc (gc (gc (gc (gc (gc (gc (gc (gc (gc (gc (gc (gc (gc (gc (gc (gc (gc (gc (gc (gc (gc (gc (gc (gc (gc (gc trivial))))))))))))))))))))))))))), (al (fA x2 (1) y27) an), if0_ok (fun h => fT x2 x10 (r0 h)) an, an, an, an, an, an⟩ (al (ue (TcE2_ok x2)) (al (ue (TcE5_ok x2)) (al (ue (TcE51_ok x2 x7 x8)) (al (ue (TcE60_ok x7 x8 y16)) (repZ_ok d hc q _))))) (al (pz (TcE3_ok) []) (al (pz (TcE4_ok) []) (al (ck (l := .c (0)) (k := 8) (0) x8) an))) h1 h2 (Tm.At.swap (t := Tm0zao p) (Q := q14) ?_ h3) ?_
  · exact ha
  · intro ρ' a' W' h
    subst h27
    exact hR ρ' a' W' h
def TlCFU (d : Nat) : List Use := ⟨TcE2, 26, [], k232n⟩ :: ⟨TcE5, 78, [73], k232n⟩ :: ⟨TcE65, 89, [5, 85, 11, 12, 13, 14, 83], k68n⟩ :: ⟨TcE67, 93, TcK20e7, k263n⟩ :: repW d 105
def TlCFP : List Pur := [⟨161, [k1n], .bool true⟩, ⟨161, [k3n], .bool true⟩, ⟨269, [k9n], .int .i64 0⟩]
def TlCF (p : Nat) : Pc := ⟨133, (Tm1dk p).f0, 26, (Tm1dk p).h0, .norm, [(0, .sint .i64 11), (1, .sint .i64 12), (2, .sint .i64 10), (4, .sint .i64 13), (11, .ptr 0 0), (12, .ptr 22 0), (13, .int .i64 p), (14, .sint .i64 28)], 206, upd (List.take 23 (Tm1dk p).h0) [(16, k56n), (17, k70n), (19, k7n), (20, k10n), (21, k125n), (22, .cells (nl p (.sint .i64 27)))] ++ [(99, k131n), (77, k57n), (97, k16n)]⟩
def TlCFF : Facts := ⟨[(1, 30), (0, 30), (0, 59), (0, 2), (0, 60), (0, 60), (0, 60), (60, 110), (4602678819172646912, 4605380978949069210), (1, 2), (0, 60), (0, 30), (0, 30), (0, 59), (0, 29), (1, 30), (1, 60), (48, 57), (48, 57), (48, 57), (48, 57), (48, 57), (48, 57), (48, 49), (48, 57), (48, 57), (48, 57), (1, 61), (1, 60)], [⟨.add, .i64, .s 4, .c (1), .s 27⟩, ⟨.add, .i64, .s 2, .c (1), .s 28⟩], [], [], [], [], [], []⟩
theorem TlCFR : ∀ p, p = 2 → ∀ d, d < 3 → (pcOk (TlCF p) (exec (env TlCFF.sg) (callS TlCFF (TlCFU d) TlCFP) 1000 (bodyOf 4 1) (fr (TlCF p).n (TlCF p).f0) (mkSt (TlCF p).h0 (TlCF p).n0)) && (pickOk (TlCF p) TcK68b3 k8n (Tm1ek p) && swapOk (qf q14) (Tm1dk p) ⟨(TlCF p).n, (TlCF p).f0, (TlCF p).n0, (TlCF p).h0⟩)) = true :=
  pC (k3 (by kernel_rfl) (by kernel_rfl) (by kernel_rfl))
theorem TlCF_ok (p : Nat) (hp : p = 2) (x0 x1 x2 x3 x4 x5 x6 x7 x8 x9 x10 x11 x12 x13 : Int) (b0 : (1 : Int) ≤ x0 ∧ x0 ≤ 30) (b1 : (0 : Int) ≤ x1 ∧ x1 ≤ 30) (b7 : (60 : Int) ≤ x7 ∧ x7 ≤ 110) (k : Co x2 x3 x4 x5 x6 x8 x9 x10 x11 x12 x13) (r1 : 2 ≤ x0) {ρ : Rho} {a : Act} {W : World} {R : Exit → Act → World → Prop} (ha : (Tm1dk p).At W0 (sgl [x0, x1, x2, x3, x4, x5, x6, x7, x8, x9, x10, x11, x12, x13]) ρ a W) (hR : ∀ ρ' a' W', (Tm1ek p).At W0 (sgl [x0, (1), ((1) + x2), x3, ((1) + x4), x5, x6, x7, x8, x9, x10, x11, x12, x13]) ρ' a' W' → R (toExit .norm) a' W') : (bodyOf 4 1).wp Tryz.prog R a W := by
  obtain ⟨b2, b3, b4, b5, b6, b8, b9, b10, b11, b12, b13⟩ := k
  have d8 := b8.bd
  obtain ⟨y14, h14⟩ := ex (x0 - 1)
  obtain ⟨y15, h15⟩ := ex (1)
  obtain ⟨y16, h16⟩ := ex (120 - x7)
  obtain ⟨y17, y18, y19, y20, y21, y22, y23, y24, y25, y26, q⟩ := exRp x0 y14 y15 y16
  have qb := q.bd
  obtain ⟨d, hd, hc⟩ := clWc x0 y14 y16
  obtain ⟨y27, h27⟩ := ex ((1) + x4)
  obtain ⟨y28, h28⟩ := ex ((1) + x2)
  obtain ⟨h1, h2, h3⟩ := and3 (TlCFR p hp d hd)
  refine pc_at (W0 := W0) (ρ := ρ) (F := TlCFF) (us := TlCFU d) (ps := TlCFP) (l := [x0, x1, x2, x3, x4, x5, x6, x7, x8, x9, x10, x11, x12, x13, y14, y15, y16, y17, y18, y19, y20, y21, y22, y23, y24, y25, y26, y27, y28]) (e := TlCF p) (P := _) (Q := k8n) (t := Tm1ek p) ⟨gc (gc (gc (gc (gc (gc (gc (gc (gc (gc (gc (gc (gc (gc (gc (gc (gc (gc (gc (gc (gc (gc (gc (gc (gc (gc (gc (gc (gc trivial)))))))))))))))))))))))))))), (al (fA x4 (1) y27) (al (fA x2 (1) y28) an)), an, an, an, an, an, an⟩ (al (ue (TcE2_ok x2)) (al (ue (TcE5_ok x2)) (al (ue (TcE65_ok x2 x7 x0 x8)) (al (ue (TcE67_ok x7 x3 x0 x8 y14 y16)) (repW_ok d hc q _))))) (al (pz (TcE3_ok) []) (al (pz (TcE4_ok) []) (al (ck (l := .s 0) (k := 8) x0 x8) an))) h1 h2 (Tm.At.swap (t := Tm1dk p) (Q := q14) ?_ h3) ?_
  · exact ha
  · intro ρ' a' W' h
    subst h28
    subst h27
    exact hR ρ' a' W' h
def TlCWU (d : Nat) : List Use := ⟨TcE2, 26, [], k232n⟩ :: ⟨TcE5, 78, [73], k232n⟩ :: ⟨TcE65, 89, [5, 85, 11, 12, 13, 14, 83], k68n⟩ :: ⟨TcE70, 93, TcK4208, [.s 7, .s 3, .s 0, .s 8, .s 1, .s 14, .s 15, .s 16]⟩ :: repW d 105
def TlCWP : List Pur := [⟨161, [k1n], .bool true⟩, ⟨161, [k3n], .bool true⟩, ⟨239, [.str TcK058b], .int .u64 12469190679453589782⟩, ⟨269, [k9n], .int .i64 0⟩]
def TlCW (p : Nat) : Pc := ⟨133, (Tm1ek p).f0, 26, (Tm1ek p).h0, .norm, [(0, .sint .i64 11), (1, .sint .i64 12), (2, .sint .i64 10), (4, .sint .i64 13), (11, .ptr 0 0), (12, .ptr 22 0), (13, .int .i64 p), (14, .sint .i64 28)], 206, upd (List.take 23 (Tm1ek p).h0) [(17, k70n), (19, k7n), (20, k147n), (21, k125n), (22, .cells (nl p (.sint .i64 27)))] ++ [(99, k131n), (77, k57n), (97, k16n)]⟩
def TlCWF : Facts := ⟨[(1, 30), (1, 30), (0, 59), (0, 2), (0, 60), (0, 60), (0, 60), (60, 110), (4602678819172646912, 4605380978949069210), (1, 2), (0, 60), (0, 30), (0, 30), (0, 59), (0, 29), (1, 30), (1, 60), (48, 57), (48, 57), (48, 57), (48, 57), (48, 57), (48, 57), (48, 49), (48, 57), (48, 57), (48, 57), (1, 61), (1, 60)], [⟨.add, .i64, .s 4, .c (1), .s 27⟩, ⟨.add, .i64, .s 2, .c (1), .s 28⟩], [], [], [], [], [], []⟩
theorem TlCWR : ∀ p, p = 2 → ∀ d, d < 3 → (pcOk (TlCW p) (exec (env TlCWF.sg) (callS TlCWF (TlCWU d) TlCWP) 1000 (bodyOf 4 1) (fr (TlCW p).n (TlCW p).f0) (mkSt (TlCW p).h0 (TlCW p).n0)) && (pickOk (TlCW p) TcK68b3 k73n (Tm1ek p) && swapOk (qf q14) (Tm1ek p) ⟨(TlCW p).n, (TlCW p).f0, (TlCW p).n0, (TlCW p).h0⟩)) = true :=
  pC (k3 (by kernel_rfl) (by kernel_rfl) (by kernel_rfl))
theorem TlCW_ok (p : Nat) (hp : p = 2) (x0 x1 x2 x3 x4 x5 x6 x7 x8 x9 x10 x11 x12 x13 : Int) (b0 : (1 : Int) ≤ x0 ∧ x0 ≤ 30) (b1 : (1 : Int) ≤ x1 ∧ x1 ≤ 30) (b7 : (60 : Int) ≤ x7 ∧ x7 ≤ 110) (k : Co x2 x3 x4 x5 x6 x8 x9 x10 x11 x12 x13) (r1 : 1 ≤ x1 ∧ x1 + 1 < x0) {ρ : Rho} {a : Act} {W : World} {R : Exit → Act → World → Prop} (ha : (Tm1ek p).At W0 (sgl [x0, x1, x2, x3, x4, x5, x6, x7, x8, x9, x10, x11, x12, x13]) ρ a W) (hR : ∀ ρ' a' W', (Tm1ek p).At W0 (sgl [x0, (x1 + 1), ((1) + x2), x3, ((1) + x4), x5, x6, x7, x8, x9, x10, x11, x12, x13]) ρ' a' W' → R (toExit .norm) a' W') : (bodyOf 4 1).wp Tryz.prog R a W := by
  obtain ⟨b2, b3, b4, b5, b6, b8, b9, b10, b11, b12, b13⟩ := k
  have d8 := b8.bd
  obtain ⟨y14, h14⟩ := ex (x0 - x1 - 1)
  obtain ⟨y15, h15⟩ := ex (x1 + 1)
  obtain ⟨y16, h16⟩ := ex (120 - x7)
  obtain ⟨y17, y18, y19, y20, y21, y22, y23, y24, y25, y26, q⟩ := exRp x0 y14 y15 y16
  have qb := q.bd
  obtain ⟨d, hd, hc⟩ := clWc x0 y14 y16
  obtain ⟨y27, h27⟩ := ex ((1) + x4)
  obtain ⟨y28, h28⟩ := ex ((1) + x2)
  obtain ⟨h1, h2, h3⟩ := and3 (TlCWR p hp d hd)
  refine pc_at (W0 := W0) (ρ := ρ) (F := TlCWF) (us := TlCWU d) (ps := TlCWP) (l := [x0, x1, x2, x3, x4, x5, x6, x7, x8, x9, x10, x11, x12, x13, y14, y15, y16, y17, y18, y19, y20, y21, y22, y23, y24, y25, y26, y27, y28]) (e := TlCW p) (P := _) (Q := k73n) (t := Tm1ek p) ⟨gc (gc (gc (gc (gc (gc (gc (gc (gc (gc (gc (gc (gc (gc (gc (gc (gc (gc (gc (gc (gc (gc (gc (gc (gc (gc (gc (gc (gc trivial)))))))))))))))))))))))))))), (al (fA x4 (1) y27) (al (fA x2 (1) y28) an)), an, an, an, an, an, an⟩ (al (ue (TcE2_ok x2)) (al (ue (TcE5_ok x2)) (al (ue (TcE65_ok x2 x7 x0 x8)) (al (ue (TcE70_ok x7 x3 x0 x8 x1 y14 y15 y16)) (repW_ok d hc q _))))) (al (pz (TcE3_ok) []) (al (pz (TcE4_ok) []) (al (pz (TcE66_ok) []) (al (ck (l := .s 0) (k := 8) x0 x8) an)))) h1 h2 (Tm.At.swap (t := Tm1ek p) (Q := q14) ?_ h3) ?_
  · exact ha
  · intro ρ' a' W' h
    subst h28
    subst h27
    subst h15
    exact hR ρ' a' W' h
end
end Go.Proofs.YtnpkeganpkobjaaGreatDoor.Ev
