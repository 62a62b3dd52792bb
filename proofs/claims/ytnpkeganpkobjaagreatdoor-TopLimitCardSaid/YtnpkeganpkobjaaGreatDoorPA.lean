import Derived.Test.YtnpkeganpkobjaaGreatDoorCG
import Derived.Test.YtnpkeganpkobjaaGreatDoorCK
set_option linter.all false
namespace Go.Proofs.YtnpkeganpkobjaaGreatDoor.Ev
set_option maxRecDepth 100000
set_option maxHeartbeats 4000000
open Go Go.RowKit
variable {W0 : World}
noncomputable section
def TlAEU (d : Nat) : List Use := ⟨TcE2, 26, [], k232n⟩ :: ⟨TcE5, 78, [73], k232n⟩ :: ⟨TcE9, 89, [5, 85, 11, 12, 13, 14, 83], k68n⟩ :: ⟨TcE30, 93, TcK5742, k220n⟩ :: repL d 106
def TlAEP : List Pur := [⟨161, [k1n], .bool true⟩, ⟨161, [k3n], .bool true⟩, ⟨269, [k9n], .int .i64 0⟩]
def TlAE (p : Nat) : Pc := ⟨133, (Tm0a p).f0, 26, (Tm0a p).h0, .norm, [(0, .sint .i64 11), (1, .sint .i64 12), (2, .sint .i64 10), (4, .sint .i64 13), (11, .ptr 0 0), (12, .ptr 22 0), (13, .int .i64 p), (14, .sint .i64 28)], 207, upd (Tm0a p).h0 [(16, k56n), (17, k70n), (18, k39n), (19, k7n), (20, k11n), (21, k135n), (22, .cells (nl p (.sint .i64 27)))] ++ [(99, k131n), (77, k57n), (97, k17n)]⟩
def TlAEF (p : Nat) : Facts := ⟨[(1, 30), (0, 30), (0, 59), (1, 2), (0, 60), (0, 60), (0, 60), (0, 59), (4602678819172646912, 4605380978949069210), (1, 2), (0, 60), (0, 30), (0, 30), (0, 59), (0, 29), (1, 30), (1, 60), (48, 57), (48, 57), (48, 57), (48, 57), (48, 57), (48, 57), (48, 49), (48, 57), (48, 57), (48, 57), (1, 61), (1, 60)], [⟨.add, .i64, .s 4, .c (1), .s 27⟩, ⟨.add, .i64, .s 2, .c (1), .s 28⟩], if0 p ⟨.s 2, .s 10, true⟩ [], [], [], [], [], []⟩
theorem TlAER : ∀ p, p < 2 → ∀ d, d < 4 → (pcOk (TlAE p) (exec (env (TlAEF p).sg) (callS (TlAEF p) (TlAEU d) TlAEP) 1000 (bodyOf 4 1) (fr (TlAE p).n (TlAE p).f0) (mkSt (TlAE p).h0 (TlAE p).n0)) && (pickOk (TlAE p) TcK68b3 k8n (Tm0em p) && swapOk (qf q14) (Tm0a p) ⟨(TlAE p).n, (TlAE p).f0, (TlAE p).n0, (TlAE p).h0⟩)) = true :=
  p2 (k4 (by kernel_rfl) (by kernel_rfl) (by kernel_rfl) (by kernel_rfl)) (k4 (by kernel_rfl) (by kernel_rfl) (by kernel_rfl) (by kernel_rfl))
theorem TlAE_ok (p : Nat) (hp : p < 2) (x0 x1 x2 x3 x4 x5 x6 x7 x8 x9 x10 x11 x12 x13 : Int) (b0 : (1 : Int) ≤ x0 ∧ x0 ≤ 30) (b1 : (0 : Int) ≤ x1 ∧ x1 ≤ 30) (b7 : (0 : Int) ≤ x7 ∧ x7 ≤ 59) (b3 : (1 : Int) ≤ x3 ∧ x3 ≤ 2) (k : Co x2 x3 x4 x5 x6 x8 x9 x10 x11 x12 x13) (r0 : p = 0 → x2 < x10) (r1 : x0 = 1) {ρ : Rho} {a : Act} {W : World} {R : Exit → Act → World → Prop} (ha : (Tm0a p).At W0 (sgl [x0, x1, x2, x3, x4, x5, x6, x7, x8, x9, x10, x11, x12, x13]) ρ a W) (hR : ∀ ρ' a' W', (Tm0em p).At W0 (sgl [x0, (1), ((1) + x2), x3, ((1) + x4), x5, x6, x7, x8, x9, x10, x11, x12, x13]) ρ' a' W' → R (toExit .norm) a' W') : (bodyOf 4 1).wp Tryz.prog R a W := by
  obtain ⟨b2, _, b4, b5, b6, b8, b9, b10, b11, b12, b13⟩ := k
  have d8 := b8.bd
  obtain ⟨y14, h14⟩ := ex (0)
  obtain ⟨y15, h15⟩ := ex (1)
  obtain ⟨y16, h16⟩ := ex (60 - x7)
  obtain ⟨y17, y18, y19, y20, y21, y22, y23, y24, y25, y26, q⟩ := exRp x0 y14 y15 y16
  have qb := q.bd
  obtain ⟨d, hd, hc⟩ := clL x0 y16
  obtain ⟨y27, h27⟩ := ex ((1) + x4)
  obtain ⟨y28, h28⟩ := ex ((1) + x2)
  obtain ⟨h1, h2, h3⟩ := and3 (TlAER p hp d hd)
  refine pc_at (W0 := W0) (ρ := ρ) (F := (TlAEF p)) (us := TlAEU d) (ps := TlAEP) (l := [x0, x1, x2, x3, x4, x5, x6, x7, x8, x9, x10, x11, x12, x13, y14, y15, y16, y17, y18, y19, y20, y21, y22, y23, y24, y25, y26, y27, y28]) (e := TlAE p) (P := _) (Q := k8n) (t := Tm0em p) ⟨gc (gc (gc (gc (gc (gc (gc (gc (gc (gc (gc (gc (gc (gc (gc (gc (gc (gc (gc (gc (gc (gc (gc (gc (gc (gc (gc (gc (gc trivial)))))))))))))))))))))))))))), (al (fA x4 (1) y27) (al (fA x2 (1) y28) an)), if0_ok (fun h => fT x2 x10 (r0 h)) an, an, an, an, an, an⟩ (al (ue (TcE2_ok x2)) (al (ue (TcE5_ok x2)) (al (ue (TcE9_ok x2 x7 x0 x8)) (al (ue (TcE30_ok x7 x3 x0 x8 (0) y16)) (repL_ok d hc q _))))) (al (pz (TcE3_ok) []) (al (pz (TcE4_ok) []) (al (ck (l := .s 0) (k := 8) x0 x8) an))) h1 h2 (Tm.At.swap (t := Tm0a p) (Q := q14) ?_ h3) ?_
  · exact ha
  · intro ρ' a' W' h
    subst h28
    subst h27
    exact hR ρ' a' W' h
def TlAFU (d : Nat) : List Use := ⟨TcE2, 26, [], k232n⟩ :: ⟨TcE5, 78, [73], k232n⟩ :: ⟨TcE9, 89, [5, 85, 11, 12, 13, 14, 83], k68n⟩ :: ⟨TcE11, 93, TcK5742, k263n⟩ :: repW d 105
def TlAFP : List Pur := [⟨161, [k1n], .bool true⟩, ⟨161, [k3n], .bool true⟩, ⟨269, [k9n], .int .i64 0⟩]
def TlAF (p : Nat) : Pc := ⟨133, (Tm0a p).f0, 26, (Tm0a p).h0, .norm, [(0, .sint .i64 11), (1, .sint .i64 12), (2, .sint .i64 10), (4, .sint .i64 13), (11, .ptr 0 0), (12, .ptr 22 0), (13, .int .i64 p), (14, .sint .i64 28)], 206, upd (Tm0a p).h0 [(16, k56n), (17, k70n), (19, k7n), (20, k11n), (21, k135n), (22, .cells (nl p (.sint .i64 27)))] ++ [(99, k131n), (77, k57n), (97, k17n)]⟩
def TlAFF (p : Nat) : Facts := ⟨[(1, 30), (0, 30), (0, 59), (0, 2), (0, 60), (0, 60), (0, 60), (0, 59), (4602678819172646912, 4605380978949069210), (1, 2), (0, 60), (0, 30), (0, 30), (0, 59), (0, 29), (1, 30), (1, 60), (48, 57), (48, 57), (48, 57), (48, 57), (48, 57), (48, 57), (48, 49), (48, 57), (48, 57), (48, 57), (1, 61), (1, 60)], [⟨.add, .i64, .s 4, .c (1), .s 27⟩, ⟨.add, .i64, .s 2, .c (1), .s 28⟩], if0 p ⟨.s 2, .s 10, true⟩ [], [], [], [], [], []⟩
theorem TlAFR : ∀ p, p < 2 → ∀ d, d < 6 → (pcOk (TlAF p) (exec (env (TlAFF p).sg) (callS (TlAFF p) (TlAFU d) TlAFP) 1000 (bodyOf 4 1) (fr (TlAF p).n (TlAF p).f0) (mkSt (TlAF p).h0 (TlAF p).n0)) && (pickOk (TlAF p) TcK68b3 k8n (Tm0e p) && swapOk (qf q14) (Tm0a p) ⟨(TlAF p).n, (TlAF p).f0, (TlAF p).n0, (TlAF p).h0⟩)) = true :=
  p2 (k6 (by kernel_rfl) (by kernel_rfl) (by kernel_rfl) (by kernel_rfl) (by kernel_rfl) (by kernel_rfl)) (k6 (by kernel_rfl) (by kernel_rfl) (by kernel_rfl) (by kernel_rfl) (by kernel_rfl) (by kernel_rfl))
theorem TlAF_ok (p : Nat) (hp : p < 2) (x0 x1 x2 x3 x4 x5 x6 x7 x8 x9 x10 x11 x12 x13 : Int) (b0 : (1 : Int) ≤ x0 ∧ x0 ≤ 30) (b1 : (0 : Int) ≤ x1 ∧ x1 ≤ 30) (b7 : (0 : Int) ≤ x7 ∧ x7 ≤ 59) (k : Co x2 x3 x4 x5 x6 x8 x9 x10 x11 x12 x13) (r0 : p = 0 → x2 < x10) (r1 : 2 ≤ x0) {ρ : Rho} {a : Act} {W : World} {R : Exit → Act → World → Prop} (ha : (Tm0a p).At W0 (sgl [x0, x1, x2, x3, x4, x5, x6, x7, x8, x9, x10, x11, x12, x13]) ρ a W) (hR : ∀ ρ' a' W', (Tm0e p).At W0 (sgl [x0, (1), ((1) + x2), x3, ((1) + x4), x5, x6, x7, x8, x9, x10, x11, x12, x13]) ρ' a' W' → R (toExit .norm) a' W') : (bodyOf 4 1).wp Tryz.prog R a W := by
  obtain ⟨b2, b3, b4, b5, b6, b8, b9, b10, b11, b12, b13⟩ := k
  have d8 := b8.bd
  obtain ⟨y14, h14⟩ := ex (x0 - 1)
  obtain ⟨y15, h15⟩ := ex (1)
  obtain ⟨y16, h16⟩ := ex (60 - x7)
  obtain ⟨y17, y18, y19, y20, y21, y22, y23, y24, y25, y26, q⟩ := exRp x0 y14 y15 y16
  have qb := q.bd
  obtain ⟨d, hd, hc⟩ := clW x0 y14 y16
  obtain ⟨y27, h27⟩ := ex ((1) + x4)
  obtain ⟨y28, h28⟩ := ex ((1) + x2)
  obtain ⟨h1, h2, h3⟩ := and3 (TlAFR p hp d hd)
  refine pc_at (W0 := W0) (ρ := ρ) (F := (TlAFF p)) (us := TlAFU d) (ps := TlAFP) (l := [x0, x1, x2, x3, x4, x5, x6, x7, x8, x9, x10, x11, x12, x13, y14, y15, y16, y17, y18, y19, y20, y21, y22, y23, y24, y25, y26, y27, y28]) (e := TlAF p) (P := _) (Q := k8n) (t := Tm0e p) ⟨gc (gc (gc (gc (gc (gc (gc (gc (gc (gc (gc (gc (gc (gc (gc (gc (gc (gc (gc (gc (gc (gc (gc (gc (gc (gc (gc (gc (gc trivial)))))))))))))))))))))))))))), (al (fA x4 (1) y27) (al (fA x2 (1) y28) an)), if0_ok (fun h => fT x2 x10 (r0 h)) an, an, an, an, an, an⟩ (al (ue (TcE2_ok x2)) (al (ue (TcE5_ok x2)) (al (ue (TcE9_ok x2 x7 x0 x8)) (al (ue (TcE11_ok x7 x3 x0 x8 y14 y16)) (repW_ok d hc q _))))) (al (pz (TcE3_ok) []) (al (pz (TcE4_ok) []) (al (ck (l := .s 0) (k := 8) x0 x8) an))) h1 h2 (Tm.At.swap (t := Tm0a p) (Q := q14) ?_ h3) ?_
  · exact ha
  · intro ρ' a' W' h
    subst h28
    subst h27
    exact hR ρ' a' W' h
def TlALU (d : Nat) : List Use := ⟨TcE2, 26, [], k232n⟩ :: ⟨TcE5, 78, [73], k232n⟩ :: ⟨TcE9, 89, [5, 85, 11, 12, 13, 14, 83], k68n⟩ :: ⟨TcE40, 93, TcK4208, k224n⟩ :: repL d 106
def TlALP : List Pur := [⟨161, [k1n], .bool true⟩, ⟨161, [k3n], .bool true⟩, ⟨239, [.str TcK1ab9], .int .u64 12469191778965217993⟩, ⟨269, [k9n], .int .i64 0⟩]
def TlAL (p : Nat) : Pc := ⟨133, (Tm0e p).f0, 26, upd (Tm0e p).h0 [(20, k148n)], .norm, [(0, .sint .i64 11), (1, .sint .i64 12), (2, .sint .i64 10), (4, .sint .i64 13), (11, .ptr 0 0), (12, .ptr 22 0), (13, .int .i64 p), (14, .sint .i64 29)], 207, upd (List.take 23 (Tm0e p).h0) [(17, k70n), (18, k39n), (19, k7n), (20, k151n), (21, k135n), (22, .cells (nl p (.sint .i64 28)))] ++ [(99, k131n), (77, k57n), (97, k17n)]⟩
def TlALF (p : Nat) : Facts := ⟨[(1, 30), (0, 30), (0, 59), (1, 2), (0, 60), (0, 60), (0, 60), (0, 59), (4602678819172646912, 4605380978949069210), (1, 2), (0, 60), (0, 30), (0, 30), (0, 59), (0, 29), (1, 30), (1, 60), (48, 57), (48, 57), (48, 57), (48, 57), (48, 57), (48, 57), (48, 49), (48, 57), (48, 57), (48, 57), (1, 29), (1, 61), (1, 60)], [⟨.add, .i64, .s 4, .c (1), .s 28⟩, ⟨.add, .i64, .s 2, .c (1), .s 29⟩], if0 p ⟨.s 2, .s 10, true⟩ [], [], [], [], [], []⟩
theorem TlALR : ∀ p, p < 2 → ∀ d, d < 4 → (pcOk (TlAL p) (exec (env (TlALF p).sg) (callS (TlALF p) (TlALU d) TlALP) 1000 (bodyOf 4 1) (fr (TlAL p).n (TlAL p).f0) (mkSt (TlAL p).h0 (TlAL p).n0)) && (pickOk (TlAL p) TcK68b3 k46n (Tm0em p) && swapOk (qf k47n) (Tm0e p) ⟨(TlAL p).n, (TlAL p).f0, (TlAL p).n0, (TlAL p).h0⟩)) = true :=
  p2 (k4 (by kernel_rfl) (by kernel_rfl) (by kernel_rfl) (by kernel_rfl)) (k4 (by kernel_rfl) (by kernel_rfl) (by kernel_rfl) (by kernel_rfl))
theorem TlAL_ok (p : Nat) (hp : p < 2) (x0 x1 x2 x3 x4 x5 x6 x7 x8 x9 x10 x11 x12 x13 : Int) (b0 : (1 : Int) ≤ x0 ∧ x0 ≤ 30) (b1 : (0 : Int) ≤ x1 ∧ x1 ≤ 30) (b7 : (0 : Int) ≤ x7 ∧ x7 ≤ 59) (b3 : (1 : Int) ≤ x3 ∧ x3 ≤ 2) (k : Co x2 x3 x4 x5 x6 x8 x9 x10 x11 x12 x13) (r0 : p = 0 → x2 < x10) (r1 : 1 ≤ x1 ∧ x1 + 1 = x0) {ρ : Rho} {a : Act} {W : World} {R : Exit → Act → World → Prop} (ha : (Tm0e p).At W0 (sgl [x0, x1, x2, x3, x4, x5, x6, x7, x8, x9, x10, x11, x12, x13]) ρ a W) (hR : ∀ ρ' a' W', (Tm0em p).At W0 (sgl [x0, x0, ((1) + x2), x3, ((1) + x4), x5, x6, x7, x8, x9, x10, x11, x12, x13]) ρ' a' W' → R (toExit .norm) a' W') : (bodyOf 4 1).wp Tryz.prog R a W := by
  obtain ⟨b2, _, b4, b5, b6, b8, b9, b10, b11, b12, b13⟩ := k
  have d8 := b8.bd
  obtain ⟨y14, h14⟩ := ex (0)
  obtain ⟨y15, h15⟩ := ex (x0)
  obtain ⟨y16, h16⟩ := ex (60 - x7)
  obtain ⟨y17, y18, y19, y20, y21, y22, y23, y24, y25, y26, q⟩ := exRp x0 y14 y15 y16
  have qb := q.bd
  obtain ⟨d, hd, hc⟩ := clL x0 y16
  obtain ⟨y27, h27⟩ := ex ((-1) + x0)
  obtain ⟨y28, h28⟩ := ex ((1) + x4)
  obtain ⟨y29, h29⟩ := ex ((1) + x2)
  obtain ⟨h1, h2, h3⟩ := and3 (TlALR p hp d hd)
  refine pc_at (W0 := W0) (ρ := ρ) (F := (TlALF p)) (us := TlALU d) (ps := TlALP) (l := [x0, x1, x2, x3, x4, x5, x6, x7, x8, x9, x10, x11, x12, x13, y14, y15, y16, y17, y18, y19, y20, y21, y22, y23, y24, y25, y26, y27, y28, y29]) (e := TlAL p) (P := _) (Q := k46n) (t := Tm0em p) ⟨gc (gc (gc (gc (gc (gc (gc (gc (gc (gc (gc (gc (gc (gc (gc (gc (gc (gc (gc (gc (gc (gc (gc (gc (gc (gc (gc (gc (gc (gc trivial))))))))))))))))))))))))))))), (al (fA x4 (1) y28) (al (fA x2 (1) y29) an)), if0_ok (fun h => fT x2 x10 (r0 h)) an, an, an, an, an, an⟩ (al (ue (TcE2_ok x2)) (al (ue (TcE5_ok x2)) (al (ue (TcE9_ok x2 x7 x0 x8)) (al (ue (TcE40_ok x7 x3 x0 x8 y27 (0) x0 y16)) (repL_ok d hc q _))))) (al (pz (TcE3_ok) []) (al (pz (TcE4_ok) []) (al (pz (TcE10_ok) []) (al (ck (l := .s 0) (k := 8) x0 x8) an)))) h1 h2 (Tm.At.swap (t := Tm0e p) (Q := k47n) ?_ h3) ?_
  · have e : y27 = x1 := by omega
    subst e
    exact ha
  · intro ρ' a' W' h
    subst h29
    subst h28
    exact hR ρ' a' W' h
def TlAOU (d : Nat) : List Use := ⟨TcE2, 26, [], k232n⟩ :: ⟨TcE5, 78, [73], k232n⟩ :: ⟨TcE9, 89, [5, 85, 11, 12, 13, 14, 83], k68n⟩ :: ⟨TcE50, 93, TcK4208, k222n⟩ :: repO d 103
def TlAOP : List Pur := [⟨161, [k1n], .bool true⟩, ⟨161, [k3n], .bool true⟩, ⟨239, [.str TcK1ab9], .int .u64 12469191778965217993⟩, ⟨269, [k9n], .int .i64 0⟩]
def TlAO (p : Nat) : Pc := ⟨133, (Tm0e p).f0, 26, (Tm0e p).h0, .norm, [(0, .sint .i64 11), (1, .sint .i64 12), (2, .sint .i64 10), (4, .sint .i64 13), (11, .ptr 0 0), (12, .ptr 22 0), (13, .int .i64 p), (14, .sint .i64 27)], 204, upd (List.take 25 (Tm0e p).h0) [(18, k39n), (19, k7n)] ++ [(77, k57n)]⟩
def TlAOF (p : Nat) : Facts := ⟨[(1, 30), (1, 30), (0, 59), (1, 2), (0, 60), (0, 60), (0, 60), (0, 59), (4602678819172646912, 4605380978949069210), (1, 2), (0, 60), (0, 30), (0, 30), (0, 59), (0, 29), (1, 30), (1, 60), (48, 57), (48, 57), (48, 57), (48, 57), (48, 57), (48, 57), (48, 49), (48, 57), (48, 57), (48, 57), (1, 60)], [⟨.add, .i64, .s 2, .c (1), .s 27⟩], if0 p ⟨.s 2, .s 10, true⟩ [], [], [], [], [], []⟩
theorem TlAOR : ∀ p, p < 2 → ∀ d, d < 4 → (pcOk (TlAO p) (exec (env (TlAOF p).sg) (callS (TlAOF p) (TlAOU d) TlAOP) 1000 (bodyOf 4 1) (fr (TlAO p).n (TlAO p).f0) (mkSt (TlAO p).h0 (TlAO p).n0)) && (pickOk (TlAO p) TcK420b k2n (Tm0em p) && swapOk (qf q14) (Tm0e p) ⟨(TlAO p).n, (TlAO p).f0, (TlAO p).n0, (TlAO p).h0⟩)) = true :=
  p2 (k4 (by kernel_rfl) (by kernel_rfl) (by kernel_rfl) (by kernel_rfl)) (k4 (by kernel_rfl) (by kernel_rfl) (by kernel_rfl) (by kernel_rfl))
theorem TlAO_ok (p : Nat) (hp : p < 2) (x0 x1 x2 x3 x4 x5 x6 x7 x8 x9 x10 x11 x12 x13 : Int) (b0 : (1 : Int) ≤ x0 ∧ x0 ≤ 30) (b1 : (1 : Int) ≤ x1 ∧ x1 ≤ 30) (b7 : (0 : Int) ≤ x7 ∧ x7 ≤ 59) (b3 : (1 : Int) ≤ x3 ∧ x3 ≤ 2) (k : Co x2 x3 x4 x5 x6 x8 x9 x10 x11 x12 x13) (r0 : p = 0 → x2 < x10) (r1 : x0 ≤ x1) {ρ : Rho} {a : Act} {W : World} {R : Exit → Act → World → Prop} (ha : (Tm0e p).At W0 (sgl [x0, x1, x2, x3, x4, x5, x6, x7, x8, x9, x10, x11, x12, x13]) ρ a W) (hR : ∀ ρ' a' W', (Tm0em p).At W0 (sgl [x0, x1, ((1) + x2), x3, x4, x5, x6, x7, x8, x9, x10, x11, x12, x13]) ρ' a' W' → R (toExit .norm) a' W') : (bodyOf 4 1).wp Tryz.prog R a W := by
  obtain ⟨b2, _, b4, b5, b6, b8, b9, b10, b11, b12, b13⟩ := k
  have d8 := b8.bd
  obtain ⟨y14, h14⟩ := ex (0)
  obtain ⟨y15, h15⟩ := ex (x0)
  obtain ⟨y16, h16⟩ := ex (60 - x7)
  obtain ⟨y17, y18, y19, y20, y21, y22, y23, y24, y25, y26, q⟩ := exRp x0 y14 y15 y16
  have qb := q.bd
  obtain ⟨d, hd, hc⟩ := clO x0 y16
  obtain ⟨y27, h27⟩ := ex ((1) + x2)
  obtain ⟨h1, h2, h3⟩ := and3 (TlAOR p hp d hd)
  refine pc_at (W0 := W0) (ρ := ρ) (F := (TlAOF p)) (us := TlAOU d) (ps := TlAOP) (l := [x0, x1, x2, x3, x4, x5, x6, x7, x8, x9, x10, x11, x12, x13, y14, y15, y16, y17, y18, y19, y20, y21, y22, y23, y24, y25, y26, y27]) (e := TlAO p) (P := _) (Q := k2n) (t := Tm0em p) ⟨gc (gc (gc (gc (gc (gc (gc (gc (gc (gc (gc (gc (gc (gc (gc (gc (gc (gc (gc (gc (gc (gc (gc (gc (gc (gc (gc (gc trivial))))))))))))))))))))))))))), (al (fA x2 (1) y27) an), if0_ok (fun h => fT x2 x10 (r0 h)) an, an, an, an, an, an⟩ (al (ue (TcE2_ok x2)) (al (ue (TcE5_ok x2)) (al (ue (TcE9_ok x2 x7 x0 x8)) (al (ue (TcE50_ok x7 x3 x0 x8 x1 y16)) (repO_ok d hc q _))))) (al (pz (TcE3_ok) []) (al (pz (TcE4_ok) []) (al (pz (TcE10_ok) []) (al (ck (l := .s 0) (k := 8) x0 x8) an)))) h1 h2 (Tm.At.swap (t := Tm0e p) (Q := q14) ?_ h3) ?_
  · exact ha
  · intro ρ' a' W' h
    subst h27
    exact hR ρ' a' W' h
def TlAWU (d : Nat) : List Use := ⟨TcE2, 26, [], k232n⟩ :: ⟨TcE5, 78, [73], k232n⟩ :: ⟨TcE9, 89, [5, 85, 11, 12, 13, 14, 83], k68n⟩ :: ⟨TcE39, 93, TcK4208, [.s 7, .s 3, .s 0, .s 8, .s 1, .s 14, .s 15, .s 16]⟩ :: repW d 105
def TlAWP : List Pur := [⟨161, [k1n], .bool true⟩, ⟨161, [k3n], .bool true⟩, ⟨239, [.str TcK1ab9], .int .u64 12469191778965217993⟩, ⟨269, [k9n], .int .i64 0⟩]
def TlAW (p : Nat) : Pc := ⟨133, (Tm0e p).f0, 26, (Tm0e p).h0, .norm, [(0, .sint .i64 11), (1, .sint .i64 12), (2, .sint .i64 10), (4, .sint .i64 13), (11, .ptr 0 0), (12, .ptr 22 0), (13, .int .i64 p), (14, .sint .i64 28)], 206, upd (List.take 23 (Tm0e p).h0) [(17, k70n), (19, k7n), (20, .cells [.bool false, k50n, .int .i64 0, .bool true, .str TcK1ab9, .sint .i64 15, .bool false, k50n, .int .i64 0, .bool false, k50n, .int .i64 0, .bool false, k50n, .int .i64 0, .bool false, k50n, .int .i64 0]), (21, k135n), (22, .cells (nl p (.sint .i64 27)))] ++ [(99, k131n), (77, k57n), (97, k17n)]⟩
def TlAWF (p : Nat) : Facts := ⟨[(1, 30), (1, 30), (0, 59), (0, 2), (0, 60), (0, 60), (0, 60), (0, 59), (4602678819172646912, 4605380978949069210), (1, 2), (0, 60), (0, 30), (0, 30), (0, 59), (0, 29), (1, 30), (1, 60), (48, 57), (48, 57), (48, 57), (48, 57), (48, 57), (48, 57), (48, 49), (48, 57), (48, 57), (48, 57), (1, 61), (1, 60)], [⟨.add, .i64, .s 4, .c (1), .s 27⟩, ⟨.add, .i64, .s 2, .c (1), .s 28⟩], if0 p ⟨.s 2, .s 10, true⟩ [], [], [], [], [], []⟩
theorem TlAWR : ∀ p, p < 2 → ∀ d, d < 6 → (pcOk (TlAW p) (exec (env (TlAWF p).sg) (callS (TlAWF p) (TlAWU d) TlAWP) 1000 (bodyOf 4 1) (fr (TlAW p).n (TlAW p).f0) (mkSt (TlAW p).h0 (TlAW p).n0)) && (pickOk (TlAW p) TcK68b3 k73n (Tm0e p) && swapOk (qf q14) (Tm0e p) ⟨(TlAW p).n, (TlAW p).f0, (TlAW p).n0, (TlAW p).h0⟩)) = true :=
  p2 (k6 (by kernel_rfl) (by kernel_rfl) (by kernel_rfl) (by kernel_rfl) (by kernel_rfl) (by kernel_rfl)) (k6 (by kernel_rfl) (by kernel_rfl) (by kernel_rfl) (by kernel_rfl) (by kernel_rfl) (by kernel_rfl))
theorem TlAW_ok (p : Nat) (hp : p < 2) (x0 x1 x2 x3 x4 x5 x6 x7 x8 x9 x10 x11 x12 x13 : Int) (b0 : (1 : Int) ≤ x0 ∧ x0 ≤ 30) (b1 : (1 : Int) ≤ x1 ∧ x1 ≤ 30) (b7 : (0 : Int) ≤ x7 ∧ x7 ≤ 59) (k : Co x2 x3 x4 x5 x6 x8 x9 x10 x11 x12 x13) (r0 : p = 0 → x2 < x10) (r1 : 1 ≤ x1 ∧ x1 + 1 < x0) {ρ : Rho} {a : Act} {W : World} {R : Exit → Act → World → Prop} (ha : (Tm0e p).At W0 (sgl [x0, x1, x2, x3, x4, x5, x6, x7, x8, x9, x10, x11, x12, x13]) ρ a W) (hR : ∀ ρ' a' W', (Tm0e p).At W0 (sgl [x0, (x1 + 1), ((1) + x2), x3, ((1) + x4), x5, x6, x7, x8, x9, x10, x11, x12, x13]) ρ' a' W' → R (toExit .norm) a' W') : (bodyOf 4 1).wp Tryz.prog R a W := by
  obtain ⟨b2, b3, b4, b5, b6, b8, b9, b10, b11, b12, b13⟩ := k
  have d8 := b8.bd
  obtain ⟨y14, h14⟩ := ex (x0 - x1 - 1)
  obtain ⟨y15, h15⟩ := ex (x1 + 1)
  obtain ⟨y16, h16⟩ := ex (60 - x7)
  obtain ⟨y17, y18, y19, y20, y21, y22, y23, y24, y25, y26, q⟩ := exRp x0 y14 y15 y16
  have qb := q.bd
  obtain ⟨d, hd, hc⟩ := clW x0 y14 y16
  obtain ⟨y27, h27⟩ := ex ((1) + x4)
  obtain ⟨y28, h28⟩ := ex ((1) + x2)
  obtain ⟨h1, h2, h3⟩ := and3 (TlAWR p hp d hd)
  refine pc_at (W0 := W0) (ρ := ρ) (F := (TlAWF p)) (us := TlAWU d) (ps := TlAWP) (l := [x0, x1, x2, x3, x4, x5, x6, x7, x8, x9, x10, x11, x12, x13, y14, y15, y16, y17, y18, y19, y20, y21, y22, y23, y24, y25, y26, y27, y28]) (e := TlAW p) (P := _) (Q := k73n) (t := Tm0e p) ⟨gc (gc (gc (gc (gc (gc (gc (gc (gc (gc (gc (gc (gc (gc (gc (gc (gc (gc (gc (gc (gc (gc (gc (gc (gc (gc (gc (gc (gc trivial)))))))))))))))))))))))))))), (al (fA x4 (1) y27) (al (fA x2 (1) y28) an)), if0_ok (fun h => fT x2 x10 (r0 h)) an, an, an, an, an, an⟩ (al (ue (TcE2_ok x2)) (al (ue (TcE5_ok x2)) (al (ue (TcE9_ok x2 x7 x0 x8)) (al (ue (TcE39_ok x7 x3 x0 x8 x1 y14 y15 y16)) (repW_ok d hc q _))))) (al (pz (TcE3_ok) []) (al (pz (TcE4_ok) []) (al (pz (TcE10_ok) []) (al (ck (l := .s 0) (k := 8) x0 x8) an)))) h1 h2 (Tm.At.swap (t := Tm0e p) (Q := q14) ?_ h3) ?_
  · exact ha
  · intro ρ' a' W' h
    subst h28
    subst h27
    subst h15
    exact hR ρ' a' W' h
def TlAZU (d : Nat) : List Use := ⟨TcE2, 26, [], k232n⟩ :: ⟨TcE5, 78, [73], k232n⟩ :: ⟨TcE51, 89, [5, 85, 11, 12, 13, 14, 83], k133n⟩ :: ⟨TcE52, 93, TcK5742, k157n⟩ :: repZ d 103
def TlAZP : List Pur := [⟨161, [k1n], .bool true⟩, ⟨161, [k3n], .bool true⟩, ⟨269, [k21n], .int .i64 0⟩]
def TlAZ (p : Nat) : Pc := ⟨133, (Tm0za p).f0, 26, (Tm0za p).h0, .norm, [(0, .sint .i64 11), (1, .sint .i64 12), (2, .sint .i64 10), (4, .sint .i64 13), (11, .ptr 0 0), (12, .ptr 22 0), (13, .int .i64 p), (14, .sint .i64 27)], 204, upd (Tm0za p).h0 [(18, k39n), (19, k7n)] ++ [(77, k57n)]⟩
def TlAZF (p : Nat) : Facts := ⟨[(0, 0), (0, 30), (0, 59), (1, 2), (0, 60), (0, 60), (0, 60), (0, 59), (4602678819172646912, 4605380978949069210), (1, 2), (0, 60), (0, 30), (0, 30), (0, 59), (0, 29), (1, 30), (1, 60), (48, 57), (48, 57), (48, 57), (48, 57), (48, 57), (48, 57), (48, 49), (48, 57), (48, 57), (48, 57), (1, 60)], [⟨.add, .i64, .s 2, .c (1), .s 27⟩], if0 p ⟨.s 2, .s 10, true⟩ [], [], [], [], [], []⟩
theorem TlAZR : ∀ p, p < 2 → ∀ d, d < 2 → (pcOk (TlAZ p) (exec (env (TlAZF p).sg) (callS (TlAZF p) (TlAZU d) TlAZP) 1000 (bodyOf 4 1) (fr (TlAZ p).n (TlAZ p).f0) (mkSt (TlAZ p).h0 (TlAZ p).n0)) && (pickOk (TlAZ p) TcK9b81 k2n (Tm0zbm p) && swapOk (qf q14) (Tm0za p) ⟨(TlAZ p).n, (TlAZ p).f0, (TlAZ p).n0, (TlAZ p).h0⟩)) = true :=
  p2 (k2 (by kernel_rfl) (by kernel_rfl)) (k2 (by kernel_rfl) (by kernel_rfl))
theorem TlAZ_ok (p : Nat) (hp : p < 2) (x0 x1 x2 x3 x4 x5 x6 x7 x8 x9 x10 x11 x12 x13 : Int) (b0 : x0 = 0) (b1 : (0 : Int) ≤ x1 ∧ x1 ≤ 30) (b7 : (0 : Int) ≤ x7 ∧ x7 ≤ 59) (b3 : (1 : Int) ≤ x3 ∧ x3 ≤ 2) (k : Co x2 x3 x4 x5 x6 x8 x9 x10 x11 x12 x13) (r0 : p = 0 → x2 < x10) {ρ : Rho} {a : Act} {W : World} {R : Exit → Act → World → Prop} (ha : (Tm0za p).At W0 (sgl [x0, x1, x2, x3, x4, x5, x6, x7, x8, x9, x10, x11, x12, x13]) ρ a W) (hR : ∀ ρ' a' W', (Tm0zbm p).At W0 (sgl [x0, x1, ((1) + x2), x3, x4, x5, x6, x7, x8, x9, x10, x11, x12, x13]) ρ' a' W' → R (toExit .norm) a' W') : (bodyOf 4 1).wp Tryz.prog R a W := by
  obtain ⟨b2, _, b4, b5, b6, b8, b9, b10, b11, b12, b13⟩ := k
  have d8 := b8.bd
  obtain ⟨y14, h14⟩ := ex (0)
  obtain ⟨y15, h15⟩ := ex (1)
  obtain ⟨y16, h16⟩ := ex (60 - x7)
  obtain ⟨y17, y18, y19, y20, y21, y22, y23, y24, y25, y26, q⟩ := exRz y14 y15 y16
  have qb := q.bd
  obtain ⟨d, hd, hc⟩ := clZ y16
  obtain ⟨y27, h27⟩ := ex ((1) + x2)
  obtain ⟨h1, h2, h3⟩ := and3 (TlAZR p hp d hd)
  refine pc_at (W0 := W0) (ρ := ρ) (F := (TlAZF p)) (us := TlAZU d) (ps := TlAZP) (l := [x0, x1, x2, x3, x4, x5, x6, x7, x8, x9, x10, x11, x12, x13, y14, y15, y16, y17, y18, y19, y20, y21, y22, y23, y24, y25, y26, y27]) (e := TlAZ p) (P := _) (Q := k2n) (t := Tm0zbm p) ⟨gc (gc (gc (gc (gc (gc (gc (gc (gc (gc (gc (gc (gc (gc (gc (gc (gc (gc (gc (gc (gc (gc (gc (gc (gc (gc (gc (gc trivial))))))))))))))))))))))))))), (al (fA x2 (1) y27) an), if0_ok (fun h => fT x2 x10 (r0 h)) an, an, an, an, an, an⟩ (al (ue (TcE2_ok x2)) (al (ue (TcE5_ok x2)) (al (ue (TcE51_ok x2 x7 x8)) (al (ue (TcE52_ok x7 x3 x8 y16)) (repZ_ok d hc q _))))) (al (pz (TcE3_ok) []) (al (pz (TcE4_ok) []) (al (ck (l := .c (0)) (k := 8) (0) x8) an))) h1 h2 (Tm.At.swap (t := Tm0za p) (Q := q14) ?_ h3) ?_
  · exact ha
  · intro ρ' a' W' h
    subst h27
    exact hR ρ' a' W' h
end
end Go.Proofs.YtnpkeganpkobjaaGreatDoor.Ev
