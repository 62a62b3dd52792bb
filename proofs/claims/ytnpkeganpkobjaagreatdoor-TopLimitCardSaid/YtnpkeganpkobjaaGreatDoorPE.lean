import Derived.Test.YtnpkeganpkobjaaGreatDoorCG
import Derived.Test.YtnpkeganpkobjaaGreatDoorCK
set_option linter.all false
namespace Go.Proofs.YtnpkeganpkobjaaGreatDoor.Ev
set_option maxRecDepth 100000
set_option maxHeartbeats 4000000
open Go Go.RowKit
variable {W0 : World}
noncomputable section
def TlCoEU (d : Nat) : List Use := ⟨TcE2, 26, [], k232n⟩ :: ⟨TcE5, 78, [73], k232n⟩ :: ⟨TcE65, 89, [5, 85, 11, 12, 13, 14, 83], k68n⟩ :: ⟨TcE68, 93, TcK20e7, k290n⟩ :: repL d 105
def TlCoEP : List Pur := [⟨161, [k1n], .bool true⟩, ⟨161, [k3n], .bool true⟩, ⟨269, [k9n], .int .i64 0⟩]
def TlCoE (p : Nat) : Pc := ⟨133, (Tm1do p).f0, 26, (Tm1do p).h0, .norm, [(0, .sint .i64 11), (1, .sint .i64 12), (2, .sint .i64 10), (4, .sint .i64 13), (11, .ptr 0 0), (12, .ptr 22 0), (13, .int .i64 p), (14, .sint .i64 28)], 206, upd (List.take 23 (Tm1do p).h0) [(16, k56n), (17, k70n), (19, k7n), (20, k10n), (21, k125n), (22, .cells (nl p (.sint .i64 27)))] ++ [(99, k131n), (77, k57n), (97, k16n)]⟩
def TlCoEF : Facts := ⟨[(1, 30), (0, 30), (0, 59), (0, 2), (0, 60), (0, 60), (0, 60), (60, 110), (4602678819172646912, 4605380978949069210), (1, 2), (0, 60), (0, 30), (0, 30), (0, 59), (0, 29), (1, 30), (1, 60), (48, 57), (48, 57), (48, 57), (48, 57), (48, 57), (48, 57), (48, 49), (48, 57), (48, 57), (48, 57), (1, 61), (1, 60)], [⟨.add, .i64, .s 4, .c (1), .s 27⟩, ⟨.add, .i64, .s 2, .c (1), .s 28⟩], [], [], [], [], [], []⟩
theorem TlCoER : ∀ p, p = 2 → ∀ d, d < 2 → (pcOk (TlCoE p) (exec (env TlCoEF.sg) (callS TlCoEF (TlCoEU d) TlCoEP) 1000 (bodyOf 4 1) (fr (TlCoE p).n (TlCoE p).f0) (mkSt (TlCoE p).h0 (TlCoE p).n0)) && (pickOk (TlCoE p) TcK68b3 k8n (Tm1eo p) && swapOk (qf q14) (Tm1do p) ⟨(TlCoE p).n, (TlCoE p).f0, (TlCoE p).n0, (TlCoE p).h0⟩)) = true :=
  pC (k2 (by kernel_rfl) (by kernel_rfl))
theorem TlCoE_ok (p : Nat) (hp : p = 2) (x0 x1 x2 x3 x4 x5 x6 x7 x8 x9 x10 x11 x12 x13 : Int) (b0 : (1 : Int) ≤ x0 ∧ x0 ≤ 30) (b1 : (0 : Int) ≤ x1 ∧ x1 ≤ 30) (b7 : (60 : Int) ≤ x7 ∧ x7 ≤ 110) (k : Co x2 x3 x4 x5 x6 x8 x9 x10 x11 x12 x13) (r1 : x0 = 1) {ρ : Rho} {a : Act} {W : World} {R : Exit → Act → World → Prop} (ha : (Tm1do p).At W0 (sgl [x0, x1, x2, x3, x4, x5, x6, x7, x8, x9, x10, x11, x12, x13]) ρ a W) (hR : ∀ ρ' a' W', (Tm1eo p).At W0 (sgl [x0, (1), ((1) + x2), x3, ((1) + x4), x5, x6, x7, x8, x9, x10, x11, x12, x13]) ρ' a' W' → R (toExit .norm) a' W') : (bodyOf 4 1).wp Tryz.prog R a W := by
  obtain ⟨b2, b3, b4, b5, b6, b8, b9, b10, b11, b12, b13⟩ := k
  have d8 := b8.bd
  obtain ⟨y14, h14⟩ := ex (0)
  obtain ⟨y15, h15⟩ := ex (1)
  obtain ⟨y16, h16⟩ := ex (120 - x7)
  obtain ⟨y17, y18, y19, y20, y21, y22, y23, y24, y25, y26, q⟩ := exRp x0 y14 y15 y16
  have qb := q.bd
  obtain ⟨d, hd, hc⟩ := clLc x0 y16
  obtain ⟨y27, h27⟩ := ex ((1) + x4)
  obtain ⟨y28, h28⟩ := ex ((1) + x2)
  obtain ⟨h1, h2, h3⟩ := and3 (TlCoER p hp d hd)
  refine pc_at (W0 := W0) (ρ := ρ) (F := TlCoEF) (us := TlCoEU d) (ps := TlCoEP) (l := [x0, x1, x2, x3, x4, x5, x6, x7, x8, x9, x10, x11, x12, x13, y14, y15, y16, y17, y18, y19, y20, y21, y22, y23, y24, y25, y26, y27, y28]) (e := TlCoE p) (P := _) (Q := k8n) (t := Tm1eo p) ⟨gc (gc (gc (gc (gc (gc (gc (gc (gc (gc (gc (gc (gc (gc (gc (gc (gc (gc (gc (gc (gc (gc (gc (gc (gc (gc (gc (gc (gc trivial)))))))))))))))))))))))))))), (al (fA x4 (1) y27) (al (fA x2 (1) y28) an)), an, an, an, an, an, an⟩ (al (ue (TcE2_ok x2)) (al (ue (TcE5_ok x2)) (al (ue (TcE65_ok x2 x7 x0 x8)) (al (ue (TcE68_ok x7 x0 x8 (0) y16)) (repL_ok d hc q _))))) (al (pz (TcE3_ok) []) (al (pz (TcE4_ok) []) (al (ck (l := .s 0) (k := 8) x0 x8) an))) h1 h2 (Tm.At.swap (t := Tm1do p) (Q := q14) ?_ h3) ?_
  · exact ha
  · intro ρ' a' W' h
    subst h28
    subst h27
    exact hR ρ' a' W' h
def TlCoFU (d : Nat) : List Use := ⟨TcE2, 26, [], k232n⟩ :: ⟨TcE5, 78, [73], k232n⟩ :: ⟨TcE65, 89, [5, 85, 11, 12, 13, 14, 83], k68n⟩ :: ⟨TcE68, 93, TcK20e7, [.s 7, .s 0, .s 8, .s 14, .s 16]⟩ :: repW d 105
def TlCoFP : List Pur := [⟨161, [k1n], .bool true⟩, ⟨161, [k3n], .bool true⟩, ⟨269, [k9n], .int .i64 0⟩]
def TlCoF (p : Nat) : Pc := ⟨133, (Tm1do p).f0, 26, (Tm1do p).h0, .norm, [(0, .sint .i64 11), (1, .sint .i64 12), (2, .sint .i64 10), (4, .sint .i64 13), (11, .ptr 0 0), (12, .ptr 22 0), (13, .int .i64 p), (14, .sint .i64 28)], 206, upd (List.take 23 (Tm1do p).h0) [(16, k56n), (17, k70n), (19, k7n), (20, k10n), (21, k125n), (22, .cells (nl p (.sint .i64 27)))] ++ [(99, k131n), (77, k57n), (97, k16n)]⟩
def TlCoFF : Facts := ⟨[(1, 30), (0, 30), (0, 59), (0, 2), (0, 60), (0, 60), (0, 60), (60, 110), (4602678819172646912, 4605380978949069210), (1, 2), (0, 60), (0, 30), (0, 30), (0, 59), (0, 29), (1, 30), (1, 60), (48, 57), (48, 57), (48, 57), (48, 57), (48, 57), (48, 57), (48, 49), (48, 57), (48, 57), (48, 57), (1, 61), (1, 60)], [⟨.add, .i64, .s 4, .c (1), .s 27⟩, ⟨.add, .i64, .s 2, .c (1), .s 28⟩], [], [], [], [], [], []⟩
theorem TlCoFR : ∀ p, p = 2 → ∀ d, d < 3 → (pcOk (TlCoF p) (exec (env TlCoFF.sg) (callS TlCoFF (TlCoFU d) TlCoFP) 1000 (bodyOf 4 1) (fr (TlCoF p).n (TlCoF p).f0) (mkSt (TlCoF p).h0 (TlCoF p).n0)) && (pickOk (TlCoF p) TcK68b3 k8n (Tm1eo p) && swapOk (qf q14) (Tm1do p) ⟨(TlCoF p).n, (TlCoF p).f0, (TlCoF p).n0, (TlCoF p).h0⟩)) = true :=
  pC (k3 (by kernel_rfl) (by kernel_rfl) (by kernel_rfl))
theorem TlCoF_ok (p : Nat) (hp : p = 2) (x0 x1 x2 x3 x4 x5 x6 x7 x8 x9 x10 x11 x12 x13 : Int) (b0 : (1 : Int) ≤ x0 ∧ x0 ≤ 30) (b1 : (0 : Int) ≤ x1 ∧ x1 ≤ 30) (b7 : (60 : Int) ≤ x7 ∧ x7 ≤ 110) (k : Co x2 x3 x4 x5 x6 x8 x9 x10 x11 x12 x13) (r1 : 2 ≤ x0) {ρ : Rho} {a : Act} {W : World} {R : Exit → Act → World → Prop} (ha : (Tm1do p).At W0 (sgl [x0, x1, x2, x3, x4, x5, x6, x7, x8, x9, x10, x11, x12, x13]) ρ a W) (hR : ∀ ρ' a' W', (Tm1eo p).At W0 (sgl [x0, (1), ((1) + x2), x3, ((1) + x4), x5, x6, x7, x8, x9, x10, x11, x12, x13]) ρ' a' W' → R (toExit .norm) a' W') : (bodyOf 4 1).wp Tryz.prog R a W := by
  obtain ⟨b2, b3, b4, b5, b6, b8, b9, b10, b11, b12, b13⟩ := k
  have d8 := b8.bd
  obtain ⟨y14, h14⟩ := ex (x0 - 1)
  obtain ⟨y15, h15⟩ := ex (1)
  obtain ⟨y16, h16⟩ := ex (120 - x7)
  obtain ⟨y17, y18, y19, y20, y21, y22, y23, y24, y25, y26, q⟩ := exRp x0 y14 y15 y16
  have qb := q.bd
  obtain ⟨d, hd, hc⟩ := clWc x0 y14 y16
  obtain ⟨y27, h27⟩ := ex ((1) + x4)
  obtain ⟨y28, h28⟩ := ex ((1) + x2)
  obtain ⟨h1, h2, h3⟩ := and3 (TlCoFR p hp d hd)
  refine pc_at (W0 := W0) (ρ := ρ) (F := TlCoFF) (us := TlCoFU d) (ps := TlCoFP) (l := [x0, x1, x2, x3, x4, x5, x6, x7, x8, x9, x10, x11, x12, x13, y14, y15, y16, y17, y18, y19, y20, y21, y22, y23, y24, y25, y26, y27, y28]) (e := TlCoF p) (P := _) (Q := k8n) (t := Tm1eo p) ⟨gc (gc (gc (gc (gc (gc (gc (gc (gc (gc (gc (gc (gc (gc (gc (gc (gc (gc (gc (gc (gc (gc (gc (gc (gc (gc (gc (gc (gc trivial)))))))))))))))))))))))))))), (al (fA x4 (1) y27) (al (fA x2 (1) y28) an)), an, an, an, an, an, an⟩ (al (ue (TcE2_ok x2)) (al (ue (TcE5_ok x2)) (al (ue (TcE65_ok x2 x7 x0 x8)) (al (ue (TcE68_ok x7 x0 x8 y14 y16)) (repW_ok d hc q _))))) (al (pz (TcE3_ok) []) (al (pz (TcE4_ok) []) (al (ck (l := .s 0) (k := 8) x0 x8) an))) h1 h2 (Tm.At.swap (t := Tm1do p) (Q := q14) ?_ h3) ?_
  · exact ha
  · intro ρ' a' W' h
    subst h28
    subst h27
    exact hR ρ' a' W' h
def TlCoLU (d : Nat) : List Use := ⟨TcE2, 26, [], k232n⟩ :: ⟨TcE5, 78, [73], k232n⟩ :: ⟨TcE65, 89, [5, 85, 11, 12, 13, 14, 83], k68n⟩ :: ⟨TcE71, 93, TcK4208, [.s 7, .s 0, .s 8, .s 27, .c (0), .s 0, .s 16]⟩ :: repL d 105
def TlCoLP : List Pur := [⟨161, [k1n], .bool true⟩, ⟨161, [k3n], .bool true⟩, ⟨239, [.str TcK058b], .int .u64 12469190679453589782⟩, ⟨269, [k9n], .int .i64 0⟩]
def TlCoL (p : Nat) : Pc := ⟨133, (Tm1eo p).f0, 26, upd (Tm1eo p).h0 [(20, k82n)], .norm, [(0, .sint .i64 11), (1, .sint .i64 12), (2, .sint .i64 10), (4, .sint .i64 13), (11, .ptr 0 0), (12, .ptr 22 0), (13, .int .i64 p), (14, .sint .i64 29)], 206, upd (List.take 23 (Tm1eo p).h0) [(17, k70n), (19, k7n), (20, k84n), (21, k125n), (22, .cells (nl p (.sint .i64 28)))] ++ [(99, k131n), (77, k57n), (97, k16n)]⟩
def TlCoLF : Facts := ⟨[(1, 30), (0, 30), (0, 59), (0, 2), (0, 60), (0, 60), (0, 60), (60, 110), (4602678819172646912, 4605380978949069210), (1, 2), (0, 60), (0, 30), (0, 30), (0, 59), (0, 29), (1, 30), (1, 60), (48, 57), (48, 57), (48, 57), (48, 57), (48, 57), (48, 57), (48, 49), (48, 57), (48, 57), (48, 57), (1, 29), (1, 61), (1, 60)], [⟨.add, .i64, .s 4, .c (1), .s 28⟩, ⟨.add, .i64, .s 2, .c (1), .s 29⟩], [], [], [], [], [], []⟩
theorem TlCoLR : ∀ p, p = 2 → ∀ d, d < 2 → (pcOk (TlCoL p) (exec (env TlCoLF.sg) (callS TlCoLF (TlCoLU d) TlCoLP) 1000 (bodyOf 4 1) (fr (TlCoL p).n (TlCoL p).f0) (mkSt (TlCoL p).h0 (TlCoL p).n0)) && (pickOk (TlCoL p) TcK68b3 k46n (Tm1eo p) && swapOk (qf k47n) (Tm1eo p) ⟨(TlCoL p).n, (TlCoL p).f0, (TlCoL p).n0, (TlCoL p).h0⟩)) = true :=
  pC (k2 (by kernel_rfl) (by kernel_rfl))
theorem TlCoL_ok (p : Nat) (hp : p = 2) (x0 x1 x2 x3 x4 x5 x6 x7 x8 x9 x10 x11 x12 x13 : Int) (b0 : (1 : Int) ≤ x0 ∧ x0 ≤ 30) (b1 : (0 : Int) ≤ x1 ∧ x1 ≤ 30) (b7 : (60 : Int) ≤ x7 ∧ x7 ≤ 110) (k : Co x2 x3 x4 x5 x6 x8 x9 x10 x11 x12 x13) (r1 : 1 ≤ x1 ∧ x1 + 1 = x0) {ρ : Rho} {a : Act} {W : World} {R : Exit → Act → World → Prop} (ha : (Tm1eo p).At W0 (sgl [x0, x1, x2, x3, x4, x5, x6, x7, x8, x9, x10, x11, x12, x13]) ρ a W) (hR : ∀ ρ' a' W', (Tm1eo p).At W0 (sgl [x0, x0, ((1) + x2), x3, ((1) + x4), x5, x6, x7, x8, x9, x10, x11, x12, x13]) ρ' a' W' → R (toExit .norm) a' W') : (bodyOf 4 1).wp Tryz.prog R a W := by
  obtain ⟨b2, b3, b4, b5, b6, b8, b9, b10, b11, b12, b13⟩ := k
  have d8 := b8.bd
  obtain ⟨y14, h14⟩ := ex (0)
  obtain ⟨y15, h15⟩ := ex (x0)
  obtain ⟨y16, h16⟩ := ex (120 - x7)
  obtain ⟨y17, y18, y19, y20, y21, y22, y23, y24, y25, y26, q⟩ := exRp x0 y14 y15 y16
  have qb := q.bd
  obtain ⟨d, hd, hc⟩ := clLc x0 y16
  obtain ⟨y27, h27⟩ := ex ((-1) + x0)
  obtain ⟨y28, h28⟩ := ex ((1) + x4)
  obtain ⟨y29, h29⟩ := ex ((1) + x2)
  obtain ⟨h1, h2, h3⟩ := and3 (TlCoLR p hp d hd)
  refine pc_at (W0 := W0) (ρ := ρ) (F := TlCoLF) (us := TlCoLU d) (ps := TlCoLP) (l := [x0, x1, x2, x3, x4, x5, x6, x7, x8, x9, x10, x11, x12, x13, y14, y15, y16, y17, y18, y19, y20, y21, y22, y23, y24, y25, y26, y27, y28, y29]) (e := TlCoL p) (P := _) (Q := k46n) (t := Tm1eo p) ⟨gc (gc (gc (gc (gc (gc (gc (gc (gc (gc (gc (gc (gc (gc (gc (gc (gc (gc (gc (gc (gc (gc (gc (gc (gc (gc (gc (gc (gc (gc trivial))))))))))))))))))))))))))))), (al (fA x4 (1) y28) (al (fA x2 (1) y29) an)), an, an, an, an, an, an⟩ (al (ue (TcE2_ok x2)) (al (ue (TcE5_ok x2)) (al (ue (TcE65_ok x2 x7 x0 x8)) (al (ue (TcE71_ok x7 x0 x8 y27 (0) x0 y16)) (repL_ok d hc q _))))) (al (pz (TcE3_ok) []) (al (pz (TcE4_ok) []) (al (pz (TcE66_ok) []) (al (ck (l := .s 0) (k := 8) x0 x8) an)))) h1 h2 (Tm.At.swap (t := Tm1eo p) (Q := k47n) ?_ h3) ?_
  · have e : y27 = x1 := by omega
    subst e
    exact ha
  · intro ρ' a' W' h
    subst h29
    subst h28
    exact hR ρ' a' W' h
def TlCoOU (d : Nat) : List Use := ⟨TcE2, 26, [], k232n⟩ :: ⟨TcE5, 78, [73], k232n⟩ :: ⟨TcE65, 89, [5, 85, 11, 12, 13, 14, 83], k68n⟩ :: ⟨TcE75, 93, TcK4208, [.s 7, .s 0, .s 8, .s 1, .s 16]⟩ :: repO d 102
def TlCoOP : List Pur := [⟨161, [k1n], .bool true⟩, ⟨161, [k3n], .bool true⟩, ⟨239, [.str TcK058b], .int .u64 12469190679453589782⟩, ⟨269, [k9n], .int .i64 0⟩]
def TlCoO (p : Nat) : Pc := ⟨133, (Tm1eo p).f0, 26, (Tm1eo p).h0, .norm, [(0, .sint .i64 11), (1, .sint .i64 12), (2, .sint .i64 10), (4, .sint .i64 13), (11, .ptr 0 0), (12, .ptr 22 0), (13, .int .i64 p), (14, .sint .i64 27)], 203, upd (List.take 25 (Tm1eo p).h0) [(19, k7n)] ++ [(77, k57n)]⟩
def TlCoOF : Facts := ⟨[(1, 30), (1, 30), (0, 59), (0, 2), (0, 60), (0, 60), (0, 60), (60, 110), (4602678819172646912, 4605380978949069210), (1, 2), (0, 60), (0, 30), (0, 30), (0, 59), (0, 29), (1, 30), (1, 60), (48, 57), (48, 57), (48, 57), (48, 57), (48, 57), (48, 57), (48, 49), (48, 57), (48, 57), (48, 57), (1, 60)], [⟨.add, .i64, .s 2, .c (1), .s 27⟩], [], [], [], [], [], []⟩
theorem TlCoOR : ∀ p, p = 2 → ∀ d, d < 2 → (pcOk (TlCoO p) (exec (env TlCoOF.sg) (callS TlCoOF (TlCoOU d) TlCoOP) 1000 (bodyOf 4 1) (fr (TlCoO p).n (TlCoO p).f0) (mkSt (TlCoO p).h0 (TlCoO p).n0)) && (pickOk (TlCoO p) TcK420b k2n (Tm1eo p) && swapOk (qf q14) (Tm1eo p) ⟨(TlCoO p).n, (TlCoO p).f0, (TlCoO p).n0, (TlCoO p).h0⟩)) = true :=
  pC (k2 (by kernel_rfl) (by kernel_rfl))
theorem TlCoO_ok (p : Nat) (hp : p = 2) (x0 x1 x2 x3 x4 x5 x6 x7 x8 x9 x10 x11 x12 x13 : Int) (b0 : (1 : Int) ≤ x0 ∧ x0 ≤ 30) (b1 : (1 : Int) ≤ x1 ∧ x1 ≤ 30) (b7 : (60 : Int) ≤ x7 ∧ x7 ≤ 110) (k : Co x2 x3 x4 x5 x6 x8 x9 x10 x11 x12 x13) (r1 : x0 ≤ x1) {ρ : Rho} {a : Act} {W : World} {R : Exit → Act → World → Prop} (ha : (Tm1eo p).At W0 (sgl [x0, x1, x2, x3, x4, x5, x6, x7, x8, x9, x10, x11, x12, x13]) ρ a W) (hR : ∀ ρ' a' W', (Tm1eo p).At W0 (sgl [x0, x1, ((1) + x2), x3, x4, x5, x6, x7, x8, x9, x10, x11, x12, x13]) ρ' a' W' → R (toExit .norm) a' W') : (bodyOf 4 1).wp Tryz.prog R a W := by
  obtain ⟨b2, b3, b4, b5, b6, b8, b9, b10, b11, b12, b13⟩ := k
  have d8 := b8.bd
  obtain ⟨y14, h14⟩ := ex (0)
  obtain ⟨y15, h15⟩ := ex (x0)
  obtain ⟨y16, h16⟩ := ex (120 - x7)
  obtain ⟨y17, y18, y19, y20, y21, y22, y23, y24, y25, y26, q⟩ := exRp x0 y14 y15 y16
  have qb := q.bd
  obtain ⟨d, hd, hc⟩ := clOc x0 y16
  obtain ⟨y27, h27⟩ := ex ((1) + x2)
  obtain ⟨h1, h2, h3⟩ := and3 (TlCoOR p hp d hd)
  refine pc_at (W0 := W0) (ρ := ρ) (F := TlCoOF) (us := TlCoOU d) (ps := TlCoOP) (l := [x0, x1, x2, x3, x4, x5, x6, x7, x8, x9, x10, x11, x12, x13, y14, y15, y16, y17, y18, y19, y20, y21, y22, y23, y24, y25, y26, y27]) (e := TlCoO p) (P := _) (Q := k2n) (t := Tm1eo p) ⟨gc (gc (gc (gc (gc (gc (gc (gc (gc (gc (gc (gc (gc (gc (gc (gc (gc (gc (gc (gc (gc (gc (gc (gc (gc (gc (gc (gc trivial))))))))))))))))))))))))))), (al (fA x2 (1) y27) an), an, an, an, an, an, an⟩ (al (ue (TcE2_ok x2)) (al (ue (TcE5_ok x2)) (al (ue (TcE65_ok x2 x7 x0 x8)) (al (ue (TcE75_ok x7 x0 x8 x1 y16)) (repO_ok d hc q _))))) (al (pz (TcE3_ok) []) (al (pz (TcE4_ok) []) (al (pz (TcE66_ok) []) (al (ck (l := .s 0) (k := 8) x0 x8) an)))) h1 h2 (Tm.At.swap (t := Tm1eo p) (Q := q14) ?_ h3) ?_
  · exact ha
  · intro ρ' a' W' h
    subst h27
    exact hR ρ' a' W' h
def TlCoWU (d : Nat) : List Use := ⟨TcE2, 26, [], k232n⟩ :: ⟨TcE5, 78, [73], k232n⟩ :: ⟨TcE65, 89, [5, 85, 11, 12, 13, 14, 83], k68n⟩ :: ⟨TcE71, 93, TcK4208, [.s 7, .s 0, .s 8, .s 1, .s 14, .s 15, .s 16]⟩ :: repW d 105
def TlCoWP : List Pur := [⟨161, [k1n], .bool true⟩, ⟨161, [k3n], .bool true⟩, ⟨239, [.str TcK058b], .int .u64 12469190679453589782⟩, ⟨269, [k9n], .int .i64 0⟩]
def TlCoW (p : Nat) : Pc := ⟨133, (Tm1eo p).f0, 26, (Tm1eo p).h0, .norm, [(0, .sint .i64 11), (1, .sint .i64 12), (2, .sint .i64 10), (4, .sint .i64 13), (11, .ptr 0 0), (12, .ptr 22 0), (13, .int .i64 p), (14, .sint .i64 28)], 206, upd (List.take 23 (Tm1eo p).h0) [(17, k70n), (19, k7n), (20, k147n), (21, k125n), (22, .cells (nl p (.sint .i64 27)))] ++ [(99, k131n), (77, k57n), (97, k16n)]⟩
def TlCoWF : Facts := ⟨[(1, 30), (1, 30), (0, 59), (0, 2), (0, 60), (0, 60), (0, 60), (60, 110), (4602678819172646912, 4605380978949069210), (1, 2), (0, 60), (0, 30), (0, 30), (0, 59), (0, 29), (1, 30), (1, 60), (48, 57), (48, 57), (48, 57), (48, 57), (48, 57), (48, 57), (48, 49), (48, 57), (48, 57), (48, 57), (1, 61), (1, 60)], [⟨.add, .i64, .s 4, .c (1), .s 27⟩, ⟨.add, .i64, .s 2, .c (1), .s 28⟩], [], [], [], [], [], []⟩
theorem TlCoWR : ∀ p, p = 2 → ∀ d, d < 3 → (pcOk (TlCoW p) (exec (env TlCoWF.sg) (callS TlCoWF (TlCoWU d) TlCoWP) 1000 (bodyOf 4 1) (fr (TlCoW p).n (TlCoW p).f0) (mkSt (TlCoW p).h0 (TlCoW p).n0)) && (pickOk (TlCoW p) TcK68b3 k73n (Tm1eo p) && swapOk (qf q14) (Tm1eo p) ⟨(TlCoW p).n, (TlCoW p).f0, (TlCoW p).n0, (TlCoW p).h0⟩)) = true :=
  pC (k3 (by kernel_rfl) (by kernel_rfl) (by kernel_rfl))
theorem TlCoW_ok (p : Nat) (hp : p = 2) (x0 x1 x2 x3 x4 x5 x6 x7 x8 x9 x10 x11 x12 x13 : Int) (b0 : (1 : Int) ≤ x0 ∧ x0 ≤ 30) (b1 : (1 : Int) ≤ x1 ∧ x1 ≤ 30) (b7 : (60 : Int) ≤ x7 ∧ x7 ≤ 110) (k : Co x2 x3 x4 x5 x6 x8 x9 x10 x11 x12 x13) (r1 : 1 ≤ x1 ∧ x1 + 1 < x0) {ρ : Rho} {a : Act} {W : World} {R : Exit → Act → World → Prop} (ha : (Tm1eo p).At W0 (sgl [x0, x1, x2, x3, x4, x5, x6, x7, x8, x9, x10, x11, x12, x13]) ρ a W) (hR : ∀ ρ' a' W', (Tm1eo p).At W0 (sgl [x0, (x1 + 1), ((1) + x2), x3, ((1) + x4), x5, x6, x7, x8, x9, x10, x11, x12, x13]) ρ' a' W' → R (toExit .norm) a' W') : (bodyOf 4 1).wp Tryz.prog R a W := by
  obtain ⟨b2, b3, b4, b5, b6, b8, b9, b10, b11, b12, b13⟩ := k
  have d8 := b8.bd
  obtain ⟨y14, h14⟩ := ex (x0 - x1 - 1)
  obtain ⟨y15, h15⟩ := ex (x1 + 1)
  obtain ⟨y16, h16⟩ := ex (120 - x7)
  obtain ⟨y17, y18, y19, y20, y21, y22, y23, y24, y25, y26, q⟩ := exRp x0 y14 y15 y16
  have qb := q.bd
  obtain ⟨d, hd, hc⟩ := clWc x0 y14 y16
  obtain ⟨y27, h27⟩ := ex ((1) + x4)
  obtain ⟨y28, h28⟩ := ex ((1) + x2)
  obtain ⟨h1, h2, h3⟩ := and3 (TlCoWR p hp d hd)
  refine pc_at (W0 := W0) (ρ := ρ) (F := TlCoWF) (us := TlCoWU d) (ps := TlCoWP) (l := [x0, x1, x2, x3, x4, x5, x6, x7, x8, x9, x10, x11, x12, x13, y14, y15, y16, y17, y18, y19, y20, y21, y22, y23, y24, y25, y26, y27, y28]) (e := TlCoW p) (P := _) (Q := k73n) (t := Tm1eo p) ⟨gc (gc (gc (gc (gc (gc (gc (gc (gc (gc (gc (gc (gc (gc (gc (gc (gc (gc (gc (gc (gc (gc (gc (gc (gc (gc (gc (gc (gc trivial)))))))))))))))))))))))))))), (al (fA x4 (1) y27) (al (fA x2 (1) y28) an)), an, an, an, an, an, an⟩ (al (ue (TcE2_ok x2)) (al (ue (TcE5_ok x2)) (al (ue (TcE65_ok x2 x7 x0 x8)) (al (ue (TcE71_ok x7 x0 x8 x1 y14 y15 y16)) (repW_ok d hc q _))))) (al (pz (TcE3_ok) []) (al (pz (TcE4_ok) []) (al (pz (TcE66_ok) []) (al (ck (l := .s 0) (k := 8) x0 x8) an)))) h1 h2 (Tm.At.swap (t := Tm1eo p) (Q := q14) ?_ h3) ?_
  · exact ha
  · intro ρ' a' W' h
    subst h28
    subst h27
    subst h15
    exact hR ρ' a' W' h
def TlCoZU (d : Nat) : List Use := ⟨TcE2, 26, [], k232n⟩ :: ⟨TcE5, 78, [73], k232n⟩ :: ⟨TcE76, 89, [5, 85, 11, 12, 13, 14, 83], k133n⟩ :: ⟨TcE78, 93, TcK5742, [.s 7, .s 8, .s 16]⟩ :: repZ d 102
def TlCoZP : List Pur := [⟨161, [k1n], .bool true⟩, ⟨161, [k3n], .bool true⟩, ⟨269, [k21n], .int .i64 0⟩]
def TlCoZ (p : Nat) : Pc := ⟨133, (Tm1zbo p).f0, 26, (Tm1zbo p).h0, .norm, [(0, .sint .i64 11), (1, .sint .i64 12), (2, .sint .i64 10), (4, .sint .i64 13), (11, .ptr 0 0), (12, .ptr 22 0), (13, .int .i64 p), (14, .sint .i64 27)], 203, upd (List.take 23 (Tm1zbo p).h0) [(19, k7n)] ++ [(77, k57n)]⟩
def TlCoZF : Facts := ⟨[(0, 0), (0, 30), (0, 59), (0, 2), (0, 60), (0, 60), (0, 60), (60, 110), (4602678819172646912, 4605380978949069210), (1, 2), (0, 60), (0, 30), (0, 30), (0, 59), (0, 29), (1, 30), (1, 60), (48, 57), (48, 57), (48, 57), (48, 57), (48, 57), (48, 57), (48, 49), (48, 57), (48, 57), (48, 57), (1, 60)], [⟨.add, .i64, .s 2, .c (1), .s 27⟩], [], [], [], [], [], []⟩
theorem TlCoZR : ∀ p, p = 2 → ∀ d, d < 1 → (pcOk (TlCoZ p) (exec (env TlCoZF.sg) (callS TlCoZF (TlCoZU d) TlCoZP) 1000 (bodyOf 4 1) (fr (TlCoZ p).n (TlCoZ p).f0) (mkSt (TlCoZ p).h0 (TlCoZ p).n0)) && (pickOk (TlCoZ p) TcK9b81 k2n (Tm1zbo p) && swapOk (qf q14) (Tm1zbo p) ⟨(TlCoZ p).n, (TlCoZ p).f0, (TlCoZ p).n0, (TlCoZ p).h0⟩)) = true :=
  pC (k1 (by kernel_rfl))
theorem TlCoZ_ok (p : Nat) (hp : p = 2) (x0 x1 x2 x3 x4 x5 x6 x7 x8 x9 x10 x11 x12 x13 : Int) (b0 : x0 = 0) (b1 : (0 : Int) ≤ x1 ∧ x1 ≤ 30) (b7 : (60 : Int) ≤ x7 ∧ x7 ≤ 110) (k : Co x2 x3 x4 x5 x6 x8 x9 x10 x11 x12 x13) {ρ : Rho} {a : Act} {W : World} {R : Exit → Act → World → Prop} (ha : (Tm1zbo p).At W0 (sgl [x0, x1, x2, x3, x4, x5, x6, x7, x8, x9, x10, x11, x12, x13]) ρ a W) (hR : ∀ ρ' a' W', (Tm1zbo p).At W0 (sgl [x0, x1, ((1) + x2), x3, x4, x5, x6, x7, x8, x9, x10, x11, x12, x13]) ρ' a' W' → R (toExit .norm) a' W') : (bodyOf 4 1).wp Tryz.prog R a W := by
  obtain ⟨b2, b3, b4, b5, b6, b8, b9, b10, b11, b12, b13⟩ := k
  have d8 := b8.bd
  obtain ⟨y14, h14⟩ := ex (0)
  obtain ⟨y15, h15⟩ := ex (1)
  obtain ⟨y16, h16⟩ := ex (120 - x7)
  obtain ⟨y17, y18, y19, y20, y21, y22, y23, y24, y25, y26, q⟩ := exRz y14 y15 y16
  have qb := q.bd
  obtain ⟨d, hd, hc⟩ := clZc y16
  obtain ⟨y27, h27⟩ := ex ((1) + x2)
  obtain ⟨h1, h2, h3⟩ := and3 (TlCoZR p hp d hd)
  refine pc_at (W0 := W0) (ρ := ρ) (F := TlCoZF) (us := TlCoZU d) (ps := TlCoZP) (l := [x0, x1, x2, x3, x4, x5, x6, x7, x8, x9, x10, x11, x12, x13, y14, y15, y16, y17, y18, y19, y20, y21, y22, y23, y24, y25, y26, y27]) (e := TlCoZ p) (P := _) (Q := k2n) (t := Tm1zbo p) ⟨gc (gc (gc (gc (gc (gc (gc (gc (gc (gc (gc (gc (gc (gc (gc (gc (gc (gc (gc (gc (gc (gc (gc (gc (gc (gc (gc (gc trivial))))))))))))))))))))))))))), (al (fA x2 (1) y27) an), an, an, an, an, an, an⟩ (al (ue (TcE2_ok x2)) (al (ue (TcE5_ok x2)) (al (ue (TcE76_ok x2 x7 x8)) (al (ue (TcE78_ok x7 x8 y16)) (repZ_ok d hc q _))))) (al (pz (TcE3_ok) []) (al (pz (TcE4_ok) []) (al (ck (l := .c (0)) (k := 8) (0) x8) an))) h1 h2 (Tm.At.swap (t := Tm1zbo p) (Q := q14) ?_ h3) ?_
  · exact ha
  · intro ρ' a' W' h
    subst h27
    exact hR ρ' a' W' h
def TlCxEU (d : Nat) : List Use := ⟨TcE2, 26, [], k232n⟩ :: ⟨TcE5, 78, [73], k232n⟩ :: ⟨TcE65, 89, [5, 85, 11, 12, 13, 14, 83], k68n⟩ :: ⟨TcE122, 93, TcK20e7, k220n⟩ :: repL d 106
def TlCxEP : List Pur := [⟨161, [k1n], .bool true⟩, ⟨161, [k3n], .bool true⟩, ⟨269, [k9n], .int .i64 0⟩]
def TlCxE (p : Nat) : Pc := ⟨133, (Tm1dk p).f0, 26, (Tm1dk p).h0, .norm, [(0, .sint .i64 11), (1, .sint .i64 12), (2, .sint .i64 10), (4, .sint .i64 13), (11, .ptr 0 0), (12, .ptr 22 0), (13, .int .i64 p), (14, .sint .i64 28)], 207, upd (List.take 23 (Tm1dk p).h0) [(16, k56n), (17, k70n), (18, k103n), (19, k7n), (20, k10n), (21, k125n), (22, .cells (nl p (.sint .i64 27)))] ++ [(99, k131n), (77, k57n), (97, k16n)]⟩
def TlCxEF : Facts := ⟨[(1, 30), (0, 30), (0, 59), (1, 1), (0, 60), (0, 60), (0, 60), (60, 110), (4602678819172646912, 4605380978949069210), (1, 2), (0, 60), (0, 30), (0, 30), (0, 59), (0, 29), (1, 30), (1, 60), (48, 57), (48, 57), (48, 57), (48, 57), (48, 57), (48, 57), (48, 49), (48, 57), (48, 57), (48, 57), (1, 61), (1, 60)], [⟨.add, .i64, .s 4, .c (1), .s 27⟩, ⟨.add, .i64, .s 2, .c (1), .s 28⟩], [], [], [], [], [], []⟩
theorem TlCxER : ∀ p, p = 2 → ∀ d, d < 2 → (pcOk (TlCxE p) (exec (env TlCxEF.sg) (callS TlCxEF (TlCxEU d) TlCxEP) 1000 (bodyOf 4 1) (fr (TlCxE p).n (TlCxE p).f0) (mkSt (TlCxE p).h0 (TlCxE p).n0)) && (pickOk (TlCxE p) TcK68b3 k8n (Tm1em p) && swapOk (qf q14) (Tm1dk p) ⟨(TlCxE p).n, (TlCxE p).f0, (TlCxE p).n0, (TlCxE p).h0⟩)) = true :=
  pC (k2 (by kernel_rfl) (by kernel_rfl))
theorem TlCxE_ok (p : Nat) (hp : p = 2) (x0 x1 x2 x3 x4 x5 x6 x7 x8 x9 x10 x11 x12 x13 : Int) (b0 : (1 : Int) ≤ x0 ∧ x0 ≤ 30) (b1 : (0 : Int) ≤ x1 ∧ x1 ≤ 30) (b7 : (60 : Int) ≤ x7 ∧ x7 ≤ 110) (b3 : (1 : Int) ≤ x3 ∧ x3 ≤ 1) (k : Co x2 x3 x4 x5 x6 x8 x9 x10 x11 x12 x13) (r1 : x0 = 1) {ρ : Rho} {a : Act} {W : World} {R : Exit → Act → World → Prop} (ha : (Tm1dk p).At W0 (sgl [x0, x1, x2, x3, x4, x5, x6, x7, x8, x9, x10, x11, x12, x13]) ρ a W) (hR : ∀ ρ' a' W', (Tm1em p).At W0 (sgl [x0, (1), ((1) + x2), x3, ((1) + x4), x5, x6, x7, x8, x9, x10, x11, x12, x13]) ρ' a' W' → R (toExit .norm) a' W') : (bodyOf 4 1).wp Tryz.prog R a W := by
  obtain ⟨b2, _, b4, b5, b6, b8, b9, b10, b11, b12, b13⟩ := k
  have d8 := b8.bd
  obtain ⟨y14, h14⟩ := ex (0)
  obtain ⟨y15, h15⟩ := ex (1)
  obtain ⟨y16, h16⟩ := ex (120 - x7)
  obtain ⟨y17, y18, y19, y20, y21, y22, y23, y24, y25, y26, q⟩ := exRp x0 y14 y15 y16
  have qb := q.bd
  obtain ⟨d, hd, hc⟩ := clLc x0 y16
  obtain ⟨y27, h27⟩ := ex ((1) + x4)
  obtain ⟨y28, h28⟩ := ex ((1) + x2)
  obtain ⟨h1, h2, h3⟩ := and3 (TlCxER p hp d hd)
  refine pc_at (W0 := W0) (ρ := ρ) (F := TlCxEF) (us := TlCxEU d) (ps := TlCxEP) (l := [x0, x1, x2, x3, x4, x5, x6, x7, x8, x9, x10, x11, x12, x13, y14, y15, y16, y17, y18, y19, y20, y21, y22, y23, y24, y25, y26, y27, y28]) (e := TlCxE p) (P := _) (Q := k8n) (t := Tm1em p) ⟨gc (gc (gc (gc (gc (gc (gc (gc (gc (gc (gc (gc (gc (gc (gc (gc (gc (gc (gc (gc (gc (gc (gc (gc (gc (gc (gc (gc (gc trivial)))))))))))))))))))))))))))), (al (fA x4 (1) y27) (al (fA x2 (1) y28) an)), an, an, an, an, an, an⟩ (al (ue (TcE2_ok x2)) (al (ue (TcE5_ok x2)) (al (ue (TcE65_ok x2 x7 x0 x8)) (al (ue (TcE122_ok x7 x3 x0 x8 (0) y16)) (repL_ok d hc q _))))) (al (pz (TcE3_ok) []) (al (pz (TcE4_ok) []) (al (ck (l := .s 0) (k := 8) x0 x8) an))) h1 h2 (Tm.At.swap (t := Tm1dk p) (Q := q14) ?_ h3) ?_
  · exact ha
  · intro ρ' a' W' h
    subst h28
    subst h27
    exact hR ρ' a' W' h
def TlCxLU (d : Nat) : List Use := ⟨TcE2, 26, [], k232n⟩ :: ⟨TcE5, 78, [73], k232n⟩ :: ⟨TcE65, 89, [5, 85, 11, 12, 13, 14, 83], k68n⟩ :: ⟨TcE123, 93, TcK4208, k224n⟩ :: repL d 106
def TlCxLP : List Pur := [⟨161, [k1n], .bool true⟩, ⟨161, [k3n], .bool true⟩, ⟨239, [.str TcK058b], .int .u64 12469190679453589782⟩, ⟨269, [k9n], .int .i64 0⟩]
def TlCxL (p : Nat) : Pc := ⟨133, (Tm1ek p).f0, 26, upd (Tm1ek p).h0 [(20, k82n)], .norm, [(0, .sint .i64 11), (1, .sint .i64 12), (2, .sint .i64 10), (4, .sint .i64 13), (11, .ptr 0 0), (12, .ptr 22 0), (13, .int .i64 p), (14, .sint .i64 29)], 207, upd (List.take 23 (Tm1ek p).h0) [(17, k70n), (18, k103n), (19, k7n), (20, k84n), (21, k125n), (22, .cells (nl p (.sint .i64 28)))] ++ [(99, k131n), (77, k57n), (97, k16n)]⟩
def TlCxLF : Facts := ⟨[(1, 30), (0, 30), (0, 59), (1, 1), (0, 60), (0, 60), (0, 60), (60, 110), (4602678819172646912, 4605380978949069210), (1, 2), (0, 60), (0, 30), (0, 30), (0, 59), (0, 29), (1, 30), (1, 60), (48, 57), (48, 57), (48, 57), (48, 57), (48, 57), (48, 57), (48, 49), (48, 57), (48, 57), (48, 57), (1, 29), (1, 61), (1, 60)], [⟨.add, .i64, .s 4, .c (1), .s 28⟩, ⟨.add, .i64, .s 2, .c (1), .s 29⟩], [], [], [], [], [], []⟩
theorem TlCxLR : ∀ p, p = 2 → ∀ d, d < 2 → (pcOk (TlCxL p) (exec (env TlCxLF.sg) (callS TlCxLF (TlCxLU d) TlCxLP) 1000 (bodyOf 4 1) (fr (TlCxL p).n (TlCxL p).f0) (mkSt (TlCxL p).h0 (TlCxL p).n0)) && (pickOk (TlCxL p) TcK68b3 k46n (Tm1em p) && swapOk (qf k47n) (Tm1ek p) ⟨(TlCxL p).n, (TlCxL p).f0, (TlCxL p).n0, (TlCxL p).h0⟩)) = true :=
  pC (k2 (by kernel_rfl) (by kernel_rfl))
theorem TlCxL_ok (p : Nat) (hp : p = 2) (x0 x1 x2 x3 x4 x5 x6 x7 x8 x9 x10 x11 x12 x13 : Int) (b0 : (1 : Int) ≤ x0 ∧ x0 ≤ 30) (b1 : (0 : Int) ≤ x1 ∧ x1 ≤ 30) (b7 : (60 : Int) ≤ x7 ∧ x7 ≤ 110) (b3 : (1 : Int) ≤ x3 ∧ x3 ≤ 1) (k : Co x2 x3 x4 x5 x6 x8 x9 x10 x11 x12 x13) (r1 : 1 ≤ x1 ∧ x1 + 1 = x0) {ρ : Rho} {a : Act} {W : World} {R : Exit → Act → World → Prop} (ha : (Tm1ek p).At W0 (sgl [x0, x1, x2, x3, x4, x5, x6, x7, x8, x9, x10, x11, x12, x13]) ρ a W) (hR : ∀ ρ' a' W', (Tm1em p).At W0 (sgl [x0, x0, ((1) + x2), x3, ((1) + x4), x5, x6, x7, x8, x9, x10, x11, x12, x13]) ρ' a' W' → R (toExit .norm) a' W') : (bodyOf 4 1).wp Tryz.prog R a W := by
  obtain ⟨b2, _, b4, b5, b6, b8, b9, b10, b11, b12, b13⟩ := k
  have d8 := b8.bd
  obtain ⟨y14, h14⟩ := ex (0)
  obtain ⟨y15, h15⟩ := ex (x0)
  obtain ⟨y16, h16⟩ := ex (120 - x7)
  obtain ⟨y17, y18, y19, y20, y21, y22, y23, y24, y25, y26, q⟩ := exRp x0 y14 y15 y16
  have qb := q.bd
  obtain ⟨d, hd, hc⟩ := clLc x0 y16
  obtain ⟨y27, h27⟩ := ex ((-1) + x0)
  obtain ⟨y28, h28⟩ := ex ((1) + x4)
  obtain ⟨y29, h29⟩ := ex ((1) + x2)
  obtain ⟨h1, h2, h3⟩ := and3 (TlCxLR p hp d hd)
  refine pc_at (W0 := W0) (ρ := ρ) (F := TlCxLF) (us := TlCxLU d) (ps := TlCxLP) (l := [x0, x1, x2, x3, x4, x5, x6, x7, x8, x9, x10, x11, x12, x13, y14, y15, y16, y17, y18, y19, y20, y21, y22, y23, y24, y25, y26, y27, y28, y29]) (e := TlCxL p) (P := _) (Q := k46n) (t := Tm1em p) ⟨gc (gc (gc (gc (gc (gc (gc (gc (gc (gc (gc (gc (gc (gc (gc (gc (gc (gc (gc (gc (gc (gc (gc (gc (gc (gc (gc (gc (gc (gc trivial))))))))))))))))))))))))))))), (al (fA x4 (1) y28) (al (fA x2 (1) y29) an)), an, an, an, an, an, an⟩ (al (ue (TcE2_ok x2)) (al (ue (TcE5_ok x2)) (al (ue (TcE65_ok x2 x7 x0 x8)) (al (ue (TcE123_ok x7 x3 x0 x8 y27 (0) x0 y16)) (repL_ok d hc q _))))) (al (pz (TcE3_ok) []) (al (pz (TcE4_ok) []) (al (pz (TcE66_ok) []) (al (ck (l := .s 0) (k := 8) x0 x8) an)))) h1 h2 (Tm.At.swap (t := Tm1ek p) (Q := k47n) ?_ h3) ?_
  · have e : y27 = x1 := by omega
    subst e
    exact ha
  · intro ρ' a' W' h
    subst h29
    subst h28
    exact hR ρ' a' W' h
def TlCxZU (d : Nat) : List Use := ⟨TcE2, 26, [], k232n⟩ :: ⟨TcE5, 78, [73], k232n⟩ :: ⟨TcE76, 89, [5, 85, 11, 12, 13, 14, 83], k133n⟩ :: ⟨TcE124, 93, TcK5742, k157n⟩ :: repZ d 103
def TlCxZP : List Pur := [⟨161, [k1n], .bool true⟩, ⟨161, [k3n], .bool true⟩, ⟨269, [k21n], .int .i64 0⟩]
def TlCxZ (p : Nat) : Pc := ⟨133, (Tm1zbk p).f0, 26, (Tm1zbk p).h0, .norm, [(0, .sint .i64 11), (1, .sint .i64 12), (2, .sint .i64 10), (4, .sint .i64 13), (11, .ptr 0 0), (12, .ptr 22 0), (13, .int .i64 p), (14, .sint .i64 27)], 204, upd (List.take 23 (Tm1zbk p).h0) [(18, k103n), (19, k7n)] ++ [(77, k57n)]⟩
def TlCxZF : Facts := ⟨[(0, 0), (0, 30), (0, 59), (1, 1), (0, 60), (0, 60), (0, 60), (60, 110), (4602678819172646912, 4605380978949069210), (1, 2), (0, 60), (0, 30), (0, 30), (0, 59), (0, 29), (1, 30), (1, 60), (48, 57), (48, 57), (48, 57), (48, 57), (48, 57), (48, 57), (48, 49), (48, 57), (48, 57), (48, 57), (1, 60)], [⟨.add, .i64, .s 2, .c (1), .s 27⟩], [], [], [], [], [], []⟩
theorem TlCxZR : ∀ p, p = 2 → ∀ d, d < 1 → (pcOk (TlCxZ p) (exec (env TlCxZF.sg) (callS TlCxZF (TlCxZU d) TlCxZP) 1000 (bodyOf 4 1) (fr (TlCxZ p).n (TlCxZ p).f0) (mkSt (TlCxZ p).h0 (TlCxZ p).n0)) && (pickOk (TlCxZ p) TcK9b81 k2n (Tm1zbm p) && swapOk (qf q14) (Tm1zbk p) ⟨(TlCxZ p).n, (TlCxZ p).f0, (TlCxZ p).n0, (TlCxZ p).h0⟩)) = true :=
  pC (k1 (by kernel_rfl))
theorem TlCxZ_ok (p : Nat) (hp : p = 2) (x0 x1 x2 x3 x4 x5 x6 x7 x8 x9 x10 x11 x12 x13 : Int) (b0 : x0 = 0) (b1 : (0 : Int) ≤ x1 ∧ x1 ≤ 30) (b7 : (60 : Int) ≤ x7 ∧ x7 ≤ 110) (b3 : (1 : Int) ≤ x3 ∧ x3 ≤ 1) (k : Co x2 x3 x4 x5 x6 x8 x9 x10 x11 x12 x13) {ρ : Rho} {a : Act} {W : World} {R : Exit → Act → World → Prop} (ha : (Tm1zbk p).At W0 (sgl [x0, x1, x2, x3, x4, x5, x6, x7, x8, x9, x10, x11, x12, x13]) ρ a W) (hR : ∀ ρ' a' W', (Tm1zbm p).At W0 (sgl [x0, x1, ((1) + x2), x3, x4, x5, x6, x7, x8, x9, x10, x11, x12, x13]) ρ' a' W' → R (toExit .norm) a' W') : (bodyOf 4 1).wp Tryz.prog R a W := by
  obtain ⟨b2, _, b4, b5, b6, b8, b9, b10, b11, b12, b13⟩ := k
  have d8 := b8.bd
  obtain ⟨y14, h14⟩ := ex (0)
  obtain ⟨y15, h15⟩ := ex (1)
  obtain ⟨y16, h16⟩ := ex (120 - x7)
  obtain ⟨y17, y18, y19, y20, y21, y22, y23, y24, y25, y26, q⟩ := exRz y14 y15 y16
  have qb := q.bd
  obtain ⟨d, hd, hc⟩ := clZc y16
  obtain ⟨y27, h27⟩ := ex ((1) + x2)
  obtain ⟨h1, h2, h3⟩ := and3 (TlCxZR p hp d hd)
  refine pc_at (W0 := W0) (ρ := ρ) (F := TlCxZF) (us := TlCxZU d) (ps := TlCxZP) (l := [x0, x1, x2, x3, x4, x5, x6, x7, x8, x9, x10, x11, x12, x13, y14, y15, y16, y17, y18, y19, y20, y21, y22, y23, y24, y25, y26, y27]) (e := TlCxZ p) (P := _) (Q := k2n) (t := Tm1zbm p) ⟨gc (gc (gc (gc (gc (gc (gc (gc (gc (gc (gc (gc (gc (gc (gc (gc (gc (gc (gc (gc (gc (gc (gc (gc (gc (gc (gc (gc trivial))))))))))))))))))))))))))), (al (fA x2 (1) y27) an), an, an, an, an, an, an⟩ (al (ue (TcE2_ok x2)) (al (ue (TcE5_ok x2)) (al (ue (TcE76_ok x2 x7 x8)) (al (ue (TcE124_ok x7 x3 x8 y16)) (repZ_ok d hc q _))))) (al (pz (TcE3_ok) []) (al (pz (TcE4_ok) []) (al (ck (l := .c (0)) (k := 8) (0) x8) an))) h1 h2 (Tm.At.swap (t := Tm1zbk p) (Q := q14) ?_ h3) ?_
  · exact ha
  · intro ρ' a' W' h
    subst h27
    exact hR ρ' a' W' h
def TlCyEU (d : Nat) : List Use := ⟨TcE2, 26, [], k232n⟩ :: ⟨TcE5, 78, [73], k232n⟩ :: ⟨TcE65, 89, [5, 85, 11, 12, 13, 14, 83], k68n⟩ :: ⟨TcE69, 93, TcK20e7, k220n⟩ :: repL d 106
def TlCyEP : List Pur := [⟨161, [k1n], .bool true⟩, ⟨161, [k3n], .bool true⟩, ⟨269, [k9n], .int .i64 0⟩]
def TlCyE (p : Nat) : Pc := ⟨133, (Tm1dk p).f0, 26, (Tm1dk p).h0, .norm, [(0, .sint .i64 11), (1, .sint .i64 12), (2, .sint .i64 10), (4, .sint .i64 13), (11, .ptr 0 0), (12, .ptr 22 0), (13, .int .i64 p), (14, .sint .i64 28)], 207, upd (List.take 23 (Tm1dk p).h0) [(16, k56n), (17, k70n), (18, k54n), (19, k7n), (20, k10n), (21, k125n), (22, .cells (nl p (.sint .i64 27)))] ++ [(99, k131n), (77, k57n), (97, k16n)]⟩
def TlCyEF : Facts := ⟨[(1, 30), (0, 30), (0, 59), (2, 2), (0, 60), (0, 60), (0, 60), (60, 110), (4602678819172646912, 4605380978949069210), (1, 2), (0, 60), (0, 30), (0, 30), (0, 59), (0, 29), (1, 30), (1, 60), (48, 57), (48, 57), (48, 57), (48, 57), (48, 57), (48, 57), (48, 49), (48, 57), (48, 57), (48, 57), (1, 61), (1, 60)], [⟨.add, .i64, .s 4, .c (1), .s 27⟩, ⟨.add, .i64, .s 2, .c (1), .s 28⟩], [], [], [], [], [], []⟩
theorem TlCyER : ∀ p, p = 2 → ∀ d, d < 2 → (pcOk (TlCyE p) (exec (env TlCyEF.sg) (callS TlCyEF (TlCyEU d) TlCyEP) 1000 (bodyOf 4 1) (fr (TlCyE p).n (TlCyE p).f0) (mkSt (TlCyE p).h0 (TlCyE p).n0)) && (pickOk (TlCyE p) TcK68b3 k8n (Tm1ekm p) && swapOk (qf q14) (Tm1dk p) ⟨(TlCyE p).n, (TlCyE p).f0, (TlCyE p).n0, (TlCyE p).h0⟩)) = true :=
  pC (k2 (by kernel_rfl) (by kernel_rfl))
theorem TlCyE_ok (p : Nat) (hp : p = 2) (x0 x1 x2 x3 x4 x5 x6 x7 x8 x9 x10 x11 x12 x13 : Int) (b0 : (1 : Int) ≤ x0 ∧ x0 ≤ 30) (b1 : (0 : Int) ≤ x1 ∧ x1 ≤ 30) (b7 : (60 : Int) ≤ x7 ∧ x7 ≤ 110) (b3 : (2 : Int) ≤ x3 ∧ x3 ≤ 2) (k : Co x2 x3 x4 x5 x6 x8 x9 x10 x11 x12 x13) (r1 : x0 = 1) {ρ : Rho} {a : Act} {W : World} {R : Exit → Act → World → Prop} (ha : (Tm1dk p).At W0 (sgl [x0, x1, x2, x3, x4, x5, x6, x7, x8, x9, x10, x11, x12, x13]) ρ a W) (hR : ∀ ρ' a' W', (Tm1ekm p).At W0 (sgl [x0, (1), ((1) + x2), x3, ((1) + x4), x5, x6, x7, x8, x9, x10, x11, x12, x13]) ρ' a' W' → R (toExit .norm) a' W') : (bodyOf 4 1).wp Tryz.prog R a W := by
  obtain ⟨b2, _, b4, b5, b6, b8, b9, b10, b11, b12, b13⟩ := k
  have d8 := b8.bd
  obtain ⟨y14, h14⟩ := ex (0)
  obtain ⟨y15, h15⟩ := ex (1)
  obtain ⟨y16, h16⟩ := ex (120 - x7)
  obtain ⟨y17, y18, y19, y20, y21, y22, y23, y24, y25, y26, q⟩ := exRp x0 y14 y15 y16
  have qb := q.bd
  obtain ⟨d, hd, hc⟩ := clLc x0 y16
  obtain ⟨y27, h27⟩ := ex ((1) + x4)
  obtain ⟨y28, h28⟩ := ex ((1) + x2)
  obtain ⟨h1, h2, h3⟩ := and3 (TlCyER p hp d hd)
  refine pc_at (W0 := W0) (ρ := ρ) (F := TlCyEF) (us := TlCyEU d) (ps := TlCyEP) (l := [x0, x1, x2, x3, x4, x5, x6, x7, x8, x9, x10, x11, x12, x13, y14, y15, y16, y17, y18, y19, y20, y21, y22, y23, y24, y25, y26, y27, y28]) (e := TlCyE p) (P := _) (Q := k8n) (t := Tm1ekm p) ⟨gc (gc (gc (gc (gc (gc (gc (gc (gc (gc (gc (gc (gc (gc (gc (gc (gc (gc (gc (gc (gc (gc (gc (gc (gc (gc (gc (gc (gc trivial)))))))))))))))))))))))))))), (al (fA x4 (1) y27) (al (fA x2 (1) y28) an)), an, an, an, an, an, an⟩ (al (ue (TcE2_ok x2)) (al (ue (TcE5_ok x2)) (al (ue (TcE65_ok x2 x7 x0 x8)) (al (ue (TcE69_ok x7 x3 x0 x8 (0) y16)) (repL_ok d hc q _))))) (al (pz (TcE3_ok) []) (al (pz (TcE4_ok) []) (al (ck (l := .s 0) (k := 8) x0 x8) an))) h1 h2 (Tm.At.swap (t := Tm1dk p) (Q := q14) ?_ h3) ?_
  · exact ha
  · intro ρ' a' W' h
    subst h28
    subst h27
    exact hR ρ' a' W' h
def TlCyLU (d : Nat) : List Use := ⟨TcE2, 26, [], k232n⟩ :: ⟨TcE5, 78, [73], k232n⟩ :: ⟨TcE65, 89, [5, 85, 11, 12, 13, 14, 83], k68n⟩ :: ⟨TcE72, 93, TcK4208, k224n⟩ :: repL d 106
def TlCyLP : List Pur := [⟨161, [k1n], .bool true⟩, ⟨161, [k3n], .bool true⟩, ⟨239, [.str TcK058b], .int .u64 12469190679453589782⟩, ⟨269, [k9n], .int .i64 0⟩]
def TlCyL (p : Nat) : Pc := ⟨133, (Tm1ek p).f0, 26, upd (Tm1ek p).h0 [(20, k82n)], .norm, [(0, .sint .i64 11), (1, .sint .i64 12), (2, .sint .i64 10), (4, .sint .i64 13), (11, .ptr 0 0), (12, .ptr 22 0), (13, .int .i64 p), (14, .sint .i64 29)], 207, upd (List.take 23 (Tm1ek p).h0) [(17, k70n), (18, k54n), (19, k7n), (20, k84n), (21, k125n), (22, .cells (nl p (.sint .i64 28)))] ++ [(99, k131n), (77, k57n), (97, k16n)]⟩
def TlCyLF : Facts := ⟨[(1, 30), (0, 30), (0, 59), (2, 2), (0, 60), (0, 60), (0, 60), (60, 110), (4602678819172646912, 4605380978949069210), (1, 2), (0, 60), (0, 30), (0, 30), (0, 59), (0, 29), (1, 30), (1, 60), (48, 57), (48, 57), (48, 57), (48, 57), (48, 57), (48, 57), (48, 49), (48, 57), (48, 57), (48, 57), (1, 29), (1, 61), (1, 60)], [⟨.add, .i64, .s 4, .c (1), .s 28⟩, ⟨.add, .i64, .s 2, .c (1), .s 29⟩], [], [], [], [], [], []⟩
theorem TlCyLR : ∀ p, p = 2 → ∀ d, d < 2 → (pcOk (TlCyL p) (exec (env TlCyLF.sg) (callS TlCyLF (TlCyLU d) TlCyLP) 1000 (bodyOf 4 1) (fr (TlCyL p).n (TlCyL p).f0) (mkSt (TlCyL p).h0 (TlCyL p).n0)) && (pickOk (TlCyL p) TcK68b3 k46n (Tm1ekm p) && swapOk (qf k47n) (Tm1ek p) ⟨(TlCyL p).n, (TlCyL p).f0, (TlCyL p).n0, (TlCyL p).h0⟩)) = true :=
  pC (k2 (by kernel_rfl) (by kernel_rfl))
theorem TlCyL_ok (p : Nat) (hp : p = 2) (x0 x1 x2 x3 x4 x5 x6 x7 x8 x9 x10 x11 x12 x13 : Int) (b0 : (1 : Int) ≤ x0 ∧ x0 ≤ 30) (b1 : (0 : Int) ≤ x1 ∧ x1 ≤ 30) (b7 : (60 : Int) ≤ x7 ∧ x7 ≤ 110) (b3 : (2 : Int) ≤ x3 ∧ x3 ≤ 2) (k : Co x2 x3 x4 x5 x6 x8 x9 x10 x11 x12 x13) (r1 : 1 ≤ x1 ∧ x1 + 1 = x0) {ρ : Rho} {a : Act} {W : World} {R : Exit → Act → World → Prop} (ha : (Tm1ek p).At W0 (sgl [x0, x1, x2, x3, x4, x5, x6, x7, x8, x9, x10, x11, x12, x13]) ρ a W) (hR : ∀ ρ' a' W', (Tm1ekm p).At W0 (sgl [x0, x0, ((1) + x2), x3, ((1) + x4), x5, x6, x7, x8, x9, x10, x11, x12, x13]) ρ' a' W' → R (toExit .norm) a' W') : (bodyOf 4 1).wp Tryz.prog R a W := by
  obtain ⟨b2, _, b4, b5, b6, b8, b9, b10, b11, b12, b13⟩ := k
  have d8 := b8.bd
  obtain ⟨y14, h14⟩ := ex (0)
  obtain ⟨y15, h15⟩ := ex (x0)
  obtain ⟨y16, h16⟩ := ex (120 - x7)
  obtain ⟨y17, y18, y19, y20, y21, y22, y23, y24, y25, y26, q⟩ := exRp x0 y14 y15 y16
  have qb := q.bd
  obtain ⟨d, hd, hc⟩ := clLc x0 y16
  obtain ⟨y27, h27⟩ := ex ((-1) + x0)
  obtain ⟨y28, h28⟩ := ex ((1) + x4)
  obtain ⟨y29, h29⟩ := ex ((1) + x2)
  obtain ⟨h1, h2, h3⟩ := and3 (TlCyLR p hp d hd)
  refine pc_at (W0 := W0) (ρ := ρ) (F := TlCyLF) (us := TlCyLU d) (ps := TlCyLP) (l := [x0, x1, x2, x3, x4, x5, x6, x7, x8, x9, x10, x11, x12, x13, y14, y15, y16, y17, y18, y19, y20, y21, y22, y23, y24, y25, y26, y27, y28, y29]) (e := TlCyL p) (P := _) (Q := k46n) (t := Tm1ekm p) ⟨gc (gc (gc (gc (gc (gc (gc (gc (gc (gc (gc (gc (gc (gc (gc (gc (gc (gc (gc (gc (gc (gc (gc (gc (gc (gc (gc (gc (gc (gc trivial))))))))))))))))))))))))))))), (al (fA x4 (1) y28) (al (fA x2 (1) y29) an)), an, an, an, an, an, an⟩ (al (ue (TcE2_ok x2)) (al (ue (TcE5_ok x2)) (al (ue (TcE65_ok x2 x7 x0 x8)) (al (ue (TcE72_ok x7 x3 x0 x8 y27 (0) x0 y16)) (repL_ok d hc q _))))) (al (pz (TcE3_ok) []) (al (pz (TcE4_ok) []) (al (pz (TcE66_ok) []) (al (ck (l := .s 0) (k := 8) x0 x8) an)))) h1 h2 (Tm.At.swap (t := Tm1ek p) (Q := k47n) ?_ h3) ?_
  · have e : y27 = x1 := by omega
    subst e
    exact ha
  · intro ρ' a' W' h
    subst h29
    subst h28
    exact hR ρ' a' W' h
def TlCyZU (d : Nat) : List Use := ⟨TcE2, 26, [], k232n⟩ :: ⟨TcE5, 78, [73], k232n⟩ :: ⟨TcE76, 89, [5, 85, 11, 12, 13, 14, 83], k133n⟩ :: ⟨TcE77, 93, TcK5742, k157n⟩ :: repZ d 103
def TlCyZP : List Pur := [⟨161, [k1n], .bool true⟩, ⟨161, [k3n], .bool true⟩, ⟨269, [k21n], .int .i64 0⟩]
def TlCyZ (p : Nat) : Pc := ⟨133, (Tm1zbk p).f0, 26, (Tm1zbk p).h0, .norm, [(0, .sint .i64 11), (1, .sint .i64 12), (2, .sint .i64 10), (4, .sint .i64 13), (11, .ptr 0 0), (12, .ptr 22 0), (13, .int .i64 p), (14, .sint .i64 27)], 204, upd (List.take 23 (Tm1zbk p).h0) [(18, k54n), (19, k7n)] ++ [(77, k57n)]⟩
def TlCyZF : Facts := ⟨[(0, 0), (0, 30), (0, 59), (2, 2), (0, 60), (0, 60), (0, 60), (60, 110), (4602678819172646912, 4605380978949069210), (1, 2), (0, 60), (0, 30), (0, 30), (0, 59), (0, 29), (1, 30), (1, 60), (48, 57), (48, 57), (48, 57), (48, 57), (48, 57), (48, 57), (48, 49), (48, 57), (48, 57), (48, 57), (1, 60)], [⟨.add, .i64, .s 2, .c (1), .s 27⟩], [], [], [], [], [], []⟩
theorem TlCyZR : ∀ p, p = 2 → ∀ d, d < 1 → (pcOk (TlCyZ p) (exec (env TlCyZF.sg) (callS TlCyZF (TlCyZU d) TlCyZP) 1000 (bodyOf 4 1) (fr (TlCyZ p).n (TlCyZ p).f0) (mkSt (TlCyZ p).h0 (TlCyZ p).n0)) && (pickOk (TlCyZ p) TcK9b81 k2n (Tm1zbkm p) && swapOk (qf q14) (Tm1zbk p) ⟨(TlCyZ p).n, (TlCyZ p).f0, (TlCyZ p).n0, (TlCyZ p).h0⟩)) = true :=
  pC (k1 (by kernel_rfl))
theorem TlCyZ_ok (p : Nat) (hp : p = 2) (x0 x1 x2 x3 x4 x5 x6 x7 x8 x9 x10 x11 x12 x13 : Int) (b0 : x0 = 0) (b1 : (0 : Int) ≤ x1 ∧ x1 ≤ 30) (b7 : (60 : Int) ≤ x7 ∧ x7 ≤ 110) (b3 : (2 : Int) ≤ x3 ∧ x3 ≤ 2) (k : Co x2 x3 x4 x5 x6 x8 x9 x10 x11 x12 x13) {ρ : Rho} {a : Act} {W : World} {R : Exit → Act → World → Prop} (ha : (Tm1zbk p).At W0 (sgl [x0, x1, x2, x3, x4, x5, x6, x7, x8, x9, x10, x11, x12, x13]) ρ a W) (hR : ∀ ρ' a' W', (Tm1zbkm p).At W0 (sgl [x0, x1, ((1) + x2), x3, x4, x5, x6, x7, x8, x9, x10, x11, x12, x13]) ρ' a' W' → R (toExit .norm) a' W') : (bodyOf 4 1).wp Tryz.prog R a W := by
  obtain ⟨b2, _, b4, b5, b6, b8, b9, b10, b11, b12, b13⟩ := k
  have d8 := b8.bd
  obtain ⟨y14, h14⟩ := ex (0)
  obtain ⟨y15, h15⟩ := ex (1)
  obtain ⟨y16, h16⟩ := ex (120 - x7)
  obtain ⟨y17, y18, y19, y20, y21, y22, y23, y24, y25, y26, q⟩ := exRz y14 y15 y16
  have qb := q.bd
  obtain ⟨d, hd, hc⟩ := clZc y16
  obtain ⟨y27, h27⟩ := ex ((1) + x2)
  obtain ⟨h1, h2, h3⟩ := and3 (TlCyZR p hp d hd)
  refine pc_at (W0 := W0) (ρ := ρ) (F := TlCyZF) (us := TlCyZU d) (ps := TlCyZP) (l := [x0, x1, x2, x3, x4, x5, x6, x7, x8, x9, x10, x11, x12, x13, y14, y15, y16, y17, y18, y19, y20, y21, y22, y23, y24, y25, y26, y27]) (e := TlCyZ p) (P := _) (Q := k2n) (t := Tm1zbkm p) ⟨gc (gc (gc (gc (gc (gc (gc (gc (gc (gc (gc (gc (gc (gc (gc (gc (gc (gc (gc (gc (gc (gc (gc (gc (gc (gc (gc (gc trivial))))))))))))))))))))))))))), (al (fA x2 (1) y27) an), an, an, an, an, an, an⟩ (al (ue (TcE2_ok x2)) (al (ue (TcE5_ok x2)) (al (ue (TcE76_ok x2 x7 x8)) (al (ue (TcE77_ok x7 x3 x8 y16)) (repZ_ok d hc q _))))) (al (pz (TcE3_ok) []) (al (pz (TcE4_ok) []) (al (ck (l := .c (0)) (k := 8) (0) x8) an))) h1 h2 (Tm.At.swap (t := Tm1zbk p) (Q := q14) ?_ h3) ?_
  · exact ha
  · intro ρ' a' W' h
    subst h27
    exact hR ρ' a' W' h
end
end Go.Proofs.YtnpkeganpkobjaaGreatDoor.Ev
