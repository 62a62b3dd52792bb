import Derived.Test.YtnpkeganpkobjaaGreatDoorYA
import Derived.Test.YtnpkeganpkobjaaGreatDoorNC
import Derived.Test.YtnpkeganpkobjaaGreatDoorND
import Derived.Test.YtnpkeganpkobjaaGreatDoorCK
set_option linter.all false
namespace Go.Proofs.YtnpkeganpkobjaaGreatDoor.Ev
set_option maxRecDepth 100000
set_option maxHeartbeats 4000000
open Go Go.RowKit
variable {W0 : World}
noncomputable section
def tiG : Facts := ⟨[(0, 30), (0, 30), (0, 60), (0, 2), (0, 60), (0, 60), (0, 60), (0, 120), (4602678819172646912, 4605380978949069210), (1, 2), (0, 60), (0, 30), (0, 30), (0, 59)], [], [], [], [], [], [], []⟩
def tiE : Facts := ⟨[(0, 30), (0, 30), (60, 60), (0, 2), (0, 60), (0, 60), (0, 60), (0, 120), (4602678819172646912, 4605380978949069210), (1, 2), (0, 60), (0, 30), (0, 30), (0, 59)], [], [], [], [], [], [], []⟩
def tiM : Facts := ⟨[(0, 30), (0, 30), (0, 59), (0, 2), (0, 60), (0, 60), (0, 60), (0, 120), (4602678819172646912, 4605380978949069210), (1, 2), (0, 60), (0, 30), (0, 30), (0, 59)], [], [⟨.s 2, .s 10, false⟩], [], [], [], [], []⟩
theorem gs14 {lo hi L c i m n u v w r d y f s k : Int} (q : Ct m u v r d y f s k) (h : (0 ≤ L ∧ L ≤ 30) ∧ (0 ≤ c ∧ c ≤ 30) ∧ (lo ≤ i ∧ i ≤ hi) ∧ (0 ≤ n ∧ n ≤ 60) ∧ (0 ≤ w ∧ w ≤ 120)) : Gs [(0, 30), (0, 30), (lo, hi), (0, 2), (0, 60), (0, 60), (0, 60), (0, 120), (4602678819172646912, 4605380978949069210), (1, 2), (0, 60), (0, 30), (0, 30), (0, 59)] [L, c, i, m, n, u, v, w, r, d, y, f, s, k] :=
  ⟨h.1, h.2.1, h.2.2.1, q.m, h.2.2.2.1, q.u, q.v, h.2.2.2.2, q.r.bd, q.d, q.y, q.f, q.s, q.k, trivial⟩
def tiny (f0 : List (Nat × V)) (o : Out) (f1 : List (Nat × V)) : Pc := ⟨133, f0, 26, [], o, f1, 26, []⟩
def tinyOk (F : Facts) (c : Code) (e : Pc) : Bool := pcOk e (exec (env F.sg) (callS F [] []) 1000 c (fr e.n e.f0) (mkSt e.h0 e.n0)) && (Nat.beq e.n1 e.n0 && Nat.beq (llen e.h0) 0)
theorem tiny_wp {F : Facts} {l : List Int} (hF : F.Ok l) {c : Code} {f0 f1 : List (Nat × V)} {x : Out} (h : tinyOk F c (tiny f0 x f1) = true) {h0 : List (Nat × B)} {ρ : Rho} {a : Act} {W : World} {R : Exit → Act → World → Prop} (ha : (⟨133, f0, 26, h0⟩ : Tm).At W0 (sgl l) ρ a W)
    (hR : ∀ ρ' a' W', (⟨133, f1, 26, h0⟩ : Tm).At W0 (sgl l) ρ' a' W' → R (toExit x) a' W') : c.wp Tryz.prog R a W :=
  pc_tiny (e := tiny f0 x f1) (k := 1000) (t := ⟨133, f0, 26, h0⟩) hF h rfl rfl rfl ha hR
theorem leE : ∀ p, p < 3 → tinyOk tiE (bodyOf 4 1) (tiny (tp p) (.exit 2) (tp p)) = true := k3 (by kernel_rfl) (by kernel_rfl) (by kernel_rfl)
theorem leM : tinyOk tiM (bodyOf 4 1) (tiny (tp 0) (.exit 2) (tp 0)) = true := by kernel_rfl
theorem leave {p : Nat} (hp : p < 3) {L c i m n u v w r d y f s k : Int} (q : Ct m u v r d y f s k) (hb : (0 ≤ L ∧ L ≤ 30) ∧ (0 ≤ c ∧ c ≤ 30) ∧ (0 ≤ i ∧ i ≤ 60) ∧ (0 ≤ n ∧ n ≤ 60) ∧ (0 ≤ w ∧ w ≤ 120)) (hx : i = 60 ∨ p = 0 ∧ i = y ∧ i ≤ 59)
    {t : Tm} (hf : t = ⟨133, tp p, 26, t.h0⟩) {ρ : Rho} {a : Act} {W : World} {R : Exit → Act → World → Prop} (h : t.At W0 (vl L c i m n u v w r d y f s k) ρ a W) (hR : ∀ ρ' a' W', t.At W0 (vl L c i m n u v w r d y f s k) ρ' a' W' → R (.exit 2) a' W') : (bodyOf 4 1).wp Tryz.prog R a W := by
  rw [hf] at h
  have hR' : ∀ ρ' a' W', (⟨133, tp p, 26, t.h0⟩ : Tm).At W0 (vl L c i m n u v w r d y f s k) ρ' a' W' → R (.exit 2) a' W' := fun ρ' a' W' h' => hR ρ' a' W' (by rw [hf]; exact h')
  rcases hx with e | ⟨rfl, e, e2⟩
  · exact tiny_wp (F := tiE) ⟨gs14 q (by omega), an, an, an, an, an, an, an⟩ (leE p hp) h hR'
  · exact tiny_wp (F := tiM) ⟨gs14 q (by omega), an, al (fN i y) an, an, an, an, an, an⟩ leM h hR'
theorem inner {p : Nat} (hp : p < 3) {L m u v w r d y f s k : Int} (q : Ct m u v r d y f s k) (hL : 0 ≤ L ∧ L ≤ 30) (hw : 0 ≤ w ∧ w ≤ 120) {N : Int} (hN : 0 ≤ N ∧ N ≤ 60) (hx : N = 60 ∨ p = 0 ∧ N = y ∧ N ≤ 59) {Pd : Int → Int → Tm → Prop} (pf : ∀ {c i t}, Pd c i t → t = ⟨133, tp p, 26, t.h0⟩)
    (hround : ∀ {c i n : Int} {t : Tm} {ρ : Rho} {a : Act} {W : World} {R : Exit → Act → World → Prop}, 0 ≤ c ∧ c ≤ 30 → 0 ≤ i ∧ i < N → 0 ≤ n ∧ n ≤ i → Pd c i t → t.At W0 (vl L c i m n u v w r d y f s k) ρ a W →
      (∀ ρ' a' W' t' c' n', Pd c' (1 + i) t' → t'.At W0 (vl L c' (1 + i) m n' u v w r d y f s k) ρ' a' W' → NextOk L c c' n n' → R .normal a' W') → (bodyOf 4 1).wp Tryz.prog R a W) :
    ∀ (z : Nat) {c i n : Int} {t : Tm} {ρ : Rho} {a : Act} {W : World} {Q : Exit → Act → World → Prop}, i + z = N → 0 ≤ c ∧ c ≤ 30 → 0 ≤ i → 0 ≤ n ∧ n ≤ i → Pd c i t → t.At W0 (vl L c i m n u v w r d y f s k) ρ a W →
      (∀ ρ' a' W' t' c' n', Pd c' N t' → t'.At W0 (vl L c' N m n' u v w r d y f s k) ρ' a' W' → c' = max c (min (c + z) L) → n' = n + (c' - c) → Q (.exit 2) a' W') → Code.rounds Tryz.prog (bodyOf 4 1) Q (z + 1) a W := by
  intro z
  induction z with
  | zero =>
    intro c i n t ρ a W Q hi hc h0 hn ht h hQ
    have e : i = N := by omega
    subst e
    rw [rounds_succ]
    exact leave hp q (by omega) hx (pf ht) h (fun ρ' a' W' h' => hQ ρ' a' W' t c n ht h' (by omega) (by omega))
  | succ z ih =>
    intro c i n t ρ a W Q hi hc h0 hn ht h hQ
    rw [rounds_succ]
    refine hround hc (by omega) hn ht h (fun ρ' a' W' t' c' n' ht' h' hnx => ?_)
    unfold NextOk at hnx
    exact ih (c := c') (i := 1 + i) (n := n') (t := t') (by omega) (by omega) (by omega) (by omega) ht' h' (fun ρ2 a2 W2 t2 c2 n2 k1 k2 k3 k4 => hQ ρ2 a2 W2 t2 c2 n2 k1 k2 (by omega) (by omega))
def headC : Code := match bodyOf 4 0 with | .seq h _ => h | _ => .skip
def r10C : Code := match bodyOf 4 0 with | .seq _ (.seq (.block _ (.seq (.seq a _) _)) _) => a | _ => .skip
def r9C : Code := match bodyOf 4 0 with | .seq _ (.seq _ r) => r | _ => .skip
theorem body0 : bodyOf 4 0 = .seq headC (.seq (.block 1 (.seq (.seq r10C (.block 2 (.loop (bodyOf 4 1)))) tailC)) r9C) := by kernel_rfl
theorem heOk : ∀ p, p < 3 → tinyOk tiG headC (tiny (List.take 7 (tp p)) .norm (List.take 7 (tp p))) = true := k3 (by kernel_rfl) (by kernel_rfl) (by kernel_rfl)
theorem heEnd : tinyOk tiG headC (tiny (List.take 7 (tp 3)) (.exit 0) (List.take 7 (tp 3))) = true := by kernel_rfl
theorem r10Ok : ∀ p, p < 3 → tinyOk tiG r10C (tiny (List.take 7 (tp p)) .norm (List.take 7 (tp p) ++ [(14, .int .i64 0)])) = true := k3 (by kernel_rfl) (by kernel_rfl) (by kernel_rfl)
theorem r9Ok : ∀ p, p < 3 → tinyOk tiG r9C (tiny (List.take 7 (tp p)) .norm (List.take 7 (tp (p + 1)))) = true := k3 (by kernel_rfl) (by kernel_rfl) (by kernel_rfl)
theorem Tm.At.i0 {p : Nat} {h0 : List (Nat × B)} {L c m n u v w r d y f s k : Int} {ρ : Rho} {a : Act} {W : World} (h : (⟨133, List.take 7 (tp p) ++ [(14, .int .i64 0)], 26, h0⟩ : Tm).At W0 (vl L c 0 m n u v w r d y f s k) ρ a W) : (⟨133, tp p, 26, h0⟩ : Tm).At W0 (vl L c 0 m n u v w r d y f s k) ρ a W := by
  refine ⟨h.sim, h.size, fun x hx => ?_, h.dfr, h.off, h.kept⟩
  have e : tp p = List.take 7 (tp p) ++ [(14, .sint .i64 2)] := rfl
  have hx : x ∈ tp p := hx
  rw [e] at hx
  rcases List.mem_append.1 hx with hx | hx
  · exact h.tmps x (List.mem_append.2 (.inl hx))
  · simp only [List.mem_singleton] at hx
    subst hx
    have := h.tmps (14, .int .i64 0) (List.mem_append.2 (.inr (by simp)))
    simpa [VR, sgl, lget] using this
theorem Tm.At.toOut {p : Nat} {t : Tm} (hf : t = ⟨133, tp p, 26, t.h0⟩) {σ : Nat → Int} {ρ : Rho} {a : Act} {W : World} (h : t.At W0 σ ρ a W) : (⟨133, List.take 7 (tp p), 26, t.h0⟩ : Tm).At W0 σ ρ a W := by
  rw [hf] at h
  exact ⟨h.sim, h.size, fun x hx => h.tmps x (List.mem_of_mem_take hx), h.dfr, h.off, h.kept⟩
def qi : List Nm := [.s 0, .s 1, .c 0, .s 3, .s 4, .s 5, .s 6, .s 7, .s 8, .s 9, .s 10, .s 11, .s 12, .s 13]
def isI (t : Tm) : Bool := swapOk (qf qi) t t && has (mkH t.h0 .e) t.h0
theorem ofI {t : Tm} (hq : isI t = true) {L c i m n u v w r d y f s k : Int} {ρ : Rho} {a : Act} {W : World} (h : t.At W0 (vl L c i m n u v w r d y f s k) ρ a W) : t.At W0 (vl L c 0 m n u v w r d y f s k) ρ a W :=
  Tm.At.unswap (t := t) (Q := qi) h hq
theorem i0_a : ∀ p, p < 2 → isI ⟨133, List.take 7 (tp p), 26, (Tm0a p).h0⟩ = true := p2 (by kernel_rfl) (by kernel_rfl)
theorem i0_b : ∀ p, p < 2 → isI ⟨133, List.take 7 (tp p), 26, (Tm0b p).h0⟩ = true := p2 (by kernel_rfl) (by kernel_rfl)
theorem i0_e : ∀ p, p < 2 → isI ⟨133, List.take 7 (tp p), 26, (Tm0e p).h0⟩ = true := p2 (by kernel_rfl) (by kernel_rfl)
theorem i0_em : ∀ p, p < 2 → isI ⟨133, List.take 7 (tp p), 26, (Tm0em p).h0⟩ = true := p2 (by kernel_rfl) (by kernel_rfl)
theorem i0_za : ∀ p, p < 2 → isI ⟨133, List.take 7 (tp p), 26, (Tm0za p).h0⟩ = true := p2 (by kernel_rfl) (by kernel_rfl)
theorem i0_zb : ∀ p, p < 2 → isI ⟨133, List.take 7 (tp p), 26, (Tm0zb p).h0⟩ = true := p2 (by kernel_rfl) (by kernel_rfl)
theorem i0_zbm : ∀ p, p < 2 → isI ⟨133, List.take 7 (tp p), 26, (Tm0zbm p).h0⟩ = true := p2 (by kernel_rfl) (by kernel_rfl)
theorem i0_ze : ∀ p, p < 2 → isI ⟨133, List.take 7 (tp p), 26, (Tm0ze p).h0⟩ = true := p2 (by kernel_rfl) (by kernel_rfl)
theorem i0_zem : ∀ p, p < 2 → isI ⟨133, List.take 7 (tp p), 26, (Tm0zem p).h0⟩ = true := p2 (by kernel_rfl) (by kernel_rfl)
theorem i1_dk : isI ⟨133, List.take 7 (tp 2), 26, (Tm1dk 2).h0⟩ = true := by kernel_rfl
theorem i1_do : isI ⟨133, List.take 7 (tp 2), 26, (Tm1do 2).h0⟩ = true := by kernel_rfl
theorem i1_ek : isI ⟨133, List.take 7 (tp 2), 26, (Tm1ek 2).h0⟩ = true := by kernel_rfl
theorem i1_eo : isI ⟨133, List.take 7 (tp 2), 26, (Tm1eo 2).h0⟩ = true := by kernel_rfl
theorem i1_em : isI ⟨133, List.take 7 (tp 2), 26, (Tm1em 2).h0⟩ = true := by kernel_rfl
theorem i1_ekm : isI ⟨133, List.take 7 (tp 2), 26, (Tm1ekm 2).h0⟩ = true := by kernel_rfl
theorem i1_zbk : isI ⟨133, List.take 7 (tp 2), 26, (Tm1zbk 2).h0⟩ = true := by kernel_rfl
theorem i1_zbo : isI ⟨133, List.take 7 (tp 2), 26, (Tm1zbo 2).h0⟩ = true := by kernel_rfl
theorem i1_zbm : isI ⟨133, List.take 7 (tp 2), 26, (Tm1zbm 2).h0⟩ = true := by kernel_rfl
theorem i1_zbkm : isI ⟨133, List.take 7 (tp 2), 26, (Tm1zbkm 2).h0⟩ = true := by kernel_rfl
theorem i1_zdk : isI ⟨133, List.take 7 (tp 2), 26, (Tm1zdk 2).h0⟩ = true := by kernel_rfl
theorem i1_zdo : isI ⟨133, List.take 7 (tp 2), 26, (Tm1zdo 2).h0⟩ = true := by kernel_rfl
theorem i1_zdm : isI ⟨133, List.take 7 (tp 2), 26, (Tm1zdm 2).h0⟩ = true := by kernel_rfl
theorem i1_zdkm : isI ⟨133, List.take 7 (tp 2), 26, (Tm1zdkm 2).h0⟩ = true := by kernel_rfl
theorem P0.i {p : Nat} (hp : p < 2) {L c i m : Int} {t : Tm} (h : P0 p L c i m t) : isI ⟨133, List.take 7 (tp p), 26, t.h0⟩ = true := by
  rcases h with ⟨_, _, rfl | rfl⟩ | ⟨_, _, rfl, _⟩ | ⟨_, _, _, _, rfl⟩ | ⟨_, _, ⟨rfl, _⟩ | rfl, _⟩ | ⟨_, _, _, rfl⟩ | ⟨_, _, rfl, _⟩ | ⟨_, _, _, rfl⟩
  · exact i0_a p hp
  · exact i0_b p hp
  · exact i0_e p hp
  · exact i0_em p hp
  · exact i0_za p hp
  · exact i0_zb p hp
  · exact i0_zbm p hp
  · exact i0_ze p hp
  · exact i0_zem p hp
theorem P1.i {L c i m : Int} {t : Tm} (h : P1 2 L c i m t) : isI ⟨133, List.take 7 (tp 2), 26, t.h0⟩ = true := by
  cases h
  · exact i1_dk
  · exact i1_do
  · exact i1_ek
  · exact i1_eo
  · exact i1_em
  · exact i1_ekm
  · exact i1_zbk
  · exact i1_zbo
  · exact i1_zbm
  · exact i1_zbkm
  · exact i1_zdk
  · exact i1_zdo
  · exact i1_zdm
  · exact i1_zdkm
theorem part {p : Nat} (hp : p < 3) {L c m u v w r d y f s k : Int} (q : Ct m u v r d y f s k) (hL : 0 ≤ L ∧ L ≤ 30) (hc : 0 ≤ c ∧ c ≤ 30) (hw : 0 ≤ w ∧ w ≤ 120) {N : Int} (hN : 0 ≤ N ∧ N ≤ 60) (hx : N = 60 ∨ p = 0 ∧ N = y ∧ N ≤ 59) {Pd : Int → Int → Tm → Prop} (pf : ∀ {c i t}, Pd c i t → t = ⟨133, tp p, 26, t.h0⟩) (pi : ∀ {c i t}, Pd c i t → isI ⟨133, List.take 7 (tp p), 26, t.h0⟩ = true)
    (hround : ∀ {c i n : Int} {t : Tm} {ρ : Rho} {a : Act} {W : World} {R : Exit → Act → World → Prop}, 0 ≤ c ∧ c ≤ 30 → 0 ≤ i ∧ i < N → 0 ≤ n ∧ n ≤ i → Pd c i t → t.At W0 (vl L c i m n u v w r d y f s k) ρ a W →
      (∀ ρ' a' W' t' c' n', Pd c' (1 + i) t' → t'.At W0 (vl L c' (1 + i) m n' u v w r d y f s k) ρ' a' W' → NextOk L c c' n n' → R .normal a' W') → (bodyOf 4 1).wp Tryz.prog R a W)
    {t : Tm} (ht : Pd c 0 t) {ρ : Rho} {a : Act} {W : World} {Q : Exit → Act → World → Prop} (h : (⟨133, List.take 7 (tp p), 26, t.h0⟩ : Tm).At W0 (vl L c 0 m 0 u v w r d y f s k) ρ a W)
    (hQ : ∀ ρ' a' W' t' c' n', Pd c' N t' → (⟨133, List.take 7 (tp p), 26, t'.h0⟩ : Tm).At W0 (vl L c' 0 m n' u v w r d y f s k) ρ' a' W' → c' = max c (min (c + N) L) → n' = c' - c → tailC.wp Tryz.prog (Exit.inBlock 1 (Exit.then (r9C.wp Tryz.prog Q) Q)) a' W') : (bodyOf 4 0).wp Tryz.prog Q a W := by
  rw [body0]
  have G : ∀ {c n : Int}, 0 ≤ c ∧ c ≤ 30 → 0 ≤ n ∧ n ≤ 60 → Facts.Ok tiG [L, c, 0, m, n, u, v, w, r, d, y, f, s, k] := fun hc hn => ⟨gs14 q (by omega), an, an, an, an, an, an, an⟩
  refine wp_seq (tiny_wp (F := tiG) (G hc (by omega)) (heOk p hp) h (fun ρ1 a1 W1 h1 => ?_))
  refine wp_seq (wp_block (wp_seq (wp_seq (tiny_wp (F := tiG) (G hc (by omega)) (r10Ok p hp) h1 (fun ρ2 a2 W2 h2 => ?_)))))
  have h2 := h2.i0
  refine wp_block (wp_loop_rounds (N.toNat + 1) ?_)
  refine inner hp q hL hw hN hx pf hround N.toNat (c := c) (i := 0) (n := 0) (t := t) (by omega) hc (by omega) (by omega) ht (by rw [pf ht]; exact h2) (fun ρ3 a3 W3 t' c' n' k1 k2 k3 k4 => ?_)
  exact hQ ρ3 a3 W3 t' c' n' k1 (ofI (pi k1) (k2.toOut (pf k1))) (by omega) (by omega)
def q01 : List Nm := [.s 0, .s 1, .s 2, .s 3, .s 5, .s 4, .s 6, .s 7, .s 8, .s 9, .s 10, .s 11, .s 12, .s 13]
def q12 : List Nm := [.s 0, .s 1, .s 2, .s 3, .s 6, .s 5, .s 4, .s 7, .s 8, .s 9, .s 10, .s 11, .s 12, .s 13]
theorem turn01 {X : Nat → Tm} (hq : swapOk (qf q01) ⟨133, List.take 7 (tp 1), 26, (X 0).h0⟩ ⟨133, List.take 7 (tp 1), 26, (X 1).h0⟩ = true) {L c i m n u v w r d y f s k : Int} {ρ : Rho} {a : Act} {W : World} (h : (⟨133, List.take 7 (tp 1), 26, (X 0).h0⟩ : Tm).At W0 (vl L c i m n u v w r d y f s k) ρ a W) : (⟨133, List.take 7 (tp 1), 26, (X 1).h0⟩ : Tm).At W0 (vl L c i m u n v w r d y f s k) ρ a W :=
  Tm.At.swap (Q := q01) h hq
theorem turn12 {X : Nat → Tm} (hq : swapOk (qf q12) ⟨133, List.take 7 (tp 2), 26, (X 1).h0⟩ ⟨133, List.take 7 (tp 2), 26, (X 2).h0⟩ = true) {L c i m n u v w r d y f s k : Int} {ρ : Rho} {a : Act} {W : World} (h : (⟨133, List.take 7 (tp 2), 26, (X 1).h0⟩ : Tm).At W0 (vl L c i m n u v w r d y f s k) ρ a W) : (⟨133, List.take 7 (tp 2), 26, (X 2).h0⟩ : Tm).At W0 (vl L c i m v u n w r d y f s k) ρ a W :=
  Tm.At.swap (Q := q12) h hq
theorem u01_a : swapOk (qf q01) ⟨133, List.take 7 (tp 1), 26, (Tm0a 0).h0⟩ ⟨133, List.take 7 (tp 1), 26, (Tm0a 1).h0⟩ = true := by kernel_rfl
theorem u01_b : swapOk (qf q01) ⟨133, List.take 7 (tp 1), 26, (Tm0b 0).h0⟩ ⟨133, List.take 7 (tp 1), 26, (Tm0b 1).h0⟩ = true := by kernel_rfl
theorem u01_e : swapOk (qf q01) ⟨133, List.take 7 (tp 1), 26, (Tm0e 0).h0⟩ ⟨133, List.take 7 (tp 1), 26, (Tm0e 1).h0⟩ = true := by kernel_rfl
theorem u01_za : swapOk (qf q01) ⟨133, List.take 7 (tp 1), 26, (Tm0za 0).h0⟩ ⟨133, List.take 7 (tp 1), 26, (Tm0za 1).h0⟩ = true := by kernel_rfl
theorem u01_zb : swapOk (qf q01) ⟨133, List.take 7 (tp 1), 26, (Tm0zb 0).h0⟩ ⟨133, List.take 7 (tp 1), 26, (Tm0zb 1).h0⟩ = true := by kernel_rfl
theorem u01_ze : swapOk (qf q01) ⟨133, List.take 7 (tp 1), 26, (Tm0ze 0).h0⟩ ⟨133, List.take 7 (tp 1), 26, (Tm0ze 1).h0⟩ = true := by kernel_rfl
theorem load0 {L c N m n u v w r d y f s k : Int} (q : Ct m u v r d y f s k) (hL : 0 ≤ L ∧ L ≤ 30) (hc : 0 ≤ c ∧ c ≤ 30) (hn : 0 ≤ n ∧ n ≤ 60) (hcL : c ≤ L) {t : Tm} (ht : P0 0 L c N m t) {ρ : Rho} {a : Act} {W : World} {Q : Exit → Act → World → Prop} (h : (⟨133, List.take 7 (tp 0), 26, t.h0⟩ : Tm).At W0 (vl L c 0 m n u v 0 r 1 y f s k) ρ a W)
    (hQ : ∀ ρ' a' W' t', P0 1 s c 0 m t' → (⟨133, List.take 7 (tp 1), 26, t'.h0⟩ : Tm).At W0 (vl s c 0 m u n v k 4602678819172646912 2 y f s k) ρ' a' W' → Q .normal a' W') : tailC.wp Tryz.prog (Exit.inBlock 1 (Exit.then (r9C.wp Tryz.prog Q) Q)) a W := by
  have q' : Ct m u v 4602678819172646912 2 y f s k := ⟨q.m, q.u, q.v, .inr rfl, by omega, q.y, q.f, q.s, q.k⟩
  have qm := q.m
  have qu := q.u
  have qv := q.v
  have qr := q.r.bd
  have qy := q.y
  have qf := q.f
  have qs := q.s
  have qk := q.k
  have nine : ∀ {X : Nat → Tm} {ρ' : Rho} {a' : Act} {W' : World}, P0 1 s c 0 m (X 1) → swapOk (Ev.qf q01) ⟨133, List.take 7 (tp 1), 26, (X 0).h0⟩ ⟨133, List.take 7 (tp 1), 26, (X 1).h0⟩ = true → (⟨133, List.take 7 (tp 0), 26, (X 0).h0⟩ : Tm).At W0 (vl s c 0 m n u v k 4602678819172646912 2 y f s k) ρ' a' W' →
      Exit.inBlock 1 (Exit.then (r9C.wp Tryz.prog Q) Q) .normal a' W' := by
    intro X ρ' a' W' hp hs h'
    exact tiny_wp (F := tiG) ⟨gs14 q' (by omega), an, an, an, an, an, an, an⟩ (r9Ok 0 (by omega)) h' (fun ρ2 a2 W2 h2 => hQ ρ2 a2 W2 (X 1) hp (turn01 hs h2))
  rcases ht with ⟨h1, h2, rfl | rfl⟩ | ⟨h1, h2, rfl, h3⟩ | ⟨h1, h2, h3, h4, rfl⟩ | ⟨h1, h2, ⟨rfl, h3⟩ | rfl, h4⟩ | ⟨h1, h2, h3, rfl⟩ | ⟨h1, h2, rfl, h3⟩ | ⟨h1, h2, h3, rfl⟩
  ·
    rcases (show 10 ≤ s ∨ (1 ≤ s ∧ s ≤ 9) ∨ s = 0 by omega) with hs | hs | hs
    · exact YTLb2_ok 0 (by omega) (t := ⟨133, List.take 7 (tp 0), 26, (Tm0a 0).h0⟩) (t' := ⟨133, List.take 7 (tp 0), 26, (Tm0a 0).h0⟩) (by kernel_rfl) L c 0 m n u v 0 r 1 y f s k (by simp only [Gs, and_true]; omega) q.r h (fun ρ' a' W' h' => nine (X := Tm0a) (.inl ⟨by omega, h2, .inl rfl⟩) u01_a h')
    · exact YTLb1_ok 0 (by omega) (t := ⟨133, List.take 7 (tp 0), 26, (Tm0a 0).h0⟩) (t' := ⟨133, List.take 7 (tp 0), 26, (Tm0a 0).h0⟩) (by kernel_rfl) L c 0 m n u v 0 r 1 y f s k (by simp only [Gs, and_true]; omega) q.r h (fun ρ' a' W' h' => nine (X := Tm0a) (.inl ⟨by omega, h2, .inl rfl⟩) u01_a h')
    · subst hs
      exact YTLb0_ok 0 (by omega) (t := ⟨133, List.take 7 (tp 0), 26, (Tm0a 0).h0⟩) (t' := ⟨133, List.take 7 (tp 0), 26, (Tm0za 0).h0⟩) (by kernel_rfl) L c 0 m n u v 0 r 1 y f 0 k (by simp only [Gs, and_true]; omega) q.r h (fun ρ' a' W' h' => nine (X := Tm0za) (.inr (.inr (.inr (.inl ⟨rfl, h2, .inl ⟨rfl, rfl⟩, .inl rfl⟩)))) u01_za h')
  ·
    rcases (show 10 ≤ s ∨ (1 ≤ s ∧ s ≤ 9) ∨ s = 0 by omega) with hs | hs | hs
    · exact YTLb2_ok 0 (by omega) (t := ⟨133, List.take 7 (tp 0), 26, (Tm0b 0).h0⟩) (t' := ⟨133, List.take 7 (tp 0), 26, (Tm0b 0).h0⟩) (by kernel_rfl) L c 0 m n u v 0 r 1 y f s k (by simp only [Gs, and_true]; omega) q.r h (fun ρ' a' W' h' => nine (X := Tm0b) (.inl ⟨by omega, h2, .inr rfl⟩) u01_b h')
    · exact YTLb1_ok 0 (by omega) (t := ⟨133, List.take 7 (tp 0), 26, (Tm0b 0).h0⟩) (t' := ⟨133, List.take 7 (tp 0), 26, (Tm0b 0).h0⟩) (by kernel_rfl) L c 0 m n u v 0 r 1 y f s k (by simp only [Gs, and_true]; omega) q.r h (fun ρ' a' W' h' => nine (X := Tm0b) (.inl ⟨by omega, h2, .inr rfl⟩) u01_b h')
    · subst hs
      exact YTLb0_ok 0 (by omega) (t := ⟨133, List.take 7 (tp 0), 26, (Tm0b 0).h0⟩) (t' := ⟨133, List.take 7 (tp 0), 26, (Tm0zb 0).h0⟩) (by kernel_rfl) L c 0 m n u v 0 r 1 y f 0 k (by simp only [Gs, and_true]; omega) q.r h (fun ρ' a' W' h' => nine (X := Tm0zb) (P0.zb ⟨rfl, h2, .inl rfl⟩) u01_zb h')
  ·
    rcases (show 10 ≤ s ∨ (1 ≤ s ∧ s ≤ 9) ∨ s = 0 by omega) with hs | hs | hs
    · exact YTLe2_ok 0 (by omega) (t := ⟨133, List.take 7 (tp 0), 26, (Tm0e 0).h0⟩) (t' := ⟨133, List.take 7 (tp 0), 26, (Tm0e 0).h0⟩) (by kernel_rfl) L c 0 m n u v 0 r 1 y f s k (by simp only [Gs, and_true]; omega) q.r h (fun ρ' a' W' h' => nine (X := Tm0e) (P0.e ⟨by omega, h2, .inr (.inl rfl)⟩) u01_e h')
    · exact YTLe1_ok 0 (by omega) (t := ⟨133, List.take 7 (tp 0), 26, (Tm0e 0).h0⟩) (t' := ⟨133, List.take 7 (tp 0), 26, (Tm0e 0).h0⟩) (by kernel_rfl) L c 0 m n u v 0 r 1 y f s k (by simp only [Gs, and_true]; omega) q.r h (fun ρ' a' W' h' => nine (X := Tm0e) (P0.e ⟨by omega, h2, .inr (.inl rfl)⟩) u01_e h')
    · subst hs
      exact YTLe0_ok 0 (by omega) (t := ⟨133, List.take 7 (tp 0), 26, (Tm0e 0).h0⟩) (t' := ⟨133, List.take 7 (tp 0), 26, (Tm0ze 0).h0⟩) (by kernel_rfl) L c 0 m n u v 0 r 1 y f 0 k (by simp only [Gs, and_true]; omega) q.r h (fun ρ' a' W' h' => nine (X := Tm0ze) (P0.ze ⟨rfl, h2, .inl rfl⟩) u01_ze h')
  ·
    rcases (show 10 ≤ s ∨ (1 ≤ s ∧ s ≤ 9) ∨ s = 0 by omega) with hs | hs | hs
    · exact YTLe2_ok 1 (by omega) (t := ⟨133, List.take 7 (tp 0), 26, (Tm0em 0).h0⟩) (t' := ⟨133, List.take 7 (tp 0), 26, (Tm0e 0).h0⟩) (by kernel_rfl) L c 0 m n u v 0 r 1 y f s k (by simp only [Gs, and_true]; omega) q.r h (fun ρ' a' W' h' => nine (X := Tm0e) (P0.e ⟨by omega, h2, .inr (.inl rfl)⟩) u01_e h')
    · exact YTLe1_ok 1 (by omega) (t := ⟨133, List.take 7 (tp 0), 26, (Tm0em 0).h0⟩) (t' := ⟨133, List.take 7 (tp 0), 26, (Tm0e 0).h0⟩) (by kernel_rfl) L c 0 m n u v 0 r 1 y f s k (by simp only [Gs, and_true]; omega) q.r h (fun ρ' a' W' h' => nine (X := Tm0e) (P0.e ⟨by omega, h2, .inr (.inl rfl)⟩) u01_e h')
    · subst hs
      exact YTLe0_ok 1 (by omega) (t := ⟨133, List.take 7 (tp 0), 26, (Tm0em 0).h0⟩) (t' := ⟨133, List.take 7 (tp 0), 26, (Tm0ze 0).h0⟩) (by kernel_rfl) L c 0 m n u v 0 r 1 y f 0 k (by simp only [Gs, and_true]; omega) q.r h (fun ρ' a' W' h' => nine (X := Tm0ze) (P0.ze ⟨rfl, h2, .inl rfl⟩) u01_ze h')
  ·
    rcases (show 10 ≤ s ∨ (1 ≤ s ∧ s ≤ 9) ∨ s = 0 by omega) with hs | hs | hs
    · exact YTLb2_ok 0 (by omega) (t := ⟨133, List.take 7 (tp 0), 26, (Tm0za 0).h0⟩) (t' := ⟨133, List.take 7 (tp 0), 26, (Tm0a 0).h0⟩) (by kernel_rfl) L c 0 m n u v 0 r 1 y f s k (by simp only [Gs, and_true]; omega) q.r h (fun ρ' a' W' h' => nine (X := Tm0a) (.inl ⟨by omega, h2, .inl rfl⟩) u01_a h')
    · exact YTLb1_ok 0 (by omega) (t := ⟨133, List.take 7 (tp 0), 26, (Tm0za 0).h0⟩) (t' := ⟨133, List.take 7 (tp 0), 26, (Tm0a 0).h0⟩) (by kernel_rfl) L c 0 m n u v 0 r 1 y f s k (by simp only [Gs, and_true]; omega) q.r h (fun ρ' a' W' h' => nine (X := Tm0a) (.inl ⟨by omega, h2, .inl rfl⟩) u01_a h')
    · subst hs
      exact YTLb0_ok 0 (by omega) (t := ⟨133, List.take 7 (tp 0), 26, (Tm0za 0).h0⟩) (t' := ⟨133, List.take 7 (tp 0), 26, (Tm0za 0).h0⟩) (by kernel_rfl) L c 0 m n u v 0 r 1 y f 0 k (by simp only [Gs, and_true]; omega) q.r h (fun ρ' a' W' h' => nine (X := Tm0za) (.inr (.inr (.inr (.inl ⟨rfl, h2, .inl ⟨rfl, rfl⟩, .inl rfl⟩)))) u01_za h')
  ·
    rcases (show 10 ≤ s ∨ (1 ≤ s ∧ s ≤ 9) ∨ s = 0 by omega) with hs | hs | hs
    · exact YTLb2_ok 0 (by omega) (t := ⟨133, List.take 7 (tp 0), 26, (Tm0zb 0).h0⟩) (t' := ⟨133, List.take 7 (tp 0), 26, (Tm0b 0).h0⟩) (by kernel_rfl) L c 0 m n u v 0 r 1 y f s k (by simp only [Gs, and_true]; omega) q.r h (fun ρ' a' W' h' => nine (X := Tm0b) (.inl ⟨by omega, h2, .inr rfl⟩) u01_b h')
    · exact YTLb1_ok 0 (by omega) (t := ⟨133, List.take 7 (tp 0), 26, (Tm0zb 0).h0⟩) (t' := ⟨133, List.take 7 (tp 0), 26, (Tm0b 0).h0⟩) (by kernel_rfl) L c 0 m n u v 0 r 1 y f s k (by simp only [Gs, and_true]; omega) q.r h (fun ρ' a' W' h' => nine (X := Tm0b) (.inl ⟨by omega, h2, .inr rfl⟩) u01_b h')
    · subst hs
      exact YTLb0_ok 0 (by omega) (t := ⟨133, List.take 7 (tp 0), 26, (Tm0zb 0).h0⟩) (t' := ⟨133, List.take 7 (tp 0), 26, (Tm0zb 0).h0⟩) (by kernel_rfl) L c 0 m n u v 0 r 1 y f 0 k (by simp only [Gs, and_true]; omega) q.r h (fun ρ' a' W' h' => nine (X := Tm0zb) (P0.zb ⟨rfl, h2, .inl rfl⟩) u01_zb h')
  ·
    rcases (show 10 ≤ s ∨ (1 ≤ s ∧ s ≤ 9) ∨ s = 0 by omega) with hs | hs | hs
    · exact YTLb2_ok 1 (by omega) (t := ⟨133, List.take 7 (tp 0), 26, (Tm0zbm 0).h0⟩) (t' := ⟨133, List.take 7 (tp 0), 26, (Tm0b 0).h0⟩) (by kernel_rfl) L c 0 m n u v 0 r 1 y f s k (by simp only [Gs, and_true]; omega) q.r h (fun ρ' a' W' h' => nine (X := Tm0b) (.inl ⟨by omega, h2, .inr rfl⟩) u01_b h')
    · exact YTLb1_ok 1 (by omega) (t := ⟨133, List.take 7 (tp 0), 26, (Tm0zbm 0).h0⟩) (t' := ⟨133, List.take 7 (tp 0), 26, (Tm0b 0).h0⟩) (by kernel_rfl) L c 0 m n u v 0 r 1 y f s k (by simp only [Gs, and_true]; omega) q.r h (fun ρ' a' W' h' => nine (X := Tm0b) (.inl ⟨by omega, h2, .inr rfl⟩) u01_b h')
    · subst hs
      exact YTLb0_ok 1 (by omega) (t := ⟨133, List.take 7 (tp 0), 26, (Tm0zbm 0).h0⟩) (t' := ⟨133, List.take 7 (tp 0), 26, (Tm0zb 0).h0⟩) (by kernel_rfl) L c 0 m n u v 0 r 1 y f 0 k (by simp only [Gs, and_true]; omega) q.r h (fun ρ' a' W' h' => nine (X := Tm0zb) (P0.zb ⟨rfl, h2, .inl rfl⟩) u01_zb h')
  · omega
  · omega
def Tm1d (p : Nat) : Tm := ⟨133, tp p, 26, pl (.sint .i64 0) (.sint .i64 3) [] (.sl 25 0 0 1) 0 (.sl 23 0 0 1) (e3 ++ e3 ++ e3 ++ e3 ++ e3 ++ e3) [] (nl p (.sint .i64 4)) [(23, k57n), (25, k57n)]⟩
def Tm1zd (p : Nat) : Tm := ⟨133, tp p, 26, pl (.int .i64 0) (.sint .i64 3) [] (.sl 25 0 0 1) 0 (.sl 23 0 0 1) (e3 ++ e3 ++ e3 ++ e3 ++ e3 ++ e3) [] (nl p (.sint .i64 4)) [(23, k57n), (25, k57n)]⟩
def Tm1zb (p : Nat) : Tm := ⟨133, tp p, 26, pl (.int .i64 0) (.sint .i64 3) [] (.sl 25 0 0 1) 0 (.nils) (e3 ++ e3 ++ e3 ++ e3 ++ e3 ++ e3) [] (nl p (.sint .i64 4)) [(25, k57n)]⟩
theorem o1_d : isO ⟨133, List.take 7 (tp 2), 26, (Tm1d 2).h0⟩ ⟨133, List.take 7 (tp 2), 26, (Tm1do 2).h0⟩ = true := by kernel_rfl
theorem o1_zd : isO ⟨133, List.take 7 (tp 2), 26, (Tm1zd 2).h0⟩ ⟨133, List.take 7 (tp 2), 26, (Tm1zdo 2).h0⟩ = true := by kernel_rfl
theorem o1_zb : isO ⟨133, List.take 7 (tp 2), 26, (Tm1zb 2).h0⟩ ⟨133, List.take 7 (tp 2), 26, (Tm1zbo 2).h0⟩ = true := by kernel_rfl
theorem u12_d : swapOk (qf q12) ⟨133, List.take 7 (tp 2), 26, (Tm1d 1).h0⟩ ⟨133, List.take 7 (tp 2), 26, (Tm1d 2).h0⟩ = true := by kernel_rfl
theorem u12_zd : swapOk (qf q12) ⟨133, List.take 7 (tp 2), 26, (Tm1zd 1).h0⟩ ⟨133, List.take 7 (tp 2), 26, (Tm1zd 2).h0⟩ = true := by kernel_rfl
theorem u12_zb : swapOk (qf q12) ⟨133, List.take 7 (tp 2), 26, (Tm1zb 1).h0⟩ ⟨133, List.take 7 (tp 2), 26, (Tm1zb 2).h0⟩ = true := by kernel_rfl
theorem u12_dk : swapOk (qf q12) ⟨133, List.take 7 (tp 2), 26, (Tm1dk 1).h0⟩ ⟨133, List.take 7 (tp 2), 26, (Tm1dk 2).h0⟩ = true := by kernel_rfl
theorem u12_zdk : swapOk (qf q12) ⟨133, List.take 7 (tp 2), 26, (Tm1zdk 1).h0⟩ ⟨133, List.take 7 (tp 2), 26, (Tm1zdk 2).h0⟩ = true := by kernel_rfl
theorem u12_zbk : swapOk (qf q12) ⟨133, List.take 7 (tp 2), 26, (Tm1zbk 1).h0⟩ ⟨133, List.take 7 (tp 2), 26, (Tm1zbk 2).h0⟩ = true := by kernel_rfl
theorem tick1 {L c N m n u v w r d y f s k : Int} (q : Ct m u v r d y f s k) (hL : 0 ≤ L ∧ L ≤ 30) (hc : 0 ≤ c ∧ c ≤ 30) (hn : 0 ≤ n ∧ n ≤ 60) (hend : 1 ≤ L → 1 ≤ c ∧ L ≤ c) {t : Tm} (ht : P0 1 L c 60 m t) {ρ : Rho} {a : Act} {W : World} {Q : Exit → Act → World → Prop} (h : (⟨133, List.take 7 (tp 1), 26, t.h0⟩ : Tm).At W0 (vl L c 0 m n u v k r d y f s k) ρ a W)
    (hQ : ∀ ρ' a' W' t', P1 2 L 0 0 m t' → (⟨133, List.take 7 (tp 2), 26, t'.h0⟩ : Tm).At W0 (vl L c 0 m v u n 60 r d y f s k) ρ' a' W' → Q .normal a' W') : tailC.wp Tryz.prog (Exit.inBlock 1 (Exit.then (r9C.wp Tryz.prog Q) Q)) a W := by
  have qm := q.m
  have qu := q.u
  have qv := q.v
  have qr := q.r.bd
  have qd := q.d
  have qy := q.y
  have qf := q.f
  have qs := q.s
  have qk := q.k
  have nine : ∀ {X : Nat → Tm} {ρ' : Rho} {a' : Act} {W' : World}, swapOk (Ev.qf q12) ⟨133, List.take 7 (tp 2), 26, (X 1).h0⟩ ⟨133, List.take 7 (tp 2), 26, (X 2).h0⟩ = true → (⟨133, List.take 7 (tp 1), 26, (X 1).h0⟩ : Tm).At W0 (vl L c 0 m n u v 60 r d y f s k) ρ' a' W' →
      (∀ ρ2 a2 W2, (⟨133, List.take 7 (tp 2), 26, (X 2).h0⟩ : Tm).At W0 (vl L c 0 m v u n 60 r d y f s k) ρ2 a2 W2 → Q .normal a2 W2) → Exit.inBlock 1 (Exit.then (r9C.wp Tryz.prog Q) Q) .normal a' W' := by
    intro X ρ' a' W' hs h' hz
    exact tiny_wp (F := tiG) ⟨gs14 q (by omega), an, an, an, an, an, an, an⟩ (r9Ok 1 (by omega)) h' (fun ρ2 a2 W2 h2 => hz ρ2 a2 W2 (turn12 hs h2))
  rcases ht with ⟨h1, h2, rfl | rfl⟩ | ⟨h1, h2, rfl, h3⟩ | ⟨h1, h2, h3, h4, rfl⟩ | ⟨h1, h2, ⟨rfl, h3⟩ | rfl, h4⟩ | ⟨h1, h2, h3, rfl⟩ | ⟨h1, h2, rfl, h3⟩ | ⟨h1, h2, h3, rfl⟩
  · omega
  · omega
  ·
    have hm : m = 0 := by omega
    subst hm
    exact YTSe_ok (t := ⟨133, List.take 7 (tp 1), 26, (Tm0e 1).h0⟩) (t' := ⟨133, List.take 7 (tp 1), 26, upd (Tm1d 1).h0 [(23, k88n)]⟩) (by kernel_rfl) L c 0 0 n u v 0 r d y f s k (by simp only [Gs, and_true]; omega) q.r h (fun ρ' a' W' h' => nine (X := Tm1d) u12_d (Tm.At.cut (t := ⟨133, List.take 7 (tp 1), 26, (Tm1d 1).h0⟩) 23 h' (by kernel_rfl)) (fun ρ2 a2 W2 h2 => hQ ρ2 a2 W2 (Tm1do 2) (.do_ ⟨h1, rfl, rfl⟩) (toO o1_d h2)))
  · exact YTSe_ok (t := ⟨133, List.take 7 (tp 1), 26, (Tm0em 1).h0⟩) (t' := ⟨133, List.take 7 (tp 1), 26, upd (Tm1dk 1).h0 [(23, k88n)]⟩) (by kernel_rfl) L c 0 m n u v 0 r d y f s k (by simp only [Gs, and_true]; omega) q.r h (fun ρ' a' W' h' => nine (X := Tm1dk) u12_dk (Tm.At.cut (t := ⟨133, List.take 7 (tp 1), 26, (Tm1dk 1).h0⟩) 23 h' (by kernel_rfl)) (fun ρ2 a2 W2 h2 => hQ ρ2 a2 W2 (Tm1dk 2) (.dk ⟨h1, rfl, h4⟩) h2))
  · omega
  ·
    have hm : m = 0 := by omega
    subst hm
    exact YTSb_ok (t := ⟨133, List.take 7 (tp 1), 26, (Tm0zb 1).h0⟩) (t' := ⟨133, List.take 7 (tp 1), 26, (Tm1zb 1).h0⟩) (by kernel_rfl) L c 0 0 n u v 0 r d y f s k (by simp only [Gs, and_true]; omega) q.r h (fun ρ' a' W' h' => nine (X := Tm1zb) u12_zb h' (fun ρ2 a2 W2 h2 => hQ ρ2 a2 W2 (Tm1zbo 2) (.zbo ⟨h1, rfl, rfl⟩) (toO o1_zb h2)))
  · exact YTSb_ok (t := ⟨133, List.take 7 (tp 1), 26, (Tm0zbm 1).h0⟩) (t' := ⟨133, List.take 7 (tp 1), 26, (Tm1zbk 1).h0⟩) (by kernel_rfl) L c 0 m n u v 0 r d y f s k (by simp only [Gs, and_true]; omega) q.r h (fun ρ' a' W' h' => nine (X := Tm1zbk) u12_zbk h' (fun ρ2 a2 W2 h2 => hQ ρ2 a2 W2 (Tm1zbk 2) (.zbk ⟨h1, rfl, h3⟩) h2))
  ·
    have hm : m = 0 := by omega
    subst hm
    exact YTSe_ok (t := ⟨133, List.take 7 (tp 1), 26, (Tm0ze 1).h0⟩) (t' := ⟨133, List.take 7 (tp 1), 26, upd (Tm1zd 1).h0 [(23, k88n)]⟩) (by kernel_rfl) L c 0 0 n u v 0 r d y f s k (by simp only [Gs, and_true]; omega) q.r h (fun ρ' a' W' h' => nine (X := Tm1zd) u12_zd (Tm.At.cut (t := ⟨133, List.take 7 (tp 1), 26, (Tm1zd 1).h0⟩) 23 h' (by kernel_rfl)) (fun ρ2 a2 W2 h2 => hQ ρ2 a2 W2 (Tm1zdo 2) (.zdo ⟨h1, rfl, rfl⟩) (toO o1_zd h2)))
  · exact YTSe_ok (t := ⟨133, List.take 7 (tp 1), 26, (Tm0zem 1).h0⟩) (t' := ⟨133, List.take 7 (tp 1), 26, upd (Tm1zdk 1).h0 [(23, k88n)]⟩) (by kernel_rfl) L c 0 m n u v 0 r d y f s k (by simp only [Gs, and_true]; omega) q.r h (fun ρ' a' W' h' => nine (X := Tm1zdk) u12_zdk (Tm.At.cut (t := ⟨133, List.take 7 (tp 1), 26, (Tm1zdk 1).h0⟩) 23 h' (by kernel_rfl)) (fun ρ2 a2 W2 h2 => hQ ρ2 a2 W2 (Tm1zdk 2) (.zdk ⟨h1, rfl, h3⟩) h2))
def Tm1e (p : Nat) : Tm := ⟨133, tp p, 26, pl (.sint .i64 0) (.sint .i64 3) [] (.sl 25 0 0 1) 1 (.sl 23 0 1 1) ([.bool true, .str TcK058b, .sint .i64 1] ++ e3 ++ e3 ++ e3 ++ e3 ++ e3) [(.str TcK058b, .ptr 24 0)] (nl p (.sint .i64 4)) [(23, k88n), (24, k16n), (25, k57n)]⟩
theorem o1_e : isO ⟨133, List.take 7 (tp 2), 26, (Tm1e 2).h0⟩ ⟨133, List.take 7 (tp 2), 26, (Tm1eo 2).h0⟩ = true := by kernel_rfl
def finT (p : Nat) : Tm := ⟨133, List.take 7 (tp p), 26, [(22, .cells (nl 2 (.sint .i64 4)))]⟩
theorem tick2 {L c N m n u v w r d y f s k : Int} (q : Ct m u v r d y f s k) (hL : 0 ≤ L ∧ L ≤ 30) (hc : 0 ≤ c ∧ c ≤ 30) (hn : 0 ≤ n ∧ n ≤ 60) {t : Tm} (ht : P1 2 L c N m t) {ρ : Rho} {a : Act} {W : World} {Q : Exit → Act → World → Prop} (h : (⟨133, List.take 7 (tp 2), 26, t.h0⟩ : Tm).At W0 (vl L c 0 m n u v 60 r d y f s k) ρ a W)
    (hQ : ∀ ρ' a' W', (finT 3).At W0 (vl L c 0 m n u v 60 r d y f s k) ρ' a' W' → Q .normal a' W') : tailC.wp Tryz.prog (Exit.inBlock 1 (Exit.then (r9C.wp Tryz.prog Q) Q)) a W := by
  have qm := q.m
  have qu := q.u
  have qv := q.v
  have qr := q.r.bd
  have qd := q.d
  have qy := q.y
  have qf := q.f
  have qs := q.s
  have qk := q.k
  have nine : ∀ ρ' a' W', (finT 2).At W0 (vl L c 0 m n u v 60 r d y f s k) ρ' a' W' → Exit.inBlock 1 (Exit.then (r9C.wp Tryz.prog Q) Q) .normal a' W' := by
    intro ρ' a' W' h'
    exact tiny_wp (F := tiG) ⟨gs14 q (by omega), an, an, an, an, an, an, an⟩ (r9Ok 2 (by omega)) h' (fun ρ2 a2 W2 h2 => hQ ρ2 a2 W2 h2)
  cases ht with
  | dk h1 =>
    rcases (show 1 ≤ k ∨ k = 0 by omega) with hk | hk
    · exact YTTd_ok (t := ⟨133, List.take 7 (tp 2), 26, (Tm1dk 2).h0⟩) (t' := finT 2) (by kernel_rfl) L c 0 m n u v 60 r d y f s k (by simp only [Gs, and_true]; omega) q.r h nine
    · exact YTUd_ok (t := ⟨133, List.take 7 (tp 2), 26, (Tm1dk 2).h0⟩) (t' := finT 2) (by kernel_rfl) L c 0 m n u v 60 r d y f s k (by simp only [Gs, and_true]; omega) q.r h nine
  | do_ h1 =>
    have hm : m = 0 := h1.2.2
    subst hm
    rcases (show 1 ≤ k ∨ k = 0 by omega) with hk | hk
    · exact YTTd_ok (t := ⟨133, List.take 7 (tp 2), 26, (Tm1d 2).h0⟩) (t' := finT 2) (by kernel_rfl) L c 0 0 n u v 60 r d y f s k (by simp only [Gs, and_true]; omega) q.r (ofO o1_d h) nine
    · exact YTUd_ok (t := ⟨133, List.take 7 (tp 2), 26, (Tm1d 2).h0⟩) (t' := finT 2) (by kernel_rfl) L c 0 0 n u v 60 r d y f s k (by simp only [Gs, and_true]; omega) q.r (ofO o1_d h) nine
  | ek h1 =>
    rcases (show 1 ≤ k ∨ k = 0 by omega) with hk | hk
    · exact YTTe_ok (t := ⟨133, List.take 7 (tp 2), 26, (Tm1ek 2).h0⟩) (t' := finT 2) (by kernel_rfl) L c 0 m n u v 60 r d y f s k (by simp only [Gs, and_true]; omega) q.r h nine
    · exact YTUe_ok (t := ⟨133, List.take 7 (tp 2), 26, (Tm1ek 2).h0⟩) (t' := finT 2) (by kernel_rfl) L c 0 m n u v 60 r d y f s k (by simp only [Gs, and_true]; omega) q.r h nine
  | eo h1 =>
    have hm : m = 0 := h1.2.2
    subst hm
    rcases (show 1 ≤ k ∨ k = 0 by omega) with hk | hk
    · exact YTTe_ok (t := ⟨133, List.take 7 (tp 2), 26, (Tm1e 2).h0⟩) (t' := finT 2) (by kernel_rfl) L c 0 0 n u v 60 r d y f s k (by simp only [Gs, and_true]; omega) q.r (ofO o1_e h) nine
    · exact YTUe_ok (t := ⟨133, List.take 7 (tp 2), 26, (Tm1e 2).h0⟩) (t' := finT 2) (by kernel_rfl) L c 0 0 n u v 60 r d y f s k (by simp only [Gs, and_true]; omega) q.r (ofO o1_e h) nine
  | em h1 =>
    rcases (show 1 ≤ k ∨ k = 0 by omega) with hk | hk
    · exact YTTe_ok (t := ⟨133, List.take 7 (tp 2), 26, (Tm1em 2).h0⟩) (t' := finT 2) (by kernel_rfl) L c 0 m n u v 60 r d y f s k (by simp only [Gs, and_true]; omega) q.r h nine
    · exact YTUe_ok (t := ⟨133, List.take 7 (tp 2), 26, (Tm1em 2).h0⟩) (t' := finT 2) (by kernel_rfl) L c 0 m n u v 60 r d y f s k (by simp only [Gs, and_true]; omega) q.r h nine
  | ekm h1 =>
    rcases (show 1 ≤ k ∨ k = 0 by omega) with hk | hk
    · exact YTTe_ok (t := ⟨133, List.take 7 (tp 2), 26, (Tm1ekm 2).h0⟩) (t' := finT 2) (by kernel_rfl) L c 0 m n u v 60 r d y f s k (by simp only [Gs, and_true]; omega) q.r h nine
    · exact YTUe_ok (t := ⟨133, List.take 7 (tp 2), 26, (Tm1ekm 2).h0⟩) (t' := finT 2) (by kernel_rfl) L c 0 m n u v 60 r d y f s k (by simp only [Gs, and_true]; omega) q.r h nine
  | zbk h1 =>
    rcases (show 1 ≤ k ∨ k = 0 by omega) with hk | hk
    · exact YTTb_ok (t := ⟨133, List.take 7 (tp 2), 26, (Tm1zbk 2).h0⟩) (t' := finT 2) (by kernel_rfl) L c 0 m n u v 60 r d y f s k (by simp only [Gs, and_true]; omega) q.r h nine
    · exact YTUb_ok (t := ⟨133, List.take 7 (tp 2), 26, (Tm1zbk 2).h0⟩) (t' := finT 2) (by kernel_rfl) L c 0 m n u v 60 r d y f s k (by simp only [Gs, and_true]; omega) q.r h nine
  | zbo h1 =>
    have hm : m = 0 := h1.2.2
    subst hm
    rcases (show 1 ≤ k ∨ k = 0 by omega) with hk | hk
    · exact YTTb_ok (t := ⟨133, List.take 7 (tp 2), 26, (Tm1zb 2).h0⟩) (t' := finT 2) (by kernel_rfl) L c 0 0 n u v 60 r d y f s k (by simp only [Gs, and_true]; omega) q.r (ofO o1_zb h) nine
    · exact YTUb_ok (t := ⟨133, List.take 7 (tp 2), 26, (Tm1zb 2).h0⟩) (t' := finT 2) (by kernel_rfl) L c 0 0 n u v 60 r d y f s k (by simp only [Gs, and_true]; omega) q.r (ofO o1_zb h) nine
  | zbm h1 =>
    rcases (show 1 ≤ k ∨ k = 0 by omega) with hk | hk
    · exact YTTb_ok (t := ⟨133, List.take 7 (tp 2), 26, (Tm1zbm 2).h0⟩) (t' := finT 2) (by kernel_rfl) L c 0 m n u v 60 r d y f s k (by simp only [Gs, and_true]; omega) q.r h nine
    · exact YTUb_ok (t := ⟨133, List.take 7 (tp 2), 26, (Tm1zbm 2).h0⟩) (t' := finT 2) (by kernel_rfl) L c 0 m n u v 60 r d y f s k (by simp only [Gs, and_true]; omega) q.r h nine
  | zbkm h1 =>
    rcases (show 1 ≤ k ∨ k = 0 by omega) with hk | hk
    · exact YTTb_ok (t := ⟨133, List.take 7 (tp 2), 26, (Tm1zbkm 2).h0⟩) (t' := finT 2) (by kernel_rfl) L c 0 m n u v 60 r d y f s k (by simp only [Gs, and_true]; omega) q.r h nine
    · exact YTUb_ok (t := ⟨133, List.take 7 (tp 2), 26, (Tm1zbkm 2).h0⟩) (t' := finT 2) (by kernel_rfl) L c 0 m n u v 60 r d y f s k (by simp only [Gs, and_true]; omega) q.r h nine
  | zdk h1 =>
    rcases (show 1 ≤ k ∨ k = 0 by omega) with hk | hk
    · exact YTTd_ok (t := ⟨133, List.take 7 (tp 2), 26, (Tm1zdk 2).h0⟩) (t' := finT 2) (by kernel_rfl) L c 0 m n u v 60 r d y f s k (by simp only [Gs, and_true]; omega) q.r h nine
    · exact YTUd_ok (t := ⟨133, List.take 7 (tp 2), 26, (Tm1zdk 2).h0⟩) (t' := finT 2) (by kernel_rfl) L c 0 m n u v 60 r d y f s k (by simp only [Gs, and_true]; omega) q.r h nine
  | zdo h1 =>
    have hm : m = 0 := h1.2.2
    subst hm
    rcases (show 1 ≤ k ∨ k = 0 by omega) with hk | hk
    · exact YTTd_ok (t := ⟨133, List.take 7 (tp 2), 26, (Tm1zd 2).h0⟩) (t' := finT 2) (by kernel_rfl) L c 0 0 n u v 60 r d y f s k (by simp only [Gs, and_true]; omega) q.r (ofO o1_zd h) nine
    · exact YTUd_ok (t := ⟨133, List.take 7 (tp 2), 26, (Tm1zd 2).h0⟩) (t' := finT 2) (by kernel_rfl) L c 0 0 n u v 60 r d y f s k (by simp only [Gs, and_true]; omega) q.r (ofO o1_zd h) nine
  | zdm h1 =>
    rcases (show 1 ≤ k ∨ k = 0 by omega) with hk | hk
    · exact YTTd_ok (t := ⟨133, List.take 7 (tp 2), 26, (Tm1zdm 2).h0⟩) (t' := finT 2) (by kernel_rfl) L c 0 m n u v 60 r d y f s k (by simp only [Gs, and_true]; omega) q.r h nine
    · exact YTUd_ok (t := ⟨133, List.take 7 (tp 2), 26, (Tm1zdm 2).h0⟩) (t' := finT 2) (by kernel_rfl) L c 0 m n u v 60 r d y f s k (by simp only [Gs, and_true]; omega) q.r h nine
  | zdkm h1 =>
    rcases (show 1 ≤ k ∨ k = 0 by omega) with hk | hk
    · exact YTTd_ok (t := ⟨133, List.take 7 (tp 2), 26, (Tm1zdkm 2).h0⟩) (t' := finT 2) (by kernel_rfl) L c 0 m n u v 60 r d y f s k (by simp only [Gs, and_true]; omega) q.r h nine
    · exact YTUd_ok (t := ⟨133, List.take 7 (tp 2), 26, (Tm1zdkm 2).h0⟩) (t' := finT 2) (by kernel_rfl) L c 0 m n u v 60 r d y f s k (by simp only [Gs, and_true]; omega) q.r h nine
end
end Go.Proofs.YtnpkeganpkobjaaGreatDoor.Ev
