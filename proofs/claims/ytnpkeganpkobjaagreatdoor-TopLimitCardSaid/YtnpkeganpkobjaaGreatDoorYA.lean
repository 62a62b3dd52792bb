import Derived.Test.YtnpkeganpkobjaaGreatDoorCG
import Derived.Test.YtnpkeganpkobjaaGreatDoorPA
import Derived.Test.YtnpkeganpkobjaaGreatDoorPB
import Derived.Test.YtnpkeganpkobjaaGreatDoorPC
import Derived.Test.YtnpkeganpkobjaaGreatDoorPD
import Derived.Test.YtnpkeganpkobjaaGreatDoorPE
import Derived.Test.YtnpkeganpkobjaaGreatDoorCK
set_option linter.all false
namespace Go.Proofs.YtnpkeganpkobjaaGreatDoor.Ev
set_option maxRecDepth 100000
set_option maxHeartbeats 4000000
open Go Go.RowKit
variable {W0 : World}
noncomputable section
abbrev vl (L c i m n u v w r d y f s k : Int) : Nat → Int := sgl [L, c, i, m, n, u, v, w, r, d, y, f, s, k]
structure Ct (m u v r d y f s k : Int) : Prop where
  m : (0 : Int) ≤ m ∧ m ≤ 2
  u : (0 : Int) ≤ u ∧ u ≤ 60
  v : (0 : Int) ≤ v ∧ v ≤ 60
  r : Nr r
  d : (1 : Int) ≤ d ∧ d ≤ 2
  y : (0 : Int) ≤ y ∧ y ≤ 60
  f : (0 : Int) ≤ f ∧ f ≤ 30
  s : (0 : Int) ≤ s ∧ s ≤ 30
  k : (0 : Int) ≤ k ∧ k ≤ 59
theorem Ct.co {i m n u v r d y f s k : Int} (q : Ct m u v r d y f s k) (hi : (0 : Int) ≤ i ∧ i ≤ 59) (hn : (0 : Int) ≤ n ∧ n ≤ 60) : Co i m n u v r d y f s k := ⟨hi, q.m, hn, q.u, q.v, q.r, q.d, q.y, q.f, q.s, q.k⟩
def qo : List Nm := [.s 0, .s 1, .s 2, .c 0, .s 4, .s 5, .s 6, .s 7, .s 8, .s 9, .s 10, .s 11, .s 12, .s 13]
def isO (t t' : Tm) : Bool := swapOk (qf qo) t t' && has (mkH t'.h0 .e) t'.h0
theorem toO {t t' : Tm} (hq : isO t t' = true) {L c i n u v w r d y f s k : Int} {ρ : Rho} {a : Act} {W : World} (h : t.At W0 (vl L c i 0 n u v w r d y f s k) ρ a W) : t'.At W0 (vl L c i 0 n u v w r d y f s k) ρ a W := by
  unfold isO at hq
  rw [Bool.and_eq_true (swapOk _ _ _)] at hq
  exact Tm.At.swap (t := t) (Q := qo) h hq.1
theorem ofO {t t' : Tm} (hq : isO t t' = true) {L c i n u v w r d y f s k : Int} {ρ : Rho} {a : Act} {W : World} (h : t'.At W0 (vl L c i 0 n u v w r d y f s k) ρ a W) : t.At W0 (vl L c i 0 n u v w r d y f s k) ρ a W :=
  Tm.At.unswap (t := t) (Q := qo) h hq
theorem o_a : ∀ p, p < 2 → isO (Tm0a p) (Tm0ao p) = true := p2 (by kernel_rfl) (by kernel_rfl)
theorem o_b : ∀ p, p < 2 → isO (Tm0b p) (Tm0bo p) = true := p2 (by kernel_rfl) (by kernel_rfl)
theorem o_e : ∀ p, p < 2 → isO (Tm0e p) (Tm0eo p) = true := p2 (by kernel_rfl) (by kernel_rfl)
theorem o_za : ∀ p, p < 2 → isO (Tm0za p) (Tm0zao p) = true := p2 (by kernel_rfl) (by kernel_rfl)
theorem o_zb : ∀ p, p < 2 → isO (Tm0zb p) (Tm0zbo p) = true := p2 (by kernel_rfl) (by kernel_rfl)
theorem o_ze : ∀ p, p < 2 → isO (Tm0ze p) (Tm0zeo p) = true := p2 (by kernel_rfl) (by kernel_rfl)
def P0 (p : Nat) (L c i m : Int) (t : Tm) : Prop :=
  (1 ≤ L ∧ c = 0 ∧ (t = Tm0a p ∨ t = Tm0b p)) ∨ (1 ≤ L ∧ 1 ≤ c ∧ t = Tm0e p ∧ (c < L ∨ i = 0 ∨ m = 0)) ∨ (1 ≤ L ∧ 1 ≤ c ∧ L ≤ c ∧ 1 ≤ m ∧ t = Tm0em p) ∨
  (L = 0 ∧ c = 0 ∧ (t = Tm0za p ∧ i = 0 ∨ t = Tm0zb p) ∧ (i = 0 ∨ m = 0)) ∨ (L = 0 ∧ c = 0 ∧ 1 ≤ m ∧ t = Tm0zbm p) ∨ (L = 0 ∧ 1 ≤ c ∧ t = Tm0ze p ∧ (i = 0 ∨ m = 0)) ∨ (L = 0 ∧ 1 ≤ c ∧ 1 ≤ m ∧ t = Tm0zem p)
theorem P0.f {p : Nat} {L c i m : Int} {t : Tm} (h : P0 p L c i m t) : t = ⟨133, tp p, 26, t.h0⟩ := by
  rcases h with ⟨_, _, rfl | rfl⟩ | ⟨_, _, rfl, _⟩ | ⟨_, _, _, _, rfl⟩ | ⟨_, _, ⟨rfl, _⟩ | rfl, _⟩ | ⟨_, _, _, rfl⟩ | ⟨_, _, rfl, _⟩ | ⟨_, _, _, rfl⟩ <;> rfl
def NextOk (L c c' n n' : Int) : Prop := c < L ∧ c' = c + 1 ∧ n' = 1 + n ∨ L ≤ c ∧ c' = c ∧ n' = n
theorem P0.e {p : Nat} {L c i m : Int} (h : 1 ≤ L ∧ 1 ≤ c ∧ (c < L ∨ i = 0 ∨ m = 0)) : P0 p L c i m (Tm0e p) := .inr (.inl ⟨h.1, h.2.1, rfl, h.2.2⟩)
theorem P0.em {p : Nat} {L c i m : Int} (h : 1 ≤ L ∧ 1 ≤ c ∧ L ≤ c ∧ 1 ≤ m) : P0 p L c i m (Tm0em p) := .inr (.inr (.inl ⟨h.1, h.2.1, h.2.2.1, h.2.2.2, rfl⟩))
theorem P0.zb {p : Nat} {L c i m : Int} (h : L = 0 ∧ c = 0 ∧ (i = 0 ∨ m = 0)) : P0 p L c i m (Tm0zb p) := .inr (.inr (.inr (.inl ⟨h.1, h.2.1, .inr rfl, h.2.2⟩)))
theorem P0.zbm {p : Nat} {L c i m : Int} (h : L = 0 ∧ c = 0 ∧ 1 ≤ m) : P0 p L c i m (Tm0zbm p) := .inr (.inr (.inr (.inr (.inl ⟨h.1, h.2.1, h.2.2, rfl⟩))))
theorem P0.ze {p : Nat} {L c i m : Int} (h : L = 0 ∧ 1 ≤ c ∧ (i = 0 ∨ m = 0)) : P0 p L c i m (Tm0ze p) := .inr (.inr (.inr (.inr (.inr (.inl ⟨h.1, h.2.1, rfl, h.2.2⟩)))))
theorem P0.zem {p : Nat} {L c i m : Int} (h : L = 0 ∧ 1 ≤ c ∧ 1 ≤ m) : P0 p L c i m (Tm0zem p) := .inr (.inr (.inr (.inr (.inr (.inr ⟨h.1, h.2.1, h.2.2, rfl⟩)))))
theorem round0 {p : Nat} (hp : p < 2) {L c i m n u v w r d y f s k : Int} (q : Ct m u v r d y f s k) (hL : 0 ≤ L ∧ L ≤ 30) (hc : 0 ≤ c ∧ c ≤ 30) (hi : (0 : Int) ≤ i ∧ i ≤ 59) (hn : (0 : Int) ≤ n ∧ n ≤ 60) (hw : (0 : Int) ≤ w ∧ w ≤ 59) (r0 : p = 0 → i < y) {t : Tm} (ht : P0 p L c i m t) {ρ : Rho} {a : Act} {W : World} {R : Exit → Act → World → Prop} (h : t.At W0 (vl L c i m n u v w r d y f s k) ρ a W)
    (hR : ∀ ρ' a' W' t' c' n', P0 p L c' (1 + i) m t' → t'.At W0 (vl L c' (1 + i) m n' u v w r d y f s k) ρ' a' W' → NextOk L c c' n n' → R .normal a' W') : (bodyOf 4 1).wp Tryz.prog R a W := by
  have qm := q.m
  rcases ht with ⟨h1, h2, rfl | rfl⟩ | ⟨h1, h2, rfl, h3⟩ | ⟨h1, h2, h3, h4, rfl⟩ | ⟨h1, h2, ⟨rfl, h3⟩ | rfl, h4⟩ | ⟨h1, h2, h3, rfl⟩ | ⟨h1, h2, rfl, h3⟩ | ⟨h1, h2, h3, rfl⟩
  · rcases (show 2 ≤ L ∨ L = 1 by omega) with hl | hl
    · exact TlAF_ok p hp L c i m n u v w r d y f s k (by omega) (by omega) (by omega) (q.co hi hn) r0 (by omega) h (fun ρ' a' W' h' => hR ρ' a' W' _ 1 (1 + n) (P0.e (by omega)) h' (by unfold NextOk; omega))
    · rcases (show 1 ≤ m ∨ m = 0 by omega) with hm | hm
      · exact TlAE_ok p hp L c i m n u v w r d y f s k (by omega) (by omega) (by omega) (by omega) (q.co hi hn) r0 (by omega) h (fun ρ' a' W' h' => hR ρ' a' W' _ 1 (1 + n) (P0.em (by omega)) h' (by unfold NextOk; omega))
      · subst hm
        exact TlAoE_ok p hp L c i 0 n u v w r d y f s k (by omega) (by omega) (by omega) (q.co hi hn) r0 (by omega) (toO (o_a p hp) h) (fun ρ' a' W' h' => hR ρ' a' W' _ 1 (1 + n) (P0.e (by omega)) (ofO (o_e p hp) h') (by unfold NextOk; omega))
  · rcases (show 2 ≤ L ∨ L = 1 by omega) with hl | hl
    · exact TlAbF_ok p hp L c i m n u v w r d y f s k (by omega) (by omega) (by omega) (q.co hi hn) r0 (by omega) h (fun ρ' a' W' h' => hR ρ' a' W' _ 1 (1 + n) (P0.e (by omega)) h' (by unfold NextOk; omega))
    · rcases (show 1 ≤ m ∨ m = 0 by omega) with hm | hm
      · exact TlAbE_ok p hp L c i m n u v w r d y f s k (by omega) (by omega) (by omega) (by omega) (q.co hi hn) r0 (by omega) h (fun ρ' a' W' h' => hR ρ' a' W' _ 1 (1 + n) (P0.em (by omega)) h' (by unfold NextOk; omega))
      · subst hm
        exact TlAboE_ok p hp L c i 0 n u v w r d y f s k (by omega) (by omega) (by omega) (q.co hi hn) r0 (by omega) (toO (o_b p hp) h) (fun ρ' a' W' h' => hR ρ' a' W' _ 1 (1 + n) (P0.e (by omega)) (ofO (o_e p hp) h') (by unfold NextOk; omega))
  · rcases (show c + 1 < L ∨ c + 1 = L ∨ L ≤ c by omega) with hl | hl | hl
    · exact TlAW_ok p hp L c i m n u v w r d y f s k (by omega) (by omega) (by omega) (q.co hi hn) r0 (by omega) h (fun ρ' a' W' h' => hR ρ' a' W' _ (c + 1) (1 + n) (P0.e (by omega)) h' (by unfold NextOk; omega))
    · rcases (show 1 ≤ m ∨ m = 0 by omega) with hm | hm
      · exact TlAL_ok p hp L c i m n u v w r d y f s k (by omega) (by omega) (by omega) (by omega) (q.co hi hn) r0 (by omega) h (fun ρ' a' W' h' => hR ρ' a' W' _ L (1 + n) (P0.em (by omega)) h' (by unfold NextOk; omega))
      · subst hm
        exact TlAoL_ok p hp L c i 0 n u v w r d y f s k (by omega) (by omega) (by omega) (q.co hi hn) r0 (by omega) (toO (o_e p hp) h) (fun ρ' a' W' h' => hR ρ' a' W' _ L (1 + n) (P0.e (by omega)) (ofO (o_e p hp) h') (by unfold NextOk; omega))
    · rcases (show 1 ≤ m ∨ m = 0 by omega) with hm | hm
      · exact TlAO_ok p hp L c i m n u v w r d y f s k (by omega) (by omega) (by omega) (by omega) (q.co hi hn) r0 (by omega) h (fun ρ' a' W' h' => hR ρ' a' W' _ c n (P0.em (by omega)) h' (by unfold NextOk; omega))
      · subst hm
        exact TlAoO_ok p hp L c i 0 n u v w r d y f s k (by omega) (by omega) (by omega) (q.co hi hn) r0 (by omega) (toO (o_e p hp) h) (fun ρ' a' W' h' => hR ρ' a' W' _ c n (P0.e (by omega)) (ofO (o_e p hp) h') (by unfold NextOk; omega))
  · exact TlAmO_ok p hp L c i m n u v w r d y f s k (by omega) (by omega) (by omega) (by omega) (q.co hi hn) r0 (by omega) h (fun ρ' a' W' h' => hR ρ' a' W' _ c n (P0.em (by omega)) h' (by unfold NextOk; omega))
  · rcases (show 1 ≤ m ∨ m = 0 by omega) with hm | hm
    · exact TlAZ_ok p hp L c i m n u v w r d y f s k (by omega) (by omega) (by omega) (by omega) (q.co hi hn) r0 h (fun ρ' a' W' h' => hR ρ' a' W' _ c n (P0.zbm (by omega)) h' (by unfold NextOk; omega))
    · subst hm
      exact TlAoZ_ok p hp L c i 0 n u v w r d y f s k (by omega) (by omega) (by omega) (q.co hi hn) r0 (toO (o_za p hp) h) (fun ρ' a' W' h' => hR ρ' a' W' _ c n (P0.zb (by omega)) (ofO (o_zb p hp) h') (by unfold NextOk; omega))
  · rcases (show 1 ≤ m ∨ m = 0 by omega) with hm | hm
    · exact TlAbZ_ok p hp L c i m n u v w r d y f s k (by omega) (by omega) (by omega) (by omega) (q.co hi hn) r0 h (fun ρ' a' W' h' => hR ρ' a' W' _ c n (P0.zbm (by omega)) h' (by unfold NextOk; omega))
    · subst hm
      exact TlAboZ_ok p hp L c i 0 n u v w r d y f s k (by omega) (by omega) (by omega) (q.co hi hn) r0 (toO (o_zb p hp) h) (fun ρ' a' W' h' => hR ρ' a' W' _ c n (P0.zb (by omega)) (ofO (o_zb p hp) h') (by unfold NextOk; omega))
  · exact TlAbmZ_ok p hp L c i m n u v w r d y f s k (by omega) (by omega) (by omega) (by omega) (q.co hi hn) r0 h (fun ρ' a' W' h' => hR ρ' a' W' _ c n (P0.zbm (by omega)) h' (by unfold NextOk; omega))
  · rcases (show 1 ≤ m ∨ m = 0 by omega) with hm | hm
    · exact TlAeZ_ok p hp L c i m n u v w r d y f s k (by omega) (by omega) (by omega) (by omega) (q.co hi hn) r0 h (fun ρ' a' W' h' => hR ρ' a' W' _ c n (P0.zem (by omega)) h' (by unfold NextOk; omega))
    · subst hm
      exact TlAeoZ_ok p hp L c i 0 n u v w r d y f s k (by omega) (by omega) (by omega) (q.co hi hn) r0 (toO (o_ze p hp) h) (fun ρ' a' W' h' => hR ρ' a' W' _ c n (P0.ze (by omega)) (ofO (o_ze p hp) h') (by unfold NextOk; omega))
  · exact TlAemZ_ok p hp L c i m n u v w r d y f s k (by omega) (by omega) (by omega) (by omega) (q.co hi hn) r0 h (fun ρ' a' W' h' => hR ρ' a' W' _ c n (P0.zem (by omega)) h' (by unfold NextOk; omega))
inductive P1 (p : Nat) (L c i m : Int) : Tm → Prop
  | dk (h : 1 ≤ L ∧ c = 0 ∧ 1 ≤ m) : P1 p L c i m (Tm1dk p)
  | do_ (h : 1 ≤ L ∧ c = 0 ∧ m = 0) : P1 p L c i m (Tm1do p)
  | ek (h : 1 ≤ L ∧ 1 ≤ c ∧ c < L ∧ 1 ≤ m) : P1 p L c i m (Tm1ek p)
  | eo (h : 1 ≤ L ∧ 1 ≤ c ∧ m = 0) : P1 p L c i m (Tm1eo p)
  | em (h : 1 ≤ L ∧ 1 ≤ c ∧ L ≤ c ∧ m = 1) : P1 p L c i m (Tm1em p)
  | ekm (h : 1 ≤ L ∧ 1 ≤ c ∧ L ≤ c ∧ m = 2) : P1 p L c i m (Tm1ekm p)
  | zbk (h : L = 0 ∧ c = 0 ∧ 1 ≤ m) : P1 p L c i m (Tm1zbk p)
  | zbo (h : L = 0 ∧ c = 0 ∧ m = 0) : P1 p L c i m (Tm1zbo p)
  | zbm (h : L = 0 ∧ c = 0 ∧ m = 1) : P1 p L c i m (Tm1zbm p)
  | zbkm (h : L = 0 ∧ c = 0 ∧ m = 2) : P1 p L c i m (Tm1zbkm p)
  | zdk (h : L = 0 ∧ c = 0 ∧ 1 ≤ m) : P1 p L c i m (Tm1zdk p)
  | zdo (h : L = 0 ∧ c = 0 ∧ m = 0) : P1 p L c i m (Tm1zdo p)
  | zdm (h : L = 0 ∧ c = 0 ∧ m = 1) : P1 p L c i m (Tm1zdm p)
  | zdkm (h : L = 0 ∧ c = 0 ∧ m = 2) : P1 p L c i m (Tm1zdkm p)
theorem P1.f {p : Nat} {L c i m : Int} {t : Tm} (h : P1 p L c i m t) : t = ⟨133, tp p, 26, t.h0⟩ := by cases h <;> rfl
theorem round1 {p : Nat} (hp : p = 2) {L c i m n u v w r d y f s k : Int} (q : Ct m u v r d y f s k) (hL : 0 ≤ L ∧ L ≤ 30) (hc : 0 ≤ c ∧ c ≤ 30) (hi : (0 : Int) ≤ i ∧ i ≤ 59) (hn : (0 : Int) ≤ n ∧ n ≤ 60) (hw : (60 : Int) ≤ w ∧ w ≤ 110) {t : Tm} (ht : P1 p L c i m t) {ρ : Rho} {a : Act} {W : World} {R : Exit → Act → World → Prop} (h : t.At W0 (vl L c i m n u v w r d y f s k) ρ a W)
    (hR : ∀ ρ' a' W' t' c' n', P1 p L c' (1 + i) m t' → t'.At W0 (vl L c' (1 + i) m n' u v w r d y f s k) ρ' a' W' → NextOk L c c' n n' → R .normal a' W') : (bodyOf 4 1).wp Tryz.prog R a W := by
  have qm := q.m
  cases ht with
  | dk h1 =>
    rcases (show 2 ≤ L ∨ L = 1 by omega) with hl | hl
    · exact TlCF_ok p hp L c i m n u v w r d y f s k (by omega) (by omega) (by omega) (q.co hi hn) (by omega) h (fun ρ' a' W' h' => hR ρ' a' W' _ 1 (1 + n) (P1.ek (by omega)) h' (by unfold NextOk; omega))
    · rcases (show m = 1 ∨ m = 2 by omega) with hm | hm
      · exact TlCxE_ok p hp L c i m n u v w r d y f s k (by omega) (by omega) (by omega) (by omega) (q.co hi hn) (by omega) h (fun ρ' a' W' h' => hR ρ' a' W' _ 1 (1 + n) (P1.em (by omega)) h' (by unfold NextOk; omega))
      · exact TlCyE_ok p hp L c i m n u v w r d y f s k (by omega) (by omega) (by omega) (by omega) (q.co hi hn) (by omega) h (fun ρ' a' W' h' => hR ρ' a' W' _ 1 (1 + n) (P1.ekm (by omega)) h' (by unfold NextOk; omega))
  | do_ h1 =>
    rcases (show 2 ≤ L ∨ L = 1 by omega) with hl | hl
    · exact TlCoF_ok p hp L c i m n u v w r d y f s k (by omega) (by omega) (by omega) (q.co hi hn) (by omega) h (fun ρ' a' W' h' => hR ρ' a' W' _ 1 (1 + n) (P1.eo (by omega)) h' (by unfold NextOk; omega))
    · exact TlCoE_ok p hp L c i m n u v w r d y f s k (by omega) (by omega) (by omega) (q.co hi hn) (by omega) h (fun ρ' a' W' h' => hR ρ' a' W' _ 1 (1 + n) (P1.eo (by omega)) h' (by unfold NextOk; omega))
  | ek h1 =>
    rcases (show c + 1 < L ∨ c + 1 = L by omega) with hl | hl
    · exact TlCW_ok p hp L c i m n u v w r d y f s k (by omega) (by omega) (by omega) (q.co hi hn) (by omega) h (fun ρ' a' W' h' => hR ρ' a' W' _ (c + 1) (1 + n) (P1.ek (by omega)) h' (by unfold NextOk; omega))
    · rcases (show m = 1 ∨ m = 2 by omega) with hm | hm
      · exact TlCxL_ok p hp L c i m n u v w r d y f s k (by omega) (by omega) (by omega) (by omega) (q.co hi hn) (by omega) h (fun ρ' a' W' h' => hR ρ' a' W' _ L (1 + n) (P1.em (by omega)) h' (by unfold NextOk; omega))
      · exact TlCyL_ok p hp L c i m n u v w r d y f s k (by omega) (by omega) (by omega) (by omega) (q.co hi hn) (by omega) h (fun ρ' a' W' h' => hR ρ' a' W' _ L (1 + n) (P1.ekm (by omega)) h' (by unfold NextOk; omega))
  | eo h1 =>
    rcases (show c + 1 < L ∨ c + 1 = L ∨ L ≤ c by omega) with hl | hl | hl
    · exact TlCoW_ok p hp L c i m n u v w r d y f s k (by omega) (by omega) (by omega) (q.co hi hn) (by omega) h (fun ρ' a' W' h' => hR ρ' a' W' _ (c + 1) (1 + n) (P1.eo (by omega)) h' (by unfold NextOk; omega))
    · exact TlCoL_ok p hp L c i m n u v w r d y f s k (by omega) (by omega) (by omega) (q.co hi hn) (by omega) h (fun ρ' a' W' h' => hR ρ' a' W' _ L (1 + n) (P1.eo (by omega)) h' (by unfold NextOk; omega))
    · exact TlCoO_ok p hp L c i m n u v w r d y f s k (by omega) (by omega) (by omega) (q.co hi hn) (by omega) h (fun ρ' a' W' h' => hR ρ' a' W' _ c n (P1.eo (by omega)) h' (by unfold NextOk; omega))
  | em h1 =>
    exact TlCmO_ok p hp L c i m n u v w r d y f s k (by omega) (by omega) (by omega) (by omega) (q.co hi hn) (by omega) h (fun ρ' a' W' h' => hR ρ' a' W' _ c n (P1.em (by omega)) h' (by unfold NextOk; omega))
  | ekm h1 =>
    exact TlCkO_ok p hp L c i m n u v w r d y f s k (by omega) (by omega) (by omega) (by omega) (q.co hi hn) (by omega) h (fun ρ' a' W' h' => hR ρ' a' W' _ c n (P1.ekm (by omega)) h' (by unfold NextOk; omega))
  | zbk h1 =>
    rcases (show m = 1 ∨ m = 2 by omega) with hm | hm
    · exact TlCxZ_ok p hp L c i m n u v w r d y f s k (by omega) (by omega) (by omega) (by omega) (q.co hi hn) h (fun ρ' a' W' h' => hR ρ' a' W' _ c n (P1.zbm (by omega)) h' (by unfold NextOk; omega))
    · exact TlCyZ_ok p hp L c i m n u v w r d y f s k (by omega) (by omega) (by omega) (by omega) (q.co hi hn) h (fun ρ' a' W' h' => hR ρ' a' W' _ c n (P1.zbkm (by omega)) h' (by unfold NextOk; omega))
  | zbo h1 =>
    exact TlCoZ_ok p hp L c i m n u v w r d y f s k (by omega) (by omega) (by omega) (q.co hi hn) h (fun ρ' a' W' h' => hR ρ' a' W' _ c n (P1.zbo (by omega)) h' (by unfold NextOk; omega))
  | zbm h1 =>
    exact TlCmZ_ok p hp L c i m n u v w r d y f s k (by omega) (by omega) (by omega) (by omega) (q.co hi hn) h (fun ρ' a' W' h' => hR ρ' a' W' _ c n (P1.zbm (by omega)) h' (by unfold NextOk; omega))
  | zbkm h1 =>
    exact TlCkZ_ok p hp L c i m n u v w r d y f s k (by omega) (by omega) (by omega) (by omega) (q.co hi hn) h (fun ρ' a' W' h' => hR ρ' a' W' _ c n (P1.zbkm (by omega)) h' (by unfold NextOk; omega))
  | zdk h1 =>
    rcases (show m = 1 ∨ m = 2 by omega) with hm | hm
    · exact TlCdxZ_ok p hp L c i m n u v w r d y f s k (by omega) (by omega) (by omega) (by omega) (q.co hi hn) h (fun ρ' a' W' h' => hR ρ' a' W' _ c n (P1.zdm (by omega)) h' (by unfold NextOk; omega))
    · exact TlCdyZ_ok p hp L c i m n u v w r d y f s k (by omega) (by omega) (by omega) (by omega) (q.co hi hn) h (fun ρ' a' W' h' => hR ρ' a' W' _ c n (P1.zdkm (by omega)) h' (by unfold NextOk; omega))
  | zdo h1 =>
    exact TlCdoZ_ok p hp L c i m n u v w r d y f s k (by omega) (by omega) (by omega) (q.co hi hn) h (fun ρ' a' W' h' => hR ρ' a' W' _ c n (P1.zdo (by omega)) h' (by unfold NextOk; omega))
  | zdm h1 =>
    exact TlCdmZ_ok p hp L c i m n u v w r d y f s k (by omega) (by omega) (by omega) (by omega) (q.co hi hn) h (fun ρ' a' W' h' => hR ρ' a' W' _ c n (P1.zdm (by omega)) h' (by unfold NextOk; omega))
  | zdkm h1 =>
    exact TlCdkZ_ok p hp L c i m n u v w r d y f s k (by omega) (by omega) (by omega) (by omega) (q.co hi hn) h (fun ρ' a' W' h' => hR ρ' a' W' _ c n (P1.zdkm (by omega)) h' (by unfold NextOk; omega))
end
end Go.Proofs.YtnpkeganpkobjaaGreatDoor.Ev
