import Derived.Test.YtnpkeganpkobjaaGreatDoorXI
import Derived.WalkKit
import Derived.WalkSpells
import Derived.WalkLawsBesides
set_option linter.all false
namespace Go.Proofs.YtnpkeganpkobjaaGreatDoor.Ev
open Go Go.RowKit
noncomputable section
def nmEq : Nm → Nm → Bool
  | .c a, .c b => decide (a = b)
  | .s i, .s j => Nat.beq i j
  | _, _ => false
theorem nmEq_sound {a b : Nm} (h : nmEq a b = true) : a = b := by
  cases a <;> cases b <;> simp only [nmEq] at h <;> try (cases h; done)
  · simp only [decide_eq_true_eq] at h; rw [h]
  · rw [Nat.beq_eq] at h; rw [h]
def opN : BinOp → Nat
  | .add => 0 | .sub => 1 | .mul => 2 | .quo => 3 | .rem => 4 | .and => 5 | .or => 6 | .xor => 7 | .andNot => 8 | .shl => 9 | .shr => 10
  | .eql => 11 | .neq => 12 | .lss => 13 | .leq => 14 | .gtr => 15 | .geq => 16
theorem opN_inj {a b : BinOp} (h : Nat.beq (opN a) (opN b) = true) : a = b := by
  rw [Nat.beq_eq] at h
  cases a <;> cases b <;> first | rfl | (simp [opN] at h)
structure FAr where
  op : BinOp
  k : IntKind
  a : Nm
  b : Nm
  r : Nm
structure FCm where
  a : Nm
  b : Nm
  r : Bool
structure FFb where
  op : BinOp
  a : Nm
  b : Nm
  r : V
structure FF1 where
  a : Nm
  r : V
def lookAr : List FAr → BinOp → IntKind → Nm → Nm → Option Nm
  | [], _, _, _, _ => none
  | e :: l, op, k, a, b => match Nat.beq (opN e.op) (opN op) && decide (e.k = k) && nmEq e.a a && nmEq e.b b with
    | true => some e.r
    | false => lookAr l op k a b
def lookCm : List FCm → Nm → Nm → Option Bool
  | [], _, _ => none
  | e :: l, a, b => match nmEq e.a a && nmEq e.b b with | true => some e.r | false => lookCm l a b
def lookFb : List FFb → BinOp → Nm → Nm → Option V
  | [], _, _, _ => none
  | e :: l, op, a, b => match Nat.beq (opN e.op) (opN op) && nmEq e.a a && nmEq e.b b with | true => some e.r | false => lookFb l op a b
def lookF1 : List FF1 → Nm → Option V
  | [], _ => none
  | e :: l, a => match nmEq e.a a with | true => some e.r | false => lookF1 l a
def lookG : List (Int × Int) → Nat → Int × Int
  | [], _ => (0, 0)
  | b :: l, i => match i with | 0 => b | i + 1 => lookG l i
structure Facts where
  g : List (Int × Int)
  ar : List FAr
  lt : List FCm
  eq : List FCm
  fb : List FFb
  fc : List FF1
  fi : List FF1
  fn : List FF1
def Facts.sg (F : Facts) : Sg := ⟨lookG F.g, lookAr F.ar, lookCm F.lt, lookCm F.eq, lookFb F.fb, lookF1 F.fc, fun k a => match decide (k = .i64) with | true => lookF1 F.fi a | false => none, lookF1 F.fn⟩
def sgl (l : List Int) (i : Nat) : Int := match lget l i with | some n => n | none => 0
theorem look_g : ∀ (g : List (Int × Int)) (l : List Int), g.length = l.length → (∀ (i : Nat) (b : Int × Int) (n : Int), g[i]? = some b → l[i]? = some n → b.1 ≤ n ∧ n ≤ b.2) → Gok (lookG g) (sgl l) := by
  intro g
  induction g with
  | nil => intro l hl _ i; cases l with
    | nil => exact ⟨by simp [lookG, sgl, lget], by simp [lookG, sgl, lget]⟩
    | cons n l => simp at hl
  | cons b g ih =>
    intro l hl h i
    cases l with
    | nil => simp at hl
    | cons n l =>
      cases i with
      | zero => exact h 0 b n (by simp) (by simp)
      | succ i => exact ih l (by simpa using hl) (fun i b n h1 h2 => h (i + 1) b n (by simpa using h1) (by simpa using h2)) i
def Gs : List (Int × Int) → List Int → Prop
  | [], [] => True
  | b :: g, n :: l => (b.1 ≤ n ∧ n ≤ b.2) ∧ Gs g l
  | _, _ => False
theorem Gs.ok : ∀ {g : List (Int × Int)} {l : List Int}, Gs g l → Gok (lookG g) (sgl l) := by
  intro g
  induction g with
  | nil => intro l h; cases l with
    | nil => exact look_g [] [] rfl (fun i b n h => by simp at h)
    | cons n l => exact h.elim
  | cons b g ih =>
    intro l h i
    cases l with
    | nil => exact h.elim
    | cons n l =>
      obtain ⟨h1, h2⟩ := h
      cases i with
      | zero => exact h1
      | succ i => exact ih h2 i
def FAr.Ok (σ : Nat → Int) (e : FAr) : Prop := match isSh e.op with
  | true => decide (e.b.val σ < 0) = false ∧ shI e.op e.k (e.a.val σ) (e.b.val σ).toNat = some (.int e.k (e.r.val σ))
  | false => binI e.op e.k (e.a.val σ) (e.b.val σ) = some (.int e.k (e.r.val σ))
structure Facts.Ok (F : Facts) (l : List Int) : Prop where
  g : Gs F.g l
  ar : ∀ e ∈ F.ar, e.Ok (sgl l)
  lt : ∀ e ∈ F.lt, decide (e.a.val (sgl l) < e.b.val (sgl l)) = e.r
  eq : ∀ e ∈ F.eq, decide (e.a.val (sgl l) = e.b.val (sgl l)) = e.r
  fb : ∀ e ∈ F.fb, binF e.op (e.a.val (sgl l)).toNat (.flt (e.b.val (sgl l)).toNat) = some (conc (sgl l) e.r)
  fc : ∀ e ∈ F.fc, conc (sgl l) e.r = .flt (FloatKind.f64.nearest (e.a.val (sgl l)))
  fi : ∀ e ∈ F.fi, convF (.int .i64) (e.a.val (sgl l)).toNat = some (conc (sgl l) e.r)
  fn : ∀ e ∈ F.fn, conc (sgl l) e.r = .flt (Op.negFloat .f64 (e.a.val (sgl l)).toNat)
theorem lookAr_mem {op : BinOp} {k : IntKind} {a b r : Nm} : ∀ {l : List FAr}, lookAr l op k a b = some r → (⟨op, k, a, b, r⟩ : FAr) ∈ l := by
  intro l
  induction l with
  | nil => intro h; cases h
  | cons e l ih =>
    intro h
    simp only [lookAr] at h
    split at h
    · rename_i hc
      simp only [Bool.and_eq_true, decide_eq_true_eq] at hc
      obtain ⟨⟨⟨h1, h2⟩, h3⟩, h4⟩ := hc
      cases h
      have e1 := opN_inj h1
      have e3 := nmEq_sound h3
      have e4 := nmEq_sound h4
      cases e; simp only at e1 h2 e3 e4; subst e1; subst h2; subst e3; subst e4; simp
    · simp [ih h]
theorem lookCm_mem {a b : Nm} {r : Bool} : ∀ {l : List FCm}, lookCm l a b = some r → (⟨a, b, r⟩ : FCm) ∈ l := by
  intro l
  induction l with
  | nil => intro h; cases h
  | cons e l ih =>
    intro h
    simp only [lookCm] at h
    split at h
    · rename_i hc
      simp only [Bool.and_eq_true] at hc
      cases h
      have e3 := nmEq_sound hc.1
      have e4 := nmEq_sound hc.2
      cases e; simp only at e3 e4; subst e3; subst e4; simp
    · simp [ih h]
theorem lookFb_mem {op : BinOp} {a b : Nm} {r : V} : ∀ {l : List FFb}, lookFb l op a b = some r → (⟨op, a, b, r⟩ : FFb) ∈ l := by
  intro l
  induction l with
  | nil => intro h; cases h
  | cons e l ih =>
    intro h
    simp only [lookFb] at h
    split at h
    · rename_i hc
      simp only [Bool.and_eq_true] at hc
      obtain ⟨⟨h1, h3⟩, h4⟩ := hc
      cases h
      have e1 := opN_inj h1
      have e3 := nmEq_sound h3
      have e4 := nmEq_sound h4
      cases e; simp only at e1 e3 e4; subst e1; subst e3; subst e4; simp
    · simp [ih h]
theorem lookF1_mem {a : Nm} {r : V} : ∀ {l : List FF1}, lookF1 l a = some r → (⟨a, r⟩ : FF1) ∈ l := by
  intro l
  induction l with
  | nil => intro h; cases h
  | cons e l ih =>
    intro h
    simp only [lookF1] at h
    split at h
    · rename_i hc
      cases h
      have e3 := nmEq_sound hc
      cases e; simp only at e3; subst e3; simp
    · simp [ih h]
theorem Facts.sgOk {F : Facts} {l : List Int} (h : F.Ok l) : SgOk F.sg (sgl l) where
  bounds := h.g.ok
  facts := {
    ar := fun op k a b r hr => (by have := h.ar _ (lookAr_mem hr); exact this)
    lt := fun a b c hr => h.lt _ (lookCm_mem hr)
    eq := fun a b c hr => h.eq _ (lookCm_mem hr)
    fb := fun op a b v hr => h.fb _ (lookFb_mem hr)
    fc := fun a v hr => h.fc _ (lookF1_mem hr)
    fi := fun k a v hr => (by
      have hr : (match decide (k = IntKind.i64) with | true => lookF1 F.fi a | false => none) = some v := hr
      split at hr
      · rename_i hk; simp only [decide_eq_true_eq] at hk; subst hk; exact h.fi _ (lookF1_mem hr)
      · cases hr)
    fn := fun a v hr => h.fn _ (lookF1_mem hr) }
theorem far_add {σ : Nat → Int} {a b r : Nm} (h : r.val σ = a.val σ + b.val σ) (h1 : -9223372036854775808 ≤ r.val σ) (h2 : r.val σ ≤ 9223372036854775807) : FAr.Ok σ ⟨.add, .i64, a, b, r⟩ := by
  show some (V.int .i64 (wrapK .i64 (a.val σ + b.val σ))) = _
  rw [wrapK_eq, ← h]
  congr 2
  simp [IntKind.wrap, IntKind.bits, IntKind.signed]; omega
theorem far_sub {σ : Nat → Int} {a b r : Nm} (h : r.val σ = a.val σ - b.val σ) (h1 : -9223372036854775808 ≤ r.val σ) (h2 : r.val σ ≤ 9223372036854775807) : FAr.Ok σ ⟨.sub, .i64, a, b, r⟩ := by
  show some (V.int .i64 (wrapK .i64 (a.val σ - b.val σ))) = _
  rw [wrapK_eq, ← h]
  congr 2
  simp [IntKind.wrap, IntKind.bits, IntKind.signed]; omega
theorem far_mul {σ : Nat → Int} {a b r : Nm} (h : r.val σ = a.val σ * b.val σ) (h1 : -9223372036854775808 ≤ r.val σ) (h2 : r.val σ ≤ 9223372036854775807) : FAr.Ok σ ⟨.mul, .i64, a, b, r⟩ := by
  show some (V.int .i64 (wrapK .i64 (a.val σ * b.val σ))) = _
  rw [wrapK_eq, ← h]
  congr 2
  simp [IntKind.wrap, IntKind.bits, IntKind.signed]; omega
def places : Nat → Nat → F → F
  | 0, _, f => f
  | n + 1, k, f => places n (k + 1) (T.add 40 f k (some .any))
def lay : List (Nat × V) → F → F
  | [], f => f
  | x :: l, f => lay l (f.set x.1 (some x.2))
def fr (n : Nat) (l : List (Nat × V)) : F := lay l (places n 0 .e)
theorem places_get : ∀ (n k : Nat) (f : F) (t : Nat) (v : V), (places n k f).get t = some v → f.get t = some v ∨ (k ≤ t ∧ t < k + n ∧ v = .any) := by
  intro n
  induction n with
  | zero => intro k f t v h; exact .inl h
  | succ n ih =>
    intro k f t v h
    simp only [places] at h
    rcases ih _ _ _ _ h with h | ⟨h1, h2, h3⟩
    · rcases T.get_add 40 f k (some .any) t with e | ⟨e1, e2⟩
      · rw [e] at h; exact .inl h
      · subst e1; rw [e2] at h; cases h; exact .inr ⟨Nat.le_refl _, by omega, rfl⟩
    · exact .inr ⟨by omega, by omega, h3⟩
theorem lay_get : ∀ (l : List (Nat × V)) (f : F) (t : Nat) (v : V), (lay l f).get t = some v → (f.get t).isSome ∧ (f.get t = some v ∨ (t, v) ∈ l) := by
  intro l
  induction l with
  | nil => intro f t v h; have h : f.get t = some v := h; exact ⟨by rw [h]; rfl, .inl h⟩
  | cons x l ih =>
    intro f t v h
    simp only [lay] at h
    obtain ⟨h1, h2⟩ := ih _ _ _ h
    obtain ⟨w, hw⟩ := Option.isSome_iff_exists.1 h1
    by_cases e : t = x.1
    · subst e
      refine ⟨T.get_set_dom _ _ _ _ hw, ?_⟩
      rcases h2 with h2 | h2
      · have := T.get_set _ _ _ _ h2; cases this; exact .inr (by simp)
      · exact .inr (by simp [h2])
    · rw [T.get_set_ne _ _ _ _ e] at hw h2
      refine ⟨by rw [hw]; rfl, ?_⟩
      rcases h2 with h2 | h2
      · exact .inl h2
      · exact .inr (by simp [h2])
theorem fr_FR {σ : Nat → Int} {ρ : Rho} {n : Nat} {l : List (Nat × V)} {a : Act} (hn : n ≤ a.tmps.size) (hl : ∀ x ∈ l, VR σ ρ x.2 (a.tmps.getD x.1 Go.undef)) : FR σ ρ (fr n l) a := by
  intro t v h
  obtain ⟨h1, h2⟩ := lay_get _ _ _ _ h
  obtain ⟨w, hw⟩ := Option.isSome_iff_exists.1 h1
  have hlt : t < n := by
    rcases places_get _ _ _ _ _ hw with h3 | ⟨_, h3, _⟩
    · cases h3
    · omega
  refine ⟨by omega, ?_⟩
  rcases h2 with h2 | h2
  · rcases places_get _ _ _ _ _ h2 with h3 | ⟨_, _, rfl⟩
    · cases h3
    · simp only [VR]
  · exact hl (t, v) h2
structure Pc where
  n : Nat
  f0 : List (Nat × V)
  n0 : Nat
  h0 : List (Nat × B)
  o : Out
  f1 : List (Nat × V)
  n1 : Nat
  h1 : List (Nat × B)
def outEq : Out → Out → Bool
  | .norm, .norm => true
  | .ret, .ret => true
  | .exit i, .exit j => Nat.beq i j
  | _, _ => false
theorem outEq_sound {a b : Out} (h : outEq a b = true) : a = b := by
  cases a <;> cases b <;> simp only [outEq] at h <;> first | rfl | (cases h; done) | (rw [Nat.beq_eq] at h; rw [h])
def tmpsAre (f : F) : List (Nat × V) → Bool
  | [] => true
  | x :: l => match f.get x.1 with | some v => vEq v x.2 && tmpsAre f l | none => false
theorem tmpsAre_get {f : F} : ∀ {l : List (Nat × V)}, tmpsAre f l = true → ∀ x ∈ l, f.get x.1 = some x.2 := by
  intro l
  induction l with
  | nil => intro _ x hx; simp at hx
  | cons y l ih =>
    intro h x hx
    simp only [tmpsAre] at h
    split at h
    · rename_i v hv
      simp only [Bool.and_eq_true] at h
      simp only [List.mem_cons] at hx
      rcases hx with rfl | hx
      · rw [hv, vEq_sound _ _ h.1]
      · exact ih h.2 x hx
    · cases h
def pcOk (e : Pc) : Got → Bool
  | some (o, f, s) => outEq o e.o && tmpsAre f e.f1 && Nat.beq s.next e.n1 && has s.heap e.h1 && (f.get (e.n - 1)).isSome && Nat.blt 0 e.n
  | none => false
def Pc.Post (σ : Nat → Int) (e : Pc) (ρ : Rho) (W : World) (ρ' : Rho) (s1 : St) (W' : World) (a' : Act) : Prop :=
  Stp σ ρ (mkSt e.h0 e.n0) W ρ' s1 W' ∧ s1.next = e.n1 ∧ (∀ x ∈ e.h1, s1.heap.get x.1 = some x.2) ∧ (∀ x ∈ e.f1, VR σ ρ' x.2 (a'.tmps.getD x.1 Go.undef)) ∧ e.n ≤ a'.tmps.size
theorem pc_wp {E : Env} {σ : Nat → Int} {call : Call} {D : List Deferred} (hE : EnvOk E σ) (hc : CallOk E σ call) {c : Code} {e : Pc} {k : Nat} (h : pcOk e (exec E call k c (fr e.n e.f0) (mkSt e.h0 e.n0)) = true) {ρ : Rho} {W : World} {a : Act} {Q : Exit → Act → World → Prop}
    (hs : Sim σ ρ (mkSt e.h0 e.n0) W) (hn : e.n ≤ a.tmps.size) (hf : ∀ x ∈ e.f0, VR σ ρ x.2 (a.tmps.getD x.1 Go.undef)) (hd : DOK E D a.defers)
    (hQ : ∀ ρ' s1 W' a', e.Post σ ρ W ρ' s1 W' a' → DOK E D a'.defers → Q (toExit e.o) a' W') : c.wp E.P Q a W := by
  cases hx : exec E call k c (fr e.n e.f0) (mkSt e.h0 e.n0) with
  | none => rw [hx] at h; cases h
  | some r =>
    rw [hx] at h
    obtain ⟨o, f', s1⟩ := r
    simp only [pcOk, Bool.and_eq_true, Nat.beq_eq] at h
    obtain ⟨⟨⟨⟨⟨h1, h2⟩, h3⟩, h4⟩, h5⟩, h6⟩ := h
    have h1 := outEq_sound h1
    rw [Nat.blt_eq] at h6
    obtain ⟨w, hw⟩ := Option.isSome_iff_exists.1 h5
    subst h1
    refine (exec_wp hE hc k c _ _ _ _ _ hx ρ W a Q hs (fr_FR hn hf) hd ?_).1
    intro ρ' W' a' k1 k2 k3
    exact hQ ρ' s1 W' a' ⟨k1, h3, has_sound h4, fun x hx => (k2 x.1 x.2 (tmpsAre_get h2 x hx)).2, by have := (k2 _ _ hw).1; omega⟩ k3
def hold (a : Int) : Int := if a < 0 then 0 else if 4611686018427387904 < a then 4611686018427387904 else a
theorem hold_in (a : Int) : 0 ≤ hold a ∧ hold a ≤ 4611686018427387904 := by unfold hold; split <;> (try split) <;> omega
structure Apart (p : Prop) : Prop where
  out : p
theorem hold_calls (a : Int) (w : World) : Calls Tryz.prog 54 #[.int .i64 a] w fun e w' => e = .returned (.int .i64 (hold a)) ∧ w = w' := by
  unfold hold
  by_cases c : a < 0
  · rw [if_pos c]
    go_enter Tryz.func54, Tryz.ntmps54
    go_wp2_with fail
    go_ret
    exact ⟨rfl, rfl⟩
  · rw [if_neg c]
    by_cases c2 : 4611686018427387904 < a
    · rw [if_pos c2]
      go_enter Tryz.func54, Tryz.ntmps54
      go_wp2_with fail
      go_ret
      exact ⟨rfl, rfl⟩
    · rw [if_neg c2]
      go_enter Tryz.func54, Tryz.ntmps54
      go_wp2_with fail
      go_ret
      exact ⟨rfl, rfl⟩
def addH (a b : Int) : Int := if 4611686018427387904 - hold b < hold a then 4611686018427387904 else hold a + hold b
theorem add_calls (a b : Int) (w : World) : Calls Tryz.prog 32 #[.int .i64 a, .int .i64 b] w fun e w' => e = .returned (.int .i64 (addH a b)) ∧ w = w' := by
  have HA := Apart.mk (hold_calls a w)
  have HB := Apart.mk (hold_calls b w)
  have h1 := hold_in a
  have h2 := hold_in b
  unfold addH
  obtain ⟨x, hx⟩ : ∃ x, x = hold a := ⟨_, rfl⟩
  obtain ⟨y, hy⟩ : ∃ y, y = hold b := ⟨_, rfl⟩
  rw [← hx] at HA h1 ⊢
  rw [← hy] at HB h2 ⊢
  clear hx hy
  obtain ⟨h1, h1'⟩ := h1
  obtain ⟨h2, h2'⟩ := h2
  by_cases c : 4611686018427387904 - y < x
  all_goals
    first | rw [if_pos c] | rw [if_neg c]
    go_enter Tryz.func32, Tryz.ntmps32
    go_wp2_with fail
    refine HA.out.mono ?_
    rintro e w' ⟨rfl, rfl⟩
    go_wp2_with fail
    refine HB.out.mono ?_
    rintro e w' ⟨rfl, rfl⟩
    go_wp2_with fail
    go_ret
    exact ⟨rfl, rfl⟩
def numV : V → Bool
  | .int .i64 _ => true
  | .sint .i64 _ => true
  | .iany .i64 => true
  | _ => false
def addsH : Hook := fun f args s => match Nat.beq f 32 with
  | true => (match args with
    | [.iany .i64, v] => (match numV v with | true => some (some (.iany .i64, s)) | false => none)
    | _ => none)
  | false => none
theorem numV_VR {σ : Nat → Int} {ρ : Rho} {u : Value} : ∀ {v : V}, numV v = true → VR σ ρ v u → ∃ n, u = .int .i64 n
  | .int .i64 n, _, hv => ⟨n, by simpa [VR] using hv⟩
  | .sint .i64 i, _, hv => ⟨σ i, by simpa [VR] using hv⟩
  | .iany .i64, _, hv => by simpa [VR] using hv
theorem addsH_ok (g : Sg) (σ : Nat → Int) : HookOk (env g) σ addsH := by
  intro f args s r v s' h hr
  unfold addsH at h
  split at h
  · rename_i hf
    rw [Nat.beq_eq] at hf
    subst hf
    split at h
    · rename_i v2
      split at h
      · rename_i hn
        cases h
        cases hr
        intro ρ W us hs hus
        simp only [VRs] at hus
        obtain ⟨u1, r1, h1, ⟨u2, r2, h2, rfl, rfl⟩, rfl⟩ := hus
        obtain ⟨a, rfl⟩ : ∃ a, u1 = .int .i64 a := by simpa [VR] using h1
        obtain ⟨b, rfl⟩ := numV_VR hn h2
        refine ⟨call_body Tryz.func32 rfl _ _, (add_calls a b W).mono ?_⟩
        rintro e w' ⟨rfl, rfl⟩
        exact ⟨ρ, _, rfl, by simp [VR], Stp.refl hs⟩
      · cases h
    · cases h
  · cases h
theorem sgn_qf (σ : Nat → Int) : ∀ (Q : List Nm), sgn σ (qf Q) = sgl (Q.map (Nm.val σ)) := by
  intro Q
  funext i
  unfold sgn qf sgl
  rw [lget_eq, lget_eq, List.getElem?_map]
  cases Q[i]? <;> rfl
def idq (m i : Nat) : Nm := match Nat.blt i m with | true => .s i | false => .c 0
def renHs (q : Nat → Nm) : List (Nat × B) → Bool
  | [] => true
  | x :: l => bEq (renB id q x.2) x.2 && renHs q l
def onlyQ (m : Nat) (e : Sm) : Bool := vEqs (rens id (idq m) e.args) e.args && vEq (ren id (idq m) e.v) e.v && renHs (idq m) e.h0 && renHs (idq m) e.h1
theorem renHs_mem {q : Nat → Nm} : ∀ {l : List (Nat × B)}, renHs q l = true → ∀ x ∈ l, renB id q x.2 = x.2 := by
  intro l
  induction l with
  | nil => intro _ x hx; simp at hx
  | cons y l ih =>
    intro h x hx
    simp only [renHs, Bool.and_eq_true] at h
    simp only [List.mem_cons] at hx
    rcases hx with rfl | hx
    · exact bEq_sound h.1
    · exact ih h.2 x hx
theorem Sm.Ok.base {P : Program} {σ : Nat → Int} {e : Sm} (m : Nat) (h : e.Ok P σ) (ho : (onlyQ m e && has (mkH e.h1 .e) e.h1) = true) : e.Ok P (sgn σ (idq m)) := by
  rw [Bool.and_eq_true] at ho
  obtain ⟨ho, oh⟩ := ho
  simp only [onlyQ, Bool.and_eq_true] at ho
  obtain ⟨⟨⟨o1, o2⟩, o3⟩, o4⟩ := ho
  have o1 := vEqs_sound _ _ o1
  have o2 := vEq_sound _ _ o2
  have o3 := renHs_mem o3
  have o4 := renHs_mem o4
  obtain ⟨s1, e1, e2, e3⟩ := h
  refine ⟨⟨mkH e.h1 .e, e.n1, 0⟩, rfl, has_sound oh, fun ρ W us hs hus => ?_⟩
  have hs' : Sim σ ρ (mkSt e.h0 e.n0) W := by
    refine ⟨fun i b hb => ?_, hs.inj, hs.dom, hs.old⟩
    obtain ⟨bb, n, o, k1, k2, k3⟩ := hs.blk i b hb
    refine ⟨bb, n, o, k1, k2, ?_⟩
    have h9 : renB id (idq m) b = b := o3 _ (mkSt_get hb)
    rw [← h9]
    exact OR_ren.2 k3
  have hus' : VRs σ ρ e.args us := by
    rw [← o1]
    exact (VRs_ren _ _).2 hus
  obtain ⟨g1, g2⟩ := e3 ρ W us hs' hus'
  refine ⟨g1, g2.mono ?_⟩
  rintro x w' ⟨ρ', u, rfl, hv, k⟩
  have hget : ∀ i b, (mkH e.h1 .e).get i = some b → s1.heap.get i = some b ∧ renB id (idq m) b = b := by
    intro i b hb
    have := mkSt_get (l := e.h1) (n := e.n1) (show (mkSt e.h1 e.n1).heap.get i = some b from hb)
    exact ⟨e2 _ this, o4 _ this⟩
  have hlive : ∀ i, ((mkH e.h1 .e).get i).isSome → (s1.heap.get i).isSome := by
    intro i hi
    obtain ⟨b, hb⟩ := Option.isSome_iff_exists.1 hi
    rw [(hget i b hb).1]; rfl
  refine ⟨ρ', u, rfl, ?_, ⟨⟨fun i b hb => ?_, fun i j b n m hi hj => k.sim.inj i j b n m (hlive i hi) (hlive j hj), fun i hi => k.sim.dom i (by rw [e1]; exact hi), k.sim.old⟩, k.ext, by have := k.next; rw [e1] at this; exact this, k.size, k.frame, fun i b n hi => k.live i b n (hlive i hi), Nat.zero_le _, fun i _ hi => absurd hi (Nat.not_lt_zero _), k.os, k.tape, k.output⟩⟩
  · rw [← o2] at hv
    exact (VR_ren _ _).1 hv
  · obtain ⟨h1, h2⟩ := hget i b hb
    obtain ⟨bb, n, o, k1, k2, k3⟩ := k.sim.blk i b h1
    refine ⟨bb, n, o, k1, k2, ?_⟩
    rw [← h2] at k3
    exact OR_ren.1 k3
theorem sgn_idq (l : List Int) : ∀ (m : Nat), m ≤ l.length → sgn (sgl l) (idq m) = sgl (l.take m) := by
  intro m hm
  funext i
  unfold sgn idq sgl
  cases hi : Nat.blt i m with
  | true =>
    rw [Nat.blt_eq] at hi
    simp only [Nm.val]
    rw [lget_eq, lget_eq, List.getElem?_take, if_pos hi]
  | false =>
    have hi : ¬ i < m := by rw [← Nat.blt_eq, hi]; simp
    simp only [Nm.val]
    rw [lget_eq, List.getElem?_take, if_neg hi]
theorem far_quo {σ : Nat → Int} {k : IntKind} {a b r : Nm} (h0 : 0 ≤ a.val σ) (hb : 0 < b.val σ) (h : r.val σ = a.val σ / b.val σ) (hm : a.val σ ≤ k.max) (hk : 0 ≤ k.max) (hw : ∀ n, 0 ≤ n → n ≤ k.max → k.wrap n = n) : FAr.Ok σ ⟨.quo, k, a, b, r⟩ := by
  show (match decide (b.val σ = 0) with | true => none | false => some (V.int k (wrapK k ((a.val σ).tdiv (b.val σ))))) = _
  rw [show decide (b.val σ = 0) = false by simp; omega]
  simp only
  rw [wrapK_eq, Int.tdiv_eq_ediv_of_nonneg h0, ← h]
  have h1 : 0 ≤ r.val σ := by rw [h]; exact Int.ediv_nonneg h0 (by omega)
  have h2 : r.val σ ≤ a.val σ := by rw [h]; exact Int.ediv_le_self _ h0
  rw [hw _ h1 (by omega)]
theorem far_rem {σ : Nat → Int} {k : IntKind} {a b r : Nm} (h0 : 0 ≤ a.val σ) (hb : 0 < b.val σ) (h : r.val σ = a.val σ % b.val σ) : FAr.Ok σ ⟨.rem, k, a, b, r⟩ := by
  show (match decide (b.val σ = 0) with | true => none | false => some (V.int k ((a.val σ).tmod (b.val σ)))) = _
  rw [show decide (b.val σ = 0) = false by simp; omega]
  simp only
  rw [Int.tmod_eq_emod_of_nonneg h0, ← h]
theorem wrap_in (k : IntKind) (n : Int) (h1 : k.min ≤ n) (h2 : n ≤ k.max) : k.wrap n = n := by
  cases k <;> simp [IntKind.wrap, IntKind.min, IntKind.max, IntKind.bits, IntKind.signed] at h1 h2 ⊢ <;> omega
theorem fk_add {σ : Nat → Int} {k : IntKind} {a b r : Nm} (h : r.val σ = a.val σ + b.val σ) (h1 : k.min ≤ r.val σ) (h2 : r.val σ ≤ k.max) : FAr.Ok σ ⟨.add, k, a, b, r⟩ := by
  show some (V.int k (wrapK k (a.val σ + b.val σ))) = _
  rw [wrapK_eq, ← h, wrap_in k _ h1 h2]
theorem fk_sub {σ : Nat → Int} {k : IntKind} {a b r : Nm} (h : r.val σ = a.val σ - b.val σ) (h1 : k.min ≤ r.val σ) (h2 : r.val σ ≤ k.max) : FAr.Ok σ ⟨.sub, k, a, b, r⟩ := by
  show some (V.int k (wrapK k (a.val σ - b.val σ))) = _
  rw [wrapK_eq, ← h, wrap_in k _ h1 h2]
theorem fk_mul {σ : Nat → Int} {k : IntKind} {a b r : Nm} (h : r.val σ = a.val σ * b.val σ) (h1 : k.min ≤ r.val σ) (h2 : r.val σ ≤ k.max) : FAr.Ok σ ⟨.mul, k, a, b, r⟩ := by
  show some (V.int k (wrapK k (a.val σ * b.val σ))) = _
  rw [wrapK_eq, ← h, wrap_in k _ h1 h2]
theorem fk_quo {σ : Nat → Int} {k : IntKind} {a b r : Nm} (h0 : 0 ≤ a.val σ) (hb : 0 < b.val σ) (h : r.val σ = a.val σ / b.val σ) (h1 : k.min ≤ r.val σ) (h2 : r.val σ ≤ k.max) : FAr.Ok σ ⟨.quo, k, a, b, r⟩ := by
  show (match decide (b.val σ = 0) with | true => none | false => some (V.int k (wrapK k ((a.val σ).tdiv (b.val σ))))) = _
  rw [show decide (b.val σ = 0) = false by simp; omega]
  simp only
  rw [wrapK_eq, Int.tdiv_eq_ediv_of_nonneg h0, ← h, wrap_in k _ h1 h2]
theorem fk_rem {σ : Nat → Int} {k : IntKind} {a b r : Nm} (h0 : 0 ≤ a.val σ) (hb : 0 < b.val σ) (h : r.val σ = a.val σ % b.val σ) : FAr.Ok σ ⟨.rem, k, a, b, r⟩ := far_rem h0 hb h
theorem bits_low (a : Int) (h0 : 0 ≤ a) (h1 : a < 18446744073709551616) : (BitVec.ofInt 64 a).toNat = a.toNat := by
  rw [BitVec.toNat_ofInt]
  congr 1
  exact Int.emod_eq_of_lt h0 (by omega)
theorem fk_and127 {σ : Nat → Int} {a r : Nm} (h : r.val σ = a.val σ) (h0 : 0 ≤ a.val σ) (h1 : a.val σ ≤ 127) : FAr.Ok σ ⟨.and, .u8, a, .c 127, r⟩ := by
  show some (V.int .u8 (IntKind.u8.wrap ((BitVec.ofInt 8 (a.val σ) &&& BitVec.ofInt 8 127).toNat : Nat))) = _
  rw [h]
  obtain ⟨n, hn⟩ : ∃ n : Nat, a.val σ = (n : Int) := ⟨(a.val σ).toNat, by omega⟩
  rw [hn] at h1 ⊢
  have key : ∀ m : Fin 128, IntKind.u8.wrap ((BitVec.ofInt 8 (m.val : Int) &&& BitVec.ofInt 8 127).toNat : Nat) = (m.val : Int) := by decide
  rw [key ⟨n, by omega⟩]
theorem fk_shl0 {σ : Nat → Int} {k : IntKind} {a r : Nm} (h : r.val σ = a.val σ) (h1 : k.min ≤ a.val σ) (h2 : a.val σ ≤ k.max) : FAr.Ok σ ⟨.shl, k, a, .c 0, r⟩ := by
  refine ⟨by simp [Nm.val], ?_⟩
  show some (V.int k (k.wrap (a.val σ * 2 ^ (min (0 : Int).toNat k.bits)))) = _
  simp only [Int.toNat_zero, Nat.zero_min, Int.pow_zero, Int.mul_one]
  rw [wrap_in k _ h1 h2, h]
theorem fk_or0 {σ : Nat → Int} {b r : Nm} (h : r.val σ = b.val σ) (h0 : 0 ≤ b.val σ) (h1 : b.val σ ≤ 9223372036854775807) : FAr.Ok σ ⟨.or, .u64, .c 0, b, r⟩ := by
  show some (V.int .u64 (IntKind.u64.wrap ((BitVec.ofInt 64 0 ||| BitVec.ofInt 64 (b.val σ)).toNat : Nat))) = _
  have e : (BitVec.ofInt 64 0 ||| BitVec.ofInt 64 (b.val σ)) = BitVec.ofInt 64 (b.val σ) := by
    rw [show BitVec.ofInt 64 0 = 0#64 from rfl, BitVec.zero_or]
  rw [e, bits_low _ h0 (by omega), h]
  have : ((b.val σ).toNat : Int) = b.val σ := by omega
  rw [this, wrap_in .u64 _ (by simpa [IntKind.min, IntKind.signed] using h0) (by simp [IntKind.max, IntKind.signed, IntKind.bits]; omega)]
theorem fk_andNot {σ : Nat → Int} {a r : Nm} (h : r.val σ = a.val σ) (h0 : 0 ≤ a.val σ) (h1 : a.val σ < 9223372036854775808) : FAr.Ok σ ⟨.andNot, .u64, a, .c 9223372036854775808, r⟩ := by
  show some (V.int .u64 (IntKind.u64.wrap ((BitVec.ofInt 64 (a.val σ) &&& ~~~ BitVec.ofInt 64 9223372036854775808).toNat : Nat))) = _
  have e : (BitVec.ofInt 64 (a.val σ) &&& ~~~ BitVec.ofInt 64 9223372036854775808).toNat = (a.val σ).toNat := by
    rw [BitVec.toNat_and, bits_low _ h0 (by omega)]
    have : (~~~ BitVec.ofInt 64 9223372036854775808).toNat = 2 ^ 63 - 1 := by decide
    rw [this, Nat.and_two_pow_sub_one_eq_mod, Nat.mod_eq_of_lt (by omega)]
  rw [e, h]
  have : ((a.val σ).toNat : Int) = a.val σ := by omega
  rw [this, wrap_in .u64 _ (by simpa [IntKind.min, IntKind.signed] using h0) (by simp [IntKind.max, IntKind.signed, IntKind.bits]; omega)]
theorem pure_sm {E : Env} {σ : Nat → Int} {f : Nat} {args args' : List V} {v v' : V} {n1 : Nat} (Q : List Nm) (h : (⟨f, args, 0, [], v, n1, []⟩ : Sm).Ok E.P (sgn σ (qf Q))) (ha : belows 0 args = true) (hv : below 0 v = true)
    (h1 : (vEqs (rens id (qf Q) args) args' && vEq (ren id (qf Q) v) v') = true) : DoesP E σ ⟨f, args', v'⟩ := by
  rw [Bool.and_eq_true] at h1
  have e1 := vEqs_sound _ _ h1.1
  have e2 := vEq_sound _ _ h1.2
  subst e1; subst e2
  intro s ρ W us hs hus
  obtain ⟨s1, k1, k2, k3⟩ := h
  have hus2 := (VRs_ren _ _).1 hus
  have hg : ∀ id, (mkSt ([] : List (Nat × B)) 0).heap.get id = none := fun _ => rfl
  have h0 : Sim (sgn σ (qf Q)) (fun _ => none) (mkSt [] 0) W := {
    blk := fun id x hx => by rw [hg] at hx; cases hx
    inj := fun i j b n m hi => by rw [hg] at hi; cases hi
    dom := fun _ _ => rfl
    old := fun id b n hr => by cases hr }
  have hus0 : VRs (sgn σ (qf Q)) (fun _ => none) args us := VRs.congr 0 (fun id hid => by omega) _ _ ha hus2
  obtain ⟨g1, g2⟩ := k3 (fun _ => none) W us h0 hus0
  refine ⟨g1, g2.mono ?_⟩
  rintro e w' ⟨ρ', u, rfl, q1, q2⟩
  have hfr : ∀ j, j < W.heap.size → w'.heap[j]? = W.heap[j]? := fun j hj => q2.frame j hj (fun id n hid => by rw [hg] at hid; cases hid)
  refine ⟨ρ, u, rfl, (VR_ren _ _).2 (VR.congr 0 (fun id hid => by omega) _ _ hv q1), ?_⟩
  refine ⟨⟨fun id x hx => ?_, hs.inj, hs.dom, fun id b n hr => Nat.lt_of_lt_of_le (hs.old id b n hr) q2.size⟩, fun _ _ => rfl, Nat.le_refl _, q2.size, fun j hj _ => hfr j hj, fun id b n h1 h2 _ => ⟨id, h1, h2⟩, Nat.le_refl _, fun _ _ _ => rfl, q2.os, q2.tape, q2.output⟩
  obtain ⟨b, n, o, a1, a2, a3⟩ := hs.blk id x hx
  exact ⟨b, n, o, a1, by rw [hfr b (hs.old id b n a1)]; exact a2, a3⟩
def callS (F : Facts) (us : List Use) (ps : List Pur) : Call := callN (env F.sg) (both addsH (both (uses us) (pures ps))) 200
theorem callS_ok {F : Facts} {l : List Int} (hF : F.Ok l) {us : List Use} {ps : List Pur} (hu : ∀ u ∈ us, u.e.Ok Tryz.prog (sgn (sgl l) (qf u.Q))) (hp : ∀ e ∈ ps, DoesP (env F.sg) (sgl l) e) : CallOk (env F.sg) (sgl l) (callS F us ps) :=
  callN_ok (env_ok _ _ (Facts.sgOk hF)) (both_ok (addsH_ok _ _) (both_ok (uses_ok us hu) (pures_ok ps hp))) 200
theorem sm_signs {F : Facts} {l : List Int} (hF : F.Ok l) {us : List Use} {ps : List Pur} (hu : ∀ u ∈ us, u.e.Ok Tryz.prog (sgn (sgl l) (qf u.Q))) (hp : ∀ e ∈ ps, DoesP (env F.sg) (sgl l) e) {e : Sm} (m : Nat) (hm : m ≤ l.length)
    (h : smOk e (callS F us ps e.f e.args (mkSt e.h0 e.n0)) = true) (ho : (onlyQ m e && has (mkH e.h1 .e) e.h1) = true) : e.Ok Tryz.prog (sgl (l.take m)) := by
  rw [← sgn_idq l m hm]
  exact (Sm.of (callS_ok hF hu hp) h).base m ho
end
end Go.Proofs.YtnpkeganpkobjaaGreatDoor.Ev
namespace Go.Proofs.YtnpkeganpkobjaaGreatDoor.Ev
set_option maxRecDepth 100000
open Go Go.RowKit
noncomputable section
theorem pure_val {P : Program} {τ : Nat → Int} {f : Nat} {args : List V} {v : V} {n1 : Nat} (h : (⟨f, args, 0, [], v, n1, []⟩ : Sm).Ok P τ) {σ : Nat → Int} {ρ : Rho} {s : St} {W : World} {us : List Value} (hs : Sim σ ρ s W) (hus : VRs τ (fun _ => none) args us) (hv : below 0 v = true) :
    (callFunc f us.toArray).run P W = .ok (.enter f us.toArray) W ∧ Calls P f us.toArray W fun e w' => ∃ u, e = .returned u ∧ VR τ (fun _ => none) v u ∧ Stp σ ρ s W ρ s w' := by
  obtain ⟨s1, k1, k2, k3⟩ := h
  have hg : ∀ id, (mkSt ([] : List (Nat × B)) 0).heap.get id = none := fun _ => rfl
  have h0 : Sim τ (fun _ => none) (mkSt [] 0) W := {
    blk := fun id x hx => by rw [hg] at hx; cases hx
    inj := fun i j b n m hi => by rw [hg] at hi; cases hi
    dom := fun _ _ => rfl
    old := fun id b n hr => by cases hr }
  obtain ⟨g1, g2⟩ := k3 (fun _ => none) W us h0 hus
  refine ⟨g1, g2.mono ?_⟩
  rintro e w' ⟨ρ', u, rfl, q1, q2⟩
  have hfr : ∀ j, j < W.heap.size → w'.heap[j]? = W.heap[j]? := fun j hj => q2.frame j hj (fun id n hid => by rw [hg] at hid; cases hid)
  refine ⟨u, rfl, VR.congr 0 (fun id hid => by omega) _ _ hv q1, ?_⟩
  refine ⟨⟨fun id x hx => ?_, hs.inj, hs.dom, fun id b n hr => Nat.lt_of_lt_of_le (hs.old id b n hr) q2.size⟩, fun _ _ => rfl, Nat.le_refl _, q2.size, fun j hj _ => hfr j hj, fun id b n h1 h2 _ => ⟨id, h1, h2⟩, Nat.le_refl _, fun _ _ _ => rfl, q2.os, q2.tape, q2.output⟩
  obtain ⟨b, n, o, a1, a2, a3⟩ := hs.blk id x hx
  exact ⟨b, n, o, a1, by rw [hfr b (hs.old id b n a1)]; exact a2, a3⟩
def fillF0 : Facts := ⟨[((0 : Int), (9 : Int)), ((48 : Int), (57 : Int)), ((48 : Int), (57 : Int)), ((48 : Int), (57 : Int))], [⟨.rem, .i64, .s 0, .c (10), .s 0⟩, ⟨.add, .i64, .c (48), .s 0, .s 3⟩, ⟨.quo, .i64, .s 0, .c (10), .c (0)⟩], [], [], [], [], [], []⟩
theorem fillR0 : smOk ⟨282, [.sint .i64 0, .int .i64 3], 0, [], .str [48, 48, 259], 0, []⟩ (callS fillF0 [] [] 282 [.sint .i64 0, .int .i64 3] (mkSt [] 0)) = true := by kernel_rfl
theorem fill_ok0 (n a b c : Int) (h : n < 10) (h0 : 0 ≤ n) (ha : a = 48 + n / 100) (hb : b = 48 + n / 10 % 10) (hc : c = 48 + n % 10) : (⟨282, [.sint .i64 0, .int .i64 3], 0, [], .str [48, 48, 259], 0, []⟩ : Sm).Ok Tryz.prog (sgl [n, a, b, c]) := by
  have hF : Facts.Ok fillF0 [n, a, b, c] := {
    g := ⟨⟨show (0 : Int) ≤ n by omega, show n ≤ (9 : Int) by omega⟩, ⟨show (48 : Int) ≤ a by omega, show a ≤ (57 : Int) by omega⟩, ⟨show (48 : Int) ≤ b by omega, show b ≤ (57 : Int) by omega⟩, ⟨show (48 : Int) ≤ c by omega, show c ≤ (57 : Int) by omega⟩, trivial⟩
    ar := (by simp only [fillF0, List.forall_mem_cons, List.not_mem_nil, false_implies, implies_true, and_true]; exact ⟨fk_rem (show (0 : Int) ≤ n by omega) (show (0 : Int) < 10 by omega) (show n = n % 10 by omega), fk_add (show c = 48 + n by omega) (show (-9223372036854775808 : Int) ≤ c by omega) (show c ≤ (9223372036854775807 : Int) by omega), fk_quo (show (0 : Int) ≤ n by omega) (show (0 : Int) < 10 by omega) (show (0 : Int) = n / 10 by omega) (show (-9223372036854775808 : Int) ≤ 0 by omega) (show 0 ≤ (9223372036854775807 : Int) by omega)⟩)
    lt := (by intro e he; cases he)
    eq := (by intro e he; cases he)
    fb := (by intro e he; cases he)
    fc := (by intro e he; cases he)
    fi := (by intro e he; cases he)
    fn := (by intro e he; cases he) }
  exact sm_signs (l := [n, a, b, c]) hF (by intro u hu; cases hu) (by intro u hu; cases hu) 4 (by simp) fillR0 (by kernel_rfl)
def fillF1 : Facts := ⟨[((10 : Int), (99 : Int)), ((48 : Int), (57 : Int)), ((48 : Int), (57 : Int)), ((48 : Int), (57 : Int)), ((0 : Int), (9 : Int)), ((1 : Int), (9 : Int))], [⟨.rem, .i64, .s 0, .c (10), .s 4⟩, ⟨.add, .i64, .c (48), .s 4, .s 3⟩, ⟨.quo, .i64, .s 0, .c (10), .s 5⟩, ⟨.rem, .i64, .s 5, .c (10), .s 5⟩, ⟨.add, .i64, .c (48), .s 5, .s 2⟩, ⟨.quo, .i64, .s 5, .c (10), .c (0)⟩], [], [], [], [], [], []⟩
theorem fillR1 : smOk ⟨282, [.sint .i64 0, .int .i64 3], 0, [], .str [48, 258, 259], 0, []⟩ (callS fillF1 [] [] 282 [.sint .i64 0, .int .i64 3] (mkSt [] 0)) = true := by kernel_rfl
theorem fill_ok1 (n a b c : Int) (h : 10 ≤ n ∧ n < 100) (h0 : 0 ≤ n) (ha : a = 48 + n / 100) (hb : b = 48 + n / 10 % 10) (hc : c = 48 + n % 10) : (⟨282, [.sint .i64 0, .int .i64 3], 0, [], .str [48, 258, 259], 0, []⟩ : Sm).Ok Tryz.prog (sgl [n, a, b, c]) := by
  obtain ⟨y4, e4⟩ : ∃ y : Int, y = n % 10 := ⟨_, rfl⟩
  obtain ⟨y5, e5⟩ : ∃ y : Int, y = n / 10 := ⟨_, rfl⟩
  have hF : Facts.Ok fillF1 [n, a, b, c, y4, y5] := {
    g := ⟨⟨show (10 : Int) ≤ n by omega, show n ≤ (99 : Int) by omega⟩, ⟨show (48 : Int) ≤ a by omega, show a ≤ (57 : Int) by omega⟩, ⟨show (48 : Int) ≤ b by omega, show b ≤ (57 : Int) by omega⟩, ⟨show (48 : Int) ≤ c by omega, show c ≤ (57 : Int) by omega⟩, ⟨show (0 : Int) ≤ y4 by omega, show y4 ≤ (9 : Int) by omega⟩, ⟨show (1 : Int) ≤ y5 by omega, show y5 ≤ (9 : Int) by omega⟩, trivial⟩
    ar := (by simp only [fillF1, List.forall_mem_cons, List.not_mem_nil, false_implies, implies_true, and_true]; exact ⟨fk_rem (show (0 : Int) ≤ n by omega) (show (0 : Int) < 10 by omega) (show y4 = n % 10 by omega), fk_add (show c = 48 + y4 by omega) (show (-9223372036854775808 : Int) ≤ c by omega) (show c ≤ (9223372036854775807 : Int) by omega), fk_quo (show (0 : Int) ≤ n by omega) (show (0 : Int) < 10 by omega) (show (y5 : Int) = n / 10 by omega) (show (-9223372036854775808 : Int) ≤ y5 by omega) (show y5 ≤ (9223372036854775807 : Int) by omega), fk_rem (show (0 : Int) ≤ y5 by omega) (show (0 : Int) < 10 by omega) (show y5 = y5 % 10 by omega), fk_add (show b = 48 + y5 by omega) (show (-9223372036854775808 : Int) ≤ b by omega) (show b ≤ (9223372036854775807 : Int) by omega), fk_quo (show (0 : Int) ≤ y5 by omega) (show (0 : Int) < 10 by omega) (show (0 : Int) = y5 / 10 by omega) (show (-9223372036854775808 : Int) ≤ 0 by omega) (show 0 ≤ (9223372036854775807 : Int) by omega)⟩)
    lt := (by intro e he; cases he)
    eq := (by intro e he; cases he)
    fb := (by intro e he; cases he)
    fc := (by intro e he; cases he)
    fi := (by intro e he; cases he)
    fn := (by intro e he; cases he) }
  exact sm_signs (l := [n, a, b, c, y4, y5]) hF (by intro u hu; cases hu) (by intro u hu; cases hu) 4 (by simp) fillR1 (by kernel_rfl)
def fillF2 : Facts := ⟨[((100 : Int), (999 : Int)), ((48 : Int), (57 : Int)), ((48 : Int), (57 : Int)), ((48 : Int), (57 : Int)), ((0 : Int), (9 : Int)), ((10 : Int), (99 : Int)), ((0 : Int), (9 : Int)), ((1 : Int), (9 : Int))], [⟨.rem, .i64, .s 0, .c (10), .s 4⟩, ⟨.add, .i64, .c (48), .s 4, .s 3⟩, ⟨.quo, .i64, .s 0, .c (10), .s 5⟩, ⟨.rem, .i64, .s 5, .c (10), .s 6⟩, ⟨.add, .i64, .c (48), .s 6, .s 2⟩, ⟨.quo, .i64, .s 5, .c (10), .s 7⟩, ⟨.rem, .i64, .s 7, .c (10), .s 7⟩, ⟨.add, .i64, .c (48), .s 7, .s 1⟩, ⟨.quo, .i64, .s 7, .c (10), .c (0)⟩], [], [], [], [], [], []⟩
theorem fillR2 : smOk ⟨282, [.sint .i64 0, .int .i64 3], 0, [], .str [257, 258, 259], 0, []⟩ (callS fillF2 [] [] 282 [.sint .i64 0, .int .i64 3] (mkSt [] 0)) = true := by kernel_rfl
theorem fill_ok2 (n a b c : Int) (h : 100 ≤ n ∧ n ≤ 999) (h0 : 0 ≤ n) (ha : a = 48 + n / 100) (hb : b = 48 + n / 10 % 10) (hc : c = 48 + n % 10) : (⟨282, [.sint .i64 0, .int .i64 3], 0, [], .str [257, 258, 259], 0, []⟩ : Sm).Ok Tryz.prog (sgl [n, a, b, c]) := by
  obtain ⟨y4, e4⟩ : ∃ y : Int, y = n % 10 := ⟨_, rfl⟩
  obtain ⟨y5, e5⟩ : ∃ y : Int, y = n / 10 := ⟨_, rfl⟩
  obtain ⟨y6, e6⟩ : ∃ y : Int, y = n / 10 % 10 := ⟨_, rfl⟩
  obtain ⟨y7, e7⟩ : ∃ y : Int, y = n / 100 := ⟨_, rfl⟩
  have hF : Facts.Ok fillF2 [n, a, b, c, y4, y5, y6, y7] := {
    g := ⟨⟨show (100 : Int) ≤ n by omega, show n ≤ (999 : Int) by omega⟩, ⟨show (48 : Int) ≤ a by omega, show a ≤ (57 : Int) by omega⟩, ⟨show (48 : Int) ≤ b by omega, show b ≤ (57 : Int) by omega⟩, ⟨show (48 : Int) ≤ c by omega, show c ≤ (57 : Int) by omega⟩, ⟨show (0 : Int) ≤ y4 by omega, show y4 ≤ (9 : Int) by omega⟩, ⟨show (10 : Int) ≤ y5 by omega, show y5 ≤ (99 : Int) by omega⟩, ⟨show (0 : Int) ≤ y6 by omega, show y6 ≤ (9 : Int) by omega⟩, ⟨show (1 : Int) ≤ y7 by omega, show y7 ≤ (9 : Int) by omega⟩, trivial⟩
    ar := (by simp only [fillF2, List.forall_mem_cons, List.not_mem_nil, false_implies, implies_true, and_true]; exact ⟨fk_rem (show (0 : Int) ≤ n by omega) (show (0 : Int) < 10 by omega) (show y4 = n % 10 by omega), fk_add (show c = 48 + y4 by omega) (show (-9223372036854775808 : Int) ≤ c by omega) (show c ≤ (9223372036854775807 : Int) by omega), fk_quo (show (0 : Int) ≤ n by omega) (show (0 : Int) < 10 by omega) (show (y5 : Int) = n / 10 by omega) (show (-9223372036854775808 : Int) ≤ y5 by omega) (show y5 ≤ (9223372036854775807 : Int) by omega), fk_rem (show (0 : Int) ≤ y5 by omega) (show (0 : Int) < 10 by omega) (show y6 = y5 % 10 by omega), fk_add (show b = 48 + y6 by omega) (show (-9223372036854775808 : Int) ≤ b by omega) (show b ≤ (9223372036854775807 : Int) by omega), fk_quo (show (0 : Int) ≤ y5 by omega) (show (0 : Int) < 10 by omega) (show (y7 : Int) = y5 / 10 by omega) (show (-9223372036854775808 : Int) ≤ y7 by omega) (show y7 ≤ (9223372036854775807 : Int) by omega), fk_rem (show (0 : Int) ≤ y7 by omega) (show (0 : Int) < 10 by omega) (show y7 = y7 % 10 by omega), fk_add (show a = 48 + y7 by omega) (show (-9223372036854775808 : Int) ≤ a by omega) (show a ≤ (9223372036854775807 : Int) by omega), fk_quo (show (0 : Int) ≤ y7 by omega) (show (0 : Int) < 10 by omega) (show (0 : Int) = y7 / 10 by omega) (show (-9223372036854775808 : Int) ≤ 0 by omega) (show 0 ≤ (9223372036854775807 : Int) by omega)⟩)
    lt := (by intro e he; cases he)
    eq := (by intro e he; cases he)
    fb := (by intro e he; cases he)
    fc := (by intro e he; cases he)
    fi := (by intro e he; cases he)
    fn := (by intro e he; cases he) }
  exact sm_signs (l := [n, a, b, c, y4, y5, y6, y7]) hF (by intro u hu; cases hu) (by intro u hu; cases hu) 4 (by simp) fillR2 (by kernel_rfl)
theorem fill_ok {E : Env} (hP : E.P = Tryz.prog) {σ : Nat → Int} {i a b c : Nat} (h0 : 0 ≤ σ i) (h9 : σ i ≤ 999) (ha : σ a = 48 + σ i / 100) (hb : σ b = 48 + σ i / 10 % 10) (hc : σ c = 48 + σ i % 10) :
    DoesP E σ ⟨282, [.sint .i64 i, .int .i64 3], .str [256 + a, 256 + b, 256 + c]⟩ := by
  intro s ρ W us hs hus
  rw [hP]
  have hus0 : VRs (sgl [σ i, σ a, σ b, σ c]) (fun _ => none) [.sint .i64 0, .int .i64 3] us := by
    simp only [VRs, VR] at hus ⊢
    exact hus
  have hby : ∀ k, byteOf σ (256 + k) = UInt8.ofNat (σ k).toNat := by
    intro k
    unfold byteOf byteN
    have e : Nat.blt (256 + k) 256 = false := by
      cases h : Nat.blt (256 + k) 256 with
      | false => rfl
      | true => rw [Nat.blt_eq] at h; omega
    rw [e, Nat.add_sub_cancel_left]
  have fin : ∀ {v : V}, v = .str [48, 48, 259] ∧ σ a = 48 ∧ σ b = 48 ∨ v = .str [48, 258, 259] ∧ σ a = 48 ∨ v = .str [257, 258, 259] → ∀ u, VR (sgl [σ i, σ a, σ b, σ c]) (fun _ => none) v u → VR σ ρ (.str [256 + a, 256 + b, 256 + c]) u := by
    intro v hv u hu
    clear ha hb hc
    rcases hv with ⟨rfl, e1, e2⟩ | ⟨rfl, e1⟩ | rfl <;> simp only [VR, BR, List.map, hby] at hu ⊢ <;> obtain ⟨x, hx, rfl⟩ := hu <;> refine ⟨x, ?_, rfl⟩ <;> rw [hx]
    · rw [e1, e2]; rfl
    · rw [e1]; rfl
    · rfl
  rcases (show σ i < 10 ∨ (10 ≤ σ i ∧ σ i < 100) ∨ (100 ≤ σ i ∧ σ i ≤ 999) by omega) with h | h | h
  · obtain ⟨g1, g2⟩ := pure_val (fill_ok0 _ _ _ _ h h0 ha hb hc) hs hus0 rfl
    refine ⟨g1, g2.mono ?_⟩
    rintro e w' ⟨u, rfl, hu, k⟩
    exact ⟨ρ, u, rfl, fin (.inl ⟨rfl, by omega, by omega⟩) u hu, k⟩
  · obtain ⟨g1, g2⟩ := pure_val (fill_ok1 _ _ _ _ h h0 ha hb hc) hs hus0 rfl
    refine ⟨g1, g2.mono ?_⟩
    rintro e w' ⟨u, rfl, hu, k⟩
    exact ⟨ρ, u, rfl, fin (.inr (.inl ⟨rfl, by omega⟩)) u hu, k⟩
  · obtain ⟨g1, g2⟩ := pure_val (fill_ok2 _ _ _ _ h h0 ha hb hc) hs hus0 rfl
    refine ⟨g1, g2.mono ?_⟩
    rintro e w' ⟨u, rfl, hu, k⟩
    exact ⟨ρ, u, rfl, fin (.inr (.inr rfl)) u hu, k⟩
def bitsOf : Option V → Int
  | some (.flt r) => (r : Int)
  | _ => 0
def intOf : Option V → Int
  | some (.int _ n) => n
  | _ => 0
def Fl.op (op : BinOp) (a b : Int) : Int := bitsOf (binF op a.toNat (.flt b.toNat))
def Fl.near (n : Int) : Int := (FloatKind.f64.nearest n : Nat)
def Fl.neg (a : Int) : Int := (Op.negFloat .f64 a.toNat : Nat)
def Fl.int (a : Int) : Int := intOf (convF (.int .i64) a.toNat)
def isFlt : Option V → Bool
  | some (.flt _) => true
  | _ => false
def isIn : Option V → Bool
  | some (.int .i64 _) => true
  | _ => false
def isNo : Option V → Bool
  | some (.bool d) => !d
  | _ => false
theorem isFlt_ok {op : BinOp} {a b : Int} (h : isFlt (binF op a.toNat (.flt b.toNat)) = true) : binF op a.toNat (.flt b.toNat) = some (.flt (Fl.op op a b).toNat) := by
  unfold Fl.op
  cases e : binF op a.toNat (.flt b.toNat) with
  | none => rw [e] at h; cases h
  | some v => rw [e] at h; cases v <;> simp only [isFlt] at h <;> first | (cases h; done) | (simp [bitsOf])
theorem isIn_ok {a : Int} (h : isIn (convF (.int .i64) a.toNat) = true) : convF (.int .i64) a.toNat = some (.int .i64 (Fl.int a)) := by
  unfold Fl.int
  cases e : convF (.int .i64) a.toNat with
  | none => rw [e] at h; cases h
  | some v =>
    rw [e] at h
    unfold isIn at h
    split at h
    · rename_i q; cases q; rfl
    · cases h
theorem isNo_ok {o : Option V} (h : isNo o = true) : o = some (.bool false) := by
  unfold isNo at h
  split at h
  · rename_i d; cases d
    · rfl
    · cases h
  · cases h
def within (lo hi n : Int) : Bool := decide (lo ≤ n) && decide (n ≤ hi)
theorem within_ok {lo hi n : Int} (h : within lo hi n = true) : lo ≤ n ∧ n ≤ hi := by
  simpa [within, Bool.and_eq_true, decide_eq_true_eq] using h
def upTo : Nat → List Nat
  | 0 => []
  | n + 1 => upTo n ++ [n]
theorem upTo_mem : ∀ {n m : Nat}, m < n → m ∈ upTo n := by
  intro n
  induction n with
  | zero => intro m h; omega
  | succ n ih =>
    intro m h
    simp only [upTo, List.mem_append, List.mem_singleton]
    by_cases e : m = n
    · exact .inr e
    · exact .inl (ih (by omega))
structure Share (fa fb f m w g s p i : Int) : Prop where
  q : binF .quo fa.toNat (.flt fb.toNat) = some (.flt f.toNat)
  hf : 0 ≤ f ∧ f ≤ 9218868437227405312
  ne : binF .neq f.toNat (.flt f.toNat) = some (.bool false)
  gt : binF .gtr f.toNat (.flt (9218868437227405311 : Int).toNat) = some (.bool false)
  gm : binF .gtr m.toNat (.flt (9218868437227405311 : Int).toNat) = some (.bool false)
  hm : 0 ≤ m ∧ m ≤ 18446744073709551616
  ge : binF .geq f.toNat (.flt (4845873199050653696 : Int).toNat) = some (.bool false)
  iw : convF (.int .i64) f.toNat = some (.int .i64 w)
  hw : 0 ≤ w ∧ w ≤ 1
  hg : 0 ≤ g ∧ g ≤ 9218868437227405312
  sb : binF .sub f.toNat (.flt g.toNat) = some (.flt s.toNat)
  hs : 0 ≤ s ∧ s ≤ 9218868437227405312
  ml : binF .mul s.toNat (.flt (4652007308841189376 : Int).toNat) = some (.flt p.toNat)
  hp : 0 ≤ p ∧ p ≤ 9218868437227405312
  ip : convF (.int .i64) p.toNat = some (.int .i64 i)
  hi : 0 ≤ i ∧ i ≤ 999
def shareK (fa fb f m w g s p i : Int) : Bool :=
  isFlt (binF .quo fa.toNat (.flt fb.toNat)) && (within 0 9218868437227405312 f &&
  (isNo (binF .neq f.toNat (.flt f.toNat)) && (isNo (binF .gtr f.toNat (.flt (9218868437227405311 : Int).toNat)) &&
  (isNo (binF .gtr m.toNat (.flt (9218868437227405311 : Int).toNat)) && (within 0 18446744073709551616 m &&
  (isNo (binF .geq f.toNat (.flt (4845873199050653696 : Int).toNat)) && (isIn (convF (.int .i64) f.toNat) && (within 0 1 w && (within 0 9218868437227405312 g &&
  (isFlt (binF .sub f.toNat (.flt g.toNat)) && (within 0 9218868437227405312 s &&
  (isFlt (binF .mul s.toNat (.flt (4652007308841189376 : Int).toNat)) && (within 0 9218868437227405312 p && (isIn (convF (.int .i64) p.toNat) && within 0 999 i))))))))))))))
def shareP (fa fb f w s p : Int) : Bool := shareK fa fb f (Fl.neg f) w (Fl.near w) s p (Fl.int p)
def shareS (fa fb f w s : Int) : Bool := shareP fa fb f w s (Fl.op .mul s 4652007308841189376)
def shareW (fa fb f w : Int) : Bool := shareS fa fb f w (Fl.op .sub f (Fl.near w))
def shareF (fa fb f : Int) : Bool := shareW fa fb f (Fl.int f)
def shareOk (a b : Int) : Bool := shareF (Fl.near a) (Fl.near b) (Fl.op .quo (Fl.near a) (Fl.near b))
theorem share_tab : ((upTo 31).all fun a => (upTo 30).all fun b => (match Nat.ble a (b + 1) with | true => shareOk a ((b + 1 : Nat) : Int) | false => true)) = true := by kernel_rfl
theorem share_ok {a b fa fb f m w g s p i : Int} (h0 : 0 ≤ a) (h1 : a ≤ b) (h2 : 1 ≤ b) (h3 : b ≤ 30) (ha : fa = Fl.near a) (hb : fb = Fl.near b) (hf : f = Fl.op .quo fa fb) (hm : m = Fl.neg f) (hw : w = Fl.int f) (hg : g = Fl.near w)
    (hs : s = Fl.op .sub f g) (hp : p = Fl.op .mul s 4652007308841189376) (hi : i = Fl.int p) : Share fa fb f m w g s p i := by
  have t := share_tab
  rw [List.all_eq_true] at t
  have t := t a.toNat (upTo_mem (by omega))
  rw [List.all_eq_true] at t
  have t := t (b.toNat - 1) (upTo_mem (by omega))
  rw [show Nat.ble a.toNat (b.toNat - 1 + 1) = true by rw [Nat.ble_eq]; omega] at t
  simp only at t
  rw [show ((a.toNat : Nat) : Int) = a by omega, show ((b.toNat - 1 + 1 : Nat) : Int) = b by omega] at t
  unfold shareOk shareF shareW shareS shareP at t
  rw [← ha, ← hb, ← hf, ← hw, ← hg, ← hs, ← hp, ← hi, ← hm] at t
  unfold shareK at t
  simp only [Bool.and_eq_true] at t
  obtain ⟨t1, t2, t3, t4, t5, t6, t7, t8, t9, t10, t11, t12, t13, t14, t15, t16⟩ := t
  exact ⟨by rw [hf]; exact isFlt_ok t1, within_ok t2, isNo_ok t3, isNo_ok t4, isNo_ok t5, within_ok t6, isNo_ok t7, by rw [hw]; exact isIn_ok t8, within_ok t9, within_ok t10, by rw [hs]; exact isFlt_ok t11, within_ok t12,
    by rw [hp]; exact isFlt_ok t13, within_ok t14, by rw [hi]; exact isIn_ok t15, within_ok t16⟩
structure Nears (k fl f t : Int) : Prop where
  ml : binF .mul fl.toNat (.flt k.toNat) = some (.flt f.toNat)
  hf : 0 ≤ f ∧ f ≤ 9218868437227405312
  it : convF (.int .i64) f.toNat = some (.int .i64 t)
def nearF (k fl f t : Int) : Bool := isFlt (binF .mul fl.toNat (.flt k.toNat)) && (within 0 9218868437227405312 f && (isIn (convF (.int .i64) f.toNat) && decide (Fl.int f = t)))
def nearOk (L k t : Int) : Bool := nearF k (Fl.near L) (Fl.op .mul (Fl.near L) k) t
theorem near_tab8 : ((upTo 31).all fun L => nearOk L 4605380978949069210 ((L * 4) / 5 : Nat)) = true := by kernel_rfl
theorem near_tab5 : ((upTo 31).all fun L => nearOk L 4602678819172646912 (L / 2 : Nat)) = true := by kernel_rfl
theorem near_of {L k fl f t T : Int} (hk : nearOk L k T = true) (hl : fl = Fl.near L) (hf : f = Fl.op .mul fl k) (ht : t = Fl.int f) : Nears k fl f t ∧ t = T := by
  unfold nearOk nearF at hk
  rw [← hl, ← hf] at hk
  simp only [Bool.and_eq_true, decide_eq_true_eq] at hk
  obtain ⟨t1, t2, t3, t4⟩ := hk
  exact ⟨⟨by rw [hf]; exact isFlt_ok t1, within_ok t2, by rw [ht]; exact isIn_ok t3⟩, by rw [ht]; exact t4⟩
theorem near8 {L fl f t : Int} (h0 : 0 ≤ L) (h1 : L ≤ 30) (hl : fl = Fl.near L) (hf : f = Fl.op .mul fl 4605380978949069210) (ht : t = Fl.int f) : Nears 4605380978949069210 fl f t ∧ t = L * 4 / 5 := by
  have q := near_tab8
  rw [List.all_eq_true] at q
  have q := q L.toNat (upTo_mem (by omega))
  rw [show ((L.toNat : Nat) : Int) = L by omega] at q
  obtain ⟨k1, k2⟩ := near_of q hl hf ht
  exact ⟨k1, by rw [k2]; omega⟩
theorem near5 {L fl f t : Int} (h0 : 0 ≤ L) (h1 : L ≤ 30) (hl : fl = Fl.near L) (hf : f = Fl.op .mul fl 4602678819172646912) (ht : t = Fl.int f) : Nears 4602678819172646912 fl f t ∧ t = L / 2 := by
  have q := near_tab5
  rw [List.all_eq_true] at q
  have q := q L.toNat (upTo_mem (by omega))
  rw [show ((L.toNat : Nat) : Int) = L by omega] at q
  obtain ⟨k1, k2⟩ := near_of q hl hf ht
  exact ⟨k1, by rw [k2]; omega⟩
theorem near_bd {n y : Int} (h0 : 0 ≤ n) (h1 : n ≤ 60) (h : y = Fl.near n) : 0 ≤ y ∧ y ≤ 9218868437227405312 := by
  have t : ((upTo 61).all fun a => within 0 9218868437227405312 (Fl.near a)) = true := by kernel_rfl
  rw [List.all_eq_true] at t
  have t := t n.toNat (upTo_mem (by omega))
  rw [show ((n.toNat : Nat) : Int) = n by omega, ← h] at t
  exact within_ok t
theorem fc_ok {n y : Int} (h : y = Fl.near n) : V.flt y.toNat = .flt (FloatKind.f64.nearest n) := by rw [h]; rfl
theorem fn_ok {a y : Int} (h : y = Fl.neg a) : V.flt y.toNat = .flt (Op.negFloat .f64 a.toNat) := by rw [h]; rfl
theorem near_1 : (4607182418800017408 : Int) = Fl.near 1 := by kernel_rfl
end
end Go.Proofs.YtnpkeganpkobjaaGreatDoor.Ev
namespace Go.Proofs.YtnpkeganpkobjaaGreatDoor.Ev
open Go Go.RowKit
noncomputable section
structure Tm where
  n : Nat
  f0 : List (Nat × V)
  n0 : Nat
  h0 : List (Nat × B)
def sg0 : Sg := ⟨fun _ => (0, 0), fun _ _ _ _ => none, fun _ _ => none, fun _ _ => none, fun _ _ _ => none, fun _ => none, fun _ _ => none, fun _ => none⟩
structure Kp (W0 W : World) : Prop where
  size : W0.heap.size ≤ W.heap.size
  heap : ∀ j, j < W0.heap.size → W.heap[j]? = W0.heap[j]?
  os : W.os = W0.os
  tape : W.tape = W0.tape
  output : W.output = W0.output
def Off (W0 : World) (s : St) (ρ : Rho) : Prop := ∀ id b n, (s.heap.get id).isSome → ρ id = some (b, n) → W0.heap.size ≤ b
theorem Stp.kp {W0 : World} {σ : Nat → Int} {ρ ρ' : Rho} {s s1 : St} {W W' : World} (k : Stp σ ρ s W ρ' s1 W') (h : Kp W0 W) (ho : Off W0 s ρ) : Kp W0 W' ∧ Off W0 s1 ρ' := by
  refine ⟨⟨Nat.le_trans h.size k.size, fun j hj => ?_, k.os.trans h.os, k.tape.trans h.tape, k.output.trans h.output⟩, fun id b n h1 h2 => ?_⟩
  · rw [k.frame j (Nat.lt_of_lt_of_le hj h.size) (fun id n hid hr => by have := ho id j n hid hr; omega)]
    exact h.heap j hj
  · by_cases c : b < W.heap.size
    · obtain ⟨j, g1, g2⟩ := k.live id b n h1 h2 c
      exact ho j b n g1 g2
    · have := h.size; omega
structure Tm.At (t : Tm) (W0 : World) (σ : Nat → Int) (ρ : Rho) (a : Act) (W : World) : Prop where
  sim : Sim σ ρ (mkSt t.h0 t.n0) W
  size : t.n ≤ a.tmps.size
  tmps : ∀ x ∈ t.f0, VR σ ρ x.2 (a.tmps.getD x.1 Go.undef)
  dfr : DOK (env sg0) [] a.defers
  off : Off W0 (mkSt t.h0 t.n0) ρ
  kept : Kp W0 W
variable {W0 : World}
def renFs (q : Nat → Nm) : List (Nat × V) → Bool
  | [] => true
  | x :: l => vEq (ren id q x.2) x.2 && renFs q l
theorem renFs_mem {q : Nat → Nm} : ∀ {l : List (Nat × V)}, renFs q l = true → ∀ x ∈ l, ren id q x.2 = x.2 := by
  intro l
  induction l with
  | nil => intro _ x hx; simp at hx
  | cons y l ih =>
    intro h x hx
    simp only [renFs, Bool.and_eq_true] at h
    simp only [List.mem_cons] at hx
    rcases hx with rfl | hx
    · exact vEq_sound _ _ h.1
    · exact ih h.2 x hx
def Tm.low (t : Tm) (m : Nat) : Bool := renHs (idq m) t.h0 && renFs (idq m) t.f0
theorem Tm.At.up {t : Tm} {l : List Int} {m : Nat} {ρ : Rho} {a : Act} {W : World} (h : t.At W0 (sgl (l.take m)) ρ a W) (hm : m ≤ l.length) (hl : t.low m = true) : t.At W0 (sgl l) ρ a W := by
  rw [← sgn_idq l m hm] at h
  simp only [Tm.low, Bool.and_eq_true] at hl
  have o3 := renHs_mem hl.1
  have o4 := renFs_mem hl.2
  refine ⟨⟨fun i b hb => ?_, h.sim.inj, h.sim.dom, h.sim.old⟩, h.size, fun x hx => ?_, h.dfr, h.off, h.kept⟩
  · obtain ⟨bb, n, o, k1, k2, k3⟩ := h.sim.blk i b hb
    refine ⟨bb, n, o, k1, k2, ?_⟩
    have h9 : renB id (idq m) b = b := o3 _ (mkSt_get hb)
    rw [← h9]
    exact OR_ren.2 k3
  · rw [← o4 x hx]
    refine (VR_ren _ _).2 ?_
    exact h.tmps x hx
def pickF (p : Nat → Nat) (q : Nat → Nm) (l : List (Nat × V)) : List (Nat × V) → Bool
  | [] => true
  | x :: r => (match lookT x.1 l with | some v => vEq v (ren p q x.2) | none => false) && pickF p q l r
where lookT (t : Nat) : List (Nat × V) → Option V
  | [] => none
  | y :: l => match Nat.beq y.1 t with | true => some y.2 | false => lookT t l
theorem lookT_mem {t : Nat} {v : V} : ∀ {l : List (Nat × V)}, pickF.lookT t l = some v → (t, v) ∈ l := by
  intro l
  induction l with
  | nil => intro h; cases h
  | cons y l ih =>
    intro h
    simp only [pickF.lookT] at h
    split at h
    · rename_i q; rw [Nat.beq_eq] at q; cases h; subst q; simp
    · simp [ih h]
theorem pickF_mem {p : Nat → Nat} {q : Nat → Nm} {l : List (Nat × V)} : ∀ {r : List (Nat × V)}, pickF p q l r = true → ∀ x ∈ r, (x.1, ren p q x.2) ∈ l := by
  intro r
  induction r with
  | nil => intro _ x hx; simp at hx
  | cons y r ih =>
    intro h x hx
    simp only [pickF, Bool.and_eq_true] at h
    simp only [List.mem_cons] at hx
    rcases hx with rfl | hx
    · have h1 := h.1
      split at h1
      · rename_i v hv; rw [← vEq_sound _ _ h1]; exact lookT_mem hv
      · cases h1
    · exact ih h.2 x hx
def pickOk (e : Pc) (P : List Nat) (Q : List Nm) (t : Tm) : Bool :=
  Nat.ble t.n e.n && (pickF (pf P e.n1) (qf Q) e.f1 t.f0 && (has (mkH e.h1 .e) e.h1 && (Nat.beq (llen P) t.n0 && allLt e.n1 P && found1 (pf P e.n1) (qf Q) (mkH e.h1 .e) t.h0 && apartH (pf P e.n1) t.h0)))
theorem Post_at {E : Env} {σ : Nat → Int} {e : Pc} {ρ ρ' : Rho} {s1 : St} {W W' : World} {a' : Act} {P : List Nat} {Q : List Nm} {t : Tm} (hp : e.Post σ ρ W ρ' s1 W' a') (hd : DOK (env sg0) [] a'.defers) (h : pickOk e P Q t = true) (hk : Kp W0 W) (ho : Off W0 (mkSt e.h0 e.n0) ρ) :
    t.At W0 (sgl (Q.map (Nm.val σ))) (fun i => ρ' (pf P e.n1 i)) a' W' := by
  obtain ⟨k, hn, hh, hf, hz⟩ := hp
  simp only [pickOk, Bool.and_eq_true (Nat.ble _ _), Bool.and_eq_true (pickF _ _ _ _), Bool.and_eq_true (has _ _)] at h
  obtain ⟨h1, h2, h3, h4⟩ := h
  rw [Nat.ble_eq] at h1
  have hs : Sim σ ρ' (mkSt e.h1 e.n1) W' := by
    have hg : ∀ i b, (mkSt e.h1 e.n1).heap.get i = some b → s1.heap.get i = some b := fun i b hb => hh _ (mkSt_get hb)
    have hl : ∀ i, ((mkSt e.h1 e.n1).heap.get i).isSome → (s1.heap.get i).isSome := by
      intro i hi
      obtain ⟨b, hb⟩ := Option.isSome_iff_exists.1 hi
      rw [hg i b hb]; rfl
    exact ⟨fun i b hb => k.sim.blk i b (hg i b hb), fun i j b n m hi hj => k.sim.inj i j b n m (hl i hi) (hl j hj), fun i hi => k.sim.dom i (by rw [hn]; exact hi), k.sim.old⟩
  rw [← sgn_qf]
  obtain ⟨kp, of1⟩ := k.kp hk ho
  refine ⟨sim_pick hs h4, by omega, fun x hx => ?_, hd, ?_, kp⟩
  rotate_left
  · have h5 := h4
    simp only [Bool.and_eq_true] at h5
    have f3 := found1_get h5.1.2
    intro id b n hid hr
    obtain ⟨x, hx⟩ := Option.isSome_iff_exists.1 hid
    have := f3 _ (mkSt_get hx)
    exact of1 (pf P e.n1 id) b n (by rw [hh _ (mkSt_get (n := e.n1) this)]; rfl) hr
  have := hf _ (pickF_mem h2 x hx)
  exact (VR_ren _ _).1 this
def sameF : List (Nat × V) → List (Nat × V) → Bool
  | [], [] => true
  | x :: l, y :: r => Nat.beq x.1 y.1 && vEq x.2 y.2 && sameF l r
  | _, _ => false
theorem pc_at {F : Facts} {l : List Int} (hF : F.Ok l) {us : List Use} {ps : List Pur} (hu : ∀ u ∈ us, u.e.Ok Tryz.prog (sgn (sgl l) (qf u.Q))) (hp : ∀ e ∈ ps, DoesP (env F.sg) (sgl l) e) {c : Code} {e : Pc} {k : Nat}
    (h : pcOk e (exec (env F.sg) (callS F us ps) k c (fr e.n e.f0) (mkSt e.h0 e.n0)) = true) {P : List Nat} {Q : List Nm} {t : Tm} (hq : pickOk e P Q t = true)
    {ρ : Rho} {a : Act} {W : World} {R : Exit → Act → World → Prop} (ha : (⟨e.n, e.f0, e.n0, e.h0⟩ : Tm).At W0 (sgl l) ρ a W)
    (hR : ∀ ρ' a' W', t.At W0 (sgl (Q.map (Nm.val (sgl l)))) ρ' a' W' → R (toExit e.o) a' W') : c.wp Tryz.prog R a W := by
  have hb := ha
  exact pc_wp (E := env F.sg) (D := []) (env_ok _ _ (Facts.sgOk hF)) (callS_ok hF hu hp) h hb.sim hb.size hb.tmps hb.dfr (fun ρ' s1 W' a' hpost hd => hR _ _ _ (Post_at (E := env F.sg) hpost hd hq ha.kept ha.off))
def swapH (q : Nat → Nm) : List (Nat × B) → List (Nat × B) → Bool
  | [], [] => true
  | x :: l, y :: r => Nat.beq x.1 y.1 && bEq (renB id q x.2) y.2 && swapH q l r
  | _, _ => false
def swapF (q : Nat → Nm) : List (Nat × V) → List (Nat × V) → Bool
  | [], [] => true
  | x :: l, y :: r => Nat.beq x.1 y.1 && vEq (ren id q x.2) y.2 && swapF q l r
  | _, _ => false
theorem swapH_mem {q : Nat → Nm} : ∀ {l r : List (Nat × B)}, swapH q l r = true → ∀ y ∈ r, ∃ b, (y.1, b) ∈ l ∧ renB id q b = y.2 := by
  intro l
  induction l with
  | nil => intro r h; cases r with
    | nil => intro y hy; simp at hy
    | cons => cases h
  | cons x l ih =>
    intro r h
    cases r with
    | nil => cases h
    | cons z r =>
      simp only [swapH, Bool.and_eq_true, Nat.beq_eq] at h
      intro y hy
      simp only [List.mem_cons] at hy
      rcases hy with rfl | hy
      · exact ⟨x.2, by rw [← h.1.1]; simp, bEq_sound h.1.2⟩
      · obtain ⟨b, h1, h2⟩ := ih h.2 y hy
        exact ⟨b, by simp [h1], h2⟩
theorem swapF_mem {q : Nat → Nm} : ∀ {l r : List (Nat × V)}, swapF q l r = true → ∀ y ∈ r, ∃ b, (y.1, b) ∈ l ∧ ren id q b = y.2 := by
  intro l
  induction l with
  | nil => intro r h; cases r with
    | nil => intro y hy; simp at hy
    | cons => cases h
  | cons x l ih =>
    intro r h
    cases r with
    | nil => cases h
    | cons z r =>
      simp only [swapF, Bool.and_eq_true, Nat.beq_eq] at h
      intro y hy
      simp only [List.mem_cons] at hy
      rcases hy with rfl | hy
      · exact ⟨x.2, by rw [← h.1.1]; simp, vEq_sound _ _ h.1.2⟩
      · obtain ⟨b, h1, h2⟩ := ih h.2 y hy
        exact ⟨b, by simp [h1], h2⟩
def swapOk (q : Nat → Nm) (t t' : Tm) : Bool := Nat.beq t.n t'.n && (Nat.beq t.n0 t'.n0 && (swapH q t.h0 t'.h0 && (swapF q t.f0 t'.f0 && has (mkH t.h0 .e) t.h0)))
theorem Tm.At.swap {t t' : Tm} {l : List Int} {Q : List Nm} {ρ : Rho} {a : Act} {W : World} (h : t.At W0 (sgl (Q.map (Nm.val (sgl l)))) ρ a W) (hq : swapOk (qf Q) t t' = true) : t'.At W0 (sgl l) ρ a W := by
  rw [← sgn_qf] at h
  simp only [swapOk, Bool.and_eq_true, Nat.beq_eq] at hq
  obtain ⟨q1, q2, q3, q4, q5⟩ := hq
  have q3 := swapH_mem q3
  have q4 := swapF_mem q4
  have q5 := has_sound q5
  have hg : ∀ i b, (mkSt t'.h0 t'.n0).heap.get i = some b → ∃ c, (mkSt t.h0 t.n0).heap.get i = some c ∧ renB id (qf Q) c = b := by
    intro i b hb
    obtain ⟨c, h1, h2⟩ := q3 _ (mkSt_get hb)
    exact ⟨c, q5 _ h1, h2⟩
  have hl : ∀ i, ((mkSt t'.h0 t'.n0).heap.get i).isSome → ((mkSt t.h0 t.n0).heap.get i).isSome := by
    intro i hi
    obtain ⟨b, hb⟩ := Option.isSome_iff_exists.1 hi
    obtain ⟨c, hc, _⟩ := hg i b hb
    rw [hc]; rfl
  refine ⟨⟨fun i b hb => ?_, fun i j b n m hi hj => h.sim.inj i j b n m (hl i hi) (hl j hj), fun i hi => h.sim.dom i (by have hi : t'.n0 ≤ i := hi; show t.n0 ≤ i; omega), h.sim.old⟩, by rw [← q1]; exact h.size, fun x hx => ?_, h.dfr, fun i b n hi hr => h.off i b n (hl i hi) hr, h.kept⟩
  · obtain ⟨c, hc, rfl⟩ := hg i b hb
    obtain ⟨bb, n, o, k1, k2, k3⟩ := h.sim.blk i c hc
    exact ⟨bb, n, o, k1, k2, OR_ren.2 k3⟩
  · obtain ⟨c, hc, e⟩ := q4 x hx
    rw [← e]
    refine (VR_ren _ _).2 ?_
    exact h.tmps _ hc
end
end Go.Proofs.YtnpkeganpkobjaaGreatDoor.Ev
namespace Go.Proofs.YtnpkeganpkobjaaGreatDoor.Ev
open Go Go.RowKit
noncomputable section
section facts
variable {σ : Nat → Int} {a b r : Nm}
theorem fA (x y z : Int) (h : z = x + y ∧ -9223372036854775808 ≤ z ∧ z ≤ 9223372036854775807 := by omega) (ha : a.val σ = x := by rfl) (hb : b.val σ = y := by rfl) (hr : r.val σ = z := by rfl) : FAr.Ok σ ⟨.add, .i64, a, b, r⟩ :=
  fk_add (by rw [ha, hb, hr]; exact h.1) (by rw [hr]; exact h.2.1) (by rw [hr]; exact h.2.2)
theorem fS (x y z : Int) (h : z = x - y ∧ -9223372036854775808 ≤ z ∧ z ≤ 9223372036854775807 := by omega) (ha : a.val σ = x := by rfl) (hb : b.val σ = y := by rfl) (hr : r.val σ = z := by rfl) : FAr.Ok σ ⟨.sub, .i64, a, b, r⟩ :=
  fk_sub (by rw [ha, hb, hr]; exact h.1) (by rw [hr]; exact h.2.1) (by rw [hr]; exact h.2.2)
theorem fQ (x y z : Int) (h : 0 ≤ x ∧ 0 < y ∧ z = x / y ∧ -9223372036854775808 ≤ z ∧ z ≤ 9223372036854775807 := by omega) (ha : a.val σ = x := by rfl) (hb : b.val σ = y := by rfl) (hr : r.val σ = z := by rfl) : FAr.Ok σ ⟨.quo, .i64, a, b, r⟩ :=
  fk_quo (by rw [ha]; exact h.1) (by rw [hb]; exact h.2.1) (by rw [ha, hb, hr]; exact h.2.2.1) (by rw [hr]; exact h.2.2.2.1) (by rw [hr]; exact h.2.2.2.2)
theorem fR (x y z : Int) (h : 0 ≤ x ∧ 0 < y ∧ z = x % y := by omega) (ha : a.val σ = x := by rfl) (hb : b.val σ = y := by rfl) (hr : r.val σ = z := by rfl) : FAr.Ok σ ⟨.rem, .i64, a, b, r⟩ :=
  fk_rem (by rw [ha]; exact h.1) (by rw [hb]; exact h.2.1) (by rw [ha, hb, hr]; exact h.2.2)
theorem fT (x y : Int) (h : x < y := by omega) (ha : a.val σ = x := by rfl) (hb : b.val σ = y := by rfl) : decide (a.val σ < b.val σ) = true := decide_eq_true (by rw [ha, hb]; exact h)
theorem fN (x y : Int) (h : y ≤ x := by omega) (ha : a.val σ = x := by rfl) (hb : b.val σ = y := by rfl) : decide (a.val σ < b.val σ) = false := decide_eq_false (by rw [ha, hb]; omega)
theorem gc {lo hi x : Int} {g : List (Int × Int)} {l : List Int} (t : Gs g l) (h : lo ≤ x ∧ x ≤ hi := by omega) : Gs ((lo, hi) :: g) (x :: l) := ⟨h, t⟩
end facts
theorem ex (e : Int) : ∃ y : Int, y = e := ⟨_, rfl⟩
theorem an {α : Type} {p : α → Prop} : ∀ e ∈ ([] : List α), p e := by intro e he; cases he
theorem al {α : Type} {p : α → Prop} {a : α} {l : List α} (h : p a) (t : ∀ e ∈ l, p e) : ∀ e ∈ a :: l, p e := by
  intro e he
  rcases List.mem_cons.1 he with rfl | he
  · exact h
  · exact t e he
theorem pz {g : Sg} {σ : Nat → Int} {f : Nat} {args args' : List V} {v v' : V} {l : List Int} (h : ∃ n, (⟨f, args, 0, [], v, n, []⟩ : Sm).Ok Tryz.prog (sgl l)) (Q : List Nm) (hQ : Q.map (Nm.val σ) = l := by rfl) (ha : belows 0 args = true := by kernel_rfl) (hv : below 0 v = true := by kernel_rfl)
    (h1 : (vEqs (rens id (qf Q) args) args' && vEq (ren id (qf Q) v) v') = true := by kernel_rfl) : DoesP (env g) σ ⟨f, args', v'⟩ := by
  obtain ⟨n, hn⟩ := h
  exact pure_sm (E := env g) (n1 := n) Q (by rw [sgn_qf, hQ]; exact hn) ha hv h1
def u8s : List Nat → List V
  | [] => []
  | c :: l => (match Nat.blt c 256 with | true => .int .u8 (c : Int) | false => .sint .u8 (c - 256)) :: u8s l
def upd : List (Nat × B) → List (Nat × B) → List (Nat × B)
  | [], _ => []
  | x :: l, c => (x.1, match lookB x.1 c with | some b => b | none => x.2) :: upd l c
end
end Go.Proofs.YtnpkeganpkobjaaGreatDoor.Ev
