import Derived.Test.YtnpkeganpkobjaaGreatDoorXH
import Derived.Test.YtnpkeganpkobjaaGreatDoorProg
import Derived.Recover
import Derived.Lib.Builder
import Derived.WideLaws
import Derived.Tactics
set_option linter.all false
namespace Go.Proofs.YtnpkeganpkobjaaGreatDoor.Ev
open Go Go.RowKit
noncomputable section
def renC (q : Nat → Nm) (c : Nat) : Nat := match Nat.blt c 256 with
  | true => c
  | false => (match q (c - 256) with | .c n => n.toNat % 256 | .s j => 256 + j)
mutual
def ren (p : Nat → Nat) (q : Nat → Nm) : V → V
  | .undef => .undef
  | .bool b => .bool b
  | .int k n => .int k n
  | .sint k i => nmV k (q i)
  | .flt n => .flt n
  | .sflt i => (match q i with | .c n => .flt n.toNat | .s j => .sflt j)
  | .str l => .str (l.map (renC q))
  | .nilp => .nilp
  | .ptr id off => .ptr (p id) off
  | .nils => .nils
  | .slz => .slz
  | .sl id off len es => .sl (p id) off len es
  | .nilm => .nilm
  | .map id => .map (p id)
  | .nilf => .nilf
  | .fn f l => .fn f (rens p q l)
  | .nili => .nili
  | .ifc t v => .ifc t (ren p q v)
  | .agg l => .agg (rens p q l)
  | .tup l => .tup (rens p q l)
  | .any => .any
  | .iany k => .iany k
  | .nan => .nan
def rens (p : Nat → Nat) (q : Nat → Nm) : List V → List V
  | [] => []
  | v :: l => ren p q v :: rens p q l
end
def renB (p : Nat → Nat) (q : Nat → Nm) : B → B
  | .cells l => .cells (rens p q l)
  | .map l => .map (l.map fun e => (ren p q e.1, ren p q e.2))
  | .iter s n => .iter (s.map (renC q)) n
  | .typ w t l => .typ w t (rens p q l)
  | .smap => .smap
def sgn (σ : Nat → Int) (q : Nat → Nm) : Nat → Int := fun i => (q i).val σ
section ren
variable {σ : Nat → Int} {ρ : Rho} {p : Nat → Nat} {q : Nat → Nm}
theorem renC_byte (c : Nat) : byteOf σ (renC q c) = byteOf (sgn σ q) c := by
  unfold renC
  cases hc : Nat.blt c 256 with
  | true => unfold byteOf byteN; rw [hc]
  | false =>
    have e : byteOf (sgn σ q) c = UInt8.ofNat ((q (c - 256)).val σ).toNat := by unfold byteOf byteN; rw [hc]; rfl
    rw [e]
    cases hq : q (c - 256) with
    | c n =>
      have hb : Nat.blt (n.toNat % 256) 256 = true := by rw [Nat.blt_eq]; omega
      simp only [Nm.val]
      unfold byteOf byteN
      rw [hb]
      apply UInt8.toNat_inj.1
      simp [UInt8.toNat_ofNat']
    | s j =>
      have hb : Nat.blt (256 + j) 256 = false := by
        cases h : Nat.blt (256 + j) 256 with
        | false => rfl
        | true => rw [Nat.blt_eq] at h; omega
      simp only [Nm.val]
      unfold byteOf byteN
      rw [hb]
      show UInt8.ofNat (σ (256 + j - 256)).toNat = _
      rw [Nat.add_sub_cancel_left]
theorem renC_BR {l : List Nat} {s : ByteArray} : BR σ (l.map (renC q)) s ↔ BR (sgn σ q) l s := by
  unfold BR
  rw [List.map_map]
  have : (byteOf σ ∘ renC q) = byteOf (sgn σ q) := funext fun c => renC_byte c
  rw [this]
mutual
theorem VR_ren : ∀ (v : V) (u : Value), VR σ ρ (ren p q v) u ↔ VR (sgn σ q) (fun i => ρ (p i)) v u
  | .undef, u => by simp only [ren, VR]
  | .any, u => by simp only [ren, VR]
  | .iany k, u => by simp only [ren, VR]
  | .nan, u => by simp only [ren, VR]
  | .bool b, u => by simp only [ren, VR]
  | .int k n, u => by simp only [ren, VR]
  | .sint k i, u => by
    simp only [ren, VR, sgn]
    cases q i <;> simp only [nmV, VR, Nm.val]
  | .flt n, u => by simp only [ren, VR]
  | .sflt i, u => by
    simp only [ren, VR, sgn]
    cases q i <;> simp only [VR, Nm.val]
  | .str l, u => by simp only [ren, VR, renC_BR]
  | .nilp, u => by simp only [ren, VR]
  | .ptr id off, u => by simp only [ren, VR]
  | .nils, u => by simp only [ren, VR]
  | .slz, u => by simp only [ren, VR]
  | .sl id off len es, u => by simp only [ren, VR]
  | .nilm, u => by simp only [ren, VR]
  | .map id, u => by simp only [ren, VR]
  | .nilf, u => by simp only [ren, VR]
  | .fn f l, u => by simp only [ren, VR, VRs_ren l]
  | .nili, u => by simp only [ren, VR]
  | .ifc t v, u => by simp only [ren, VR, VR_ren v]
  | .agg l, u => by simp only [ren, VR, VRs_ren l]
  | .tup l, u => by simp only [ren, VR, VRs_ren l]
theorem VRs_ren : ∀ (l : List V) (us : List Value), VRs σ ρ (rens p q l) us ↔ VRs (sgn σ q) (fun i => ρ (p i)) l us
  | [], us => by simp only [rens, VRs]
  | v :: l, us => by simp only [rens, VRs, VR_ren v, VRs_ren l]
end
theorem rens_get : ∀ (l : List V) (i : Nat), (rens p q l)[i]? = (l[i]?).map (ren p q)
  | [], i => by simp [rens]
  | v :: l, 0 => by simp [rens]
  | v :: l, i + 1 => by simp [rens, rens_get l i]
theorem rens_len (l : List V) : (rens p q l).length = l.length := by
  induction l with
  | nil => rfl
  | cons v l ih => simp [rens, ih]
theorem CR_ren {l : List V} {c : Array Value} : CR σ ρ (rens p q l) c ↔ CR (sgn σ q) (fun i => ρ (p i)) l c := by
  constructor
  · intro h i v hv
    obtain ⟨u, h1, h2⟩ := h i (ren p q v) (by rw [rens_get, hv]; rfl)
    exact ⟨u, h1, (VR_ren v u).1 h2⟩
  · intro h i v hv
    rw [rens_get] at hv
    cases hl : l[i]? with
    | none => rw [hl] at hv; cases hv
    | some w =>
      rw [hl] at hv; cases hv
      obtain ⟨u, h1, h2⟩ := h i w hl
      exact ⟨u, h1, (VR_ren w u).2 h2⟩
theorem OR_ren {n : Nat} {b : B} {o : Obj} : OR σ ρ n (renB p q b) o ↔ OR (sgn σ q) (fun i => ρ (p i)) n b o := by
  cases b with
  | cells l => simp only [renB, OR, CR_ren]
  | map l =>
    simp only [renB, OR]
    constructor
    · rintro ⟨es, ck, rfl, h2, h3⟩
      refine ⟨es, ck, rfl, by simpa using h2, fun i pr hp => ?_⟩
      obtain ⟨e, k1, k2, k3⟩ := h3 i (ren p q pr.1, ren p q pr.2) (by simp [hp])
      exact ⟨e, k1, (VR_ren _ _).1 k2, (VR_ren _ _).1 k3.1, k3.2⟩
    · rintro ⟨es, ck, rfl, h2, h3⟩
      refine ⟨es, ck, rfl, by simpa using h2, fun i pr hp => ?_⟩
      simp only [List.getElem?_map, Option.map_eq_some_iff] at hp
      obtain ⟨pr0, hp, rfl⟩ := hp
      obtain ⟨e, k1, k2, k3⟩ := h3 i pr0 hp
      exact ⟨e, k1, (VR_ren _ _).2 k2, (VR_ren _ _).2 k3.1, k3.2⟩
  | iter l n =>
    simp only [renB, OR, renC_BR]
  | typ w t l => simp only [renB, OR, CR_ren, rens_len]
  | smap => simp only [renB, OR]
end ren
def mkH : List (Nat × B) → T B → T B
  | [], t => t
  | e :: l, t => mkH l (T.add 40 t e.1 (some e.2))
def mkSt (l : List (Nat × B)) (n : Nat) : St := ⟨mkH l .e, n, n⟩
theorem mkH_get : ∀ (l : List (Nat × B)) (t : T B) (i : Nat) (b : B), (mkH l t).get i = some b → (i, b) ∈ l ∨ t.get i = some b := by
  intro l
  induction l with
  | nil => intro t i b h; exact .inr h
  | cons e l ih =>
    intro t i b h
    rcases ih _ i b h with h1 | h1
    · exact .inl (by simp [h1])
    · rcases T.get_add 40 t e.1 (some e.2) i with h2 | ⟨h2, h3⟩
      · rw [h2] at h1; exact .inr h1
      · rw [h3] at h1; cases h1; subst h2; exact .inl (by simp)
theorem mkSt_get {l : List (Nat × B)} {n i : Nat} {b : B} (h : (mkSt l n).heap.get i = some b) : (i, b) ∈ l := by
  rcases mkH_get l .e i b h with h | h
  · exact h
  · cases h
structure Sm where
  f : Nat
  args : List V
  n0 : Nat
  h0 : List (Nat × B)
  v : V
  n1 : Nat
  h1 : List (Nat × B)
def Sm.Ok (P : Program) (σ : Nat → Int) (e : Sm) : Prop := ∃ s1 : St, s1.next = e.n1 ∧ (∀ x ∈ e.h1, s1.heap.get x.1 = some x.2) ∧
  ∀ ρ W us, Sim σ ρ (mkSt e.h0 e.n0) W → VRs σ ρ e.args us → (callFunc e.f us.toArray).run P W = .ok (.enter e.f us.toArray) W ∧ Calls P e.f us.toArray W fun x w' => ∃ ρ' u, x = .returned u ∧ VR σ ρ' e.v u ∧ Stp σ ρ (mkSt e.h0 e.n0) W ρ' s1 w'
def has (h : T B) : List (Nat × B) → Bool
  | [] => true
  | x :: l => match oEq (h.get x.1) (some x.2) with | true => has h l | false => false
theorem has_sound {h : T B} : ∀ {l : List (Nat × B)}, has h l = true → ∀ x ∈ l, h.get x.1 = some x.2 := by
  intro l
  induction l with
  | nil => intro _ x hx; simp at hx
  | cons y l ih =>
    intro h1 x hx
    simp only [has] at h1
    split at h1
    · rename_i hy
      simp only [List.mem_cons] at hx
      rcases hx with rfl | hx
      · exact oEq_sound hy
      · exact ih h1 x hx
    · cases h1
def smOk (e : Sm) : Rt → Bool
  | some r => vEq r.1 e.v && Nat.beq r.2.next e.n1 && has r.2.heap e.h1
  | none => false
theorem Sm.of {E : Env} {σ : Nat → Int} {call : Call} (hc : CallOk E σ call) {e : Sm} (h : smOk e (call e.f e.args (mkSt e.h0 e.n0)) = true) : e.Ok E.P σ := by
  cases hr : call e.f e.args (mkSt e.h0 e.n0) with
  | none => rw [hr] at h; cases h
  | some r =>
    rw [hr] at h
    simp only [smOk, Bool.and_eq_true, Nat.beq_eq] at h
    obtain ⟨⟨h1, h2⟩, h3⟩ := h
    obtain ⟨v, s1⟩ := r
    have h1 := vEq_sound _ _ h1
    simp only at h1; subst h1
    refine ⟨s1, h2, has_sound h3, fun ρ W us hs hus => ?_⟩
    exact hc e.f e.args (mkSt e.h0 e.n0) e.v s1 hr ρ W us hs hus
def pf (P : List Nat) (nx i : Nat) : Nat := match lget P i with | some j => j | none => nx + (i - llen P)
def qf (Q : List Nm) (i : Nat) : Nm := match lget Q i with | some a => a | none => .c 0
def lookB (i : Nat) : List (Nat × B) → Option B
  | [] => none
  | x :: l => match Nat.beq x.1 i with | true => some x.2 | false => lookB i l
def sameB (a b : Option B) : Bool := oEq a b
def setOld (p : Nat → Nat) (q : Nat → Nm) (h1 : List (Nat × B)) : List (Nat × B) → St → St
  | [], s => s
  | x :: l, s => match sameB (lookB x.1 h1) (some x.2) with
    | true => setOld p q h1 l s
    | false => setOld p q h1 l (s.set (p x.1) (match lookB x.1 h1 with | some b => some (renB p q b) | none => none))
def addNew (p : Nat → Nat) (q : Nat → Nm) (n0 : Nat) : List (Nat × B) → T B → T B
  | [], t => t
  | x :: l, t => match Nat.ble n0 x.1 with
    | true => addNew p q n0 l (T.add 40 t (p x.1) (some (renB p q x.2)))
    | false => addNew p q n0 l t
def after (e : Sm) (P : List Nat) (Q : List Nm) (s : St) : St :=
  match setOld (pf P s.next) (qf Q) e.h1 e.h0 s with
  | s1 => ⟨addNew (pf P s.next) (qf Q) e.n0 e.h1 s1.heap, s.next + (e.n1 - e.n0), s1.low⟩
def found1 (p : Nat → Nat) (q : Nat → Nm) (h : T B) : List (Nat × B) → Bool
  | [] => true
  | x :: l => match oEq (h.get (p x.1)) (some (renB p q x.2)) with | true => found1 p q h l | false => false
def noneIs (p : Nat → Nat) (j : Nat) : List (Nat × B) → Bool
  | [] => true
  | x :: l => match Nat.beq (p x.1) j with | true => false | false => noneIs p j l
def apartH (p : Nat → Nat) : List (Nat × B) → Bool
  | [] => true
  | x :: l => match noneIs p (p x.1) l with | true => apartH p l | false => false
def allLt (n : Nat) : List Nat → Bool
  | [] => true
  | j :: l => match Nat.blt j n with | true => allLt n l | false => false
def fits (e : Sm) (P : List Nat) (Q : List Nm) (s : St) : Bool :=
  Nat.beq (llen P) e.n0 && allLt s.next P && found1 (pf P s.next) (qf Q) s.heap e.h0 && apartH (pf P s.next) e.h0
section use
variable {E : Env} {σ : Nat → Int} {ρ : Rho} {s : St} {W : World} {p : Nat → Nat} {q : Nat → Nm}
theorem lookB_mem {i : Nat} : ∀ {l : List (Nat × B)} {b : B}, lookB i l = some b → (i, b) ∈ l := by
  intro l
  induction l with
  | nil => intro b h; cases h
  | cons x l ih =>
    intro b h
    simp only [lookB] at h
    split at h
    · rename_i hx; rw [Nat.beq_eq] at hx; cases h; subst hx; simp
    · simp [ih h]
theorem found1_get : ∀ {l : List (Nat × B)} {h : T B}, found1 p q h l = true → ∀ x ∈ l, h.get (p x.1) = some (renB p q x.2) := by
  intro l
  induction l with
  | nil => intro h _ x hx; simp at hx
  | cons y l ih =>
    intro h h1 x hx
    simp only [found1] at h1
    split at h1
    · rename_i hy
      simp only [List.mem_cons] at hx
      rcases hx with rfl | hx
      · exact oEq_sound hy
      · exact ih h1 x hx
    · cases h1
theorem noneIs_ne {j : Nat} : ∀ {l : List (Nat × B)}, noneIs p j l = true → ∀ x ∈ l, p x.1 ≠ j := by
  intro l
  induction l with
  | nil => intro _ x hx; simp at hx
  | cons y l ih =>
    intro h x hx
    simp only [noneIs] at h
    split at h
    · cases h
    · rename_i hy
      simp only [List.mem_cons] at hx
      rcases hx with rfl | hx
      · intro e; rw [e] at hy; rw [show Nat.beq j j = true from Nat.beq_refl j] at hy; cases hy
      · exact ih h x hx
theorem apartH_inj : ∀ {l : List (Nat × B)}, apartH p l = true → ∀ x ∈ l, ∀ y ∈ l, p x.1 = p y.1 → x = y := by
  intro l
  induction l with
  | nil => intro _ x hx; simp at hx
  | cons z l ih =>
    intro h x hx y hy e
    simp only [apartH] at h
    split at h
    · rename_i hz
      have hn := noneIs_ne hz
      simp only [List.mem_cons] at hx hy
      rcases hx with rfl | hx <;> rcases hy with rfl | hy
      · rfl
      · exact absurd e.symm (hn y hy)
      · exact absurd e (hn x hx)
      · exact ih h x hx y hy e
    · cases h
theorem allLt_lt {n : Nat} : ∀ {l : List Nat}, allLt n l = true → ∀ j ∈ l, j < n := by
  intro l
  induction l with
  | nil => intro _ j hj; simp at hj
  | cons i l ih =>
    intro h j hj
    simp only [allLt] at h
    split at h
    · rename_i hi
      rw [Nat.blt_eq] at hi
      simp only [List.mem_cons] at hj
      rcases hj with rfl | hj
      · exact hi
      · exact ih h j hj
    · cases h
theorem pf_old {P : List Nat} {nx i : Nat} (h : i < P.length) : pf P nx i = P[i] := by
  unfold pf; rw [lget_eq, List.getElem?_eq_getElem h]
theorem pf_new {P : List Nat} {nx i : Nat} (h : P.length ≤ i) : pf P nx i = nx + (i - P.length) := by
  unfold pf; rw [lget_eq, List.getElem?_eq_none h, llen_eq]
theorem setOld_spec (h1 : List (Nat × B)) : ∀ (l : List (Nat × B)) (s : St), (∀ x ∈ l, s.heap.get (p x.1) = some (renB p q x.2) ∨ True) → (setOld p q h1 l s).next = s.next ∧ (setOld p q h1 l s).low ≤ s.low ∧
    (∀ j, (∀ x ∈ l, p x.1 ≠ j) → (setOld p q h1 l s).heap.get j = s.heap.get j) ∧ (∀ j, j < (setOld p q h1 l s).low → (setOld p q h1 l s).heap.get j = s.heap.get j) ∧
    ∀ j x, (setOld p q h1 l s).heap.get j = some x → (∃ e ∈ l, j = p e.1 ∧ ∃ b, lookB e.1 h1 = some b ∧ x = renB p q b) ∨ (s.heap.get j = some x ∧ ∀ e ∈ l, j = p e.1 → lookB e.1 h1 = some e.2) := by
  intro l
  induction l with
  | nil => intro s _; exact ⟨rfl, Nat.le_refl _, fun _ _ => rfl, fun _ _ => rfl, fun j x h => .inr ⟨h, by simp⟩⟩
  | cons e l ih =>
    intro s hs
    simp only [setOld]
    split
    · rename_i hsame
      have hsame : lookB e.1 h1 = some e.2 := oEq_sound hsame
      obtain ⟨k1, k2, k3, k4, k5⟩ := ih s (fun _ _ => .inr trivial)
      refine ⟨k1, k2, fun j hj => k3 j (fun x hx => hj x (by simp [hx])), k4, fun j x hx => ?_⟩
      rcases k5 j x hx with ⟨e', he', h2⟩ | ⟨h2, h3⟩
      · exact .inl ⟨e', by simp [he'], h2⟩
      · refine .inr ⟨h2, fun e' he' hj => ?_⟩
        simp only [List.mem_cons] at he'
        rcases he' with rfl | he'
        · exact hsame
        · exact h3 e' he' hj
    · obtain ⟨k1, k2, k3, k4, k5⟩ := ih (s.set (p e.1) (match lookB e.1 h1 with | some b => some (renB p q b) | none => none)) (fun _ _ => .inr trivial)
      refine ⟨k1, Nat.le_trans k2 (minN_left _ _), fun j hj => ?_, fun j hj => ?_, fun j x hx => ?_⟩
      · rw [k3 j (fun x hx => hj x (by simp [hx]))]
        exact T.get_set_ne _ _ _ _ (fun e1 => hj e (by simp) e1.symm)
      · rw [k4 j hj]
        refine T.get_set_ne _ _ _ _ ?_
        intro e1; subst e1
        have h2 : (s.set (p e.1) (match lookB e.1 h1 with | some b => some (renB p q b) | none => none)).low = minN s.low (p e.1) := rfl
        have := minN_right s.low (p e.1)
        omega
      · rcases k5 j x hx with ⟨e', he', h2⟩ | ⟨h2, h3⟩
        · exact .inl ⟨e', by simp [he'], h2⟩
        · by_cases hj : j = p e.1
          · subst hj
            have h4 := T.get_set _ _ _ _ h2
            cases hb : lookB e.1 h1 with
            | none => rw [hb] at h4; cases h4
            | some b => rw [hb] at h4; cases h4; exact .inl ⟨e, by simp, rfl, b, hb, rfl⟩
          · refine .inr ⟨?_, fun e' he' hj' => ?_⟩
            · rw [← show (s.set (p e.1) (match lookB e.1 h1 with | some b => some (renB p q b) | none => none)).heap.get j = s.heap.get j from T.get_set_ne _ _ _ _ hj]; exact h2
            · simp only [List.mem_cons] at he'
              rcases he' with rfl | he'
              · exact absurd hj' hj
              · exact h3 e' he' hj'
theorem addNew_spec (n0 : Nat) : ∀ (l : List (Nat × B)) (t : T B), (∀ j, (∀ x ∈ l, n0 ≤ x.1 → p x.1 ≠ j) → (addNew p q n0 l t).get j = t.get j) ∧ ∀ j x, (addNew p q n0 l t).get j = some x → (∃ e ∈ l, n0 ≤ e.1 ∧ j = p e.1 ∧ x = renB p q e.2) ∨ t.get j = some x := by
  intro l
  induction l with
  | nil => intro t; exact ⟨fun _ _ => rfl, fun j x h => .inr h⟩
  | cons e l ih =>
    intro t
    simp only [addNew]
    split
    · rename_i hn
      rw [Nat.ble_eq] at hn
      obtain ⟨k1, k2⟩ := ih (T.add 40 t (p e.1) (some (renB p q e.2)))
      refine ⟨fun j hj => ?_, fun j x hx => ?_⟩
      · rw [k1 j (fun x hx => hj x (by simp [hx]))]
        rcases T.get_add 40 t (p e.1) (some (renB p q e.2)) j with h | ⟨h, _⟩
        · exact h
        · exact absurd h.symm (hj e (by simp) hn)
      · rcases k2 j x hx with ⟨e', h1, h2⟩ | h1
        · exact .inl ⟨e', by simp [h1], h2⟩
        · rcases T.get_add 40 t (p e.1) (some (renB p q e.2)) j with h | ⟨h, h3⟩
          · rw [h] at h1; exact .inr h1
          · rw [h3] at h1; cases h1; exact .inl ⟨e, by simp, hn, h, rfl⟩
    · obtain ⟨k1, k2⟩ := ih t
      refine ⟨fun j hj => k1 j (fun x hx => hj x (by simp [hx])), fun j x hx => ?_⟩
      rcases k2 j x hx with ⟨e', h1, h2⟩ | h1
      · exact .inl ⟨e', by simp [h1], h2⟩
      · exact .inr h1
set_option maxHeartbeats 1000000 in
theorem use_does {e : Sm} {P : List Nat} {Q : List Nm} (he : e.Ok E.P (sgn σ (qf Q))) {args : List V} (ha : rens (pf P s.next) (qf Q) e.args = args) (hf : fits e P Q s = true) :
    Does E σ e.f args s (ren (pf P s.next) (qf Q) e.v) (after e P Q s) := by
  intro ρ W us hs hus
  obtain ⟨p, hp⟩ : ∃ p, p = pf P s.next := ⟨_, rfl⟩
  obtain ⟨q, hq⟩ : ∃ q, q = qf Q := ⟨_, rfl⟩
  simp only [fits, Bool.and_eq_true, Nat.beq_eq] at hf
  obtain ⟨⟨⟨f1, f2⟩, f3⟩, f4⟩ := hf
  rw [llen_eq] at f1
  have f2 := allLt_lt f2
  have f3 := found1_get f3
  have f4 := apartH_inj f4
  have pold : ∀ i, i < e.n0 → p i < s.next := fun i hi => by rw [hp, pf_old (by omega)]; exact f2 _ (List.getElem_mem _)
  have pnew : ∀ i, e.n0 ≤ i → p i = s.next + (i - e.n0) := fun i hi => by rw [hp, pf_new (by omega), f1]
  rw [← hp] at f3 f4 ha ⊢
  rw [← hq] at f3 ha he ⊢
  obtain ⟨s1, e1, e2, e3⟩ := he
  -- what is known by its own names
  obtain ⟨ρ0, hρ0⟩ : ∃ ρ0 : Rho, ρ0 = fun i => ρ (p i) := ⟨_, rfl⟩
  have r0 : ∀ i, ρ0 i = ρ (p i) := fun i => by rw [hρ0]
  have hlive : ∀ i, ((mkSt e.h0 e.n0).heap.get i).isSome → ∃ b, (i, b) ∈ e.h0 ∧ s.heap.get (p i) = some (renB p q b) := by
    intro i h
    obtain ⟨b, hb⟩ := Option.isSome_iff_exists.1 h
    exact ⟨b, mkSt_get hb, f3 _ (mkSt_get hb)⟩
  have hsim0 : Sim (sgn σ q) ρ0 (mkSt e.h0 e.n0) W := by
    refine ⟨fun i b hb => ?_, fun i j b n m hi hj ri rj => ?_, fun i hi => ?_, fun i b n hr => ?_⟩
    · have h2 := f3 _ (mkSt_get hb)
      obtain ⟨bb, n, o, k1, k2, k3⟩ := hs.blk _ _ h2
      refine ⟨bb, n, o, by rw [r0]; exact k1, k2, ?_⟩
      rw [hρ0]; exact OR_ren.1 k3
    · obtain ⟨bi, h1, h2⟩ := hlive i hi
      obtain ⟨bj, h3, h4⟩ := hlive j hj
      rw [r0] at ri rj
      have := hs.inj (p i) (p j) b n m (by rw [h2]; rfl) (by rw [h4]; rfl) ri rj
      have := f4 _ h1 _ h3 this
      exact (Prod.mk.inj this).1
    · have hi : e.n0 ≤ i := hi
      rw [r0, hs.dom _ (by rw [pnew i hi]; omega)]
    · rw [r0] at hr; exact hs.old (p i) b n hr
  have hus0 : VRs (sgn σ q) ρ0 e.args us := by
    rw [hρ0]
    rw [← ha] at hus
    exact (VRs_ren _ _).1 hus
  obtain ⟨g1, g2⟩ := e3 ρ0 W us hsim0 hus0
  refine ⟨g1, g2.mono ?_⟩
  rintro x w' ⟨ρ1, u, rfl, hv, k⟩
  have hn01 : e.n0 ≤ e.n1 := by have := k.next; rw [e1] at this; exact this
  obtain ⟨ρ', hρ'⟩ : ∃ ρ' : Rho, ρ' = fun j => if j < s.next then ρ j else ρ1 (e.n0 + (j - s.next)) := ⟨_, rfl⟩
  have rlo : ∀ j, j < s.next → ρ' j = ρ j := fun j hj => by rw [hρ']; simp only; rw [if_pos hj]
  have rhi : ∀ j, s.next ≤ j → ρ' j = ρ1 (e.n0 + (j - s.next)) := fun j hj => by rw [hρ']; simp only; rw [if_neg (by omega)]
  have hcomp : ∀ i, ρ' (p i) = ρ1 i := by
    intro i
    rcases Nat.lt_or_ge i e.n0 with c | c
    · rw [rlo _ (pold i c), ← r0, k.ext i c]
    · rw [rhi _ (by rw [pnew i c]; omega), pnew i c]
      congr 1; omega
  have hcomp2 : (fun i => ρ' (p i)) = ρ1 := funext hcomp
  have hmono : ∀ id pr, ρ id = some pr → ρ' id = some pr := fun id pr h => by rw [rlo id (hs.def_lt h)]; exact h
  refine ⟨ρ', u, rfl, (VR_ren _ _).2 (by rw [hcomp2]; exact hv), ?_⟩
  obtain ⟨S1, hS1⟩ : ∃ S1, S1 = setOld p q e.h1 e.h0 s := ⟨_, rfl⟩
  have hafter : Ev.after e P Q s = ⟨addNew p q e.n0 e.h1 S1.heap, s.next + (e.n1 - e.n0), S1.low⟩ := by
    rw [hS1, hp, hq]; rfl
  rw [hafter]
  obtain ⟨o1, o2, o3, o4, o5⟩ := setOld_spec (p := p) (q := q) e.h1 e.h0 s (fun _ _ => .inr trivial)
  rw [← hS1] at o1 o2 o3 o4 o5
  obtain ⟨a1, a2⟩ := addNew_spec (p := p) (q := q) e.n0 e.h1 S1.heap
  -- each block is one of its own, or another one
  have hkind : ∀ j y, (addNew p q e.n0 e.h1 S1.heap).get j = some y → (∃ i b, s1.heap.get i = some b ∧ j = p i ∧ y = renB p q b) ∨ (s.heap.get j = some y ∧ j < s.next ∧ ∀ z ∈ e.h0, j ≠ p z.1) := by
    intro j y hy
    rcases a2 j y hy with ⟨z, z1, z2, z3, z4⟩ | h
    · exact .inl ⟨z.1, z.2, e2 z z1, z3, z4⟩
    · rcases o5 j y h with ⟨z, z1, z2, b, z3, z4⟩ | ⟨h1, h2⟩
      · exact .inl ⟨z.1, b, e2 _ (lookB_mem z3), z2, z4⟩
      · by_cases hz : ∃ z ∈ e.h0, j = p z.1
        · obtain ⟨z, z1, z2⟩ := hz
          have h3 := f3 z z1
          rw [← z2, h1] at h3
          exact .inl ⟨z.1, z.2, e2 _ (lookB_mem (h2 z z1 z2)), z2, Option.some.inj h3⟩
        · exact .inr ⟨h1, hs.lt (by rw [h1]; rfl), fun z hz1 hz2 => hz ⟨z, hz1, hz2⟩⟩
  have hother : ∀ j (b n : Nat), (s.heap.get j).isSome → ρ j = some (b, n) → (∀ z ∈ e.h0, j ≠ p z.1) → ∀ id m, ((mkSt e.h0 e.n0).heap.get id).isSome → ρ0 id ≠ some (b, m) := by
    intro j b n hj hr hz id m hid hr0
    obtain ⟨bi, h1, h2⟩ := hlive id hid
    rw [r0] at hr0
    exact hz _ h1 (hs.inj j (p id) b n m hj (by rw [h2]; rfl) hr hr0)
  have holdlive : ∀ i b n, (s1.heap.get i).isSome → ρ1 i = some (b, n) → b < W.heap.size → ∃ id b', (id, b') ∈ e.h0 ∧ (s.heap.get (p id)).isSome ∧ ρ (p id) = some (b, n) := by
    intro i b n hi hr hb
    obtain ⟨id, h1, h2⟩ := k.live i b n hi hr hb
    obtain ⟨b', h3, h4⟩ := hlive id h1
    rw [r0] at h2
    exact ⟨id, b', h3, by rw [h4]; rfl, h2⟩
  refine ⟨⟨fun j y hy => ?_, fun i j b n m hi hj ri rj => ?_, fun j hj => ?_, fun j b n hr => ?_⟩, fun id hid => rlo id hid, by simp only; omega, k.size, fun j hj hn => ?_, fun id b n hi hr hb => ?_, o2, fun id h1 h2 => ?_, k.os, k.tape, k.output⟩
  · rcases hkind j y hy with ⟨i, b, h1, rfl, rfl⟩ | ⟨h1, h2, h3⟩
    · obtain ⟨bb, n, o, k1, k2, k3⟩ := k.sim.blk i b h1
      exact ⟨bb, n, o, by rw [hcomp]; exact k1, k2, OR_ren.2 (by rw [hcomp2]; exact k3)⟩
    · obtain ⟨bb, n, o, k1, k2, k3⟩ := hs.blk j y h1
      refine ⟨bb, n, o, hmono _ _ k1, ?_, OR.mono hmono k3⟩
      rw [k.frame bb (hs.old _ _ _ k1) (hother j bb n (by rw [h1]; rfl) k1 h3)]; exact k2
  · obtain ⟨yi, hyi⟩ := Option.isSome_iff_exists.1 hi
    obtain ⟨yj, hyj⟩ := Option.isSome_iff_exists.1 hj
    have cross : ∀ i0 b0 j yj n m, s1.heap.get i0 = some b0 → ρ1 i0 = some (b, n) → s.heap.get j = some yj → j < s.next → (∀ z ∈ e.h0, j ≠ p z.1) → ρ' j = some (b, m) → False := by
      intro i0 b0 j yj n m h1 h2 h3 h4 h5 h6
      rw [rlo j h4] at h6
      obtain ⟨id, b', z1, z2, z3⟩ := holdlive i0 b n (by rw [h1]; rfl) h2 (hs.old _ _ _ h6)
      exact h5 _ z1 (hs.inj j (p id) b m n (by rw [h3]; rfl) z2 h6 z3)
    rcases hkind i yi hyi with ⟨i0, bi, h1, rfl, _⟩ | ⟨h1, h2, h3⟩ <;> rcases hkind j yj hyj with ⟨j0, bj, h4, rfl, _⟩ | ⟨h4, h5, h6⟩
    · rw [hcomp] at ri rj
      rw [k.sim.inj i0 j0 b n m (by rw [h1]; rfl) (by rw [h4]; rfl) ri rj]
    · rw [hcomp] at ri
      exact (cross i0 bi j yj n m h1 ri h4 h5 h6 rj).elim
    · rw [hcomp] at rj
      exact (cross j0 bj i yi m n h4 rj h1 h2 h3 ri).elim
    · rw [rlo i h2] at ri; rw [rlo j h5] at rj
      exact hs.inj i j b n m (by rw [h1]; rfl) (by rw [h4]; rfl) ri rj
  · have hj : s.next + (e.n1 - e.n0) ≤ j := hj
    rw [rhi j (by omega)]
    exact k.sim.dom _ (by rw [e1]; omega)
  · rcases Nat.lt_or_ge j s.next with c | c
    · rw [rlo j c] at hr; exact Nat.lt_of_lt_of_le (hs.old j b n hr) k.size
    · rw [rhi j c] at hr; exact k.sim.old _ b n hr
  · refine k.frame j hj (fun id n hid => ?_)
    obtain ⟨b', h3, h4⟩ := hlive id hid
    rw [r0]; exact hn (p id) n (by rw [h4]; rfl)
  · obtain ⟨y, hy⟩ := Option.isSome_iff_exists.1 hi
    rcases hkind id y hy with ⟨i, b0, h1, rfl, _⟩ | ⟨h1, h2, h3⟩
    · rw [hcomp] at hr
      obtain ⟨id', b', z1, z2, z3⟩ := holdlive i b n (by rw [h1]; rfl) hr hb
      exact ⟨p id', z2, z3⟩
    · rw [rlo id h2] at hr
      exact ⟨id, by rw [h1]; rfl, hr⟩
  · simp only
    rw [a1 id (fun x hx hle => by rw [pnew _ hle]; omega)]
    exact o4 id h2
structure Use where
  e : Sm
  at_ : Nat
  P : List Nat
  Q : List Nm
def uses : List Use → Hook
  | [], _, _, _ => none
  | u :: l, f, args, s => match Nat.beq u.e.f f && Nat.beq u.at_ s.next with
    | true => (match vEqs (rens (pf u.P s.next) (qf u.Q) u.e.args) args && fits u.e u.P u.Q s with
      | true => some (some (ren (pf u.P s.next) (qf u.Q) u.e.v, after u.e u.P u.Q s))
      | false => uses l f args s)
    | false => uses l f args s
theorem uses_ok : ∀ (l : List Use), (∀ u ∈ l, u.e.Ok E.P (sgn σ (qf u.Q))) → HookOk E σ (uses l) := by
  intro l
  induction l with
  | nil => intro _ f args s r v s' h; cases h
  | cons u l ih =>
    intro hl f args s r v s' h hr
    simp only [uses] at h
    split at h
    · rename_i hc
      simp only [Bool.and_eq_true, Nat.beq_eq] at hc
      obtain ⟨h1, h2⟩ := hc
      split at h
      · rename_i hc2
        simp only [Bool.and_eq_true] at hc2
        obtain ⟨h3, h4⟩ := hc2
        have h3 := vEqs_sound _ _ h3
        cases h; cases hr
        subst h1
        exact use_does (hl u (by simp)) h3 h4
      · exact ih (fun x hx => hl x (by simp [hx])) f args s r v s' h hr
    · exact ih (fun x hx => hl x (by simp [hx])) f args s r v s' h hr
def purOk (v : V) : Rt → Bool
  | some r => vEq r.1 v
  | none => false
theorem pure_ok {call : Call} (hc : CallOk E σ call) {f : Nat} {args : List V} {v : V} (h : purOk v (call f args ⟨.e, 0, 0⟩) = true) (ha : belows 0 args = true) (hv : below 0 v = true) : DoesP E σ ⟨f, args, v⟩ := by
  cases hr : call f args ⟨.e, 0, 0⟩ with
  | none => rw [hr] at h; cases h
  | some r =>
    rw [hr] at h
    obtain ⟨w, s1⟩ := r
    have h1 : w = v := vEq_sound _ _ h
    subst h1
    exact pure_of (hc f args ⟨.e, 0, 0⟩ w s1 hr) ha hv
theorem sim_pick {P : List Nat} {Q : List Nm} {h0 : List (Nat × B)} {n0 : Nat} (hs : Sim σ ρ s W) (hf : (Nat.beq (llen P) n0 && allLt s.next P && found1 (pf P s.next) (qf Q) s.heap h0 && apartH (pf P s.next) h0) = true) :
    Sim (sgn σ (qf Q)) (fun i => ρ (pf P s.next i)) (mkSt h0 n0) W := by
  simp only [Bool.and_eq_true, Nat.beq_eq] at hf
  obtain ⟨⟨⟨f1, f2⟩, f3⟩, f4⟩ := hf
  rw [llen_eq] at f1
  have f3 := found1_get f3
  have f4 := apartH_inj f4
  refine ⟨fun i b hb => ?_, fun i j b n m hi hj ri rj => ?_, fun i hi => ?_, fun i b n hr => ?_⟩
  · have h2 := f3 _ (mkSt_get hb)
    obtain ⟨bb, n, o, k1, k2, k3⟩ := hs.blk _ _ h2
    exact ⟨bb, n, o, k1, k2, OR_ren.1 k3⟩
  · obtain ⟨bi, hbi⟩ := Option.isSome_iff_exists.1 hi
    obtain ⟨bj, hbj⟩ := Option.isSome_iff_exists.1 hj
    have h1 := mkSt_get hbi
    have h3 := mkSt_get hbj
    have := hs.inj _ _ b n m (by rw [f3 _ h1]; rfl) (by rw [f3 _ h3]; rfl) ri rj
    have := f4 _ h1 _ h3 this
    exact (Prod.mk.inj this).1
  · have hi : n0 ≤ i := hi
    exact hs.dom _ (by rw [pf_new (by omega)]; omega)
  · exact hs.old _ b n hr
end use
def extT (f : Nat) : Option Ex := match Nat.beq f 325 with
  | true => some .indexByte
  | false => match Nat.beq f 402 with
    | true => some .indexByte
    | false => match Nat.beq f 377 with
      | true => some .count
      | false => match Nat.beq f 333 with
        | true => some .bits
        | false => match Nat.beq f 334 with
          | true => some .frombits
          | false => match Nat.beq f 229 with
            | true => some .same
            | false => match Nat.beq f 283 with
              | true => some .noZero
              | false => none
def fnT (f : Nat) : Option FE := match Tryz.prog.funcs[f]? with
  | some fn => (match fn.body with
    | some c => some ⟨c, fn.ntmps, fn.results.toList⟩
    | none => none)
  | none => none
def idleT (g : Nat) : Bool := Nat.beq g 299 || Nat.beq g 247 || Nat.beq g 206
def keysT (t : Nat) : List V → Bool
  | [.int .i64 _, .str _, .str _, .bool _] => Nat.beq t 293
  | _ => false
def doorT (f : Nat) : Bool := Nat.beq f 84
def methT (t : Nat) (m : String) : Option (Nat × Option TypeId) := match Nat.beq t 104 with
  | true => (match decide (m = "Peek") with
    | true => some (169, none)
    | false => match decide (m = "Add") with | true => some (446, none) | false => none)
  | false => match Nat.beq t 326 with
    | true => (match decide (m = "Less") with
      | true => some (455, some 275)
      | false => match decide (m = "Swap") with
        | true => some (456, some 275)
        | false => match decide (m = "Len") with
          | true => some (454, some 275)
          | false => match decide (m = "Push") with
            | true => some (458, none)
            | false => match decide (m = "Pop") with
              | true => some (457, none)
              | false => none)
    | false => none
structure Sg where
  G : Nat → Int × Int
  ar : BinOp → IntKind → Nm → Nm → Option Nm
  lt : Nm → Nm → Option Bool
  eq : Nm → Nm → Option Bool
  fb : BinOp → Nm → Nm → Option V
  fc : Nm → Option V
  fi : IntKind → Nm → Option V
  fn : Nm → Option V
def env (g : Sg) : Env := ⟨Tryz.prog, g.G, extT, fnT, 245, 5, methT, idleT, keysT, g.ar, g.lt, g.eq, g.fb, g.fc, g.fi, g.fn, doorT⟩
structure SgOk (g : Sg) (σ : Nat → Int) : Prop where
  bounds : Gok g.G σ
  facts : Fok (env g) σ
theorem names_ok : (Tryz.prog.funcs.toList.all fun fn => !(fn.name == "runtime.NumGoroutine")) = true := by kernel_rfl
theorem name_ok {f : Nat} {fn : Func} (h : Tryz.prog.funcs[f]? = some fn) : (fn.name == "runtime.NumGoroutine") = false := by
  have := List.all_eq_true.1 names_ok fn (by
    have : Tryz.prog.funcs.toList[f]? = some fn := by simpa using h
    exact List.mem_of_getElem? this)
  simpa using this
theorem call_body {f : Nat} {fn : Func} {c : Code} (h : Tryz.prog.funcs[f]? = some fn) (hb : fn.body = some c) (args : Array Value) (W : World) : (callFunc f args).run Tryz.prog W = .ok (.enter f args) W := by
  have hn : ¬ fn.name = "runtime.NumGoroutine" := by simpa using name_ok h
  simp [callFunc, h, hn, hb]
theorem call_ext {f : Nat} {fn : Func} {e : Array Value → Sem Value} (h : Tryz.prog.funcs[f]? = some fn) (hb : fn.body = none) (h1 : Extern.findNext fn = none) (h2 : Extern.find fn = some e) (args : Array Value) (W : World) :
    (callFunc f args).run Tryz.prog W = ((e args).run Tryz.prog W).andThen fun u w => .ok (.value u) w := by
  have hn : ¬ fn.name = "runtime.NumGoroutine" := by simpa using name_ok h
  simp [callFunc, h, hn, hb, h1, h2]
theorem next_ixs : Extern.findNext Tryz.f325 = none := by kernel_rfl
theorem row_ixs : Extern.find Tryz.f325 = some Extern.BytealgIndexByte.indexByte := by kernel_rfl
theorem next_ixb : Extern.findNext Tryz.f402 = none := by kernel_rfl
theorem row_ixb : Extern.find Tryz.f402 = some Extern.BytealgIndexByte.indexByte := by kernel_rfl
theorem next_cnt : Extern.findNext Tryz.f377 = none := by kernel_rfl
theorem row_cnt : Extern.find Tryz.f377 = some Extern.BytealgCount.count := by kernel_rfl
theorem next_fb : Extern.findNext Tryz.f333 = none := by kernel_rfl
theorem row_fb : Extern.find Tryz.f333 = some Extern.MathFloatBits.float64bits := by kernel_rfl
theorem next_ff : Extern.findNext Tryz.f334 = none := by kernel_rfl
theorem row_ff : Extern.find Tryz.f334 = some Extern.MathFloatBits.float64frombits := by kernel_rfl
theorem next_ne : Extern.findNext Tryz.f229 = none := by kernel_rfl
theorem row_ne : Extern.find Tryz.f229 = some Extern.AbiNoEscape.same := by kernel_rfl
theorem exts_ok (f : Nat) (x : Ex) (h : extT f = some x) (hx : x ≠ .noZero) (args : Array Value) (W : World) : (callFunc f args).run Tryz.prog W = ((exRow x args).run Tryz.prog W).andThen fun u w => .ok (.value u) w := by
  unfold extT at h
  split at h
  · rename_i q; rw [Nat.beq_eq] at q; subst q; cases h; exact call_ext Tryz.func325 rfl next_ixs row_ixs args W
  · split at h
    · rename_i q; rw [Nat.beq_eq] at q; subst q; cases h; exact call_ext Tryz.func402 rfl next_ixb row_ixb args W
    · split at h
      · rename_i q; rw [Nat.beq_eq] at q; subst q; cases h; exact call_ext Tryz.func377 rfl next_cnt row_cnt args W
      · split at h
        · rename_i q; rw [Nat.beq_eq] at q; subst q; cases h; exact call_ext Tryz.func333 rfl next_fb row_fb args W
        · split at h
          · rename_i q; rw [Nat.beq_eq] at q; subst q; cases h; exact call_ext Tryz.func334 rfl next_ff row_ff args W
          · split at h
            · rename_i q; rw [Nat.beq_eq] at q; subst q; cases h; exact call_ext Tryz.func229 rfl next_ne row_ne args W
            · split at h
              · cases h; exact absurd rfl hx
              · cases h
theorem next_nz : Extern.findNext Tryz.f283 = none := by kernel_rfl
theorem row_nz : Extern.find Tryz.f283 = some (Extern.BytealgMakeNoZero.makeNoZero #[3] #[23]) := by kernel_rfl
theorem rooms_ok (f : Nat) (h : extT f = some .noZero) : ∃ ps t, Tryz.prog.underlying t = some (.slice 5) ∧ ∀ args W, (callFunc f args).run Tryz.prog W = ((Extern.BytealgMakeNoZero.makeNoZero ps #[t] args).run Tryz.prog W).andThen fun u w => .ok (.value u) w := by
  have hf : f = 283 := by
    unfold extT at h
    repeat (split at h; · first | (cases h; done) | (rename_i q; rw [Nat.beq_eq] at q; exact q))
    cases h
  subst hf
  exact ⟨_, _, Tryz.underlying23, fun args W => call_ext Tryz.func283 rfl next_nz row_nz args W⟩
theorem m_peek (a : Addr) (w : World) : (method (Tryz.prog.types.size + Made.depth) 104 (.pointer (some a)) "Peek").run Tryz.prog w = .ok (169, .pointer (some a)) w := by kernel_rfl
theorem m_add (a : Addr) (w : World) : (method (Tryz.prog.types.size + Made.depth) 104 (.pointer (some a)) "Add").run Tryz.prog w = .ok (446, .pointer (some a)) w := by kernel_rfl
theorem m_push (a : Addr) (w : World) : (method (Tryz.prog.types.size + Made.depth) 326 (.pointer (some a)) "Push").run Tryz.prog w = .ok (458, .pointer (some a)) w := by kernel_rfl
theorem m_pop (a : Addr) (w : World) : (method (Tryz.prog.types.size + Made.depth) 326 (.pointer (some a)) "Pop").run Tryz.prog w = .ok (457, .pointer (some a)) w := by kernel_rfl
theorem m_less (a : Addr) (w : World) : (method (Tryz.prog.types.size + Made.depth) 326 (.pointer (some a)) "Less").run Tryz.prog w = ((loadVar 275 a).run Tryz.prog w).andThen fun u w => .ok (455, u) w := by
  have h1 : (method (Tryz.prog.types.size + Made.depth) 326 (.pointer (some a)) "Less").run Tryz.prog w = ((do let v ← loadVar 275 a; pure ((455 : FuncId), v) : Sem (FuncId × Value))).run Tryz.prog w := by kernel_rfl
  rw [h1]; simp only [Sem.run_bind, Sem.run_pure]
theorem m_swap (a : Addr) (w : World) : (method (Tryz.prog.types.size + Made.depth) 326 (.pointer (some a)) "Swap").run Tryz.prog w = ((loadVar 275 a).run Tryz.prog w).andThen fun u w => .ok (456, u) w := by
  have h1 : (method (Tryz.prog.types.size + Made.depth) 326 (.pointer (some a)) "Swap").run Tryz.prog w = ((do let v ← loadVar 275 a; pure ((456 : FuncId), v) : Sem (FuncId × Value))).run Tryz.prog w := by kernel_rfl
  rw [h1]; simp only [Sem.run_bind, Sem.run_pure]
theorem m_len (a : Addr) (w : World) : (method (Tryz.prog.types.size + Made.depth) 326 (.pointer (some a)) "Len").run Tryz.prog w = ((loadVar 275 a).run Tryz.prog w).andThen fun u w => .ok (454, u) w := by
  have h1 : (method (Tryz.prog.types.size + Made.depth) 326 (.pointer (some a)) "Len").run Tryz.prog w = ((do let v ← loadVar 275 a; pure ((454 : FuncId), v) : Sem (FuncId × Value))).run Tryz.prog w := by kernel_rfl
  rw [h1]; simp only [Sem.run_bind, Sem.run_pure]
theorem meths_ok (t : Nat) (m : String) (q : Nat × Option TypeId) (h : methT t m = some q) (a : Addr) (W : World) : (method (Tryz.prog.types.size + Made.depth) t (.pointer (some a)) m).run Tryz.prog W = match q.2 with
    | none => .ok (q.1, .pointer (some a)) W
    | some tt => ((loadVar tt a).run Tryz.prog W).andThen fun u w => .ok (q.1, u) w := by
  unfold methT at h
  split at h
  · rename_i ht; rw [Nat.beq_eq] at ht; subst ht
    split at h
    · rename_i hm; rw [decide_eq_true_eq] at hm; subst hm; cases h; exact m_peek a W
    · split at h
      · rename_i hm; rw [decide_eq_true_eq] at hm; subst hm; cases h; exact m_add a W
      · cases h
  · split at h
    · rename_i ht; rw [Nat.beq_eq] at ht; subst ht
      split at h
      · rename_i hm; rw [decide_eq_true_eq] at hm; subst hm; cases h; exact m_less a W
      · split at h
        · rename_i hm; rw [decide_eq_true_eq] at hm; subst hm; cases h; exact m_swap a W
        · split at h
          · rename_i hm; rw [decide_eq_true_eq] at hm; subst hm; cases h; exact m_len a W
          · split at h
            · rename_i hm; rw [decide_eq_true_eq] at hm; subst hm; cases h; exact m_push a W
            · split at h
              · rename_i hm; rw [decide_eq_true_eq] at hm; subst hm; cases h; exact m_pop a W
              · cases h
    · cases h
theorem bt_size : sizeT Tryz.prog 245 = some 2 := by kernel_rfl
theorem bt_lies : liesAt Tryz.prog Tryz.prog.depth 245 (2 / Tryz.prog.cellsOf 245) 0 245 1 = true := by kernel_rfl
theorem bt_ok : BtOk Tryz.prog 245 := by
  intro W src dst ds d b c fz hs hd h hb hc
  rw [bt_size] at hc
  have hc : c.size = 2 := (Option.some.inj hc).symm
  have hsh : W.shape? b = some (245, c.size) := by simp [World.shape?, hb]
  obtain ⟨i, hi, hi2⟩ := sizeT_bare bt_size
  unfold dirOk at h
  split at h
  · rename_i v
    split at h
    · rw [Nat.beq_eq] at h; subst h
      exact Lib.run_to_unsafe W ⟨b, 0, none⟩ hs hd hi (by omega) hsh (by rw [hc]; simp)
    · cases h
  · split at h
    · rw [Nat.beq_eq] at h; subst h
      exact Lib.run_from_unsafe W ⟨b, 0, none⟩ hs hd hi hsh (by rw [hc]; exact bt_lies)
    · cases h
  · cases h
theorem fns_ok (f : Nat) (e : FE) (h : fnT f = some e) : ∃ fn, Tryz.prog.funcs[f]? = some fn ∧ fn.body = some e.code ∧ fn.ntmps = e.ntmps ∧ fn.results.toList = e.results ∧ ∀ args W, (callFunc f args).run Tryz.prog W = .ok (.enter f args) W := by
  unfold fnT at h
  split at h
  · rename_i fn hfn
    split at h
    · rename_i c hc; cases h
      exact ⟨fn, hfn, hc, rfl, rfl, fun args W => call_body hfn hc args W⟩
    · cases h
  · cases h
theorem idle_any {P : Program} {f : Nat} {fn : Func} {o0 o3 o4 : Oper} {X : Code} {ats : Array TypeId} {n : Nat} (hf : P.funcs[f]? = some fn) (hb : fn.body = some (.seq (.region 0 #[o0] false) (.block 0 (.seq (.region 3 #[o3] false) (.cond (.tmp 7) (.region 4 #[o4] false) X)))))
    (hn : 8 ≤ fn.ntmps) (hr : fn.results = #[]) (h0 : o0.op = .call { callee := .builtin .recover, args := #[], argTypes := ats }) (d0 : o0.dst = some 5) (g0 : o0.guard = none)
    (h3 : o3.op = .binOp .eql n (.tmp 5) (.const .nilIface) n) (d3 : o3.dst = some 7) (g3 : o3.guard = none) (h4 : o4.op = .assign (.tmp 5)) (g4 : o4.guard = none)
    (hi : P.underlying n = some (.interface (P.methodsAt n))) (caps : Array Value) (W : World) : CallsD P f caps .returning W fun e u' w' => (∃ v, e = .returned v) ∧ u' = .returning ∧ w' = W := by
  refine callsD_of_wpS hf hb fun c₀ cs hu => ?_
  apply wpS_seq
  apply wpS_region
  obtain ⟨T, hT⟩ : ∃ T, T = caps ++ Array.replicate (fn.ntmps - caps.size) Go.undef := ⟨_, rfl⟩
  have hsz : 8 ≤ T.size := by rw [hT]; simp; omega
  rw [← hT]
  have e0 : ∀ (ρ : Operand → Value) (w : World), (execOp ρ o0).run P w = .ok .recover w := by
    intro ρ w
    obtain ⟨dst, op, type, pos, after, guard⟩ := o0
    simp only at h0
    subst h0
    simp [execOp, resolve, invoke, builtin]
  have hw0 : ∀ y, Region.wanted o0 y = true := fun y => by simp [Region.wanted, g0]
  have hw3 : ∀ y, Region.wanted o3 y = true := fun y => by simp [Region.wanted, g3]
  have hw4 : ∀ y, Region.wanted o4 y = true := fun y => by simp [Region.wanted, g4]
  have hrec : recoverD (c₀ :: cs) = none := by simp [recoverD, hu]
  simp only [List.size_toArray, List.length_cons, List.length_nil, Nat.zero_add, List.range_succ, List.range_zero, List.nil_append, wpOpsS, List.getElem?_toArray, List.getElem?_cons_zero, hw0, if_true, e0, hrec, d0, Exit.thenS]
  refine wpS_of_wp (wp_block (wp_seq (wp_region ?_)))
  have e3 : ∀ (a : Act) (w : World), a.tmps.getD 5 Go.undef = .nilIface → (execOp a.eval o3).run P w = .ok (.value (.bool true)) w := by
    intro a w ha
    obtain ⟨dst, op, type, pos, after, guard⟩ := o3
    simp only at h3
    subst h3
    have h1 : a.eval (.tmp 5) = .nilIface := ha
    have h2 : a.eval (.const .nilIface) = .nilIface := rfl
    have hg : (eqGuard .eql n (.tmp 5) (.const .nilIface) .nilIface .nilIface).run P w = .ok () w := rfl
    have hb := run_eql_nil_nil (P := P) (w := w) n hi
    simp only [execOp, h1, h2, Sem.run_bind, hg, Result.andThen_ok, hb, Sem.run_pure]
  have e4 : ∀ (a : Act) (w : World), ∃ u, (execOp a.eval o4).run P w = .ok (.value u) w := by
    intro a w
    obtain ⟨dst, op, type, pos, after, guard⟩ := o4
    simp only at h4
    subst h4
    exact ⟨_, rfl⟩
  have hg : (({ tmps := T, defers := [] } : Act).put (some 5) .nilIface).tmps.getD 5 Go.undef = .nilIface := by
    have : 5 < T.size := by omega
    simp [Act.put, this]
  simp only [List.size_toArray, List.length_cons, List.length_nil, Nat.zero_add, List.range_succ, List.range_zero, List.nil_append, wpOps, List.getElem?_toArray, List.getElem?_cons_zero, hw3, if_true, Oper.wp, e3 _ _ hg, Oper.upon, d3, Exit.then]
  left
  refine wp_cond_true ?_ (wp_region ?_)
  · have : 7 < T.size := by omega
    simp [Act.eval, Act.put, this]
  · simp only [List.size_toArray, List.length_cons, List.length_nil, Nat.zero_add, List.range_succ, List.range_zero, List.nil_append, wpOps, List.getElem?_toArray, List.getElem?_cons_zero, hw4, if_true, Oper.wp]
    left
    obtain ⟨u, hu4⟩ := e4 ((({ tmps := T, defers := [] } : Act).put (some 5) .nilIface).put (some 7) (.bool true)) W
    rw [hu4]
    simp only [Oper.upon, Exit.inBlock]
    have hd : ∀ (a : Act) (d : Option Tmp) (v : Value), (a.put d v).defers = a.defers := fun a d v => put_defers
    simp only [bodyPostS]
    refine ⟨by rw [hd, hd, hd], .returning, by rw [← hu], .tuple #[], by simp [results, hr], ⟨_, rfl⟩, rfl, trivial⟩
set_option maxRecDepth 10000 in
theorem idle_row (caps : Array Value) (W : World) : CallsD Tryz.prog 299 caps .returning W fun e u' w' => (∃ v, e = .returned v) ∧ u' = .returning ∧ w' = W :=
  idle_any (fn := Tryz.f299) Tryz.func299 rfl (Nat.le_of_ble_eq_true rfl) rfl rfl rfl rfl rfl rfl rfl rfl rfl Tryz.underlying20 caps W
set_option maxRecDepth 10000 in
theorem idle_doc (caps : Array Value) (W : World) : CallsD Tryz.prog 247 caps .returning W fun e u' w' => (∃ v, e = .returned v) ∧ u' = .returning ∧ w' = W :=
  idle_any (fn := Tryz.f247) Tryz.func247 rfl (Nat.le_of_ble_eq_true rfl) rfl rfl rfl rfl rfl rfl rfl rfl rfl Tryz.underlying20 caps W
set_option maxRecDepth 10000 in
theorem idle_cfg (caps : Array Value) (W : World) : CallsD Tryz.prog 206 caps .returning W fun e u' w' => (∃ v, e = .returned v) ∧ u' = .returning ∧ w' = W :=
  idle_any (fn := Tryz.f206) Tryz.func206 rfl (Nat.le_of_ble_eq_true rfl) rfl rfl rfl rfl rfl rfl rfl rfl rfl Tryz.underlying20 caps W
theorem idles_ok (g : Nat) (h : idleT g = true) (caps : Array Value) (W : World) : (callFunc g caps).run Tryz.prog W = .ok (.enter g caps) W ∧ CallsD Tryz.prog g caps .returning W fun e u' w' => (∃ v, e = .returned v) ∧ u' = .returning ∧ w' = W := by
  unfold idleT at h
  simp only [Bool.or_eq_true, Nat.beq_eq] at h
  rcases h with (rfl | rfl) | rfl
  · exact ⟨call_body Tryz.func299 rfl caps W, idle_row caps W⟩
  · exact ⟨call_body Tryz.func247 rfl caps W, idle_doc caps W⟩
  · exact ⟨call_body Tryz.func206 rfl caps W, idle_cfg caps W⟩
theorem check_step (d : Nat) (b : Bool) (n : Int) (x y : ByteArray) (c : Bool) (W : World) : (Instr.checkKey b (d + 2) 293 (.agg #[.int .i64 n, .string x, .string y, .bool c])).run Tryz.prog W = .ok () W := by
  simp [Instr.checkKey, run_underlying Tryz.underlying293, run_underlying Tryz.underlying3, run_underlying Tryz.underlying9, run_underlying Tryz.underlying4, part, isAgg]
theorem held_step : Tryz.prog.stoodInHeld 293 = false := by kernel_rfl
theorem eqIn_i (d : Nat) (a b : Int) (W : World) : (Op.equalIn (d + 1) 3 (.int .i64 a) (.int .i64 b)).run Tryz.prog W = .ok (a == b) W := by
  simp [Op.equalIn, run_underlying Tryz.underlying3]
theorem eqIn_s (d : Nat) (a b : ByteArray) (W : World) : (Op.equalIn (d + 1) 9 (.string a) (.string b)).run Tryz.prog W = .ok (a == b) W := by
  simp [Op.equalIn, run_underlying Tryz.underlying9]
theorem eqIn_b (d : Nat) (a b : Bool) (W : World) : (Op.equalIn (d + 1) 4 (.bool a) (.bool b)).run Tryz.prog W = .ok (a == b) W := eqIn_bool d Tryz.underlying4 a b
theorem part_at {t : TypeId} {d : TypeDesc} (hd : Tryz.prog.underlying t = some d) (ha : aggT d = false) {cs : Array Value} {o : Nat} {u : Value} (h : cs[o]? = some u) (W : World) : (part t cs o).run Tryz.prog W = .ok u W := by
  simp [part, run_aggT hd, ha, h]
theorem eq_step0 (d : Nat) (n m : Int) (x y : ByteArray) (c : Bool) (us : Array Value) (W : World) (h0 : us[0]? = some (.int .i64 m)) (hn : (n == m) = false) : (Op.equalIn (d + 1 + 1) 293 (.agg #[.int .i64 n, .string x, .string y, .bool c]) (.agg us)).run Tryz.prog W = .ok false W := by
  have p0 := part_at (W := W) Tryz.underlying3 rfl (cs := #[.int .i64 n, .string x, .string y, .bool c]) (o := 0) rfl
  have p1 := part_at (W := W) Tryz.underlying9 rfl (cs := #[.int .i64 n, .string x, .string y, .bool c]) (o := 1) rfl
  have p2 := part_at (W := W) Tryz.underlying9 rfl (cs := #[.int .i64 n, .string x, .string y, .bool c]) (o := 2) rfl
  have p3 := part_at (W := W) Tryz.underlying4 rfl (cs := #[.int .i64 n, .string x, .string y, .bool c]) (o := 3) rfl
  have q0 := part_at (W := W) Tryz.underlying3 rfl h0
  rw [Op.equalIn]
  simp only [Sem.run_bind, run_underlying Tryz.underlying293, Result.andThen_ok, run_program, held_step]
  simp [p0, p1, p2, p3, eqIn_i, eqIn_s, eqIn_b, q0, hn]
theorem eq_step1 (d : Nat) (n : Int) (x y x' : ByteArray) (c : Bool) (us : Array Value) (W : World) (h0 : us[0]? = some (.int .i64 n)) (h1 : us[1]? = some (.string x')) (hn : (x == x') = false) : (Op.equalIn (d + 1 + 1) 293 (.agg #[.int .i64 n, .string x, .string y, .bool c]) (.agg us)).run Tryz.prog W = .ok false W := by
  have p0 := part_at (W := W) Tryz.underlying3 rfl (cs := #[.int .i64 n, .string x, .string y, .bool c]) (o := 0) rfl
  have p1 := part_at (W := W) Tryz.underlying9 rfl (cs := #[.int .i64 n, .string x, .string y, .bool c]) (o := 1) rfl
  have p2 := part_at (W := W) Tryz.underlying9 rfl (cs := #[.int .i64 n, .string x, .string y, .bool c]) (o := 2) rfl
  have p3 := part_at (W := W) Tryz.underlying4 rfl (cs := #[.int .i64 n, .string x, .string y, .bool c]) (o := 3) rfl
  have q0 := part_at (W := W) Tryz.underlying3 rfl h0
  have q1 := part_at (W := W) Tryz.underlying9 rfl h1
  rw [Op.equalIn]
  simp only [Sem.run_bind, run_underlying Tryz.underlying293, Result.andThen_ok, run_program, held_step]
  simp [p0, p1, p2, p3, eqIn_i, eqIn_s, eqIn_b, q0, q1, hn]
theorem eq_step2 (d : Nat) (n : Int) (x y x' y' : ByteArray) (c : Bool) (us : Array Value) (W : World) (h0 : us[0]? = some (.int .i64 n)) (h1 : us[1]? = some (.string x')) (hx : (x == x') = true) (h2 : us[2]? = some (.string y')) (hn : (y == y') = false) : (Op.equalIn (d + 1 + 1) 293 (.agg #[.int .i64 n, .string x, .string y, .bool c]) (.agg us)).run Tryz.prog W = .ok false W := by
  have p0 := part_at (W := W) Tryz.underlying3 rfl (cs := #[.int .i64 n, .string x, .string y, .bool c]) (o := 0) rfl
  have p1 := part_at (W := W) Tryz.underlying9 rfl (cs := #[.int .i64 n, .string x, .string y, .bool c]) (o := 1) rfl
  have p2 := part_at (W := W) Tryz.underlying9 rfl (cs := #[.int .i64 n, .string x, .string y, .bool c]) (o := 2) rfl
  have p3 := part_at (W := W) Tryz.underlying4 rfl (cs := #[.int .i64 n, .string x, .string y, .bool c]) (o := 3) rfl
  have q0 := part_at (W := W) Tryz.underlying3 rfl h0
  have q1 := part_at (W := W) Tryz.underlying9 rfl h1
  have q2 := part_at (W := W) Tryz.underlying9 rfl h2
  rw [Op.equalIn]
  simp only [Sem.run_bind, run_underlying Tryz.underlying293, Result.andThen_ok, run_program, held_step]
  simp [p0, p1, p2, p3, eqIn_i, eqIn_s, eqIn_b, q0, q1, q2, hn, hx]
theorem eq_step3 (d : Nat) (n : Int) (x y x' y' : ByteArray) (c c' : Bool) (us : Array Value) (W : World) (h0 : us[0]? = some (.int .i64 n)) (h1 : us[1]? = some (.string x')) (hx : (x == x') = true) (h2 : us[2]? = some (.string y')) (hy : (y == y') = true) (h3 : us[3]? = some (.bool c')) : (Op.equalIn (d + 1 + 1) 293 (.agg #[.int .i64 n, .string x, .string y, .bool c]) (.agg us)).run Tryz.prog W = .ok (c == c') W := by
  have p0 := part_at (W := W) Tryz.underlying3 rfl (cs := #[.int .i64 n, .string x, .string y, .bool c]) (o := 0) rfl
  have p1 := part_at (W := W) Tryz.underlying9 rfl (cs := #[.int .i64 n, .string x, .string y, .bool c]) (o := 1) rfl
  have p2 := part_at (W := W) Tryz.underlying9 rfl (cs := #[.int .i64 n, .string x, .string y, .bool c]) (o := 2) rfl
  have p3 := part_at (W := W) Tryz.underlying4 rfl (cs := #[.int .i64 n, .string x, .string y, .bool c]) (o := 3) rfl
  have q0 := part_at (W := W) Tryz.underlying3 rfl h0
  have q1 := part_at (W := W) Tryz.underlying9 rfl h1
  have q2 := part_at (W := W) Tryz.underlying9 rfl h2
  have q3 := part_at (W := W) Tryz.underlying4 rfl h3
  rw [Op.equalIn]
  simp only [Sem.run_bind, run_underlying Tryz.underlying293, Result.andThen_ok, run_program, held_step]
  simp [p0, p1, p2, p3, eqIn_i, eqIn_s, eqIn_b, q0, q1, q2, q3, hx, hy]
  by_cases hc : c = c' <;> simp [hc]
set_option maxRecDepth 30000 in
theorem keys_ok (g : Sg) (σ : Nat → Int) (hG : Gok g.G σ) : KeysOk (env g) σ := by
  intro t l ρ us h hus
  have h : keysT t l = true := h
  unfold keysT at h
  split at h
  · rename_i n xs ys c _
    rw [Nat.beq_eq] at h; subst h
    simp only [VRs, VR] at hus
    obtain ⟨_, _, rfl, ⟨_, _, ⟨x, hx, rfl⟩, ⟨_, _, ⟨y, hy, rfl⟩, ⟨_, _, rfl, rfl, rfl⟩, rfl⟩, rfl⟩, rfl⟩ := hus
    refine ⟨⟨_, Tryz.underlying293⟩, fun W => ⟨fun b => check_step 9998 b n x y c W, ?_⟩⟩
    intro l' us' r hus' hr
    have hr : eqKs g.G [.int .i64 n, .str xs, .str ys, .bool c] l' = some r := hr
    have step : ∀ (k : V) (kl l' : List V) (us' : List Value), VRs σ ρ l' us' → eqKs g.G (k :: kl) l' = some r → ∃ b bl u ul, l' = b :: bl ∧ us' = u :: ul ∧ VR σ ρ b u ∧ VRs σ ρ bl ul ∧ ((eqK1 g.G k b = some true ∧ eqKs g.G kl bl = some r) ∨ (eqK1 g.G k b = some false ∧ r = false)) := by
      intro k kl l' us' h1 h2
      cases l' with
      | nil => simp [eqKs] at h2
      | cons b bl =>
        simp only [VRs] at h1
        obtain ⟨u, ul, k1, k2, rfl⟩ := h1
        refine ⟨b, bl, u, ul, rfl, rfl, k1, k2, ?_⟩
        simp only [eqKs] at h2
        split at h2
        · exact .inl ⟨by assumption, h2⟩
        · cases h2; exact .inr ⟨by assumption, rfl⟩
        · cases h2
    obtain ⟨b0, l1, u0, w1, rfl, rfl, k0, hl1, q0⟩ := step _ _ _ _ hus' hr
    rcases q0 with ⟨e0, r0⟩ | ⟨e0, rfl⟩
    · rcases key_next e0 with ⟨_, _, a1, _⟩ | ⟨_, _, m, a1, rfl, a3⟩ | ⟨_, _, a1, _⟩ <;> cases a1
      simp only [decide_eq_true_eq] at a3; subst a3
      simp only [VR] at k0; subst k0
      obtain ⟨b1, l2, u1, w2, rfl, rfl, k1, hl2, q1⟩ := step _ _ _ _ hl1 r0
      rcases q1 with ⟨e1, r1⟩ | ⟨e1, rfl⟩
      · rcases key_next e1 with ⟨_, _, a1, rfl, a3⟩ | ⟨_, _, m, a1, _⟩ | ⟨_, _, a1, _⟩ <;> cases a1
        simp only [VR] at k1; obtain ⟨x', hx', rfl⟩ := k1
        have hxx : (x == x') = true := by rw [bytes_eq hx hx', eqS_sound hG a3]
        obtain ⟨b2, l3, u2, w3, rfl, rfl, k2, hl3, q2⟩ := step _ _ _ _ hl2 r1
        rcases q2 with ⟨e2, r2⟩ | ⟨e2, rfl⟩
        · rcases key_next e2 with ⟨_, _, a1, rfl, a3⟩ | ⟨_, _, m, a1, _⟩ | ⟨_, _, a1, _⟩ <;> cases a1
          simp only [VR] at k2; obtain ⟨y', hy', rfl⟩ := k2
          have hyy : (y == y') = true := by rw [bytes_eq hy hy', eqS_sound hG a3]
          obtain ⟨b3, l4, u3, w4, rfl, rfl, k3, hl4, q3⟩ := step _ _ _ _ hl3 r2
          rcases q3 with ⟨e3, r3⟩ | ⟨e3, rfl⟩
          · rcases key_next e3 with ⟨_, _, a1, _⟩ | ⟨_, _, m, a1, _⟩ | ⟨_, c', a1, rfl, a3⟩ <;> cases a1
            simp only [VR] at k3; subst k3
            have : r = true := by cases l4 <;> simp [eqKs] at r3; exact r3
            subst this
            rw [← a3]
            exact eq_step3 9998 _ x y x' y' c c' _ W rfl rfl hxx rfl hyy rfl
          · rcases key_next e3 with ⟨_, _, a1, _⟩ | ⟨_, _, m, a1, _⟩ | ⟨_, c', a1, rfl, a3⟩ <;> cases a1
            simp only [VR] at k3; subst k3
            rw [← a3]
            exact eq_step3 9998 _ x y x' y' c c' _ W rfl rfl hxx rfl hyy rfl
        · rcases key_next e2 with ⟨_, _, a1, rfl, a3⟩ | ⟨_, _, m, a1, _⟩ | ⟨_, _, a1, _⟩ <;> cases a1
          simp only [VR] at k2; obtain ⟨y', hy', rfl⟩ := k2
          have hyy : (y == y') = false := by rw [bytes_eq hy hy', eqS_sound hG a3]
          exact eq_step2 9998 _ x y x' y' c _ W rfl rfl hxx rfl hyy
      · rcases key_next e1 with ⟨_, _, a1, rfl, a3⟩ | ⟨_, _, m, a1, _⟩ | ⟨_, _, a1, _⟩ <;> cases a1
        simp only [VR] at k1; obtain ⟨x', hx', rfl⟩ := k1
        have hxx : (x == x') = false := by rw [bytes_eq hx hx', eqS_sound hG a3]
        exact eq_step1 9998 _ x y x' c _ W rfl rfl hxx
    · rcases key_next e0 with ⟨_, _, a1, _⟩ | ⟨_, _, m, a1, rfl, a3⟩ | ⟨_, _, a1, _⟩ <;> cases a1
      simp only [decide_eq_false_iff_not] at a3
      simp only [VR] at k0; subst k0
      exact eq_step0 9998 _ _ x y c _ W rfl (by simpa using a3)
  · cases h
theorem mixed_ok : Tryz.prog.follows .mixedOrders = true := by kernel_rfl
set_option maxRecDepth 100000 in
theorem env_ok (g : Sg) (σ : Nat → Int) (hg : SgOk g σ) : EnvOk (env g) σ where
  bounds := hg.bounds
  facts := hg.facts
  keys := keys_ok g σ hg.bounds
  bt := bt_ok
  exts := exts_ok
  fns := fns_ok
  rooms := rooms_ok
  meths := meths_ok
  idles := idles_ok
  mixed := mixed_ok
def sgv (σ : Nat → Int) : Sg := ⟨fun i => (σ i, σ i), fun _ _ _ _ => none, fun _ _ => none, fun _ _ => none, fun _ _ _ => none, fun _ => none, fun _ _ => none, fun _ => none⟩
theorem sgv_ok (σ : Nat → Int) : SgOk (sgv σ) σ where
  bounds := fun _ => ⟨Int.le_refl _, Int.le_refl _⟩
  facts := {
    ar := fun op k a b r h => (by have h : (none : Option Nm) = some r := h; cases h)
    lt := fun a b c h => (by have h : (none : Option Bool) = some c := h; cases h)
    eq := fun a b c h => (by have h : (none : Option Bool) = some c := h; cases h)
    fb := fun op a b v h => (by have h : (none : Option V) = some v := h; cases h)
    fc := fun a v h => (by have h : (none : Option V) = some v := h; cases h)
    fi := fun k a v h => (by have h : (none : Option V) = some v := h; cases h)
    fn := fun a v h => (by have h : (none : Option V) = some v := h; cases h) }
def callV0 (σ : Nat → Int) (us : List Use) (ps : List Pur) : Call := callN (env (sgv σ)) (both (uses us) (pures ps)) 200
theorem callV0_ok {σ : Nat → Int} {us : List Use} {ps : List Pur} (hu : ∀ u ∈ us, u.e.Ok Tryz.prog (sgn σ (qf u.Q))) (hp : ∀ e ∈ ps, DoesP (env (sgv σ)) σ e) : CallOk (env (sgv σ)) σ (callV0 σ us ps) :=
  callN_ok (env_ok _ σ (sgv_ok σ)) (both_ok (uses_ok us hu) (pures_ok ps hp)) 200
end
end Go.Proofs.YtnpkeganpkobjaaGreatDoor.Ev
