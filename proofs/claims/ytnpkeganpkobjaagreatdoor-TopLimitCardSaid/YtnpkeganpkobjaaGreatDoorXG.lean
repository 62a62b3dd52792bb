import Derived.Test.YtnpkeganpkobjaaGreatDoorXF
set_option linter.all false
namespace Go.Proofs.YtnpkeganpkobjaaGreatDoor.Ev
open Go Go.RowKit
noncomputable section
section reset
variable {σ : Nat → Int} {ρ ρ' : Rho} {s s' : St} {W W' : World} {v : V} {u : Value}
mutual
theorem VR.back (hρ : ∀ id p q, ρ id = some p → ρ' id = some q → ρ id = some q) : ∀ (v : V) (u u' : Value), VR σ ρ v u' → VR σ ρ' v u → VR σ ρ v u
  | .undef, u, _, _, h => by simpa [VR] using h
  | .any, u, _, _, _ => by simp only [VR]
  | .iany k, u, _, _, h => by simpa [VR] using h
  | .nan, u, _, _, h => by simp only [VR] at h ⊢; exact h
  | .bool b, u, _, _, h => by simpa [VR] using h
  | .int k m, u, _, _, h => by simpa [VR] using h
  | .sint k i, u, _, _, h => by simpa [VR] using h
  | .flt m, u, _, _, h => by simpa [VR] using h
  | .sflt m, u, _, _, h => by simpa [VR] using h
  | .str l, u, _, _, h => by simpa [VR] using h
  | .nilp, u, _, _, h => by simpa [VR] using h
  | .ptr id off, u, u', k, h => by
    simp only [VR] at h k ⊢
    obtain ⟨b, m, h1, h2⟩ := h
    obtain ⟨b', m', k1, k2⟩ := k
    exact ⟨b, m, hρ id _ _ k1 h1, h2⟩
  | .nils, u, _, _, h => by simpa [VR] using h
  | .slz, u, _, _, h => by simpa [VR] using h
  | .sl id off len es, u, u', k, h => by
    simp only [VR] at h k ⊢
    obtain ⟨b, m, cap, h1, h2⟩ := h
    obtain ⟨b', m', cap', k1, k2⟩ := k
    exact ⟨b, m, cap, hρ id _ _ k1 h1, h2⟩
  | .nilm, u, _, _, h => by simpa [VR] using h
  | .map id, u, u', k, h => by
    simp only [VR] at h k ⊢
    obtain ⟨b, m, h1, h2⟩ := h
    obtain ⟨b', m', k1, k2⟩ := k
    exact ⟨b, m, hρ id _ _ k1 h1, h2⟩
  | .nilf, u, _, _, h => by simpa [VR] using h
  | .fn f l, u, u', k, h => by
    simp only [VR] at h k ⊢
    obtain ⟨us, h1, h2⟩ := h
    obtain ⟨us', k1, k2⟩ := k
    exact ⟨us, VRs.back hρ l us us' k1 h1, h2⟩
  | .nili, u, _, _, h => by simpa [VR] using h
  | .ifc t v, u, u', k, h => by
    simp only [VR] at h k ⊢
    obtain ⟨w, h1, h2⟩ := h
    obtain ⟨w', k1, k2⟩ := k
    exact ⟨w, VR.back hρ v w w' k1 h1, h2⟩
  | .agg l, u, u', k, h => by
    simp only [VR] at h k ⊢
    obtain ⟨us, h1, h2⟩ := h
    obtain ⟨us', k1, k2⟩ := k
    exact ⟨us, VRs.back hρ l us us' k1 h1, h2⟩
  | .tup l, u, u', k, h => by
    simp only [VR] at h k ⊢
    obtain ⟨us, h1, h2⟩ := h
    obtain ⟨us', k1, k2⟩ := k
    exact ⟨us, VRs.back hρ l us us' k1 h1, h2⟩
theorem VRs.back (hρ : ∀ id p q, ρ id = some p → ρ' id = some q → ρ id = some q) : ∀ (l : List V) (us us' : List Value), VRs σ ρ l us' → VRs σ ρ' l us → VRs σ ρ l us
  | [], us, _, _, h => by simpa [VRs] using h
  | v :: l, us, us', k, h => by
    simp only [VRs] at h k ⊢
    obtain ⟨u, r, h1, h2, h3⟩ := h
    obtain ⟨u', r', k1, k2, k3⟩ := k
    exact ⟨u, r, VR.back hρ v u u' k1 h1, VRs.back hρ l r r' k2 h2, h3⟩
end
theorem OR.back (hρ : ∀ id p q, ρ id = some p → ρ' id = some q → ρ id = some q) {n : Nat} {x : B} {o o' : Obj} (k : OR σ ρ n x o') (h : OR σ ρ' n x o) : OR σ ρ n x o := by
  cases x with
  | cells l =>
    obtain ⟨c, t, fz, h1, h2, h3, h4⟩ := h
    obtain ⟨c', t', fz', k1, k2, k3, k4⟩ := k
    refine ⟨c, t, fz, h1, h2, fun i v hv => ?_, h4⟩
    obtain ⟨u, a, b⟩ := h3 i v hv
    obtain ⟨u', a', b'⟩ := k3 i v hv
    exact ⟨u, a, VR.back hρ v u u' b' b⟩
  | map l =>
    obtain ⟨es, ck, h1, h2, h3⟩ := h
    obtain ⟨es', ck', k1, k2, k3⟩ := k
    refine ⟨es, ck, h1, h2, fun i p hp => ?_⟩
    obtain ⟨e, a, b, c⟩ := h3 i p hp
    obtain ⟨e', a', b', c'⟩ := k3 i p hp
    exact ⟨e, a, VR.back hρ _ _ _ b' b, VR.back hρ _ _ _ c'.1 c.1, c.2⟩
  | iter l p => exact h
  | smap => exact h
  | typ w t l =>
    obtain ⟨c, fz, h1, h2, ⟨h3, h5⟩, h4⟩ := h
    obtain ⟨c', fz', k1, k2, ⟨k3, k5⟩, k4⟩ := k
    refine ⟨c, fz, h1, h2, ⟨fun i v hv => ?_, h5⟩, h4⟩
    obtain ⟨u, a, b⟩ := h3 i v hv
    obtain ⟨u', a', b'⟩ := k3 i v hv
    exact ⟨u, a, VR.back hρ v u u' b' b⟩
def fresh (s : St) : St := ⟨s.heap, s.next, s.next⟩
theorem Sim.fresh (h : Sim σ ρ s W) : Sim σ ρ (fresh s) W := ⟨h.blk, h.inj, h.dom, h.old⟩
theorem Stp.relow (h : Stp σ ρ (fresh s) W ρ' s' W') : Stp σ ρ s W ρ' ⟨s'.heap, s'.next, minN s.low s'.low⟩ W' where
  sim := ⟨h.sim.blk, h.sim.inj, h.sim.dom, h.sim.old⟩
  ext := h.ext
  next := h.next
  size := h.size
  frame := h.frame
  live := h.live
  low := minN_left _ _
  kept id h1 h2 := h.kept id h1 (Nat.lt_of_lt_of_le h2 (minN_right _ _))
  os := h.os
  tape := h.tape
  output := h.output
theorem Stp.exts (h0 : Sim σ ρ s W) (h : Stp σ ρ (fresh s) W ρ' s' W') : ∀ id p q, ρ id = some p → ρ' id = some q → ρ id = some q := by
  intro id p q hp hq
  rw [h.ext id (h0.def_lt hp)] at hq
  exact hq
theorem Stp.back (h0 : Sim σ ρ s W) (h : Stp σ ρ (fresh s) W ρ' s' W') (hl : s.next ≤ s'.low) : Stp σ ρ s W ρ s W' where
  sim := by
    have hg : ∀ id, id < s.next → s'.heap.get id = s.heap.get id := fun id hid => h.kept id hid (Nat.lt_of_lt_of_le hid hl)
    refine ⟨fun id x hx => ?_, h0.inj, h0.dom, fun id b n hr => Nat.lt_of_lt_of_le (h0.old id b n hr) h.size⟩
    have hlt := h0.lt (id := id) (by rw [hx]; rfl)
    obtain ⟨b, n, o, h1, h2, h3⟩ := h.sim.blk id x (by rw [hg id hlt]; exact hx)
    rw [h.ext id hlt] at h1
    obtain ⟨b', n', o', k1, k2, k3⟩ := h0.blk id x hx
    rw [h1] at k1; cases k1
    exact ⟨b, n, o, h1, h2, OR.back (Stp.exts h0 h) k3 h3⟩
  ext _ _ := rfl
  next := Nat.le_refl _
  size := h.size
  frame := h.frame
  live id b n h1 h2 _ := ⟨id, h1, h2⟩
  low := Nat.le_refl _
  kept _ _ _ := rfl
  os := h.os
  tape := h.tape
  output := h.output
theorem VR.old (h : Stp σ ρ (Ev.fresh s) W ρ' s' W') (hb : below s.next v = true) (hv : VR σ ρ' v u) : VR σ ρ v u :=
  VR.congr s.next (fun id hid p hp => by rw [← h.ext id hid]; exact hp) v u hb hv
theorem VR.old2 (h : Stp σ ρ (Ev.fresh s) W ρ' s' W') (hn : s'.next = s.next) (hv : VR σ ρ' v u) : VR σ ρ v u := by
  refine VR.mono (fun id p hp => ?_) v u hv
  have : id < s'.next := h.sim.def_lt hp
  rw [← h.ext id (by rw [hn] at this; exact this)]; exact hp
end reset
section drawn
variable {E : Env} {σ : Nat → Int} {call : Call}
theorem guard_at {ops : Array Oper} {o : Oper} {b : Bool} {f : F} {a : Act} {σ : Nat → Int} {ρ : Rho} (hf : ∀ t ∈ reads ops.toList o, ∀ v, f.get t = some v → t < a.tmps.size ∧ VR σ ρ v (a.tmps.getD t Go.undef)) (h : guardOk ops.toList f o.guard = some b) : Region.wanted o (yielded ops a.tmps) = b := by
  unfold guardOk at h
  unfold Region.wanted
  split at h
  · rename_i hg; cases h; rw [hg]
  · rename_i q hg
    rw [hg]
    obtain ⟨j, want⟩ := q
    simp only at h ⊢
    unfold guardP at h
    rw [lget_eq] at h
    split at h
    · rename_i p hp
      have hp' : ops[j]? = some p := by simpa using hp
      split at h
      · rename_i t ht
        have hmem : t ∈ reads ops.toList o := by
          unfold reads
          rw [hg]
          simp only [lget_eq, hp, ht, Option.toList_some, List.mem_append, List.mem_singleton]
          exact .inr trivial
        unfold guardT at h
        split at h
        · rename_i c hc; cases h
          obtain ⟨h1, h2⟩ := hf t hmem _ hc
          simp only [VR] at h2
          have h3 : a.tmps[t]? = some (.bool c) := by
            rw [Array.getElem?_eq_getElem h1]
            rw [Array.getD_eq_getD_getElem?, Array.getElem?_eq_getElem h1] at h2
            simpa using h2
          have : yielded ops a.tmps j = some c := by simp only [yielded, hp', ht, Option.bind_some, h3]
          rw [this]; simp
        · rename_i hc; cases h
          obtain ⟨h1, h2⟩ := hf t hmem _ hc
          simp only [VR] at h2
          have h3 : a.tmps[t]? = some Go.undef := by
            rw [Array.getElem?_eq_getElem h1]
            rw [Array.getD_eq_getD_getElem?, Array.getElem?_eq_getElem h1] at h2
            simpa using h2
          have : yielded ops a.tmps j = none := by simp only [yielded, hp', ht, Option.bind_some, h3, Go.undef]
          rw [this]; rfl
        · cases h
      · cases h
    · cases h
theorem unl_lt {p q : Nat → Bool} {i : Nat} (hp : p i = true) (hq : q i = false) (hpq : ∀ x, q x = true → p x = true) : ∀ (l : List Nat), i ∈ l → (l.filter q).length < (l.filter p).length := by
  have hle : ∀ l : List Nat, (l.filter q).length ≤ (l.filter p).length := by
    intro l
    induction l with
    | nil => simp
    | cons x l ih =>
      simp only [List.filter_cons]
      cases hx : q x with
      | true => simp [hpq x hx, ih]
      | false => simp only [Bool.false_eq_true, if_false]; split <;> (try simp only [List.length_cons]) <;> omega
  intro l
  induction l with
  | nil => intro h; simp at h
  | cons x l ih =>
    intro h
    simp only [List.mem_cons] at h
    by_cases e : i = x
    · subst e
      simp only [List.filter_cons, hp, hq, if_true, Bool.false_eq_true, if_false, List.length_cons]
      have := hle l; omega
    · have hl := ih (h.resolve_left e)
      simp only [List.filter_cons]
      cases hx : q x with
      | true => simp [hpq x hx, hl]
      | false => simp only [Bool.false_eq_true, if_false]; split <;> (try simp only [List.length_cons]) <;> omega
theorem put_get {a : Act} {d : Option Tmp} {u : Value} {t : Nat} (h : d ≠ some t) : (a.put d u).tmps.getD t Go.undef = a.tmps.getD t Go.undef := by
  cases d with
  | none => rfl
  | some d =>
    have : d ≠ t := fun e => h (by rw [e])
    simp [Act.put, Array.getElem?_setIfInBounds_ne this]
theorem put_same {a : Act} {u : Value} {t : Nat} (h : t < a.tmps.size) : (a.put (some t) u).tmps.getD t Go.undef = u := by simp [Act.put, h]
theorem put_size {a : Act} {d : Option Tmp} {u : Value} : (a.put d u).tmps.size = a.tmps.size := by cases d <;> simp [Act.put]
theorem put_defers {a : Act} {d : Option Tmp} {u : Value} : (a.put d u).defers = a.defers := by cases d <;> rfl
theorem asWas_some {v : V} {o : Option Was} (h : asWas v o = true) : ∃ w, o = some w ∧ w.to = none ∧ w.v = v := by
  unfold asWas at h
  split at h
  · rename_i w
    split at h
    · rename_i hto; exact ⟨w, rfl, hto, vEq_sound _ _ h⟩
    · cases h
  · cases h
theorem stepW_some {all : List Oper} {o : Oper} {f : F} {s : St} {w : Was} (h : stepW E call all o f s = some w) : ∃ r, step E call all o f (fresh s) = some r ∧ w = was s r := by
  unfold stepW at h
  split at h
  · rename_i r hr; cases h; exact ⟨r, hr, rfl⟩
  · cases h
end drawn
section air
variable {σ : Nat → Int} {ρ ρ0 : Rho} {S s0 : St} {W W0 : World} {P : Program}
theorem Stp.push (hs : Sim σ ρ S W) (o : Obj) : Stp σ ρ S W ρ S { W with heap := W.heap.push o } where
  sim := by
    refine ⟨fun id x hx => ?_, hs.inj, hs.dom, fun id b n hr => ?_⟩
    · obtain ⟨b, n, o', h1, h2, h3⟩ := hs.blk id x hx
      have := hs.old id b n h1
      exact ⟨b, n, o', h1, by simp only [Array.getElem?_push]; rw [if_neg (by omega)]; exact h2, h3⟩
    · have := hs.old id b n hr
      simp; omega
  ext _ _ := rfl
  next := Nat.le_refl _
  size := by simp
  frame j hj _ := by simp only [Array.getElem?_push]; rw [if_neg (by omega)]
  live id b n h1 h2 _ := ⟨id, h1, h2⟩
  low := Nat.le_refl _
  kept _ _ _ := rfl
  os := rfl
  tape := rfl
  output := rfl
theorem Stp.adopt (h : Stp σ ρ0 s0 W0 ρ S W) {x : B} {b n : Nat} {o : Obj} (hb : ∀ i m, (S.heap.get i).isSome → ρ i ≠ some (b, m)) (ho : W.heap[b]? = some o) (hOR : OR σ (ext1 ρ S.next (b, n)) n x o) (hnew : W0.heap.size ≤ b) :
    Stp σ ρ0 s0 W0 (ext1 ρ S.next (b, n)) ⟨(S.new x).heap, S.next + 1, minN S.low S.next⟩ W := by
  have hs := h.sim
  have hget : ∀ i y, (S.new x).heap.get i = some y → (S.heap.get i = some y ∧ i ≠ S.next) ∨ (i = S.next ∧ x = y) := by
    intro i y hy
    rcases T.get_add 40 S.heap S.next (some x) i with e | ⟨e1, e2⟩
    · rw [show (S.new x).heap.get i = S.heap.get i from e] at hy
      refine .inl ⟨hy, ?_⟩
      have := hs.lt (id := i) (by rw [hy]; rfl)
      omega
    · refine .inr ⟨e1, ?_⟩
      rw [show (S.new x).heap.get i = some x from e2] at hy
      exact Option.some.inj hy
  have hlive : ∀ i, ((S.new x).heap.get i).isSome → ((S.heap.get i).isSome ∧ i ≠ S.next) ∨ i = S.next := by
    intro i hi
    obtain ⟨y, hy⟩ := Option.isSome_iff_exists.1 hi
    rcases hget i y hy with ⟨h1, h2⟩ | ⟨h1, _⟩
    · exact .inl ⟨by rw [h1]; rfl, h2⟩
    · exact .inr h1
  have hm := ext1_mono hs (b, n)
  have hbs : b < W.heap.size := by
    rcases Nat.lt_or_ge b W.heap.size with c | c
    · exact c
    · rw [Array.getElem?_eq_none c] at ho; cases ho
  refine ⟨⟨?_, ?_, ?_, ?_⟩, ?_, by have := h.next; simp only; omega, h.size, h.frame, ?_, Nat.le_trans (minN_left _ _) h.low, ?_, h.os, h.tape, h.output⟩
  · intro i y hy
    rcases hget i y hy with ⟨h1, h2⟩ | ⟨h1, h2⟩
    · obtain ⟨b', n', o', h3, h4, h5⟩ := hs.blk i y h1
      exact ⟨b', n', o', hm _ _ h3, h4, OR.mono hm h5⟩
    · subst h1; subst h2
      exact ⟨b, n, o, by simp [ext1], ho, hOR⟩
  · intro i j b' n' m' hi hj ri rj
    unfold ext1 at ri rj
    rcases hlive i hi with ⟨a1, a2⟩ | a <;> rcases hlive j hj with ⟨c1, c2⟩ | c
    · rw [if_neg a2] at ri; rw [if_neg c2] at rj; exact hs.inj i j _ _ _ a1 c1 ri rj
    · rw [if_neg a2] at ri; rw [if_pos c] at rj
      obtain ⟨rfl, rfl⟩ : b = b' ∧ n = m' := by simpa using rj
      exact absurd ri (hb i _ a1)
    · rw [if_pos a] at ri; rw [if_neg c2] at rj
      obtain ⟨rfl, rfl⟩ : b = b' ∧ n = n' := by simpa using ri
      exact absurd rj (hb j _ c1)
    · rw [a, c]
  · intro i hi
    have hi : S.next + 1 ≤ i := hi
    unfold ext1; rw [if_neg (by omega)]; exact hs.dom i (by omega)
  · intro i b' n' hi
    unfold ext1 at hi
    split at hi
    · obtain ⟨rfl, rfl⟩ : b = b' ∧ n = n' := by simpa using hi
      exact hbs
    · exact hs.old i b' n' hi
  · intro i hi
    have := h.next
    unfold ext1; rw [if_neg (by omega)]; exact h.ext i hi
  · intro i b' n' hi ri hlt
    unfold ext1 at ri
    rcases hlive i hi with ⟨a1, a2⟩ | a
    · rw [if_neg a2] at ri; exact h.live i b' n' a1 ri hlt
    · rw [if_pos a] at ri
      obtain ⟨rfl, rfl⟩ : b = b' ∧ n = n' := by simpa using ri
      omega
  · intro i hi hl
    have hl : i < minN S.low S.next := hl
    have h1 := minN_left S.low S.next
    rcases T.get_add 40 S.heap S.next (some x) i with e | ⟨e1, _⟩
    · rw [show (S.new x).heap.get i = S.heap.get i from e]
      exact h.kept i hi (by omega)
    · have := h.next; omega
theorem zero_one {t : TypeId} {z : V} (h : zeroV P t = some z) : ∃ u : Value, (∀ W, (zeroValue t).run P W = .ok u W) ∧ ∀ (σ : Nat → Int) (ρ : Rho), VR σ ρ z u := by
  unfold zeroV zeroI at h
  split at h
  · rename_i i hi
    split at h
    · rename_i u hu; exact ⟨u, fun W => by simp [zeroValue, typeInfo, hi, hu], fun σ ρ => ofV_VR h⟩
    · cases h
  · cases h
def newB (E : Env) (t : TypeId) (z : V) : B := match Nat.beq t E.bt with | true => .typ true t z.cells | false => .cells z.cells
theorem newB_OR {E : Env} {t : TypeId} {z : V} {u : Value} (h : VR σ ρ z u) (hna : isAny z = false) : OR σ ρ u.cells.size (newB E t z) (.cells u.cells t (0, 0)) := by
  have hl : VRs σ ρ z.cells u.cells.toList := h.cells hna
  have hc : CR σ ρ z.cells u.cells := CR_of hl (fun j hj => by simp)
  unfold newB
  cases Nat.beq t E.bt with
  | true => exact ⟨u.cells, (0, 0), rfl, rfl, ⟨hc, fun _ => by have := hl.len; simpa using this.symm⟩, fun i _ => by omega⟩
  | false => exact ⟨u.cells, t, (0, 0), rfl, rfl, hc, fun i _ => by omega⟩
theorem alloc_run {t : TypeId} {u : Value} (h : ∀ W, (zeroValue t).run P W = .ok u W) (W : World) : (Instr.alloc t true (.tuple #[])).run P W = .ok (.pointer (some ⟨W.heap.size, 0, none⟩)) { W with heap := W.heap.push (.cells u.cells t) } := by
  simp [Instr.alloc, h, newVar, newRow]
end air
theorem turns_mem : ∀ (l : List Rc) (n q e : Nat), (turns l n)[q]? = some e → ∃ j cc sx, e = n + j ∧ l[j]? = some cc ∧ cc.w.to = some sx ∧ q = tb l j := by
  intro l
  induction l with
  | nil => intro n q e h; simp [turns] at h
  | cons d l ih =>
    intro n q e h
    simp only [turns] at h
    split at h
    · rename_i sx hq
      cases q with
      | zero => simp at h; subst h; exact ⟨0, d, sx, by simp, by simp, hq, by simp [tb]⟩
      | succ q =>
        obtain ⟨j, cc, sx, x1, x2, x3, x4⟩ := ih (n + 1) q e (by simpa using h)
        exact ⟨j + 1, cc, sx, by omega, by simpa using x2, x3, by simp only [tb, tn_some hq]; omega⟩
    · rename_i hq
      obtain ⟨j, cc, sx, x1, x2, x3, x4⟩ := ih (n + 1) q e h
      exact ⟨j + 1, cc, sx, by omega, by simpa using x2, x3, by simp only [tb, tn_none hq]; omega⟩
theorem stAt_turn : ∀ (l : List Rc) (s0 : St) (n : Nat) (cc : Rc) (sx : St), l[n]? = some cc → cc.w.to = some sx → stAt s0 l (n + 1) = sx := by
  intro l
  induction l with
  | nil => intro s0 n cc sx h; simp at h
  | cons d l ihl =>
    intro s0 n cc sx h1 h2
    cases n with
    | zero => simp at h1; subst h1; simp only [stAt, stAt_zero, turnTo, h2]
    | succ n => exact ihl _ n cc sx (by simpa using h1) h2
theorem tb_mono : ∀ (l : List Rc) (i j : Nat), i ≤ j → tb l i ≤ tb l j := by
  intro l
  induction l with
  | nil => intro i j h; cases i <;> cases j <;> simp [tb]
  | cons d l ih =>
    intro i j h
    cases i with
    | zero => rw [tb_zero]; exact Nat.zero_le _
    | succ i =>
      cases j with
      | zero => omega
      | succ j => simp only [tb]; have := ih i j (by omega); omega
theorem floats_some {all : List Oper} {e : Nat} (h : floats all e = true) : ∃ o ty t, all[e]? = some o ∧ o.op = .alloc ty ∧ o.guard = none ∧ o.dst = some t := by
  unfold floats at h
  rw [lget_eq] at h
  split at h
  · rename_i o ho
    split at h
    · rename_i ty hty
      split at h
      · rename_i hg
        split at h
        · rename_i t ht; exact ⟨o, ty, t, ho, hty, hg, ht⟩
        · cases h
      · cases h
    · cases h
  · cases h
structure Cx where
  ρ0 : Rho
  s0 : St
  W0 : World
  f0 : F
  all : List Oper
  es : List Nat
  sts : List St
  rcs : List Rc
structure CxOk (E : Env) (call : Call) (x : Cx) : Prop where
  len : x.rcs.length = x.all.length
  rc : ∀ i c, x.rcs[i]? = some c → x.all[i]? = some c.o ∧ c.f = fAt x.f0 x.rcs i ∧ stepW E call x.all c.o c.f (stAt x.s0 x.rcs i) = some c.w
  es : x.es = turns x.rcs 0
  sts : x.sts = stagesL x.s0 x.rcs
structure Core (P : Program) (σ : Nat → Int) (x : Cx) (k : Nat) (S : St) (ρ : Rho) (bs : Nat → Nat) (L : Nat → Prop) (a : Act) (W : World) : Prop where
  le : k ≤ x.es.length
  got : ∀ (q e : Nat), x.es[q]? = some e → q < k → L e
  stage : x.sts[k]? = some S
  stp : Stp σ x.ρ0 x.s0 x.W0 ρ S W
  old : ∀ (t : Tmp) (v : V), (∀ (j : Nat) (p : Oper), x.all[j]? = some p → p.dst = some t → ¬ L j) → x.f0.get t = some v → VR σ ρ v (a.tmps.getD t Go.undef)
  was : ∀ (j : Nat) (c : Rc), L j → x.rcs[j]? = some c → (∀ q : Nat, x.es[q]? = some j → q < k) → ∀ t, c.o.dst = some t → (x.f0.get t).isSome → VR σ ρ c.w.v (a.tmps.getD t Go.undef)
  air : ∀ (q e : Nat), x.es[q]? = some e → L e → k ≤ q → floats x.all e = true ∧ ∃ o ty u, x.all[e]? = some o ∧ o.op = .alloc ty ∧ o.guard = none ∧ (∀ W, (zeroValue ty).run P W = .ok u W) ∧ W.heap[bs e]? = some (.cells u.cells ty (0, 0)) ∧
    x.W0.heap.size ≤ bs e ∧ (∀ i m, (S.heap.get i).isSome → ρ i ≠ some (bs e, m)) ∧ ∀ t, o.dst = some t → (x.f0.get t).isSome → a.tmps.getD t Go.undef = .pointer (some ⟨bs e, 0, none⟩)
  apart : ∀ (q e q' e' : Nat), x.es[q]? = some e → x.es[q']? = some e' → L e → L e' → k ≤ q → k ≤ q' → e ≠ e' → bs e ≠ bs e'
section core
variable {E : Env} {σ : Nat → Int} {call : Call} {x : Cx} {k : Nat} {S : St} {ρ : Rho} {bs : Nat → Nat} {L : Nat → Prop} {a : Act} {W : World}
theorem CxOk.turn (hx : CxOk E call x) {q e : Nat} (h : x.es[q]? = some e) : ∃ c s2, x.rcs[e]? = some c ∧ c.w.to = some s2 ∧ q = tb x.rcs e ∧ x.sts[q]? = some (stAt x.s0 x.rcs e) ∧ x.sts[q + 1]? = some s2 := by
  rw [hx.es] at h
  obtain ⟨j, cc, sx, x1, x2, x3, x4⟩ := turns_mem _ _ _ _ h
  rw [Nat.zero_add] at x1; subst x1
  have hlt : e < x.rcs.length := (List.getElem?_eq_some_iff.1 x2).1
  refine ⟨cc, sx, x2, x3, x4, ?_, ?_⟩
  · rw [hx.sts, x4]; exact stages_at _ _ _ (by omega)
  · have h2 := ((turns_spec x.rcs 0).2 e cc sx x2 x3).2
    have h1 := stages_at x.rcs x.s0 (e + 1) (by omega)
    rw [h2, ← x4] at h1
    rw [hx.sts, h1, stAt_turn _ _ _ _ _ x2 x3]
theorem CxOk.uniq (hx : CxOk E call x) {q q' e : Nat} (h : x.es[q]? = some e) (h' : x.es[q']? = some e) : q = q' := by
  obtain ⟨_, _, _, _, h1, _⟩ := hx.turn h
  obtain ⟨_, _, _, _, h2, _⟩ := hx.turn h'
  omega
theorem CxOk.of_to (hx : CxOk E call x) {i : Nat} {c : Rc} {s2 : St} (h : x.rcs[i]? = some c) (hto : c.w.to = some s2) : x.es[tb x.rcs i]? = some i := by
  have := ((turns_spec x.rcs 0).2 i c s2 h hto).1
  rw [Nat.zero_add] at this
  rw [hx.es]; exact this
theorem Core.catch (hx : CxOk E call x) (h : Core E.P σ x k S ρ bs L a W) {e : Nat} (he : x.es[k]? = some e) (hL : L e) : ∃ S' ρ', Core E.P σ x (k + 1) S' ρ' bs L a W := by
  obtain ⟨hfl, o, ty, u, a1, a2, a3, a4, a5, a6, a7, a8⟩ := h.air k e he hL (Nat.le_refl _)
  obtain ⟨c, s2, c1, c2, c3, c4, c5⟩ := hx.turn he
  obtain ⟨d1, d2, d3⟩ := hx.rc e c c1
  rw [a1] at d1
  have hco : c.o = o := (Option.some.inj d1).symm
  rw [h.stage] at c4
  have hS := Option.some.inj c4
  rw [← hS] at d3
  obtain ⟨r, hr, hw⟩ := stepW_some d3
  unfold step at hr
  rw [hco, a3] at hr
  simp only [guardOk] at hr
  rw [opT_eq, a2] at hr
  simp only [op] at hr
  cases hz : zeroV E.P ty with
  | none => rw [hz] at hr; cases hr
  | some z =>
    rw [hz] at hr
    obtain ⟨u', b1, b2⟩ := zero_one hz
    have hu : u' = u := by
      have h1 := b1 W
      rw [a4 W] at h1
      cases h1; rfl
    subst hu
    have hr : some (V.ptr (fresh S).next 0, (fresh S).new (newB E ty z)) = some r := hr
    cases hr
    have hsame : same S ((fresh S).new (newB E ty z)) = false := by
      have hn : ((fresh S).new (newB E ty z)).next = S.next + 1 := rfl
      unfold same
      rw [hn]
      cases hq : Nat.beq (S.next + 1) S.next with
      | false => rfl
      | true => rw [Nat.beq_eq] at hq; omega
    have hwas : c.w = ⟨.ptr S.next 0, some ⟨(S.new (newB E ty z)).heap, S.next + 1, minN S.low S.next⟩⟩ := by
      rw [hw]
      unfold Ev.was
      rw [hsame]; rfl
    have hs2 : s2 = ⟨(S.new (newB E ty z)).heap, S.next + 1, minN S.low S.next⟩ := by
      rw [hwas] at c2; exact (Option.some.inj c2).symm
    have hstp := h.stp.adopt (n := u'.cells.size) a7 a5 (newB_OR (E := E) (b2 σ (ext1 ρ S.next (bs e, u'.cells.size))) (zeroV_any hz)) a6
    have hm := ext1_mono h.stp.sim (bs e, u'.cells.size)
    refine ⟨s2, ext1 ρ S.next (bs e, u'.cells.size), ⟨?_, ?_, c5, by rw [hs2]; exact hstp, ?_, ?_, ?_, ?_⟩⟩
    · exact (List.getElem?_eq_some_iff.1 he).1
    · intro q e' hq hlt
      by_cases e1 : q = k
      · subst e1; rw [he] at hq; cases hq; exact hL
      · exact h.got q e' hq (by omega)
    · intro t v ht hv; exact VR.mono hm _ _ (h.old t v ht hv)
    · intro j cj hj hcj hq t ht hsome
      by_cases e1 : j = e
      · subst e1
        rw [c1] at hcj; cases hcj
        rw [hco] at ht
        rw [a8 t ht hsome, hwas]
        simp only [VR]
        exact ⟨bs j, u'.cells.size, by simp [ext1], rfl⟩
      · refine VR.mono hm _ _ (h.was j cj hj hcj (fun q hqj => ?_) t ht hsome)
        have := hq q hqj
        by_cases e2 : q = k
        · subst e2; rw [he] at hqj; cases hqj; exact absurd rfl e1
        · omega
    · intro q e' hq hL' hle
      obtain ⟨g0, o', ty', u', g1, g2, g3, g4, g5, g6, g7, g8⟩ := h.air q e' hq hL' (by omega)
      refine ⟨g0, o', ty', u', g1, g2, g3, g4, g5, g6, fun i m hi => ?_, g8⟩
      have hne : e' ≠ e := by
        intro e1; subst e1
        have := hx.uniq hq he; omega
      unfold ext1
      by_cases e1 : i = S.next
      · rw [if_pos e1]
        intro e2
        simp only [Option.some.injEq, Prod.mk.injEq] at e2
        exact h.apart k e q e' he hq hL hL' (Nat.le_refl _) (by omega) (Ne.symm hne) e2.1
      · rw [if_neg e1]
        refine g7 i m ?_
        rw [hs2] at hi
        rcases T.get_add 40 S.heap S.next (some (newB E ty z)) i with e2 | ⟨e2, _⟩
        · rw [show (S.new (newB E ty z)).heap.get i = S.heap.get i from e2] at hi; exact hi
        · exact absurd e2 e1
    · intro q e1 q' e2 h1 h2 h3 h4 h5 h6
      exact h.apart q e1 q' e2 h1 h2 h3 h4 (by omega) (by omega)
theorem Core.catch_all (hx : CxOk E call x) : ∀ (n k : Nat) (S : St) (ρ : Rho), x.es.length - k ≤ n → Core E.P σ x k S ρ bs L a W → ∃ k' S' ρ', Core E.P σ x k' S' ρ' bs L a W ∧ ∀ e, x.es[k']? = some e → ¬ L e := by
  intro n
  induction n with
  | zero =>
    intro k S ρ hn h
    refine ⟨k, S, ρ, h, fun e he => ?_⟩
    have := (List.getElem?_eq_some_iff.1 he).1
    omega
  | succ n ih =>
    intro k S ρ hn h
    by_cases hc : ∃ e, x.es[k]? = some e ∧ L e
    · obtain ⟨e, he, hL⟩ := hc
      obtain ⟨S', ρ', h'⟩ := h.catch hx he hL
      exact ih (k + 1) S' ρ' (by omega) h'
    · exact ⟨k, S, ρ, h, fun e he hL => hc ⟨e, he, hL⟩⟩
theorem Core.after (hx : CxOk E call x) (hal : ∀ (i : Nat) (o : Oper), x.all[i]? = some o → ∀ t, o.dst = some t → ∀ (j : Nat) (p : Oper), x.all[j]? = some p → p.dst = some t → i = j)
    (h : Core E.P σ x k S ρ bs L a W) {i : Nat} {c : Rc} (hci : x.rcs[i]? = some c) (hni : ¬ L i) {k2 : Nat} {S2 : St} {ρ2 : Rho} {W2 : World} {u : Value} {ds : List Deferred}
    (hk : (k2 = k + 1 ∧ x.es[k]? = some i) ∨ (k2 = k ∧ ∀ q : Nat, x.es[q]? ≠ some i)) (hst : x.sts[k2]? = some S2) (hstep : Stp σ ρ S W ρ2 S2 W2) (hu : VR σ ρ2 c.w.v u)
    (hsz : ∀ t, (x.f0.get t).isSome → t < a.tmps.size) : Core E.P σ x k2 S2 ρ2 bs (fun j => L j ∨ j = i) (({ a with defers := ds } : Act).put c.o.dst u) W2 := by
  have hm := hstep.mono h.stp.sim
  have hio := (hx.rc i c hci).1
  have hput : ∀ (j : Nat) (cj : Oper) (t : Tmp), x.all[j]? = some cj → cj.dst = some t → j ≠ i → (({ a with defers := ds } : Act).put c.o.dst u).tmps.getD t Go.undef = a.tmps.getD t Go.undef := by
    intro j cj t hj ht hne
    rw [put_get]
    intro he
    exact hne (hal j cj hj t ht i c.o hio he)
  have hk2 : k ≤ k2 := by rcases hk with ⟨h1, _⟩ | ⟨h1, _⟩ <;> omega
  have hup : ∀ q j, x.es[q]? = some j → j ≠ i → q < k2 → q < k := by
    intro q j hq hne hlt
    rcases hk with ⟨h1, h2⟩ | ⟨h1, h2⟩
    · by_cases e : q = k
      · subst e; rw [h2] at hq; exact absurd (Option.some.inj hq).symm hne
      · omega
    · omega
  refine ⟨?_, ?_, hst, h.stp.trans hstep, ?_, ?_, ?_, ?_⟩
  · rcases hk with ⟨h1, h2⟩ | ⟨h1, h2⟩
    · have := (List.getElem?_eq_some_iff.1 h2).1; omega
    · rw [h1]; exact h.le
  · intro q e hq hlt
    by_cases e1 : e = i
    · exact .inr e1
    · exact .inl (h.got q e hq (hup q e hq e1 hlt))
  · intro t v ht hv
    have h1 : c.o.dst ≠ some t := fun e => ht i c.o hio e (.inr rfl)
    rw [put_get h1]
    exact VR.mono hm _ _ (h.old t v (fun j p hj hp hl => ht j p hj hp (.inl hl)) hv)
  · intro j cj hj hcj hq t ht hsome
    by_cases e1 : j = i
    · subst e1
      rw [hci] at hcj; cases hcj
      rw [ht, put_same (by exact hsz t hsome)]
      exact hu
    · have hj := hj.resolve_right e1
      rw [hput j cj.o t (hx.rc j cj hcj).1 ht e1]
      exact VR.mono hm _ _ (h.was j cj hj hcj (fun q hqj => hup q j hqj e1 (hq q hqj)) t ht hsome)
  · intro q e hq hL hle
    have hne : e ≠ i := by
      intro e1; subst e1
      rcases hk with ⟨h1, h2⟩ | ⟨h1, h2⟩
      · have := hx.uniq hq h2; omega
      · exact h2 q hq
    have hL := hL.resolve_right hne
    obtain ⟨g0, o', ty', u', g1, g2, g3, g4, g5, g6, g7, g8⟩ := h.air q e hq hL (by omega)
    have hlt : bs e < W.heap.size := by
      rcases Nat.lt_or_ge (bs e) W.heap.size with c | c
      · exact c
      · rw [Array.getElem?_eq_none c] at g5; cases g5
    refine ⟨g0, o', ty', u', g1, g2, g3, g4, ?_, g6, fun i' m hi hr => ?_, fun t ht hsome => ?_⟩
    · rw [hstep.frame (bs e) hlt (fun id n hid => g7 id n hid)]; exact g5
    · obtain ⟨j, h1, h2⟩ := hstep.live i' (bs e) m hi hr hlt
      exact g7 j m h1 h2
    · rw [hput e o' t g1 ht hne]; exact g8 t ht hsome
  · intro q e q' e' h1 h2 h3 h4 h5 h6 h7
    have hn : ∀ q e, x.es[q]? = some e → (L e ∨ e = i) → k2 ≤ q → L e := by
      intro q e hq hl hle
      rcases hl with hl | rfl
      · exact hl
      · rcases hk with ⟨g1, g2⟩ | ⟨g1, g2⟩
        · have := hx.uniq hq g2; omega
        · exact absurd hq (g2 q)
    exact h.apart q e q' e' h1 h2 (hn q e h1 h3 h5) (hn q' e' h2 h4 h6) (by omega) (by omega) h7
theorem Core.float (hx : CxOk E call x) (hal : ∀ (i : Nat) (o : Oper), x.all[i]? = some o → ∀ t, o.dst = some t → ∀ (j : Nat) (p : Oper), x.all[j]? = some p → p.dst = some t → i = j)
    (h : Core E.P σ x k S ρ bs L a W) {i q0 : Nat} {o : Oper} {ty : TypeId} {t0 : Tmp} {u : Value} (hio : x.all[i]? = some o) (hop : o.op = .alloc ty) (hg : o.guard = none) (hd : o.dst = some t0) (hfl : floats x.all i = true) (hq0 : x.es[q0]? = some i) (hni : ¬ L i)
    (hz : ∀ W, (zeroValue ty).run E.P W = .ok u W) (hsz : ∀ t, (x.f0.get t).isSome → t < a.tmps.size) :
    Core E.P σ x k S ρ (fun e => if e = i then W.heap.size else bs e) (fun j => L j ∨ j = i) (({ a with defers := a.defers } : Act).put o.dst (.pointer (some ⟨W.heap.size, 0, none⟩))) { W with heap := W.heap.push (.cells u.cells ty) } := by
  have hstep := Stp.push h.stp.sim (.cells u.cells ty)
  have hkq : k ≤ q0 := by
    rcases Nat.lt_or_ge q0 k with c | c
    · exact absurd (h.got q0 i hq0 c) hni
    · exact c
  have hput : ∀ (j : Nat) (cj : Oper) (t : Tmp), x.all[j]? = some cj → cj.dst = some t → j ≠ i → (({ a with defers := a.defers } : Act).put o.dst (.pointer (some ⟨W.heap.size, 0, none⟩))).tmps.getD t Go.undef = a.tmps.getD t Go.undef := by
    intro j cj t hj ht hne
    rw [put_get]
    intro he
    exact hne (hal j cj hj t ht i o hio he)
  refine ⟨h.le, fun q e hq hlt => .inl (h.got q e hq hlt), h.stage, h.stp.trans hstep, ?_, ?_, ?_, ?_⟩
  · intro t v ht hv
    have h1 : o.dst ≠ some t := fun e => ht i o hio e (.inr rfl)
    rw [put_get h1]
    exact h.old t v (fun j p hj hp hl => ht j p hj hp (.inl hl)) hv
  · intro j cj hj hcj hq t ht hsome
    by_cases e1 : j = i
    · subst e1
      have := hq q0 hq0; omega
    · rw [hput j cj.o t (hx.rc j cj hcj).1 ht e1]
      exact h.was j cj (hj.resolve_right e1) hcj hq t ht hsome
  · intro q e hq hL hle
    by_cases e1 : e = i
    · subst e1
      refine ⟨hfl, o, ty, u, hio, hop, hg, hz, by simp, by rw [if_pos rfl]; exact h.stp.size, fun i' m hi hr => ?_, fun t ht hsome => ?_⟩
      · rw [if_pos rfl] at hr
        have := h.stp.sim.old _ _ _ hr; omega
      · rw [if_pos rfl, ht, put_same (by exact hsz t hsome)]
    · have hL := hL.resolve_right e1
      obtain ⟨g0, o', ty', u', g1, g2, g3, g4, g5, g6, g7, g8⟩ := h.air q e hq hL hle
      have hlt : bs e < W.heap.size := by
        rcases Nat.lt_or_ge (bs e) W.heap.size with c | c
        · exact c
        · rw [Array.getElem?_eq_none c] at g5; cases g5
      refine ⟨g0, o', ty', u', g1, g2, g3, g4, ?_, ?_, ?_, fun t ht hsome => ?_⟩
      · rw [if_neg e1]; simp only [Array.getElem?_push]; rw [if_neg (by omega)]; exact g5
      · rw [if_neg e1]; exact g6
      · rw [if_neg e1]; exact g7
      · rw [if_neg e1, hput e o' t g1 ht e1]; exact g8 t ht hsome
  · intro q e q' e' h1 h2 h3 h4 h5 h6 h7
    have hb : ∀ q e, x.es[q]? = some e → L e → k ≤ q → bs e < W.heap.size := by
      intro q e hq hL hle
      obtain ⟨g0, o', ty', u', g1, g2, g3, g4, g5, g6, g7, g8⟩ := h.air q e hq hL hle
      rcases Nat.lt_or_ge (bs e) W.heap.size with c | c
      · exact c
      · rw [Array.getElem?_eq_none c] at g5; cases g5
    by_cases e1 : e = i
    · have e2 : ¬ e' = i := fun e2 => h7 (e1.trans e2.symm)
      simp only [if_pos e1, if_neg e2]
      have := hb q' e' h2 (h4.resolve_right e2) h6; omega
    · by_cases e2 : e' = i
      · simp only [if_neg e1, if_pos e2]
        have := hb q e h1 (h3.resolve_right e1) h5; omega
      · simp only [if_neg e1, if_neg e2]
        exact h.apart q e q' e' h1 h2 (h3.resolve_right e1) (h4.resolve_right e2) h5 h6 h7
end core
section walk
variable {E : Env} {σ : Nat → Int} {call : Call} {D : List Deferred}
structure Mid (E : Env) (σ : Nat → Int) (D : List Deferred) (x : Cx) (N : Nat) (L : Nat → Prop) (a : Act) (W : World) : Prop where
  down : ∀ (i : Nat) (o : Oper), x.all[i]? = some o → L i → ∀ d ∈ deps o, L d
  core : ∃ k S ρ bs, Core E.P σ x k S ρ bs L a W ∧ ∀ e, x.es[k]? = some e → ¬ L e
  size : a.tmps.size = N
  dok : DOK E D a.defers
theorem Core.congr {P : Program} {x : Cx} {k : Nat} {S : St} {ρ : Rho} {bs : Nat → Nat} {L L' : Nat → Prop} {a : Act} {W : World} (h : Core P σ x k S ρ bs L a W) (e : ∀ j, L j ↔ L' j) : Core P σ x k S ρ bs L' a W := by
  have : L = L' := funext fun j => propext (e j)
  rw [← this]; exact h
set_option maxHeartbeats 1000000 in
theorem regD_wp (hE : EnvOk E σ) (hc : CallOk E σ call) {id : Nat} (ops : Array Oper) {Q : Exit → Act → World → Prop} {f f' : F} {s s' : St} {ρ : Rho} {W : World} {a : Act}
    (h : regD E call ops.toList f s = some (f', s')) (hs : Sim σ ρ s W) (hf : FR σ ρ f a) (hd : DOK E D a.defers)
    (hQ : ∀ ρ' W' a', Stp σ ρ s W ρ' s' W' → FR σ ρ' f' a' → DOK E D a'.defers → Q .normal a' W') : (Code.region id ops true).wp E.P Q a W := by
  unfold regD at h
  split at h
  · rename_i hstat
    have hst := stat_of hstat
    generalize masks ops.toList [] = ms at *
    cases hp : passD E call ops.toList ops.toList f s [] with
    | none => rw [hp] at h; cases h
    | some q =>
      rw [hp] at h
      simp only [lastD] at h
      obtain ⟨p1, p2, p3, p4⟩ := passD_spec _ _ _ _ _ hp
      simp only [List.reverse_nil, List.nil_append] at p3
      cases hss : q.2.2 with
      | nil => rw [hss] at h; cases h
      | cons sl sr =>
        rw [hss] at h
        simp only at h
        split at h
        · rename_i hchk
          rw [← hss, p3] at hchk
          simp only [Bool.and_eq_true] at hchk
          obtain ⟨hchain, hlooks⟩ := hchk
          simp only [Option.some.injEq, Prod.mk.injEq] at h
          obtain ⟨hf', hs'⟩ := h
          -- names
          obtain ⟨fE, rcs, ss⟩ := q
          simp only at p1 p2 p3 p4 hss hchain hlooks hf' hs'
          have hlen : rcs.length = ops.size := by rw [p1]; simp
          have hlast : (stagesL s rcs)[tb rcs rcs.length]? = some sl := by
            rw [← p3, hss]
            simp only [List.reverse_cons]
            have : sr.reverse.length = tb rcs rcs.length := by
              have h1 := stagesL_len rcs s
              rw [← p3, hss] at h1
              simp at h1 ⊢; omega
            rw [← this, List.getElem?_append_right (Nat.le_refl _)]; simp
          obtain ⟨x, hxd⟩ : ∃ x : Cx, x = ⟨ρ, s, W, f, ops.toList, turns rcs 0, stagesL s rcs, rcs⟩ := ⟨_, rfl⟩
          have hx : CxOk E call x := by subst hxd; exact ⟨by simpa using p1, p4, rfl, rfl⟩
          have xρ : x.ρ0 = ρ := by rw [hxd]
          have xs : x.s0 = s := by rw [hxd]
          have xW : x.W0 = W := by rw [hxd]
          have xf : x.f0 = f := by rw [hxd]
          have xa : x.all = ops.toList := by rw [hxd]
          have xe : x.es = turns rcs 0 := by rw [hxd]
          have xt : x.sts = stagesL s rcs := by rw [hxd]
          have xr : x.rcs = rcs := by rw [hxd]
          have hfsz : ∀ t, (x.f0.get t).isSome → t < a.tmps.size := by
            intro t ht
            rw [xf] at ht
            obtain ⟨v0, hv0⟩ := Option.isSome_iff_exists.1 ht
            exact (hf t v0 hv0).1
          have halone : ∀ (i : Nat) (o : Oper), x.all[i]? = some o → ∀ t, o.dst = some t → ∀ (j : Nat) (p : Oper), x.all[j]? = some p → p.dst = some t → i = j := by rw [xa]; exact hst.alone
          refine wp_region_any hE.mixed ?_
          have hdone : ∀ (listed : Array Bool) (a' : Act) (W' : World), (∀ i, i < ops.size → listed.getD i false = true) → Mid E σ D x a.tmps.size (fun i => listed.getD i false = true) a' W' → Q .normal a' W' := by
            intro listed a' W' hl hm
            obtain ⟨k, S, ρ', bs, hcore, hmax⟩ := hm.core
            have hk : k = tb rcs rcs.length := by
              have hle := hcore.le
              rw [xe, (turns_spec rcs 0).1] at hle
              rcases Nat.lt_or_ge k x.es.length with c | c
              · have he : x.es[k]? = some x.es[k] := List.getElem?_eq_getElem c
                obtain ⟨cc, _, h1, _⟩ := hx.turn he
                rw [xr] at h1
                have := (List.getElem?_eq_some_iff.1 h1).1
                exact absurd (hl _ (by omega)) (hmax _ he)
              · rw [xe, (turns_spec rcs 0).1] at c; omega
            have m3 := hcore.stage
            rw [xt, hk, hlast] at m3
            cases m3
            have hstp := hcore.stp
            rw [xρ, xs, xW] at hstp
            have hfr : FR σ ρ' fE a' := by
              intro t v ht
              rw [p2] at ht
              obtain ⟨g1, g2⟩ := fAt_get rcs f rcs.length (Nat.le_refl _) t v ht
              have g1' : (x.f0.get t).isSome := by rw [xf]; exact g1
              refine ⟨by rw [hm.size]; exact hfsz t g1', ?_⟩
              rcases g2 with ⟨j, c, b1, b2, b3, rfl⟩ | ⟨b1, b2⟩
              · refine hcore.was j c (hl j (by omega)) (by rw [xr]; exact b2) (fun q hq => ?_) t b3 g1'
                have := (List.getElem?_eq_some_iff.1 hq).1
                rw [xe, (turns_spec rcs 0).1] at this
                omega
              · refine hcore.old t v (fun j p hj hpd => ?_) (by rw [xf]; exact b1)
                rw [xa] at hj
                have hlt : j < rcs.length := by rw [p1]; exact (List.getElem?_eq_some_iff.1 hj).1
                have hcj : rcs[j]? = some rcs[j] := List.getElem?_eq_getElem hlt
                have h1 := b2 j _ hlt hcj
                have h2 := (p4 j _ hcj).1
                rw [hj] at h2; cases h2
                exact absurd hpd h1
            rw [← hf', ← hs'] at hQ
            exact hQ ρ' W' a' hstp hfr hm.dok
          have main : ∀ (fuel : Nat) (listed : Array Bool) (a' : Act) (W' : World), listed.size = ops.size → ((List.range ops.size).filter fun i => !listed.getD i true).length ≤ fuel →
              Mid E σ D x a.tmps.size (fun i => listed.getD i false = true) a' W' → wpAny E.P .any ops Q fuel listed a' W' := by
            intro fuel
            induction fuel with
            | zero =>
              intro listed a' W' hsz hn hm
              have hl : ∀ i, i < ops.size → listed.getD i false = true := by
                intro i hi
                cases hq : listed.getD i false with
                | true => rfl
                | false =>
                  have : listed.getD i true = false := by
                    rw [Array.getD_eq_getD_getElem?] at hq ⊢
                    rw [Array.getElem?_eq_getElem (by omega)] at hq ⊢
                    exact hq
                  have hmem : i ∈ (List.range ops.size).filter fun i => !listed.getD i true := by
                    rw [List.mem_filter, List.mem_range]
                    exact ⟨hi, by rw [this]; rfl⟩
                  have := List.length_pos_of_mem hmem
                  omega
              refine ⟨?_, hdone listed a' W' hl hm⟩
              unfold Region.ready
              rw [List.filter_eq_nil_iff]
              intro i hi
              rw [List.mem_range] at hi
              have : listed.getD i true = true := by
                have := hl i hi
                rw [Array.getD_eq_getD_getElem?] at this ⊢
                rw [Array.getElem?_eq_getElem (by omega)] at this ⊢
                exact this
              simp [this]
            | succ fuel ih =>
              intro listed a' W' hsz hn hm
              have hmemready : ∀ i, i ∈ Region.ready .any ops listed ↔ (i < ops.size ∧ listed.getD i true = false ∧ ∃ o, ops[i]? = some o ∧ ∀ d ∈ deps o, listed.getD d false = true) := by
                intro i
                unfold Region.ready
                rw [List.mem_filter, List.mem_range]
                constructor
                · rintro ⟨h1, h2⟩
                  simp only [Bool.and_eq_true, Bool.not_eq_true'] at h2
                  obtain ⟨h2, h3⟩ := h2
                  have ho : ops[i]? = some ops[i] := Array.getElem?_eq_getElem h1
                  refine ⟨h1, h2, ops[i], ho, fun d hd => ?_⟩
                  rw [ho] at h3
                  simp only [Option.map_some, Option.getD_some, Array.all_eq_true'] at h3
                  unfold deps at hd
                  simp only [List.mem_map, List.mem_filter, Array.mem_toList_iff] at hd
                  obtain ⟨e, ⟨he1, he2⟩, rfl⟩ := hd
                  have := h3 e he1
                  simpa [he2] using this
                · rintro ⟨h1, h2, o, ho, h3⟩
                  refine ⟨h1, ?_⟩
                  simp only [Bool.and_eq_true, Bool.not_eq_true']
                  refine ⟨h2, ?_⟩
                  rw [ho]
                  simp only [Option.map_some, Option.getD_some, Array.all_eq_true']
                  intro e he
                  cases hb : Region.binds .any e with
                  | false => simp
                  | true =>
                    have := h3 e.on (by unfold deps; simp only [List.mem_map, List.mem_filter, Array.mem_toList_iff]; exact ⟨e, ⟨he, hb⟩, rfl⟩)
                    simpa using this
              have hgd : ∀ i, i < ops.size → listed.getD i true = listed.getD i false := by
                intro i hi
                rw [Array.getD_eq_getD_getElem?, Array.getD_eq_getD_getElem?, Array.getElem?_eq_getElem (by omega)]; rfl
              refine ⟨fun hr => ?_, fun i hi => ?_⟩
              · refine hdone listed a' W' ?_ hm
                intro i
                induction i using Nat.strongRecOn with
                | _ i ihi =>
                  intro hi
                  cases hq : listed.getD i false with
                  | true => rfl
                  | false =>
                    have ho : ops[i]? = some ops[i] := Array.getElem?_eq_getElem hi
                    have : i ∈ Region.ready .any ops listed := (hmemready i).2 ⟨hi, by rw [hgd i hi]; exact hq, ops[i], ho, fun d hd => by
                      have hlt := hst.low i ops[i] (by simp [ho]) d hd
                      exact ihi d hlt (by omega)⟩
                    rw [hr] at this
                    exact absurd this (by simp)
              · obtain ⟨hi1, hi2, o, ho, hdeps⟩ := (hmemready i).1 hi
                rw [hgd i hi1] at hi2
                have hni : ¬ listed.getD i false = true := by rw [hi2]; simp
                have hci : rcs[i]? = some rcs[i] := List.getElem?_eq_getElem (by omega)
                generalize rcs[i] = c at hci
                obtain ⟨q1, q2, q3⟩ := p4 i c hci
                have hcx : x.rcs[i]? = some c := by rw [xr]; exact hci
                have hoL : ops.toList[i]? = some o := by simpa using ho
                have hoX : x.all[i]? = some o := by rw [xa]; exact hoL
                have hco : c.o = o := by
                  rw [hoL] at q1; exact (Option.some.inj q1).symm
                have hdn : ∀ (i : Nat) (o : Oper), ops.toList[i]? = some o → listed.getD i false = true → ∀ d ∈ deps o, listed.getD d false = true := by
                  intro i o hio; exact hm.down i o (by rw [xa]; exact hio)
                obtain ⟨k, S, ρ1, bs, hcore, hmax⟩ := hm.core
                have hbit : ∀ j, Nat.testBit ((ms[i]?).getD 0) j = true → listed.getD j false = true := fun j hj => hst.downR (L := fun j => listed.getD j false = true) hdn hoL hdeps hj
                -- how things stand behind it
                have hset : ∀ j, (listed.setIfInBounds i true).getD j false = true ↔ (listed.getD j false = true ∨ j = i) := by
                  intro j
                  rw [Array.getD_eq_getD_getElem?, Array.getD_eq_getD_getElem?]
                  by_cases e : j = i
                  · subst e
                    rw [Array.getElem?_setIfInBounds_self_of_lt (by omega)]; simp
                  · rw [Array.getElem?_setIfInBounds_ne (Ne.symm e)]; simp [e]
                have hafter : ∀ (k2 : Nat) (S2 : St) (ρ2 : Rho) (bs2 : Nat → Nat) (u : Value) (W2 : World) (ds : List Deferred), (ds = a'.defers ∨ ∃ d, Idle E d ∧ ds = d :: a'.defers) →
                    Core E.P σ x k2 S2 ρ2 bs2 (fun j => listed.getD j false = true ∨ j = i) (({ a' with defers := ds } : Act).put o.dst u) W2 →
                    wpAny E.P .any ops Q fuel (listed.setIfInBounds i true) (({ a' with defers := ds } : Act).put o.dst u) W2 := by
                  intro k2 S2 ρ2 bs2 u W2 ds hds hc2
                  have hc3 := hc2.congr (fun j => (hset j).symm)
                  obtain ⟨k3, S3, ρ3, hc4, hmax3⟩ := Core.catch_all hx _ _ _ _ (Nat.le_refl _) hc3
                  refine ih _ _ _ (by simpa using hsz) ?_ ⟨?_, ⟨k3, S3, ρ3, bs2, hc4, hmax3⟩, ?_, ?_⟩
                  · have := unl_lt (p := fun j => !listed.getD j true) (q := fun j => !(listed.setIfInBounds i true).getD j true) (i := i) (by rw [hgd i hi1, hi2]; rfl) (by
                      rw [Array.getD_eq_getD_getElem?, Array.getElem?_setIfInBounds_self_of_lt (by omega)]; rfl) (by
                      intro x hx
                      rw [Array.getD_eq_getD_getElem?] at hx ⊢
                      by_cases e : x = i
                      · subst e
                        rw [Array.getElem?_setIfInBounds_self_of_lt (by omega)] at hx
                        simp at hx
                      · rw [Array.getElem?_setIfInBounds_ne (Ne.symm e)] at hx
                        exact hx) (List.range ops.size) (List.mem_range.2 hi1)
                    omega
                  · intro j oj hj hlj d hdj
                    rw [hset] at hlj ⊢
                    left
                    rcases hlj with hlj | rfl
                    · exact hm.down j oj hj hlj d hdj
                    · rw [hoX] at hj; cases hj; exact hdeps d hdj
                  · rw [put_size]; exact hm.size
                  · rw [put_defers]; exact DOK.of hm.dok hds
                by_cases hfl : floats x.all i = true
                · -- it floats
                  obtain ⟨o', ty, t0, f1, f2, f3, f4⟩ := floats_some hfl
                  rw [hoX] at f1; cases f1
                  obtain ⟨r, hr, hw⟩ := stepW_some q3
                  unfold step at hr
                  rw [hco, f3] at hr
                  simp only [guardOk] at hr
                  rw [opT_eq, f2] at hr
                  simp only [op] at hr
                  cases hz : zeroV E.P ty with
                  | none => rw [hz] at hr; cases hr
                  | some z =>
                    rw [hz] at hr
                    obtain ⟨u, b1, b2⟩ := zero_one hz
                    have hto : ∃ s2, c.w.to = some s2 := by
                      have hr : some (V.ptr (fresh (stAt s rcs i)).next 0, (fresh (stAt s rcs i)).new (newB E ty z)) = some r := hr
                      cases hr
                      rw [hw]
                      unfold Ev.was
                      have hsame : same (stAt s rcs i) ((fresh (stAt s rcs i)).new (newB E ty z)) = false := by
                        have hn : ((fresh (stAt s rcs i)).new (newB E ty z)).next = (stAt s rcs i).next + 1 := rfl
                        unfold same
                        rw [hn]
                        cases hq : Nat.beq ((stAt s rcs i).next + 1) (stAt s rcs i).next with
                        | false => rfl
                        | true => rw [Nat.beq_eq] at hq; omega
                      simp only [hsame]
                      exact ⟨_, rfl⟩
                    obtain ⟨s2, hto⟩ := hto
                    have hq0 := hx.of_to hcx hto
                    unfold wpOp
                    rw [ho]
                    have hwant : Region.wanted o (yielded ops a'.tmps) = true := by simp [Region.wanted, f3]
                    simp only [hwant, if_true]
                    left
                    unfold Oper.wp
                    have hexe : (execOp a'.eval o).run E.P W' = .ok (.value (.pointer (some ⟨W'.heap.size, 0, none⟩))) { W' with heap := W'.heap.push (.cells u.cells ty) } := by
                      simp only [execOp, f2, Sem.run_bind, alloc_run b1, Result.andThen_ok, Sem.run_pure]
                    rw [hexe]
                    exact hafter k S ρ1 _ _ _ a'.defers (.inl rfl) (hcore.float hx halone hoX f2 f3 f4 hfl hq0 hni b1 (by rw [hm.size]; exact hfsz))
                · have hfl : floats x.all i = false := by simpa using hfl
                  -- where it stands
                  have hplace : ∀ j q, Nat.testBit ((ms[i]?).getD 0) j = true → x.es[q]? = some j → q < k := by
                    intro j q hj hq
                    rcases Nat.lt_or_ge q k with c1 | c1
                    · exact c1
                    · exfalso
                      obtain ⟨hfj, _⟩ := hcore.air q j hq (hbit j hj) c1
                      have hkl : k < x.es.length := by
                        have := (List.getElem?_eq_some_iff.1 hq).1; omega
                      have hek : x.es[k]? = some x.es[k] := List.getElem?_eq_getElem hkl
                      have hnk := hmax _ hek
                      by_cases e1 : q = k
                      · subst e1; rw [hek] at hq; rw [Option.some.inj hq] at hnk; exact hnk (hbit j hj)
                      · cases hto : c.w.to with
                        | none =>
                          have hair := (looks_spec rcs 0 0 hlooks i c hci hto).2
                          rw [Nat.zero_add] at hair
                          have hmem := air_spec _ _ hair q j (by rw [← xe]; exact hq) (by rw [← xa]; exact hfj) hj x.es[k] (by
                            simp only [List.nil_append]
                            refine List.mem_of_getElem? (i := k) ?_
                            rw [List.getElem?_take, if_pos (by omega), ← xe]; exact hek)
                          exact hnk (hbit _ hmem)
                        | some s2 =>
                          have hti := hx.of_to hcx hto
                          rw [xr] at hti
                          -- j comes ahead of i, and stands ahead of it
                          obtain ⟨_, _, _, _, hqj, _⟩ := hx.turn hq
                          rw [xr] at hqj
                          have hji := hst.lt i j hj
                          have hle := tb_mono rcs j i (by omega)
                          have hne : tb rcs i ≠ q := by
                            intro e2
                            rw [e2, hq] at hti
                            have := Option.some.inj hti
                            omega
                          have hlt : q < tb rcs i := by omega
                          have hmem := chain_spec (turns rcs 0) [] hchain (tb rcs i) i (by rw [← xe]; exact hti) (by rw [← xa]; exact hfl) x.es[k] (by
                            simp only [List.nil_append]
                            refine List.mem_of_getElem? (i := k) ?_
                            rw [List.getElem?_take, if_pos (by omega), ← xe]; exact hek)
                          exact hnk (hbit _ hmem)
                  -- what the operation looks at
                  have hreads : ∀ t ∈ reads ops.toList o, ∀ v, c.f.get t = some v → t < a'.tmps.size ∧ VR σ ρ1 v (a'.tmps.getD t Go.undef) := by
                    intro t ht v hv
                    rw [q2] at hv
                    obtain ⟨g1, g2⟩ := fAt_get rcs f i (by omega) t v hv
                    have g1' : (x.f0.get t).isSome := by rw [xf]; exact g1
                    refine ⟨by rw [hm.size]; exact hfsz t g1', ?_⟩
                    rcases g2 with ⟨j, cj, b1, b2, b3, rfl⟩ | ⟨b1, b2⟩
                    · have hbt : Nat.testBit ((ms[i]?).getD 0) j = true := by
                        rcases hst.reads i o hoL t ht j cj.o (p4 j cj b2).1 b3 with h1 | h1
                        · exact h1
                        · have := hst.lt j i h1; omega
                      exact hcore.was j cj (hbit j hbt) (by rw [xr]; exact b2) (fun q hq => hplace j q hbt hq) t b3 g1'
                    · refine hcore.old t v (fun j p hj hpd hl => ?_) (by rw [xf]; exact b1)
                      rw [xa] at hj
                      rcases hst.reads i o hoL t ht j p hj hpd with h1 | h1
                      · have hji := hst.lt i j h1
                        have hcj : rcs[j]? = some rcs[j] := List.getElem?_eq_getElem (by omega)
                        have h3 := b2 j _ hji hcj
                        have h2 := (p4 j _ hcj).1
                        rw [hj] at h2; cases h2
                        exact h3 hpd
                      · exact hni (hst.down (L := fun j => listed.getD j false = true) hdn j i hl h1)
                  have hev : ∀ y ∈ o.op.operands, EvOk σ ρ1 c.f a'.eval y := by
                    intro y hy v hv
                    cases y with
                    | tmp t =>
                      refine (hreads t ?_ v hv).2
                      unfold reads
                      simp only [List.mem_append, List.mem_filterMap]
                      exact .inl ⟨.tmp t, by simpa using hy, rfl⟩
                    | const u => exact ofV_VR hv
                    | global g => cases hv
                    | func g => cases hv; simp only [VR]; exact ⟨[], by simp [VRs], rfl⟩
                  -- the operation itself
                  have hgo : ∀ (S0 : St) (r : V × St), step E call ops.toList c.o c.f (fresh S0) = some r → Sim σ ρ1 S0 W' → (∀ ρ2 u W2 ds, Stp σ ρ1 (fresh S0) W' ρ2 r.2 W2 → VR σ ρ2 r.1 u → (ds = a'.defers ∨ ∃ d, Idle E d ∧ ds = d :: a'.defers) → wpAny E.P .any ops Q fuel (listed.setIfInBounds i true) (({ a' with defers := ds } : Act).put o.dst u) W2) →
                      wpOp E.P ops Q i (wpAny E.P .any ops Q fuel (listed.setIfInBounds i true)) a' W' := by
                    intro S0 r hr hS hk
                    rw [hco] at hr
                    unfold wpOp
                    rw [ho]
                    unfold step at hr
                    split at hr
                    · rename_i hg
                      simp only [guard_at hreads hg, if_true]
                      left
                      rw [opT_eq] at hr
                      obtain ⟨v, s1⟩ := r
                      exact op_wp hE hc hS.fresh hev hr (fun ρ2 u W2 ds h1 h2 h3 => hk ρ2 u W2 ds h1 h2 h3)
                    · rename_i hg
                      simp only [guard_at hreads hg, Bool.false_eq_true, if_false]
                      cases hr
                      exact hk ρ1 Go.undef W' a'.defers (Stp.refl hS.fresh) (by simp only [VR]) (.inl rfl)
                    · cases hr
                  have hcsz : ∀ t, (x.f0.get t).isSome → t < a'.tmps.size := by rw [hm.size]; exact hfsz
                  cases hto : c.w.to with
                  | some s2 =>
                    have hti := hx.of_to hcx hto
                    rw [xr] at hti
                    -- it comes at its own stage
                    have hk : k = tb rcs i := by
                      rcases Nat.lt_or_ge (tb rcs i) k with c1 | c1
                      · exact absurd (hcore.got _ i hti c1) hni
                      · rcases Nat.lt_or_ge k (tb rcs i) with c2 | c2
                        · exfalso
                          have hkl : k < x.es.length := by
                            have := (List.getElem?_eq_some_iff.1 hti).1; omega
                          have hek : x.es[k]? = some x.es[k] := List.getElem?_eq_getElem hkl
                          have hmem := chain_spec (turns rcs 0) [] hchain (tb rcs i) i (by rw [← xe]; exact hti) (by rw [← xa]; exact hfl) x.es[k] (by
                            simp only [List.nil_append]
                            refine List.mem_of_getElem? (i := k) ?_
                            rw [List.getElem?_take, if_pos c2, ← xe]; exact hek)
                          exact hmax _ hek (hbit _ hmem)
                        · omega
                    rw [← hk] at hti
                    obtain ⟨cc, s2', e1, e2, e3, e4, e5⟩ := hx.turn hti
                    rw [hcx] at e1; cases e1
                    rw [hto] at e2; cases e2
                    rw [hcore.stage, xs, xr] at e4
                    have hSi := Option.some.inj e4
                    rw [← hSi] at q3
                    obtain ⟨r, hr, hw⟩ := stepW_some q3
                    have hto2 : (was S r).to = some s2 := by rw [← hw]; exact hto
                    have hwv : c.w.v = r.1 := by rw [hw]; unfold Ev.was; split <;> rfl
                    have hs2 : s2 = ⟨r.2.heap, r.2.next, minN S.low r.2.low⟩ := by
                      unfold Ev.was at hto2
                      split at hto2
                      · cases hto2
                      · exact (Option.some.inj hto2).symm
                    refine hgo S r hr hcore.stp.sim (fun ρ2 u W2 ds h1 h2 h3 => ?_)
                    have h4 := Stp.relow h1
                    rw [← hs2] at h4
                    rw [← hco]
                    exact hco ▸ hafter (k + 1) s2 ρ2 bs u W2 ds h3 (hco ▸ hcore.after hx halone hcx hni (.inl ⟨rfl, hti⟩) e5 h4 (by rw [hwv]; exact h2) hcsz)
                  | none =>
                    obtain ⟨hok, hair⟩ := looks_spec rcs 0 0 hlooks i c hci hto
                    rw [Nat.zero_add, Nat.zero_add] at hok
                    have hnoes : ∀ q : Nat, x.es[q]? ≠ some i := by
                      intro q hq
                      obtain ⟨cc, sx, e1, e2, _⟩ := hx.turn hq
                      rw [hcx] at e1; cases e1
                      rw [hto] at e2; cases e2
                    have hwas : ∃ w, stepW E call ops.toList c.o c.f S = some w ∧ w.to = none ∧ w.v = c.w.v := by
                      by_cases hown : k = tb rcs i
                      · have hSi := stages_at rcs s i (by omega)
                        have h9 := hcore.stage
                        rw [xt, hown, hSi] at h9
                        rw [← Option.some.inj h9]
                        exact ⟨c.w, q3, hto, rfl⟩
                      · have h1 := stagesOk_spec _ _ _ _ hok k S (by rw [← xt]; exact hcore.stage) (by
                          intro e; exact hown (Option.some.inj e).symm) (by
                          intro e he
                          simp only [List.nil_append] at he
                          obtain ⟨q, hq⟩ := List.getElem?_of_mem he
                          have hqk : q < k := by
                            have := (List.getElem?_eq_some_iff.1 hq).1
                            simp at this; omega
                          rw [List.getElem?_take, if_pos hqk] at hq
                          have hle := hcore.got q e (by rw [xe]; exact hq) hqk
                          cases hb : Nat.testBit ((ms[e]?).getD 0) i with
                          | false => rfl
                          | true => exact absurd (hst.down (L := fun j => listed.getD j false = true) hdn e i hle hb) hni) (by
                          intro e he
                          obtain ⟨q, hq⟩ := List.getElem?_of_mem he
                          rw [List.getElem?_drop] at hq
                          cases hb : Nat.testBit ((ms[i]?).getD 0) e with
                          | false => rfl
                          | true =>
                            have := hplace e (k + q) hb (by rw [xe]; exact hq)
                            omega)
                        exact asWas_some h1
                    obtain ⟨w, hw1, hw2, hw3⟩ := hwas
                    obtain ⟨r, hr, hw⟩ := stepW_some hw1
                    subst hw
                    have hsame : same S r.2 = true := by
                      unfold Ev.was at hw2
                      split at hw2
                      · assumption
                      · cases hw2
                    have hrv : r.1 = c.w.v := by
                      rw [← hw3]; unfold Ev.was; split <;> rfl
                    unfold same at hsame
                    simp only [Bool.and_eq_true] at hsame
                    rw [Nat.beq_eq, Nat.beq_eq] at hsame
                    refine hgo S r hr hcore.stp.sim (fun ρ2 u W2 ds h1 h2 h3 => ?_)
                    have hback := Stp.back hcore.stp.sim h1 (by omega)
                    have hv := VR.old2 h1 hsame.1 h2
                    rw [← hco]
                    exact hco ▸ hafter k S ρ1 bs u W2 ds h3 (hco ▸ hcore.after hx halone hcx hni (.inr ⟨rfl, hnoes⟩) hcore.stage hback (by rw [← hrv]; exact hv) hcsz)
          have hw0 : Stp σ ρ s W ρ s { W with drawn := W.drawn + 1 } := Stp.heap hs rfl rfl rfl rfl
          have hno : ∀ i, ¬ (Array.replicate ops.size false).getD i false = true := by
            intro i
            rw [Array.getD_eq_getD_getElem?]
            by_cases hi : i < ops.size
            · rw [Array.getElem?_replicate, if_pos hi]; simp
            · rw [Array.getElem?_replicate, if_neg hi]; simp
          refine main ops.size _ a _ (by simp) ?_ ⟨?_, ⟨0, s, ρ, fun _ => 0, ⟨Nat.zero_le _, ?_, ?_, ?_, ?_, ?_, ?_, ?_⟩, ?_⟩, rfl, hd⟩
          · have := List.length_filter_le (fun i => !(Array.replicate ops.size false).getD i true) (List.range ops.size)
            simpa using this
          · intro i o _ hL; exact absurd hL (hno i)
          · intro q e _ h0; omega
          · have := stages_at rcs s 0 (Nat.zero_le _)
            rw [tb_zero, stAt_zero] at this; rw [xt]; exact this
          · rw [xρ, xs, xW]; exact hw0
          · intro t v _ hv; rw [xf] at hv; exact (hf t v hv).2
          · intro j c hL; exact absurd hL (hno j)
          · intro q e _ hL; exact absurd hL (hno e)
          · intro q e q' e' _ _ hL; exact absurd hL (hno e)
          · intro e _; exact hno e
        · cases h
  · cases h
end walk
end
end Go.Proofs.YtnpkeganpkobjaaGreatDoor.Ev
