import Derived.Test.YtnpkeganpkobjaaGreatDoorXD
import Derived.Lib.UnsafeStr
import Derived.Lib.MakeNoZero
import Derived.Laws.CopyRow
import Derived.Defers
import Derived.LoopN
import Derived.Orders
set_option linter.all false
namespace Go.Proofs.YtnpkeganpkobjaaGreatDoor.Ev
open Go Go.RowKit
noncomputable section
section maps
variable {σ : Nat → Int} {ρ : Rho} {s s' s1 : St} {W : World} {P : Program} {v : V}
theorem findK_at {G : Nat → Int × Int} {k : V} : ∀ {l : List (V × V)} {i0 i : Nat} {w : V}, findK G k l i0 = some (some (i, w)) → i0 ≤ i ∧ ∃ p : V × V, l[i - i0]? = some p ∧ eqK G k p.1 = some true := by
  intro l
  induction l with
  | nil => intro i0 i w h; simp [findK] at h
  | cons p l ih =>
    intro i0 i w h
    obtain ⟨pk, pv⟩ := p
    simp only [findK] at h
    split at h
    · rename_i hk
      simp only [Option.some.injEq, Prod.mk.injEq] at h
      obtain ⟨rfl, rfl⟩ := h
      exact ⟨Nat.le_refl _, (pk, pv), by simp, hk⟩
    · obtain ⟨h1, q, h2, h3⟩ := ih h
      refine ⟨by omega, q, ?_, h3⟩
      obtain ⟨m, hm⟩ : ∃ m, i - i0 = m + 1 := ⟨i - i0 - 1, by omega⟩
      have : i - (i0 + 1) = m := by omega
      rw [this] at h2
      rw [hm]; simpa using h2
    · cases h
theorem same_leaf {G : Nat → Int × Int} (hG : Gok G σ) {k a : V} {uk ua : Value} (hk : VR σ ρ k uk) (ha : VR σ ρ a ua) (h : eqK1 G k a = some true) (n : Nat) : Instr.sameBits n ua uk = true := by
  rcases key_next h with ⟨x, y, rfl, rfl, e⟩ | ⟨i, x, y, rfl, rfl, e⟩ | ⟨x, y, rfl, rfl, e⟩
  · simp only [VR] at hk ha
    obtain ⟨xb, hx, rfl⟩ := hk
    obtain ⟨yb, hy, rfl⟩ := ha
    have : (xb == yb) = true := by rw [bytes_eq hx hy, eqS_sound hG e]
    have e2 : (yb == xb) = true := by
      have e0 : ∀ p q : ByteArray, (p == q) = (p.data == q.data) := fun p q => by cases p; cases q; rfl
      rw [e0] at this ⊢
      simp only [beq_iff_eq] at this ⊢
      exact this.symm
    cases n <;> simpa [Instr.sameBits] using e2
  · simp only [VR] at hk ha; subst hk; subst ha
    simp only [decide_eq_true_eq] at e; subst e
    cases n <;> simp [Instr.sameBits]
  · simp only [VR] at hk ha; subst hk; subst ha
    simp only [beq_iff_eq] at e; subst e
    cases n <;> simp [Instr.sameBits]
theorem same_leaves {G : Nat → Int × Int} (hG : Gok G σ) (n : Nat) : ∀ {k a : List V} {uk ua : List Value}, VRs σ ρ k uk → VRs σ ρ a ua → eqKs G k a = some true → ua.length = uk.length ∧ ((ua.zip uk).all fun p => Instr.sameBits n p.1 p.2) = true := by
  intro k
  induction k with
  | nil =>
    intro a uk ua hk ha h
    cases a with
    | nil => simp only [VRs] at hk ha; subst hk; subst ha; simp
    | cons b a => simp [eqKs] at h
  | cons x k ih =>
    intro a uk ua hk ha h
    cases a with
    | nil => simp [eqKs] at h
    | cons b a =>
      simp only [VRs] at hk ha
      obtain ⟨u1, r1, k1, k2, rfl⟩ := hk
      obtain ⟨u2, r2, a1, a2, rfl⟩ := ha
      simp only [eqKs] at h
      split at h
      · rename_i hq
        obtain ⟨h1, h2⟩ := ih k2 a2 h
        refine ⟨by simp [h1], ?_⟩
        simp only [List.zip_cons_cons, List.all_cons, same_leaf hG k1 a1 hq n, Bool.true_and]
        exact h2
      · cases h
      · cases h
theorem sameBits_agg (n : Nat) (a b : Array Value) : Instr.sameBits (n + 1) (.agg a) (.agg b) = (a.size == b.size && (a.toList.zip b.toList).all fun (x, y) => Instr.sameBits n x y) := by
  simp [Instr.sameBits]
theorem same_key {G : Nat → Int × Int} (hG : Gok G σ) {k a : V} {uk ua : Value} (hk : VR σ ρ k uk) (ha : VR σ ρ a ua) (h : eqK G k a = some true) (n : Nat) : Instr.sameBits (n + 1) ua uk = true := by
  cases k
  case agg l =>
    cases a <;> simp only [eqK] at h <;> try (cases h; done)
    simp only [VR] at hk ha
    obtain ⟨us, hus, rfl⟩ := hk
    obtain ⟨ws, hws, rfl⟩ := ha
    obtain ⟨h1, h2⟩ := same_leaves hG n hus hws h
    rw [sameBits_agg]
    simp only [List.size_toArray, h1, beq_self_eq_true, Bool.true_and]
    exact h2
  all_goals exact same_leaf hG hk ha h _
theorem update_sound {E : Env} (hG : Gok E.G σ) (hK : KeysOk E σ) (hs : Sim σ ρ s W) {t : TypeId} {m k x : V} {um uk ux : Value} (hm : VR σ ρ m um) (hk : VR σ ρ k uk) (hx : VR σ ρ x ux) (h : updateV E t m k x s = some s') :
    ∃ W', (Instr.mapUpdate t um uk ux).run E.P W = .ok () W' ∧ Stp σ ρ s W ρ s' W' := by
  unfold updateV at h
  split at h
  · rename_i kt el hd
    split at h
    · rename_i hko
      obtain ⟨k1, k2⟩ := key_sound (W := W) hG hK hk hko
      split at h
      · rename_i id
        simp only [VR] at hm; obtain ⟨b, n, hr, rfl⟩ := hm
        split at h
        · rename_i l hl
          obtain ⟨es, ck, h2, h3, h4, h5⟩ := mapB_some hs hr hl
          have hg : (getObj b).run E.P W = .ok (.map es ck) W := by simp [getObj, Sem.run, h2]
          have hset : ∀ o, (setObj b o).run E.P W = .ok () { W with heap := W.heap.setIfInBounds b o } := fun o => by simp [setObj, Sem.run, h2]
          have hbs := hs.old id _ _ hr
          have hblk := hs.blk id
          have hOR : OR σ ρ n (.map l) (.map es ck) := by
            unfold mapB at hl
            split at hl
            · rename_i l' hg'; cases hl
              obtain ⟨b', n', o, a1, a2, a3⟩ := hblk _ hg'
              rw [hr] at a1; cases a1
              rw [h2] at a2; cases a2
              exact a3
            · cases hl
          obtain ⟨es', ck', e0, e1, e2⟩ := hOR
          cases e0
          cases hf : findK E.G k l 0 with
          | none => rw [hf] at h; simp [putK] at h
          | some r =>
            rw [hf] at h
            obtain ⟨q, q1, q2⟩ := k2 l es.toList r h3 hf
            cases r with
            | none =>
              simp only [Found] at q2; subst q2
              simp only [putK, Option.some.injEq] at h; subst h
              refine ⟨{ W with heap := W.heap.setIfInBounds b (.map (es.push { key := uk, val := ux, born := ck }) (ck + 1)) }, ?_, Stp.set hs h4 hr (o := .map (es.push { key := uk, val := ux, born := ck }) (ck + 1)) (by simp [hbs]) ⟨_, _, rfl, by simp [e1], ?_⟩ (fun j hj => by simp [Array.getElem?_setIfInBounds_ne (Ne.symm hj)]) (by simp) rfl rfl rfl⟩
              · simp [Instr.mapUpdate, run_underlying hd, hg, k1, q1, hset]
              · intro i p hp
                by_cases hi : i < l.length
                · rw [List.getElem?_append_left hi] at hp
                  obtain ⟨e, a1, a2, a3⟩ := e2 i p hp
                  exact ⟨e, by rw [Array.getElem?_push, if_neg (by omega)]; exact a1, a2, a3.1, Nat.lt_succ_of_lt a3.2⟩
                · rw [List.getElem?_append_right (by omega)] at hp
                  have hi2 : i - l.length = 0 := by
                    have := (List.getElem?_eq_some_iff.1 hp).1
                    simp at this; omega
                  rw [hi2] at hp; simp at hp; subst hp
                  exact ⟨_, by rw [Array.getElem?_push, if_pos (by omega)], hk, hx, Nat.lt_succ_self _⟩
            | some p =>
              simp only [Found] at q2; obtain ⟨u, rfl, q3⟩ := q2
              simp only [putK, Option.some.injEq] at h; subst h
              obtain ⟨_, pp, g1, g2⟩ := findK_at (w := p.2) hf
              rw [Nat.sub_zero] at g1
              obtain ⟨e, a1, a2, a3⟩ := e2 p.1 pp g1
              have hsb : Instr.sameBits 10000 e.key uk = true := same_key hG hk a2 g2 9999
              refine ⟨{ W with heap := W.heap.setIfInBounds b (.map (es.modify p.1 fun e => { e with key := uk, val := ux }) ck) }, ?_, Stp.set hs h4 hr (o := .map (es.modify p.1 fun e => { e with key := uk, val := ux }) ck) (by simp [hbs]) ⟨_, _, rfl, by simp [e1, lset_eq], ?_⟩ (fun j hj => by simp [Array.getElem?_setIfInBounds_ne (Ne.symm hj)]) (by simp) rfl rfl rfl⟩
              · simp [Instr.mapUpdate, run_underlying hd, hg, k1, q1, hset, a1, Instr.keyThatStays, hsb]
              · intro i pq hp
                rw [lset_eq] at hp
                rw [Array.getElem?_modify]
                by_cases hi : p.1 = i
                · subst hi
                  rw [if_pos rfl, a1]
                  rw [List.getElem?_set_self (List.getElem?_eq_some_iff.1 g1).1] at hp
                  cases hp
                  exact ⟨_, rfl, hk, hx, a3.2⟩
                · rw [if_neg hi]
                  rw [List.getElem?_set_ne hi] at hp
                  exact e2 i pq hp
        · unfold putS at h
          split at h
          · rename_i hsm
            split at h
            · rename_i ks
              split at h
              · rename_i hi64
                cases h
                obtain ⟨es, ck, h2, h3⟩ := smap_some hs hr hsm
                have hg : (getObj b).run E.P W = .ok (.map es ck) W := by simp [getObj, Sem.run, h2]
                have hset : ∀ o, (setObj b o).run E.P W = .ok () { W with heap := W.heap.setIfInBounds b o } := fun o => by simp [setObj, Sem.run, h2]
                have hbs := hs.old id _ _ hr
                have hkt : E.P.underlying kt = some .string := by
                  unfold keyOk at hko
                  simp only at hko
                  split at hko
                  · assumption
                  · cases hko
                have hv : ∃ m, ux = .int .i64 m := by
                  unfold isI64 at hi64
                  split at hi64 <;> first | (cases hi64; done) | (simp only [VR] at hx; first | exact ⟨_, hx⟩ | exact hx)
                obtain ⟨mv, rfl⟩ := hv
                simp only [VR] at hk; obtain ⟨xk, hxk, rfl⟩ := hk
                obtain ⟨q, q1, q2⟩ := findNow_any xk es.toList 0 h3
                have hfk : (Instr.findKey kt (.string xk) es.toList).run E.P W = .ok q W := by simp [Instr.findKey, run_underlying hkt, q1]
                have hlive : (s.heap.get id).isSome := by rw [hsm]; rfl
                cases q with
                | none =>
                  refine ⟨{ W with heap := W.heap.setIfInBounds b (.map (es.push { key := .string xk, val := .int .i64 mv, born := ck }) (ck + 1)) }, ?_, Stp.set hs hlive hr (o := .map (es.push { key := .string xk, val := .int .i64 mv, born := ck }) (ck + 1)) (by simp [hbs]) ⟨_, _, rfl, ?_⟩ (fun j hj => by simp [Array.getElem?_setIfInBounds_ne (Ne.symm hj)]) (by simp) rfl rfl rfl⟩
                  · simp [Instr.mapUpdate, run_underlying hd, hg, k1, hfk, hset]
                  · intro e he
                    simp only [Array.toList_push, List.mem_append, List.mem_singleton] at he
                    rcases he with he | rfl
                    · exact h3 e he
                    · exact ⟨⟨_, rfl⟩, _, rfl⟩
                | some p =>
                  obtain ⟨m, e, e0, e1, e2, y, hy, hxy⟩ := q2 p.1 p.2 rfl
                  rw [Nat.zero_add] at e0
                  have e1' : es[p.1]? = some e := by rw [e0]; simpa using e1
                  have hsb : Instr.sameBits 10000 e.key (.string xk) = true := by
                    rw [hy]
                    have e3 : ∀ p q : ByteArray, (p == q) = (p.data == q.data) := fun p q => by cases p; cases q; rfl
                    have : (y == xk) = true := by
                      rw [e3] at hxy ⊢
                      simp only [beq_iff_eq] at hxy ⊢
                      exact hxy.symm
                    simpa [Instr.sameBits] using this
                  refine ⟨{ W with heap := W.heap.setIfInBounds b (.map (es.modify p.1 fun e => { e with key := .string xk, val := .int .i64 mv }) ck) }, ?_, Stp.set hs hlive hr (o := .map (es.modify p.1 fun e => { e with key := .string xk, val := .int .i64 mv }) ck) (by simp [hbs]) ⟨_, _, rfl, ?_⟩ (fun j hj => by simp [Array.getElem?_setIfInBounds_ne (Ne.symm hj)]) (by simp) rfl rfl rfl⟩
                  · simp [Instr.mapUpdate, run_underlying hd, hg, k1, hfk, hset, e1', Instr.keyThatStays, hsb]
                  · intro e' he'
                    obtain ⟨j, hj⟩ := List.getElem?_of_mem he'
                    rw [Array.getElem?_toList, Array.getElem?_modify] at hj
                    split at hj
                    · rename_i hjj
                      simp only [Option.map_eq_some_iff] at hj
                      obtain ⟨e0', _, rfl⟩ := hj
                      exact ⟨⟨_, rfl⟩, _, rfl⟩
                    · exact h3 e' (List.mem_of_getElem? (by rw [Array.getElem?_toList]; exact hj))
              · cases h
            · cases h
          · cases h
      · cases h
    · cases h
  · cases h
end maps
section more
variable {σ : Nat → Int} {ρ ρ' : Rho} {s s' : St} {W W' : World} {v : V} {u : Value} {P : Program}
theorem capV_sound {t ty : TypeId} {x : V} {ux : Value} (hx : VR σ ρ x ux) (h : capV (P.underlying t) x = some v) : ∃ u, (Builtin.cap_ #[t] ty #[ux]).run P W = .ok u W ∧ VR σ ρ v u := by
  unfold capV at h
  split at h
  · simp only [VR] at hx; subst hx
    split at h
    · rename_i e hd; cases h
      exact ⟨.int .i64 0, by simp [Builtin.cap_, run_underlying hd, goInt], by simp only [VR]⟩
    · cases h
  · cases h
theorem copyV_sound {t t2 ty : TypeId} {x y : V} {ux uy : Value} (hx : VR σ ρ x ux) (hy : VR σ ρ y uy) (h : copyV P (P.underlying t) x y = some v) : ∃ u, (Builtin.copy_ #[t, t2] ty #[ux, uy]).run P W = .ok u W ∧ VR σ ρ v u := by
  unfold copyV at h
  split at h
  · split at h
    · simp only [VR] at hx hy; subst hy
      obtain ⟨b, n, cap, _, _, _, _, rfl⟩ := hx
      split at h
      · rename_i e hd
        split at h
        · rename_i k hk; cases h
          refine ⟨goInt 0, run_copy_nil P W t t2 ty e _ _ _ hd ?_, by simp only [VR]; rfl⟩
          unfold sizeT at hk
          split at hk
          · rename_i i hi; rw [hi]; rfl
          · cases hk
        · cases h
      · cases h
    · cases h
  · cases h
theorem dataV_sound {ts : Array TypeId} {ty : TypeId} {x : V} {ux : Value} (hx : VR σ ρ x ux) (h : dataV x = some v) : ∃ u, (Builtin.unsafeSliceData_ ts ty #[ux]).run P W = .ok u W ∧ VR σ ρ v u := by
  unfold dataV at h
  split at h
  · simp only [VR] at hx; subst hx; cases h
    exact ⟨.pointer none, rfl, by simp only [VR]⟩
  · simp only [VR] at hx
    obtain ⟨b, n, cap, h1, h2, h3, h4, rfl⟩ := hx
    split at h
    · rename_i hl; cases h
      rw [Nat.blt_eq] at hl
      exact ⟨_, Lib.run_unsafeSliceData_row W ts ty _ _ cap (by omega), by simp only [VR]; exact ⟨_, _, h1, rfl⟩⟩
    · cases h
  · cases h
theorem map_or (hs : Sim σ ρ s W) {id b n : Nat} {l : List (V × V)} (hr : ρ id = some (b, n)) (hl : mapB (s.heap.get id) = some l) {es : Array MapEntry} {ck : Nat} (h2 : W.heap[b]? = some (.map es ck)) :
    es.size = l.length ∧ ∀ (i : Nat) (p : V × V), l[i]? = some p → ∃ e : MapEntry, es[i]? = some e ∧ VR σ ρ p.1 e.key ∧ VR σ ρ p.2 e.val ∧ e.born < ck := by
  unfold mapB at hl
  split at hl
  · rename_i l' hg'; cases hl
    obtain ⟨b', n', o, a1, a2, a3⟩ := hs.blk id _ hg'
    rw [hr] at a1; cases a1
    rw [h2] at a2; cases a2
    obtain ⟨es', ck', e0, e1, e2⟩ := a3
    cases e0
    exact ⟨e1, e2⟩
  · cases hl
theorem clearV_sound (hs : Sim σ ρ s W) {t ty : TypeId} {x : V} {ux : Value} (hx : VR σ ρ x ux) (h : clearV (P.underlying t) x s = some (v, s')) :
    ∃ u W', (Builtin.clear_ #[t] ty #[ux]).run P W = .ok u W' ∧ VR σ ρ v u ∧ Stp σ ρ s W ρ s' W' := by
  unfold clearV at h
  split at h
  · rename_i id
    simp only [VR] at hx; obtain ⟨b, n, hr, rfl⟩ := hx
    split at h
    · rename_i kt el hd
      split at h
      · rename_i l hl
        cases h
        obtain ⟨es, ck, h2, h3, h4, h5⟩ := mapB_some hs hr hl
        have hg : (getObj b).run P W = .ok (.map es ck) W := by simp [getObj, Sem.run, h2]
        have hset : ∀ o, (setObj b o).run P W = .ok () { W with heap := W.heap.setIfInBounds b o } := fun o => by simp [setObj, Sem.run, h2]
        have hbs := hs.old id _ _ hr
        refine ⟨.tuple #[], { W with heap := W.heap.setIfInBounds b (.map #[] ck) }, ?_, by simp only [VR]; rfl, Stp.set hs h4 hr (o := .map #[] ck) (by simp [hbs]) ⟨_, _, rfl, by simp, fun i p hp => by simp at hp⟩ (fun j hj => by simp [Array.getElem?_setIfInBounds_ne (Ne.symm hj)]) (by simp) rfl rfl rfl⟩
        simp [Builtin.clear_, run_underlying hd, hg, hset]
      · cases h
    · cases h
  · cases h
theorem ldel_eq {α : Type} : ∀ (l : List α) (n : Nat), ldel l n = l.eraseIdx n
  | [], _ => by simp [ldel]
  | a :: l, 0 => rfl
  | a :: l, n + 1 => by simp [ldel, ldel_eq l n]
theorem deleteV_sound {E : Env} (hG : Gok E.G σ) (hK : KeysOk E σ) (hs : Sim σ ρ s W) {t ty : TypeId} {r : List TypeId} {x k : V} {ux uk : Value} (hx : VR σ ρ x ux) (hk : VR σ ρ k uk) (h : deleteV E (E.P.underlying t) x k s = some s') :
    ∃ W', (Builtin.delete_ (t :: r).toArray ty #[ux, uk]).run E.P W = .ok (.tuple #[]) W' ∧ Stp σ ρ s W ρ s' W' := by
  unfold deleteV at h
  split at h
  · rename_i id
    simp only [VR] at hx; obtain ⟨b, n, hr, rfl⟩ := hx
    split at h
    · rename_i kt el hd
      split at h
      · rename_i hko
        obtain ⟨k1, k2⟩ := key_sound (W := W) hG hK hk hko
        split at h
        · rename_i l hl
          obtain ⟨es, ck, h2, h3, h4, h5⟩ := mapB_some hs hr hl
          obtain ⟨e1, e2⟩ := map_or hs hr hl h2
          have hg : (getObj b).run E.P W = .ok (.map es ck) W := by simp [getObj, Sem.run, h2]
          have hset : ∀ o, (setObj b o).run E.P W = .ok () { W with heap := W.heap.setIfInBounds b o } := fun o => by simp [setObj, Sem.run, h2]
          have hbs := hs.old id _ _ hr
          cases hf : findK E.G k l 0 with
          | none => rw [hf] at h; simp [delK] at h
          | some r =>
            rw [hf] at h
            obtain ⟨q, q1, q2⟩ := k2 l es.toList r h3 hf
            cases r with
            | none =>
              simp only [Found] at q2; subst q2
              simp only [delK, Option.some.injEq] at h; subst h
              have he : W.heap.setIfInBounds b (.map es ck) = W.heap := by
                apply Array.ext (by simp)
                intro i h1 h2'
                by_cases e : b = i
                · subst e; simp; rw [Array.getElem?_eq_getElem h2'] at h2; exact (Option.some.inj h2).symm
                · exact Array.getElem_setIfInBounds_ne h2' e
              refine ⟨{ W with heap := W.heap.setIfInBounds b (.map es ck) }, ?_, Stp.heap hs he rfl rfl rfl⟩
              simp [Builtin.delete_, run_underlying hd, hg, k1, q1, hset]
            | some p =>
              simp only [Found] at q2; obtain ⟨u, rfl, q3⟩ := q2
              simp only [delK, Option.some.injEq] at h; subst h
              refine ⟨{ W with heap := W.heap.setIfInBounds b (.map (es.eraseIdxIfInBounds p.1) ck) }, ?_, Stp.set hs h4 hr (o := .map (es.eraseIdxIfInBounds p.1) ck) (by simp [hbs]) ⟨_, _, rfl, ?_, ?_⟩ (fun j hj => by simp [Array.getElem?_setIfInBounds_ne (Ne.symm hj)]) (by simp) rfl rfl rfl⟩
              · simp [Builtin.delete_, run_underlying hd, hg, k1, q1, hset]
              · rw [← Array.length_toList, Array.toList_eraseIdxIfInBounds, ldel_eq, List.length_eraseIdx, List.length_eraseIdx, Array.length_toList, e1]
              · intro i pq hp
                rw [ldel_eq, List.getElem?_eraseIdx] at hp
                rw [← Array.getElem?_toList, Array.toList_eraseIdxIfInBounds, List.getElem?_eraseIdx]
                split
                · rename_i hi; rw [if_pos hi] at hp; simpa using e2 i pq hp
                · rename_i hi; rw [if_neg hi] at hp; simpa using e2 (i + 1) pq hp
        · cases h
      · cases h
    · cases h
  · cases h
theorem Stp.dead (hs : Sim σ ρ s W) {id b n : Nat} (hl : (s.heap.get id).isSome) (hr : ρ id = some (b, n)) {W1 : World} (hf : ∀ j, j ≠ b → W1.heap[j]? = W.heap[j]?) (hz : W1.heap.size = W.heap.size)
    (e2 : W1.os = W.os) (e3 : W1.tape = W.tape) (e4 : W1.output = W.output) : Stp σ ρ s W ρ (s.set id none) W1 := by
  have hd := Stp.drop hs id
  refine ⟨⟨fun i x hx => ?_, hd.sim.inj, hd.sim.dom, fun i b n h => by rw [hz]; exact hd.sim.old i b n h⟩, hd.ext, hd.next, by rw [hz]; exact Nat.le_refl _, fun j hj hn => hf j (fun e => ?_), hd.live, hd.low, hd.kept, e2, e3, e4⟩
  · obtain ⟨b', n', o, h1, h2, h3⟩ := hd.sim.blk i x hx
    refine ⟨b', n', o, h1, ?_, h3⟩
    rw [hf b' ?_]
    · exact h2
    · intro e
      subst e
      have hne : i ≠ id := by
        intro e; subst e
        exact absurd (T.get_set _ _ _ _ hx) (by simp)
      have hx2 : s.heap.get i = some x := by rw [← show (s.set id none).heap.get i = s.heap.get i from T.get_set_ne _ _ _ _ hne]; exact hx
      exact hne (hs.inj i id _ _ _ (by rw [hx2]; rfl) hl h1 hr)
  · subst e; exact hn id n hl hr
theorem strOf_some {id off len : Nat} (h : strOf (cellsOf s id) off len = some v) : ∃ l r b, cellsOf s id = some l ∧ lcut l off len = some r ∧ bytesC r = some b ∧ v = .str b := by
  unfold strOf at h
  split at h
  · rename_i l hl
    split at h
    · rename_i r hc
      split at h
      · rename_i bs hb; cases h; exact ⟨l, r, bs, hl, hc, hb, rfl⟩
      · cases h
    · cases h
  · cases h
theorem nat64_sound {x : V} {ux : Value} {n : Nat} (hx : VR σ ρ x ux) (h : nat64 x = some n) : ux = .int .i64 (n : Int) := by
  unfold nat64 at h
  split at h
  · split at h
    · split at h
      · cases h; simp only [VR] at hx; exact hx
      · cases h
    · cases h
  · cases h
theorem textB_some {e : TypeId} {o : Option B} (h : textB P e o = true) : ∃ w l, o = some (.typ w e l) ∧ sizeT P e = some 1 := by
  unfold textB at h
  split at h
  · rename_i w u l
    simp only [Bool.and_eq_true, Nat.beq_eq] at h
    obtain ⟨rfl, h⟩ := h
    split at h
    · rename_i hn; exact ⟨w, l, rfl, hn⟩
    · cases h
  · cases h
theorem freeze_heap (w : World) (g n : Nat) : (∀ j, j ≠ g → (w.freeze ⟨g, 0, none⟩ n).heap[j]? = w.heap[j]?) ∧ (w.freeze ⟨g, 0, none⟩ n).heap.size = w.heap.size ∧ (w.freeze ⟨g, 0, none⟩ n).os = w.os ∧ (w.freeze ⟨g, 0, none⟩ n).tape = w.tape ∧ (w.freeze ⟨g, 0, none⟩ n).output = w.output := by
  unfold World.freeze
  split
  · exact ⟨fun _ _ => rfl, rfl, rfl, rfl, rfl⟩
  · refine ⟨fun j hj => ?_, by simp, rfl, rfl, rfl⟩
    simp only [Array.getElem?_modify]
    rw [if_neg (fun e => hj e.symm)]
theorem byteC_ok {G : Nat → Int × Int} (hG : Gok G σ) {c : V} {u : Value} {b : Nat} (hc : VR σ ρ c u) (h : byteC c = some b) (hb : okB G b = true) : u = .int .u8 ((byteOf σ b).toNat : Int) := by
  obtain ⟨h1, h2, h3, h4⟩ := byteN_sound hG hb
  unfold byteC at h
  split at h
  · simp only [VR] at hc; subst hc
    split at h
    · rename_i n
      split at h
      · rename_i hn; cases h
        rw [h2]
        unfold byteN
        rw [hn]; rfl
      · cases h
    · cases h
  · rename_i i
    simp only [VR] at hc; subst hc
    cases h
    rw [h2]
    have hq : Nat.blt (256 + i) 256 = false := by
      cases hq : Nat.blt (256 + i) 256 with
      | false => rfl
      | true => rw [Nat.blt_eq] at hq; omega
    unfold okB at hb
    rw [hq] at hb
    have hb : (decide (0 ≤ (G (256 + i - 256)).1) && decide ((G (256 + i - 256)).2 ≤ 255)) = true := hb
    rw [Nat.add_sub_cancel_left] at hb
    simp only [Bool.and_eq_true, decide_eq_true_eq] at hb
    have := hG i
    unfold byteN
    rw [hq]
    show Value.int .u8 (σ i) = .int .u8 (((σ (256 + i - 256)).toNat : Nat) : Int)
    rw [Nat.add_sub_cancel_left]
    congr 1
    omega
  · cases h
theorem bytesC_get : ∀ {l : List V} {b : List Nat}, bytesC l = some b → ∀ (j c : Nat), b[j]? = some c → ∃ cv, l[j]? = some cv ∧ byteC cv = some c := by
  intro l
  induction l with
  | nil => intro b h j c hj; simp only [bytesC, Option.some.injEq] at h; subst h; simp at hj
  | cons x l ih =>
    intro b h j c hj
    simp only [bytesC] at h
    split at h
    · rename_i b0 hb0
      split at h
      · rename_i br hbr; cases h
        cases j with
        | zero => simp at hj; subst hj; exact ⟨x, by simp, hb0⟩
        | succ j => obtain ⟨cv, h1, h2⟩ := ih hbr j c (by simpa using hj); exact ⟨cv, by simpa using h1, h2⟩
      · cases h
    · cases h
theorem allB_get {G : Nat → Int × Int} : ∀ {l : List Nat}, allB G l = true → ∀ (j c : Nat), l[j]? = some c → okB G c = true := by
  intro l
  induction l with
  | nil => intro _ j c h; simp at h
  | cons x l ih =>
    intro h j c hj
    simp only [allB] at h
    split at h
    · rename_i hx
      cases j with
      | zero => simp at hj; subst hj; exact hx
      | succ j => exact ih h j c (by simpa using hj)
    · cases h
theorem textV_sound {E : Env} (hG : Gok E.G σ) (hs : Sim σ ρ s W) {t t2 ty : TypeId} {x y : V} {ux uy : Value} (hx : VR σ ρ x ux) (hy : VR σ ρ y uy) (h : textV E (E.P.underlying t) x y s = some (v, s')) :
    ∃ u W', (Builtin.unsafeString_ #[t, t2] ty #[ux, uy]).run E.P W = .ok u W' ∧ VR σ ρ v u ∧ Stp σ ρ s W ρ s' W' := by
  unfold textV at h
  split at h
  · simp only [VR] at hx; subst hx
    split at h
    · rename_i hn; cases h
      have := nat64_sound hy hn
      subst this
      refine ⟨_, W, Lib.run_unsafeString_none W t t2 ty none, ?_, Stp.refl hs⟩
      simp only [VR]; exact ⟨_, by simp [BR], rfl⟩
    · cases h
  · rename_i id off
    split at h
    · rename_i n hn
      have := nat64_sound hy hn
      subst this
      split at h
      · rename_i e hd
        split at h
        · rename_i hc
          simp only [Bool.and_eq_true] at hc
          obtain ⟨⟨⟨c1, c2⟩, c3⟩, c4⟩ := hc
          rw [Nat.beq_eq] at c1; subst c1
          rw [Nat.blt_eq] at c2 c3
          obtain ⟨w, l0, hb, hsz⟩ := textB_some c4
          unfold textS at h
          split at h
          · rename_i bs hsv
            split at h
            · rename_i hall
              cases h
              obtain ⟨l, r, bs', hl, hc, hbs, e0⟩ := strOf_some hsv
              cases e0
              simp only [VR] at hx; obtain ⟨b, m, hr, rfl⟩ := hx
              obtain ⟨b', n', o, k1, k2, k3⟩ := hs.blk id _ hb
              rw [hr] at k1; cases k1
              obtain ⟨c, fz, rfl, k4, ⟨k5, k6⟩, k7⟩ := k3
              have hle : l = l0 := by unfold cellsOf at hl; rw [hb] at hl; simp only [cellsB] at hl; exact (Option.some.inj hl).symm
              subst hle
              obtain ⟨us, a1, a2, a3, a4⟩ := run_cut (P := E.P) k5 k2 hc
              have hbl : bs.length = n := by
                obtain ⟨ns, rfl, hns⟩ := bytesC_sound a1 hbs
                have h1 : ns.length = n := by simpa using a2
                have h2 : ns.length = bs.length := by have := congrArg List.length hns; simpa using this
                omega
              -- the cells are bytes
              have hcell : ∀ (j : Nat) (z : UInt8), (bs.map (byteOf σ))[j]? = some z → W.cell? ((⟨b, 0, none⟩ : Addr).add j) = some (.int .u8 z.toNat) := by
                intro j z hz
                rw [addr_add]
                simp only [List.getElem?_map, Option.map_eq_some_iff] at hz
                obtain ⟨q, hq, rfl⟩ := hz
                obtain ⟨cv, y1, y2⟩ := bytesC_get hbs j q hq
                obtain ⟨u, y3, y4⟩ := a1.get y1
                have y5 := byteC_ok hG y4 y2 (allB_get hall j q hq)
                subst y5
                exact cell_of k2 (a4 j _ y3)
              have hsh : W.shape? b = some (e, c.size) := by simp [World.shape?, k2]
              have hcs : E.P.cellsOf e = 1 := by
                unfold sizeT at hsz
                unfold Program.cellsOf
                split at hsz
                · rename_i i hi; rw [hi]; simpa using hsz
                · cases hsz
              have hlen : (bs.map (byteOf σ)).length = n := by simpa using hbl
              have hnc : n ≤ c.size := by
                have := (lcut_some hc).1
                have := k5.len_le
                omega
              have hrun := Lib.run_unsafeString_row (P := E.P) W t t2 ty e hd hcs b c.size hsh (bs.map (byteOf σ)) (by intro h0; rw [h0] at hlen; simp at hlen; omega) (by omega) (by omega) hcell
              rw [hlen] at hrun
              obtain ⟨f1, f2, f3, f4, f5⟩ := freeze_heap W b n
              refine ⟨_, _, hrun, ?_, Stp.dead hs (by rw [hb]; rfl) hr f1 f2 f3 f4 f5⟩
              simp only [VR]; exact ⟨_, by simp [BR], rfl⟩
            · cases h
          · cases h
        · cases h
      · cases h
    · cases h
  · cases h
theorem noZeroV_sound (hs : Sim σ ρ s W) {rt t : TypeId} {ps : Array TypeId} (ht : P.underlying t = some (.slice rt)) {l : List V} {us : List Value} (hl : VRs σ ρ l us) (h : noZeroV rt s l = some (v, s')) :
    Ok1 P σ ρ s W v s' (Extern.BytealgMakeNoZero.makeNoZero ps #[t] us.toArray) := by
  unfold noZeroV at h
  split at h
  · rename_i y
    simp only [VRs] at hl
    obtain ⟨u, r, h1, rfl, rfl⟩ := hl
    split at h
    · rename_i n hn
      have := nat64_sound h1 hn
      subst this
      split at h
      · rename_i hc
        simp only [Bool.and_eq_true] at hc
        obtain ⟨c1, c2⟩ := hc
        rw [Nat.blt_eq] at c1
        rw [Nat.ble_eq] at c2
        obtain ⟨cs, k1, k2, k3⟩ := Lib.run_makeNoZero (P := P) W ps t rt ht n (by omega)
        have hh : (W.drew.drew.alloc (.cells cs rt)).heap = W.heap.push (.cells cs rt) := rfl
        refine Ok1.new (n := cs.size) hs h ⟨_, _, .cells cs rt, k1, by rw [hh]; simp, fun j hj => by rw [hh]; simp [Array.getElem?_push, Nat.ne_of_lt hj], by rw [hh]; simp, rfl, rfl, rfl, fun ρ' h1 h2 => ⟨?_, cs, (0, 0), rfl, rfl, ⟨fun i w hw => by simp at hw, fun hq => by cases hq⟩, fun i _ => by omega⟩⟩
        simp only [VR]
        exact ⟨_, _, cs.size, h2, by omega, k2, by omega, rfl⟩
      · cases h
    · cases h
  · cases h
theorem builtinW_sound {E : Env} (hG : Gok E.G σ) (hF : Fok E σ) (hK : KeysOk E σ) (hs : Sim σ ρ s W) {b : Builtin} {ts : List TypeId} {ty : TypeId} {cs : Array Bool} {xs : List V} {us : List Value} (hx : VRs σ ρ xs us) (h : builtinW E b ts xs s = some (v, s')) :
    ∃ ρ' u W', (builtin b ts.toArray ty cs us.toArray).run E.P W = .ok (.value u) W' ∧ VR σ ρ' v u ∧ Stp σ ρ s W ρ' s' W' := by
  unfold builtinW at h
  split at h
  · split at h
    · rename_i x
      simp only [VRs] at hx
      obtain ⟨u, r, h1, rfl, rfl⟩ := hx
      split at h
      · rename_i t
        have hh := ret_some h; clear h; obtain ⟨h, rfl⟩ := hh
        obtain ⟨u', k1, k2⟩ := capV_sound (W := W) (ty := ty) h1 h
        exact ⟨ρ, u', W, by simp only [builtin, Sem.run_bind]; rw [show [t].toArray = #[t] from rfl, show [u].toArray = #[u] from rfl, k1]; rfl, k2, Stp.refl hs⟩
      · cases h
    · cases h
  · split at h
    · rename_i x y
      simp only [VRs] at hx
      obtain ⟨u, r, h1, ⟨u2, r2, h2, rfl, rfl⟩, rfl⟩ := hx
      split at h
      · rename_i t t2
        have hh := ret_some h; clear h; obtain ⟨h, rfl⟩ := hh
        obtain ⟨u', k1, k2⟩ := copyV_sound (W := W) (ty := ty) (t2 := t2) h1 h2 h
        exact ⟨ρ, u', W, by simp only [builtin, Sem.run_bind]; rw [show [t, t2].toArray = #[t, t2] from rfl, show [u, u2].toArray = #[u, u2] from rfl, k1]; rfl, k2, Stp.refl hs⟩
      · cases h
    · cases h
  · split at h
    · rename_i x
      simp only [VRs] at hx
      obtain ⟨u, r, h1, rfl, rfl⟩ := hx
      split at h
      · rename_i t
        obtain ⟨u', W', k1, k2, k3⟩ := clearV_sound (ty := ty) hs h1 h
        exact ⟨ρ, u', W', by simp only [builtin, Sem.run_bind]; rw [show [t].toArray = #[t] from rfl, show [u].toArray = #[u] from rfl, k1]; rfl, k2, k3⟩
      · cases h
    · cases h
  · split at h
    · rename_i x k
      simp only [VRs] at hx
      obtain ⟨u, r, h1, ⟨u2, r2, h2, rfl, rfl⟩, rfl⟩ := hx
      split at h
      · rename_i t ts'
        unfold st? at h
        split at h
        · rename_i s1 hst; cases h
          obtain ⟨W', k1, k2⟩ := deleteV_sound (ty := ty) (r := ts') hG hK hs h1 h2 hst
          exact ⟨ρ, .tuple #[], W', by simp only [builtin, Sem.run_bind]; rw [show [u, u2].toArray = #[u, u2] from rfl, k1]; rfl, by simp only [VR]; rfl, k2⟩
        · cases h
      · cases h
    · cases h
  · split at h
    · rename_i x
      simp only [VRs] at hx
      obtain ⟨u, r, h1, rfl, rfl⟩ := hx
      have hh := ret_some h; clear h; obtain ⟨h, rfl⟩ := hh
      obtain ⟨u', k1, k2⟩ := dataV_sound (P := E.P) (W := W) (ts := ts.toArray) (ty := ty) h1 h
      exact ⟨ρ, u', W, by simp only [builtin, Sem.run_bind]; rw [show [u].toArray = #[u] from rfl, k1]; rfl, k2, Stp.refl hs⟩
    · cases h
  · split at h
    · rename_i x y
      simp only [VRs] at hx
      obtain ⟨u, r, h1, ⟨u2, r2, h2, rfl, rfl⟩, rfl⟩ := hx
      split at h
      · rename_i t t2
        obtain ⟨u', W', k1, k2, k3⟩ := textV_sound (ty := ty) (t2 := t2) hG hs h1 h2 h
        exact ⟨ρ, u', W', by simp only [builtin, Sem.run_bind]; rw [show [t, t2].toArray = #[t, t2] from rfl, show [u, u2].toArray = #[u, u2] from rfl, k1]; rfl, k2, k3⟩
      · cases h
    · cases h
  · exact builtin_sound hG hF hs hx h
end more
def Idle (E : Env) (d : Deferred) : Prop := ∃ g caps, d = { target := .fn (.func g) caps, args := #[] } ∧ E.idle g = true
structure EnvOk (E : Env) (σ : Nat → Int) : Prop where
  bounds : Gok E.G σ
  facts : Fok E σ
  keys : KeysOk E σ
  bt : BtOk E.P E.bt
  exts : ∀ f x, E.ext f = some x → x ≠ .noZero → ∀ args W, (callFunc f args).run E.P W = ((exRow x args).run E.P W).andThen fun u w => .ok (.value u) w
  fns : ∀ f e, E.fe f = some e → ∃ fn, E.P.funcs[f]? = some fn ∧ fn.body = some e.code ∧ fn.ntmps = e.ntmps ∧ fn.results.toList = e.results ∧ ∀ args W, (callFunc f args).run E.P W = .ok (.enter f args) W
  rooms : ∀ f, E.ext f = some .noZero → ∃ ps t, E.P.underlying t = some (.slice E.rt) ∧ ∀ args W, (callFunc f args).run E.P W = ((Extern.BytealgMakeNoZero.makeNoZero ps #[t] args).run E.P W).andThen fun u w => .ok (.value u) w
  meths : ∀ t m q, E.meth t m = some q → ∀ (a : Addr) W, (method (E.P.types.size + Made.depth) t (.pointer (some a)) m).run E.P W = match q.2 with
    | none => .ok (q.1, .pointer (some a)) W
    | some tt => ((loadVar tt a).run E.P W).andThen fun u w => .ok (q.1, u) w
  idles : ∀ g, E.idle g = true → ∀ caps W, (callFunc g caps).run E.P W = .ok (.enter g caps) W ∧ CallsD E.P g caps .returning W fun e u' w' => (∃ v, e = .returned v) ∧ u' = .returning ∧ w' = W
  mixed : E.P.follows .mixedOrders = true
def Does (E : Env) (σ : Nat → Int) (f : Nat) (args : List V) (s : St) (v : V) (s' : St) : Prop :=
  ∀ ρ W us, Sim σ ρ s W → VRs σ ρ args us → (callFunc f us.toArray).run E.P W = .ok (.enter f us.toArray) W ∧ Calls E.P f us.toArray W fun e w' => ∃ ρ' u, e = .returned u ∧ VR σ ρ' v u ∧ Stp σ ρ s W ρ' s' w'
def CallOk (E : Env) (σ : Nat → Int) (call : Call) : Prop := ∀ f args s v s', call f args s = some (v, s') → Does E σ f args s v s'
section ops
variable {E : Env} {σ : Nat → Int} {ρ : Rho} {s s' : St} {W : World} {v : V} {f : F} {call : Call}
def Goes (E : Env) (σ : Nat → Int) (ρ : Rho) (s : St) (W : World) (v : V) (s' : St) (a : Act) (dst : Option Tmp) (next : Act → World → Prop) : Prop :=
  ∀ ρ' u W' ds, Stp σ ρ s W ρ' s' W' → VR σ ρ' v u → (ds = a.defers ∨ ∃ d, Idle E d ∧ ds = d :: a.defers) → next (({ a with defers := ds } : Act).put dst u) W'
theorem wp_val {o : Oper} {a : Act} {next : Act → World → Prop} {Q : Exit → Act → World → Prop} {m : Sem Value} (he : execOp a.eval o = (do pure (.value (← m)))) (hm : Ok1 E.P σ ρ s W v s' m) (hn : Goes E σ ρ s W v s' a o.dst next) : o.wp E.P a W next Q := by
  obtain ⟨ρ', u, W', h1, h2, h3⟩ := hm
  unfold Oper.wp
  rw [he]
  simp only [Sem.run_bind, h1, Result.andThen_ok, Sem.run_pure]
  exact hn ρ' u W' a.defers h3 h2 (.inl rfl)
theorem wp_unit {o : Oper} {a : Act} {next : Act → World → Prop} {Q : Exit → Act → World → Prop} {m : Sem Unit} (he : execOp a.eval o = (do m; pure .skip)) (hm : ∃ W', m.run E.P W = .ok () W' ∧ Stp σ ρ s W ρ s' W') (hv : v = .undef) (hn : Goes E σ ρ s W v s' a o.dst next) : o.wp E.P a W next Q := by
  obtain ⟨W', h1, h3⟩ := hm
  unfold Oper.wp
  rw [he]
  simp only [Sem.run_bind, h1, Result.andThen_ok, Sem.run_pure]
  exact hn ρ Go.undef W' a.defers h3 (by rw [hv]; simp only [VR]) (.inl rfl)
theorem evs_sound {e : Operand → Value} : ∀ {os : List Operand} {l : List V}, (∀ x ∈ os, EvOk σ ρ f e x) → evs f os = some l → VRs σ ρ l (os.map e) := by
  intro os
  induction os with
  | nil => intro l _ h; simp only [evs, Option.some.injEq] at h; subst h; simp [VRs]
  | cons x os ih =>
    intro l hx h
    simp only [evs] at h
    split at h
    · rename_i v hv
      split at h
      · rename_i r hr; cases h
        simp only [List.map_cons, VRs]
        exact ⟨_, _, hx x (by simp) v hv, ih (fun y hy => hx y (by simp [hy])) hr, rfl⟩
      · cases h
    · cases h
theorem parts_sound {e : Operand → Value} : ∀ {os : List (Nat × Operand)} {l : List (Nat × V)}, (∀ x ∈ os, EvOk σ ρ f e x.2) → parts f os = some l → PR σ ρ l (os.map fun p => (p.1, e p.2)) := by
  intro os
  induction os with
  | nil => intro l _ h; simp only [parts, Option.some.injEq] at h; subst h; simp [PR]
  | cons x os ih =>
    intro l hx h
    simp only [parts] at h
    split at h
    · rename_i v hv
      split at h
      · rename_i r hr; cases h
        simp only [List.map_cons, PR]
        exact ⟨_, _, hx x (by simp) v hv, ih (fun y hy => hx y (by simp [hy])) hr, rfl⟩
      · cases h
    · cases h
theorem map1_some {g : V → Option V} {o : Option V} (h : map1 g o = some v) : ∃ x, o = some x ∧ g x = some v := by
  unfold map1 at h; split at h
  · exact ⟨_, rfl, h⟩
  · cases h
theorem map2_some {g : V → V → Option V} {o q : Option V} (h : map2 g o q = some v) : ∃ x y, o = some x ∧ q = some y ∧ g x y = some v := by
  unfold map2 at h; split at h
  · split at h
    · exact ⟨_, _, rfl, rfl, h⟩
    · cases h
  · cases h
theorem VR_agg {y : V} {c : Array Value} (h : VR σ ρ y (.agg c)) : (∃ l, y = .agg l) ∨ y = .any := by
  cases y <;> simp only [VR] at h <;> first | exact .inl ⟨_, rfl⟩ | exact .inr rfl | (cases h; done) | (obtain ⟨_, _, h⟩ := h; cases h; done) | (obtain ⟨_, h⟩ := h; cases h; done) | (obtain ⟨_, _, _, h⟩ := h; cases h; done) | (obtain ⟨_, _, _, _, _, _, _, h⟩ := h; cases h; done)
theorem VR_nili {y : V} (h : VR σ ρ y .nilIface) : y = .nili ∨ y = .any := by
  cases y <;> simp only [VR] at h <;> first | exact .inl rfl | exact .inr rfl | (cases h; done) | (obtain ⟨_, _, h⟩ := h; cases h; done) | (obtain ⟨_, h⟩ := h; cases h; done) | (obtain ⟨_, _, _, h⟩ := h; cases h; done) | (obtain ⟨_, _, _, _, _, _, _, h⟩ := h; cases h; done)
theorem bin_any {op : BinOp} {t : TypeId} {x : V} (h : bin E op t x .any = some v) : False := by
  unfold bin at h
  split at h <;> simp only [bin1, bin2, binS, binF, binFF, binSF, eqBo, eqN, nilY, eqP] at h <;> first | (cases h; done) | (split at h <;> cases h; done)
theorem bin_agg {op : BinOp} {t : TypeId} {x : V} {l : List V} (h : bin E op t x (.agg l) = some v) : False := by
  unfold bin at h
  split at h <;> simp only [bin1, bin2, binS, binF, binFF, binSF, eqBo, eqN, nilY, eqP] at h <;> first | (cases h; done) | (split at h <;> cases h; done)
theorem bin_nili {op : BinOp} {t : TypeId} {x : V} (h : bin E op t x .nili = some v) : False := by
  unfold bin at h
  split at h <;> simp only [bin1, bin2, binS, binF, binFF, binSF, eqBo, eqN, nilY, eqP] at h <;> first | (cases h; done) | (split at h <;> cases h; done)
theorem invoke_meth {P : Program} {t : TypeId} {uw ur : Value} {m : String} {f : FuncId} (args : Array Value) (h : (method (P.types.size + Made.depth) t uw m).run P W = .ok (f, ur) W) : (invoke (.fn (.method m) #[]) (#[.iface t uw] ++ args)).run P W = (callFunc f (#[ur] ++ args)).run P W := by
  have h0 : (#[Value.iface t uw] ++ args)[0]? = some (.iface t uw) := by rw [Array.getElem?_append_left (by simp)]; rfl
  have h1 : (#[Value.iface t uw] ++ args).extract 1 (#[Value.iface t uw] ++ args).size = args := by
    apply Array.ext'
    rw [Array.toList_extract]
    simp only [List.extract_eq_take_drop]
    simp
    exact List.take_of_length_le (by simp)
  simp only [invoke, h0, h1, callMethod, Sem.run_bind, run_program, Result.andThen_ok, h]
theorem eqIn_nn {P : Program} (d : Nat) {t : TypeId} {ms : Array (String × TypeId)} (hd : P.underlying t = some (.interface ms)) (W : World) : (Op.equalIn (d + 1) t .nilIface .nilIface).run P W = .ok true W := by
  simp [Op.equalIn, run_underlying hd]
theorem eqIn_in {P : Program} (d : Nat) {t t1 : TypeId} {u : Value} {ms : Array (String × TypeId)} (hd : P.underlying t = some (.interface ms)) (W : World) : (Op.equalIn (d + 1) t (.iface t1 u) .nilIface).run P W = .ok false W := by
  simp [Op.equalIn, run_underlying hd]
theorem nil_cmp {P : Program} {t : TypeId} {ms : Array (String × TypeId)} (hd : P.underlying t = some (.interface ms)) {v : Value} {c : Bool} (hv : (v = .nilIface ∧ c = true) ∨ ∃ t1 u, v = .iface t1 u ∧ c = false) (x : Operand) (W : World) :
    ((do eqGuard .eql t x (.const .nilIface) v .nilIface; binOp .eql t v .nilIface : Sem Value).run P W = .ok (.bool c) W) ∧ ((do eqGuard .neq t x (.const .nilIface) v .nilIface; binOp .neq t v .nilIface : Sem Value).run P W = .ok (.bool !c) W) := by
  rcases hv with ⟨rfl, rfl⟩ | ⟨t1, u, rfl, rfl⟩
  · have h1 : (Op.equal t .nilIface .nilIface).run P W = .ok true W := eqIn_nn 9999 hd W
    have g1 : (eqGuard .eql t x (.const .nilIface) .nilIface .nilIface).run P W = .ok () W := by cases x <;> rfl
    have g2 : (eqGuard .neq t x (.const .nilIface) .nilIface .nilIface).run P W = .ok () W := by cases x <;> rfl
    constructor
    · simp only [Sem.run_bind, g1, Result.andThen_ok]; rw [eql_run t _ _ rfl, h1]; rfl
    · simp only [Sem.run_bind, g2, Result.andThen_ok]; rw [neq_run t _ _ rfl, h1]; rfl
  · have h1 : (Op.equal t (.iface t1 u) .nilIface).run P W = .ok false W := eqIn_in 9999 hd W
    have g1 : (eqGuard .eql t x (.const .nilIface) (.iface t1 u) .nilIface).run P W = .ok () W := rfl
    have g2 : (eqGuard .neq t x (.const .nilIface) (.iface t1 u) .nilIface).run P W = .ok () W := rfl
    constructor
    · simp only [Sem.run_bind, g1, Result.andThen_ok]; rw [eql_run t _ _ rfl, h1]; rfl
    · simp only [Sem.run_bind, g2, Result.andThen_ok]; rw [neq_run t _ _ rfl, h1]; rfl
theorem call_wp2 (hc : CallOk E σ call) (hs : Sim σ ρ s W) {o : Oper} {a : Act} {next : Act → World → Prop} {Q : Exit → Act → World → Prop} {g : Nat} {l : List V} {us : List Value} (hl : VRs σ ρ l us)
    (he : (execOp a.eval o).run E.P W = (callFunc g us.toArray).run E.P W) (h : call g l s = some (v, s')) (hn : Goes E σ ρ s W v s' a o.dst next) : o.wp E.P a W next Q := by
  unfold Oper.wp
  rw [he]
  obtain ⟨k1, k2⟩ := hc g l s v s' h ρ W us hs hl
  rw [k1]
  simp only [Oper.upon]
  refine k2.mono ?_
  rintro e w' ⟨ρ', u, rfl, hv, hst⟩
  exact hn ρ' u w' a.defers hst hv (.inl rfl)
theorem call_wp (hE : EnvOk E σ) (hc : CallOk E σ call) (hs : Sim σ ρ s W) {o : Oper} {a : Act} {next : Act → World → Prop} {Q : Exit → Act → World → Prop} {g : Nat} {l : List V} {us : List Value} (hl : VRs σ ρ l us)
    (he : (execOp a.eval o).run E.P W = (callFunc g us.toArray).run E.P W) (h : callV E call g l s = some (v, s')) (hn : Goes E σ ρ s W v s' a o.dst next) : o.wp E.P a W next Q := by
  unfold Oper.wp
  rw [he]
  unfold callV at h
  split at h
  · rename_i hx
    obtain ⟨ps, t, ht, hr⟩ := hE.rooms g hx
    obtain ⟨ρ', u, W', k1, k2, k3⟩ := noZeroV_sound (P := E.P) (ps := ps) hs ht hl h
    rw [hr, k1]
    exact hn ρ' u W' a.defers k3 k2 (.inl rfl)
  · rename_i x hx hnx
    have hh := ret_some h; clear h; obtain ⟨h, rfl⟩ := hh
    obtain ⟨u, k1, k2⟩ := exV_sound (P := E.P) hE.bounds hs hl h
    rw [hE.exts g x hnx (fun e => hx e), k1]
    exact hn ρ u W a.defers (Stp.refl hs) k2 (.inl rfl)
  · obtain ⟨k1, k2⟩ := hc g l s v s' h ρ W us hs hl
    rw [k1]
    simp only [Oper.upon]
    refine k2.mono ?_
    rintro e w' ⟨ρ', u, rfl, hv, hst⟩
    exact hn ρ' u w' a.defers hst hv (.inl rfl)
set_option maxHeartbeats 4000000 in
theorem op_wp (hE : EnvOk E σ) (hc : CallOk E σ call) (hs : Sim σ ρ s W) {o : Oper} {a : Act} {next : Act → World → Prop} {Q : Exit → Act → World → Prop} (hx : ∀ x ∈ o.op.operands, EvOk σ ρ f a.eval x) (h : op E call o.op f s = some (v, s'))
    (hn : Goes E σ ρ s W v s' a o.dst next) : o.wp E.P a W next Q := by
  obtain ⟨dst, op1, type, pos, after, guard⟩ := o
  have hG := hE.bounds
  cases op1 <;> simp only [op] at h <;> try (cases h; done)
  all_goals (simp only [Op.operands, List.mem_toArray, List.mem_cons, List.not_mem_nil, or_false, forall_eq_or_imp, forall_eq] at hx)
  case move x =>
    have hh := ret_some h; clear h; obtain ⟨h, rfl⟩ := hh
    exact wp_val (m := pure (a.eval x)) rfl (Ok1.val hs ⟨_, rfl, hx v h⟩) hn
  case assign x =>
    have hh := ret_some h; clear h; obtain ⟨h, rfl⟩ := hh
    exact wp_val (m := pure (a.eval x)) rfl (Ok1.val hs ⟨_, rfl, hx v h⟩) hn
  case pick c x y =>
    have hh := ret_some h; clear h; obtain ⟨h, rfl⟩ := hh
    obtain ⟨hc1, hx1, hy1⟩ := hx
    unfold opPick at h
    split at h
    · rename_i hb
      have hb := hc1 _ hb
      simp only [VR] at hb
      exact wp_val (m := pure (a.eval x)) (by simp [execOp, hb, asBool]) (Ok1.val hs ⟨_, rfl, hx1 v h⟩) hn
    · rename_i hb
      have hb := hc1 _ hb
      simp only [VR] at hb
      exact wp_val (m := pure (a.eval y)) (by simp [execOp, hb, asBool]) (Ok1.val hs ⟨_, rfl, hy1 v h⟩) hn
    · cases h
  case alloc t =>
    cases hz : zeroV E.P t with
    | none => rw [hz] at h; cases h
    | some z =>
      rw [hz] at h
      obtain ⟨u, h1, h2⟩ := run_zeroV (P := E.P) (W := W) (σ := σ) (ρ := ρ) hz
      obtain ⟨ρ', u', W', k1, k2, k3⟩ := opNew_sound (P := E.P) hs (t := t) h2 (zeroV_any hz) h
      refine wp_val (m := Instr.alloc t true (.tuple #[])) rfl ⟨ρ', u', W', ?_, k2, k3⟩ hn
      rw [← k1]
      simp only [Instr.alloc, Sem.run_bind, h1, Result.andThen_ok]
  case box t x =>
    cases hz : ev f x with
    | none => rw [hz] at h; cases h
    | some z =>
      rw [hz] at h
      exact wp_val (m := Instr.box t (a.eval x)) rfl (opAlloc_sound (P := E.P) hs (t := t) (hx z hz) h) hn
  case build t ps =>
    have hh := ret_some h; clear h; obtain ⟨h, rfl⟩ := hh
    unfold opBuild at h
    split at h
    · rename_i l hl
      have hps := parts_sound (e := a.eval) (fun x hx' => hx x.2 (by simpa using ⟨x.1, by simpa using hx'⟩)) hl
      obtain ⟨u, k1, k2⟩ := build_sound (W := W) hps h
      have hm : (ps.map fun p => (p.1, a.eval p.2)) = ((ps.toList).map fun p => (p.1, a.eval p.2)).toArray := by apply Array.ext'; simp
      exact wp_val (m := Instr.build t (ps.map fun p => (p.1, a.eval p.2))) (by simp only [execOp]) (Ok1.val hs ⟨u, by rw [hm]; exact k1, k2⟩) hn
    · cases h
  case buildSlice t n ps =>
    unfold opBuildS at h
    split at h
    · rename_i l hl
      have hps := parts_sound (e := a.eval) (fun x hx' => hx x.2 (by simpa using ⟨x.1, by simpa using hx'⟩)) hl
      obtain ⟨ρ', u', W', k1, k2, k3⟩ := buildSlice_sound (P := E.P) hs hps h
      have hm : (ps.map fun p => (p.1, a.eval p.2)) = ((ps.toList).map fun p => (p.1, a.eval p.2)).toArray := by apply Array.ext'; simp
      exact wp_val (m := Instr.buildSlice t n (ps.map fun p => (p.1, a.eval p.2))) (by simp only [execOp]) ⟨ρ', u', W', by rw [hm]; exact k1, k2, k3⟩ hn
    · cases h
  case load t x =>
    have hh := ret_some h; clear h; obtain ⟨h, rfl⟩ := hh
    unfold opLoad at h
    split at h
    · rename_i id off hid
      have hp := hx _ hid
      simp only [VR] at hp; obtain ⟨b, n, hr, hp⟩ := hp
      obtain ⟨u, k1, k2⟩ := run_loadT hs h hr
      exact wp_val (m := Instr.loadAt t (a.eval x)) rfl (Ok1.val hs ⟨u, by rw [hp]; simp [Instr.loadAt, Instr.sureAddr, k1], k2⟩) hn
    · cases h
  case store t x y =>
    obtain ⟨hx1, hy1⟩ := hx
    unfold st? at h
    split at h
    · rename_i s1 hst; cases h
      unfold opStore at hst
      split at hst
      · rename_i id off hid
        have hp := hx1 _ hid
        simp only [VR] at hp; obtain ⟨b, n, hr, hp⟩ := hp
        split at hst
        · rename_i w hw
          obtain ⟨W', k1, k2⟩ := run_storeT hs hst hr (hy1 _ hw)
          exact wp_unit (m := Instr.storeAt t (a.eval x) (a.eval y)) rfl ⟨W', by rw [hp]; simp [Instr.storeAt, Instr.sureAddr, k1], k2⟩ rfl hn
        · cases hst
      · cases hst
    · cases h
  case nilCheck x =>
    have hh := ret_some h; clear h; obtain ⟨h, rfl⟩ := hh
    unfold opNil at h
    split at h
    · rename_i b c hid; cases h
      have hp := hx _ hid
      have hp2 := hp
      simp only [VR] at hp2; obtain ⟨_, _, _, hp2⟩ := hp2
      refine wp_val (m := pure (a.eval x)) ?_ (Ok1.val hs ⟨_, rfl, hp⟩) hn
      simp [execOp, hp2]
    · rename_i b c hid; cases h
      have hp := hx _ hid
      have hp2 := hp
      simp only [VR] at hp2; obtain ⟨_, _, hp2⟩ := hp2
      refine wp_val (m := pure (a.eval x)) ?_ (Ok1.val hs ⟨_, rfl, hp⟩) hn
      simp [execOp, hp2]
    · cases h
  case unOp u t x =>
    have hh := ret_some h; clear h; obtain ⟨h, rfl⟩ := hh
    obtain ⟨x1, e1, h⟩ := map1_some h
    exact wp_val (m := Op.unary u (a.eval x)) rfl (Ok1.val hs (un_sound hE.facts (hx _ e1) h)) hn
  case binOp b t x y t2 =>
    split at h
    · rename_i hy0
      have hh := ret_some h; clear h; obtain ⟨h, rfl⟩ := hh
      have hy : y = .const .nilIface := by
        unfold isNilC at hy0
        split at hy0
        · split at hy0
          · rfl
          · cases hy0
        · cases hy0
      subst hy
      have key : ∀ c, ifN E.P b t c = some v → ∃ ms, E.P.underlying t = some (.interface ms) ∧ ((b = .eql ∧ v = .bool c) ∨ (b = .neq ∧ v = .bool (!c))) := by
        intro c hc1
        unfold ifN at hc1
        split at hc1
        · rename_i ms hd
          refine ⟨ms, hd, ?_⟩
          split at hc1
          · cases hc1; exact .inl ⟨rfl, rfl⟩
          · cases hc1; exact .inr ⟨rfl, rfl⟩
          · cases hc1
        · cases hc1
      have hev : a.eval (.const .nilIface) = .nilIface := rfl
      unfold opIfNil at h
      split at h
      · rename_i hn1
        have hx1 := hx.1 _ hn1
        simp only [VR] at hx1
        obtain ⟨ms, hd, q⟩ := key _ h
        refine wp_val (m := do eqGuard b t x (.const .nilIface) (a.eval x) .nilIface; binOp b t (a.eval x) .nilIface) rfl (Ok1.val hs ?_) hn
        rw [hx1]
        rcases q with ⟨rfl, rfl⟩ | ⟨rfl, rfl⟩
        · exact ⟨_, (nil_cmp hd (.inl ⟨rfl, rfl⟩) x W).1, by simp only [VR]⟩
        · exact ⟨_, (nil_cmp hd (.inl ⟨rfl, rfl⟩) x W).2, by simp only [VR]⟩
      · rename_i t1 w hn1
        have hx1 := hx.1 _ hn1
        simp only [VR] at hx1
        obtain ⟨uw, huw, hx1⟩ := hx1
        obtain ⟨ms, hd, q⟩ := key _ h
        refine wp_val (m := do eqGuard b t x (.const .nilIface) (a.eval x) .nilIface; binOp b t (a.eval x) .nilIface) rfl (Ok1.val hs ?_) hn
        rw [hx1]
        rcases q with ⟨rfl, rfl⟩ | ⟨rfl, rfl⟩
        · exact ⟨_, (nil_cmp hd (.inr ⟨t1, uw, rfl, rfl⟩) x W).1, by simp only [VR]⟩
        · exact ⟨_, (nil_cmp hd (.inr ⟨t1, uw, rfl, rfl⟩) x W).2, by simp only [VR]⟩
      · cases h
    have hh := ret_some h; clear h; obtain ⟨h, rfl⟩ := hh
    obtain ⟨x1, y1, e1, e2, h⟩ := map2_some h
    have hx1 := hx.1 _ e1
    have hy1 := hx.2 _ e2
    obtain ⟨u, k1, k2⟩ := bin_sound (W := W) hG hE.facts hx1 hy1 h
    refine wp_val (m := do eqGuard b t x y (a.eval x) (a.eval y); binOp b t (a.eval x) (a.eval y)) rfl (Ok1.val hs ⟨u, ?_, k2⟩) hn
    have hg : (eqGuard b t x y (a.eval x) (a.eval y)).run E.P W = .ok () W := by
      have hq : ∀ q, a.eval y = q → (∀ c, q ≠ .agg c) → q ≠ .nilIface → (eqGuard b t x y (a.eval x) q).run E.P W = .ok () W := by
        intro q _ h1 h2
        cases b <;> cases hxq : a.eval x <;> cases q <;> first | rfl | exact absurd rfl (h1 _) | exact absurd rfl h2
      refine hq _ rfl ?_ ?_
      · intro c hcq
        rw [hcq] at hy1
        rcases VR_agg hy1 with ⟨l, rfl⟩ | rfl
        · exact bin_agg h
        · exact bin_any h
      · intro hcq
        rw [hcq] at hy1
        rcases VR_nili hy1 with rfl | rfl
        · exact bin_nili h
        · exact bin_any h
    simp only [Sem.run_bind, hg, Result.andThen_ok, k1]
  case convert t1 t2 x =>
    unfold opConv at h
    split at h
    · rename_i w hw
      exact wp_val (m := convert t1 t2 (a.eval x)) rfl (conv_sound hE.bt hG hE.facts hs (hx _ hw) h) hn
    · cases h
  case makeInterface t x =>
    have hh := ret_some h; clear h; obtain ⟨h, rfl⟩ := hh
    unfold opIface at h
    split at h
    · rename_i w hw
      split at h
      · rename_i d hd
        split at h
        · cases h
        · rename_i hi; cases h
          refine wp_val (m := Instr.makeInterface t (a.eval x)) rfl (Ok1.val hs ⟨.iface t (a.eval x), ?_, by simp only [VR]; exact ⟨_, hx _ hw, rfl⟩⟩) hn
          cases d <;> simp only [isIface] at hi <;> first | (cases hi; done) | simp [Instr.makeInterface, run_underlying hd]
      · cases h
    · cases h
  case makeFunc g first caps =>
    have hh := ret_some h; clear h; obtain ⟨h, rfl⟩ := hh
    unfold opFunc at h
    split at h
    · rename_i g1
      split at h
      · rename_i hnil
        split at h
        · rename_i l hl; cases h
          have hf0 : first = #[] := by
            have : first.toList = [] := by
              cases hq : first.toList with
              | nil => rfl
              | cons _ _ => rw [hq] at hnil; cases hnil
            exact Array.toList_eq_nil_iff.1 this
          subst hf0
          have := evs_sound (e := a.eval) (fun x hx' => hx x (by simpa using hx')) hl
          refine wp_val (m := Instr.makeFunc (.func g1) ((#[] : Array Operand).map a.eval) (caps.map a.eval)) rfl (Ok1.val hs ⟨.func (.func g1) #[] (caps.map a.eval), by simp [Instr.makeFunc], ?_⟩) hn
          simp only [VR]
          exact ⟨_, this, by congr 1; apply Array.ext'; simp⟩
        · cases h
      · cases h
    · cases h
  case makeMap t r =>
    cases r with
    | some _ => cases h
    | none =>
      refine wp_val (m := Instr.makeMap t none) rfl (Ok1.new (n := 0) hs h ⟨.map (some W.heap.size), { W with heap := W.heap.push (.map #[] 0) }, .map #[] 0, by simp [Instr.makeMap], by simp, fun j hj => by simp [Array.getElem?_push, Nat.ne_of_lt hj], by simp, rfl, rfl, rfl, fun ρ' h1 h2 => ⟨by simp only [VR]; exact ⟨_, _, h2, rfl⟩, _, _, rfl, by simp, by simp⟩⟩) hn
  case makeSlice t l c =>
    exact wp_val (m := Instr.makeSlice t (a.eval l) (a.eval c)) rfl (makeSlice_sound (P := E.P) hs hx.1 hx.2 h) hn
  case slice t x lo hi mx =>
    have hh := ret_some h; clear h; obtain ⟨h, rfl⟩ := hh
    obtain ⟨x1, e1, h⟩ := map1_some h
    have hx1 : EvOk σ ρ f a.eval x := hx x (by simp)
    obtain ⟨u, k1, k2⟩ := slice_sound (P := E.P) (W := W) (e := a.eval) (lo := lo) (hi := hi) (mx := mx) (fun y hy => hx y (by simp [hy])) (fun y hy => hx y (by simp [hy])) (fun y hy => hx y (by simp [hy])) (hx1 _ e1) h
    exact wp_val (m := Instr.sliceAt t (a.eval x) (lo.map a.eval) (hi.map a.eval) (mx.map a.eval)) rfl (Ok1.val hs ⟨u, k1, k2⟩) hn
  case fieldAddr t x i =>
    have hh := ret_some h; clear h; obtain ⟨h, rfl⟩ := hh
    exact wp_val (m := Instr.fieldAt t (a.eval x) i) rfl (Ok1.val hs (opField_sound hx h)) hn
  case field t x i =>
    have hh := ret_some h; clear h; obtain ⟨h, rfl⟩ := hh
    exact wp_val (m := Instr.field t (a.eval x) i) rfl (Ok1.val hs (opPart_sound hx h)) hn
  case indexAddr t x i =>
    have hh := ret_some h; clear h; obtain ⟨h, rfl⟩ := hh
    obtain ⟨x1, y1, e1, e2, h⟩ := map2_some h
    exact wp_val (m := Instr.indexAt t (a.eval x) (a.eval i)) rfl (Ok1.val hs (indexAddr_sound (hx.1 _ e1) (hx.2 _ e2) h)) hn
  case index t x i =>
    have hh := ret_some h; clear h; obtain ⟨h, rfl⟩ := hh
    obtain ⟨x1, y1, e1, e2, h⟩ := map2_some h
    exact wp_val (m := Instr.index t (a.eval x) (a.eval i)) rfl (Ok1.val hs (index_sound hG (hx.1 _ e1) (hx.2 _ e2) h)) hn
  case lookup t x i ok =>
    have hh := ret_some h; clear h; obtain ⟨h, rfl⟩ := hh
    obtain ⟨x1, y1, e1, e2, h⟩ := map2_some h
    exact wp_val (m := Instr.lookup t (a.eval x) (a.eval i) ok) rfl (Ok1.val hs (lookup_sound hG hE.keys hs (hx.1 _ e1) (hx.2 _ e2) h)) hn
  case mapUpdate t m k x =>
    unfold st? at h
    split at h
    · rename_i s1 hst; cases h
      unfold opUpdate at hst
      split at hst
      · rename_i m1 hm1
        split at hst
        · rename_i k1 hk1
          split at hst
          · rename_i x1 hx1
            exact wp_unit (m := Instr.mapUpdate t (a.eval m) (a.eval k) (a.eval x)) rfl (update_sound hG hE.keys hs (hx.1 _ hm1) (hx.2.1 _ hk1) (hx.2.2 _ hx1) hst) rfl hn
          · cases hst
        · cases hst
      · cases hst
    · cases h
  case range t x => exact wp_val (m := Instr.range t (a.eval x)) rfl (opRange_sound (P := E.P) hs hx h) hn
  case next it str =>
    cases str with
    | false => cases h
    | true => exact wp_val (m := Instr.next (a.eval it) true type) rfl (opNext_sound (P := E.P) hG hs hx h) hn
  case extract x i =>
    have hh := ret_some h; clear h; obtain ⟨h, rfl⟩ := hh
    unfold opExtract at h
    split at h
    · rename_i l hl
      have hp := hx _ hl
      simp only [VR] at hp; obtain ⟨us, hus, hp⟩ := hp
      rw [lget_eq] at h
      obtain ⟨u, k1, k2⟩ := hus.get h
      exact wp_val (m := Instr.extract (a.eval x) i) rfl (Ok1.val hs ⟨u, by rw [hp]; simp [Instr.extract, k1], k2⟩) hn
    · cases h
  case typeAssert x t1 ta ok =>
    have hh := ret_some h; clear h; obtain ⟨h, rfl⟩ := hh
    unfold opAssert at h
    split at h
    · rename_i t w hw
      have hp := hx _ hw
      simp only [VR] at hp; obtain ⟨uw, huw, hp⟩ := hp
      split at h
      · rename_i d hd
        split at h
        · cases h
        · rename_i hi
          split at h
          · rename_i ht
            rw [Nat.beq_eq] at ht; subst ht
            refine wp_val (m := Instr.typeAssert (a.eval x) t1 t ok) rfl (Ok1.val hs ⟨if ok then .tuple #[uw, .bool true] else uw, ?_, ?_⟩) hn
            · rw [hp]
              cases d <;> simp only [isIface] at hi <;> first | (cases hi; done) | simp [Instr.typeAssert, run_underlying hd]
            · cases ok with
              | true => cases h; simp only [VR, VRs, if_true]; exact ⟨_, ⟨_, _, huw, ⟨_, _, rfl, rfl, rfl⟩, rfl⟩, rfl⟩
              | false => cases h; exact huw
          · cases h
      · cases h
    · cases h
  case call c =>
    unfold opCall at h
    split at h
    · rename_i args hargs
      have hal := evs_sound (e := a.eval) (fun x hx' => hx x (by simp [Call.operands]; exact .inr (by simpa using hx'))) hargs
      have hmap : c.args.map a.eval = (c.args.toList.map a.eval).toArray := by apply Array.ext'; simp
      split at h
      · rename_i b hb
        obtain ⟨ρ', u, W', k1, k2, k3⟩ := builtinW_sound (W := W) (ty := type) (cs := c.args.map fun | .const _ => true | _ => false) hG hE.facts hE.keys hs hal h
        unfold Oper.wp
        have he : (execOp a.eval ⟨dst, .call c, type, pos, after, guard⟩).run E.P W = (builtin b c.argTypes type (c.args.map fun | .const _ => true | _ => false) (c.args.map a.eval)).run E.P W := by
          simp only [execOp, Sem.run_bind, resolve, hb, Sem.run_pure, Result.andThen_ok, invoke]
          rfl
        rw [he, hmap]
        have hat : c.argTypes = c.argTypes.toList.toArray := by simp
        rw [hat, k1]
        exact hn ρ' u W' a.defers k3 k2 (.inl rfl)
      · rename_i g hg
        unfold callF at h
        split at h
        · rename_i g1 caps hg1
          have hfn := hx g (by simp [Call.operands, hg]) _ hg1
          simp only [VR] at hfn; obtain ⟨us, hus, hfn⟩ := hfn
          refine call_wp hE hc hs (g := g1) (us := c.args.toList.map a.eval ++ us) (hal.append hus) ?_ h hn
          simp only [execOp, Sem.run_bind, resolve, hg, Deferred.ofValue, hfn, Sem.run_pure, Result.andThen_ok, invoke, hmap]
          congr 2
          apply Array.ext'; simp
        · cases h
      · rename_i g m hg
        unfold invokeV at h
        split at h
        · rename_i t w hg1
          have hrc := hx g (by simp [Call.operands, hg]) _ hg1
          simp only [VR] at hrc; obtain ⟨uw, huw, hrc⟩ := hrc
          split at h
          · rename_i q hq
            split at h
            · rename_i r hr
              have hm := hE.meths t m q hq
              have hrec : ∃ b off n, ρ b = some n ∧ uw = .pointer (some ⟨n.1, off, none⟩) ∧ ∃ ur, (method (E.P.types.size + Made.depth) t uw m).run E.P W = .ok (q.1, ur) W ∧ VR σ ρ r ur := by
                unfold recv at hr
                split at hr
                · rename_i hq2
                  split at hr
                  · cases hr
                    have hw2 := huw
                    simp only [VR] at hw2; obtain ⟨b, n, k1, rfl⟩ := hw2
                    refine ⟨_, _, _, k1, rfl, _, ?_, huw⟩
                    rw [hm, hq2]
                  · cases hr
                · rename_i tt hq2
                  unfold opLoad at hr
                  split at hr
                  · rename_i id off hid
                    cases hid
                    simp only [VR] at huw; obtain ⟨b, n, k1, rfl⟩ := huw
                    obtain ⟨u, k2, k3⟩ := run_loadT hs hr k1
                    refine ⟨_, _, _, k1, rfl, u, ?_, k3⟩
                    rw [hm, hq2]
                    simp only [k2, Result.andThen_ok]
                  · cases hr
              obtain ⟨_, _, _, _, hpt, ur, k1, k2⟩ := hrec
              refine call_wp2 hc hs (g := q.1) (us := ur :: c.args.toList.map a.eval) (by simp only [VRs]; exact ⟨_, _, k2, hal, rfl⟩) ?_ h hn
              simp only [execOp, Sem.run_bind, resolve, hg, Sem.run_pure, Result.andThen_ok, hrc]
              rw [invoke_meth _ k1, hmap]
              congr 2
              apply Array.ext'; simp
            · cases h
          · cases h
        · cases h
    · cases h
  case defer c =>
    unfold opDefer at h
    split at h
    · rename_i hnil
      have h0 : c.args = #[] := by
        have : c.args.toList = [] := by
          cases hq : c.args.toList with
          | nil => rfl
          | cons _ _ => rw [hq] at hnil; cases hnil
        exact Array.toList_eq_nil_iff.1 this
      split at h
      · rename_i g hg
        cases hq : ev f g with
        | none => rw [hq] at h; cases h
        | some w =>
          rw [hq] at h
          cases w <;> simp only [idleF] at h <;> try (cases h; done)
          rename_i g1 caps
          split at h
          · rename_i hidle; cases h
            have hfn := hx g (by simp [Call.operands, hg]) _ hq
            simp only [VR] at hfn; obtain ⟨us, hus, hfn⟩ := hfn
            unfold Oper.wp
            have he : (execOp a.eval ⟨dst, .defer c, type, pos, after, guard⟩).run E.P W = .ok (.defer { target := .fn (.func g1) us.toArray, args := #[] }) W := by
              simp [execOp, resolve, hg, Deferred.ofValue, hfn, h0]
            rw [he]
            exact hn ρ Go.undef W _ (Stp.refl hs) (by simp only [VR]) (.inr ⟨_, ⟨g1, us.toArray, rfl, hidle⟩, rfl⟩)
          · cases h
      · cases h
    · cases h
end ops
def FR (σ : Nat → Int) (ρ : Rho) (f : F) (a : Act) : Prop := ∀ t v, f.get t = some v → t < a.tmps.size ∧ VR σ ρ v (a.tmps.getD t Go.undef)
def DOK (E : Env) (D ds : List Deferred) : Prop := ∃ l, ds = l ++ D ∧ ∀ d ∈ l, Idle E d
section frames
variable {E : Env} {σ : Nat → Int} {ρ ρ' : Rho} {s s' : St} {W : World} {v : V} {f f' : F} {call : Call} {a : Act}
theorem opT_eq (o : Op) (call : Call) (f : F) (s : St) : opT o E call f s = op E call o f s := by cases o <;> rfl
theorem FR.mono (h : FR σ ρ f a) (hρ : ∀ id p, ρ id = some p → ρ' id = some p) : FR σ ρ' f a := fun t v ht => ⟨(h t v ht).1, VR.mono hρ _ _ (h t v ht).2⟩
theorem FR.defers (h : FR σ ρ f a) (ds : List Deferred) : FR σ ρ f { a with defers := ds } := h
theorem FR.put (h : FR σ ρ f a) {u : Value} (hv : VR σ ρ v u) (d : Option Tmp) : FR σ ρ (putD f d v) (a.put d u) := by
  cases d with
  | none => exact h
  | some d =>
    intro t w ht
    have ht : (f.set d (some v)).get t = some w := ht
    by_cases e : t = d
    · subst e
      obtain ⟨w', hw'⟩ := Option.isSome_iff_exists.1 (T.get_set_dom _ _ _ _ ht)
      have hlt := (h t w' hw').1
      have := T.get_set _ _ _ _ ht
      cases this
      refine ⟨by simpa [Act.put] using hlt, ?_⟩
      have : (a.put (some t) u).tmps.getD t Go.undef = u := by simp [Act.put, hlt]
      rw [this]; exact hv
    · rw [T.get_set_ne _ _ _ _ e] at ht
      obtain ⟨h1, h2⟩ := h t w ht
      refine ⟨by simpa [Act.put] using h1, ?_⟩
      have : (a.put (some d) u).tmps.getD t Go.undef = a.tmps.getD t Go.undef := by
        simp [Act.put, Array.getElem?_setIfInBounds_ne (Ne.symm e)]
      rw [this]; exact h2
theorem FR.ev (h : FR σ ρ f a) (x : Operand) : EvOk σ ρ f a.eval x := by
  intro v hv
  cases x with
  | tmp t => exact (h t v hv).2
  | const u => exact ofV_VR hv
  | global g => cases hv
  | func g => cases hv; simp only [VR]; exact ⟨[], by simp [VRs], rfl⟩
theorem DOK.of {D : List Deferred} (h : DOK E D a.defers) {ds : List Deferred} (hd : ds = a.defers ∨ ∃ d, Idle E d ∧ ds = d :: a.defers) : DOK E D ds := by
  rcases hd with rfl | ⟨d, h1, rfl⟩
  · exact h
  · obtain ⟨l, h2, h3⟩ := h
    refine ⟨d :: l, by rw [h2]; rfl, ?_⟩
    intro x hx
    simp only [List.mem_cons] at hx
    rcases hx with rfl | hx
    · exact h1
    · exact h3 x hx
theorem guard_sound {ops : Array Oper} {o : Oper} {b : Bool} (hf : FR σ ρ f a) (h : guardOk ops.toList f o.guard = some b) : Region.wanted o (yielded ops a.tmps) = b := by
  unfold guardOk at h
  unfold Region.wanted
  split at h
  · rename_i hg; cases h; rw [hg]
  · rename_i q hg
    rw [hg]
    obtain ⟨j, want⟩ := q
    simp only at h ⊢
    unfold guardP at h
    rw [lget_eq] at h
    split at h
    · rename_i p hp
      have hp' : ops[j]? = some p := by simpa using hp
      split at h
      · rename_i t ht
        unfold guardT at h
        split at h
        · rename_i c hc; cases h
          obtain ⟨h1, h2⟩ := hf t _ hc
          simp only [VR] at h2
          have h3 : a.tmps[t]? = some (.bool c) := by
            rw [Array.getElem?_eq_getElem h1]
            rw [Array.getD_eq_getD_getElem?, Array.getElem?_eq_getElem h1] at h2
            simpa using h2
          have : yielded ops a.tmps j = some c := by simp only [yielded, hp', ht, Option.bind_some, h3]
          rw [this]; simp
        · rename_i hc; cases h
          obtain ⟨h1, h2⟩ := hf t _ hc
          simp only [VR] at h2
          have h3 : a.tmps[t]? = some Go.undef := by
            rw [Array.getElem?_eq_getElem h1]
            rw [Array.getD_eq_getD_getElem?, Array.getElem?_eq_getElem h1] at h2
            simpa using h2
          have : yielded ops a.tmps j = none := by simp only [yielded, hp', ht, Option.bind_some, h3, Go.undef]
          rw [this]; rfl
        · cases h
      · cases h
    · cases h
theorem regS_cons {call : Call} {all l : List Oper} {o : Oper} : regS E call all (o :: l) f s = match step E call all o f s with | some r => regS E call all l (putD f o.dst r.1) r.2 | none => none := by
  show Option.rec (motive := fun _ => Option (F × St)) none (fun r => regS E call all l (putD f o.dst r.1) r.2) (step E call all o f s) = _
  cases step E call all o f s <;> rfl
theorem regS_wp {D : List Deferred} (hE : EnvOk E σ) (hc : CallOk E σ call) (ops : Array Oper) {Q : Exit → Act → World → Prop} : ∀ (rest : List Oper) (i : Nat) (f : F) (s : St) (f' : F) (s' : St) (ρ : Rho) (W : World) (a : Act), ops.toList.drop i = rest →
    regS E call ops.toList rest f s = some (f', s') → Sim σ ρ s W → FR σ ρ f a → DOK E D a.defers →
    (∀ ρ' W' a', Stp σ ρ s W ρ' s' W' → FR σ ρ' f' a' → DOK E D a'.defers → Q .normal a' W') → wpOps E.P ops Q (List.range' i rest.length) a W := by
  intro rest
  induction rest with
  | nil =>
    intro i f s f' s' ρ W a _ h hs hf hd hQ
    have h : some (f, s) = some (f', s') := h
    cases h
    simp only [List.length_nil, List.range'_zero, wpOps]
    exact hQ ρ W a (Stp.refl hs) hf hd
  | cons o rest ih =>
    intro i f s f' s' ρ W a hi h hs hf hd hQ
    have ho : ops[i]? = some o := by
      have : ops.toList[i]? = some o := by
        have h2 : (ops.toList.drop i)[0]? = some o := by rw [hi]; rfl
        simpa [List.getElem?_drop] using h2
      simpa using this
    have hi2 : ops.toList.drop (i + 1) = rest := by
      rw [← List.drop_drop, hi]; rfl
    rw [regS_cons] at h
    simp only [List.length_cons, List.range'_succ, wpOps, ho]
    split at h
    · rename_i r hr
      unfold step at hr
      split at hr
      · rename_i hg
        rw [guard_sound hf hg]
        simp only [if_true]
        left
        rw [opT_eq] at hr
        obtain ⟨v, s1⟩ := r
        refine op_wp hE hc hs (fun x _ => hf.ev x) hr ?_
        intro ρ1 u W1 ds h1 h2 h3
        refine ih (i + 1) _ _ f' s' ρ1 W1 _ hi2 h h1.sim (FR.put ((hf.mono (h1.mono hs)).defers ds) h2 o.dst) ?_ ?_
        · have := DOK.of hd h3
          cases o.dst <;> exact this
        · intro ρ2 W2 a2 k1 k2 k3
          exact hQ ρ2 W2 a2 (h1.trans k1) k2 k3
      · rename_i hg
        rw [guard_sound hf hg]
        simp only [Bool.false_eq_true, if_false]
        cases hr
        refine ih (i + 1) _ _ f' s' ρ W _ hi2 h hs (FR.put hf (by simp only [VR]) o.dst) ?_ hQ
        cases o.dst <;> exact hd
      · cases hr
    · cases h
end frames
end
end Go.Proofs.YtnpkeganpkobjaaGreatDoor.Ev
