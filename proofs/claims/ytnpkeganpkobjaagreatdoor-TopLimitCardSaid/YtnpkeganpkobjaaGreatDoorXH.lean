import Derived.Test.YtnpkeganpkobjaaGreatDoorXG
import Derived.Scope
import Derived.Recover
set_option linter.all false
namespace Go.Proofs.YtnpkeganpkobjaaGreatDoor.Ev
open Go Go.RowKit
noncomputable section
def toExit : Out → Exit
  | .norm => .normal
  | .exit id => .exit id
  | .ret => .ret
section code
variable {E : Env} {σ : Nat → Int} {call : Call} {D : List Deferred}
theorem reg_wp (hE : EnvOk E σ) (hc : CallOk E σ call) {id : Nat} (ops : Array Oper) (draw : Bool) {Q : Exit → Act → World → Prop} {f f' : F} {s s' : St} {ρ : Rho} {W : World} {a : Act}
    (h : reg E call ops.toList draw f s = some (f', s')) (hs : Sim σ ρ s W) (hf : FR σ ρ f a) (hd : DOK E D a.defers)
    (hQ : ∀ ρ' W' a', Stp σ ρ s W ρ' s' W' → FR σ ρ' f' a' → DOK E D a'.defers → Q .normal a' W') : (Code.region id ops draw).wp E.P Q a W := by
  cases draw with
  | true => exact regD_wp hE hc ops h hs hf hd hQ
  | false =>
    refine wp_region ?_
    have := regS_wp hE hc ops (Q := Q) ops.toList 0 f s f' s' ρ W a (by simp) h hs hf hd hQ
    rw [List.range_eq_range']
    simpa using this
theorem exec_succ (n : Nat) (c : Code) (f : F) (s : St) : exec E call (n + 1) c f s = execT c E call (exec E call n) f s := rfl
theorem then_some {k : F → St → Got} {g : Got} {o : Out} {f' : F} {s' : St} (h : then? k g = some (o, f', s')) : (∃ f1 s1, g = some (.norm, f1, s1) ∧ k f1 s1 = some (o, f', s')) ∨ (g = some (o, f', s') ∧ o ≠ .norm) := by
  unfold then? at h
  split at h
  · exact .inl ⟨_, _, rfl, h⟩
  · rename_i hne
    refine .inr ⟨h, ?_⟩
    rintro rfl
    exact hne f' s' h
theorem exec_wp (hE : EnvOk E σ) (hc : CallOk E σ call) : ∀ (n : Nat) (c : Code) (f : F) (s : St) (o : Out) (f' : F) (s' : St), exec E call n c f s = some (o, f', s') → ∀ (ρ : Rho) (W : World) (a : Act) (Q : Exit → Act → World → Prop), Sim σ ρ s W → FR σ ρ f a → DOK E D a.defers →
    (∀ ρ' W' a', Stp σ ρ s W ρ' s' W' → FR σ ρ' f' a' → DOK E D a'.defers → Q (toExit o) a' W') → c.wp E.P Q a W ∧ ∀ b, c = .loop b → Code.rounds E.P b Q n a W := by
  intro n
  induction n with
  | zero => intro c f s o f' s' h; cases h
  | succ n ih =>
    intro c f s o f' s' h ρ W a Q hs hf hd hQ
    rw [exec_succ] at h
    -- two pieces, one behind the other
    have two : ∀ (x : Code) (K : F → St → Got), then? K (exec E call n x f s) = some (o, f', s') → ∀ (next : Act → World → Prop),
        (∀ f1 s1, K f1 s1 = some (o, f', s') → ∀ ρ1 W1 a1, Stp σ ρ s W ρ1 s1 W1 → FR σ ρ1 f1 a1 → DOK E D a1.defers → next a1 W1) → x.wp E.P (Exit.then next Q) a W := by
      intro x K hx next hnext
      rcases then_some hx with ⟨f1, s1, h1, h2⟩ | ⟨h1, h2⟩
      · exact (ih x f s .norm f1 s1 h1 ρ W a _ hs hf hd (fun ρ1 W1 a1 k1 k2 k3 => hnext f1 s1 h2 ρ1 W1 a1 k1 k2 k3)).1
      · refine (ih x f s o f' s' h1 ρ W a _ hs hf hd (fun ρ1 W1 a1 k1 k2 k3 => ?_)).1
        cases o with
        | norm => exact absurd rfl h2
        | exit id => exact hQ ρ1 W1 a1 k1 k2 k3
        | ret => exact hQ ρ1 W1 a1 k1 k2 k3
    cases c with
    | skip => have h : some (Out.norm, f, s) = some (o, f', s') := h
              cases h; exact ⟨wp_skip (hQ ρ W a (Stp.refl hs) hf hd), fun b hb => by cases hb⟩
    | label l => have h : some (Out.norm, f, s) = some (o, f', s') := h
                 cases h; exact ⟨wp_label (hQ ρ W a (Stp.refl hs) hf hd), fun b hb => by cases hb⟩
    | exit id => have h : some (Out.exit id, f, s) = some (o, f', s') := h
                 cases h; exact ⟨wp_exit (hQ ρ W a (Stp.refl hs) hf hd), fun b hb => by cases hb⟩
    | ret => have h : some (Out.ret, f, s) = some (o, f', s') := h
             cases h; exact ⟨wp_ret (hQ ρ W a (Stp.refl hs) hf hd), fun b hb => by cases hb⟩
    | region id ops draw =>
      have h : norm? (reg E call ops.toList draw f s) = some (o, f', s') := h
      unfold norm? at h
      split at h
      · rename_i r hr; cases h
        exact ⟨reg_wp hE hc ops draw hr hs hf hd hQ, fun b hb => by cases hb⟩
      · cases h
    | seq x y =>
      have h : then? (exec E call n y) (exec E call n x f s) = some (o, f', s') := h
      refine ⟨wp_seq (two x _ h _ (fun f1 s1 h2 ρ1 W1 a1 k1 k2 k3 => ?_)), fun b hb => by cases hb⟩
      exact (ih y f1 s1 o f' s' h2 ρ1 W1 a1 Q k1.sim k2 k3 (fun ρ2 W2 a2 j1 j2 j3 => hQ ρ2 W2 a2 (k1.trans j1) j2 j3)).1
    | cond cc x y =>
      have h : Option.rec (motive := fun _ => Got) none (fun b1 => Bool.rec (motive := fun _ => Got) (exec E call n y f s) (exec E call n x f s) b1) (condV f cc) = some (o, f', s') := h
      cases hcv : condV f cc with
      | none => rw [hcv] at h; cases h
      | some t =>
        rw [hcv] at h
        have hv : a.eval cc = .bool t := by
          unfold condV at hcv
          split at hcv
          · rename_i b hb; cases hcv
            have := hf.ev cc _ hb
            simpa only [VR] using this
          · cases hcv
        refine ⟨wp_cond hv ?_, fun b hb => by cases hb⟩
        cases t with
        | true => exact (ih x f s o f' s' h ρ W a Q hs hf hd hQ).1
        | false => exact (ih y f s o f' s' h ρ W a Q hs hf hd hQ).1
    | block id b =>
      have h : outB id (exec E call n b f s) = some (o, f', s') := h
      refine ⟨wp_block ?_, fun b hb => by cases hb⟩
      cases hx : exec E call n b f s with
      | none => rw [hx] at h; cases h
      | some r =>
        rw [hx] at h
        obtain ⟨o1, f1, s1⟩ := r
        cases o1 with
        | norm =>
          have h : some (Out.norm, f1, s1) = some (o, f', s') := h
          cases h
          exact (ih b f s _ _ _ hx ρ W a (Exit.inBlock id Q) hs hf hd (fun ρ1 W1 a1 k1 k2 k3 => hQ ρ1 W1 a1 k1 k2 k3)).1
        | ret =>
          have h : some (Out.ret, f1, s1) = some (o, f', s') := h
          cases h
          exact (ih b f s _ _ _ hx ρ W a (Exit.inBlock id Q) hs hf hd (fun ρ1 W1 a1 k1 k2 k3 => hQ ρ1 W1 a1 k1 k2 k3)).1
        | exit i =>
          have h : (match Nat.beq i id with | true => some (Out.norm, f1, s1) | false => some (Out.exit i, f1, s1)) = some (o, f', s') := h
          cases hi : Nat.beq i id with
          | true =>
            rw [hi] at h; cases h
            rw [Nat.beq_eq] at hi
            exact (ih b f s _ _ _ hx ρ W a _ hs hf hd (fun ρ1 W1 a1 k1 k2 k3 => by
              show Exit.inBlock id Q (.exit i) a1 W1
              simp only [Exit.inBlock, hi, if_true]
              exact hQ ρ1 W1 a1 k1 k2 k3)).1
          | false =>
            rw [hi] at h; cases h
            have hne : ¬ i = id := by rw [← Nat.beq_eq, hi]; simp
            exact (ih b f s _ _ _ hx ρ W a _ hs hf hd (fun ρ1 W1 a1 k1 k2 k3 => by
              show Exit.inBlock id Q (.exit i) a1 W1
              simp only [Exit.inBlock, hne, if_false]
              exact hQ ρ1 W1 a1 k1 k2 k3)).1
    | loop b =>
      have h : then? (exec E call n (.loop b)) (exec E call n b f s) = some (o, f', s') := h
      have hr : Code.rounds E.P b Q (n + 1) a W := by
        rw [rounds_succ]
        refine two b _ h _ (fun f1 s1 h2 ρ1 W1 a1 k1 k2 k3 => ?_)
        exact (ih (.loop b) f1 s1 o f' s' h2 ρ1 W1 a1 Q k1.sim k2 k3 (fun ρ2 W2 a2 j1 j2 j3 => hQ ρ2 W2 a2 (k1.trans j1) j2 j3)).2 b rfl
      exact ⟨wp_loop_rounds (n + 1) hr, fun b' hb => by cases hb; exact hr⟩
    | scope b =>
      have h : exec E call n b f s = some (o, f', s') := h
      refine ⟨wp_scope_straight ?_, fun b hb => by cases hb⟩
      exact (ih b f s o f' s' h ρ W a _ hs hf hd (fun ρ1 W1 a1 k1 k2 k3 => by
        have := hQ ρ1 W1 a1 k1 k2 k3
        cases o <;> exact this)).1
    | rangeFunc _ _ _ _ => cases h
    | goto _ => cases h
    | refuse _ => cases h
theorem initF_get : ∀ (l : List V) (k : Nat) (f : F) (t : Nat) (v : V), (initF l k f).get t = some v → f.get t = some v ∨ (k ≤ t ∧ l[t - k]? = some v) := by
  intro l
  induction l with
  | nil => intro k f t v h; exact .inl h
  | cons x l ih =>
    intro k f t v h
    simp only [initF] at h
    rcases ih _ _ _ _ h with h | ⟨h1, h2⟩
    · rcases T.get_add 40 f k (some x) t with e | ⟨e1, e2⟩
      · rw [e] at h; exact .inl h
      · subst e1
        rw [e2] at h; cases h
        exact .inr ⟨Nat.le_refl _, by simp⟩
    · refine .inr ⟨by omega, ?_⟩
      obtain ⟨q, hq⟩ : ∃ q, t - k = q + 1 := ⟨t - k - 1, by omega⟩
      have : t - (k + 1) = q := by omega
      rw [this] at h2
      rw [hq]; simpa using h2
theorem fillU_get : ∀ (n k : Nat) (f : F) (t : Nat) (v : V), (fillU n k f).get t = some v → f.get t = some v ∨ (k ≤ t ∧ t < k + n ∧ v = .undef) := by
  intro n
  induction n with
  | zero => intro k f t v h; exact .inl h
  | succ n ih =>
    intro k f t v h
    simp only [fillU] at h
    rcases ih _ _ _ _ h with h | ⟨h1, h2, h3⟩
    · rcases T.get_add 40 f k (some .undef) t with e | ⟨e1, e2⟩
      · rw [e] at h; exact .inl h
      · subst e1
        rw [e2] at h; cases h
        exact .inr ⟨Nat.le_refl _, by omega, rfl⟩
    · exact .inr ⟨by omega, by omega, h3⟩
theorem frame_start {ρ : Rho} {args : List V} {us : List Value} (h : VRs σ ρ args us) (n : Nat) : FR σ ρ (fillU (n - llen args) (llen args) (initF args 0 .e)) { tmps := us.toArray ++ Array.replicate (n - us.toArray.size) Go.undef, defers := [] } := by
  have hl := h.len
  intro t v ht
  rw [llen_eq] at ht
  rcases fillU_get _ _ _ _ _ ht with h1 | ⟨h1, h2, rfl⟩
  · rcases initF_get _ _ _ _ _ h1 with h2 | ⟨_, h2⟩
    · cases h2
    · rw [Nat.sub_zero] at h2
      obtain ⟨u, k1, k2⟩ := h.get h2
      have hlt : t < us.length := (List.getElem?_eq_some_iff.1 k1).1
      refine ⟨by simp; omega, ?_⟩
      have : (us.toArray ++ Array.replicate (n - us.toArray.size) Go.undef).getD t Go.undef = u := by
        rw [Array.getD_eq_getD_getElem?, Array.getElem?_append_left (by simpa using hlt)]
        simp [k1]
      rw [this]; exact k2
  · refine ⟨by simp; omega, ?_⟩
    have : (us.toArray ++ Array.replicate (n - us.toArray.size) Go.undef).getD t Go.undef = Go.undef := by
      rw [Array.getD_eq_getD_getElem?, Array.getElem?_append_right (by simp; omega)]
      rw [Array.getElem?_replicate, if_pos (by simp; omega)]; rfl
    rw [this]; simp only [VR]
def resSem (tmps : Array Value) : ResultVar → Sem Value
  | .tmp t => pure (tmps.getD t Go.undef)
  | .cell c t => do loadVar t (← asAddr (tmps.getD c Go.undef))
theorem res_run {ρ : Rho} {s : St} {W : World} {f : F} {a : Act} {P : Program} (hs : Sim σ ρ s W) (hf : FR σ ρ f a) : ∀ (rs : List ResultVar) (l : List V), resAll P f s rs = some l →
    ∃ us, VRs σ ρ l us ∧ (rs.mapM (resSem a.tmps)).run P W = .ok us W := by
  intro rs
  induction rs with
  | nil => intro l h; simp only [resAll, Option.some.injEq] at h; subst h; exact ⟨[], by simp [VRs], by simp⟩
  | cons r rs ih =>
    intro l h
    simp only [resAll] at h
    split at h
    · rename_i v hv
      split at h
      · rename_i r' hr; cases h
        obtain ⟨us, h1, h2⟩ := ih _ hr
        cases r with
        | tmp t =>
          refine ⟨_ :: us, by simp only [VRs]; exact ⟨_, us, (hf t v hv).2, h1, rfl⟩, ?_⟩
          simp only [List.mapM_cons, resSem, Sem.run_bind, Sem.run_pure, Result.andThen_ok, h2]
        | cell c t =>
          have hv : opLoad P t s (f.get c) = some v := hv
          unfold opLoad at hv
          split at hv
          · rename_i id off hg
            have hp := (hf c _ hg).2
            simp only [VR] at hp; obtain ⟨b, n, k1, hp⟩ := hp
            obtain ⟨u, k2, k3⟩ := run_loadT hs hv k1
            refine ⟨u :: us, by simp only [VRs]; exact ⟨_, us, k3, h1, rfl⟩, ?_⟩
            simp only [List.mapM_cons, resSem, Sem.run_bind, Sem.run_pure, Result.andThen_ok, h2, hp, asAddr, k2]
          · cases hv
      · cases h
    · cases h
theorem results_run {ρ : Rho} {s s' : St} {W : World} {f : F} {a : Act} {P : Program} {fn : Func} {v : V} (hs : Sim σ ρ s W) (hf : FR σ ρ f a) (h : resV P f s fn.results.toList = some (v, s')) :
    s' = s ∧ ∃ u, (results fn a.tmps).run P W = .ok u W ∧ VR σ ρ v u := by
  unfold resV at h
  split at h
  · rename_i l hl; cases h
    obtain ⟨us, h1, h2⟩ := res_run hs hf _ _ hl
    refine ⟨rfl, ?_⟩
    have hm : (fn.results.mapM (resSem a.tmps)).run P W = .ok us.toArray W := by
      rw [← Array.toArray_toList (xs := fn.results), List.mapM_toArray]
      simp only [Sem.run_map, h2, Result.andThen_ok]
    have hr : (results fn a.tmps).run P W = .ok (if h : us.toArray.size = 1 then us.toArray[0] else .tuple us.toArray) W := by
      have he : results fn a.tmps = (do let vs ← fn.results.mapM (resSem a.tmps); pure (if h : vs.size = 1 then vs[0] else .tuple vs)) := rfl
      rw [he]
      simp only [Sem.run_bind, hm, Result.andThen_ok, Sem.run_pure]
    refine ⟨_, hr, ?_⟩
    have hlen := h1.len
    cases l with
    | nil =>
      have : us = [] := by simpa using hlen
      subst this
      simp only [tupV, VR, VRs]
      exact ⟨[], rfl, rfl⟩
    | cons x l =>
      cases l with
      | nil =>
        simp only [VRs] at h1
        obtain ⟨u, r, k1, rfl, rfl⟩ := h1
        simpa [tupV] using k1
      | cons y l =>
        have hne : ¬ us.toArray.size = 1 := by simp at hlen ⊢; omega
        rw [dif_neg hne]
        simp only [tupV, VR]
        exact ⟨us, h1, rfl⟩
  · cases h
theorem leaves_idle (hE : EnvOk E σ) {fn : Func} {tmps : Array Value} {R : Ending → World → Prop} {W : World} {D : List Deferred} (hR : Leaves E.P fn tmps R D .returning W) :
    ∀ ds, DOK E D ds → Leaves E.P fn tmps R ds .returning W := by
  rintro ds ⟨l, rfl, hl⟩
  induction l with
  | nil => exact hR
  | cons d l ih =>
    obtain ⟨g, caps, rfl, hg⟩ := hl d (by simp)
    obtain ⟨h1, h2⟩ := hE.idles g hg caps W
    refine leaves_cons (f := g) (args := caps) (by simp) ?_ ?_
    · simp only [invoke]
      rw [show (#[] : Array Value) ++ caps = caps by simp]
      exact h1
    · refine h2.mono ?_
      rintro e u' w' ⟨⟨v, rfl⟩, rfl, rfl⟩
      exact ih (fun x hx => hl x (by simp [hx]))
def HookOk (E : Env) (σ : Nat → Int) (hook : Hook) : Prop := ∀ f args s r v s', hook f args s = some r → r = some (v, s') → Does E σ f args s v s'
theorem enter_does (hE : EnvOk E σ) (hc : CallOk E σ call) {f : Nat} {e : FE} (he : E.fe f = some e) {args : List V} {s : St} {v : V} {s' : St} (h : enter E call e args s = some (v, s')) : Does E σ f args s v s' := by
  intro ρ W us hs hus
  obtain ⟨fn, f1, f2, f3, f4, f5⟩ := hE.fns f e he
  refine ⟨f5 _ _, calls_of_wp_defers f1 f2 ?_⟩
  unfold enter at h
  cases hx : exec E call 1000000 e.code (fillU (e.ntmps - llen args) (llen args) (initF args 0 .e)) s with
  | none => rw [hx] at h; cases h
  | some r =>
    rw [hx] at h
    obtain ⟨o, ff, sf⟩ := r
    have hfr := frame_start hus fn.ntmps
    rw [f3] at hfr
    have hres : o ≠ .exit 0 → (o = .norm ∨ o = .ret) ∨ ∃ id, o = .exit id := by intro _; cases o <;> simp
    have hkey : (o = .norm ∨ o = .ret) ∧ resV E.P ff sf e.results = some (v, s') := by
      cases o with
      | norm => exact ⟨.inl rfl, h⟩
      | ret => exact ⟨.inr rfl, h⟩
      | exit id => cases h
    obtain ⟨ho, hr⟩ := hkey
    rw [← f4] at hr
    refine (exec_wp hE hc _ _ _ _ _ _ _ hx ρ W _ _ hs (D := []) (by rw [f3]; exact hfr) ⟨[], rfl, by intro d hd; cases hd⟩ ?_).1
    intro ρ' W' a' k1 k2 k3
    obtain ⟨rfl, u, k4, k5⟩ := results_run k1.sim k2 hr
    have hl := leaves_idle hE (fn := fn) (tmps := a'.tmps) (R := fun e w' => ∃ ρ' u, e = .returned u ∧ VR σ ρ' v u ∧ Stp σ ρ s W ρ' s' w') (D := []) ⟨u, k4, ρ', u, rfl, k5, k1⟩ a'.defers k3
    rcases ho with rfl | rfl <;> exact hl
theorem regS_wp2 (hE : EnvOk E σ) (hc : CallOk E σ call) (ops : Array Oper) {Q : Exit → Act → World → Prop} (tail : List Nat) : ∀ (rest : List Oper) (i : Nat) (f : F) (s : St) (f' : F) (s' : St) (ρ : Rho) (W : World) (a : Act), (∀ j, j < rest.length → ops[i + j]? = rest[j]?) →
    regS E call ops.toList rest f s = some (f', s') → Sim σ ρ s W → FR σ ρ f a → DOK E D a.defers →
    (∀ ρ' W' a', Stp σ ρ s W ρ' s' W' → FR σ ρ' f' a' → DOK E D a'.defers → wpOps E.P ops Q tail a' W') → wpOps E.P ops Q (List.range' i rest.length ++ tail) a W := by
  intro rest
  induction rest with
  | nil =>
    intro i f s f' s' ρ W a _ h hs hf hd hQ
    have h : some (f, s) = some (f', s') := h
    cases h
    simpa using hQ ρ W a (Stp.refl hs) hf hd
  | cons o rest ih =>
    intro i f s f' s' ρ W a hi h hs hf hd hQ
    have ho : ops[i]? = some o := by have := hi 0 (by simp); simpa using this
    have hi2 : ∀ j, j < rest.length → ops[i + 1 + j]? = rest[j]? := by
      intro j hj
      have := hi (j + 1) (by simpa using hj)
      rw [show i + 1 + j = i + (j + 1) by omega]; simpa using this
    rw [regS_cons] at h
    simp only [List.length_cons, List.range'_succ, List.cons_append, wpOps, ho]
    split at h
    · rename_i r hr
      unfold step at hr
      split at hr
      · rename_i hg
        rw [guard_sound hf hg]
        simp only [if_true]
        left
        rw [opT_eq] at hr
        obtain ⟨v, s1⟩ := r
        refine op_wp hE hc hs (fun x _ => hf.ev x) hr ?_
        intro ρ1 u W1 ds h1 h2 h3
        refine ih (i + 1) _ _ f' s' ρ1 W1 _ hi2 h h1.sim (FR.put ((hf.mono (h1.mono hs)).defers ds) h2 o.dst) ?_ ?_
        · have := DOK.of hd h3
          cases o.dst <;> exact this
        · intro ρ2 W2 a2 k1 k2 k3
          exact hQ ρ2 W2 a2 (h1.trans k1) k2 k3
      · rename_i hg
        rw [guard_sound hf hg]
        simp only [Bool.false_eq_true, if_false]
        cases hr
        refine ih (i + 1) _ _ f' s' ρ W _ hi2 h hs (FR.put hf (by simp only [VR]) o.dst) ?_ hQ
        cases o.dst <;> exact hd
      · cases hr
    · cases h
theorem upon_of_wp {o : Oper} {a : Act} {W : World} {next : Act → World → Prop} {Q : Exit → Act → World → Prop} (h : o.wp E.P a W next Q) : (∀ w', (execOp a.eval o).run E.P W ≠ .ok .recover w') ∧ o.upon E.P a next Q ((execOp a.eval o).run E.P W) := by
  unfold Oper.wp at h
  refine ⟨fun w' he => ?_, h⟩
  rw [he] at h
  exact h
theorem regS_wpS (hE : EnvOk E σ) (hc : CallOk E σ call) (ops : Array Oper) {Q : Exit → Act → List Frame → World → Prop} {cs : List Frame} : ∀ (rest : List Oper) (i : Nat) (f : F) (s : St) (f' : F) (s' : St) (ρ : Rho) (W : World) (a : Act), (∀ j, j < rest.length → ops[i + j]? = rest[j]?) →
    regS E call ops.toList rest f s = some (f', s') → Sim σ ρ s W → FR σ ρ f a → DOK E D a.defers →
    (∀ ρ' W' a', Stp σ ρ s W ρ' s' W' → FR σ ρ' f' a' → DOK E D a'.defers → Q .normal a' cs W') → wpOpsS E.P ops Q (List.range' i rest.length) a cs W := by
  intro rest
  induction rest with
  | nil =>
    intro i f s f' s' ρ W a _ h hs hf hd hQ
    have h : some (f, s) = some (f', s') := h
    cases h
    simp only [List.length_nil, List.range'_zero, wpOpsS]
    exact hQ ρ W a (Stp.refl hs) hf hd
  | cons o rest ih =>
    intro i f s f' s' ρ W a hi h hs hf hd hQ
    have ho : ops[i]? = some o := by have := hi 0 (by simp); simpa using this
    have hi2 : ∀ j, j < rest.length → ops[i + 1 + j]? = rest[j]? := by
      intro j hj
      have := hi (j + 1) (by simpa using hj)
      rw [show i + 1 + j = i + (j + 1) by omega]; simpa using this
    rw [regS_cons] at h
    simp only [List.length_cons, List.range'_succ, wpOpsS, ho]
    split at h
    · rename_i r hr
      unfold step at hr
      split at hr
      · rename_i hg
        rw [guard_sound hf hg]
        simp only [if_true]
        rw [opT_eq] at hr
        obtain ⟨v, s1⟩ := r
        have hwp : o.wp E.P a W (fun a' w' => wpOpsS E.P ops Q (List.range' (i + 1) rest.length) a' cs w') (fun e a' w' => Q e a' cs w') := by
          refine op_wp hE hc hs (fun x _ => hf.ev x) hr ?_
          intro ρ1 u W1 ds h1 h2 h3
          refine ih (i + 1) _ _ f' s' ρ1 W1 _ hi2 h h1.sim (FR.put ((hf.mono (h1.mono hs)).defers ds) h2 o.dst) ?_ ?_
          · have := DOK.of hd h3
            cases o.dst <;> exact this
          · intro ρ2 W2 a2 k1 k2 k3
            exact hQ ρ2 W2 a2 (h1.trans k1) k2 k3
        obtain ⟨h1, h2⟩ := upon_of_wp hwp
        split
        · rename_i w' he; exact absurd he (h1 w')
        · exact h2
      · rename_i hg
        rw [guard_sound hf hg]
        simp only [Bool.false_eq_true, if_false]
        cases hr
        refine ih (i + 1) _ _ f' s' ρ W _ hi2 h hs (FR.put hf (by simp only [VR]) o.dst) ?_ hQ
        cases o.dst <;> exact hd
      · cases hr
    · cases h
theorem strict_ok (hE : EnvOk E σ) : EnvOk (strict E) σ := ⟨hE.bounds, ⟨hE.facts.ar, hE.facts.lt, hE.facts.eq, hE.facts.fb, hE.facts.fc, hE.facts.fi, hE.facts.fn⟩, hE.keys, hE.bt, hE.exts, hE.fns, hE.rooms, hE.meths, fun g h => (by cases h), hE.mixed⟩
theorem strict_call (hc : CallOk E σ call) : CallOk (strict E) σ call := hc
theorem strict_dok {ds : List Deferred} (h : DOK (strict E) [] ds) : ds = [] := by
  obtain ⟨l, rfl, hl⟩ := h
  cases l with
  | nil => rfl
  | cons d l =>
    obtain ⟨_, _, _, hi⟩ := hl d (by simp)
    cases hi
theorem asksR_some {o : Oper} (h : asksR o = true) : ∃ c, o.op = .call c ∧ c.callee = .builtin .recover ∧ c.args = #[] ∧ o.guard = none := by
  unfold asksR at h
  split at h
  · rename_i c hc
    split at h
    · rename_i hb
      simp only [Bool.and_eq_true] at h
      refine ⟨c, hc, hb, ?_, ?_⟩
      · have : c.args.toList = [] := by
          cases hq : c.args.toList with
          | nil => rfl
          | cons _ _ => rw [hq] at h; cases h.1
        exact Array.toList_eq_nil_iff.1 this
      · cases hg : o.guard with
        | none => rfl
        | some q => rw [hg] at h; cases h.2
    · cases h
  · cases h
theorem runD_does (hE : EnvOk E σ) (hc : CallOk E σ call) {g : Nat} {e : FE} (he : E.fe g = some e) {caps : List V} {s s' : St} (h : runD E call e caps s = some s') {ρ : Rho} {W : World} {us : List Value} (hs : Sim σ ρ s W) (hus : VRs σ ρ caps us) :
    CallsD E.P g us.toArray .returning W fun e u' w' => (∃ v, e = .returned v) ∧ u' = .returning ∧ ∃ ρ', Stp σ ρ s W ρ' s' w' := by
  obtain ⟨fn, f1, f2, f3, f4, f5⟩ := hE.fns g e he
  have hE' := strict_ok hE
  have hc' := strict_call hc
  refine callsD_of_wpS f1 f2 fun c₀ cs hu => ?_
  unfold runD at h
  split at h
  · rename_i id ops rest hcode
    split at h
    · rename_i o l hops
      split at h
      · rename_i hask
        simp only [Bool.and_eq_true] at hask
        obtain ⟨hask, hres⟩ := hask
        obtain ⟨c, c1, c2, c3, c4⟩ := asksR_some hask
        split at h
        · rename_i r hr
          rw [hcode]
          have hfr := frame_start hus fn.ntmps
          rw [f3] at hfr
          rw [f3]
          apply wpS_seq
          apply wpS_region
          have hsz : ops.size = l.length + 1 := by have := congrArg List.length hops; simpa using this
          have hget : ∀ j : Nat, ops[j]? = (o :: l)[j]? := fun j => by rw [← hops]; simp
          rw [hsz, List.range_eq_range', List.range'_succ]
          have ho : ops[0]? = some o := by rw [hget]; rfl
          have hexe : ∀ (a : Act), (execOp a.eval o).run E.P W = .ok .recover W := by
            intro a
            obtain ⟨dst, op1, type, pos, after, guard⟩ := o
            simp only at c1
            subst c1
            simp [execOp, resolve, c2, c3, invoke, builtin]
          have hwant : ∀ y, Region.wanted o y = true := fun y => by simp [Region.wanted, c4]
          have hrec : recoverD (c₀ :: cs) = none := by simp [recoverD, hu]
          simp only [wpOpsS, ho, hwant, if_true, hexe, hrec]
          obtain ⟨rf, rs⟩ := r
          rw [show (0 + 1) = 1 from rfl]
          have hnil : fn.results = #[] := by
            have h0 : fn.results.toList = [] := by
              rw [f4]
              cases hq : e.results with
              | nil => rfl
              | cons _ _ => rw [hq] at hres; cases hres
            exact Array.toList_eq_nil_iff.1 h0
          refine regS_wpS (D := []) hE' hc' ops l 1 _ s rf rs ρ W _ (fun j hj => by rw [hget, Nat.add_comm]; rfl) (by rw [hops]; exact hr) hs (FR.put hfr (u := .nilIface) (by simp only [VR]) o.dst) (by cases o.dst <;> exact ⟨[], rfl, by intro d hd; cases hd⟩) ?_
          intro ρ1 W1 a1 k1 k2 k3
          refine wpS_of_wp ?_
          have hend : ∀ (ρ2 : Rho) (W2 : World) (a2 : Act), Stp σ ρ1 rs W1 ρ2 s' W2 → DOK (strict E) [] a2.defers → (a2.defers = [] ∧ ∃ u', (c₀ :: cs) = { c₀ with mode := u' } :: cs ∧ ∃ v, (results fn a2.tmps).run E.P W2 = .ok v W2 ∧ ((∃ v', Ending.returned v = .returned v') ∧ u' = .returning ∧ ∃ ρ', Stp σ ρ s W ρ' s' W2)) := by
            intro ρ2 W2 a2 j1 j3
            refine ⟨strict_dok j3, .returning, by rw [← hu], .tuple #[], by simp [results, hnil], ⟨_, rfl⟩, rfl, ρ2, k1.trans j1⟩
          cases hx : exec (strict E) call 1000000 rest rf rs with
          | none => simp only [hx] at h; cases h
          | some q =>
            obtain ⟨oq, fq, sq⟩ := q
            simp only [hx] at h
            refine (exec_wp (D := []) hE' hc' _ _ _ _ _ _ _ hx ρ1 W1 a1 _ k1.sim k2 k3 ?_).1
            intro ρ2 W2 a2 j1 j2 j3
            cases oq with
            | norm => cases h; exact hend ρ2 W2 a2 j1 j3
            | ret => cases h; exact hend ρ2 W2 a2 j1 j3
            | exit i => cases h
        · cases h
      · cases h
    · cases h
  · cases h
theorem enter2_does (hE : EnvOk E σ) (hc : CallOk E σ call) {f : Nat} {e : FE} (he : E.fe f = some e) {args : List V} {s : St} {v : V} {s' : St} (h : enter2 E call e args s = some (v, s')) : Does E σ f args s v s' := by
  intro ρ W us hs hus
  obtain ⟨fn, f1, f2, f3, f4, f5⟩ := hE.fns f e he
  refine ⟨f5 _ _, calls_of_wp_defers f1 f2 ?_⟩
  unfold enter2 at h
  split at h
  · rename_i c0 id ops rest hcode
    cases hx0 : exec E call 1000000 c0 (frame0 e args) s with
    | none => rw [hx0] at h; cases h
    | some q0 =>
    rw [hx0] at h
    obtain ⟨oq0, f0, s0⟩ := q0
    unfold enter3 at h
    split at h
    case h_2 => cases h
    rename_i hq0
    obtain ⟨rfl, rfl, rfl⟩ := hq0
    split at h
    · rename_i o l hops
      split at h
      · rename_i r hr
        split at h
        · rename_i g hg
          obtain ⟨rf, rs⟩ := r
          rw [hcode]
          have hfr0 := frame_start hus fn.ntmps
          rw [f3] at hfr0
          rw [f3]
          refine wp_seq ?_
          refine (exec_wp (D := []) hE hc _ _ _ _ _ _ _ hx0 ρ W _ _ hs hfr0 ⟨[], rfl, by intro d hd; cases hd⟩ ?_).1
          intro ρ0 W0 a0 k01 hfr hd0
          have hlist : ops.toList = l.reverse ++ [o] := by
            have := congrArg List.reverse hops
            simpa using this
          have hsz : ops.size = l.length + 1 := by have := congrArg List.length hlist; simpa using this
          have hget : ∀ j : Nat, ops[j]? = (l.reverse ++ [o])[j]? := fun j => by rw [← hlist]; simp
          refine wp_seq (wp_region ?_)
          have hrange : List.range ops.size = List.range' 0 l.reverse.length ++ [l.length] := by
            rw [hsz, List.range_succ, List.range_eq_range', List.length_reverse]
          rw [hrange]
          refine regS_wp2 (D := []) hE hc ops [l.length] l.reverse 0 _ _ rf rs ρ0 W0 _ (fun j hj => by rw [hget, Nat.zero_add, List.getElem?_append_left hj]) hr k01.sim hfr hd0 ?_
          intro ρ1 W1 a1 k11 k2 k3
          have k1 := k01.trans k11
          have ho : ops[l.length]? = some o := by rw [hget]; simp
          -- the closure
          have hopen : ∃ c gv, o.op = .defer c ∧ c.args = #[] ∧ c.callee = .value gv ∧ o.guard = none ∧ ev rf gv = some g := by
            unfold opens at hg
            split at hg
            · rename_i c hc1
              split at hg
              · rename_i hnil
                split at hg
                · rename_i gv hgv
                  split at hg
                  · rename_i hgd
                    refine ⟨c, gv, hc1, ?_, hgv, hgd, hg⟩
                    have : c.args.toList = [] := by
                      cases hq : c.args.toList with
                      | nil => rfl
                      | cons _ _ => rw [hq] at hnil; cases hnil
                    exact Array.toList_eq_nil_iff.1 this
                  · cases hg
                · cases hg
              · cases hg
            · cases hg
          obtain ⟨c, gv, o1, o2, o3, o4, o5⟩ := hopen
          have hgv := k2.ev gv _ o5
          cases hx : exec E call 1000000 rest (putD rf o.dst .undef) rs with
          | none => rw [hx] at h; cases h
          | some q =>
            obtain ⟨oq, fq, sq⟩ := q
            rw [hx] at h
            have hsh : (oq = .norm ∨ oq = .ret) ∧ shut2 E call e.results (fq, sq) g = some (v, s') := by
              cases oq with
              | norm => exact ⟨.inl rfl, h⟩
              | ret => exact ⟨.inr rfl, h⟩
              | exit i => cases h
            obtain ⟨hoq, hsh⟩ := hsh
            unfold shut2 at hsh
            split at hsh
            · rename_i hn caps
              split at hsh
              · rename_i eh heh
                split at hsh
                · rename_i s3 hrd
                  simp only [VR] at hgv
                  obtain ⟨ucs, hucs, hgv⟩ := hgv
                  simp only [wpOps, ho]
                  have hwant : ∀ y, Region.wanted o y = true := fun y => by simp [Region.wanted, o4]
                  simp only [hwant, if_true]
                  left
                  have hexe : (execOp a1.eval o).run E.P W1 = .ok (.defer { target := .fn (.func hn) ucs.toArray, args := #[] }) W1 := by
                    obtain ⟨dst, op1, type, pos, after, guard⟩ := o
                    simp only at o1
                    subst o1
                    simp [execOp, resolve, o3, Deferred.ofValue, hgv, o2]
                  unfold Oper.wp
                  rw [hexe]
                  simp only [Oper.upon]
                  obtain ⟨d0, hd0⟩ : ∃ d0 : Deferred, d0 = { target := .fn (.func hn) ucs.toArray, args := #[] } := ⟨_, rfl⟩
                  rw [← hd0]
                  have hfr2 : FR σ ρ1 (putD rf o.dst .undef) (({ a1 with defers := d0 :: a1.defers } : Act).put o.dst Go.undef) := FR.put (k2.defers _) (by simp only [VR]) o.dst
                  refine (exec_wp (D := d0 :: a1.defers) hE hc _ _ _ _ _ _ _ hx ρ1 W1 _ _ k1.sim hfr2 (by cases o.dst <;> exact ⟨[], rfl, by intro d hd; cases hd⟩) ?_).1
                  intro ρ2 W2 a2 j1 j2 j3
                  have hucs2 := VRs.mono (j1.mono k1.sim) _ _ hucs
                  have hcl := runD_does hE hc heh hrd j1.sim hucs2
                  have hleave : Leaves E.P fn a2.tmps (fun e w' => ∃ ρ' u, e = .returned u ∧ VR σ ρ' v u ∧ Stp σ ρ s W ρ' s' w') (d0 :: a1.defers) .returning W2 := by
                    rw [hd0]
                    refine leaves_cons (f := hn) (args := ucs.toArray) (by simp) ?_ ?_
                    · simp only [invoke]
                      rw [show (#[] : Array Value) ++ ucs.toArray = ucs.toArray by simp]
                      exact (hE.fns hn eh heh).choose_spec.2.2.2.2 _ _
                    · refine hcl.mono ?_
                      rintro e' u' w' ⟨⟨v', rfl⟩, rfl, ρ3, k4⟩
                      have hr3 : resV E.P fq s3 fn.results.toList = some (v, s') := by rw [f4]; exact hsh
                      obtain ⟨rfl, u, k5, k6⟩ := results_run k4.sim (j2.mono (k4.mono j1.sim)) hr3
                      have hl0 : Leaves E.P fn a2.tmps (fun e w' => ∃ ρ' u, e = .returned u ∧ VR σ ρ' v u ∧ Stp σ ρ s W ρ' s' w') [] .returning w' := ⟨u, k5, ρ3, u, rfl, k6, (k1.trans j1).trans k4⟩
                      exact leaves_idle hE (D := []) hl0 a1.defers k3
                  have hl := leaves_idle hE (D := d0 :: a1.defers) hleave a2.defers j3
                  rcases hoq with rfl | rfl <;> exact hl
                · cases hsh
              · cases hsh
            · cases hsh
        · cases h
      · cases h
    · cases h
  · cases h
theorem tidy_does {f : Nat} {args : List V} {s : St} {r : V × St} {v : V} {s' : St} (h : Does E σ f args (fresh s) r.1 r.2) (ht : tidy s r = (v, s')) : Does E σ f args s v s' := by
  intro ρ W us hs hus
  obtain ⟨h1, h2⟩ := h ρ W us hs.fresh hus
  refine ⟨h1, h2.mono ?_⟩
  rintro e w' ⟨ρ', u, rfl, k1, k2⟩
  unfold tidy at ht
  split at ht
  · rename_i hc
    simp only [Bool.and_eq_true] at hc
    obtain ⟨c1, c2⟩ := hc
    rw [Nat.ble_eq] at c1
    cases ht
    exact ⟨ρ, u, rfl, VR.old k2 c2 k1, Stp.back hs k2 c1⟩
  · cases ht
    exact ⟨ρ', u, rfl, k1, Stp.relow k2⟩
theorem callN_ok (hE : EnvOk E σ) {hook : Hook} (hh : HookOk E σ hook) : ∀ n, CallOk E σ (callN E hook n) := by
  intro n
  induction n with
  | zero => intro f args s v s' h; cases h
  | succ n ih =>
    intro f args s v s' h
    simp only [callN] at h
    split at h
    · rename_i r hr; exact hh f args s _ v s' hr h
    · split at h
      · rename_i e he
        unfold tidy? at h
        split at h
        · rename_i r hr
          have h := Option.some.inj h
          split at hr
          · exact tidy_does (enter2_does hE ih he hr) h
          · exact tidy_does (enter_does hE ih he hr) h
        · cases h
      · cases h
end code
def pEqs : List (V × V) → List (V × V) → Bool
  | [], [] => true
  | a :: l, b :: m => vEq a.1 b.1 && vEq a.2 b.2 && pEqs l m
  | _, _ => false
def bEq : B → B → Bool
  | .cells l, .cells m => vEqs l m
  | .map l, .map m => pEqs l m
  | .iter l p, .iter m q => decide (l = m) && Nat.beq p q
  | .typ w t l, .typ x u m => (w == x) && Nat.beq t u && vEqs l m
  | .smap, .smap => true
  | _, _ => false
def oEq : Option B → Option B → Bool
  | none, none => true
  | some a, some b => bEq a b
  | _, _ => false
def tEq : T B → T B → Bool
  | .e, .e => true
  | .n l v r, .n l' v' r' => tEq l l' && oEq v v' && tEq r r'
  | _, _ => false
def stEq (s s' : St) : Bool := Nat.beq s.next s'.next && Nat.beq s.low s'.low && tEq s.heap s'.heap
theorem pEqs_sound : ∀ (a b : List (V × V)), pEqs a b = true → a = b
  | [], b, h => by cases b <;> simp_all [pEqs]
  | x :: l, b, h => by
    cases b <;> simp only [pEqs] at h <;> try (cases h; done)
    simp only [Bool.and_eq_true] at h
    rw [pEqs_sound _ _ h.2, Prod.ext (vEq_sound _ _ h.1.1) (vEq_sound _ _ h.1.2)]
theorem bEq_sound {a b : B} (h : bEq a b = true) : a = b := by
  cases a <;> cases b <;> simp only [bEq] at h <;> try (cases h; done)
  · rw [vEqs_sound _ _ h]
  · rw [pEqs_sound _ _ h]
  · simp only [Bool.and_eq_true, decide_eq_true_eq, Nat.beq_eq] at h; rw [h.1, h.2]
  · simp only [Bool.and_eq_true, beq_iff_eq, Nat.beq_eq] at h; rw [h.1.1, h.1.2, vEqs_sound _ _ h.2]
  · rfl
theorem oEq_sound {a b : Option B} (h : oEq a b = true) : a = b := by
  cases a <;> cases b <;> simp only [oEq] at h <;> try (cases h; done)
  · rfl
  · rw [bEq_sound h]
theorem tEq_sound : ∀ {a b : T B}, tEq a b = true → a = b := by
  intro a
  induction a with
  | e => intro b h; cases b <;> simp_all [tEq]
  | n l v r il ir =>
    intro b h
    cases b <;> simp only [tEq] at h <;> try (cases h; done)
    simp only [Bool.and_eq_true] at h
    rw [il h.1.1, ir h.2, oEq_sound h.1.2]
theorem stEq_sound {s s' : St} (h : stEq s s' = true) : s = s' := by
  simp only [stEq, Bool.and_eq_true, Nat.beq_eq] at h
  obtain ⟨⟨h1, h2⟩, h3⟩ := h
  have := tEq_sound h3
  cases s; cases s'; simp_all
structure Ent where
  f : Nat
  args : List V
  s : St
  v : V
  s' : St
def memo : List Ent → Hook
  | [], _, _, _ => none
  | e :: l, f, args, s => match Nat.beq e.f f && vEqs e.args args && stEq e.s s with
    | true => some (some (e.v, e.s'))
    | false => memo l f args s
structure Pur where
  f : Nat
  args : List V
  v : V
def pures : List Pur → Hook
  | [], _, _, _ => none
  | e :: l, f, args, s => match Nat.beq e.f f && vEqs e.args args with
    | true => some (some (e.v, s))
    | false => pures l f args s
def both (a b : Hook) : Hook := fun f args s => match a f args s with
  | some r => some r
  | none => b f args s
section hooks
variable {E : Env} {σ : Nat → Int}
def DoesE (E : Env) (σ : Nat → Int) (e : Ent) : Prop := Does E σ e.f e.args e.s e.v e.s'
def DoesP (E : Env) (σ : Nat → Int) (e : Pur) : Prop := ∀ s, Does E σ e.f e.args s e.v s
theorem memo_ok : ∀ (l : List Ent), (∀ e ∈ l, DoesE E σ e) → HookOk E σ (memo l) := by
  intro l
  induction l with
  | nil => intro _ f args s r v s' h; cases h
  | cons e l ih =>
    intro hl f args s r v s' h hr
    simp only [memo] at h
    split at h
    · rename_i hc
      simp only [Bool.and_eq_true, Nat.beq_eq] at hc
      obtain ⟨⟨h1, h2⟩, h3⟩ := hc
      have h2 := vEqs_sound _ _ h2
      have h3 := stEq_sound h3
      subst h1; subst h2; subst h3
      cases h; cases hr
      exact hl e (by simp)
    · exact ih (fun x hx => hl x (by simp [hx])) f args s r v s' h hr
theorem pures_ok : ∀ (l : List Pur), (∀ e ∈ l, DoesP E σ e) → HookOk E σ (pures l) := by
  intro l
  induction l with
  | nil => intro _ f args s r v s' h; cases h
  | cons e l ih =>
    intro hl f args s r v s' h hr
    simp only [pures] at h
    split at h
    · rename_i hc
      simp only [Bool.and_eq_true, Nat.beq_eq] at hc
      obtain ⟨h1, h2⟩ := hc
      have h2 := vEqs_sound _ _ h2
      subst h1; subst h2
      cases h; cases hr
      exact hl e (by simp) _
    · exact ih (fun x hx => hl x (by simp [hx])) f args s r v s' h hr
theorem both_ok {a b : Hook} (ha : HookOk E σ a) (hb : HookOk E σ b) : HookOk E σ (both a b) := by
  intro f args s r v s' h hr
  unfold both at h
  split at h
  · rename_i q hq; cases h; exact ha f args s _ v s' hq hr
  · exact hb f args s r v s' h hr
def noHook : Hook := fun _ _ _ => none
theorem noHook_ok : HookOk E σ noHook := by intro f args s r v s' h; cases h
theorem pure_of {f : Nat} {args : List V} {v : V} {s1 : St} (h : Does E σ f args ⟨.e, 0, 0⟩ v s1) (ha : belows 0 args = true) (hv : below 0 v = true) : DoesP E σ ⟨f, args, v⟩ := by
  intro s ρ W us hs hus
  have hg : ∀ id, (⟨.e, 0, 0⟩ : St).heap.get id = none := fun _ => rfl
  have h0 : Sim σ (fun _ => none) ⟨.e, 0, 0⟩ W := {
    blk := fun id x hx => by rw [hg] at hx; cases hx
    inj := fun i j b n m hi => by rw [hg] at hi; cases hi
    dom := fun _ _ => rfl
    old := fun id b n hr => by cases hr }
  have hus0 : VRs σ (fun _ => none) args us := VRs.congr 0 (fun id hid => by omega) _ _ ha hus
  obtain ⟨h1, h2⟩ := h (fun _ => none) W us h0 hus0
  refine ⟨h1, h2.mono ?_⟩
  rintro e w' ⟨ρ', u, rfl, k1, k2⟩
  refine ⟨ρ, u, rfl, VR.congr 0 (fun id hid => by omega) _ _ hv k1, ?_⟩
  have hfr : ∀ j, j < W.heap.size → w'.heap[j]? = W.heap[j]? := fun j hj => k2.frame j hj (fun id n hid => by rw [hg] at hid; cases hid)
  refine ⟨⟨fun id x hx => ?_, hs.inj, hs.dom, fun id b n hr => Nat.lt_of_lt_of_le (hs.old id b n hr) k2.size⟩, fun _ _ => rfl, Nat.le_refl _, k2.size, fun j hj _ => hfr j hj, fun id b n h1 h2 _ => ⟨id, h1, h2⟩, Nat.le_refl _, fun _ _ _ => rfl, k2.os, k2.tape, k2.output⟩
  obtain ⟨b, n, o, a1, a2, a3⟩ := hs.blk id x hx
  exact ⟨b, n, o, a1, by rw [hfr b (hs.old id b n a1)]; exact a2, a3⟩
def drops : List Nat → St → St
  | [], s => s
  | i :: l, s => drops l (s.set i none)
theorem drops_stp {ρ0 ρ : Rho} {s0 : St} {W0 W : World} : ∀ (l : List Nat) (s : St), Stp σ ρ0 s0 W0 ρ s W → Stp σ ρ0 s0 W0 ρ (drops l s) W := by
  intro l
  induction l with
  | nil => intro s h; exact h
  | cons i l ih => intro s h; exact ih _ (h.trans (Stp.drop h.sim i))
theorem Does.drops {f : Nat} {args : List V} {s s' : St} {v : V} (h : Does E σ f args s v s') (l : List Nat) : Does E σ f args s v (drops l s') := by
  intro ρ W us hs hus
  obtain ⟨h1, h2⟩ := h ρ W us hs hus
  refine ⟨h1, h2.mono ?_⟩
  rintro e w' ⟨ρ', u, rfl, k1, k2⟩
  exact ⟨ρ', u, rfl, k1, drops_stp l s' k2⟩
theorem Does.of {f : Nat} {args : List V} {s s' s2 : St} {v : V} (h : Does E σ f args s v s') (l : List Nat) (e : Ev.drops l s' = s2) : Does E σ f args s v s2 := e ▸ h.drops l
end hooks
end
end Go.Proofs.YtnpkeganpkobjaaGreatDoor.Ev
