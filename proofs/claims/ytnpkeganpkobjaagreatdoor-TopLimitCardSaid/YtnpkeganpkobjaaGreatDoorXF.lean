import Derived.Test.YtnpkeganpkobjaaGreatDoorXE
set_option linter.all false
namespace Go.Proofs.YtnpkeganpkobjaaGreatDoor.Ev
open Go Go.RowKit
noncomputable section
mutual
theorem vEq_sound : ∀ (a b : V), vEq a b = true → a = b
  | .undef, b, h => by cases b <;> simp_all [vEq]
  | .any, b, h => by cases b <;> simp_all [vEq]
  | .iany k, b, h => by cases b <;> simp_all [vEq]
  | .nan, b, h => by cases b <;> simp_all [vEq]
  | .bool x, b, h => by cases b <;> simp_all [vEq]
  | .int k x, b, h => by cases b <;> simp_all [vEq]
  | .sint k x, b, h => by cases b <;> simp_all [vEq]
  | .flt x, b, h => by cases b <;> simp_all [vEq]
  | .sflt x, b, h => by cases b <;> simp_all [vEq]
  | .str x, b, h => by cases b <;> simp_all [vEq]
  | .nilp, b, h => by cases b <;> simp_all [vEq]
  | .ptr x y, b, h => by cases b <;> simp_all [vEq]
  | .nils, b, h => by cases b <;> simp_all [vEq]
  | .slz, b, h => by cases b <;> simp_all [vEq]
  | .sl x y z w, b, h => by cases b <;> simp_all [vEq]
  | .nilm, b, h => by cases b <;> simp_all [vEq]
  | .map x, b, h => by cases b <;> simp_all [vEq]
  | .nilf, b, h => by cases b <;> simp_all [vEq]
  | .fn x l, b, h => by
    cases b <;> simp only [vEq] at h <;> try (cases h; done)
    simp only [Bool.and_eq_true] at h
    rw [vEqs_sound _ _ h.2]
    simp_all
  | .nili, b, h => by cases b <;> simp_all [vEq]
  | .ifc x l, b, h => by
    cases b <;> simp only [vEq] at h <;> try (cases h; done)
    simp only [Bool.and_eq_true] at h
    rw [vEq_sound _ _ h.2]
    simp_all
  | .agg l, b, h => by
    cases b <;> simp only [vEq] at h <;> try (cases h; done)
    rw [vEqs_sound _ _ h]
  | .tup l, b, h => by
    cases b <;> simp only [vEq] at h <;> try (cases h; done)
    rw [vEqs_sound _ _ h]
theorem vEqs_sound : ∀ (a b : List V), vEqs a b = true → a = b
  | [], b, h => by cases b <;> simp_all [vEqs]
  | x :: l, b, h => by
    cases b <;> simp only [vEqs] at h <;> try (cases h; done)
    simp only [Bool.and_eq_true] at h
    rw [vEq_sound _ _ h.1, vEqs_sound _ _ h.2]
end
theorem testBit_lor (a b j : Nat) : Nat.testBit (Nat.lor a b) j = (Nat.testBit a j || Nat.testBit b j) := Nat.testBit_or a b j
theorem maskOf_bit {ms : List Nat} {j : Nat} : ∀ (ds : List Nat) (m : Nat), Nat.testBit (maskOf ms ds m) j = true → Nat.testBit m j = true ∨ ∃ d ∈ ds, j = d ∨ Nat.testBit ((lget ms d).getD 0) j = true := by
  intro ds
  induction ds with
  | nil => intro m h; exact .inl h
  | cons d ds ih =>
    intro m h
    simp only [maskOf] at h
    rcases ih _ h with h | ⟨d', h1, h2⟩
    · rw [testBit_lor, testBit_lor, Bool.or_eq_true, Bool.or_eq_true] at h
      rcases h with (h | h) | h
      · exact .inl h
      · refine .inr ⟨d, by simp, .inl ?_⟩
        rw [Nat.testBit_two_pow] at h
        simp only [decide_eq_true_eq] at h
        exact h.symm
      · exact .inr ⟨d, by simp, .inr h⟩
    · exact .inr ⟨d', by simp [h1], h2⟩
theorem masks_spec : ∀ (l : List Oper) (ms0 : List Nat), (masks l ms0).length = ms0.length + l.length ∧ (∀ d, d < ms0.length → (masks l ms0)[d]? = ms0[d]?) ∧
    ∀ i o, l[i]? = some o → ∃ m, (masks l ms0)[ms0.length + i]? = some m ∧ ((∀ d ∈ deps o, d < ms0.length + i) → ∀ j, Nat.testBit m j = true → ∃ d ∈ deps o, j = d ∨ Nat.testBit (((masks l ms0)[d]?).getD 0) j = true) := by
  intro l
  induction l with
  | nil => intro ms0; exact ⟨by simp [masks], fun d _ => rfl, fun i o h => by simp at h⟩
  | cons o l ih =>
    intro ms0
    simp only [masks]
    obtain ⟨h1, h2, h3⟩ := ih (ms0 ++ [maskOf ms0 (deps o) 0])
    refine ⟨by rw [h1]; simp; omega, fun d hd => ?_, fun i q hi => ?_⟩
    · rw [h2 d (by simp; omega), List.getElem?_append_left hd]
    · cases i with
      | zero =>
        simp at hi; subst hi
        refine ⟨maskOf ms0 (deps o) 0, ?_, fun hd j hj => ?_⟩
        · rw [Nat.add_zero, h2 _ (by simp)]; simp
        · rcases maskOf_bit _ _ hj with h | ⟨d, k1, k2⟩
          · simp at h
          · refine ⟨d, k1, ?_⟩
            have hlt := hd d k1
            rw [Nat.add_zero] at hlt
            rw [h2 d (by simp; omega), List.getElem?_append_left hlt, ← lget_eq]
            exact k2
      | succ i =>
        obtain ⟨m, k1, k2⟩ := h3 i q (by simpa using hi)
        refine ⟨m, by rw [← k1]; congr 1; simp; omega, fun hd j hj => k2 (fun d hd' => by have := hd d hd'; simp; omega) j hj⟩
theorem depsOk_spec : ∀ (l : List Oper) (k : Nat), depsOk l k = true → ∀ i o, l[i]? = some o → ∀ d ∈ deps o, d < k + i := by
  intro l
  induction l with
  | nil => intro k _ i o h; simp at h
  | cons o l ih =>
    intro k h i q hi d hd
    simp only [depsOk, Bool.and_eq_true, List.all_eq_true] at h
    cases i with
    | zero => simp at hi; subst hi; have := h.1 d hd; rw [Nat.blt_eq] at this; omega
    | succ i => have := ih (k + 1) h.2 i q (by simpa using hi) d hd; omega
structure Stat (all : List Oper) (ms : List Nat) : Prop where
  len : ms.length = all.length
  low : ∀ (i : Nat) (o : Oper), all[i]? = some o → ∀ d ∈ deps o, d < i
  bit : ∀ (i : Nat) (o : Oper), all[i]? = some o → ∀ (j : Nat), Nat.testBit ((ms[i]?).getD 0) j = true → ∃ d ∈ deps o, j = d ∨ Nat.testBit ((ms[d]?).getD 0) j = true
  reads : ∀ (i : Nat) (o : Oper), all[i]? = some o → ∀ t ∈ Ev.reads all o, ∀ (j : Nat) (p : Oper), all[j]? = some p → p.dst = some t → Nat.testBit ((ms[i]?).getD 0) j = true ∨ Nat.testBit ((ms[j]?).getD 0) i = true
  alone : ∀ (i : Nat) (o : Oper), all[i]? = some o → ∀ t, o.dst = some t → ∀ (j : Nat) (p : Oper), all[j]? = some p → p.dst = some t → i = j
theorem dstAt_eq {all : List Oper} {i : Nat} {o : Oper} (h : all[i]? = some o) : dstAt all i = o.dst := by unfold dstAt; rw [lget_eq, h]
theorem stat_of {all : List Oper} (h : statOk all (masks all []) = true) : Stat all (masks all []) := by
  simp only [statOk, Bool.and_eq_true, List.all_eq_true, List.mem_range] at h
  obtain ⟨⟨h1, h2⟩, h3⟩ := h
  obtain ⟨m1, m2, m3⟩ := masks_spec all []
  have hlow : ∀ i o, all[i]? = some o → ∀ d ∈ deps o, d < i := by
    intro i o hi d hd
    have := depsOk_spec all 0 h1 i o hi d hd; omega
  have hlt : ∀ i o, all[i]? = some o → i < llen all := by
    intro i o hi; rw [llen_eq]; exact (List.getElem?_eq_some_iff.1 hi).1
  refine ⟨by simpa using m1, hlow, ?_, ?_, ?_⟩
  · intro i o hi j hj
    obtain ⟨m, k1, k2⟩ := m3 i o hi
    have k1 : (masks all [])[i]? = some m := by simpa using k1
    rw [k1] at hj
    exact k2 (fun d hd => by have := hlow i o hi d hd; simpa using this) j hj
  · intro i o hi t ht j p hj hp
    have := (h3 i (hlt i o hi)).1
    unfold readsOk at this
    rw [lget_eq, hi] at this
    simp only [List.all_eq_true] at this
    have := this t ht
    unfold writesOk at this
    simp only [List.all_eq_true, List.mem_range] at this
    have := this j (hlt j p hj)
    rw [dstAt_eq hj, hp] at this
    simp only [beq_self_eq_true, Bool.or_eq_true] at this
    rw [lget_eq, lget_eq] at this
    exact this
  · intro i o hi t ht j p hj hp
    have := (h3 i (hlt i o hi)).2
    unfold aloneOk at this
    rw [dstAt_eq hi, ht] at this
    simp only [List.all_eq_true, List.mem_range] at this
    have := this j (hlt j p hj)
    rw [dstAt_eq hj, hp] at this
    simp only [beq_self_eq_true] at this
    rw [Nat.beq_eq] at this
    exact this
theorem Stat.lt {all : List Oper} {ms : List Nat} (h : Stat all ms) : ∀ i j, Nat.testBit ((ms[i]?).getD 0) j = true → j < i := by
  intro i
  induction i using Nat.strongRecOn with
  | _ i ih =>
    intro j hj
    cases ho : all[i]? with
    | none =>
      have : ms[i]? = none := by
        rw [List.getElem?_eq_none_iff] at ho ⊢; rw [h.len]; exact ho
      rw [this] at hj; simp at hj
    | some o =>
      obtain ⟨d, h1, h2⟩ := h.bit i o ho j hj
      have hd := h.low i o ho d h1
      rcases h2 with rfl | h2
      · exact hd
      · have := ih d hd j h2; omega
theorem Stat.down {all : List Oper} {ms : List Nat} (h : Stat all ms) {L : Nat → Prop} (hL : ∀ i o, all[i]? = some o → L i → ∀ d ∈ deps o, L d) : ∀ i j, L i → Nat.testBit ((ms[i]?).getD 0) j = true → L j := by
  intro i
  induction i using Nat.strongRecOn with
  | _ i ih =>
    intro j hi hj
    cases ho : all[i]? with
    | none =>
      have : ms[i]? = none := by
        rw [List.getElem?_eq_none_iff] at ho ⊢; rw [h.len]; exact ho
      rw [this] at hj; simp at hj
    | some o =>
      obtain ⟨d, h1, h2⟩ := h.bit i o ho j hj
      have hd := h.low i o ho d h1
      have hl := hL i o ho hi d h1
      rcases h2 with rfl | h2
      · exact hl
      · exact ih d hd j hl h2
theorem Stat.downR {all : List Oper} {ms : List Nat} (h : Stat all ms) {L : Nat → Prop} (hL : ∀ i o, all[i]? = some o → L i → ∀ d ∈ deps o, L d) {i : Nat} {o : Oper} (ho : all[i]? = some o) (hi : ∀ d ∈ deps o, L d) {j : Nat} (hj : Nat.testBit ((ms[i]?).getD 0) j = true) : L j := by
  obtain ⟨d, h1, h2⟩ := h.bit i o ho j hj
  rcases h2 with rfl | h2
  · exact hi _ h1
  · exact h.down hL d j (hi d h1) h2
def fAt : F → List Rc → Nat → F
  | f, _, 0 => f
  | f, [], _ + 1 => f
  | f, c :: l, i + 1 => fAt (putD f c.o.dst c.w.v) l i
def turnTo (s : St) (c : Rc) : St := match c.w.to with | some s' => s' | none => s
def stAt : St → List Rc → Nat → St
  | s, _, 0 => s
  | s, [], _ + 1 => s
  | s, c :: l, i + 1 => stAt (turnTo s c) l i
def stagesL : St → List Rc → List St
  | s, [] => [s]
  | s, c :: l => match c.w.to with
    | some s' => s :: stagesL s' l
    | none => stagesL s l
def tn (c : Rc) : Nat := match c.w.to with | some _ => 1 | none => 0
def tb : List Rc → Nat → Nat
  | _, 0 => 0
  | [], _ + 1 => 0
  | c :: l, i + 1 => tn c + tb l i
theorem tn_some {c : Rc} {s : St} (h : c.w.to = some s) : tn c = 1 := by simp [tn, h]
theorem tn_none {c : Rc} (h : c.w.to = none) : tn c = 0 := by simp [tn, h]
theorem tb_zero (l : List Rc) : tb l 0 = 0 := by cases l <;> rfl
theorem stAt_zero (s : St) (l : List Rc) : stAt s l 0 = s := by cases l <;> rfl
theorem fAt_zero (f : F) (l : List Rc) : fAt f l 0 = f := by cases l <;> rfl
theorem cons3_some {c : Rc} {o : Option (F × List Rc × List St)} {q : F × List Rc × List St} (h : cons3 c o = some q) : ∃ p, o = some p ∧ q = (p.1, c :: p.2.1, p.2.2) := by
  unfold cons3 at h; split at h
  · cases h; exact ⟨_, rfl, rfl⟩
  · cases h
theorem passD_spec {E : Env} {call : Call} {all : List Oper} : ∀ (l : List Oper) (f : F) (s : St) (ss : List St) (q : F × List Rc × List St), passD E call all l f s ss = some q →
    q.2.1.length = l.length ∧ q.1 = fAt f q.2.1 q.2.1.length ∧ q.2.2.reverse = ss.reverse ++ stagesL s q.2.1 ∧
    ∀ i c, q.2.1[i]? = some c → l[i]? = some c.o ∧ c.f = fAt f q.2.1 i ∧ stepW E call all c.o c.f (stAt s q.2.1 i) = some c.w := by
  intro l
  induction l with
  | nil => intro f s ss q h; simp only [passD, Option.some.injEq] at h; subst h; exact ⟨rfl, rfl, by simp [stagesL], fun i c h => by simp at h⟩
  | cons o l ih =>
    intro f s ss q h
    simp only [passD] at h
    split at h
    · rename_i w hw
      obtain ⟨p, hp, rfl⟩ := cons3_some h
      have key : ∀ s' ss', passD E call all l (putD f o.dst w.v) s' ss' = some p → turnTo s ⟨o, f, w⟩ = s' → ss'.reverse ++ stagesL s' p.2.1 = ss.reverse ++ stagesL s (⟨o, f, w⟩ :: p.2.1) → _ := fun s' ss' h1 h2 h3 => by
        obtain ⟨k1, k2, k3, k4⟩ := ih _ _ _ _ h1
        refine (⟨by simp [k1], by simp [k2, fAt], by rw [k3, h3], fun i c hi => ?_⟩ : (⟨o, f, w⟩ :: p.2.1 : List Rc).length = (o :: l).length ∧ p.1 = fAt f (⟨o, f, w⟩ :: p.2.1) (⟨o, f, w⟩ :: p.2.1 : List Rc).length ∧ p.2.2.reverse = ss.reverse ++ stagesL s (⟨o, f, w⟩ :: p.2.1) ∧ ∀ i c, (⟨o, f, w⟩ :: p.2.1 : List Rc)[i]? = some c → (o :: l)[i]? = some c.o ∧ c.f = fAt f (⟨o, f, w⟩ :: p.2.1) i ∧ stepW E call all c.o c.f (stAt s (⟨o, f, w⟩ :: p.2.1) i) = some c.w)
        cases i with
        | zero => simp at hi; subst hi; exact ⟨by simp, rfl, hw⟩
        | succ i =>
          obtain ⟨a1, a2, a3⟩ := k4 i c (by simpa using hi)
          refine ⟨by simpa using a1, a2, ?_⟩
          show stepW E call all c.o c.f (stAt (turnTo s ⟨o, f, w⟩) p.2.1 i) = some c.w
          rw [h2]; exact a3
      split at hp
      · rename_i s' hto
        exact key s' (s :: ss) hp (by simp [turnTo, hto]) (by simp [stagesL, hto])
      · rename_i hto
        exact key s ss hp (by simp [turnTo, hto]) (by simp [stagesL, hto])
    · cases h
theorem fAt_succ : ∀ (rcs : List Rc) (f : F) (i : Nat) (c : Rc), rcs[i]? = some c → fAt f rcs (i + 1) = putD (fAt f rcs i) c.o.dst c.w.v := by
  intro rcs
  induction rcs with
  | nil => intro f i c h; simp at h
  | cons d rcs ih =>
    intro f i c h
    cases i with
    | zero => simp at h; subst h; simp only [fAt]
    | succ i => exact ih _ i c (by simpa using h)
theorem fAt_get (rcs : List Rc) (f : F) : ∀ (i : Nat), i ≤ rcs.length → ∀ t v, (fAt f rcs i).get t = some v → (f.get t).isSome ∧ ((∃ j c, j < i ∧ rcs[j]? = some c ∧ c.o.dst = some t ∧ v = c.w.v) ∨ (f.get t = some v ∧ ∀ j c, j < i → rcs[j]? = some c → c.o.dst ≠ some t)) := by
  intro i
  induction i with
  | zero => intro _ t v h; rw [fAt_zero] at h
            exact ⟨by rw [h]; rfl, .inr ⟨h, fun j c hj => by omega⟩⟩
  | succ i ih =>
    intro hi t v h
    have hc : rcs[i]? = some rcs[i] := List.getElem?_eq_getElem (by omega)
    rw [fAt_succ rcs f i _ hc] at h
    cases hd : (rcs[i]).o.dst with
    | none =>
      rw [hd] at h
      obtain ⟨h1, h2⟩ := ih (by omega) t v h
      refine ⟨h1, ?_⟩
      rcases h2 with ⟨j, c, a1, a2, a3, a4⟩ | ⟨a1, a2⟩
      · exact .inl ⟨j, c, by omega, a2, a3, a4⟩
      · refine .inr ⟨a1, fun j c hj hcj => ?_⟩
        by_cases e : j = i
        · subst e; rw [hc] at hcj; cases hcj; rw [hd]; simp
        · exact a2 j c (by omega) hcj
    | some d =>
      rw [hd] at h
      have h : ((fAt f rcs i).set d (some (rcs[i]).w.v)).get t = some v := h
      by_cases e : t = d
      · subst e
        obtain ⟨v0, hv0⟩ := Option.isSome_iff_exists.1 (T.get_set_dom _ _ _ _ h)
        obtain ⟨h1, _⟩ := ih (by omega) t v0 hv0
        have := T.get_set _ _ _ _ h
        cases this
        exact ⟨h1, .inl ⟨i, _, by omega, hc, hd, rfl⟩⟩
      · rw [T.get_set_ne _ _ _ _ e] at h
        obtain ⟨h1, h2⟩ := ih (by omega) t v h
        refine ⟨h1, ?_⟩
        rcases h2 with ⟨j, c, a1, a2, a3, a4⟩ | ⟨a1, a2⟩
        · exact .inl ⟨j, c, by omega, a2, a3, a4⟩
        · refine .inr ⟨a1, fun j c hj hcj => ?_⟩
          by_cases e2 : j = i
          · subst e2; rw [hc] at hcj; cases hcj; rw [hd]; simp; exact fun q => e q.symm
          · exact a2 j c (by omega) hcj
theorem stages_at : ∀ (rcs : List Rc) (s : St) (i : Nat), i ≤ rcs.length → (stagesL s rcs)[tb rcs i]? = some (stAt s rcs i) := by
  intro rcs
  induction rcs with
  | nil => intro s i hi; have : i = 0 := by simpa using hi
           subst this; rfl
  | cons c rcs ih =>
    intro s i hi
    cases hto : c.w.to with
    | some s' =>
      cases i with
      | zero => simp only [tb, stAt, stagesL, hto]; rfl
      | succ i =>
        simp only [tb, stAt, stagesL, turnTo, hto, tn_some hto]
        rw [Nat.add_comm]; simp only [List.getElem?_cons_succ]
        exact ih s' i (by simpa using hi)
    | none =>
      cases i with
      | zero =>
        have := ih s 0 (Nat.zero_le _)
        rw [tb_zero, stAt_zero] at this
        simp only [tb, stAt, stagesL, hto]; exact this
      | succ i =>
        simp only [tb, stAt, stagesL, turnTo, hto, tn_none hto, Nat.zero_add]
        exact ih s i (by simpa using hi)
theorem turns_spec : ∀ (rcs : List Rc) (k : Nat), (turns rcs k).length = tb rcs rcs.length ∧ ∀ i c s', rcs[i]? = some c → c.w.to = some s' → (turns rcs k)[tb rcs i]? = some (k + i) ∧ tb rcs (i + 1) = tb rcs i + 1 := by
  intro rcs
  induction rcs with
  | nil => intro k; exact ⟨rfl, fun i c s' h => by simp at h⟩
  | cons d rcs ih =>
    intro k
    obtain ⟨h1, h2⟩ := ih (k + 1)
    cases hd : d.w.to with
    | some sd =>
      refine ⟨by simp only [turns, List.length_cons, tb, hd, tn_some hd, h1]; omega, fun i c s' hi hto => ?_⟩
      cases i with
      | zero => simp only [turns, tb, hd, tn_some hd, tb_zero]; exact ⟨rfl, trivial⟩
      | succ i =>
        obtain ⟨a1, a2⟩ := h2 i c s' (by simpa using hi) hto
        simp only [turns, tb, hd, tn_some hd] at a2 ⊢
        refine ⟨?_, by omega⟩
        rw [Nat.add_comm 1]; simp only [List.getElem?_cons_succ]; rw [a1]; congr 1; omega
    | none =>
      refine ⟨by simp only [turns, List.length_cons, tb, hd, tn_none hd, h1]; omega, fun i c s' hi hto => ?_⟩
      cases i with
      | zero => simp at hi; subst hi; rw [hd] at hto; cases hto
      | succ i =>
        obtain ⟨a1, a2⟩ := h2 i c s' (by simpa using hi) hto
        simp only [turns, tb, hd, tn_none hd, Nat.zero_add] at a2 ⊢
        refine ⟨?_, by omega⟩
        rw [a1]; congr 1; omega
theorem stagesL_len : ∀ (rcs : List Rc) (s : St), (stagesL s rcs).length = tb rcs rcs.length + 1 := by
  intro rcs
  induction rcs with
  | nil => intro s; rfl
  | cons c rcs ih =>
    intro s
    cases hd : c.w.to with
    | some sd => simp only [stagesL, List.length_cons, tb, hd, tn_some hd, ih]; omega
    | none => simp only [stagesL, List.length_cons, tb, hd, tn_none hd, ih]; omega
theorem hasAll_iff {m : Nat} {l : List Nat} : hasAll m l = true ↔ ∀ e ∈ l, Nat.testBit m e = true := by
  induction l with
  | nil => simp [hasAll]
  | cons e l ih =>
    simp only [hasAll, List.mem_cons, forall_eq_or_imp]
    cases h : Nat.testBit m e with
    | true => simp [ih]
    | false => simp
theorem hasNone_iff {m : Nat} {l : List Nat} : hasNone m l = true ↔ ∀ e ∈ l, Nat.testBit m e = false := by
  induction l with
  | nil => simp [hasNone]
  | cons e l ih =>
    simp only [hasNone, List.mem_cons, forall_eq_or_imp]
    cases h : Nat.testBit m e with
    | true => simp
    | false => simp [ih]
theorem noneHas_iff {ms : List Nat} {i : Nat} {l : List Nat} : noneHas ms i l = true ↔ ∀ e ∈ l, Nat.testBit ((ms[e]?).getD 0) i = false := by
  induction l with
  | nil => simp [noneHas]
  | cons e l ih =>
    simp only [noneHas, List.mem_cons, forall_eq_or_imp, lget_eq]
    cases h : Nat.testBit ((ms[e]?).getD 0) i with
    | true => simp
    | false => simp [ih]
theorem chain_spec {all : List Oper} {ms : List Nat} : ∀ (l old : List Nat), chainOk all ms old l = true → ∀ q e, l[q]? = some e → floats all e = false → ∀ x ∈ old ++ l.take q, Nat.testBit ((ms[e]?).getD 0) x = true := by
  intro l
  induction l with
  | nil => intro old _ q e h; simp at h
  | cons d l ih =>
    intro old h q e hq hf x hx
    simp only [chainOk, lget_eq] at h
    split at h
    · rename_i ha
      cases q with
      | zero =>
        simp at hq; subst hq
        rw [hf, Bool.false_or] at ha
        exact hasAll_iff.1 ha x (by simpa using hx)
      | succ q =>
        refine ih (old ++ [d]) h q e (by simpa using hq) hf x ?_
        simpa using hx
    · cases h
theorem air_spec {all : List Oper} {m : Nat} : ∀ (l old : List Nat), airOk all m old l = true → ∀ q e, l[q]? = some e → floats all e = true → Nat.testBit m e = true → ∀ x ∈ old ++ l.take q, Nat.testBit m x = true := by
  intro l
  induction l with
  | nil => intro old _ q e h; simp at h
  | cons d l ih =>
    intro old h q e hq hf hm x hx
    simp only [airOk] at h
    cases q with
    | zero =>
      simp at hq; subst hq
      rw [hf, hm] at h
      simp only [Bool.and_self] at h
      split at h
      · rename_i ha; exact hasAll_iff.1 ha x (by simpa using hx)
      · cases h
    | succ q =>
      refine ih (old ++ [d]) ?_ q e (by simpa using hq) hf hm x (by simpa using hx)
      split at h
      · split at h
        · exact h
        · cases h
      · exact h
def nxt : Option Nat → Option Nat
  | some (k + 1) => some k
  | _ => none
theorem stagesOk_spec {E : Env} {call : Call} {all : List Oper} {ms : List Nat} {i : Nat} {c : Rc} : ∀ (ss : List St) (k0 : Option Nat) (ahead es : List Nat), stagesOk E call all ms i c k0 ahead es ss = true → ∀ (k : Nat) (S : St), ss[k]? = some S → k0 ≠ some k →
    (∀ e ∈ ahead ++ es.take k, Nat.testBit ((ms[e]?).getD 0) i = false) → (∀ e ∈ es.drop k, Nat.testBit ((ms[i]?).getD 0) e = false) → asWas c.w.v (stepW E call all c.o c.f S) = true := by
  intro ss
  induction ss with
  | nil => intro k0 ahead es _ k S h; simp at h
  | cons s ss ih =>
    intro k0 ahead es h k S hS hk0
    have hrec : stagesOk E call all ms i c (nxt k0) (ahead ++ es.take 1) es.tail ss = true := by
      cases es with
      | nil =>
        rw [show ahead ++ List.take 1 ([] : List Nat) = ahead by simp]
        cases k0 with
        | none =>
          simp only [stagesOk] at h
          split at h
          · split at h
            · exact h
            · cases h
          · exact h
        | some k0 =>
          cases k0 with
          | zero => simp only [stagesOk] at h; exact h
          | succ k0 =>
            simp only [stagesOk] at h
            split at h
            · split at h
              · exact h
              · cases h
            · exact h
      | cons e es =>
        rw [show ahead ++ List.take 1 (e :: es) = ahead ++ [e] by simp]
        cases k0 with
        | none =>
          simp only [stagesOk] at h
          split at h
          · split at h
            · exact h
            · cases h
          · exact h
        | some k0 =>
          cases k0 with
          | zero => simp only [stagesOk] at h; exact h
          | succ k0 =>
            simp only [stagesOk] at h
            split at h
            · split at h
              · exact h
              · cases h
            · exact h
    intro h1 h2
    cases k with
    | zero =>
      simp at hS; subst hS
      have hc : (noneHas ms i ahead && hasNone ((lget ms i).getD 0) es) = true := by
        rw [Bool.and_eq_true, noneHas_iff, hasNone_iff, lget_eq]
        exact ⟨by simpa using h1, by simpa using h2⟩
      cases k0 with
      | none =>
        simp only [stagesOk] at h
        rw [hc] at h
        simp only at h
        split at h
        · assumption
        · cases h
      | some k0 =>
        cases k0 with
        | zero => exact absurd rfl hk0
        | succ k0 =>
          simp only [stagesOk] at h
          rw [hc] at h
          simp only at h
          split at h
          · assumption
          · cases h
    | succ k =>
      refine ih _ _ _ hrec k S (by simpa using hS) ?_ ?_ ?_
      · cases k0 with
        | none => simp [nxt]
        | some k0 =>
          cases k0 with
          | zero => simp [nxt]
          | succ k0 => simp only [nxt, ne_eq, Option.some.injEq] at hk0 ⊢; omega
      · cases es with
        | nil => simpa using h1
        | cons e es => simpa using h1
      · cases es with
        | nil => simp
        | cons e es => simpa using h2
theorem looks_spec {E : Env} {call : Call} {all : List Oper} {ms es : List Nat} {ss : List St} : ∀ (rcs : List Rc) (k n : Nat), looksOk E call all ms es ss rcs k n = true → ∀ i c, rcs[i]? = some c → c.w.to = none → stagesOk E call all ms (k + i) c (some (n + tb rcs i)) [] es ss = true ∧ airOk all ((ms[k + i]?).getD 0) [] es = true := by
  intro rcs
  induction rcs with
  | nil => intro k n _ i c h; simp at h
  | cons d rcs ih =>
    intro k n h i c hi hto
    simp only [looksOk] at h
    cases i with
    | zero =>
      simp at hi; subst hi
      rw [hto] at h
      simp only at h
      split at h
      · rename_i hc
        rw [Bool.and_eq_true, lget_eq] at hc
        exact hc
      · cases h
    | succ i =>
      cases hd : d.w.to with
      | some sd =>
        rw [hd] at h
        have := ih (k + 1) (n + 1) h i c (by simpa using hi) hto
        rw [show k + (i + 1) = k + 1 + i by omega, show n + tb (d :: rcs) (i + 1) = n + 1 + tb rcs i by simp only [tb, tn_some hd]; omega]; exact this
      | none =>
        rw [hd] at h
        simp only at h
        split at h
        · have := ih (k + 1) n h i c (by simpa using hi) hto
          rw [show k + (i + 1) = k + 1 + i by omega, show n + tb (d :: rcs) (i + 1) = n + tb rcs i by simp only [tb, tn_none hd]; omega]; exact this
        · cases h
end
end Go.Proofs.YtnpkeganpkobjaaGreatDoor.Ev
