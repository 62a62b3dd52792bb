import Derived.Test.YtnpkeganpkobjaaGreatDoorXK
import Derived.Laws.IdiomRangeMap
import Derived.Maps.RangeRun
set_option linter.all false
namespace Go.Proofs.YtnpkeganpkobjaaGreatDoor.Ev
set_option maxRecDepth 100000
open Go Go.RowKit
variable {W0 : World}
noncomputable section
theorem Tm.At.unswap {t t' : Tm} {l : List Int} {Q : List Nm} {ρ : Rho} {a : Act} {W : World} (h : t'.At W0 (sgl l) ρ a W) (hq : (swapOk (qf Q) t t' && has (mkH t'.h0 .e) t'.h0) = true) : t.At W0 (sgl (Q.map (Nm.val (sgl l)))) ρ a W := by
  rw [← sgn_qf]
  rw [Bool.and_eq_true (swapOk _ _ _)] at hq
  obtain ⟨hq, q6⟩ := hq
  simp only [swapOk, Bool.and_eq_true, Nat.beq_eq] at hq
  obtain ⟨q1, q2, q3, q4, q5⟩ := hq
  have q6 := has_sound q6
  have fw : ∀ {l r : List (Nat × B)}, swapH (qf Q) l r = true → ∀ x ∈ l, (x.1, renB id (qf Q) x.2) ∈ r := by
    intro l
    induction l with
    | nil => intro r _ x hx; simp at hx
    | cons y l ih =>
      intro r h x hx
      cases r with
      | nil => cases h
      | cons z r =>
        simp only [swapH, Bool.and_eq_true, Nat.beq_eq] at h
        simp only [List.mem_cons] at hx ⊢
        rcases hx with rfl | hx
        · left; rw [bEq_sound h.1.2, h.1.1]
        · exact .inr (ih h.2 x hx)
  have fwF : ∀ {l r : List (Nat × V)}, swapF (qf Q) l r = true → ∀ x ∈ l, (x.1, ren id (qf Q) x.2) ∈ r := by
    intro l
    induction l with
    | nil => intro r _ x hx; simp at hx
    | cons y l ih =>
      intro r h x hx
      cases r with
      | nil => cases h
      | cons z r =>
        simp only [swapF, Bool.and_eq_true, Nat.beq_eq] at h
        simp only [List.mem_cons] at hx ⊢
        rcases hx with rfl | hx
        · left; rw [vEq_sound _ _ h.1.2, h.1.1]
        · exact .inr (ih h.2 x hx)
  have hg : ∀ i b, (mkSt t.h0 t.n0).heap.get i = some b → (mkSt t'.h0 t'.n0).heap.get i = some (renB id (qf Q) b) := fun i b hb => q6 _ (fw q3 _ (mkSt_get hb))
  have hl : ∀ i, ((mkSt t.h0 t.n0).heap.get i).isSome → ((mkSt t'.h0 t'.n0).heap.get i).isSome := by
    intro i hi
    obtain ⟨b, hb⟩ := Option.isSome_iff_exists.1 hi
    rw [hg i b hb]; rfl
  refine ⟨⟨fun i b hb => ?_, fun i j b n m hi hj => h.sim.inj i j b n m (hl i hi) (hl j hj), fun i hi => h.sim.dom i (by have hi : t.n0 ≤ i := hi; show t'.n0 ≤ i; omega), h.sim.old⟩, by rw [q1]; exact h.size, fun x hx => ?_, h.dfr, fun i b n hi hr => h.off i b n (hl i hi) hr, h.kept⟩
  · obtain ⟨bb, n, o, k1, k2, k3⟩ := h.sim.blk i _ (hg i b hb)
    exact ⟨bb, n, o, k1, k2, OR_ren.1 k3⟩
  · exact (VR_ren _ _).1 (h.tmps _ (fwF q4 x hx))
def txts : List (V × V) → Bool
  | [] => true
  | p :: l => (match p.1 with | .str _ => true | _ => false) && (numV p.2 && txts l)
theorem txts_mem : ∀ {l : List (V × V)}, txts l = true → ∀ p ∈ l, (∃ s, p.1 = .str s) ∧ numV p.2 = true := by
  intro l
  induction l with
  | nil => intro _ p hp; simp at hp
  | cons q l ih =>
    intro h p hp
    simp only [txts, Bool.and_eq_true] at h
    simp only [List.mem_cons] at hp
    rcases hp with rfl | hp
    · refine ⟨?_, h.2.1⟩
      have h1 := h.1
      split at h1
      · rename_i s e; exact ⟨s, e⟩
      · cases h1
    · exact ih h.2.2 p hp
def weakH (i : Nat) (h : T B) : List (Nat × B) → Bool
  | [] => true
  | x :: l => (match Nat.beq x.1 i with | true => bEq x.2 .smap | false => oEq (h.get x.1) (some x.2)) && weakH i h l
theorem weakH_mem {i : Nat} {h : T B} : ∀ {l : List (Nat × B)}, weakH i h l = true → ∀ x ∈ l, (x.1 = i ∧ x.2 = .smap) ∨ (x.1 ≠ i ∧ h.get x.1 = some x.2) := by
  intro l
  induction l with
  | nil => intro _ x hx; simp at hx
  | cons y l ih =>
    intro h x hx
    simp only [weakH, Bool.and_eq_true] at h
    simp only [List.mem_cons] at hx
    rcases hx with rfl | hx
    · have h1 := h.1
      split at h1
      · rename_i q; rw [Nat.beq_eq] at q; exact .inl ⟨q, bEq_sound h1⟩
      · rename_i q; exact .inr ⟨(fun e => by rw [e, Nat.beq_refl] at q; cases q), oEq_sound h1⟩
    · exact ih h.2 x hx
theorem Tm.At.smap {t t' : Tm} {σ : Nat → Int} {ρ : Rho} {a : Act} {W : World} (i : Nat) (l : List (V × V)) (h : t'.At W0 σ ρ a W)
    (hq : (Nat.beq t.n t'.n && (Nat.beq t.n0 t'.n0 && (txts l && (oEq ((mkH t'.h0 .e).get i) (some (.map l)) && (weakH i (mkH t'.h0 .e) t.h0 && inF t.f0 t'.f0))))) = true) : t.At W0 σ ρ a W := by
  simp only [Bool.and_eq_true (Nat.beq _ _), Bool.and_eq_true (txts _), Bool.and_eq_true (oEq _ _), Bool.and_eq_true (weakH _ _ _), Nat.beq_eq] at hq
  obtain ⟨q1, q2, q3, q4, q5, q6⟩ := hq
  have q3 := txts_mem q3
  have q4 := oEq_sound q4
  have q5 := weakH_mem q5
  have hl : ∀ j, ((mkSt t.h0 t.n0).heap.get j).isSome → ((mkSt t'.h0 t'.n0).heap.get j).isSome := by
    intro j hj
    obtain ⟨b, hb⟩ := Option.isSome_iff_exists.1 hj
    rcases q5 _ (mkSt_get hb) with ⟨e, _⟩ | ⟨_, e⟩
    · simp only at e; subst e; show ((mkH t'.h0 .e).get j).isSome = true; rw [q4]; rfl
    · show ((mkH t'.h0 .e).get j).isSome = true; rw [e]; rfl
  refine ⟨⟨fun j b hb => ?_, fun j k b n m hi hj => h.sim.inj j k b n m (hl j hi) (hl k hj), fun j hj => h.sim.dom j (by have hj : t.n0 ≤ j := hj; show t'.n0 ≤ j; omega), h.sim.old⟩, by rw [q1]; exact h.size, fun x hx => h.tmps x (inF_mem q6 x hx), h.dfr, fun i b n hi hr => h.off i b n (hl i hi) hr, h.kept⟩
  rcases q5 _ (mkSt_get hb) with ⟨e1, e2⟩ | ⟨_, e⟩
  · simp only at e1 e2
    subst e1; subst e2
    obtain ⟨bb, n, o, k1, k2, k3⟩ := h.sim.blk j _ q4
    refine ⟨bb, n, o, k1, k2, ?_⟩
    obtain ⟨es, ck, rfl, h2, h3⟩ := k3
    refine ⟨es, ck, rfl, fun e he => ?_⟩
    obtain ⟨z, hz, rfl⟩ := List.getElem_of_mem he
    have hz' : z < es.size := by simpa using hz
    obtain ⟨p, hp⟩ : ∃ p, l[z]? = some p := ⟨_, List.getElem?_eq_getElem (by omega)⟩
    obtain ⟨e, he1, he2, he3⟩ := h3 z p hp
    obtain ⟨⟨s, hs⟩, hn⟩ := q3 p (List.mem_of_getElem? hp)
    have : es.toList[z] = e := by
      have := Array.getElem?_eq_getElem hz'
      rw [he1] at this
      simpa using (Option.some.inj this).symm
    rw [this]
    rw [hs] at he2
    obtain ⟨x, _, hx⟩ := he2
    exact ⟨⟨x, hx⟩, numV_VR hn he3.1⟩
  · exact h.sim.blk j b e
def rdE (n : Nat) : Sm := ⟨11, [.sint .i64 0, .int .i64 3], 0, [], .sint .i64 1, n, []⟩
def rdF (c : Bool) : Facts := ⟨[(-9223372036854775808, 9223372036854775807), (0, 2), (-2, 2)], [⟨.rem, .i64, .s 0, .c (3), .s 2⟩, ⟨.add, .i64, .s 2, .c (3), .s 1⟩], [⟨.s 2, .c (0), true⟩], [], [], [], [], []⟩
def rdG : Facts := ⟨[(-9223372036854775808, 9223372036854775807), (0, 2)], [⟨.rem, .i64, .s 0, .c (3), .s 1⟩], [⟨.s 1, .c (0), false⟩], [], [], [], [], []⟩
theorem rdR1 : smOk (rdE 0) (callS (rdF true) [] [] 11 [.sint .i64 0, .int .i64 3] (mkSt [] 0)) = true := by kernel_rfl
theorem rdR2 : smOk (rdE 0) (callS rdG [] [] 11 [.sint .i64 0, .int .i64 3] (mkSt [] 0)) = true := by kernel_rfl
theorem rem_ok {σ : Nat → Int} {a r : Nm} (h : r.val σ = (a.val σ).tmod 3) : FAr.Ok σ ⟨.rem, .i64, a, .c 3, r⟩ := by
  show (match decide ((3 : Int) = 0) with | true => none | false => some (V.int .i64 ((a.val σ).tmod 3))) = _
  rw [show decide ((3 : Int) = 0) = false by decide]
  simp only
  rw [← h]
theorem rd0 (x y : Int) (hx : -9223372036854775808 ≤ x ∧ x ≤ 9223372036854775807) (hy : y = x % 3) : (rdE 0).Ok Tryz.prog (sgl [x, y]) := by
  obtain ⟨z, hz⟩ := ex (x.tmod 3)
  have h0 : z = if 0 ≤ x ∨ 3 ∣ x then x % 3 else x % 3 - 3 := by rw [hz, Int.tmod_eq_emod]; split <;> simp
  rcases (show z < 0 ∨ 0 ≤ z by omega) with c | c
  · have e : z = y - 3 := by split at h0 <;> omega
    exact sm_signs (F := rdF true) (l := [x, y, z]) ⟨gc (gc (gc trivial)), al (rem_ok hz) (al (fA z 3 y) an), al (fT z 0) an, an, an, an, an, an⟩ an an 2 (by simp) rdR1 (by kernel_rfl)
  · have e : z = y := by split at h0 <;> omega
    subst e
    exact sm_signs (F := rdG) (l := [x, z]) ⟨gc (gc trivial), al (rem_ok hz) an, al (fN z 0) an, an, an, an, an, an⟩ an an 2 (by simp) rdR2 (by kernel_rfl)
theorem rd {g : Sg} {σ : Nat → Int} {i j : Nat} (x y : Int) (hx : -9223372036854775808 ≤ x ∧ x ≤ 9223372036854775807 := by omega) (hy : y = x % 3 := by omega) (hi : σ i = x := by rfl) (hj : σ j = y := by rfl) : DoesP (env g) σ ⟨11, [.sint .i64 i, .int .i64 3], .sint .i64 j⟩ := by
  refine pure_sm (E := env g) (n1 := 0) [.s i, .s j] (by rw [sgn_qf, show [Nm.s i, Nm.s j].map (Nm.val σ) = [x, y] by rw [← hi, ← hj]; rfl]; exact rd0 x y hx hy) (by kernel_rfl) (by kernel_rfl) ?_
  have e : qf [Nm.s i, Nm.s j] 0 = .s i := rfl
  have e2 : qf [Nm.s i, Nm.s j] 1 = .s j := rfl
  simp only [rens, ren, e, e2, vEqs, vEq, nmV, Bool.and_eq_true, decide_eq_true_eq, Nat.beq_eq, and_self, and_true, true_and]
end
end Go.Proofs.YtnpkeganpkobjaaGreatDoor.Ev
namespace Go.Proofs.YtnpkeganpkobjaaGreatDoor.Ev
set_option maxRecDepth 100000
open Go Go.RowKit
noncomputable section
theorem put_calls (c x v : Nat) (k : ByteArray) (y : Int) (w : World) {cs : Array Value} {t : TypeId} {fz : Nat × Nat} (hc : w.heap[c]? = some (.cells cs t fz)) (h0 : cs[0]? = some (.int .i64 y)) (hf : ¬ (fz.1 ≤ 0 ∧ 0 < fz.2)) (h : 60 ≤ y) :
    Calls Tryz.prog 330 #[.string k, .int .i64 60, .pointer (some ⟨c, 0, none⟩)] w fun e w' => e = .returned (.bool true) ∧ w' = w := by
  have hcell : w.cell? { block := c, off := 0 } = some (.int .i64 y) := by
    simp [World.cell?, hc, h0, hf]
  have hy : decide ((60 : Int) ≤ y) = true := decide_eq_true h
  go_enter Tryz.func330, Tryz.ntmps330
  go_wp2_with fail
  go_ret
  exact ⟨rfl, rfl⟩
theorem del_calls (b c : Nat) (k : ByteArray) (y : Int) (w : World) {cs : Array Value} {t : TypeId} {fz : Nat × Nat} {e0 : MapEntry} {ck : Nat} (hb : w.heap[b]? = some (.map #[e0] ck)) (he : e0.key = .string k) (hv : e0.val = .int .i64 60) (hk : e0.born < ck)
    (hc : w.heap[c]? = some (.cells cs t fz)) (h0 : cs[0]? = some (.int .i64 y)) (hf : ¬ (fz.1 ≤ 0 ∧ 0 < fz.2)) (h : 60 ≤ y) :
    Calls Tryz.prog 329 #[.map (some b), .func (.func 330) #[] #[.pointer (some ⟨c, 0, none⟩)]] w fun e w' => e = .returned (.tuple #[]) ∧ w'.heap[b]? = some (.map #[] ck) ∧ w.heap.size ≤ w'.heap.size ∧ (∀ j, j < w.heap.size → j ≠ b → w'.heap[j]? = w.heap[j]?) ∧ w'.os = w.os ∧ w'.tape = w.tape ∧ w'.output = w.output := by
  have hbs : b < w.heap.size := (Array.getElem?_eq_some_iff.1 hb).1
  have hrg := run_range_map (P := Tryz.prog) w 113 9 3 b #[e0] ck (by kernel_rfl) hb
  obtain ⟨r, hr⟩ : ∃ r, r = w.heap.size := ⟨_, rfl⟩
  obtain ⟨w1, hw1⟩ : ∃ w1, w1 = w.alloc (.mapIter (some b) ck #[] ck) := ⟨_, rfl⟩
  rw [← hw1, ← hr] at hrg
  have g1 : w1.heap = w.heap.push (.mapIter (some b) ck #[] ck) := by rw [hw1]; rfl
  have g2 : w1.os = w.os ∧ w1.tape = w.tape ∧ w1.output = w.output := by rw [hw1]; exact ⟨rfl, rfl, rfl⟩
  have h1r : w1.heap[r]? = some (.mapIter (some b) ck #[] ck) := by rw [g1, hr]; simp
  have h1b : w1.heap[b]? = some (.map #[e0] ck) := by rw [g1, Array.getElem?_push, if_neg (by omega)]; exact hb
  have hnx : ∃ w2, (Instr.next (.pointer (some ⟨r, 0, none⟩)) false 0).run Tryz.prog w1 = .ok (.tuple #[.bool true, .string k, .int .i64 60]) w2 ∧ w2.heap = w1.heap.setIfInBounds r (.mapIter (some b) ck #[e0.born] ck) ∧ w2.os = w1.os ∧ w2.tape = w1.tape ∧ w2.output = w1.output := by
    rcases run_next_at (P := Tryz.prog) w1 0 r b ck ck #[] #[e0] ck h1r h1b (by simpa using hk) (Nat.le_refl _) with ⟨h2, _⟩ | ⟨e, h2, w2, h3, h4⟩
    · simp [leftOf] at h2
    · have : e = e0 := by simpa [leftOf] using h2
      subst this
      rw [he, hv] at h4
      rcases h3 with h3 | h3
      · rw [h3] at h4; exact ⟨_, h4, rfl, rfl, rfl, rfl⟩
      · rw [h3] at h4; exact ⟨_, h4, rfl, rfl, rfl, rfl⟩
  obtain ⟨w2, n1, n2, n3⟩ := hnx
  have e1 : (leftOf #[] #[e0.born]).size = 0 := by simp [leftOf]
  have h2r : w2.heap[r]? = some (.mapIter (some b) ck #[e0.born] ck) := by
    have : r < w1.heap.size := (Array.getElem?_eq_some_iff.1 h1r).1
    rw [n2]; simp [this]
  have hrb : r ≠ b := by omega
  have h2b : w2.heap[b]? = some (.map #[e0] ck) := by rw [n2, Array.getElem?_setIfInBounds_ne hrb]; exact h1b
  have hen : (Instr.entry (.pointer (some ⟨r, 0, none⟩))).run Tryz.prog w2 = .ok (.tuple #[.string k, .int .i64 60]) w2 := by
    have := run_entry_at (P := Tryz.prog) w2 r b ck #[] #[e0] ck e0 (by simpa using h2r) h2b (by simp) (by simp)
    rw [he, hv] at this
    exact this
  have hcs : c < w.heap.size := (Array.getElem?_eq_some_iff.1 hc).1
  have hcb : c ≠ b := by rintro rfl; rw [hc] at hb; cases hb
  have h2c : w2.heap[c]? = some (.cells cs t fz) := by rw [n2, Array.getElem?_setIfInBounds_ne (by omega), g1, Array.getElem?_push, if_neg (by omega)]; exact hc
  have CL := Apart.mk (put_calls c 0 60 k y w2 h2c h0 hf h)
  obtain ⟨w3, hw3⟩ : ∃ w3, w3 = { w2 with heap := w2.heap.setIfInBounds b (.map #[] ck) } := ⟨_, rfl⟩
  have hdl : (Builtin.delete_ #[113, 9] 0 #[.map (some b), .string k]).run Tryz.prog w2 = .ok (.tuple #[]) w3 := by
    have hg : (getObj b).run Tryz.prog w2 = .ok (.map #[e0] ck) w2 := by simp [getObj, Sem.run, h2b]
    have hset : ∀ o, (setObj b o).run Tryz.prog w2 = .ok () { w2 with heap := w2.heap.setIfInBounds b o } := fun o => by simp [setObj, Sem.run, h2b]
    have hd : Tryz.prog.underlying 113 = some (.map 9 3) := by kernel_rfl
    have hst : Tryz.prog.underlying 9 = some .string := by kernel_rfl
    have k1 : ∀ bb, (Instr.checkKey bb 10000 9 (.string k)).run Tryz.prog w2 = .ok () w2 := fun bb => check_str 9999 hst bb k
    have hkk : (k == k) = true := by
      rw [show (k == k) = (k.data == k.data) by cases k; rfl]
      simp
    have q1 : (Instr.findKey 9 (.string k) [e0]).run Tryz.prog w2 = .ok (some (0, e0.val)) w2 := by simp [Instr.findKey, run_underlying hst, Instr.findNow, he, Instr.sameNow, hkk]
    have q2 : (#[e0] : Array MapEntry).eraseIdxIfInBounds 0 = #[] := by simp [Array.eraseIdxIfInBounds]
    rw [hw3]
    simp [Builtin.delete_, run_underlying hd, hg, k1, q1, q2, hset]
  have h3r : w3.heap[r]? = some (.mapIter (some b) ck #[e0.born] ck) := by rw [hw3]; simp only; rw [Array.getElem?_setIfInBounds_ne (by omega)]; exact h2r
  have h3b : w3.heap[b]? = some (.map #[] ck) := by
    have : b < w2.heap.size := (Array.getElem?_eq_some_iff.1 h2b).1
    rw [hw3]; simp [this]
  have hn2 : (Instr.next (.pointer (some ⟨r, 0, none⟩)) false 0).run Tryz.prog w3 = .ok (.tuple #[.bool false]) w3 := by
    rcases run_next_at (P := Tryz.prog) w3 0 r b ck ck #[e0.born] #[] ck h3r h3b (by simp) (Nat.le_refl _) with ⟨_, h4⟩ | ⟨e, h4, _⟩
    · exact h4
    · simp [leftOf] at h4
  have FIN := Apart.mk (show w3.heap[b]? = some (.map #[] ck) ∧ w.heap.size ≤ w3.heap.size ∧ (∀ j, j < w.heap.size → j ≠ b → w3.heap[j]? = w.heap[j]?) ∧ w3.os = w.os ∧ w3.tape = w.tape ∧ w3.output = w.output from by
    refine ⟨h3b, by rw [hw3]; simp only [Array.size_setIfInBounds]; rw [n2, Array.size_setIfInBounds, g1]; simp, fun j hj hne => ?_, ?_⟩
    · rw [hw3]; simp only; rw [Array.getElem?_setIfInBounds_ne (Ne.symm hne), n2, Array.getElem?_setIfInBounds_ne (by omega), g1, Array.getElem?_push, if_neg (by omega)]
    · rw [hw3]; exact ⟨n3.1.trans g2.1, n3.2.1.trans g2.2.1, n3.2.2.trans g2.2.2⟩)
  clear n2 n3 g1 g2 hw3 h1r h1b h2r h2b h2c h3r h3b hw1 hb hc hcs hbs hr hrb hcb
  go_enter Tryz.func329, Tryz.ntmps329
  go_wp2_with fail
  refine wp_loop_rounds 2 ?_
  rw [rounds_succ]
  go_wp2_with fail
  refine CL.out.mono ?_
  rintro e w' ⟨rfl, rfl⟩
  go_wp2_with fail
  rw [rounds_succ]
  go_wp2_with fail
  go_end0
  exact ⟨rfl, FIN.out⟩
def markK : List Nat := [115, 104, 111, 112, 44, 117, 115, 101, 114, 124, 117, 115, 101, 114, 61, 97, 108, 124, 109, 105, 110, 117, 116, 101, 124, 48]
def del : Sm := ⟨329, [.map 0, .fn 330 [.ptr 1 0]], 2, [(0, .map [(.str markK, .int .i64 60)]), (1, .cells [.sint .i64 0])], .tup [], 2, [(0, .map []), (1, .cells [.sint .i64 0])]⟩
theorem del_ok (x : Int) (h : 60 ≤ x ∧ x ≤ 119 := by omega) : del.Ok Tryz.prog (sgl [x]) := by
  refine ⟨(mkSt del.h0 2).set 0 (some (.map [])), rfl, fun z hz => ?_, fun ρ W us hs hus => ?_⟩
  · simp only [del, List.mem_cons, List.not_mem_nil, or_false] at hz
    rcases hz with rfl | rfl <;> kernel_rfl
  have hg0 : (mkSt del.h0 del.n0).heap.get 0 = some (.map [(.str markK, .int .i64 60)]) := by kernel_rfl
  have hg1 : (mkSt del.h0 del.n0).heap.get 1 = some (.cells [.sint .i64 0]) := by kernel_rfl
  obtain ⟨b, n, o, r0, hb, k1⟩ := hs.blk 0 _ hg0
  obtain ⟨c, m, o2, r1, hc, k2⟩ := hs.blk 1 _ hg1
  obtain ⟨es, ck, rfl, z1, z2⟩ := k1
  have z2 : ∀ (i : Nat) (p : V × V), [(V.str markK, V.int .i64 60)][i]? = some p → ∃ e : MapEntry, es[i]? = some e ∧ VR (sgl [x]) ρ p.1 e.key ∧ VR (sgl [x]) ρ p.2 e.val ∧ e.born < ck := z2
  obtain ⟨cs, t, fz, rfl, z3, z4, z5⟩ := k2
  obtain ⟨e0, q1, q2, q3, q4⟩ := z2 0 _ rfl
  have hes : es = #[e0] := by
    have z1 : es.size = 1 := z1
    apply Array.ext (by simpa using z1)
    intro i i1 i2
    have : i = 0 := by omega
    subst this
    have := Array.getElem?_eq_getElem i1
    rw [q1] at this
    simpa using (Option.some.inj this).symm
  subst hes
  obtain ⟨kk, _, hkk⟩ := q2
  have q3 : e0.val = .int .i64 60 := by simpa [VR] using q3
  obtain ⟨u, w1, w2⟩ := z4 0 _ rfl
  have w2 : u = .int .i64 x := by simpa [VR, sgl, lget] using w2
  subst w2
  have z6 := z5 0 (by have := (Array.getElem?_eq_some_iff.1 w1).1; omega)
  simp only [del, VRs, VR] at hus
  obtain ⟨u1, l1, ⟨b', n', e1, rfl⟩, ⟨u2, l2, ⟨us2, ⟨u3, l3, ⟨c', m', e2, rfl⟩, rfl, rfl⟩, rfl⟩, rfl, rfl⟩, rfl⟩ := hus
  rw [r0] at e1; cases e1
  rw [r1] at e2; cases e2
  refine ⟨call_body Tryz.func329 rfl _ _, (del_calls b c kk x W hb hkk q3 q4 hc w1 z6 h.1).mono ?_⟩
  rintro e w' ⟨rfl, f1, f2, f3, f4⟩
  refine ⟨ρ, _, rfl, ⟨[], rfl, rfl⟩, ?_⟩
  have hbc : c ≠ b := by rintro rfl; rw [hb] at hc; cases hc
  have hl : ∀ id bb, ((mkSt del.h0 2).set 0 (some (.map []))).heap.get id = some bb → (id = 0 ∧ bb = .map []) ∨ (id ≠ 0 ∧ (mkSt del.h0 del.n0).heap.get id = some bb) := by
    intro id bb hid
    by_cases e : id = 0
    · subst e
      have : ((mkSt del.h0 2).set 0 (some (.map []))).heap.get 0 = some (.map []) := by kernel_rfl
      rw [this] at hid; cases hid; exact .inl ⟨rfl, rfl⟩
    · right
      refine ⟨e, ?_⟩
      have : ((mkSt del.h0 2).heap.set 0 (some (.map []))).get id = (mkSt del.h0 2).heap.get id := T.get_set_ne _ _ _ _ e
      rw [← hid]; exact this.symm
  have hkeep : ∀ j, j < W.heap.size → j ≠ b → w'.heap[j]? = W.heap[j]? := f3
  have hsim : Sim (sgl [x]) ρ ((mkSt del.h0 2).set 0 (some (.map []))) w' := by
    refine ⟨fun id bb hid => ?_, fun i j bb n' m' hi hj ri rj => ?_, hs.dom, fun id bb n' hr => Nat.lt_of_lt_of_le (hs.old id bb n' hr) f2⟩
    · rcases hl id bb hid with ⟨rfl, rfl⟩ | ⟨hne, hg⟩
      · exact ⟨b, n, _, r0, f1, _, _, rfl, rfl, fun i p hp => by simp at hp⟩
      · obtain ⟨b2, n2, o2, a1, a2, a3⟩ := hs.blk id bb hg
        refine ⟨b2, n2, o2, a1, ?_, a3⟩
        rw [hkeep b2 (hs.old _ _ _ a1) ?_]; exact a2
        rintro rfl
        exact hne (hs.inj id 0 b2 n2 n (by rw [hg]; rfl) (by rw [hg0]; rfl) a1 r0)
    · have q : ∀ i, ((((mkSt del.h0 2).set 0 (some (.map []))).heap.get i).isSome) → ((mkSt del.h0 del.n0).heap.get i).isSome := by
        intro i hi
        obtain ⟨bb, hb'⟩ := Option.isSome_iff_exists.1 hi
        rcases hl i bb hb' with ⟨rfl, _⟩ | ⟨_, hg⟩
        · rw [hg0]; rfl
        · rw [hg]; rfl
      exact hs.inj i j bb n' m' (q i hi) (q j hj) ri rj
  refine ⟨hsim, fun _ _ => rfl, Nat.le_refl _, f2, fun j hj hn => hkeep j hj ?_, fun id bb n' h1 h2 _ => ?_, ?_, fun id h1 h2 => ?_, f4.1, f4.2.1, f4.2.2⟩
  · rintro rfl
    exact hn 0 n (by rw [hg0]; rfl) r0
  · obtain ⟨bb', hb'⟩ := Option.isSome_iff_exists.1 h1
    rcases hl id bb' hb' with ⟨rfl, _⟩ | ⟨_, hg⟩
    · exact ⟨0, by rw [hg0]; rfl, h2⟩
    · exact ⟨id, by rw [hg]; rfl, h2⟩
  · show minN 2 0 ≤ 2; decide
  · have : minN 2 0 = 0 := by decide
    have h2 : id < minN 2 0 := h2
    omega
end
end Go.Proofs.YtnpkeganpkobjaaGreatDoor.Ev
