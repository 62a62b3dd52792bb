import Derived.Test.YtnpkeganpkobjaaGreatDoorXC
import Derived.Laws.AppendOwn
import Derived.Lib.Bytealg
set_option linter.all false
namespace Go.Proofs.YtnpkeganpkobjaaGreatDoor.Ev
open Go Go.RowKit
noncomputable section
section made
variable {σ : Nat → Int} {ρ : Rho} {s s' s1 : St} {W : World} {P : Program} {v : V} {f : F} {e : Operand → Value}
theorem wrap_small {n : Nat} (h : n ≤ 1000000) : IntKind.i64.wrap (n : Int) = n := by
  have := wrapK_eq .i64 (n : Int)
  rw [← this]
  show (match Nat.blt n i64max with | true => Int.ofNat n | false => IntKind.i64.wrap (.ofNat n)) = _
  rw [show Nat.blt n i64max = true by rw [Nat.blt_eq]; unfold i64max; omega]
  rfl
theorem zeroI_run {t : TypeId} {i : TypeInfo} {z : V} (hi : P.info? t = some i) (hz : zeroI i = some z) : ∃ u, (zeroValue t).run P W = .ok u W ∧ VR σ ρ z u ∧ i.zero = some u := by
  unfold zeroI at hz
  split at hz
  · rename_i u hu; exact ⟨u, by simp [zeroValue, typeInfo, hi, hu], ofV_VR hz, hu⟩
  · cases hz
theorem optV_sound {x : Option V} {ux : Value} {n : Nat} (hx : ∀ v, x = some v → VR σ ρ v ux) (h : optV x = some n) : ∃ k, ux = .int k (n : Int) := by
  unfold optV at h
  split at h
  · exact natOf_sound (hx _ rfl) h
  · cases h
theorem makeSlice_sound (hs : Sim σ ρ s W) {t : TypeId} {l c : Option V} {ul uc : Value} (hl : ∀ v, l = some v → VR σ ρ v ul) (hc : ∀ v, c = some v → VR σ ρ v uc) (h : makeSliceV P t (optV l) (optV c) s = some (v, s')) :
    Ok1 P σ ρ s W v s' (Instr.makeSlice t ul uc) := by
  unfold makeSliceV at h
  split at h
  · rename_i el hd
    split at h
    · rename_i a ha
      split at h
      · rename_i b hb
        split at h
        · rename_i i hi
          split at h
          · rename_i z hz
            split at h
            · rename_i hby
              rw [Nat.ble_eq] at hby
              unfold makeS at h
              split at h
              · rename_i hq
                simp only [Bool.and_eq_true] at hq
                obtain ⟨⟨⟨⟨q1, q2⟩, q3⟩, q4⟩, q5⟩ := hq
                rw [Nat.beq_eq] at q1
                rw [Nat.ble_eq] at q2
                rw [Nat.beq_eq, llen_eq] at q3
                rw [Nat.blt_eq] at q4 q5
                subst q1
                obtain ⟨k1, rfl⟩ := optV_sound hl ha
                obtain ⟨k2, rfl⟩ := optV_sound hc hb
                obtain ⟨uz, r1, r2, r3⟩ := zeroI_run (W := W) (σ := σ) (ρ := ρ) hi hz
                have hrep := VRs.rep (r2.cells (zeroI_any hz)) i.size q3 q5 a
                refine Ok1.cells hs (us := ((Array.range (a * i.size)).map (uz.cells[· % uz.cells.size]!)).toList) (t := el) (u := .slice (some ⟨W.heap.size, 0, none⟩) a a) h hrep ?_ ?_
                · have hw : IntKind.i64.wrap (a : Int) = a := wrap_small (by omega)
                  have h1 : ¬ ((a : Int) < 0) := by omega
                  have h2 : ¬ (281474976710656 < (i.bytes : Int) * (a : Int)) := by
                    have : i.bytes * a ≤ 1000000 * 100000 := Nat.mul_le_mul hby q2
                    have h3 : (i.bytes : Int) * (a : Int) = ((i.bytes * a : Nat) : Int) := by push_cast; rfl
                    rw [h3]; omega
                  have h3 : ¬ (a * i.size = 0) := by
                    have : 0 < a * i.size := Nat.mul_pos q4 q5
                    omega
                  have h4 : ¬ (a = 0 ∨ i.size = 0) := by omega
                  simp [Instr.makeSlice, run_underlying hd, asInt, asIntOf, typeInfo, hi, hw, h1, h2, sizeOf, h4, r1, newRow]
                  rw [if_neg (by omega)]
                  simp [r1]
                  congr 2
                  apply Array.ext'
                  simp
                · intro ρ' h1 h2
                  simp only [VR]
                  exact ⟨_, _, a, h2, by simp, Nat.le_refl _, q5, rfl⟩
              · cases h
            · cases h
          · cases h
        · cases h
      · cases h
    · cases h
  · cases h
def Src (P : Program) (W : World) (n k : Nat) (us : List Value) (u : Value) : Prop :=
  (∀ w, (Builtin.lenOf u).run P w = .ok k w) ∧ (∀ w : World, w.heap = W.heap → (Builtin.firstCells n k u).run P w = .ok us.toArray w)
theorem more_sound {E : Env} (hG : Gok E.G σ) (hs : Sim σ ρ s W) {n : Nat} {y : V} {uy : Value} {p : Nat × List V} (hy : VR σ ρ y uy) (h : more E n s y = some p) :
    ∃ us, VRs σ ρ p.2 us ∧ Src E.P W n p.1 us uy := by
  unfold more at h
  split at h
  · simp only [VR] at hy; subst hy; cases h
    exact ⟨[], by simp [VRs], fun w => by simp [Builtin.lenOf], fun w _ => by simp [Builtin.firstCells]⟩
  · simp only [VR] at hy; obtain ⟨a, cap, rfl⟩ := hy; cases h
    exact ⟨[], by simp [VRs], fun w => by simp [Builtin.lenOf], fun w _ => by simp [Builtin.firstCells, loadCells, loadCellsFrom]⟩
  · rename_i l
    simp only [VR] at hy
    obtain ⟨xa, hxa, rfl⟩ := hy
    split at h
    · rename_i hc; cases h
      refine ⟨_, allB_sound hG hc, fun w => by simp [Builtin.lenOf, llen_eq, BR_size hxa], fun w _ => ?_⟩
      have e1 : xa.extract 0 (llen l) = xa := by rw [llen_eq, ← BR_size hxa]; exact ByteArray.extract_zero_size
      simp only [Builtin.firstCells, e1]
      rw [bytes_data hxa]; rfl
    · cases h
  · rename_i id off len es
    simp only [VR] at hy
    obtain ⟨b, m, cap, h1, h2, h3, h4, rfl⟩ := hy
    split at h
    · rename_i he
      rw [Nat.beq_eq] at he
      subst he
      split at h
      · rename_i l hl
        obtain ⟨b', n', c, t, fz, k1, k2, k3, k4, k5, k6⟩ := cellsOf_some hs hl
        rw [h1] at k1; cases k1
        split at h
        · rename_i r hc; cases h
          obtain ⟨us, a1, a2, a3, a4⟩ := run_cut (P := E.P) k4 k2 hc
          refine ⟨us, a1, fun w => by simp [Builtin.lenOf], fun w hw => ?_⟩
          obtain ⟨us', b1, b2, b3, b4⟩ := run_cut (P := E.P) (W := w) k4 (by rw [hw]; exact k2) hc
          have : us' = us := by
            apply List.ext_getElem (by omega)
            intro j hj1 hj2
            have x1 := b4 j _ (List.getElem?_eq_getElem hj1)
            have x2 := a4 j _ (List.getElem?_eq_getElem hj2)
            rw [x1] at x2
            exact Option.some.inj x2
          rw [← this]
          exact b3
        · cases h
      · cases h
    · cases h
  · cases h
theorem cut_cap (W : World) (need old : Nat) (el : TypeId) : ∃ cap, (Question.appendCap need old el).cut (W.tape W.drawn (.appendCap need old el)) = cap ∧ need ≤ cap := ⟨_, rfl, by simp [Question.cut]⟩
set_option maxHeartbeats 1000000 in
theorem append_grow {t u el ty : TypeId} {i : TypeInfo} {du : TypeDesc} (hd : P.underlying t = some (.slice el)) (hu : P.underlying u = some du) (hdu : isSeq (some du) = true) (hi : P.info? el = some i) {uz : Value} (hz : i.zero = some uz)
    (hb : i.bytes ≤ 10000) (hb0 : 0 < i.bytes) {base : Option Addr} {len cap k : Nat} {us os : List Value} {uy : Value} (hy : Src P W i.size k us uy)
    (ho : ∀ w : World, w.heap = W.heap → (Builtin.firstCells i.size len (.slice base len cap)).run P w = .ok os.toArray w) (hg : cap < len + k) (hsm : len + k ≤ 2000000) {nc : Nat}
    (hnc : (Question.appendCap (len + k) cap el).cut (W.tape W.drawn (.appendCap (len + k) cap el)) = nc) :
    (Builtin.append_ #[t, u] ty #[.slice base len cap, uy]).run P W = .ok (.slice (some ⟨W.heap.size, 0, none⟩) (len + k) nc) (W.drew.alloc (.cells (os.toArray ++ us.toArray ++ Builtin.zeroCells uz.cells (nc - (len + k))) el)) := by
  have h63 : ¬ (9223372036854775807 < ((len : Int) + (k : Int))) := by omega
  have h48 : ¬ (281474976710656 < Builtin.nextslicecap (len + k) cap * i.bytes) := by
    have h1 := nextslicecap_le (need := len + k) (old := cap) hg
    have h2 : Builtin.nextslicecap (len + k) cap * i.bytes ≤ (2 * (len + k)) * 10000 := Nat.mul_le_mul h1 hb
    omega
  have hge : ¬ (len + k ≤ cap) := by omega
  have hf1 := ho W.drew rfl
  have hf2 := hy.2 W.drew rfl
  have hq : (Question.appendCap (len + k) cap el).forced = false := rfl
  cases du <;> simp only [isSeq] at hdu <;> try contradiction
  all_goals simp [Builtin.append_, run_underlying hd, run_underlying hu, sizeOf, typeInfo, zeroValue, hi, hz, hy.1, hge, h63, h48, hq, hf1, hf2, newRow, hnc]
  all_goals (congr 2; apply Array.ext'; simp)
set_option maxHeartbeats 1000000 in
theorem append_room {t u el ty : TypeId} {i : TypeInfo} {du : TypeDesc} (hd : P.underlying t = some (.slice el)) (hu : P.underlying u = some du) (hdu : isSeq (some du) = true) (hi : P.info? el = some i)
    {a : Addr} {len cap k : Nat} {us : List Value} {uy : Value} (hy : Src P W i.size k us uy) (hr : len + k ≤ cap) {W' : World} (hst : (storeCells (a.add (len * i.size)) us).run P W = .ok () W') :
    (Builtin.append_ #[t, u] ty #[.slice (some a) len cap, uy]).run P W = .ok (.slice (some a) (len + k) cap) W' := by
  have hf2 := hy.2 W rfl
  cases du <;> simp only [isSeq] at hdu <;> try contradiction
  all_goals simp [Builtin.append_, run_underlying hd, run_underlying hu, sizeOf, typeInfo, hi, hy.1, hr, hf2, hst]
set_option maxHeartbeats 1000000 in
theorem append_none {t u el ty : TypeId} {i : TypeInfo} {du : TypeDesc} (hd : P.underlying t = some (.slice el)) (hu : P.underlying u = some du) (hdu : isSeq (some du) = true) (hi : P.info? el = some i)
    {us : List Value} {uy : Value} (hy : Src P W i.size 0 us uy) :
    (Builtin.append_ #[t, u] ty #[.slice none 0 0, uy]).run P W = .ok (.slice none 0 0) W := by
  have hf2 := hy.2 W rfl
  cases du <;> simp only [isSeq] at hdu <;> try contradiction
  all_goals simp [Builtin.append_, run_underlying hd, run_underlying hu, sizeOf, typeInfo, hi, hy.1, hf2]
theorem CR.append {l m : List V} {a b c : List Value} (hl : VRs σ ρ l a) (hm : VRs σ ρ m b) {x : Array Value} (hx : ∀ j, j < a.length + b.length → x[j]? = (a ++ b)[j]?) : CR σ ρ (l ++ m) x :=
  CR_of (hl.append hm) (fun j hj => hx j (by simpa using hj))
theorem append_sound {E : Env} (hG : Gok E.G σ) (hs : Sim σ ρ s W) {ts : List TypeId} {ty : TypeId} {x y : V} {ux uy : Value} (hx : VR σ ρ x ux) (hy : VR σ ρ y uy) (h : appendV E ts x y s = some (v, s')) :
    Ok1 E.P σ ρ s W v s' (Builtin.append_ ts.toArray ty #[ux, uy]) := by
  unfold appendV at h
  split at h
  · rename_i t u
    split at h
    · rename_i el hd
      split at h
      · rename_i i hi
        split at h
        · rename_i hc
          simp only [Bool.and_eq_true] at hc
          obtain ⟨⟨⟨⟨⟨⟨c1, c2⟩, c3⟩, c4⟩, c5⟩, c6⟩, c7⟩ := hc
          rw [Nat.ble_eq] at c1
          rw [Nat.blt_eq] at c2 c3
          rw [Nat.beq_eq, llen_eq] at c5
          obtain ⟨du, hu, hdu⟩ : ∃ du, E.P.underlying u = some du ∧ isSeq (some du) = true := by
            cases hq : E.P.underlying u with
            | none => rw [hq] at c7; simp [isSeq] at c7
            | some du => exact ⟨du, rfl, by rw [hq] at c7; exact c7⟩
          obtain ⟨z, hz⟩ := Option.isSome_iff_exists.1 c4
          rw [hz] at c5
          simp only [Option.getD_some] at c5
          obtain ⟨uz, z1, z2, z3⟩ := zeroI_run (P := E.P) (W := W) (σ := σ) (ρ := ρ) hi hz
          have hzl : uz.cells.size = i.size := by have := (z2.cells (zeroI_any hz)).len; simp at this; omega
          unfold app1 at h
          split at h
          · rename_i p hp
            split at h
            · rename_i hq
              simp only [Bool.and_eq_true] at hq
              obtain ⟨⟨q1, q2⟩, q3⟩ := hq
              rw [Nat.ble_eq] at q2
              rw [Nat.beq_eq, llen_eq] at q3
              obtain ⟨us, hus, hsrc⟩ := more_sound hG hs hy hp
              have hul := hus.len
              unfold app2 at h
              split at h
              · simp only [VR] at hx; subst hx
                split at h
                · rename_i hk
                  cases h
                  rw [hk] at hsrc
                  exact Ok1.val hs ⟨_, append_none hd hu hdu hi hsrc, by simp only [VR]⟩
                · rename_i hk
                  have hk0 : p.1 ≠ 0 := hk
                  obtain ⟨nc, hnc, hge⟩ := cut_cap W (0 + p.1) 0 el
                  have hrun := append_grow (ty := ty) (os := []) hd hu hdu hi z3 c1 c2 hsrc (base := none) (len := 0) (cap := 0) (fun w _ => by simp [Builtin.firstCells]) (by omega) (by omega) hnc
                  refine Ok1.new (n := nc * i.size) hs h ⟨_, _, .cells (#[] ++ us.toArray ++ Builtin.zeroCells uz.cells (nc - (0 + p.1))) el, hrun, ?_, ?_, ?_, rfl, rfl, rfl, ?_⟩
                  · show (W.heap.push _)[W.heap.size]? = _; simp
                  · intro j hj; show (W.heap.push _)[j]? = _; simp [Array.getElem?_push, Nat.ne_of_lt hj]
                  · show _ ≤ (W.heap.push _).size; simp
                  · intro ρ' h1 h2
                    refine ⟨?_, OR.row (fz := (0, 0)) ?_ ?_ (fun j _ => by simp) (fun _ => rfl)⟩
                    · simp only [VR]; exact ⟨_, _, nc, h2, by omega, by omega, c3, by simp⟩
                    · simp only [Array.size_append, List.size_toArray, List.length_nil, Nat.zero_add, size_zeroCells, hul, q3, hzl]
                      rw [← Nat.add_mul]; congr 1; omega
                    · refine CR_of (VRs.mono h1 _ _ hus) (fun j hj => ?_)
                      simp [List.getElem?_append_left, hj, Array.getElem?_append_left]
              · rename_i id off len es
                simp only [VR] at hx
                obtain ⟨b, m, cap, x1, x2, x3, x4, rfl⟩ := hx
                split at h
                · rename_i he
                  simp only [Bool.and_eq_true] at he
                  rw [Nat.beq_eq, Nat.beq_eq] at he
                  obtain ⟨rfl, rfl⟩ := he
                  have hlen : len ≤ 1000000 := by simpa [lenOk] using c6
                  split at h
                  · rename_i l hl
                    obtain ⟨b', n', c, ct, fz, k1, k2, k3, k4, k5, k6⟩ := cellsOf_some hs hl
                    rw [x1] at k1; cases k1
                    unfold grow at h
                    split at h
                    · rename_i old hold
                      obtain ⟨o1, o2⟩ := ltake_some hold
                      have hcut : lcut l 0 (len * i.size) = some old := by unfold lcut; simp only [ldrop]; exact hold
                      obtain ⟨os, a1, a2, a3, a4⟩ := run_cut (P := E.P) k4 k2 hcut
                      have hdrop := Stp.drop hs id
                      have hsd := hdrop.sim
                      have hnl : ∀ j m', ((s.set id none).heap.get j).isSome → ρ j ≠ some (b, m') := by
                        intro j m' hj hj2
                        have hne : j ≠ id := by
                          intro e; subst e
                          obtain ⟨q, hq⟩ := Option.isSome_iff_exists.1 hj
                          exact absurd (T.get_set _ _ _ _ hq) (by simp)
                        rw [show (s.set id none).heap.get j = s.heap.get j from T.get_set_ne _ _ _ _ hne] at hj
                        exact hne (hs.inj j id _ _ _ hj k6 hj2 x1)
                      unfold retN at h
                      cases h
                      by_cases hr : len + p.1 ≤ cap
                      · have hfit : len * i.size + us.length ≤ c.size := by
                          have : (len + p.1) * i.size ≤ cap * i.size := Nat.mul_le_mul_right _ hr
                          rw [Nat.add_mul] at this
                          omega
                        obtain ⟨W', c', w1, w2, w3, w4, w5, w6, w7, w8, w9⟩ := run_stores (P := E.P) b (len * i.size) ct fz us 0 c W k2 (by rw [k3]; exact k5) (by omega) (leaves_all q1 hus)
                        refine ⟨ext1 ρ (s.set id none).next (b, m), .slice (some ⟨b, 0, none⟩) (len + p.1) cap, W', ?_, ?_, Stp.new2 hsd hdrop rfl hnl w2 ?_ (fun j hj _ => w5 j hj) (by omega) (fun _ => ⟨id, k6, x1⟩) w7 w8 w9⟩
                        · exact append_room hd hu hdu hi hsrc hr (by rw [addr_add, Nat.zero_add]; exact w1)
                        · simp only [VR]; exact ⟨b, m, cap, by simp [ext1], x2, hr, x4, rfl⟩
                        · refine OR.row (by omega) ?_ k5 (fun e => tag_sound hs e x1 k2)
                          refine CR.append (c := []) (VRs.mono (ext1_mono hsd _) _ _ a1) (VRs.mono (ext1_mono hsd _) _ _ hus) (fun j hj => ?_)
                          rw [w4 j (by omega)]
                          simp only [Nat.add_zero]
                          by_cases hj2 : j < os.length
                          · rw [if_neg (by omega), List.getElem?_append_left hj2]
                            have := a4 j os[j] (List.getElem?_eq_getElem hj2)
                            rw [Nat.zero_add] at this
                            rw [this, List.getElem?_eq_getElem hj2]
                          · rw [if_pos (by omega), List.getElem?_append_right (by omega), a2]
                      · obtain ⟨nc, hnc, hge⟩ := cut_cap W (len + p.1) cap el
                        have hrun := append_grow (ty := ty) (os := os) hd hu hdu hi z3 c1 c2 hsrc (base := some ⟨b, 0, none⟩) (len := len) (cap := cap) (fun w hw => by
                          simp only [Builtin.firstCells]
                          obtain ⟨us', b1, b2, b3, b4⟩ := run_cut (P := E.P) (W := w) k4 (by rw [hw]; exact k2) hcut
                          have : us' = os := by
                            apply List.ext_getElem (by omega)
                            intro j hj1 hj2
                            have x1 := b4 j _ (List.getElem?_eq_getElem hj1)
                            have x2 := a4 j _ (List.getElem?_eq_getElem hj2)
                            rw [x1] at x2
                            exact Option.some.inj x2
                          rw [← this]; exact b3) (by omega) (by omega) hnc
                        refine ⟨ext1 ρ (s.set id none).next (W.heap.size, nc * i.size), _, _, hrun, ?_, Stp.new2 hsd hdrop rfl ?_ (o := .cells (os.toArray ++ us.toArray ++ Builtin.zeroCells uz.cells (nc - (len + p.1))) el) ?_ ?_ ?_ ?_ ?_ rfl rfl rfl⟩
                        · simp only [VR]; exact ⟨W.heap.size, nc * i.size, nc, by simp [ext1], by omega, by omega, x4, rfl⟩
                        · intro j m' _ hj; exact absurd (hs.old j _ _ hj) (by omega)
                        · show (W.heap.push _)[W.heap.size]? = _; simp
                        · refine OR.row (fz := (0, 0)) ?_ ?_ (fun j _ => by simp) (fun _ => rfl)
                          · simp only [Array.size_append, List.size_toArray, size_zeroCells, hul, q3, hzl, a2]
                            rw [← Nat.add_mul, ← Nat.add_mul]; congr 1; omega
                          · refine CR.append (c := []) (VRs.mono (ext1_mono hsd _) _ _ a1) (VRs.mono (ext1_mono hsd _) _ _ hus) (fun j hj => ?_)
                            rw [Array.getElem?_append_left (by simpa using hj)]
                            simp
                        · intro j _ hj; show (W.heap.push _)[j]? = _; simp [Array.getElem?_push, Nat.ne_of_lt hj]
                        · show _ ≤ (W.heap.push _).size; simp
                        · intro hlt; omega
                    · cases h
                  · cases h
                · cases h
              · cases h
            · cases h
          · cases h
        · cases h
      · cases h
    · cases h
  · cases h
end made
section built
variable {σ : Nat → Int} {ρ : Rho} {s s' s1 : St} {W : World} {P : Program} {v : V} {f : F} {e : Operand → Value}
theorem len_sound (hs : Sim σ ρ s W) {t ty : TypeId} {x : V} {ux : Value} (hx : VR σ ρ x ux) (h : lenV (P.underlying t) x s = some v) : ∃ u, (Builtin.len_ #[t] ty #[ux]).run P W = .ok u W ∧ VR σ ρ v u := by
  unfold lenV at h
  split at h <;> try (cases h; done)
  · simp only [VR] at hx; obtain ⟨xa, hxa, rfl⟩ := hx
    split at h
    · rename_i hd; cases h
      exact ⟨goInt xa.size, by simp [Builtin.len_, run_underlying hd], by simp only [VR, goInt]; rw [llen_eq, BR_size hxa]⟩
    · cases h
  · simp only [VR] at hx; subst hx
    split at h
    · rename_i hd; cases h
      exact ⟨goInt 0, by simp [Builtin.len_, run_underlying hd], by simp only [VR, goInt]⟩
    · cases h
  · simp only [VR] at hx; obtain ⟨a, cap, rfl⟩ := hx
    split at h
    · rename_i hd; cases h
      exact ⟨goInt 0, by simp [Builtin.len_, run_underlying hd], by simp only [VR, goInt]⟩
    · cases h
  · rename_i id off n es
    simp only [VR] at hx; obtain ⟨b, m, cap, _, _, _, _, rfl⟩ := hx
    split at h
    · rename_i hd; cases h
      exact ⟨goInt n, by simp [Builtin.len_, run_underlying hd], by simp only [VR, goInt]⟩
    · cases h
  · simp only [VR] at hx; subst hx
    split at h
    · rename_i hd; cases h
      exact ⟨goInt 0, by simp [Builtin.len_, run_underlying hd], by simp only [VR, goInt]⟩
    · cases h
  · rename_i id
    simp only [VR] at hx; obtain ⟨b, n, hr, rfl⟩ := hx
    split at h
    · rename_i hd
      unfold lenM at h
      split at h
      · rename_i l hl; cases h
        obtain ⟨b', n', o, h1, h2, h3⟩ := hs.blk id _ hl
        rw [hr] at h1; cases h1
        obtain ⟨es, ck, rfl, h4, _⟩ := h3
        have hg : (getObj b).run P W = .ok (.map es ck) W := by simp [getObj, Sem.run, h2]
        exact ⟨goInt es.size, by simp [Builtin.len_, run_underlying hd, hg], by simp only [VR, goInt]; rw [llen_eq, h4]⟩
      · cases h
    · cases h
theorem nmOf_some {x : V} {k : IntKind} {a : Nm} (h : nmOf x = some (k, a)) : x = nmV k a := by
  unfold nmOf at h
  split at h <;> cases h <;> rfl
theorem pick2_some {x y : V} {o : Option Bool} (h : pick2 x y o = some v) : ∃ c, o = some c ∧ v = (if c then y else x) := by
  unfold pick2 at h
  split at h <;> cases h
  · exact ⟨true, rfl, by simp⟩
  · exact ⟨false, rfl, by simp⟩
theorem max2_sound {E : Env} (hG : Gok E.G σ) (hF : Fok E σ) {x y : V} {ux uy : Value} (hx : VR σ ρ x ux) (hy : VR σ ρ y uy) (h : max2V E x y = some v) : ∃ u, (Builtin.max2 ux uy).run P W = .ok u W ∧ VR σ ρ v u := by
  unfold max2V at h
  split at h
  · rename_i p hp
    split at h
    · rename_i q hq
      split at h
      · rename_i hk
        obtain ⟨k, a⟩ := p
        obtain ⟨k', b⟩ := q
        simp only [decide_eq_true_eq] at hk; subst hk
        have ex := nmOf_some hp
        have ey := nmOf_some hq
        subst ex; subst ey
        have e1 := VR_nm hx
        have e2 := VR_nm hy
        obtain ⟨c, hc, rfl⟩ := pick2_some h
        have hl := ltN_sound hG hF hc
        subst e1; subst e2
        refine ⟨.int k (if b.val σ > a.val σ then b.val σ else a.val σ), rfl, ?_⟩
        cases c with
        | true =>
          simp only [decide_eq_true_eq] at hl
          have hl : b.val σ > a.val σ := hl
          rw [show (if b.val σ > a.val σ then b.val σ else a.val σ) = b.val σ from if_pos hl]
          exact hy
        | false =>
          simp only [decide_eq_false_iff_not] at hl
          have hl : ¬ b.val σ > a.val σ := hl
          rw [show (if b.val σ > a.val σ then b.val σ else a.val σ) = a.val σ from if_neg hl]
          exact hx
      · cases h
    · cases h
  · cases h
theorem min2_sound {E : Env} (hG : Gok E.G σ) (hF : Fok E σ) {x y : V} {ux uy : Value} (hx : VR σ ρ x ux) (hy : VR σ ρ y uy) (h : min2V E x y = some v) : ∃ u, (Builtin.min2 ux uy).run P W = .ok u W ∧ VR σ ρ v u := by
  unfold min2V at h
  split at h
  · rename_i p hp
    split at h
    · rename_i q hq
      split at h
      · rename_i hk
        obtain ⟨k, a⟩ := p
        obtain ⟨k', b⟩ := q
        simp only [decide_eq_true_eq] at hk; subst hk
        have ex := nmOf_some hp
        have ey := nmOf_some hq
        subst ex; subst ey
        have e1 := VR_nm hx
        have e2 := VR_nm hy
        obtain ⟨c, hc, rfl⟩ := pick2_some h
        have hl := ltN_sound hG hF hc
        subst e1; subst e2
        refine ⟨.int k (if b.val σ < a.val σ then b.val σ else a.val σ), rfl, ?_⟩
        cases c with
        | true =>
          simp only [decide_eq_true_eq] at hl
          rw [show (if b.val σ < a.val σ then b.val σ else a.val σ) = b.val σ from if_pos hl]
          exact hy
        | false =>
          simp only [decide_eq_false_iff_not] at hl
          rw [show (if b.val σ < a.val σ then b.val σ else a.val σ) = a.val σ from if_neg hl]
          exact hx
      · cases h
    · cases h
  · cases h
theorem fold2_sound {g : V → V → Option V} {m : Value → Value → Sem Value} (hg : ∀ x y ux uy v, VR σ ρ x ux → VR σ ρ y uy → g x y = some v → ∃ u, (m ux uy).run P W = .ok u W ∧ VR σ ρ v u) :
    ∀ (l : List V) (us : List Value) (a : V) (ua : Value) (v : V), VR σ ρ a ua → VRs σ ρ l us → fold2 g a l = some v → ∃ u, (us.foldlM m ua).run P W = .ok u W ∧ VR σ ρ v u := by
  intro l
  induction l with
  | nil => intro us a ua v ha hl h; simp only [VRs] at hl; subst hl; simp only [fold2, Option.some.injEq] at h; subst h; exact ⟨ua, by simp, ha⟩
  | cons b l ih =>
    intro us a ua v ha hl h
    simp only [VRs] at hl
    obtain ⟨ub, r, h1, h2, rfl⟩ := hl
    simp only [fold2] at h
    split at h
    · rename_i c hc
      obtain ⟨uc, k1, k2⟩ := hg _ _ _ _ _ ha h1 hc
      obtain ⟨u, k3, k4⟩ := ih r c uc v k2 h2 h
      exact ⟨u, by simp [List.foldlM_cons, k1, k3], k4⟩
    · cases h
theorem builtin_sound {E : Env} (hG : Gok E.G σ) (hF : Fok E σ) (hs : Sim σ ρ s W) {b : Builtin} {ts : List TypeId} {ty : TypeId} {cs : Array Bool} {xs : List V} {us : List Value} (hx : VRs σ ρ xs us) (h : builtinV E b ts xs s = some (v, s')) :
    ∃ ρ' u W', (builtin b ts.toArray ty cs us.toArray).run E.P W = .ok (.value u) W' ∧ VR σ ρ' v u ∧ Stp σ ρ s W ρ' s' W' := by
  unfold builtinV at h
  split at h
  · split at h
    · rename_i x
      simp only [VRs] at hx
      obtain ⟨u, r, h1, rfl, rfl⟩ := hx
      split at h
      · rename_i t ts'
        have hh := ret_some h; clear h; obtain ⟨h, rfl⟩ := hh
        obtain ⟨u', k1, k2⟩ := len_sound (ty := ty) hs h1 h
        refine ⟨ρ, u', W, ?_, k2, Stp.refl hs⟩
        have e1 : Builtin.len_ (t :: ts').toArray ty #[u] = Builtin.len_ #[t] ty #[u] := by simp [Builtin.len_]
        simp only [builtin, Sem.run_bind, e1]
        rw [k1]; rfl
      · cases h
    · cases h
  · split at h
    · rename_i x y
      simp only [VRs] at hx
      obtain ⟨u, r, h1, ⟨u2, r2, h2, rfl, rfl⟩, rfl⟩ := hx
      obtain ⟨ρ', u', W', k1, k2, k3⟩ := append_sound (ty := ty) hG hs h1 h2 h
      exact ⟨ρ', u', W', by simp only [builtin, Sem.run_bind]; rw [k1]; rfl, k2, k3⟩
    · cases h
  · split at h
    · rename_i a l
      simp only [VRs] at hx
      obtain ⟨u, r, h1, h2, rfl⟩ := hx
      have hh := ret_some h; clear h; obtain ⟨h, rfl⟩ := hh
      obtain ⟨u', k1, k2⟩ := fold2_sound (P := E.P) (W := W) (m := Builtin.max2) (fun x y ux uy v hx hy hv => max2_sound hG hF hx hy hv) l r a u v h1 h2 h
      exact ⟨ρ, u', W, by simp only [builtin, Sem.run_bind, Builtin.max_]; rw [k1]; rfl, k2, Stp.refl hs⟩
    · cases h
  · split at h
    · rename_i a l
      simp only [VRs] at hx
      obtain ⟨u, r, h1, h2, rfl⟩ := hx
      have hh := ret_some h; clear h; obtain ⟨h, rfl⟩ := hh
      obtain ⟨u', k1, k2⟩ := fold2_sound (P := E.P) (W := W) (m := Builtin.min2) (fun x y ux uy v hx hy hv => min2_sound hG hF hx hy hv) l r a u v h1 h2 h
      exact ⟨ρ, u', W, by simp only [builtin, Sem.run_bind, Builtin.min_]; rw [k1]; rfl, k2, Stp.refl hs⟩
    · cases h
  · cases h
theorem opRange_sound (hs : Sim σ ρ s W) {t : TypeId} {x : Option V} {ux : Value} (hx : ∀ v, x = some v → VR σ ρ v ux) (h : opRange P t s x = some (v, s')) : Ok1 P σ ρ s W v s' (Instr.range t ux) := by
  unfold opRange at h
  split at h
  · rename_i l
    have hx := hx _ rfl
    simp only [VR] at hx; obtain ⟨xa, hxa, rfl⟩ := hx
    split at h
    · rename_i hd
      refine Ok1.new (n := 0) hs h ⟨.pointer (some ⟨W.heap.size, 0, none⟩), { W with heap := W.heap.push (.stringIter xa 0) }, .stringIter xa 0, ?_, by simp, fun j hj => by simp [Array.getElem?_push, Nat.ne_of_lt hj], by simp, rfl, rfl, rfl, ?_⟩
      · simp [Instr.range, run_underlying hd]
      · intro ρ' h1 h2
        exact ⟨by simp only [VR]; exact ⟨_, _, h2, rfl⟩, _, hxa, rfl⟩
    · cases h
  · cases h
theorem decode_low (x : ByteArray) (i : Nat) (h : (x.get! i).toNat < 128) : Utf8.decode x i = ((x.get! i).toNat, 1) := by
  unfold Utf8.decode
  simp only [Nat.add_zero]
  rw [if_pos h]
theorem rune_sound {G : Nat → Int × Int} (hG : Gok G σ) {c : Nat} (h : low7 G c = true) : byteN σ c < 128 ∧ (byteOf σ c).toNat = byteN σ c ∧ VR σ ρ (runeV c) (.int .i32 (byteN σ c : Int)) := by
  unfold low7 at h
  simp only [Bool.and_eq_true, decide_eq_true_eq] at h
  have ho : okB G c = true := by
    unfold okB
    cases hc : Nat.blt c 256 with
    | true => rfl
    | false =>
      unfold byteRng at h
      rw [hc] at h
      simp only at h
      show (decide (0 ≤ (G (c - 256)).1) && decide ((G (c - 256)).2 ≤ 255)) = true
      simp only [Bool.and_eq_true, decide_eq_true_eq]
      omega
  obtain ⟨h1, h2, h3, h4⟩ := byteN_sound hG ho
  refine ⟨by omega, h2, ?_⟩
  unfold runeV
  unfold byteN
  unfold byteRng at h
  cases hc : Nat.blt c 256 with
  | true => simp only [VR]
  | false =>
    rw [hc] at h
    have := hG (c - 256)
    simp only [VR]
    congr 1
    simp only at h
    omega
theorem opNext_sound {G : Nat → Int × Int} (hG : Gok G σ) (hs : Sim σ ρ s W) {ty : TypeId} {x : Option V} {ux : Value} (hx : ∀ v, x = some v → VR σ ρ v ux) (h : opNext G s x = some (v, s')) : Ok1 P σ ρ s W v s' (Instr.next ux true ty) := by
  unfold opNext at h
  split at h
  · rename_i id off
    have hx := hx _ rfl
    simp only [VR] at hx; obtain ⟨b, n, hr, rfl⟩ := hx
    split at h
    · rename_i h0
      rw [Nat.beq_eq] at h0; subst h0
      unfold nextI at h
      split at h
      · rename_i l p hl
        obtain ⟨b', n', o, h1, h2, h3⟩ := hs.blk id _ hl
        rw [hr] at h1; cases h1
        obtain ⟨xa, hxa, rfl⟩ := h3
        have hsz := BR_size hxa
        have hg : (getObj b).run P W = .ok (.stringIter xa p) W := by simp [getObj, Sem.run, h2]
        unfold nextB at h
        split at h
        · rename_i hn; cases h
          rw [lget_eq, List.getElem?_eq_none_iff] at hn
          have hp : ¬ p < xa.size := by omega
          refine Ok1.val hs ⟨.tuple #[.bool false], by simp [Instr.next, hg, hp], ?_⟩
          simp only [VR, VRs]
          exact ⟨_, ⟨_, _, rfl, rfl, rfl⟩, rfl⟩
        · rename_i c hc
          split at h
          · rename_i hlow; cases h
            rw [lget_eq] at hc
            obtain ⟨r1, r2, r3⟩ := rune_sound (ρ := ρ) hG hlow
            have hp : p < xa.size := by have := (List.getElem?_eq_some_iff.1 hc).1; omega
            have hb : xa.get! p = byteOf σ c := by
              have : xa.data.toList[p]? = some (byteOf σ c) := by rw [hxa]; simp [hc]
              have h2 : xa.data[p]? = some (byteOf σ c) := by simpa using this
              show xa.data[p]! = _
              rw [Array.getElem!_eq_getD, Array.getD_eq_getD_getElem?, h2]; rfl
            have hdec := decode_low xa p (by rw [hb, r2]; exact r1)
            rw [hb, r2] at hdec
            have hset : (setObj b (.stringIter xa (p + 1))).run P W = .ok () { W with heap := W.heap.setIfInBounds b (.stringIter xa (p + 1)) } := by simp [setObj, Sem.run, h2]
            refine ⟨ρ, .tuple #[.bool true, goInt p, .int .i32 (byteN σ c)], _, ?_, ?_, Stp.set hs (by rw [hl]; rfl) hr (o := .stringIter xa (p + 1)) (W1 := { W with heap := W.heap.setIfInBounds b (.stringIter xa (p + 1)) }) ?_ ⟨xa, hxa, rfl⟩ ?_ ?_ rfl rfl rfl⟩
            · simp [Instr.next, hg, hp, hdec, hset]
            · simp only [VR, VRs]
              exact ⟨_, ⟨_, _, rfl, ⟨_, _, rfl, ⟨_, _, r3, rfl, rfl⟩, rfl⟩, rfl⟩, rfl⟩
            · have := hs.old id _ _ hr; simp [this]
            · intro j hj; simp [Array.getElem?_setIfInBounds_ne (Ne.symm hj)]
            · simp
          · cases h
      · cases h
    · cases h
  · cases h
end built
def exRow : Ex → Array Value → Sem Value
  | .indexByte => Extern.BytealgIndexByte.indexByte
  | .count => Extern.BytealgCount.count
  | .bits => Extern.MathFloatBits.float64bits
  | .frombits => Extern.MathFloatBits.float64frombits
  | .same => Extern.AbiNoEscape.same
  | .noZero => Extern.AbiNoEscape.same
section exts
variable {σ : Nat → Int} {ρ : Rho} {s s' s1 : St} {W : World} {P : Program} {v : V} {f : F} {e : Operand → Value}
theorem index_any {u : Value} {x : ByteArray} (h : (Extern.Bytes.bytesOf u).run P W = .ok x W) (c : Int) :
    (Extern.BytealgIndexByte.indexByte #[u, .int .u8 c]).run P W = .ok (.int .i64 (Lib.indexByte x.data.toList c.toNat.toUInt8)) W := by
  have key : ∀ u : Value, (Extern.BytealgIndexByte.indexByte #[u, .int .u8 c]).run P W = ((Extern.Bytes.bytesOf u).run P W).andThen fun x w => (do
      let c' ← Extern.Bytes.asByte (.int .u8 c)
      match (List.range x.size).find? fun i => x[i]! == c' with
      | some i => pure (goInt i)
      | none => pure (goInt (-1)) : Sem Value).run P w := fun u => Sem.run_bind P W (Extern.Bytes.bytesOf u) _
  have h2 : (Extern.Bytes.bytesOf (.string x)).run P W = .ok x W := rfl
  rw [← Lib.run_indexByteString, key, key, h, h2]
theorem count_any {u : Value} {x : ByteArray} (h : (Extern.Bytes.bytesOf u).run P W = .ok x W) (c : Int) :
    (Extern.BytealgCount.count #[u, .int .u8 c]).run P W = .ok (.int .i64 (Lib.countByte x.data.toList c.toNat.toUInt8)) W := by
  have key : ∀ u : Value, (Extern.BytealgCount.count #[u, .int .u8 c]).run P W = ((Extern.Bytes.bytesOf u).run P W).andThen fun x w => (do
      let c' ← Extern.Bytes.asByte (.int .u8 c)
      pure (goInt (x.foldl (fun n b => if b == c' then n + 1 else n) (0 : Nat))) : Sem Value).run P w := fun u => Sem.run_bind P W (Extern.Bytes.bytesOf u) _
  have h2 : (Extern.Bytes.bytesOf (.string x)).run P W = .ok x W := rfl
  rw [← Lib.run_countString, key, key, h, h2]
theorem loadBytes_run : ∀ (ns : List Int) (b off : Nat) (acc : ByteArray), (∀ (j : Nat) n, ns[j]? = some n → W.cell? ⟨b, off + j, none⟩ = some (.int .u8 n)) →
    ∃ x, (Extern.Bytes.loadBytes ⟨b, off, none⟩ ns.length acc).run P W = .ok x W ∧ x.data.toList = acc.data.toList ++ ns.map (fun n => UInt8.ofNat n.toNat) := by
  intro ns
  induction ns with
  | nil => intro b off acc _; exact ⟨acc, by simp [Extern.Bytes.loadBytes], by simp⟩
  | cons n ns ih =>
    intro b off acc h
    have h0 := h 0 n (by simp)
    rw [Nat.add_zero] at h0
    obtain ⟨x, h1, h2⟩ := ih b (off + 1) (acc.push n.toNat.toUInt8) (fun j m hm => by
      have := h (j + 1) m (by simpa using hm)
      rw [show off + 1 + j = off + (j + 1) by omega]; exact this)
    refine ⟨x, ?_, ?_⟩
    · simp only [List.length_cons, Extern.Bytes.loadBytes, Sem.run_bind, run_load, h0, Result.andThen_ok, addr_add]
      exact h1
    · rw [h2]; simp [ByteArray.push]
theorem bytesX_sound (hs : Sim σ ρ s W) {x : V} {u : Value} {l : List Nat} (hx : VR σ ρ x u) (h : bytesX s x = some l) : ∃ y, (Extern.Bytes.bytesOf u).run P W = .ok y W ∧ BR σ l y := by
  unfold bytesX at h
  split at h
  · cases h
    simp only [VR] at hx; obtain ⟨xa, hxa, rfl⟩ := hx
    exact ⟨xa, by simp [Extern.Bytes.bytesOf], hxa⟩
  · cases h
    simp only [VR] at hx; subst hx
    exact ⟨.empty, by simp [Extern.Bytes.bytesOf], by simp [BR]⟩
  · rename_i id off len es
    simp only [VR] at hx; obtain ⟨b, n, cap, h1, h2, h3, h4, rfl⟩ := hx
    split at h
    · unfold bytesO at h
      split at h
      · rename_i cl hl
        obtain ⟨b', n', c, t, fz, k1, k2, k3, k4, k5, k6⟩ := cellsOf_some hs hl
        rw [h1] at k1; cases k1
        split at h
        · rename_i r hc
          obtain ⟨us, a1, a2, a3, a4⟩ := run_cut (P := P) k4 k2 hc
          obtain ⟨ns, rfl, hns⟩ := bytesC_sound a1 h
          obtain ⟨y, r1, r2⟩ := loadBytes_run (P := P) (W := W) ns b off .empty (fun j m hm => cell_of k2 (a4 j _ (by simp [hm])))
          refine ⟨y, ?_, ?_⟩
          · simp only [Extern.Bytes.bytesOf]
            have : ns.length = len := by simpa using a2
            rw [← this]; exact r1
          · unfold BR; rw [r2, hns]; simp
        · cases h
      · cases h
    · cases h
  · cases h
theorem findB_sound {G : Nat → Int × Int} (hG : Gok G σ) {c : Nat} : ∀ {l : List Nat} {i : Nat} {n : Int}, findB G c l i = some n → (n = -1 ∧ Lib.indexByte (l.map (byteOf σ)) (byteOf σ c) = -1) ∨ (n = i + Lib.indexByte (l.map (byteOf σ)) (byteOf σ c) ∧ 0 ≤ Lib.indexByte (l.map (byteOf σ)) (byteOf σ c)) := by
  intro l
  induction l with
  | nil => intro i n h; simp only [findB, Option.some.injEq] at h; exact .inl ⟨h.symm, rfl⟩
  | cons b l ih =>
    intro i n h
    simp only [findB] at h
    split at h
    · rename_i hb; cases h
      have := eqB_sound hG hb
      simp only [decide_eq_true_eq] at this
      refine .inr ⟨?_, ?_⟩ <;> simp [Lib.indexByte, this]
    · rename_i hb
      have := eqB_sound hG hb
      simp only [decide_eq_false_iff_not] at this
      rcases ih h with ⟨h1, h2⟩ | ⟨h1, h2⟩
      · exact .inl ⟨h1, by simp [Lib.indexByte, this, h2]⟩
      · have hne : ¬ Lib.indexByte (l.map (byteOf σ)) (byteOf σ c) = -1 := by omega
        refine .inr ⟨?_, ?_⟩ <;> simp [Lib.indexByte, this, hne] <;> omega
    · cases h
theorem findB_eq {G : Nat → Int × Int} (hG : Gok G σ) {c : Nat} {l : List Nat} {n : Int} (h : findB G c l 0 = some n) : n = Lib.indexByte (l.map (byteOf σ)) (byteOf σ c) := by
  rcases findB_sound hG h with ⟨h1, h2⟩ | ⟨h1, h2⟩ <;> omega
theorem countB_sound {G : Nat → Int × Int} (hG : Gok G σ) {c : Nat} : ∀ {l : List Nat} {i n : Nat}, countB G c l i = some n → n = i + Lib.countByte (l.map (byteOf σ)) (byteOf σ c) := by
  intro l
  induction l with
  | nil => intro i n h; simp only [countB, Option.some.injEq] at h; simp [Lib.countByte, h]
  | cons b l ih =>
    intro i n h
    simp only [countB] at h
    split at h
    · rename_i hb
      have := eqB_sound hG hb
      simp only [decide_eq_true_eq] at this
      have := ih h
      simp_all [Lib.countByte]
      omega
    · rename_i hb
      have := eqB_sound hG hb
      simp only [decide_eq_false_iff_not] at this
      have := ih h
      simp_all [Lib.countByte]
    · cases h
theorem exV_sound {E : Env} (hG : Gok E.G σ) (hs : Sim σ ρ s W) {x : Ex} {l : List V} {us : List Value} (hl : VRs σ ρ l us) (h : exV E s x l = some v) : ∃ u, (exRow x us.toArray).run P W = .ok u W ∧ VR σ ρ v u := by
  unfold exV at h
  split at h
  · split at h
    · rename_i b c
      simp only [VRs] at hl; obtain ⟨ub, r, h1, ⟨uc, r2, h2, rfl, rfl⟩, rfl⟩ := hl
      unfold ix at h
      split at h
      · rename_i bl hb
        split at h
        · rename_i cb hc
          split at h
          · rename_i n hn; cases h
            obtain ⟨y, r1, r2⟩ := bytesX_sound (P := P) hs h1 hb
            obtain ⟨m, rfl, hm⟩ := byteC_sound h2 hc
            refine ⟨_, index_any r1 m, ?_⟩
            simp only [VR]
            have : m.toNat.toUInt8 = byteOf σ cb := hm
            rw [findB_eq hG hn, r2, this]
          · cases h
        · cases h
      · cases h
    · cases h
  · split at h
    · rename_i b c
      simp only [VRs] at hl; obtain ⟨ub, r, h1, ⟨uc, r2, h2, rfl, rfl⟩, rfl⟩ := hl
      unfold cx at h
      split at h
      · rename_i bl hb
        split at h
        · rename_i cb hc
          split at h
          · rename_i n hn; cases h
            obtain ⟨y, r1, r2⟩ := bytesX_sound (P := P) hs h1 hb
            obtain ⟨m, rfl, hm⟩ := byteC_sound h2 hc
            refine ⟨_, count_any r1 m, ?_⟩
            simp only [VR]
            have : m.toNat.toUInt8 = byteOf σ cb := hm
            rw [countB_sound hG hn, r2, this]; simp
          · cases h
        · cases h
      · cases h
    · cases h
  · split at h
    · simp only [VRs, VR] at hl; obtain ⟨ub, r, rfl, rfl, rfl⟩ := hl
      cases h; exact ⟨_, rfl, by simp only [VR]⟩
    · rename_i i
      simp only [VRs, VR] at hl; obtain ⟨ub, r, rfl, rfl, rfl⟩ := hl
      split at h
      · rename_i h0; cases h
        simp only [decide_eq_true_eq] at h0
        have := hG i
        exact ⟨_, rfl, by simp only [VR]; congr 1; omega⟩
      · cases h
    · cases h
  · split at h
    · simp only [VRs, VR] at hl; obtain ⟨ub, r, rfl, rfl, rfl⟩ := hl
      cases h; exact ⟨_, rfl, by simp only [VR]⟩
    · simp only [VRs, VR] at hl; obtain ⟨ub, r, rfl, rfl, rfl⟩ := hl
      cases h; exact ⟨_, rfl, by simp only [VR]⟩
    · cases h
  · unfold one at h
    split at h
    · simp only [VRs] at hl; obtain ⟨ub, r, h1, rfl, rfl⟩ := hl
      cases h; exact ⟨ub, rfl, h1⟩
    · cases h
  · cases h
end exts
def KeysOk (E : Env) (σ : Nat → Int) : Prop := ∀ t l (ρ : Rho) us, E.keys t l = true → VRs σ ρ l us → (∃ fs, E.P.underlying t = some (.struct fs)) ∧ ∀ W, (∀ b, (Instr.checkKey b 10000 t (.agg us.toArray)).run E.P W = .ok () W) ∧
  ∀ l' us' c, VRs σ ρ l' us' → eqKs E.G l l' = some c → (Op.equal t (.agg us.toArray) (.agg us'.toArray)).run E.P W = .ok c W
section maps
variable {σ : Nat → Int} {ρ : Rho} {s s' s1 : St} {W : World} {P : Program} {v : V}
theorem bytes_eq {a b : List Nat} {x y : ByteArray} (ha : BR σ a x) (hb : BR σ b y) : (x == y) = decide (a.map (byteOf σ) = b.map (byteOf σ)) := by
  have e0 : (x == y) = (x.data == y.data) := by cases x; cases y; rfl
  rw [e0, Bool.eq_iff_iff]
  simp only [beq_iff_eq, decide_eq_true_eq]
  constructor
  · intro e; rw [← ha, ← hb, e]
  · intro e
    have : x.data.toList = y.data.toList := by rw [ha, hb, e]
    exact Array.toList_inj.1 this
def ER (σ : Nat → Int) (ρ : Rho) : List (V × V) → List MapEntry → Prop
  | [], es => es = []
  | p :: l, es => ∃ e r, VR σ ρ p.1 e.key ∧ VR σ ρ p.2 e.val ∧ ER σ ρ l r ∧ es = e :: r
theorem ER.of_get : ∀ {l : List (V × V)} {es : List MapEntry}, es.length = l.length → (∀ (i : Nat) (p : V × V), l[i]? = some p → ∃ e : MapEntry, es[i]? = some e ∧ VR σ ρ p.1 e.key ∧ VR σ ρ p.2 e.val) → ER σ ρ l es := by
  intro l
  induction l with
  | nil => intro es h _; simp at h; simp [ER, h]
  | cons p l ih =>
    intro es hl h
    cases es with
    | nil => simp at hl
    | cons e es =>
      obtain ⟨e', h1, h2, h3⟩ := h 0 p (by simp)
      simp at h1; subst h1
      simp only [ER]
      exact ⟨e, es, h2, h3, ih (by simpa using hl) (fun i q hq => h (i + 1) q (by simpa using hq)), rfl⟩
theorem key_next {G : Nat → Int × Int} {k a : V} {c : Bool} (h : eqK1 G k a = some c) : (∃ x y, k = .str x ∧ a = .str y ∧ eqS G x y = some c) ∨ (∃ i x y, k = .int i x ∧ a = .int i y ∧ decide (x = y) = c) ∨ (∃ x y, k = .bool x ∧ a = .bool y ∧ (x == y) = c) := by
  unfold eqK1 at h
  split at h
  · split at h
    · exact .inl ⟨_, _, rfl, rfl, h⟩
    · cases h
  · split at h
    · split at h
      · rename_i hk; cases h; simp only [decide_eq_true_eq] at hk; subst hk; exact .inr (.inl ⟨_, _, _, rfl, rfl, rfl⟩)
      · cases h
    · cases h
  · split at h
    · cases h; exact .inr (.inr ⟨_, _, rfl, rfl, rfl⟩)
    · cases h
  · cases h
def Found (σ : Nat → Int) (ρ : Rho) (r : Option (Nat × V)) (q : Option (Nat × Value)) : Prop :=
  match r with
  | none => q = none
  | some p => ∃ u, q = some (p.1, u) ∧ VR σ ρ p.2 u
theorem findNow_str {G : Nat → Int × Int} (hG : Gok G σ) {a : List Nat} {x : ByteArray} (ha : BR σ a x) : ∀ (l : List (V × V)) (es : List MapEntry) (i : Nat) (r : Option (Nat × V)), ER σ ρ l es → findK G (.str a) l i = some r → ∃ q, Instr.findNow .string (.string x) es i = some q ∧ Found σ ρ r q := by
  intro l
  induction l with
  | nil => intro es i r he h; simp only [ER] at he; subst he; simp only [findK, Option.some.injEq] at h; subst h; exact ⟨none, rfl, rfl⟩
  | cons p l ih =>
    intro es i r he h
    simp only [ER] at he
    obtain ⟨e, es', h1, h2, h3, rfl⟩ := he
    obtain ⟨pk, pv⟩ := p
    simp only [findK] at h
    split at h
    · rename_i hk; cases h
      rcases key_next (show eqK1 G (.str a) pk = some _ from hk) with ⟨x', y', e1, e2, e3⟩ | ⟨_, _, _, e1, _⟩ | ⟨_, _, e1, _⟩ <;> cases e1
      cases e2
      simp only [VR] at h1; obtain ⟨yb, hy, hke⟩ := h1
      refine ⟨some (i, e.val), ?_, e.val, rfl, h2⟩
      simp only [Instr.findNow, hke, Instr.sameNow]
      rw [bytes_eq ha hy, eqS_sound hG e3]
    · rename_i hk
      rcases key_next (show eqK1 G (.str a) pk = some _ from hk) with ⟨x', y', e1, e2, e3⟩ | ⟨_, _, _, e1, _⟩ | ⟨_, _, e1, _⟩ <;> cases e1
      cases e2
      simp only [VR] at h1; obtain ⟨yb, hy, hke⟩ := h1
      obtain ⟨q, k1, k2⟩ := ih es' (i + 1) r h3 h
      refine ⟨q, ?_, k2⟩
      simp only [Instr.findNow, hke, Instr.sameNow]
      rw [bytes_eq ha hy, eqS_sound hG e3]
      exact k1
    · cases h
theorem findNow_int {G : Nat → Int × Int} {j : IntKind} {n : Int} : ∀ (l : List (V × V)) (es : List MapEntry) (i : Nat) (r : Option (Nat × V)), ER σ ρ l es → findK G (.int j n) l i = some r → ∃ q, Instr.findNow (.int j) (.int j n) es i = some q ∧ Found σ ρ r q := by
  intro l
  induction l with
  | nil => intro es i r he h; simp only [ER] at he; subst he; simp only [findK, Option.some.injEq] at h; subst h; exact ⟨none, rfl, rfl⟩
  | cons p l ih =>
    intro es i r he h
    simp only [ER] at he
    obtain ⟨e, es', h1, h2, h3, rfl⟩ := he
    obtain ⟨pk, pv⟩ := p
    simp only [findK] at h
    split at h
    · rename_i hk; cases h
      rcases key_next (show eqK1 G (.int j n) pk = some _ from hk) with ⟨_, _, e1, _⟩ | ⟨_, x', y', e1, e2, e3⟩ | ⟨_, _, e1, _⟩ <;> cases e1
      cases e2
      simp only [VR] at h1
      simp only [decide_eq_true_eq] at e3
      subst e3
      refine ⟨some (i, e.val), ?_, e.val, rfl, h2⟩
      simp [Instr.findNow, h1, Instr.sameNow]
    · rename_i hk
      rcases key_next (show eqK1 G (.int j n) pk = some _ from hk) with ⟨_, _, e1, _⟩ | ⟨_, x', y', e1, e2, e3⟩ | ⟨_, _, e1, _⟩ <;> cases e1
      cases e2
      simp only [VR] at h1
      simp only [decide_eq_false_iff_not] at e3
      obtain ⟨q, k1, k2⟩ := ih es' (i + 1) r h3 h
      refine ⟨q, ?_, k2⟩
      simp only [Instr.findNow, h1, Instr.sameNow, if_true]
      rw [show (n == y') = false by simpa using e3]
      exact k1
    · cases h
theorem findNow_agg {fs : Array Field} {us : Array Value} : ∀ (es : List MapEntry) (i : Nat), Instr.findNow (.struct fs) (.agg us) es i = match es with | [] => some none | _ => none := by
  intro es i
  cases es with
  | nil => rfl
  | cons e es => simp [Instr.findNow, Instr.sameNow]
theorem asking_agg {E : Env} {t : TypeId} {a : List V} {us : List Value} (hk : ∀ l' us' c, VRs σ ρ l' us' → eqKs E.G a l' = some c → (Op.equal t (.agg us.toArray) (.agg us'.toArray)).run E.P W = .ok c W) :
    ∀ (l : List (V × V)) (es : List MapEntry) (i : Nat) (r : Option (Nat × V)), ER σ ρ l es → findK E.G (.agg a) l i = some r → ∃ q, (Instr.findAsking t (.agg us.toArray) es i).run E.P W = .ok q W ∧ Found σ ρ r q := by
  intro l
  induction l with
  | nil => intro es i r he h; simp only [ER] at he; subst he; simp only [findK, Option.some.injEq] at h; subst h; exact ⟨none, rfl, rfl⟩
  | cons p l ih =>
    intro es i r he h
    simp only [ER] at he
    obtain ⟨e, es', h1, h2, h3, rfl⟩ := he
    obtain ⟨pk, pv⟩ := p
    simp only [findK] at h
    have hagg : ∀ c, eqK E.G (.agg a) pk = some c → ∃ b, pk = .agg b ∧ eqKs E.G a b = some c := by
      intro c hc
      cases pk <;> simp only [eqK] at hc <;> try (cases hc; done)
      exact ⟨_, rfl, hc⟩
    split at h
    · rename_i hq; cases h
      obtain ⟨b, rfl, hb⟩ := hagg _ hq
      simp only [VR] at h1; obtain ⟨ub, hub, hke⟩ := h1
      refine ⟨some (i, e.val), ?_, e.val, rfl, h2⟩
      simp only [Instr.findAsking, Sem.run_bind, hke, hk b ub _ hub hb, Result.andThen_ok, if_true, Sem.run_pure]
    · rename_i hq
      obtain ⟨b, rfl, hb⟩ := hagg _ hq
      simp only [VR] at h1; obtain ⟨ub, hub, hke⟩ := h1
      obtain ⟨q, k1, k2⟩ := ih es' (i + 1) r h3 h
      refine ⟨q, ?_, k2⟩
      simp only [Instr.findAsking, Sem.run_bind, hke, hk b ub _ hub hb, Result.andThen_ok, Bool.false_eq_true, if_false, k1]
    · cases h
theorem check_str (d : Nat) {t : TypeId} (hd : P.underlying t = some .string) (b : Bool) (x : ByteArray) : (Instr.checkKey b (d + 1) t (.string x)).run P W = .ok () W := by
  simp [Instr.checkKey, run_underlying hd]
theorem check_int (d : Nat) {t : TypeId} {k : IntKind} (hd : P.underlying t = some (.int k)) (b : Bool) (j : IntKind) (n : Int) : (Instr.checkKey b (d + 1) t (.int j n)).run P W = .ok () W := by
  simp [Instr.checkKey, run_underlying hd]
theorem key_sound {E : Env} (hG : Gok E.G σ) (hK : KeysOk E σ) {t : TypeId} {k : V} {uk : Value} (hk : VR σ ρ k uk) (h : keyOk E t k = true) :
    (∀ b, (Instr.checkKey b 10000 t uk).run E.P W = .ok () W) ∧ ∀ l es r, ER σ ρ l es → findK E.G k l 0 = some r → ∃ q, (Instr.findKey t uk es).run E.P W = .ok q W ∧ Found σ ρ r q := by
  unfold keyOk at h
  split at h
  · split at h
    · rename_i hd
      simp only [VR] at hk; obtain ⟨x, hx, rfl⟩ := hk
      refine ⟨fun b => ?_, fun l es r he hf => ?_⟩
      · exact check_str 9999 hd b x
      · obtain ⟨q, k1, k2⟩ := findNow_str hG hx l es 0 r he hf
        exact ⟨q, by simp [Instr.findKey, run_underlying hd, k1], k2⟩
    · cases h
  · rename_i j n
    split at h
    · rename_i j' hd
      simp only [decide_eq_true_eq] at h; subst h
      simp only [VR] at hk; subst hk
      refine ⟨fun b => ?_, fun l es r he hf => ?_⟩
      · exact check_int 9999 hd b _ n
      · obtain ⟨q, k1, k2⟩ := findNow_int l es 0 r he hf
        exact ⟨q, by simp [Instr.findKey, run_underlying hd, k1], k2⟩
    · cases h
  · rename_i a
    simp only [VR] at hk; obtain ⟨us, hus, rfl⟩ := hk
    obtain ⟨⟨fs, hd⟩, h1⟩ := hK t a ρ us h hus
    obtain ⟨h2, h3⟩ := h1 W
    refine ⟨h2, fun l es r he hf => ?_⟩
    cases es with
    | nil =>
      cases l with
      | nil => simp only [findK, Option.some.injEq] at hf; subst hf; exact ⟨none, by simp [Instr.findKey, run_underlying hd, Instr.findNow], rfl⟩
      | cons p l => simp only [ER] at he; obtain ⟨_, _, _, _, _, q⟩ := he; cases q
    | cons e es =>
      obtain ⟨q, k1, k2⟩ := asking_agg h3 l (e :: es) 0 r he hf
      refine ⟨q, ?_, k2⟩
      have := findNow_agg (fs := fs) (us := us.toArray) (e :: es) 0
      simp only [Instr.findKey, Sem.run_bind, run_underlying hd, Result.andThen_ok, this, k1]
  · cases h
theorem found_sound {z : Option V} {ok : Bool} {r : Option (Nat × V)} {q : Option (Nat × Value)} {t : TypeId} (hz : ∀ w, z = some w → ∃ u, (zeroValue t).run P W = .ok u W ∧ VR σ ρ w u) (hq : Found σ ρ r q) (h : found z ok (some r) = some v) :
    ∃ u b, (q = none ∧ (zeroValue t).run P W = .ok u W ∧ b = false ∨ ∃ i, q = some (i, u) ∧ b = true) ∧ VR σ ρ v (if ok then .tuple #[u, .bool b] else u) := by
  cases r with
  | none =>
    simp only [Found] at hq; subst hq
    simp only [found] at h
    split at h
    · rename_i w; cases h
      obtain ⟨u, h1, h2⟩ := hz w rfl
      refine ⟨u, false, .inl ⟨rfl, h1, rfl⟩, ?_⟩
      cases ok with
      | true => simp only [VR, VRs, if_true]; exact ⟨_, ⟨_, _, h2, ⟨_, _, rfl, rfl, rfl⟩, rfl⟩, rfl⟩
      | false => exact h2
    · cases h
  | some p =>
    simp only [Found] at hq; obtain ⟨u, rfl, h2⟩ := hq
    simp only [found] at h
    refine ⟨u, true, .inr ⟨p.1, rfl, rfl⟩, ?_⟩
    cases ok with
    | true => cases h; simp only [VR, VRs, if_true]; exact ⟨_, ⟨_, _, h2, ⟨_, _, rfl, rfl, rfl⟩, rfl⟩, rfl⟩
    | false => cases h; exact h2
theorem mapB_some (hs : Sim σ ρ s W) {id b n : Nat} {l : List (V × V)} (hr : ρ id = some (b, n)) (h : mapB (s.heap.get id) = some l) : ∃ es ck, W.heap[b]? = some (.map es ck) ∧ ER σ ρ l es.toList ∧ (s.heap.get id).isSome ∧ es.size = l.length := by
  unfold mapB at h
  split at h
  · rename_i l' hg; cases h
    obtain ⟨b', n', o, h1, h2, h3⟩ := hs.blk id _ hg
    rw [hr] at h1; cases h1
    obtain ⟨es, ck, rfl, h4, h5⟩ := h3
    exact ⟨es, ck, h2, ER.of_get (by simpa using h4) (fun i p hp => by obtain ⟨e, q1, q2, q3, _⟩ := h5 i p hp; exact ⟨e, by simpa using q1, q2, q3⟩), by rw [hg]; rfl, h4⟩
  · cases h
theorem findNow_any (x : ByteArray) : ∀ (es : List MapEntry) (i : Nat), (∀ e ∈ es, (∃ y, e.key = .string y) ∧ ∃ m, e.val = .int .i64 m) → ∃ q, Instr.findNow .string (.string x) es i = some q ∧ ∀ j u, q = some (j, u) → ∃ (m : Nat) (e : MapEntry), j = i + m ∧ es[m]? = some e ∧ u = e.val ∧ ∃ y, e.key = .string y ∧ (x == y) = true := by
  intro es
  induction es with
  | nil => intro i _; exact ⟨none, rfl, fun j u h => by cases h⟩
  | cons e es ih =>
    intro i h
    obtain ⟨⟨y, hy⟩, _⟩ := h e (by simp)
    cases hxy : (x == y) with
    | true =>
      refine ⟨some (i, e.val), by simp [Instr.findNow, hy, Instr.sameNow, hxy], fun j u hq => ?_⟩
      cases hq
      exact ⟨0, e, rfl, by simp, rfl, y, hy, hxy⟩
    | false =>
      obtain ⟨q, h1, h2⟩ := ih (i + 1) (fun e' he' => h e' (by simp [he']))
      refine ⟨q, by simp [Instr.findNow, hy, Instr.sameNow, hxy, h1], fun j u hq => ?_⟩
      obtain ⟨m, e', k1, k2, k3⟩ := h2 j u hq
      exact ⟨m + 1, e', by omega, by simpa using k2, k3⟩
theorem smap_some (hs : Sim σ ρ s W) {id b n : Nat} (hr : ρ id = some (b, n)) (hl : s.heap.get id = some .smap) : ∃ es ck, W.heap[b]? = some (.map es ck) ∧ ∀ e ∈ es.toList, (∃ x, e.key = .string x) ∧ ∃ m, e.val = .int .i64 m := by
  obtain ⟨b', n', o, a1, a2, a3⟩ := hs.blk id _ hl
  rw [hr] at a1; cases a1
  obtain ⟨es, ck, rfl, h⟩ := a3
  exact ⟨es, ck, a2, h⟩
theorem lookup_sound {E : Env} (hG : Gok E.G σ) (hK : KeysOk E σ) (hs : Sim σ ρ s W) {t : TypeId} {m k : V} {um uk : Value} {ok : Bool} (hm : VR σ ρ m um) (hk : VR σ ρ k uk) (h : lookupV E t m k ok s = some v) :
    ∃ u, (Instr.lookup t um uk ok).run E.P W = .ok u W ∧ VR σ ρ v u := by
  unfold lookupV at h
  split at h
  · rename_i kt el hd
    split at h
    · rename_i hko
      obtain ⟨k1, k2⟩ := key_sound (W := W) hG hK hk hko
      have hz : ∀ w, zeroV E.P el = some w → ∃ u, (zeroValue el).run E.P W = .ok u W ∧ VR σ ρ w u := fun w hw => run_zeroV hw
      split at h
      · simp only [VR] at hm; subst hm
        obtain ⟨q, q1, q2⟩ := k2 [] [] none rfl rfl
        obtain ⟨u, b, r1, r2⟩ := found_sound hz q2 h
        refine ⟨_, ?_, r2⟩
        rcases r1 with ⟨rfl, r1, rfl⟩ | ⟨i, rfl, rfl⟩
        · simp [Instr.lookup, run_underlying hd, k1, q1, r1]
        · simp [Instr.lookup, run_underlying hd, k1, q1]
      · rename_i id
        simp only [VR] at hm; obtain ⟨b, n, hr, rfl⟩ := hm
        split at h
        · rename_i l hl
          obtain ⟨es, ck, h2, h3, h4, h5⟩ := mapB_some hs hr hl
          have hg : (getObj b).run E.P W = .ok (.map es ck) W := by simp [getObj, Sem.run, h2]
          cases hf : findK E.G k l 0 with
          | none => rw [hf] at h; simp [found] at h
          | some r =>
            rw [hf] at h
            obtain ⟨q, q1, q2⟩ := k2 l es.toList r h3 hf
            obtain ⟨u, b, r1, r2⟩ := found_sound hz q2 h
            refine ⟨_, ?_, r2⟩
            rcases r1 with ⟨rfl, r1, rfl⟩ | ⟨i, rfl, rfl⟩
            · simp [Instr.lookup, run_underlying hd, k1, q1, r1, hg]
            · simp [Instr.lookup, run_underlying hd, k1, q1, hg]
        · unfold lookS at h
          split at h
          · rename_i hsm
            split at h
            · cases h
            · split at h
              · rename_i ks
                split at h
                · rename_i z hz0
                  cases h
                  obtain ⟨es, ck, h2, h3⟩ := smap_some hs hr hsm
                  have hg : (getObj b).run E.P W = .ok (.map es ck) W := by simp [getObj, Sem.run, h2]
                  have hkt : E.P.underlying kt = some .string := by
                    unfold keyOk at hko
                    simp only at hko
                    split at hko
                    · assumption
                    · cases hko
                  simp only [VR] at hk; obtain ⟨x, hx, rfl⟩ := hk
                  obtain ⟨q, q1, q2⟩ := findNow_any x es.toList 0 h3
                  obtain ⟨uz, z1, z2⟩ := hz _ hz0
                  simp only [VR] at z2; subst z2
                  have hfk : (Instr.findKey kt (.string x) es.toList).run E.P W = .ok q W := by simp [Instr.findKey, run_underlying hkt, q1]
                  cases q with
                  | none => exact ⟨.int .i64 z, by simp [Instr.lookup, run_underlying hd, k1, hfk, hg, z1], by simp only [VR]; exact ⟨_, rfl⟩⟩
                  | some p =>
                    obtain ⟨m, e, _, e1, e2, _⟩ := q2 p.1 p.2 rfl
                    obtain ⟨_, ⟨w, hw⟩⟩ := h3 e (List.mem_of_getElem? e1)
                    exact ⟨p.2, by simp [Instr.lookup, run_underlying hd, k1, hfk, hg], by simp only [VR]; exact ⟨w, by rw [e2, hw]⟩⟩
                · cases h
              · cases h
          · cases h
      · cases h
    · cases h
  · cases h
end maps
end
end Go.Proofs.YtnpkeganpkobjaaGreatDoor.Ev
