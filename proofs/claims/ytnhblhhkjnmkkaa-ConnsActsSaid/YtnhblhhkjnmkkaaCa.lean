/- Tables of readers (package conns, and the reference's): what a table is in the heap, and what is kept of it. -/
import Derived.Test.YtnhblhhkjnmkkaaRa
namespace Go.Proofs.Ytnhblhhkjnmkkaa.Q
open Go.RowKit Go.Proofs.YtnhblhhkjnmkkaaW.PrintWords Go.Proofs.YtnhblhhkjnmkkaaW.PrintLast Go.Proofs.YtnhblhhkjnmkkaaW.PrintMore
open Go.Proofs.Ytnhblhhkjnmkkaa.Sp Go.Proofs.Ytnhblhhkjnmkkaa.Va Go.Proofs.Ytnhblhhkjnmkkaa.Fr
set_option linter.unusedVariables false
set_option linter.unusedSimpArgs false
/-- A slot's pointer; what a slot is, apart from where it lies. -/
def ptrOf (x : Option (Nat × Value × List Int × Bool)) : Value := .pointer (x.map fun y => ⟨y.1, 0, none⟩)
def ab (x : Option (Nat × Value × List Int × Bool)) : Option (List Int × Bool) := x.map fun y => y.2.2
/-- The blocks of a table: its own, its row's, its readers' and their rows'. -/
def foot (g p : Nat) (ps : List (Option (Nat × Value × List Int × Bool))) (k : Nat) : Prop := k = g ∨ k = p ∨ ∃ (i : Nat) (x : Nat × Value × List Int × Bool), ps[i]? = some (some x) ∧ (k = x.1 ∨ x.2.1.ownBlock = some k)
def Tab (W0 W : World) (g p : Nat) (t tp tr : TypeId) (most : Int) (ps : List (Option (Nat × Value × List Int × Bool))) : Prop :=
  W.heap[g]? = some (.cells #[.int .i64 most, .slice (some ⟨p, 0, none⟩) ps.length ps.length] t (0, 0)) ∧
  W.heap[p]? = some (.cells (ps.map ptrOf).toArray tp (0, 0)) ∧
  (∀ (i : Nat) (x : Nat × Value × List Int × Bool), ps[i]? = some (some x) → Rdr W0 W x.1 tr most x.2.2.1 x.2.2.2 x.2.1) ∧
  (∀ (i j : Nat) (x y : Nat × Value × List Int × Bool), ps[i]? = some (some x) → ps[j]? = some (some y) → i ≠ j → x.1 ≠ y.1 ∧ ∀ k, x.2.1.ownBlock = some k → y.2.1.ownBlock ≠ some k) ∧
  Below W0.heap.size W0 W ∧ W0.heap.size ≤ g ∧ W0.heap.size ≤ p
theorem Rdr.kept2 {W0 W W1 : World} {g : Nat} {t : TypeId} {most : Int} {w : List Int} {off : Bool} {v : Value} {S : Nat → Prop} (h : Rdr W0 W g t most w off v) (hk : Kept W W1 S) (hg : ¬ S g) (hv : ∀ k, v.ownBlock = some k → ¬ S k) (hB : Below W0.heap.size W0 W1) : Rdr W0 W1 g t most w off v :=
  ⟨blk_kept h.1 hk hg, Kd.R_mono (Kd.R_kept (Kd.R_tight rfl h.2.1) hk (fun k hk' => hv k hk'.symm)) (fun _ _ => trivial), hB, h.2.2.2⟩
theorem Tab.kept {W0 W W1 : World} {g p : Nat} {t tp tr : TypeId} {most : Int} {ps : List (Option (Nat × Value × List Int × Bool))} {S : Nat → Prop} (h : Tab W0 W g p t tp tr most ps) (hk : Kept W W1 S) (hS : ∀ k, foot g p ps k → ¬ S k) (hB : Below W0.heap.size W0 W1) : Tab W0 W1 g p t tp tr most ps :=
  ⟨blk_kept h.1 hk (hS g (Or.inl rfl)), blk_kept h.2.1 hk (hS p (Or.inr (Or.inl rfl))),
   fun i x hx => (h.2.2.1 i x hx).kept2 hk (hS _ (Or.inr (Or.inr ⟨i, x, hx, Or.inl rfl⟩))) (fun k hv => hS k (Or.inr (Or.inr ⟨i, x, hx, Or.inr hv⟩))) hB,
   h.2.2.2.1, hB, h.2.2.2.2.2⟩
theorem Tab.more {W0 W W1 : World} {g p : Nat} {t tp tr : TypeId} {most : Int} {ps : List (Option (Nat × Value × List Int × Bool))} (h : Tab W0 W g p t tp tr most ps) (hb : Below W.heap.size W W1) : Tab W0 W1 g p t tp tr most ps :=
  h.kept (Kept.of_below hb (fun _ => False)) (fun _ _ h => h) (below_step h.2.2.2.2.1 hb)
/-- The blocks of a table lie in the heap, and are new since the outset. -/
theorem Tab.lt {W0 W : World} {g p : Nat} {t tp tr : TypeId} {most : Int} {ps : List (Option (Nat × Value × List Int × Bool))} (h : Tab W0 W g p t tp tr most ps) {k : Nat} (hk : foot g p ps k) : k < W.heap.size := by
  rcases hk with rfl | rfl | ⟨i, x, hx, rfl | hv⟩
  · exact blk_lt h.1
  · exact blk_lt h.2.1
  · exact blk_lt (h.2.2.1 i x hx).1
  · exact Kd.R_lt (h.2.2.1 i x hx).2.1 k hv
theorem Tab.base {W0 W : World} {g p : Nat} {t tp tr : TypeId} {most : Int} {ps : List (Option (Nat × Value × List Int × Bool))} (h : Tab W0 W g p t tp tr most ps) {k : Nat} (hk : foot g p ps k) : W0.heap.size ≤ k := by
  rcases hk with rfl | rfl | ⟨i, x, hx, rfl | hv⟩
  · exact h.2.2.2.2.2.1
  · exact h.2.2.2.2.2.2
  · exact (h.2.2.1 i x hx).2.2.2
  · exact Kd.R_base (h.2.2.1 i x hx).2.1 k hv
theorem Tab.cell {W0 W : World} {g p : Nat} {t tp tr : TypeId} {most : Int} {ps : List (Option (Nat × Value × List Int × Bool))} (h : Tab W0 W g p t tp tr most ps) (i : Nat) {x : Option (Nat × Value × List Int × Bool)} (hx : ps[i]? = some x) : W.cell? ⟨p, i, none⟩ = some (ptrOf x) := by
  rw [blk_cell h.2.1 i]; simp [List.getElem?_map, hx]
/-- What a slot is at a number. -/
def isv {α : Type} (l : List (Option α)) (id : Int) : Bool := if 0 ≤ id then ((l[id.toNat]?).getD none).isSome else false
theorem isv_map {α β : Type} (l : List (Option α)) (f : α → β) (id : Int) : isv (l.map (Option.map f)) id = isv l id := by
  unfold isv
  split
  · rw [List.getElem?_map]
    cases l[id.toNat]? with
    | none => rfl
    | some x => cases x <;> rfl
  · rfl
theorem isv_ab (ps : List (Option (Nat × Value × List Int × Bool))) (id : Int) : isv (ps.map ab) id = isv ps id := isv_map ps _ id
theorem isv_neg {α : Type} (l : List (Option α)) (id : Int) (h : id < 0) : isv l id = false := by unfold isv; rw [if_neg (by omega)]
theorem isv_out {α : Type} (l : List (Option α)) (id : Int) (h : (l.length : Int) ≤ id) : isv l id = false := by unfold isv; rw [if_pos (by omega), List.getElem?_eq_none (by omega)]; rfl
theorem isv_in {α : Type} (l : List (Option α)) (i : Nat) (x : Option α) (h : l[i]? = some x) : isv l (i : Int) = x.isSome := by unfold isv; rw [if_pos (by omega), Int.toNat_natCast, h]; rfl
theorem slot_cases {α : Type} (l : List (Option α)) (id : Int) : id < 0 ∨ (l.length : Int) ≤ id ∨ ∃ i : Nat, id = (i : Int) ∧ i < l.length ∧ (l[i]? = some none ∨ ∃ x, l[i]? = some (some x)) := by
  by_cases h1 : id < 0
  · exact Or.inl h1
  · by_cases h2 : (l.length : Int) ≤ id
    · exact Or.inr (Or.inl h2)
    · refine Or.inr (Or.inr ⟨id.toNat, by omega, by omega, ?_⟩)
      have h3 : id.toNat < l.length := by omega
      rw [List.getElem?_eq_getElem h3]
      cases l[id.toNat] with
      | none => exact Or.inl rfl
      | some x => exact Or.inr ⟨x, rfl⟩
theorem isv_some {α : Type} (l : List (Option α)) (id : Int) (h : isv l id = true) : ∃ (i : Nat) (x : α), id = (i : Int) ∧ i < l.length ∧ l[i]? = some (some x) := by
  rcases slot_cases l id with h1 | h1 | ⟨i, h1, hi, hx | ⟨x, hx⟩⟩
  · rw [isv_neg _ _ h1] at h; cases h
  · rw [isv_out _ _ h1] at h; cases h
  · rw [h1, isv_in _ _ _ hx] at h; cases h
  · exact ⟨i, x, h1, hi, hx⟩
set_option maxHeartbeats 4000000 in
set_option maxRecDepth 100000 in
theorem is_calls (W0 W : World) (g p : Nat) (most : Int) (ps : List (Option (Nat × Value × List Int × Bool))) (h : Tab W0 W g p 121 45 118 most ps) (hl : ps.length ≤ 1000) (id : Int) :
    Calls Try.prog 60 #[.pointer (some ⟨g, 0, none⟩), .int .i64 id] W fun e w' => e = .returned (.bool (isv ps id)) ∧ W = w' := by
  have hc : W.cell? ⟨g, 1, none⟩ = some (.slice (some ⟨p, 0, none⟩) ps.length ps.length) := blk_cell h.1 1
  rcases slot_cases ps id with h1 | h1 | ⟨i, rfl, hi, hx⟩
  · rw [isv_neg _ _ h1]
    have d1 : decide (0 ≤ id) = false := decide_eq_false (by omega)
    clear h1 h
    go_enter Try.func60, Try.ntmps60
    go_wp2_with fail
    go_ret
    exact ⟨rfl, rfl⟩
  · rw [isv_out _ _ h1]
    have d1 : decide (0 ≤ id) = true := decide_eq_true (by omega)
    have d2 : decide (id < (ps.length : Int)) = false := decide_eq_false (by omega)
    clear h1 h
    go_enter Try.func60, Try.ntmps60
    go_wp2_with fail
    go_ret
    exact ⟨rfl, rfl⟩
  · have d1 : decide (0 ≤ (i : Int)) = true := decide_eq_true (by omega)
    have d2 : decide ((i : Int) < (ps.length : Int)) = true := decide_eq_true (by omega)
    have e0 : 0 ≤ (i : Int) := by omega
    have e4 : (i : Int) < (ps.length : Int) := by omega
    rcases hx with hx | ⟨x, hx⟩
    · have hc2 := h.cell i hx
      rw [isv_in _ _ _ hx]
      simp only [ptrOf, Option.map_none, Option.isSome_none] at hc2 ⊢
      clear h hx
      go_enter Try.func60, Try.ntmps60
      go_wp2_with fail
      go_ret
      exact ⟨rfl, rfl⟩
    · have hc2 := h.cell i hx
      rw [isv_in _ _ _ hx]
      simp only [ptrOf, Option.map_some, Option.isSome_some] at hc2 ⊢
      clear h hx
      go_enter Try.func60, Try.ntmps60
      go_wp2_with fail
      go_ret
      exact ⟨rfl, rfl⟩
theorem Tab.gp {W0 W : World} {g p : Nat} {t tp tr : TypeId} {most : Int} {ps : List (Option (Nat × Value × List Int × Bool))} (h : Tab W0 W g p t tp tr most ps) (ht : t ≠ tp) : g ≠ p := by
  rintro rfl
  have h1 := h.1.symm.trans h.2.1
  injection h1 with h1
  injection h1 with _ h2
  exact ht h2
/-- One slot is put. -/
theorem Tab.put {W0 W : World} {g p : Nat} {t tp tr : TypeId} {most : Int} {ps : List (Option (Nat × Value × List Int × Bool))} (h : Tab W0 W g p t tp tr most ps) (i : Nat) (y : Option (Nat × Value × List Int × Bool))
    (hy : ∀ (x : Nat × Value × List Int × Bool), y = some x → Rdr W0 W x.1 tr most x.2.2.1 x.2.2.2 x.2.1 ∧ ∀ (j : Nat) (z : Nat × Value × List Int × Bool), ps[j]? = some (some z) → j ≠ i → (x.1 ≠ z.1 ∧ ∀ k, x.2.1.ownBlock = some k → z.2.1.ownBlock ≠ some k) ∧ (z.1 ≠ x.1 ∧ ∀ k, z.2.1.ownBlock = some k → x.2.1.ownBlock ≠ some k))
    (h1 : t ≠ tp) (h2 : tr ≠ tp) (h3 : 5 ≠ tp) : Tab W0 (W.setCell ⟨p, i, none⟩ (ptrOf y)) g p t tp tr most (ps.set i y) := by
  have hB : Below W0.heap.size W0 (W.setCell ⟨p, i, none⟩ (ptrOf y)) := below_set h.2.2.2.2.1 h.2.2.2.2.2.2
  have hK : Kept W (W.setCell ⟨p, i, none⟩ (ptrOf y)) (fun k => k = p) := (Kept.refl W (fun k => k = p)).setCell (p := ⟨p, i, none⟩) (Or.inl rfl) _
  have hR : ∀ (x : Nat × Value × List Int × Bool), Rdr W0 W x.1 tr most x.2.2.1 x.2.2.2 x.2.1 → Rdr W0 (W.setCell ⟨p, i, none⟩ (ptrOf y)) x.1 tr most x.2.2.1 x.2.2.2 x.2.1 := by
    intro x hr
    refine hr.kept2 hK ?_ ?_ hB
    · intro e
      have q1 := hr.1
      rw [e] at q1
      have q2 := q1.symm.trans h.2.1
      injection q2 with q2
      injection q2 with _ q3
      exact h2 q3
    · rintro k hk rfl
      obtain ⟨cells, q1⟩ := Kd.R_typed hr.2.1 k hk
      have q2 := q1.symm.trans h.2.1
      injection q2 with q2
      injection q2 with _ q3
      exact h3 q3
  refine ⟨?_, ?_, ?_, ?_, hB, h.2.2.2.2.2⟩
  · rw [List.length_set]; exact blk_far h.1 (h.gp h1) _
  · have q := blk_set h.2.1 i (ptrOf y)
    have e : ((ps.map ptrOf).toArray.setIfInBounds i (ptrOf y)) = ((ps.set i y).map ptrOf).toArray := by simp [List.map_set]
    rw [e] at q
    exact q
  · intro j x hj
    rw [List.getElem?_set] at hj
    split at hj
    · split at hj
      · exact hR x (hy x (Option.some.inj hj)).1
      · cases hj
    · exact hR x (h.2.2.1 j x hj)
  · intro j1 j2 x1 x2 hj1 hj2 hne
    rw [List.getElem?_set] at hj1 hj2
    split at hj1
    · rename_i c1
      split at hj1
      · split at hj2
        · rename_i c2; omega
        · exact ((hy x1 (Option.some.inj hj1)).2 j2 x2 hj2 (by omega)).1
      · cases hj1
    · rename_i c1
      split at hj2
      · split at hj2
        · exact ((hy x2 (Option.some.inj hj2)).2 j1 x1 hj1 (by omega)).2
        · cases hj2
      · exact h.2.2.2.1 j1 j2 x1 x2 hj1 hj2 hne
/-- What a step of a table leaves. -/
def TabGo (W0 W w' : World) (g p : Nat) (t tp tr : TypeId) (most : Int) (ps : List (Option (Nat × Value × List Int × Bool))) (S' : List (Option (List Int × Bool))) (ps' : List (Option (Nat × Value × List Int × Bool))) : Prop :=
  Tab W0 w' g p t tp tr most ps' ∧ ps'.map ab = S' ∧ Kept W w' (foot g p ps) ∧ (∀ k, foot g p ps' k → foot g p ps k ∨ W.heap.size ≤ k)
theorem TabGo.refl {W0 W : World} {g p : Nat} {t tp tr : TypeId} {most : Int} {ps : List (Option (Nat × Value × List Int × Bool))} (h : Tab W0 W g p t tp tr most ps) : TabGo W0 W W g p t tp tr most ps (ps.map ab) ps := ⟨h, rfl, Kept.refl _ _, fun k hk => Or.inl hk⟩
theorem TabGo.more {W0 W W1 W2 : World} {g p : Nat} {t tp tr : TypeId} {most : Int} {ps ps' : List (Option (Nat × Value × List Int × Bool))} {S' : List (Option (List Int × Bool))} (h : TabGo W0 W W1 g p t tp tr most ps S' ps') (hb : Below W1.heap.size W1 W2) : TabGo W0 W W2 g p t tp tr most ps S' ps' :=
  ⟨h.1.more hb, h.2.1, h.2.2.1.below hb, h.2.2.2⟩
/-- A slot is closed. -/
theorem Tab.shut {W0 W : World} {g p : Nat} {t tp tr : TypeId} {most : Int} {ps : List (Option (Nat × Value × List Int × Bool))} (h : Tab W0 W g p t tp tr most ps) (i : Nat) (h1 : t ≠ tp) (h2 : tr ≠ tp) (h3 : 5 ≠ tp) :
    TabGo W0 W (W.setCell ⟨p, i, none⟩ (.pointer none)) g p t tp tr most ps ((ps.map ab).set i none) (ps.set i none) := by
  refine ⟨h.put i none (fun x hx => by cases hx) h1 h2 h3, by rw [List.map_set]; rfl, (Kept.refl W _).setCell (Or.inl (Or.inr (Or.inl rfl))) _, ?_⟩
  rintro k (rfl | rfl | ⟨j, x, hx, hk⟩)
  · exact Or.inl (Or.inl rfl)
  · exact Or.inl (Or.inr (Or.inl rfl))
  · rw [List.getElem?_set] at hx
    split at hx
    · split at hx <;> cases hx
    · exact Or.inl (Or.inr (Or.inr ⟨j, x, hx, hk⟩))
/-- A slot is opened: a reader is made. -/
theorem Tab.unshut {W0 W : World} {g p : Nat} {t tp tr : TypeId} {most : Int} {ps : List (Option (Nat × Value × List Int × Bool))} (h : Tab W0 W g p t tp tr most ps) (i : Nat) (h1 : t ≠ tp) (h2 : tr ≠ tp) (h3 : 5 ≠ tp) :
    TabGo W0 W ((W.alloc (.cells #[.int .i64 most, .slice none 0 0, .bool false] tr)).setCell ⟨p, i, none⟩ (.pointer (some ⟨W.heap.size, 0, none⟩))) g p t tp tr most ps ((ps.map ab).set i (some ([], false))) (ps.set i (some (W.heap.size, .slice none 0 0, [], false))) := by
  have hb : Below W.heap.size W (W.alloc (.cells #[.int .i64 most, .slice none 0 0, .bool false] tr)) := below_alloc (Below.refl _ _) _
  have hr := rdr_new W0 W h.2.2.2.2.1 most tr
  refine ⟨(h.more hb).put i (some (W.heap.size, .slice none 0 0, [], false)) ?_ h1 h2 h3, by rw [List.map_set]; rfl, ((Kept.of_below hb _).setCell (Or.inl (Or.inr (Or.inl rfl))) _), ?_⟩
  · intro x hx
    obtain rfl := Option.some.inj hx
    refine ⟨hr, fun j z hz hj => ?_⟩
    have hlt := blk_lt (h.2.2.1 j z hz).1
    refine ⟨⟨fun e => ?_, fun k hk => ?_⟩, ⟨fun e => ?_, fun k hk => ?_⟩⟩
    · simp only at e; omega
    · simp [Value.ownBlock] at hk
    · simp only at e; omega
    · simp [Value.ownBlock]
  · rintro k (rfl | rfl | ⟨j, x, hx, hk⟩)
    · exact Or.inl (Or.inl rfl)
    · exact Or.inl (Or.inr (Or.inl rfl))
    · rw [List.getElem?_set] at hx
      split at hx
      · split at hx
        · obtain rfl := Option.some.inj (Option.some.inj hx)
          rcases hk with rfl | hk
          · exact Or.inr (Nat.le_refl _)
          · simp [Value.ownBlock] at hk
        · cases hx
      · exact Or.inl (Or.inr (Or.inr ⟨j, x, hx, hk⟩))
/-- A slot is fed. -/
theorem Tab.fed {W0 W W1 : World} {g p : Nat} {t tp tr : TypeId} {most : Int} {ps : List (Option (Nat × Value × List Int × Bool))} (h : Tab W0 W g p t tp tr most ps) (i : Nat) (x : Nat × Value × List Int × Bool) (hx : ps[i]? = some (some x)) (row : Option Nat) (hrow : row = none ∨ row = x.2.1.ownBlock) (h1 : t ≠ tr) (h2 : tp ≠ tr) (h3 : t ≠ 5) (h4 : tp ≠ 5) (h5 : 5 ≠ tr) (D : List (List Int) × Int × List Int × Bool) (v' vl : Value)
    (hs : Kd.S (Kd.slice 5 (Kd.int .u8)) 22 W1 W.heap.size (fun k => some k ≠ v'.ownBlock) vl D.1) (hr : Rdr W0 W1 x.1 tr most D.2.2.1 D.2.2.2 v') (hk : KeepBut W W1 x.1 row) (ho : ∀ k, v'.ownBlock = some k → x.2.1.ownBlock = some k ∨ W.heap.size ≤ k) :
    TabGo W0 W W1 g p t tp tr most ps ((ps.map ab).set i (some (D.2.2.1, D.2.2.2))) (ps.set i (some (x.1, v', D.2.2.1, D.2.2.2))) ∧ Kd.S (Kd.slice 5 (Kd.int .u8)) 22 W1 W.heap.size (fun k => ¬ foot g p (ps.set i (some (x.1, v', D.2.2.1, D.2.2.2))) k) vl D.1 := by
  have hK : Kept W W1 (fun k => k = x.1 ∨ x.2.1.ownBlock = some k) := ⟨hk.1, fun j hj hn => hk.2 j hj (fun e => hn (Or.inl e)) (fun e => by
    rcases hrow with hrow | hrow
    · rw [hrow] at e; cases e
    · rw [hrow] at e; exact hn (Or.inr e.symm))⟩
  have hxr := h.2.2.1 i x hx
  have away : ∀ (q : Nat) (u : TypeId) (cells : Array Value), W.heap[q]? = some (.cells cells u (0, 0)) → u ≠ tr → u ≠ 5 → ¬ (q = x.1 ∨ x.2.1.ownBlock = some q) := by
    rintro q u cells hq n1 n2 (rfl | e)
    · have q2 := hq.symm.trans hxr.1
      injection q2 with q2
      injection q2 with _ q3
      exact n1 q3
    · obtain ⟨c2, q1⟩ := Kd.R_typed hxr.2.1 q e
      have q2 := hq.symm.trans q1
      injection q2 with q2
      injection q2 with _ q3
      exact n2 q3
  have hsub : ∀ k, foot g p (ps.set i (some (x.1, v', D.2.2.1, D.2.2.2))) k → foot g p ps k ∨ (W.heap.size ≤ k ∧ v'.ownBlock = some k) := by
    rintro k (rfl | rfl | ⟨j, z, hz, hk'⟩)
    · exact Or.inl (Or.inl rfl)
    · exact Or.inl (Or.inr (Or.inl rfl))
    · rw [List.getElem?_set] at hz
      split at hz
      · split at hz
        · obtain rfl := Option.some.inj (Option.some.inj hz)
          rcases hk' with rfl | hk'
          · exact Or.inl (Or.inr (Or.inr ⟨i, x, hx, Or.inl rfl⟩))
          · rcases ho k hk' with hk2 | hk2
            · exact Or.inl (Or.inr (Or.inr ⟨i, x, hx, Or.inr hk2⟩))
            · exact Or.inr ⟨hk2, hk'⟩
        · cases hz
      · exact Or.inl (Or.inr (Or.inr ⟨j, z, hz, hk'⟩))
  refine ⟨⟨⟨?_, ?_, ?_, ?_, hr.2.2.1, h.2.2.2.2.2⟩, by rw [List.map_set]; rfl, hK.mono (fun k hk' => Or.inr (Or.inr ⟨i, x, hx, hk'⟩)), fun k hk' => (hsub k hk').imp id (fun q => q.1)⟩, ?_⟩
  · rw [List.length_set]; exact blk_kept h.1 hK (away g t _ h.1 h1 h3)
  · have e : (ps.set i (some (x.1, v', D.2.2.1, D.2.2.2))).map ptrOf = ps.map ptrOf := by
      apply List.ext_getElem?
      intro j
      rw [List.map_set, List.getElem?_set]
      split
      · rename_i c; subst c
        rw [List.length_map, List.getElem?_map, hx, if_pos (List.getElem?_eq_some_iff.1 hx).1]
        rfl
      · rfl
    rw [e]
    exact blk_kept h.2.1 hK (away p tp _ h.2.1 h2 h4)
  · intro j z hz
    rw [List.getElem?_set] at hz
    split at hz
    · split at hz
      · obtain rfl := Option.some.inj (Option.some.inj hz)
        exact hr
      · cases hz
    · rename_i c
      have hap := h.2.2.2.1 i j x z hx hz c
      have hzr := h.2.2.1 j z hz
      refine hzr.kept2 hK ?_ ?_ hr.2.2.1
      · rintro (e | e)
        · exact hap.1 e.symm
        · exact Kd.R_ne hxr.2.1 hzr.1 h5 e.symm
      · rintro k hk' (e | e)
        · rw [e] at hk'
          exact Kd.R_ne hzr.2.1 hxr.1 h5 hk'.symm
        · exact hap.2 k e hk'
  · have hnew : ∀ (j : Nat) (z : Nat × Value × List Int × Bool), ps[j]? = some (some z) → i ≠ j → (x.1 ≠ z.1 ∧ ∀ k, v'.ownBlock = some k → z.2.1.ownBlock ≠ some k) ∧ (z.1 ≠ x.1 ∧ ∀ k, z.2.1.ownBlock = some k → v'.ownBlock ≠ some k) := by
      intro j z hz c
      have hap := h.2.2.2.1 i j x z hx hz c
      have hzr := h.2.2.1 j z hz
      have q : ∀ k, v'.ownBlock = some k → z.2.1.ownBlock ≠ some k := by
        intro k hv hz2
        rcases ho k hv with e | e
        · exact hap.2 k e hz2
        · have := Kd.R_lt hzr.2.1 k hz2
          omega
      exact ⟨⟨hap.1, q⟩, ⟨fun e => hap.1 e.symm, fun k hz2 hv => q k hv hz2⟩⟩
    intro j1 j2 x1 x2 hj1 hj2 hne
    rw [List.getElem?_set] at hj1 hj2
    split at hj1
    · rename_i c1
      split at hj1
      · obtain rfl := Option.some.inj (Option.some.inj hj1)
        split at hj2
        · rename_i c2; omega
        · exact (hnew j2 x2 hj2 (by omega)).1
      · cases hj1
    · rename_i c1
      split at hj2
      · split at hj2
        · obtain rfl := Option.some.inj (Option.some.inj hj2)
          exact (hnew j1 x1 hj1 (by omega)).2
        · cases hj2
      · exact h.2.2.2.1 j1 j2 x1 x2 hj1 hj2 hne
  · refine Kd.S_mono (Kd.S_bound hs) (fun k hk' hf => ?_)
    rcases hsub k hf with hf | ⟨_, hf⟩
    · have := h.lt hf
      have := hk'.2.1
      omega
    · exact hk'.1 hf.symm
/-- What opening, closing and feeding come to. -/
def openS (S : List (Option (List Int × Bool))) (id : Int) : Bool × List (Option (List Int × Bool)) :=
  if 0 ≤ id ∧ id < (S.length : Int) ∧ isv S id = false then (true, S.set id.toNat (some ([], false))) else (false, S)
def closeS (S : List (Option (List Int × Bool))) (id : Int) : Bool × List (Option (List Int × Bool)) :=
  if isv S id = true then (true, S.set id.toNat none) else (false, S)
def atS {α : Type} (l : List (Option α)) (id : Int) : Option α := if 0 ≤ id then (l[id.toNat]?).getD none else none
def feedS (m : Nat) (S : List (Option (List Int × Bool))) (id : Int) (b : List Int) : List (List Int) × Int × List (Option (List Int × Bool)) :=
  match atS S id with
  | none => ([], 5, S)
  | some (wt, off) => ((feedv m wt off b).1, (feedv m wt off b).2.1, S.set id.toNat (some ((feedv m wt off b).2.2.1, (feedv m wt off b).2.2.2)))
theorem openS_no (S : List (Option (List Int × Bool))) (id : Int) (h : id < 0 ∨ (S.length : Int) ≤ id ∨ isv S id = true) : openS S id = (false, S) := by
  unfold openS
  rw [if_neg]
  rintro ⟨h1, h2, h3⟩
  rcases h with h | h | h
  · omega
  · omega
  · rw [h] at h3; cases h3
theorem openS_yes (S : List (Option (List Int × Bool))) (i : Nat) (h : S[i]? = some none) : openS S (i : Int) = (true, S.set i (some ([], false))) := by
  have hl := (List.getElem?_eq_some_iff.1 h).1
  unfold openS
  rw [if_pos ⟨by omega, by omega, isv_in S i none h⟩, Int.toNat_natCast]
theorem closeS_no (S : List (Option (List Int × Bool))) (id : Int) (h : isv S id = false) : closeS S id = (false, S) := by
  unfold closeS; rw [if_neg (by rw [h]; decide)]
theorem closeS_yes (S : List (Option (List Int × Bool))) (i : Nat) (x : List Int × Bool) (h : S[i]? = some (some x)) : closeS S (i : Int) = (true, S.set i none) := by
  unfold closeS; rw [if_pos (show isv S (i : Int) = true from isv_in S i _ h), Int.toNat_natCast]
theorem feedS_no (m : Nat) (S : List (Option (List Int × Bool))) (id : Int) (b : List Int) (h : isv S id = false) : feedS m S id b = ([], 5, S) := by
  unfold feedS atS
  unfold isv at h
  split at h
  · rename_i c
    rw [if_pos c]
    cases hq : (S[id.toNat]?).getD none with
    | none => rfl
    | some x => rw [hq] at h; cases h
  · rename_i c; rw [if_neg c]
theorem feedS_yes (m : Nat) (S : List (Option (List Int × Bool))) (i : Nat) (b : List Int) (wt : List Int) (off : Bool) (h : S[i]? = some (some (wt, off))) : feedS m S (i : Int) b = ((feedv m wt off b).1, (feedv m wt off b).2.1, S.set i (some ((feedv m wt off b).2.2.1, (feedv m wt off b).2.2.2))) := by
  have e : atS S (i : Int) = some (wt, off) := by unfold atS; rw [if_pos (by omega), Int.toNat_natCast, h]; rfl
  unfold feedS
  rw [e, Int.toNat_natCast]
/-- The open ones. -/
def listS (S : List (Option (List Int × Bool))) (n : Nat) : List Int := ((List.range n).filter (fun (i : Nat) => isv S (i : Int))).map (fun (i : Nat) => (i : Int))
theorem listS_succ (S : List (Option (List Int × Bool))) (n : Nat) : listS S (n + 1) = if isv S (n : Int) = true then listS S n ++ [(n : Int)] else listS S n := by
  unfold listS
  rw [List.range_succ, List.filter_append, List.map_append]
  split
  · rename_i c; simp [c]
  · rename_i c; simp [c]
theorem listS_len (S : List (Option (List Int × Bool))) (n : Nat) : (listS S n).length ≤ n := by
  unfold listS
  rw [List.length_map]
  exact Nat.le_trans (List.length_filter_le _ _) (by simp)
end Go.Proofs.Ytnhblhhkjnmkkaa.Q
