/- Blocks of cells that are the call's own; literals that are read. -/
import Derived.Test.YtnhblhhkjnmkkaaVa
namespace Go.Proofs.Ytnhblhhkjnmkkaa.Q
open Go.RowKit Go.Proofs.YtnhblhhkjnmkkaaW.PrintWords Go.Proofs.YtnhblhhkjnmkkaaW.PrintLast Go.Proofs.YtnhblhhkjnmkkaaW.PrintMore
set_option linter.unusedVariables false
set_option linter.unusedSimpArgs false
/-- A cell of its own: one value in a block of one. -/
def One (W : World) (g : Nat) (v : Value) : Prop := ∃ t, W.heap[g]? = some (.cells #[v] t (0, 0))
theorem One.cell {W : World} {g : Nat} {v : Value} (h : One W g v) : W.cell? ⟨g, 0, none⟩ = some v := by obtain ⟨t, h⟩ := h; exact blk_cell h 0
theorem One.frozen {W : World} {g : Nat} {v : Value} (h : One W g v) : W.frozen? ⟨g, 0, none⟩ = false := by obtain ⟨t, h⟩ := h; exact blk_frozen h 0
theorem One.below {W W1 : World} {g : Nat} {v : Value} (h : One W g v) (hb : Below W.heap.size W W1) : One W1 g v := by obtain ⟨t, h⟩ := h; exact ⟨t, blk_below h hb⟩
theorem One.set_ {W : World} {g : Nat} {v : Value} (h : One W g v) (v' : Value) : One (W.setCell ⟨g, 0, none⟩ v') g v' := by obtain ⟨t, h⟩ := h; exact ⟨t, by simpa using blk_set h 0 v'⟩
theorem One.far {W : World} {g g' : Nat} {v : Value} (h : One W g v) (hne : g ≠ g') (v' : Value) : One (W.setCell ⟨g', 0, none⟩ v') g v := by obtain ⟨t, h⟩ := h; exact ⟨t, blk_far h hne v'⟩
theorem One.but {W W1 : World} {g g' : Nat} {v : Value} (h : One W g v) (hk : KeepBut W W1 g' none) (hne : g ≠ g') : One W1 g v := by
  obtain ⟨t, h⟩ := h; exact ⟨t, (hk.2 g (blk_lt h) hne (by simp)).trans h⟩
theorem one_new (W : World) (v : Value) (t : TypeId) (g : Nat) (hg : W.heap.size = g) : One (W.alloc (.cells #[v] t)) g v := ⟨t, by subst hg; simpa using heap_alloc_new W (.cells #[v] t)⟩
theorem One.drew {W : World} {g : Nat} {v : Value} (h : One W g v) : One W.drew g v := by obtain ⟨t, h⟩ := h; exact ⟨t, blk_drew h⟩
theorem One.alloc {W : World} {g : Nat} {v : Value} (h : One W g v) (o : Obj) : One (W.alloc o) g v := by obtain ⟨t, h⟩ := h; exact ⟨t, blk_alloc h o⟩
/-- A block of its own: so many cells. -/
def Blk (W : World) (g : Nat) (vs : Array Value) : Prop := ∃ t, W.heap[g]? = some (.cells vs t (0, 0))
theorem Blk.cell {W : World} {g : Nat} {vs : Array Value} (h : Blk W g vs) (i : Nat) : W.cell? ⟨g, i, none⟩ = vs[i]? := by obtain ⟨t, h⟩ := h; exact blk_cell h i
theorem Blk.frozen {W : World} {g : Nat} {vs : Array Value} (h : Blk W g vs) (i : Nat) : W.frozen? ⟨g, i, none⟩ = false := by obtain ⟨t, h⟩ := h; exact blk_frozen h i
theorem Blk.below {W W1 : World} {g : Nat} {vs : Array Value} (h : Blk W g vs) (hb : Below W.heap.size W W1) : Blk W1 g vs := by obtain ⟨t, h⟩ := h; exact ⟨t, blk_below h hb⟩
theorem Blk.set_ {W : World} {g : Nat} {vs : Array Value} (h : Blk W g vs) (i : Nat) (v : Value) : Blk (W.setCell ⟨g, i, none⟩ v) g (vs.setIfInBounds i v) := by obtain ⟨t, h⟩ := h; exact ⟨t, by simpa using blk_set h i v⟩
theorem Blk.far {W : World} {g g' : Nat} {vs : Array Value} (h : Blk W g vs) (hne : g ≠ g') (i : Nat) (v : Value) : Blk (W.setCell ⟨g', i, none⟩ v) g vs := by obtain ⟨t, h⟩ := h; exact ⟨t, blk_far h hne v⟩
theorem Blk.but {W W1 : World} {g g' : Nat} {vs : Array Value} (h : Blk W g vs) (hk : KeepBut W W1 g' none) (hne : g ≠ g') : Blk W1 g vs := by
  obtain ⟨t, h⟩ := h; exact ⟨t, (hk.2 g (blk_lt h) hne (by simp)).trans h⟩
theorem Blk.alloc {W : World} {g : Nat} {vs : Array Value} (h : Blk W g vs) (o : Obj) : Blk (W.alloc o) g vs := by obtain ⟨t, h⟩ := h; exact ⟨t, blk_alloc h o⟩
theorem Blk.drew {W : World} {g : Nat} {vs : Array Value} (h : Blk W g vs) : Blk W.drew g vs := by obtain ⟨t, h⟩ := h; exact ⟨t, blk_drew h⟩
theorem blk_one (W : World) (vs : Array Value) (t : TypeId) (g : Nat) (hg : W.heap.size = g) : Blk (W.alloc (.cells vs t)) g vs := ⟨t, by subst hg; simpa using heap_alloc_new W (.cells vs t)⟩
theorem One.far' {W : World} {g g' : Nat} {v : Value} (h : One W g v) (hne : g ≠ g') (i : Nat) (v' : Value) : One (W.setCell ⟨g', i, none⟩ v') g v := by obtain ⟨t, h⟩ := h; exact ⟨t, blk_far h hne v'⟩
end Go.Proofs.Ytnhblhhkjnmkkaa.Q
namespace Go.Proofs.Ytnhblhhkjnmkkaa.Q
open Go.RowKit Go.Proofs.YtnhblhhkjnmkkaaW.PrintWords Go.Proofs.YtnhblhhkjnmkkaaW.PrintLast Go.Proofs.YtnhblhhkjnmkkaaW.PrintMore
open Go.Proofs.Ytnhblhhkjnmkkaa.Sp Go.Proofs.Ytnhblhhkjnmkkaa.Va
set_option linter.unusedVariables false
set_option linter.unusedSimpArgs false
theorem lit_bytes (W : World) (e : TypeId) (fr : Nat × Nat) (l : List Int) (g : Nat) (hg : W.heap.size = g) (hl : l.length ≤ 1000) : Kd.C (Kd.int .u8) (W.alloc (.cells (nums .u8 l).toArray e fr)) (some ⟨g, 0, none⟩) l.length l := by
  subst hg
  refine Kd.C_of_reads (enc := Value.int .u8) (d := (0 : Int)) (h1 := fun _ => rfl) ⟨rfl, by omega, fun _ => ⟨_, rfl, fun j hj => ?_⟩⟩
  rw [add_plain, cell_of_row _ W.heap.size j (nums .u8 l).toArray e fr (heap_alloc_new W _)]
  simp [nums, List.getElem?_eq_getElem hj, List.getD_eq_getElem?_getD]
theorem lit_one {α : Type} (d : Kd α) (W : World) (x : α) (cs : List Value) (e : TypeId) (g : Nat) (hg : W.heap.size = g) (hk : d.K W x cs) : Kd.C d (W.alloc (.cells cs.toArray e)) (some ⟨g, 0, none⟩) 1 [x] := by
  subst hg
  refine ⟨rfl, by omega, fun _ => ⟨_, rfl, fun j p hj => ?_⟩⟩
  have hj0 : j = 0 := by
    have := (List.getElem?_eq_some_iff.1 hj).1
    simp at this; omega
  subst hj0
  obtain rfl : x = p := by simpa using hj
  refine ⟨cs, d.K_len hk, d.K_below (below_alloc (Below.refl _ _) _) hk, fun i u hu => ?_⟩
  rw [add_plain, blk_cell (heap_alloc_new W _)]
  simpa using hu
end Go.Proofs.Ytnhblhhkjnmkkaa.Q
