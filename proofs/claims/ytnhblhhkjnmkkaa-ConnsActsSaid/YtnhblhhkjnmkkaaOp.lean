/- A row's arguments, opened: of each kind of value that a law takes (whole numbers, texts, bools, slices of these and of structs, structs) a plain Lean value, and that memory holds it. -/
import Derived.Test.YtnhblhhkjnmkkaaWWords
import Derived.SizedLaws
import Derived.ProofKit
import Derived.OpenShut
import Derived.Deep.Slices
import Derived.Lib.SmallJoins
namespace Go.Proofs.Ytnhblhhkjnmkkaa.Op
open Go.RowKit Go.Proofs.YtnhblhhkjnmkkaaW.PrintWords Go.ChangeShapes Go.WideShapes

/-- Whatever reads as data of type t is a value of kind d. -/
def Opens {α : Type} {H : Type} (enc : TypeId × Value → H) (P : Program) (W : World) (t : TypeId) (d : Kd α) (good : α → Prop) : Prop :=
  ∀ (fuel : Nat) (cs : List Value) (x : DataW H × List MemPlace), DataW.trod enc P W 0 (fun _ => true) true fuel t cs = some x → (∀ n ∈ x.1.weights P t, n ≤ reachBytes) → ∃ y : α, d.K W y cs ∧ good y

section
variable {H : Type} {enc : TypeId × Value → H} {P : Program} {W : World}
theorem opens_int {t : TypeId} {k : IntKind} (ht : P.underlying t = some (.int k)) : Opens enc P W t (Kd.int k) (fun n => (Lit.int k n).wf = true) := by
  intro fuel cs x h hw
  obtain ⟨n, rfl, rfl, hn⟩ := DataW.trod_int ht h
  exact ⟨n, rfl, hn⟩
theorem opens_bool {t : TypeId} (ht : P.underlying t = some .bool) : Opens enc P W t Kd.bool (fun _ => True) := by
  intro fuel cs x h hw
  obtain ⟨b, rfl, rfl⟩ := DataW.trod_bool ht h
  exact ⟨b, rfl, trivial⟩
theorem opens_string {t : TypeId} (ht : P.underlying t = some .string) : Opens enc P W t Kd.string (fun s => s.size ≤ 140737488351232) := by
  intro fuel cs x h hw
  obtain ⟨s, rfl, rfl, hs⟩ := DataW.trod_string ht h
  refine ⟨s, rfl, ?_⟩
  have h1 := hw s.data.toList.length (by simp [DataW.weights])
  rw [Array.length_toList] at h1
  exact h1

theorem weights_all {e : TypeId} {d : DataW H} : ∀ {l : List (DataW H)}, d ∈ l → ∀ n ∈ d.weights P e, n ∈ DataW.weightsAll P e l := by
  intro l
  induction l with
  | nil => intro h; cases h
  | cons a l ih =>
    intro h n hn
    rw [DataW.weightsAll]
    rcases List.mem_cons.1 h with rfl | h
    · exact List.mem_append_left _ hn
    · exact List.mem_append_right _ (ih h n hn)

theorem cells_at {a : Addr} {n : Nat} {cs : List Value} (h : W.cells? 0 a n = some cs) : cs.length = n ∧ ∀ i u, cs[i]? = some u → W.cell? (a.add i) = some u := by
  obtain ⟨_, hl, hc⟩ := World.cells?_some h
  refine ⟨hl, fun i u hu => ?_⟩
  have hi : i < n := by rw [← hl]; exact (List.getElem?_eq_some_iff.1 hu).1
  rw [hc i hi]
  exact hu

theorem opens_slice {α : Type} {t e : TypeId} {d : Kd α} {good : α → Prop} (ht : P.underlying t = some (.slice e)) (hc : P.cellsOf e = d.sz) {B : Nat} (hB : P.bytesOf e = B)
    (he : Opens enc P W e d good) : Opens enc P W t (Kd.slice e d) (fun xs => xs.length * B ≤ 140737488351232 ∧ ∀ x ∈ xs, good x) := by
  intro fuel cs x h hw
  rcases Deep.open_slice ht h with ⟨rfl, rfl⟩ | ⟨a, len, cap, m, n, D, Pl, rfl, _, hl, hm, hmm, rfl, hx⟩
  · exact ⟨[], ⟨none, 0, rfl, Nat.le_refl _, Kd.C_nil d W⟩, by simp, by simp⟩
  · simp only [if_true] at hmm
    subst hmm
    have hw2 : ∀ n ∈ (((List.range len).map D).length + ((List.range (m - len)).map fun j => D (len + j)).length) * P.bytesOf e :: (DataW.weightsAll P e ((List.range len).map D) ++ DataW.weightsAll P e ((List.range (m - len)).map fun j => D (len + j))), n ≤ reachBytes := by
      intro n hn
      refine hw n ?_
      simp only [DataW.weights, ht]
      exact hn
    have each : ∀ i, i < len → ∃ y : α, ∃ c, W.cells? 0 (a.add (i * P.cellsOf e)) (P.cellsOf e) = some c ∧ d.K W y c ∧ good y := by
      intro i hi
      obtain ⟨c, hcs, htr⟩ := hx i (by omega)
      obtain ⟨y, hK, hg⟩ := he n c _ htr (fun q hq => hw2 q (List.mem_cons_of_mem _ (List.mem_append_left _ (weights_all (List.mem_map.2 ⟨i, List.mem_range.2 hi, rfl⟩) q hq))))
      exact ⟨y, c, hcs, hK, hg⟩
    have hlist : ∀ k, k ≤ len → ∃ xs : List α, xs.length = k ∧ ∀ i p, xs[i]? = some p → ∃ c, W.cells? 0 (a.add (i * P.cellsOf e)) (P.cellsOf e) = some c ∧ d.K W p c ∧ good p := by
      intro k
      induction k with
      | zero => intro _; exact ⟨[], rfl, by simp⟩
      | succ k ih =>
        intro hk
        obtain ⟨xs, h1, h2⟩ := ih (by omega)
        obtain ⟨y, hy⟩ := each k (by omega)
        refine ⟨xs ++ [y], by simp [h1], fun i p hp => ?_⟩
        rcases Nat.lt_or_ge i xs.length with hi | hi
        · rw [List.getElem?_append_left hi] at hp
          exact h2 i p hp
        · rw [List.getElem?_append_right hi] at hp
          have hi2 : i - xs.length = 0 := by
            rcases Nat.eq_zero_or_pos (i - xs.length) with h0 | h0
            · exact h0
            · rw [List.getElem?_eq_none (by simp; omega)] at hp
              cases hp
          rw [hi2] at hp
          obtain rfl : y = p := by simpa using hp
          obtain rfl : i = k := by omega
          exact hy
    obtain ⟨xs, h1, h2⟩ := hlist len (Nat.le_refl _)
    subst h1
    refine ⟨xs, ⟨some a, m, rfl, hl, rfl, by unfold maxLen at hm; omega, fun _ => ⟨a, rfl, fun j p hj => ?_⟩⟩, ?_, ?_⟩
    · obtain ⟨c, hcs, hK, _⟩ := h2 j p hj
      obtain ⟨hcl, hcc⟩ := cells_at hcs
      refine ⟨c, by rw [hcl, hc], hK, fun i u hu => ?_⟩
      rw [← Deep.add_add, ← hc]
      exact hcc i u hu
    · have h3 := hw2 _ (List.mem_cons_self ..)
      rw [hB] at h3
      simp only [List.length_map, List.length_range] at h3
      have h4 : reachBytes = 140737488351232 := rfl
      rw [h4] at h3
      exact Nat.le_trans (Nat.mul_le_mul_right _ (by omega)) h3
    · intro x hx
      obtain ⟨i, hi⟩ := List.mem_iff_getElem?.1 hx
      obtain ⟨c, _, _, hg⟩ := h2 i x hi
      exact hg

theorem weights_each {d : DataW H} {f : Field} : ∀ {fs : List Field} {l : List (DataW H)} {i : Nat}, fs[i]? = some f → l[i]? = some d → ∀ n ∈ d.weights P f.type, n ∈ DataW.weightsEach P (fs.map (·.type)) l := by
  intro fs l i hf hl n hn
  exact DataW.weights_mem_each (j := i) (by rw [List.getElem?_map, hf]; rfl) hl n hn
/-- The parts of a struct. -/
theorem trod_parts {t : TypeId} {fs : Array Field} {fuel : Nat} {cs : List Value} {x : DataW H × List MemPlace} (ht : P.underlying t = some (.struct fs)) (h : DataW.trod enc P W 0 (fun _ => true) true fuel t cs = some x)
    (hw : ∀ n ∈ x.1.weights P t, n ≤ reachBytes) : cs.length = P.cellsOf t ∧ ∀ (i : Nat) (f : Field), fs[i]? = some f → ∃ n y, DataW.trod enc P W 0 (fun _ => true) true n f.type ((cs.drop f.offset).take (P.cellsOf f.type)) = some y ∧ ∀ q ∈ y.1.weights P f.type, q ≤ reachBytes := by
  obtain ⟨xs, n, _, rfl, hl, hlen, hf⟩ := DataW.trod_struct ht h
  refine ⟨hl, fun i f hi => ?_⟩
  have h1 := hf i f hi
  have hix : i < xs.length := by rw [hlen]; exact (Array.getElem?_eq_some_iff.1 hi).1
  rw [List.getElem?_eq_getElem hix] at h1
  refine ⟨n, xs[i], h1, fun q hq => hw q ?_⟩
  simp only [DataW.weights, ht]
  exact weights_each (i := i) (by simpa using hi) (by rw [List.getElem?_map, List.getElem?_eq_getElem hix]; rfl) q hq
theorem list1 {l : List Value} (h : l.length = 1) : ∃ c0, l = [c0] := by
  match l, h with
  | [c0], _ => exact ⟨c0, rfl⟩
theorem list2 {l : List Value} (h : l.length = 2) : ∃ c0 c1, l = [c0, c1] := by
  match l, h with
  | [c0, c1], _ => exact ⟨c0, c1, rfl⟩
theorem list3 {l : List Value} (h : l.length = 3) : ∃ c0 c1 c2, l = [c0, c1, c2] := by
  match l, h with
  | [c0, c1, c2], _ => exact ⟨c0, c1, c2, rfl⟩
theorem list4 {l : List Value} (h : l.length = 4) : ∃ c0 c1 c2 c3, l = [c0, c1, c2, c3] := by
  match l, h with
  | [c0, c1, c2, c3], _ => exact ⟨c0, c1, c2, c3, rfl⟩
theorem list5 {l : List Value} (h : l.length = 5) : ∃ c0 c1 c2 c3 c4, l = [c0, c1, c2, c3, c4] := by
  match l, h with
  | [c0, c1, c2, c3, c4], _ => exact ⟨c0, c1, c2, c3, c4, rfl⟩
theorem opens_iso {α β : Type} {t : TypeId} {d : Kd α} {good : α → Prop} (f : β → α) (g : α → β) (hfg : ∀ a, f (g a) = a) (h : Opens enc P W t d good) : Opens enc P W t (Kd.iso d f) (fun b => good (f b)) := by
  intro fuel cs x hx hw
  obtain ⟨a, k, q⟩ := h fuel cs x hx hw
  exact ⟨g a, (by show d.K W (f (g a)) cs; rw [hfg]; exact k), (by show good (f (g a)); rw [hfg]; exact q)⟩
theorem opens_struct1 {α0 : Type} {t : TypeId} {f0 : Field} {d0 : Kd α0} {g0 : α0 → Prop} (ht : P.underlying t = some (.struct #[f0])) (hs : P.cellsOf t = 1) (h0 : f0.offset = 0 ∧ P.cellsOf f0.type = 1) (o0 : Opens enc P W f0.type d0 g0) : Opens enc P W t d0 g0 := by
  intro fuel cs x h hw
  obtain ⟨hl, hf⟩ := trod_parts ht h hw
  obtain ⟨c0, rfl⟩ := list1 (hl.trans hs)
  obtain ⟨n0, y0, t0, w0⟩ := hf 0 f0 rfl
  rw [h0.1, h0.2] at t0
  exact o0 n0 _ y0 t0 w0
theorem opens_struct2 {α0 α1 : Type} {t : TypeId} {f0 f1 : Field} {d0 : Kd α0} {g0 : α0 → Prop} {d1 : Kd α1} {g1 : α1 → Prop} (ht : P.underlying t = some (.struct #[f0, f1])) (hs : P.cellsOf t = 2)
    (h0 : f0.offset = 0 ∧ P.cellsOf f0.type = 1) (h1 : f1.offset = 1 ∧ P.cellsOf f1.type = 1)
    (o0 : Opens enc P W f0.type d0 g0) (o1 : Opens enc P W f1.type d1 g1) : Opens enc P W t (Kd.pair d0 d1) (fun x => g0 x.1 ∧ g1 x.2) := by
  intro fuel cs x h hw
  obtain ⟨hl, hf⟩ := trod_parts ht h hw
  obtain ⟨c0, c1, rfl⟩ := list2 (hl.trans hs)
  obtain ⟨n0, y0, t0, w0⟩ := hf 0 f0 rfl
  rw [h0.1, h0.2] at t0
  obtain ⟨x0, k0, q0⟩ := o0 n0 _ y0 t0 w0
  obtain ⟨n1, y1, t1, w1⟩ := hf 1 f1 rfl
  rw [h1.1, h1.2] at t1
  obtain ⟨x1, k1, q1⟩ := o1 n1 _ y1 t1 w1
  exact ⟨(x0, x1), ⟨[c0], [c1], rfl, k0, k1⟩, q0, q1⟩
theorem opens_struct3 {α0 α1 α2 : Type} {t : TypeId} {f0 f1 f2 : Field} {d0 : Kd α0} {g0 : α0 → Prop} {d1 : Kd α1} {g1 : α1 → Prop} {d2 : Kd α2} {g2 : α2 → Prop} (ht : P.underlying t = some (.struct #[f0, f1, f2])) (hs : P.cellsOf t = 3)
    (h0 : f0.offset = 0 ∧ P.cellsOf f0.type = 1) (h1 : f1.offset = 1 ∧ P.cellsOf f1.type = 1) (h2 : f2.offset = 2 ∧ P.cellsOf f2.type = 1)
    (o0 : Opens enc P W f0.type d0 g0) (o1 : Opens enc P W f1.type d1 g1) (o2 : Opens enc P W f2.type d2 g2) : Opens enc P W t (Kd.pair d0 (Kd.pair d1 d2)) (fun x => g0 x.1 ∧ g1 x.2.1 ∧ g2 x.2.2) := by
  intro fuel cs x h hw
  obtain ⟨hl, hf⟩ := trod_parts ht h hw
  obtain ⟨c0, c1, c2, rfl⟩ := list3 (hl.trans hs)
  obtain ⟨n0, y0, t0, w0⟩ := hf 0 f0 rfl
  rw [h0.1, h0.2] at t0
  obtain ⟨x0, k0, q0⟩ := o0 n0 _ y0 t0 w0
  obtain ⟨n1, y1, t1, w1⟩ := hf 1 f1 rfl
  rw [h1.1, h1.2] at t1
  obtain ⟨x1, k1, q1⟩ := o1 n1 _ y1 t1 w1
  obtain ⟨n2, y2, t2, w2⟩ := hf 2 f2 rfl
  rw [h2.1, h2.2] at t2
  obtain ⟨x2, k2, q2⟩ := o2 n2 _ y2 t2 w2
  exact ⟨(x0, x1, x2), ⟨[c0], [c1, c2], rfl, k0, ⟨[c1], [c2], rfl, k1, k2⟩⟩, q0, q1, q2⟩
theorem opens_struct4 {α0 α1 α2 α3 : Type} {t : TypeId} {f0 f1 f2 f3 : Field} {d0 : Kd α0} {g0 : α0 → Prop} {d1 : Kd α1} {g1 : α1 → Prop} {d2 : Kd α2} {g2 : α2 → Prop} {d3 : Kd α3} {g3 : α3 → Prop} (ht : P.underlying t = some (.struct #[f0, f1, f2, f3])) (hs : P.cellsOf t = 4)
    (h0 : f0.offset = 0 ∧ P.cellsOf f0.type = 1) (h1 : f1.offset = 1 ∧ P.cellsOf f1.type = 1) (h2 : f2.offset = 2 ∧ P.cellsOf f2.type = 1) (h3 : f3.offset = 3 ∧ P.cellsOf f3.type = 1)
    (o0 : Opens enc P W f0.type d0 g0) (o1 : Opens enc P W f1.type d1 g1) (o2 : Opens enc P W f2.type d2 g2) (o3 : Opens enc P W f3.type d3 g3) : Opens enc P W t (Kd.pair d0 (Kd.pair d1 (Kd.pair d2 d3))) (fun x => g0 x.1 ∧ g1 x.2.1 ∧ g2 x.2.2.1 ∧ g3 x.2.2.2) := by
  intro fuel cs x h hw
  obtain ⟨hl, hf⟩ := trod_parts ht h hw
  obtain ⟨c0, c1, c2, c3, rfl⟩ := list4 (hl.trans hs)
  obtain ⟨n0, y0, t0, w0⟩ := hf 0 f0 rfl
  rw [h0.1, h0.2] at t0
  obtain ⟨x0, k0, q0⟩ := o0 n0 _ y0 t0 w0
  obtain ⟨n1, y1, t1, w1⟩ := hf 1 f1 rfl
  rw [h1.1, h1.2] at t1
  obtain ⟨x1, k1, q1⟩ := o1 n1 _ y1 t1 w1
  obtain ⟨n2, y2, t2, w2⟩ := hf 2 f2 rfl
  rw [h2.1, h2.2] at t2
  obtain ⟨x2, k2, q2⟩ := o2 n2 _ y2 t2 w2
  obtain ⟨n3, y3, t3, w3⟩ := hf 3 f3 rfl
  rw [h3.1, h3.2] at t3
  obtain ⟨x3, k3, q3⟩ := o3 n3 _ y3 t3 w3
  exact ⟨(x0, x1, x2, x3), ⟨[c0], [c1, c2, c3], rfl, k0, ⟨[c1], [c2, c3], rfl, k1, ⟨[c2], [c3], rfl, k2, k3⟩⟩⟩, q0, q1, q2, q3⟩
theorem opens_struct5 {α0 α1 α2 α3 α4 : Type} {t : TypeId} {f0 f1 f2 f3 f4 : Field} {d0 : Kd α0} {g0 : α0 → Prop} {d1 : Kd α1} {g1 : α1 → Prop} {d2 : Kd α2} {g2 : α2 → Prop} {d3 : Kd α3} {g3 : α3 → Prop} {d4 : Kd α4} {g4 : α4 → Prop} (ht : P.underlying t = some (.struct #[f0, f1, f2, f3, f4])) (hs : P.cellsOf t = 5)
    (h0 : f0.offset = 0 ∧ P.cellsOf f0.type = 1) (h1 : f1.offset = 1 ∧ P.cellsOf f1.type = 1) (h2 : f2.offset = 2 ∧ P.cellsOf f2.type = 1) (h3 : f3.offset = 3 ∧ P.cellsOf f3.type = 1) (h4 : f4.offset = 4 ∧ P.cellsOf f4.type = 1)
    (o0 : Opens enc P W f0.type d0 g0) (o1 : Opens enc P W f1.type d1 g1) (o2 : Opens enc P W f2.type d2 g2) (o3 : Opens enc P W f3.type d3 g3) (o4 : Opens enc P W f4.type d4 g4) : Opens enc P W t (Kd.pair d0 (Kd.pair d1 (Kd.pair d2 (Kd.pair d3 d4)))) (fun x => g0 x.1 ∧ g1 x.2.1 ∧ g2 x.2.2.1 ∧ g3 x.2.2.2.1 ∧ g4 x.2.2.2.2) := by
  intro fuel cs x h hw
  obtain ⟨hl, hf⟩ := trod_parts ht h hw
  obtain ⟨c0, c1, c2, c3, c4, rfl⟩ := list5 (hl.trans hs)
  obtain ⟨n0, y0, t0, w0⟩ := hf 0 f0 rfl
  rw [h0.1, h0.2] at t0
  obtain ⟨x0, k0, q0⟩ := o0 n0 _ y0 t0 w0
  obtain ⟨n1, y1, t1, w1⟩ := hf 1 f1 rfl
  rw [h1.1, h1.2] at t1
  obtain ⟨x1, k1, q1⟩ := o1 n1 _ y1 t1 w1
  obtain ⟨n2, y2, t2, w2⟩ := hf 2 f2 rfl
  rw [h2.1, h2.2] at t2
  obtain ⟨x2, k2, q2⟩ := o2 n2 _ y2 t2 w2
  obtain ⟨n3, y3, t3, w3⟩ := hf 3 f3 rfl
  rw [h3.1, h3.2] at t3
  obtain ⟨x3, k3, q3⟩ := o3 n3 _ y3 t3 w3
  obtain ⟨n4, y4, t4, w4⟩ := hf 4 f4 rfl
  rw [h4.1, h4.2] at t4
  obtain ⟨x4, k4, q4⟩ := o4 n4 _ y4 t4 w4
  exact ⟨(x0, x1, x2, x3, x4), ⟨[c0], [c1, c2, c3, c4], rfl, k0, ⟨[c1], [c2, c3, c4], rfl, k1, ⟨[c2], [c3, c4], rfl, k2, ⟨[c3], [c4], rfl, k3, k4⟩⟩⟩⟩, q0, q1, q2, q3, q4⟩

/-- An argument's datum weighs no more than the row allows. -/
theorem arg_weights {ts : List TypeId} {ds : List (DataW H)} {j : Nat} {t : TypeId} {d : DataW H} (h : (DataW.weightsEach P ts ds).all (· ≤ reachBytes) = true) (ht : ts[j]? = some t) (hd : ds[j]? = some d) : ∀ n ∈ d.weights P t, n ≤ reachBytes :=
  fun n hn => by simpa using List.all_eq_true.1 h n (DataW.weights_mem_each ht hd n hn)
theorem open_struct_arg {α : Type} {r : Reach} {b0 : Nat} {t : TypeId} {fs : Array Field} {v : Value} {d : DataW H} {p : List MemPlace} {dd : Kd α} {good : α → Prop} (ht : P.underlying t = some (.struct fs)) (ho : Opens enc P W t dd good)
    (hv : Value.okWide P W r b0 t v) (h : DataW.Trod enc P W 0 (fun _ => true) true t v d p) (hw : ∀ n ∈ d.weights P t, n ≤ reachBytes) : ∃ (y : α) (cs : List Value), v = .agg cs.toArray ∧ dd.K W y cs ∧ good y := by
  obtain ⟨cs, rfl, _⟩ := okWide_struct ht hv
  obtain ⟨fuel, hf⟩ := h
  obtain ⟨y, k, q⟩ := ho fuel _ _ hf hw
  exact ⟨y, cs.toList, by simp, by simpa [Value.cells] using k, q⟩
theorem open_slice_arg {α : Type} {r : Reach} {b0 : Nat} {t e : TypeId} {v : Value} {d : DataW H} {p : List MemPlace} {dd : Kd α} {good : List α → Prop} (ht : P.underlying t = some (.slice e)) (ho : Opens enc P W t (Kd.slice e dd) good)
    (hv : Value.okWide P W r b0 t v) (h : DataW.Trod enc P W 0 (fun _ => true) true t v d p) (hw : ∀ n ∈ d.weights P t, n ≤ reachBytes) : ∃ (xs : List α) (A : Option Addr) (c : Nat), v = .slice A xs.length c ∧ xs.length ≤ c ∧ dd.C W A xs.length xs ∧ good xs := by
  obtain ⟨a, len, cap, rfl⟩ := okWide_slice ht hv
  obtain ⟨fuel, hf⟩ := h
  obtain ⟨y, ⟨A, c, e1, h1, h2⟩, q⟩ := ho fuel _ _ hf hw
  simp [Value.cells] at e1
  obtain ⟨rfl, rfl, rfl⟩ := e1
  exact ⟨y, a, cap, rfl, h1, h2, q⟩
end
end Go.Proofs.Ytnhblhhkjnmkkaa.Op
