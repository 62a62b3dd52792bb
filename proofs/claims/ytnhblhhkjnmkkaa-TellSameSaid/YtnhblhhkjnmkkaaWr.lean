/- The writer of messages (package wires): what Num and Text lay behind what is there. No condition but that the bytes are few. -/
import Derived.Test.YtnhblhhkjnmkkaaQ9
import Derived.Test.YtnhblhhkjnmkkaaVa
namespace Go.Proofs.Ytnhblhhkjnmkkaa.Q
open Go.RowKit Go.Proofs.YtnhblhhkjnmkkaaW.PrintWords Go.Proofs.YtnhblhhkjnmkkaaW.PrintLast Go.Proofs.YtnhblhhkjnmkkaaW.PrintMore
open Go.Proofs.Ytnhblhhkjnmkkaa.Sp Go.Proofs.Ytnhblhhkjnmkkaa.Va
set_option linter.unusedVariables false
set_option linter.unusedSimpArgs false
/-- A writer in block g, made since W0, that holds the bytes y. -/
def Wat (W0 W : World) (g : Nat) (y : List Int) : Prop :=
  ∃ v, W.heap[g]? = some (.cells #[v] 133 (0, 0)) ∧ Kd.R (Kd.int .u8) 5 W W0.heap.size (fun _ => True) v y ∧ Below W0.heap.size W0 W ∧ W0.heap.size ≤ g
theorem Wat.below {W0 W : World} {g : Nat} {y : List Int} (h : Wat W0 W g y) : Below W0.heap.size W0 W := by obtain ⟨_, _, _, h, _⟩ := h; exact h
theorem Wat.more {W0 W W1 : World} {g : Nat} {y : List Int} (h : Wat W0 W g y) (hb : Below W.heap.size W W1) : Wat W0 W1 g y := by
  obtain ⟨v, h1, h2, h3, h4⟩ := h
  exact ⟨v, blk_below h1 hb, Kd.R_below h2 hb, below_step h3 hb, h4⟩
set_option maxHeartbeats 1000000 in
theorem wnum (W0 : World) (k g : Nat) (y : List Int) (n : Int) (r : List Int) (W : World) (hw : Wat W0 W g y) (h : varint_Put.f k y (IntKind.u64.wrap n) = some r) :
    Calls Try.prog 105 #[.pointer (some ⟨g, 0, none⟩), .int .i64 n] W fun e w' => e = .returned (.tuple #[]) ∧ Wat W0 w' g r ∧ KeepBut W w' g none ∧ ∀ v t, w'.heap[g]? = some (.cells #[v] t (0, 0)) → ∀ k, v.ownBlock = some k → W.heap.size ≤ k := by
  obtain ⟨v, h1, h2, h3, h4⟩ := hw
  obtain ⟨A, c, rfl, hc, hC⟩ := Kd.R_reads h2
  have HW := Aside0.mk (show Wat W0 W g y from ⟨_, h1, h2, h3, h4⟩)
  have HC := Aside0.mk hC
  have HC' := Aside0.mk hc
  have H := Aside0.mk h
  have hcell : W.cell? ⟨g, 0, none⟩ = some (.slice A y.length c) := blk_cell h1 0
  clear h1 h2 h3 h4 hC hc h
  go_enter Try.func105, Try.ntmps105
  go_wp2_with fail
  refine (varint_Put.calls k _ _ y _ r _ HC.out HC'.out H.out).mono ?_
  rintro e w1 ⟨v1, rfl, ho, hb⟩
  obtain ⟨v0, h1, h2, h3, h4⟩ := HW.out
  have hb1 := blk_below h1 hb
  have hc1 : w1.cell? ⟨g, 0, none⟩ = some v0 := blk_cell hb1 0
  have hf1 : w1.frozen? ⟨g, 0, none⟩ = false := blk_frozen hb1 0
  have HN : Aside0 (Wat W0 (w1.setCell ⟨g, 0, none⟩ v1) g r) := by
    have hs := blk_set hb1 0 v1
    exact ⟨⟨v1, by simpa using hs, Kd.R_set (Kd.R_lower ho h3.size) hb1 (by simp [Kd.int, Kd.scalar]) 0 v1, below_set (below_step h3 hb) h4, h4⟩⟩
  have HN2 : Aside0 (KeepBut W (w1.setCell ⟨g, 0, none⟩ v1) g none ∧ ∀ v t, (w1.setCell ⟨g, 0, none⟩ v1).heap[g]? = some (.cells #[v] t (0, 0)) → ∀ k, v.ownBlock = some k → W.heap.size ≤ k) := by
    refine ⟨(KeepBut.of_below hb g none).set_ 0 _, ?_⟩
    intro v t hv k hk
    have hs := blk_set hb1 0 v1
    rw [hs] at hv
    simp only [Option.some.injEq, Obj.cells.injEq] at hv
    have e : v = v1 := by have h5 := hv.1; simpa using h5.symm
    subst e
    exact Kd.R_base ho k hk
  obtain ⟨A1, c1, rfl⟩ := Kd.R_slice ho
  clear hb1 h1 h2 h3 h4 ho hb HC HC' H
  go_wp2_with fail
  go_end0
  exact ⟨rfl, HN.out, HN2.out⟩
theorem keep_grown {W w1 w2 : World} {g : Nat} {row : Option Nat} (hk : KeepBut W w1 g none) (ho : ∀ k, row = some k → W.heap.size ≤ k) (hg : w1.grownBy w2 row) : KeepBut W w2 g none := by
  refine ⟨Nat.le_trans hk.1 hg.size, fun i hi hne _ => ?_⟩
  exact (hg.block i (Nat.lt_of_lt_of_le hi hk.1) (fun e => by have := ho i e.symm; omega)).trans (hk.2 i hi hne (by simp))
set_option maxHeartbeats 1000000 in
theorem wtext (W0 : World) (k g : Nat) (y : List Int) (s : ByteArray) (r : List Int) (W : World) (hw : Wat W0 W g y) (h : varint_Put.f k y (IntKind.u64.wrap (s.size : Int)) = some r) (hl : r.length + s.size ≤ 140737488355328) :
    Calls Try.prog 111 #[.pointer (some ⟨g, 0, none⟩), .string s] W fun e w' => e = .returned (.tuple #[]) ∧ Wat W0 w' g (r ++ bytesOf s) ∧ KeepBut W w' g none := by
  have HW := Aside0.mk hw
  have H := Aside0.mk h
  have HL := Aside0.mk hl
  have hsz : s.size ≤ 9223372036854775807 := by omega
  clear hw h hl
  go_enter Try.func111, Try.ntmps111
  go_wp2_with fail
  refine (wnum W0 k g y _ r _ HW.out H.out).mono ?_
  rintro e w1 ⟨rfl, hw1, hk1, ho1⟩
  obtain ⟨v, h1, h2, h3, h4⟩ := hw1
  have HK1 := Aside0.mk (And.intro hk1 (ho1 v _ h1))
  clear hk1 ho1
  have hcell : w1.cell? ⟨g, 0, none⟩ = some v := blk_cell h1 0
  have HNE := Aside0.mk (Kd.R_ne h2 h1 (by decide))
  have HBK := Aside0.mk h1
  have HO := Aside0.mk (Kd.own_of_R h2)
  have H3 := Aside0.mk h3
  have H4 := Aside0.mk h4
  obtain ⟨A, c, rfl⟩ := Kd.R_slice h2
  clear h1 h2 h3 h4 HW H
  go_wp2_with (at_builtin; refine print_append_str (w0 := W0) W0.heap.size rfl (.tmp 12) (.tmp 13) 22 9 5 rfl Try.underlying22 Try.underlying9 info5 _ r s rfl rfl HO.out H3.out H3.out.size HL.out ?_; intro v2 w2 ho2 hb2 hg2; have HBK2 := Aside0.mk (blk_grown HBK.out hg2 HNE.out); have HKB := Aside0.mk (keep_grown HK1.out.1 HK1.out.2 hg2); have HO2 := Aside0.mk ho2; have HB2 := Aside0.mk hb2; clear ho2 hb2 hg2 HBK HO H3 HNE hcell; obtain ⟨A2, c2, e2⟩ := own_slice HO2.out; subst e2; have hc2 := blk_cell HBK2.out 0; simp only [List.getElem?_toArray, List.getElem?_cons_zero] at hc2; have hf2 := blk_frozen HBK2.out 0)
  go_end0
  rw [← List.length_append]
  refine ⟨rfl, ⟨.slice A2 (r ++ bytesOf s).length c2, ?_, ?_, below_set HB2.out H4.out, H4.out⟩, HKB.out.set_ 0 _⟩
  · have hs := blk_set HBK2.out 0 (.slice A2 (r ++ bytesOf s).length c2)
    simpa using hs
  · exact Kd.R_set (Kd.R_of_own HO2.out (fun _ _ => trivial)) HBK2.out (by simp [Kd.int, Kd.scalar]) 0 _
theorem wat_new (W0 w : World) (hb : Below W0.heap.size W0 w) (c : Int) : Wat W0 ((w.alloc (.cells #[.int .u8 c] 5)).alloc (.cells #[.slice (some ⟨w.heap.size, 0, none⟩) 1 1] 133)) (w.heap.size + 1) [c] := by
  have hsz : (w.alloc (.cells #[.int .u8 c] 5)).heap.size = w.heap.size + 1 := World.size_alloc _ _
  have h1 : (w.alloc (.cells #[.int .u8 c] 5)).heap[w.heap.size]? = some (.cells #[.int .u8 c] 5 (0, 0)) := heap_alloc_new w _
  refine ⟨.slice (some ⟨w.heap.size, 0, none⟩) 1 1, ?_, ?_, below_alloc (below_alloc hb _) _, by have := hb.size; omega⟩
  · rw [← hsz]; exact heap_alloc_new _ _
  · refine Kd.R_alloc (Kd.R_of_own (h1 := fun _ => rfl) (xs := [c]) (enc := Value.int .u8) ⟨rfl, .inr ⟨w.heap.size, 1, _, rfl, hb.size, h1, Nat.le_refl _, by unfold maxLen; omega, rfl, rfl⟩⟩ (fun _ _ => trivial)) _

/-- Num, in plain words. -/
theorem wnumP (W0 : World) (g : Nat) (y : List Int) (n : Int) (W : World) (hw : Wat W0 W g y) (h0 : 0 ≤ n) (h1 : n ≤ 9223372036854775807) (hl : y.length ≤ 1000000000) :
    Calls Try.prog 105 #[.pointer (some ⟨g, 0, none⟩), .int .i64 n] W fun e w' => e = .returned (.tuple #[]) ∧ Wat W0 w' g (y ++ putv n.toNat) := by
  refine (wnum W0 10 g y n _ W hw ?_).mono (fun e w' h => ⟨h.1, h.2.1⟩)
  have h10 := putv_le10 n.toNat (by omega)
  rw [u64w (n := n) (by omega) (by omega)]
  have h := put_f n.toNat y 10 h10 (by omega)
  rw [Int.toNat_of_nonneg h0] at h
  exact h
/-- Text, in plain words. -/
theorem wtextP (W0 : World) (g : Nat) (y : List Int) (s : ByteArray) (W : World) (hw : Wat W0 W g y) (hs : s.size ≤ 1000000000) (hl : y.length ≤ 1000000000) :
    Calls Try.prog 111 #[.pointer (some ⟨g, 0, none⟩), .string s] W fun e w' => e = .returned (.tuple #[]) ∧ Wat W0 w' g (y ++ putv s.size ++ bytesOf s) := by
  have h10 := putv_le10 s.size (by omega)
  refine (wtext W0 10 g y s _ W hw ?_ (by rw [List.length_append]; omega)).mono (fun e w' h => ⟨h.1, h.2.1⟩)
  rw [u64w (n := (s.size : Int)) (by omega) (by omega)]
  exact put_f s.size y 10 h10 (by omega)
/-- Num and Text, with what they keep. -/
theorem wnumK (W0 : World) (g : Nat) (y : List Int) (n : Int) (W : World) (hw : Wat W0 W g y) (h0 : 0 ≤ n) (h1 : n ≤ 9223372036854775807) (hl : y.length ≤ 1000000000) :
    Calls Try.prog 105 #[.pointer (some ⟨g, 0, none⟩), .int .i64 n] W fun e w' => e = .returned (.tuple #[]) ∧ Wat W0 w' g (y ++ putv n.toNat) ∧ KeepBut W w' g none := by
  refine (wnum W0 10 g y n _ W hw ?_).mono (fun e w' h => ⟨h.1, h.2.1, h.2.2.1⟩)
  have h10 := putv_le10 n.toNat (by omega)
  rw [u64w (n := n) (by omega) (by omega)]
  have h := put_f n.toNat y 10 h10 (by omega)
  rw [Int.toNat_of_nonneg h0] at h
  exact h
theorem wtextK (W0 : World) (g : Nat) (y : List Int) (s : ByteArray) (W : World) (hw : Wat W0 W g y) (hs : s.size ≤ 1000000000) (hl : y.length ≤ 1000000000) :
    Calls Try.prog 111 #[.pointer (some ⟨g, 0, none⟩), .string s] W fun e w' => e = .returned (.tuple #[]) ∧ Wat W0 w' g (y ++ putv s.size ++ bytesOf s) ∧ KeepBut W w' g none := by
  have h10 := putv_le10 s.size (by omega)
  refine wtext W0 10 g y s _ W hw ?_ (by rw [List.length_append]; omega)
  rw [u64w (n := (s.size : Int)) (by omega) (by omega)]
  exact put_f s.size y 10 h10 (by omega)
end Go.Proofs.Ytnhblhhkjnmkkaa.Q
