/- The walks of a table's functions: New and List, of package conns and of the reference. -/
import Derived.Test.YtnhblhhkjnmkkaaCb
import Derived.Test.YtnhblhhkjnmkkaaCc
namespace Go.Proofs.Ytnhblhhkjnmkkaa.Q
open Go.RowKit Go.Proofs.YtnhblhhkjnmkkaaW.PrintWords Go.Proofs.YtnhblhhkjnmkkaaW.PrintLast Go.Proofs.YtnhblhhkjnmkkaaW.PrintMore
open Go.Proofs.Ytnhblhhkjnmkkaa.Sp Go.Proofs.Ytnhblhhkjnmkkaa.Va Go.Proofs.Ytnhblhhkjnmkkaa.Fr
set_option linter.unusedVariables false
set_option linter.unusedSimpArgs false
theorem wpList_make_ptrs {P : Program} (w : World) {ops : Array Oper} {rest : List Oper} {o : Oper} {a : Act} {Q : Exit → Act → World → Prop}
    (hg : o.guard = none) (l c : Operand) (t e : TypeId) (z : Value) (bytes : Nat) (hop : o.op = Op.makeSlice t l c) (ht : P.underlying t = some (.slice e)) (hinfo : (P.info? e).map (fun i => (i.zero, i.size, i.bytes)) = some (some z, 1, bytes)) (hz : z.cells = #[z]) (hb0 : 0 < bytes)
    (n : Nat) (hl : a.eval l = .int .i64 (n : Int)) (hc : a.eval c = .int .i64 (n : Int)) (hn : n * bytes ≤ 281474976710656)
    (hK : wpList P ops Q rest (a.put o.dst (.slice (some ⟨w.heap.size, 0, none⟩) n n)) (w.alloc (.cells (madeCells #[z] n) e))) : wpList P ops Q (o :: rest) a w := by
  refine wpList_plain hg fun K hK' => ?_
  unfold Oper.wp
  simp [execOp, hop, hl, hc, print_make_of t e z bytes ht hinfo hz hb0 n hn w, Result.andThen]
  exact hK' _ _ hK
theorem made_ptrs (n : Nat) : madeCells #[Value.pointer none] n = ((List.replicate n (none : Option (Nat × Value × List Int × Bool))).map ptrOf).toArray := by
  apply Array.ext
  · simp [madeCells]
  · intro i h1 h2
    simp [madeCells, Nat.mod_one, ptrOf]
theorem tab_new (W0 W : World) (hb : Below W0.heap.size W0 W) (n : Nat) (most : Int) (t tp tr : TypeId) :
    Tab W0 ((W.alloc (.cells (madeCells #[.pointer none] n) tp)).alloc (.cells #[.int .i64 most, .slice (some ⟨W.heap.size, 0, none⟩) n n] t)) (W.heap.size + 1) W.heap.size t tp tr most (List.replicate n none) := by
  have h0 : (W.alloc (.cells (madeCells #[.pointer none] n) tp)).heap[W.heap.size]? = _ := heap_alloc_new W _
  have h1 := blk_alloc h0 (.cells #[.int .i64 most, .slice (some ⟨W.heap.size, 0, none⟩) n n] t)
  have h2 := heap_alloc_new (W.alloc (.cells (madeCells #[.pointer none] n) tp)) (.cells #[.int .i64 most, .slice (some ⟨W.heap.size, 0, none⟩) n n] t)
  have hs := hb.size
  have hno : ∀ (i : Nat) (x : Nat × Value × List Int × Bool), (List.replicate n (none : Option (Nat × Value × List Int × Bool)))[i]? ≠ some (some x) := by
    intro i x hx
    rw [List.getElem?_replicate] at hx
    split at hx <;> cases hx
  refine ⟨?_, ?_, fun i x hx => absurd hx (hno i x), fun i j x y hx => absurd hx (hno i x), below_alloc (below_alloc hb _) _, by omega, hs⟩
  · rw [List.length_replicate]; simpa using h2
  · rw [← made_ptrs]; exact h1
theorem info45 : (Try.prog.info? 45).map (fun i => (i.zero, i.size, i.bytes)) = some (some (.pointer none), 1, 8) := by kernel_rfl
theorem info47 : (Try.prog.info? 47).map (fun i => (i.zero, i.size, i.bytes)) = some (some (.pointer none), 1, 8) := by kernel_rfl
theorem cnew_ok (n : Nat) (most : Int) (W : World) (h1 : 1 ≤ n) (h2 : n ≤ 64) (h3 : 1 ≤ most) (h4 : most ≤ 65536) :
    Calls Try.prog 52 #[.int .i64 (n : Int), .int .i64 most] W fun e w' => e = .returned (.tuple #[.pointer (some ⟨W.heap.size + 1, 0, none⟩), .int .i64 0]) ∧ (W.alloc (.cells (madeCells #[.pointer none] n) 45)).alloc (.cells #[.int .i64 most, .slice (some ⟨W.heap.size, 0, none⟩) n n] 121) = w' := by
  have d1 : decide ((n : Int) < 1) = false := decide_eq_false (by omega)
  have d2 : decide (64 < (n : Int)) = false := decide_eq_false (by omega)
  have d3 : decide (most < 1) = false := decide_eq_false (by omega)
  have d4 : decide (65536 < most) = false := decide_eq_false (by omega)
  go_enter Try.func52, Try.ntmps52
  go_wp2_with (at_make; refine wpList_make_ptrs _ rfl _ _ 119 45 (.pointer none) 8 rfl Try.underlying119 info45 rfl (by decide) n rfl rfl (by omega) ?_)
  go_ret2
  exact ⟨by simp, rfl⟩
theorem cnew_bad (n : Int) (most : Int) (W : World) (h : n < 1 ∨ 64 < n ∨ most < 1 ∨ 65536 < most) :
    Calls Try.prog 52 #[.int .i64 n, .int .i64 most] W fun e w' => e = .returned (.tuple #[.pointer none, .int .i64 1]) ∧ W = w' := by
  by_cases c1 : n < 1
  · have d1 : decide (n < 1) = true := decide_eq_true c1
    go_enter Try.func52, Try.ntmps52
    go_wp2_with fail
    go_ret2
    exact ⟨rfl, rfl⟩
  · have d1 : decide (n < 1) = false := decide_eq_false c1
    by_cases c2 : 64 < n
    · have d2 : decide (64 < n) = true := decide_eq_true c2
      go_enter Try.func52, Try.ntmps52
      go_wp2_with fail
      go_ret2
      exact ⟨rfl, rfl⟩
    · have d2 : decide (64 < n) = false := decide_eq_false c2
      by_cases c3 : most < 1
      · have d3 : decide (most < 1) = true := decide_eq_true c3
        go_enter Try.func52, Try.ntmps52
        go_wp2_with fail
        go_ret2
        exact ⟨rfl, rfl⟩
      · have d3 : decide (most < 1) = false := decide_eq_false c3
        have d4 : decide (65536 < most) = true := decide_eq_true (by omega)
        go_enter Try.func52, Try.ntmps52
        go_wp2_with fail
        go_ret2
        exact ⟨rfl, rfl⟩
theorem rnew_calls (n : Nat) (most : Int) (W : World) (h2 : n ≤ 64) :
    Calls Try.prog 53 #[.int .i64 (n : Int), .int .i64 most] W fun e w' => e = .returned (.pointer (some ⟨W.heap.size + 1, 0, none⟩)) ∧ (W.alloc (.cells (madeCells #[.pointer none] n) 47)).alloc (.cells #[.int .i64 most, .slice (some ⟨W.heap.size, 0, none⟩) n n] 124) = w' := by
  go_enter Try.func53, Try.ntmps53
  go_wp2_with (at_make; refine wpList_make_ptrs _ rfl _ _ 122 47 (.pointer none) 8 rfl Try.underlying122 info47 rfl (by decide) n rfl rfl (by omega) ?_)
  go_ret
  exact ⟨by simp, rfl⟩
theorem info3' : (Try.prog.info? 3).map (fun i => (i.zero, i.size, i.bytes)) = some (some (.int .i64 0), 1, 8) := by kernel_rfl
set_option maxHeartbeats 4000000 in
set_option maxRecDepth 100000 in
theorem clist_calls (W0 W : World) (g p : Nat) (most : Int) (ps : List (Option (Nat × Value × List Int × Bool))) (h : Tab W0 W g p 121 45 118 most ps) (hl : ps.length ≤ 1000) (S : List (Option (List Int × Bool))) (hS : ps.map ab = S) :
    Calls Try.prog 63 #[.pointer (some ⟨g, 0, none⟩)] W fun e w' => ∃ A c, e = .returned (.slice A (listS S S.length).length c) ∧ Kd.C (Kd.int .i64) w' A (listS S S.length).length (listS S S.length) ∧ (listS S S.length).length ≤ c ∧ Below W.heap.size W w' := by
  have hc : W.cell? ⟨g, 1, none⟩ = some (.slice (some ⟨p, 0, none⟩) ps.length ps.length) := blk_cell h.1 1
  have hSl : S.length = ps.length := by rw [← hS, List.length_map]
  rw [hSl]
  have HS := Aside0.mk hS
  have H := Aside0.mk h
  clear h hS hSl
  go_enter Try.func63, Try.ntmps63
  go_wp2_with fail
  go_loopg [3, 12] (ps.length + 1) (fun kq v3 v12 w' => ∃ (i : Nat) (A : Option Addr) (c : Nat), v3 = .slice A (listS S i).length c ∧ v12 = .int .i64 (i : Int) ∧ Aside0 (i ≤ ps.length) ∧ Aside0 (kq = ps.length + 1 - i) ∧ Aside0 (Tab W0 w' g p 121 45 118 most ps) ∧ Aside0 (Kd.R (Kd.int .i64) 3 w' W.heap.size (fun _ => True) (.slice A (listS S i).length c) (listS S i)) ∧ Aside0 (Below W.heap.size W w'))
  case atStart => exact ⟨0, none, 0, rfl, rfl, ⟨Nat.zero_le _⟩, ⟨rfl⟩, ⟨H.out⟩, ⟨Kd.R_nil _ _ _ _ _⟩, ⟨Below.refl _ _⟩⟩
  case round =>
    obtain ⟨i, A, c, rfl, rfl, hi, hkq, hT, hR, hB⟩ := hrel
    by_cases c1 : i < ps.length
    · have d1 : decide ((i : Int) < (ps.length : Int)) = true := decide_eq_true (by omega)
      have e0 : 0 ≤ (i : Int) := by omega
      have e4 : (i : Int) < (ps.length : Int) := by omega
      have hcr : wr.cell? ⟨g, 1, none⟩ = some (.slice (some ⟨p, 0, none⟩) ps.length ps.length) := blk_cell hT.out.1 1
      have IS := Aside0.mk (is_calls W0 wr g p most ps hT.out hl (i : Int))
      have hsv : isv S (i : Int) = isv ps (i : Int) := by rw [← HS.out]; exact isv_ab ps _
      have HSV := Aside0.mk hsv
      clear hsv c1
      go_wp2_with fail
      refine IS.out.mono ?_
      rintro e w4 ⟨rfl, rfl⟩
      cases hv : isv ps (i : Int) with
      | false =>
        go_wp2_with fail
        go_roundg (ps.length + 1 - (i + 1))
        case measure => have := hkq.out; have := hi.out; omega
        case rel => exact ⟨i + 1, A, c, by rw [listS_succ, if_neg (by rw [HSV.out, hv]; decide)], by first | (simp [wrap64, w64]; done) | (simp [wrap64, w64]; omega), ⟨by omega⟩, ⟨rfl⟩, hT, ⟨by rw [listS_succ, if_neg (by rw [HSV.out, hv]; decide)]; exact hR.out⟩, hB⟩
      | true =>
        go_wp2_with (at_builtin; refine Kd.R_append (Kd.int .i64) (w0 := W) W.heap.size rfl (.tmp 18) (.tmp 20) 54 3 (.int .i64 0) 8 rfl Try.underlying54 info3' rfl (by decide) (by decide) (.slice A (listS S i).length c) (listS S i) (i : Int) [.int .i64 (i : Int)] (fun _ => True) (fun _ => False) (by simp [Act.eval, Act.put]) (by simp [Act.eval, Act.put]) rfl (fun _ h => h.elim) (fun _ _ => trivial) hR.out hB.out hB.out.size (by have := listS_len S i; omega) ?_; intro v1 w5 ho5 hb5 hg5 hat5; obtain ⟨A5, c5, e5⟩ := Kd.R_slice ho5; subst e5; have HZ := Aside0.mk (And.intro ho5 (And.intro hb5 hg5)); clear ho5 hb5 hg5 hat5)
        go_roundg (ps.length + 1 - (i + 1))
        case measure => have := hkq.out; have := hi.out; omega
        case rel =>
          obtain ⟨ho5, hb5, hg5⟩ := HZ.out
          have e : listS S (i + 1) = listS S i ++ [(i : Int)] := by rw [listS_succ, if_pos (by rw [HSV.out, hv])]
          refine ⟨i + 1, A5, c5, by rw [e, List.length_append]; rfl, by first | (simp [wrap64, w64]; done) | (simp [wrap64, w64]; omega), ⟨by omega⟩, ⟨rfl⟩, ⟨?_⟩, ⟨by rw [e]; exact ho5⟩, ⟨hb5⟩⟩
          refine H.out.kept (Kept.of_below hb5 (fun _ => False)) (fun _ _ h => h) (below_step H.out.2.2.2.2.1 hb5)
    · have hie : i = ps.length := by have := hi.out; omega
      subst hie
      have d1 : decide ((ps.length : Int) < (ps.length : Int)) = false := decide_eq_false (by omega)
      have hcr : wr.cell? ⟨g, 1, none⟩ = some (.slice (some ⟨p, 0, none⟩) ps.length ps.length) := blk_cell hT.out.1 1
      have hrd := Kd.R_reads' hR.out
      have HRD := Aside0.mk hrd
      clear hrd
      go_wp2_with fail
      go_ret
      exact ⟨A, c, rfl, HRD.out.2.2, HRD.out.2.1, hB.out⟩
set_option maxHeartbeats 4000000 in
set_option maxRecDepth 100000 in
theorem rlist_calls (W0 W : World) (g p : Nat) (most : Int) (ps : List (Option (Nat × Value × List Int × Bool))) (h : Tab W0 W g p 124 47 49 most ps) (hl : ps.length ≤ 1000) (S : List (Option (List Int × Bool))) (hS : ps.map ab = S) :
    Calls Try.prog 64 #[.pointer (some ⟨g, 0, none⟩)] W fun e w' => ∃ A c, e = .returned (.slice A (listS S S.length).length c) ∧ Kd.C (Kd.int .i64) w' A (listS S S.length).length (listS S S.length) ∧ (listS S S.length).length ≤ c ∧ Below W.heap.size W w' := by
  have hc : W.cell? ⟨g, 1, none⟩ = some (.slice (some ⟨p, 0, none⟩) ps.length ps.length) := blk_cell h.1 1
  have hSl : S.length = ps.length := by rw [← hS, List.length_map]
  rw [hSl]
  have HS := Aside0.mk hS
  have H := Aside0.mk h
  clear h hS hSl
  go_enter Try.func64, Try.ntmps64
  go_wp2_with fail
  go_loopg [3, 4] (ps.length + 1) (fun kq v3 v12 w' => ∃ (i : Nat) (A : Option Addr) (c : Nat), v3 = .slice A (listS S i).length c ∧ v12 = .int .i64 (i : Int) ∧ Aside0 (i ≤ ps.length) ∧ Aside0 (kq = ps.length + 1 - i) ∧ Aside0 (Tab W0 w' g p 124 47 49 most ps) ∧ Aside0 (Kd.R (Kd.int .i64) 3 w' W.heap.size (fun _ => True) (.slice A (listS S i).length c) (listS S i)) ∧ Aside0 (Below W.heap.size W w'))
  case atStart => exact ⟨0, none, 0, rfl, rfl, ⟨Nat.zero_le _⟩, ⟨rfl⟩, ⟨H.out⟩, ⟨Kd.R_nil _ _ _ _ _⟩, ⟨Below.refl _ _⟩⟩
  case round =>
    obtain ⟨i, A, c, rfl, rfl, hi, hkq, hT, hR, hB⟩ := hrel
    by_cases c1 : i < ps.length
    · have d1 : decide ((i : Int) < (ps.length : Int)) = true := decide_eq_true (by omega)
      have e0 : 0 ≤ (i : Int) := by omega
      have e4 : (i : Int) < (ps.length : Int) := by omega
      have hcr : wr.cell? ⟨g, 1, none⟩ = some (.slice (some ⟨p, 0, none⟩) ps.length ps.length) := blk_cell hT.out.1 1
      have hsv : isv S (i : Int) = isv ps (i : Int) := by rw [← HS.out]; exact isv_ab ps _
      have HSV := Aside0.mk hsv
      obtain ⟨x, hx⟩ : ∃ x, ps[i]? = some x := ⟨_, List.getElem?_eq_getElem c1⟩
      have hc3 := hT.out.cell i hx
      have hxv := isv_in ps i x hx
      have HI := Aside0.mk (rfl : i = i)
      clear hsv c1 hx
      cases x with
      | none =>
        have hv : isv ps (i : Int) = false := hxv
        simp only [ptrOf, Option.map_none, Option.map_some] at hc3
        clear hxv
        go_wp2_with fail
        go_roundg (ps.length + 1 - (i + 1))
        case measure => have := hkq.out; have := hi.out; omega
        case rel => exact ⟨i + 1, A, c, by rw [listS_succ, if_neg (by rw [HSV.out, hv]; decide)], by first | (simp [wrap64, w64]; done) | (simp [wrap64, w64]; omega), ⟨by omega⟩, ⟨rfl⟩, hT, ⟨by rw [listS_succ, if_neg (by rw [HSV.out, hv]; decide)]; exact hR.out⟩, hB⟩
      | some x =>
        have hv : isv ps (i : Int) = true := hxv
        simp only [ptrOf, Option.map_none, Option.map_some] at hc3
        clear hxv
        go_wp2_with (at_builtin; refine Kd.R_append (Kd.int .i64) (w0 := W) W.heap.size rfl (.tmp 22) (.tmp 24) 54 3 (.int .i64 0) 8 rfl Try.underlying54 info3' rfl (by decide) (by decide) (.slice A (listS S i).length c) (listS S i) (i : Int) [.int .i64 (i : Int)] (fun _ => True) (fun _ => False) (by simp [Act.eval, Act.put]) (by simp [Act.eval, Act.put]) rfl (fun _ h => h.elim) (fun _ _ => trivial) hR.out hB.out hB.out.size (by have := listS_len S i; omega) ?_; intro v1 w5 ho5 hb5 hg5 hat5; obtain ⟨A5, c5, e5⟩ := Kd.R_slice ho5; subst e5; have HZ := Aside0.mk (And.intro ho5 (And.intro hb5 hg5)); clear ho5 hb5 hg5 hat5)
        go_roundg (ps.length + 1 - (i + 1))
        case measure => have := hkq.out; have := hi.out; omega
        case rel =>
          obtain ⟨ho5, hb5, hg5⟩ := HZ.out
          have e : listS S (i + 1) = listS S i ++ [(i : Int)] := by rw [listS_succ, if_pos (by rw [HSV.out, hv])]
          refine ⟨i + 1, A5, c5, by rw [e, List.length_append]; rfl, by first | (simp [wrap64, w64]; done) | (simp [wrap64, w64]; omega), ⟨by omega⟩, ⟨rfl⟩, ⟨?_⟩, ⟨by rw [e]; exact ho5⟩, ⟨hb5⟩⟩
          refine H.out.kept (Kept.of_below hb5 (fun _ => False)) (fun _ _ h => h) (below_step H.out.2.2.2.2.1 hb5)
    · have hie : i = ps.length := by have := hi.out; omega
      subst hie
      have d1 : decide ((ps.length : Int) < (ps.length : Int)) = false := decide_eq_false (by omega)
      have hcr : wr.cell? ⟨g, 1, none⟩ = some (.slice (some ⟨p, 0, none⟩) ps.length ps.length) := blk_cell hT.out.1 1
      have hrd := Kd.R_reads' hR.out
      have HRD := Aside0.mk hrd
      clear hrd
      go_wp2_with fail
      go_ret
      exact ⟨A, c, rfl, HRD.out.2.2, HRD.out.2.1, hB.out⟩
end Go.Proofs.Ytnhblhhkjnmkkaa.Q
