/- The walks of a table's functions: the reference's. -/
import Derived.Test.YtnhblhhkjnmkkaaCa
import Derived.Test.YtnhblhhkjnmkkaaRb
namespace Go.Proofs.Ytnhblhhkjnmkkaa.Q
open Go.RowKit Go.Proofs.YtnhblhhkjnmkkaaW.PrintWords Go.Proofs.YtnhblhhkjnmkkaaW.PrintLast Go.Proofs.YtnhblhhkjnmkkaaW.PrintMore
open Go.Proofs.Ytnhblhhkjnmkkaa.Sp Go.Proofs.Ytnhblhhkjnmkkaa.Va Go.Proofs.Ytnhblhhkjnmkkaa.Fr
set_option linter.unusedVariables false
set_option linter.unusedSimpArgs false
set_option maxHeartbeats 4000000 in
set_option maxRecDepth 100000 in
theorem ris_calls (W0 W : World) (g p : Nat) (most : Int) (ps : List (Option (Nat × Value × List Int × Bool))) (h : Tab W0 W g p 124 47 49 most ps) (hl : ps.length ≤ 1000) (id : Int) :
    Calls Try.prog 61 #[.pointer (some ⟨g, 0, none⟩), .int .i64 id] W fun e w' => e = .returned (.bool (isv ps id)) ∧ W = w' := by
  have hc0 : W.cell? ⟨g, 0, none⟩ = some (.int .i64 most) := blk_cell h.1 0
  have hc : W.cell? ⟨g, 1, none⟩ = some (.slice (some ⟨p, 0, none⟩) ps.length ps.length) := blk_cell h.1 1
  rcases slot_cases ps id with h1 | h1 | ⟨i, rfl, hi, hx | ⟨x, hx⟩⟩
  · rw [isv_neg _ _ h1]
    have d1 : decide (0 ≤ id) = false := decide_eq_false (by omega)
    clear h1 h
    go_enter Try.func61, Try.ntmps61
    go_wp2_with fail
    go_ret
    exact ⟨rfl, rfl⟩
  · rw [isv_out _ _ h1]
    have d1 : decide (0 ≤ id) = true := decide_eq_true (by omega)
    have d2 : decide (id < (ps.length : Int)) = false := decide_eq_false (by omega)
    clear h1 h
    go_enter Try.func61, Try.ntmps61
    go_wp2_with fail
    go_ret
    exact ⟨rfl, rfl⟩
  · have d1 : decide (0 ≤ (i : Int)) = true := decide_eq_true (by omega)
    have d2 : decide ((i : Int) < (ps.length : Int)) = true := decide_eq_true (by omega)
    have e0 : 0 ≤ (i : Int) := by omega
    have e4 : (i : Int) < (ps.length : Int) := by omega
    have hc2 := h.cell i hx
    rw [isv_in _ _ _ hx]
    simp only [ptrOf, Option.map_none, Option.map_some, Option.isSome_none, Option.isSome_some] at hc2 ⊢
    clear h hx
    go_enter Try.func61, Try.ntmps61
    go_wp2_with fail
    go_ret
    exact ⟨rfl, rfl⟩
  · have d1 : decide (0 ≤ (i : Int)) = true := decide_eq_true (by omega)
    have d2 : decide ((i : Int) < (ps.length : Int)) = true := decide_eq_true (by omega)
    have e0 : 0 ≤ (i : Int) := by omega
    have e4 : (i : Int) < (ps.length : Int) := by omega
    have hc2 := h.cell i hx
    rw [isv_in _ _ _ hx]
    simp only [ptrOf, Option.map_none, Option.map_some, Option.isSome_none, Option.isSome_some] at hc2 ⊢
    clear h hx
    go_enter Try.func61, Try.ntmps61
    go_wp2_with fail
    go_ret
    exact ⟨rfl, rfl⟩

set_option maxHeartbeats 4000000 in
set_option maxRecDepth 100000 in
theorem ropen_calls (W0 W : World) (g p : Nat) (most : Int) (ps : List (Option (Nat × Value × List Int × Bool))) (h : Tab W0 W g p 124 47 49 most ps) (hl : ps.length ≤ 1000) (id : Int) :
    Calls Try.prog 55 #[.pointer (some ⟨g, 0, none⟩), .int .i64 id] W fun e w' => e = .returned (.bool (openS (ps.map ab) id).1) ∧ ∃ ps', TabGo W0 W w' g p 124 47 49 most ps (openS (ps.map ab) id).2 ps' := by
  have hc0 : W.cell? ⟨g, 0, none⟩ = some (.int .i64 most) := blk_cell h.1 0
  have hc : W.cell? ⟨g, 1, none⟩ = some (.slice (some ⟨p, 0, none⟩) ps.length ps.length) := blk_cell h.1 1
  rcases slot_cases ps id with h1 | h1 | ⟨i, rfl, hi, hx | ⟨x, hx⟩⟩
  · rw [openS_no _ _ (Or.inl h1)]
    have d1 : decide (id < 0) = true := decide_eq_true h1
    clear h1 hl
    have H := Aside0.mk h
    clear h
    go_enter Try.func55, Try.ntmps55
    go_wp2_with fail
    go_ret
    exact ⟨rfl, _, TabGo.refl H.out⟩
  · rw [openS_no _ _ (Or.inr (Or.inl (by simpa using h1)))]
    have d1 : decide (id < 0) = false := decide_eq_false (by omega)
    have d2 : decide ((ps.length : Int) ≤ id) = true := decide_eq_true h1
    clear h1 hl
    have H := Aside0.mk h
    clear h
    go_enter Try.func55, Try.ntmps55
    go_wp2_with fail
    go_ret
    exact ⟨rfl, _, TabGo.refl H.out⟩
  · have d1 : decide ((i : Int) < 0) = false := decide_eq_false (by omega)
    have d2 : decide ((ps.length : Int) ≤ (i : Int)) = false := decide_eq_false (by omega)
    have e0 : 0 ≤ (i : Int) := by omega
    have e4 : (i : Int) < (ps.length : Int) := by omega
    have hz := (h.unshut i (by decide) (by decide) (by decide)).more (below_drew (Below.refl _ _))
    have ha1 : (W.alloc (.cells #[.int .i64 most, .slice none 0 0, .bool false] 49)).cell? ⟨g, 1, none⟩ = some (.slice (some ⟨p, 0, none⟩) ps.length ps.length) := blk_cell (blk_alloc h.1 _) 1
    have hc9 := h.cell i hx
    simp only [ptrOf, Option.map_none] at hc9
    have hap := blk_alloc h.2.1 (.cells #[.int .i64 most, .slice none 0 0, .bool false] 49)
    have hv : isv ps (i : Int) = false := isv_in _ _ _ hx
    have hs : openS (ps.map ab) (i : Int) = (true, (ps.map ab).set i (some ([], false))) := openS_yes _ i (by rw [List.getElem?_map, hx]; rfl)
    rw [hs]
    have hc3 : (W.alloc (.cells #[.int .i64 most, .slice none 0 0, .bool false] 49)).cell? ⟨p, i, none⟩ = some (.pointer none) := by rw [blk_cell hap i]; simp [List.getElem?_map, hx, ptrOf]
    have hfz := blk_frozen hap i
    clear hap
    have HZ := Aside0.mk hz
    clear hz
    clear hl hx
    have H := Aside0.mk h
    clear h
    go_enter Try.func55, Try.ntmps55
    go_wp2_with fail
    go_region
    all_goals
      go_wp2_with fail
      go_ret
      exact ⟨rfl, _, HZ.out⟩
  · have d1 : decide ((i : Int) < 0) = false := decide_eq_false (by omega)
    have d2 : decide ((ps.length : Int) ≤ (i : Int)) = false := decide_eq_false (by omega)
    have e0 : 0 ≤ (i : Int) := by omega
    have e4 : (i : Int) < (ps.length : Int) := by omega
    have hv : isv ps (i : Int) = true := isv_in _ _ _ hx
    rw [openS_no _ _ (Or.inr (Or.inr (by rw [isv_ab]; exact hv)))]
    have hc3 := h.cell i hx
    simp only [ptrOf, Option.map_some] at hc3
    clear hl hx
    have H := Aside0.mk h
    clear h
    go_enter Try.func55, Try.ntmps55
    go_wp2_with fail
    go_ret
    exact ⟨rfl, _, TabGo.refl H.out⟩

set_option maxHeartbeats 4000000 in
set_option maxRecDepth 100000 in
theorem rclose_calls (W0 W : World) (g p : Nat) (most : Int) (ps : List (Option (Nat × Value × List Int × Bool))) (h : Tab W0 W g p 124 47 49 most ps) (hl : ps.length ≤ 1000) (id : Int) :
    Calls Try.prog 57 #[.pointer (some ⟨g, 0, none⟩), .int .i64 id] W fun e w' => e = .returned (.bool (closeS (ps.map ab) id).1) ∧ ∃ ps', TabGo W0 W w' g p 124 47 49 most ps (closeS (ps.map ab) id).2 ps' := by
  have hc0 : W.cell? ⟨g, 0, none⟩ = some (.int .i64 most) := blk_cell h.1 0
  have hc : W.cell? ⟨g, 1, none⟩ = some (.slice (some ⟨p, 0, none⟩) ps.length ps.length) := blk_cell h.1 1
  cases hv : isv ps id with
  | false =>
    have IS := Aside0.mk (ris_calls W0 W g p most ps h hl id)
    rw [hv] at IS
    rw [closeS_no _ _ (by rw [isv_ab]; exact hv)]
    have H := Aside0.mk h
    clear h hl
    go_enter Try.func57, Try.ntmps57
    go_wp2_with fail
    refine IS.out.mono ?_
    rintro e w1 ⟨rfl, rfl⟩
    go_wp2_with fail
    go_ret
    exact ⟨rfl, _, TabGo.refl H.out⟩
  | true =>
    have IS := Aside0.mk (ris_calls W0 W g p most ps h hl id)
    rw [hv] at IS
    obtain ⟨i, x, rfl, hi, hx⟩ := isv_some ps id hv
    have e0 : 0 ≤ (i : Int) := by omega
    have e4 : (i : Int) < (ps.length : Int) := by omega
    have hc3 := h.cell i hx
    simp only [ptrOf, Option.map_some] at hc3
    have hfz := blk_frozen h.2.1 i
    have HZ := Aside0.mk (h.shut i (by decide) (by decide) (by decide))
    rw [closeS_yes _ i x.2.2 (by rw [List.getElem?_map, hx]; rfl)]
    clear h hl hx hv
    go_enter Try.func57, Try.ntmps57
    go_wp2_with fail
    refine IS.out.mono ?_
    rintro e w1 ⟨rfl, rfl⟩
    go_wp2_with fail
    go_ret
    exact ⟨rfl, _, HZ.out⟩

set_option maxHeartbeats 4000000 in
set_option maxRecDepth 100000 in
theorem rtfeed_calls (W0 W : World) (g p : Nat) (most : Int) (ps : List (Option (Nat × Value × List Int × Bool))) (h : Tab W0 W g p 124 47 49 most ps) (hl : ps.length ≤ 1000) (id : Int) (A : Option Addr) (c : Nat) (b : List Int) (hC : Kd.C (Kd.int .u8) W A b.length b) (hcc : b.length ≤ c) (hb : Bytes b) (hsz : ∀ (i : Nat) (x : Nat × Value × List Int × Bool), ps[i]? = some (some x) → Bytes x.2.2.1 ∧ x.2.2.1.length + b.length ≤ 1000000) :
    Calls Try.prog 59 #[.pointer (some ⟨g, 0, none⟩), .int .i64 id, .slice A b.length c] W fun e w' => ∃ vl ps', e = .returned (.tuple #[vl, .int .i64 (feedS (lim most) (ps.map ab) id b).2.1]) ∧ Kd.S (Kd.slice 5 (Kd.int .u8)) 22 w' W.heap.size (fun k => ¬ foot g p ps' k) vl (feedS (lim most) (ps.map ab) id b).1 ∧ TabGo W0 W w' g p 124 47 49 most ps (feedS (lim most) (ps.map ab) id b).2.2 ps' := by
  have hc0 : W.cell? ⟨g, 0, none⟩ = some (.int .i64 most) := blk_cell h.1 0
  have hc : W.cell? ⟨g, 1, none⟩ = some (.slice (some ⟨p, 0, none⟩) ps.length ps.length) := blk_cell h.1 1
  cases hv : isv ps id with
  | false =>
    have IS := Aside0.mk (ris_calls W0 W g p most ps h hl id)
    rw [hv] at IS
    rw [feedS_no _ _ _ _ (by rw [isv_ab]; exact hv)]
    have H := Aside0.mk h
    clear h hl hC hsz hb
    go_enter Try.func59, Try.ntmps59
    go_wp2_with fail
    refine IS.out.mono ?_
    rintro e w1 ⟨rfl, rfl⟩
    go_wp2_with fail
    go_ret2
    exact ⟨_, _, rfl, Kd.S_nil _ _ _ _ _, TabGo.refl H.out⟩
  | true =>
    have IS := Aside0.mk (ris_calls W0 W g p most ps h hl id)
    rw [hv] at IS
    obtain ⟨i, x, rfl, hi, hx⟩ := isv_some ps id hv
    have e0 : 0 ≤ (i : Int) := by omega
    have e4 : (i : Int) < (ps.length : Int) := by omega
    have hc3 := h.cell i hx
    simp only [ptrOf, Option.map_some] at hc3
    have hsx := hsz i x hx
    have HF := Aside0.mk (rfeed_calls W0 W x.1 most x.2.2.1 x.2.2.2 x.2.1 (h.2.2.1 i x hx) hsx.1 A c b hC hcc hb hsx.2)
    rw [feedS_yes (lim most) (ps.map ab) i b x.2.2.1 x.2.2.2 (by rw [List.getElem?_map, hx]; rfl)]
    have HX := Aside0.mk (And.intro h hx)
    clear h hl hx hv hC hb hsz hsx
    go_enter Try.func59, Try.ntmps59
    go_wp2_with fail
    refine IS.out.mono ?_
    rintro e w1 ⟨rfl, rfl⟩
    go_wp2_with fail
    refine HF.out.mono ?_
    rintro e w2 ⟨vl, v', rfl, hs, hr, hk, ho⟩
    have HZ := Aside0.mk (HX.out.1.fed i x HX.out.2 _ (Or.inl rfl) (by decide) (by decide) (by decide) (by decide) (by decide) _ v' vl hs hr hk ho)
    clear hs hr hk ho HF
    go_wp2_with fail
    go_ret2
    exact ⟨_, _, rfl, HZ.out.2, HZ.out.1⟩
end Go.Proofs.Ytnhblhhkjnmkkaa.Q
