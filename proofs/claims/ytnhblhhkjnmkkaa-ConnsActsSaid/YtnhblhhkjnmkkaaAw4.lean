/- The awake of the reasm laws: what it asks at fixed inputs, walked once. -/
import Derived.Test.YtnhblhhkjnmkkaaRa
namespace Go.Proofs.Ytnhblhhkjnmkkaa.Q
open Go.RowKit Go.Proofs.YtnhblhhkjnmkkaaW.PrintWords Go.Proofs.YtnhblhhkjnmkkaaW.PrintLast Go.Proofs.YtnhblhhkjnmkkaaW.PrintMore
open Go.Proofs.Ytnhblhhkjnmkkaa.Sp Go.Proofs.Ytnhblhhkjnmkkaa.Va Go.Proofs.Ytnhblhhkjnmkkaa.Fr
set_option linter.unusedVariables false
set_option linter.unusedSimpArgs false
theorem feed_nil (W : World) (b : Value) : Calls Try.prog 45 #[.pointer none, b] W fun e w' => e = .returned (.tuple #[.slice none 0 0, .int .i64 7]) ∧ W = w' := by
  go_enter Try.func45, Try.ntmps45
  go_wp2_with fail
  refine (off_nil W).mono ?_
  rintro e w1 ⟨rfl, rfl⟩
  go_wp2_with fail
  go_ret2
  exact ⟨rfl, rfl⟩
/-- Rows told elder than a feeding stay. -/
theorem S_feed {w w1 : World} {g base : Nat} {t : TypeId} {cells : Array Value} {v vl : Value} {rows : List (List Int)} (h : Kd.S (Kd.slice 5 (Kd.int .u8)) 22 w base (fun k => some k ≠ v.ownBlock) vl rows) (hb : w.heap[g]? = some (.cells cells t (0, 0))) (ht : ∀ q, q ∈ [22, 5] → q ≠ t) (hk : KeepBut w w1 g v.ownBlock) : Kd.S (Kd.slice 5 (Kd.int .u8)) 22 w1 base (fun _ => True) vl rows :=
  Kd.S_mono (Kd.S_step (Kd.S_types h hb ht) (fun k hk' hlt => hk.2 k hlt hk'.2 hk'.1)) (fun _ _ => trivial)
/-- What a feeding at fixed bytes leaves. -/
def FedSaid (W0 W : World) (g : Nat) (v : Value) (rows : List (List Int)) (e : Int) (w : List Int) (off : Bool) (e' : Ending) (w' : World) : Prop :=
  ∃ A' c' v', e' = .returned (.tuple #[.slice A' rows.length c', .int .i64 e]) ∧ Kd.S (Kd.slice 5 (Kd.int .u8)) 22 w' W0.heap.size (fun k => some k ≠ v'.ownBlock) (.slice A' rows.length c') rows ∧ Rdr W0 w' g 118 9 w off v' ∧ KeepBut W w' g v.ownBlock
theorem a4_feed (W0 W : World) (g : Nat) (w : List Int) (off : Bool) (v : Value) (hr : Rdr W0 W g 118 9 w off v) (hw : Bytes w) (b : List Int) (hb : Bytes b) (hl : w.length + b.length ≤ 1000) (rows : List (List Int)) (e : Int) (w2 : List Int) (off2 : Bool) (hf : feedv (lim 9) w off b = (rows, e, w2, off2)) :
    Calls Try.prog 45 #[.pointer (some ⟨g, 0, none⟩), .slice (some ⟨W.heap.size, 0, none⟩) b.length b.length] (W.alloc (.cells (nums .u8 b).toArray 5)) (FedSaid W0 W g v rows e w2 off2) := by
  have hb1 : Below W.heap.size W (W.alloc (.cells (nums .u8 b).toArray 5)) := below_alloc (Below.refl _ _) _
  refine (feed_calls W0 _ g 9 w off v (hr.more hb1) hw _ _ b (lit_bytes W 5 (0, 0) b _ rfl (by omega)) (Nat.le_refl _) hb (by omega)).mono ?_
  rintro e' w' ⟨vl, v', rfl, hs, hr', hk, _⟩
  rw [hf] at hs hr'
  rw [hf]
  obtain ⟨A', c', ev⟩ := Kd.S_slice hs
  subst ev
  exact ⟨A', c', v', rfl, Kd.S_lower hs (by have := hr.2.2.1.size; have := hb1.size; omega), hr', (KeepBut.of_below hb1 g v.ownBlock).trans hk (Or.inl rfl)⟩
theorem feed_still (W : World) (g : Nat) (a c : Value) (h : W.heap[g]? = some (.cells #[a, c, .bool true] 118 (0, 0))) (b : Value) : Calls Try.prog 45 #[.pointer (some ⟨g, 0, none⟩), b] W fun e w' => e = .returned (.tuple #[.slice none 0 0, .int .i64 7]) ∧ W = w' := by
  have HO := Aside0.mk (off_calls W g _ _ true h)
  clear h
  go_enter Try.func45, Try.ntmps45
  go_wp2_with fail
  refine HO.out.mono ?_
  rintro e w1 ⟨rfl, rfl⟩
  go_wp2_with fail
  go_ret2
  exact ⟨rfl, rfl⟩
def turncocklaw4_awake.f : Option Bool := some true
theorem awake4 : turncocklaw4_awake.f = some true := rfl
set_option maxHeartbeats 4000000 in
set_option maxRecDepth 100000 in
theorem turncocklaw4_awake.calls (r : Bool) (w : World) (h : turncocklaw4_awake.f = some r) : Calls Try.prog 43 #[] w fun e w' => e = .returned (.bool r) ∧ Below w.heap.size w w' := by
  obtain rfl := Option.some.inj h
  clear h
  go_enter Try.func43, Try.ntmps43
  go_wp2_with fail
  refine (new_calls 9 _).mono ?_
  rintro e w1 ⟨rfl, rfl⟩
  obtain ⟨w1, hw1⟩ : ∃ w1, w1 = w.alloc (.cells #[.int .i64 9, .slice none 0 0, .bool false] 118) := ⟨_, rfl⟩
  have hr1 := rdr_new w w (Below.refl _ _) 9 118
  rw [← hw1] at hr1 ⊢
  have HR1 := Aside0.mk hr1
  obtain ⟨g, hg⟩ : ∃ g, g = w.heap.size := ⟨_, rfl⟩
  have F1 := Aside0.mk (a4_feed w w1 _ [] false _ hr1 Bytes.nil [2] (by decide) (by decide) [] 0 [2] false (by decide +kernel))
  clear hr1 hw1
  go_wp2_with fail
  refine F1.out.mono ?_
  rintro e w2 ⟨A2, c2, v2, rfl, _, hr2, _⟩
  have F2 := Aside0.mk (a4_feed w w2 _ [2] false _ hr2 (by decide) [97] (by decide) (by decide) [] 0 [2, 97] false (by decide +kernel))
  clear hr2 F1 HR1
  go_wp2_with fail
  refine F2.out.mono ?_
  rintro e w3 ⟨A3, c3, v3, rfl, _, hr3, _⟩
  have F3 := Aside0.mk (a4_feed w w3 _ [2, 97] false _ hr3 (by decide) [98, 1] (by decide) (by decide) [[97, 98]] 0 [1] false (by decide +kernel))
  clear hr3 F2
  go_wp2_with fail
  refine F3.out.mono ?_
  rintro e w4 ⟨A4, c4, v4, rfl, hs4, hr4, _⟩
  have F4 := Aside0.mk (a4_feed w w4 _ [1] false _ hr4 (by decide) [120, 99] (by decide) (by decide) [[120]] 4 [] true (by decide +kernel))
  obtain ⟨Av, cv, ev⟩ := Kd.R_slice hr4.2.1
  subst ev
  have WT := Aside0.mk (waiting_calls w4 _ _ _ _ _ _ hr4.1)
  have HS4 := Aside0.mk hs4
  have HR4 := Aside0.mk hr4
  clear hr4 hs4 F3
  go_wp2_with fail
  refine WT.out.mono ?_
  rintro e w5 ⟨rfl, rfl⟩
  go_wp2_with fail
  refine F4.out.mono ?_
  rintro e w5 ⟨A5, c5, v5, rfl, _, hr5, hk5⟩
  have HS5 := Aside0.mk (S_feed HS4.out HR4.out.1 (by decide) hk5)
  have HR5 := Aside0.mk hr5
  clear hr5 hk5 F4 HS4 HR4 WT
  go_wp2_with fail
  refine (feed_still w5 _ _ _ HR5.out.1 _).mono ?_
  rintro e w6 ⟨rfl, rfl⟩
  go_wp2_with fail
  refine (feed_nil w5 _).mono ?_
  rintro e w6 ⟨rfl, rfl⟩
  obtain ⟨ga, cap, ev4, _⟩ := Kd.S_form HS5.out (by decide)
  have eA4 : A4 = some ⟨ga, 0, none⟩ := by injection ev4
  subst eA4
  obtain ⟨ad, A0, c0, eA, hx, hl0, hC0⟩ := at_L1 (Kd.S_reads' HS5.out).2.2 0 (by decide) (by decide)
  cases eA
  have hx' : w5.cell? ⟨ga, 0, none⟩ = some (.slice A0 2 c0) := by rw [← add_plain ga 0]; exact hx
  have hC0' : Kd.C (Kd.int .u8) w5 A0 2 [97, 98] := hC0
  have hcv : (convert 22 9 (.slice A0 2 c0)).run Try.prog w5 = .ok (.string ⟨#[97, 98]⟩) w5 := Kd.C_string (c := c0) Try.underlying22 Try.underlying5 Try.underlying9 hC0'
  have OF := Aside0.mk (off_calls w5 _ _ _ _ HR5.out.1)
  obtain ⟨Av5, cv5, ev5⟩ := Kd.R_slice HR5.out.2.1
  subst ev5
  have WT := Aside0.mk (waiting_calls w5 _ _ _ _ _ _ HR5.out.1)
  clear hx hl0 hC0 hC0' HS5
  go_wp2_with fail
  refine OF.out.mono ?_
  rintro e w6 ⟨rfl, rfl⟩
  go_wp2_with fail
  refine WT.out.mono ?_
  rintro e w6 ⟨rfl, rfl⟩
  go_wp2_with fail
  refine (off_nil _).mono ?_
  rintro e w6 ⟨rfl, rfl⟩
  go_wp2_with fail
  refine (waiting_nil _).mono ?_
  rintro e w6 ⟨rfl, rfl⟩
  go_wp2
  go_ret
  exact ⟨rfl, HR5.out.2.2.1⟩
end Go.Proofs.Ytnhblhhkjnmkkaa.Q
