/- The awake of the tell laws: what it asks at fixed inputs, walked once. -/
import Derived.Test.YtnhblhhkjnmkkaaTd
import Derived.Test.YtnhblhhkjnmkkaaTe
import Derived.Test.YtnhblhhkjnmkkaaBk
import Derived.KernelRfl
import Derived.Test.YtnhblhhkjnmkkaaQ38
import Derived.Test.YtnhblhhkjnmkkaaQ8
namespace Go.Proofs.Ytnhblhhkjnmkkaa.Q
open Go.RowKit Go.Proofs.YtnhblhhkjnmkkaaW.PrintWords Go.Proofs.YtnhblhhkjnmkkaaW.PrintLast Go.Proofs.YtnhblhhkjnmkkaaW.PrintMore
open Go.Proofs.Ytnhblhhkjnmkkaa.Sp Go.Proofs.Ytnhblhhkjnmkkaa.Va
set_option linter.unusedVariables false
set_option linter.unusedSimpArgs false
instance : DecidableEq S152 := fun a b => decidable_of_iff (a.f0 = b.f0 ∧ a.f1 = b.f1) ⟨fun h => by cases a; cases b; simp_all, fun h => by subst h; exact ⟨rfl, rfl⟩⟩
instance : DecidableEq S154 := fun a b => decidable_of_iff (a.f0 = b.f0 ∧ a.f1 = b.f1 ∧ a.f2 = b.f2 ∧ a.f3 = b.f3 ∧ a.f4 = b.f4) ⟨fun h => by cases a; cases b; simp_all, fun h => by subst h; exact ⟨rfl, rfl, rfl, rfl, rfl⟩⟩
def sK : S154 := ⟨2, 10, 2, 4, 55⟩
def hK : S152 := ⟨⟨#[97]⟩, ⟨#[98]⟩⟩
def tK : List Int := [2, 1, 2, 1, 1, 2, 10, 2, 4, 55, 1, 1, 97, 1, 98]
theorem a8_enc (W : World) : Calls Try.prog 89 #[.agg #[.int .i64 1, .int .i64 1, .bool false, .slice none 0 0, .slice none 0 0]] W fun e w' => ∃ v, e = .returned (.tuple #[v, .int .i64 0]) ∧ Kd.R (Kd.int .u8) 5 w' W.heap.size (fun _ => True) v [2, 1, 1, 0, 0, 0] ∧ Below W.heap.size W w' :=
  tell_Encode.calls 1 1 false none 0 [] none 0 [] [2, 1, 1, 0, 0, 0] 0 W (Kd.C_nil _ _) (Nat.le_refl _) (Kd.C_nil _ _) (Nat.le_refl _) (by
    unfold tell_Encode.f
    rw [if_pos (by decide +kernel), if_pos (by decide +kernel)]
    simp [tellW, putv_small, fullN])
theorem a8_dec (W : World) (A : Option Addr) (c : Nat) (h : Kd.C (Kd.int .u8) W A 15 tK) (hc : 15 ≤ c) : Calls Try.prog 93 #[.slice A 15 c] W fun e w' => ∃ v u, e = .returned (.tuple #[.agg #[.int .i64 1, .int .i64 2, .bool true, v, u], .int .i64 0]) ∧ Kd.R k154 154 w' W.heap.size (fun _ => True) v [sK] ∧ Kd.R k152 152 w' W.heap.size (fun _ => True) u [hK] ∧ Below W.heap.size W w' :=
  tell_Decode.calls A c tK 1 2 true [sK] [hK] 0 W h hc (by kernel_rfl)
theorem a8_dec1 (W : World) (A : Option Addr) (c : Nat) (h : Kd.C (Kd.int .u8) W A 1 [1]) (hc : 1 ≤ c) : Calls Try.prog 93 #[.slice A 1 c] W fun e w' => ∃ v u, e = .returned (.tuple #[.agg #[.int .i64 0, .int .i64 0, .bool false, v, u], .int .i64 2]) ∧ Kd.R k154 154 w' W.heap.size (fun _ => True) v [] ∧ Kd.R k152 152 w' W.heap.size (fun _ => True) u [] ∧ Below W.heap.size W w' :=
  tell_Decode.calls A c [1] 0 0 false [] [] 2 W h hc (by kernel_rfl)
theorem a8_bytes (W : World) (A B : Option Addr) (c : Nat) (hc : 6 ≤ c) (h : Kd.C (Kd.int .u8) W A 6 [2, 1, 1, 0, 0, 0]) (h2 : Kd.C (Kd.int .u8) W B 6 [2, 1, 1, 0, 0, 0]) : Calls Try.prog 29 #[.slice A 6 c, .slice B 6 6] W fun e w' => e = .returned (.bool true) ∧ Drawn0 W w' :=
  turncockref1_Bytes.calls A c [2, 1, 1, 0, 0, 0] B 6 [2, 1, 1, 0, 0, 0] true W h hc h2 (Nat.le_refl 6) (by decide +kernel)
theorem a8_same (W : World) (A B A' B' : Option Addr) (c d c' d' : Nat) (hc : 1 ≤ c) (hd : 1 ≤ d) (hc' : 1 ≤ c') (hd' : 1 ≤ d') (h : Kd.C k154 W A 1 [sK]) (h2 : Kd.C k152 W B 1 [hK]) (h' : Kd.C k154 W A' 1 [sK]) (h2' : Kd.C k152 W B' 1 [hK]) : Calls Try.prog 95 #[.agg #[.int .i64 1, .int .i64 2, .bool true, .slice A 1 c, .slice B 1 d], .agg #[.int .i64 1, .int .i64 2, .bool true, .slice A' 1 c', .slice B' 1 d']] W fun e w' => e = .returned (.bool true) ∧ Below W.heap.size W w' :=
  tell_Same.calls 20 1 2 true A c [sK] B d [hK] 1 2 true A' c' [sK] B' d' [hK] true W h hc h2 hd h' hc' h2' hd' (by decide +kernel)
theorem a8_other (W : World) (A B : Option Addr) (c d : Nat) (hc : 1 ≤ c) (hd : 1 ≤ d) (h : Kd.C k154 W A 1 [sK]) (h2 : Kd.C k152 W B 1 [hK]) : Calls Try.prog 95 #[.agg #[.int .i64 1, .int .i64 1, .bool false, .slice none 0 0, .slice none 0 0], .agg #[.int .i64 1, .int .i64 2, .bool true, .slice A 1 c, .slice B 1 d]] W fun e w' => e = .returned (.bool false) ∧ Below W.heap.size W w' :=
  tell_Same.calls 20 1 1 false none 0 [] none 0 [] 1 2 true A c [sK] B d [hK] false W (Kd.C_nil _ _) (Nat.le_refl _) (Kd.C_nil _ _) (Nat.le_refl _) h hc h2 hd (by decide +kernel)
theorem a8_check0 (W : World) : Calls Try.prog 91 #[.agg #[.int .i64 0, .int .i64 0, .bool false, .slice none 0 0, .slice none 0 0]] W fun e w' => e = .returned (.int .i64 1) ∧ Below W.heap.size W w' :=
  tell_Check.calls 0 0 false none 0 [] none 0 [] 1 W (Kd.C_nil _ _) (Nat.le_refl _) (Kd.C_nil _ _) (Nat.le_refl _) (by decide +kernel)
theorem a8_check1 (W : World) : Calls Try.prog 91 #[.agg #[.int .i64 1, .int .i64 1, .bool false, .slice none 0 0, .slice none 0 0]] W fun e w' => e = .returned (.int .i64 0) ∧ Below W.heap.size W w' :=
  tell_Check.calls 1 1 false none 0 [] none 0 [] 0 W (Kd.C_nil _ _) (Nat.le_refl _) (Kd.C_nil _ _) (Nat.le_refl _) (by decide +kernel)
def turncocklaw8_awake.f : Option Bool := some true
theorem awake8 : turncocklaw8_awake.f = some true := rfl
set_option maxHeartbeats 4000000 in
set_option maxRecDepth 100000 in
theorem turncocklaw8_awake.calls (r : Bool) (w : World) (h : turncocklaw8_awake.f = some r) : Calls Try.prog 88 #[] w fun e w' => e = .returned (.bool r) ∧ Below w.heap.size w w' := by
  obtain rfl := Option.some.inj h
  clear h
  go_enter Try.func88, Try.ntmps88
  go_wp2_with fail
  refine (a8_enc _).mono ?_
  rintro e w1 ⟨v1, rfl, ho1, hb1⟩
  have hk1 : Blk w1 w.heap.size #[.int .i64 1, .int .i64 1, .bool false, .slice none 0 0, .slice none 0 0] := (blk_one w _ 108 _ rfl).below hb1
  have HB1 := Aside0.mk (below_step (below_alloc (Below.refl w.heap.size w) _) hb1)
  obtain ⟨A1, c1, e1, hc1, hC1⟩ := Kd.R_reads ho1
  obtain rfl : v1 = .slice A1 6 c1 := e1
  have HC1 := Aside0.mk hC1
  have HK1 := Aside0.mk hk1
  have hz1 : w.heap.size < w1.heap.size := by obtain ⟨t, h⟩ := hk1; exact blk_lt h
  clear ho1 hb1 hC1 hk1
  go_wp2_with fail
  have hsz : (nums .u8 tK).toArray = #[.int .u8 2, .int .u8 1, .int .u8 2, .int .u8 1, .int .u8 1, .int .u8 2, .int .u8 10, .int .u8 2, .int .u8 4, .int .u8 55, .int .u8 1, .int .u8 1, .int .u8 97, .int .u8 1, .int .u8 98] := rfl
  refine (a8_dec _ _ _ (lit_bytes w1 5 (0, 0) tK _ rfl (by decide)) (Nat.le_refl 15)).mono ?_
  rintro e w2 ⟨v2, u2, rfl, ho2, hp2, hb2⟩
  obtain ⟨A2, c2, e2, hc2, hC2⟩ := Kd.R_reads ho2
  obtain rfl : v2 = .slice A2 1 c2 := e2
  obtain ⟨B2, d2, f2, hd2, hD2⟩ := Kd.R_reads hp2
  obtain rfl : u2 = .slice B2 1 d2 := f2
  have hb2' := below_step (below_alloc (Below.refl w1.heap.size w1) _) hb2
  have HB2 := Aside0.mk (below_step HB1.out hb2')
  have HC2 := Aside0.mk (Kd.C_below HC1.out hb2')
  have HK2 := Aside0.mk (HK1.out.below hb2')
  have HS2 := Aside0.mk hC2
  have HH2 := Aside0.mk hD2
  have hz2 : w.heap.size < w2.heap.size := Nat.lt_of_lt_of_le hz1 hb2'.size
  clear ho2 hp2 hb2 hb2' hC2 hD2 HB1 HC1 HK1 hsz hz1
  go_wp2_with fail
  refine (a8_dec1 _ _ _ (lit_bytes (w2.alloc (.cells #[.int .i64 1, .int .i64 2, .bool true, .slice A2 1 c2, .slice B2 1 d2] 108)) 5 (0, 0) [1] _ (by simp) (by decide)) (Nat.le_refl 1)).mono ?_
  rintro e w3 ⟨v3, u3, rfl, ho3, hp3, hb3⟩
  obtain ⟨A3, c3, e3, _, _⟩ := Kd.R_reads ho3
  obtain rfl : v3 = .slice A3 0 c3 := e3
  obtain ⟨B3, d3, f3, _, _⟩ := Kd.R_reads hp3
  obtain rfl : u3 = .slice B3 0 d3 := f3
  have hb3' := below_step (below_alloc (below_alloc (Below.refl w2.heap.size w2) (.cells #[.int .i64 1, .int .i64 2, .bool true, .slice A2 1 c2, .slice B2 1 d2] 108)) _) hb3
  have hx3 : Blk w3 w2.heap.size #[.int .i64 1, .int .i64 2, .bool true, .slice A2 1 c2, .slice B2 1 d2] := ((blk_one w2 _ 108 _ rfl).alloc _).below hb3
  have HX3 := Aside0.mk hx3
  have HB3 := Aside0.mk (below_step HB2.out hb3')
  have HC3 := Aside0.mk (Kd.C_below HC2.out hb3')
  have HK3 := Aside0.mk (HK2.out.below hb3')
  have HS3 := Aside0.mk (Kd.C_below HS2.out hb3')
  have HH3 := Aside0.mk (Kd.C_below HH2.out hb3')
  clear ho3 hp3 hb3 hb3' hx3 HB2 HC2 HK2 HS2 HH2
  go_wp2_with fail
  refine (a8_bytes _ _ _ _ hc1 (Kd.C_alloc (Kd.C_alloc HC3.out _) _) (lit_bytes _ 5 (0, 0) [2, 1, 1, 0, 0, 0] _ (by simp) (by decide))).mono ?_
  rintro e w4 ⟨rfl, hd4⟩
  have hb4' := below_step (below_alloc (below_alloc (Below.refl w3.heap.size w3) _) _) hd4.below
  have hx4 := HX3.out.below hb4'
  have HX4 := Aside0.mk hx4
  have HB4 := Aside0.mk (below_step HB3.out hb4')
  have HK4 := Aside0.mk (HK3.out.below hb4')
  have HS4 := Aside0.mk (Kd.C_below HS3.out hb4')
  have HH4 := Aside0.mk (Kd.C_below HH3.out hb4')
  have hz4 : w2.heap.size < w4.heap.size := by obtain ⟨t, h⟩ := hx4; exact blk_lt h
  have x0 : w4.cell? ⟨w2.heap.size, 0, none⟩ = some (.int .i64 1) := hx4.cell 0
  have x1 : w4.cell? ⟨w2.heap.size, 1, none⟩ = some (.int .i64 2) := hx4.cell 1
  have x2 : w4.cell? ⟨w2.heap.size, 2, none⟩ = some (.bool true) := hx4.cell 2
  have x3 : w4.cell? ⟨w2.heap.size, 3, none⟩ = some (.slice A2 1 c2) := hx4.cell 3
  have x4 : w4.cell? ⟨w2.heap.size, 4, none⟩ = some (.slice B2 1 d2) := hx4.cell 4
  clear hd4 hb4' hx4 HX3 HB3 HK3 HS3 HH3 HC3
  go_wp2_with fail
  refine (a8_same _ _ _ _ _ _ _ _ _ hc2 hd2 (Nat.le_refl 1) (Nat.le_refl 1) (Kd.C_alloc (Kd.C_alloc HS4.out _) _) (Kd.C_alloc (Kd.C_alloc HH4.out _) _) (Kd.C_alloc (lit_one k154 _ sK [.int .i64 2, .int .i64 10, .int .i64 2, .int .i64 4, .int .i64 55] 154 _ rfl (k154_mk _ sK)) _) (lit_one k152 _ hK [.string ⟨#[97]⟩, .string ⟨#[98]⟩] 152 _ (by simp) (k152_mk _ hK))).mono ?_
  rintro e w5 ⟨rfl, hb5⟩
  have hb5' := below_step (below_alloc (below_alloc (Below.refl w4.heap.size w4) _) _) hb5
  have HX5 := Aside0.mk (HX4.out.below hb5')
  have HB5 := Aside0.mk (below_step HB4.out hb5')
  have HK5 := Aside0.mk (HK4.out.below hb5')
  have HS5 := Aside0.mk (Kd.C_below HS4.out hb5')
  have HH5 := Aside0.mk (Kd.C_below HH4.out hb5')
  clear hb5 hb5' HX4 HB4 HK4 HS4 HH4 x0 x1 x2 x3 x4
  go_wp2_with fail
  refine (a8_check0 _).mono ?_
  rintro e w6 ⟨rfl, hb6⟩
  have hk6 := HK5.out.below hb6
  have HX6 := Aside0.mk (HX5.out.below hb6)
  have HB6 := Aside0.mk (below_step HB5.out hb6)
  have HK6 := Aside0.mk hk6
  have HS6 := Aside0.mk (Kd.C_below HS5.out hb6)
  have HH6 := Aside0.mk (Kd.C_below HH5.out hb6)
  have k0 : w6.cell? ⟨w.heap.size, 0, none⟩ = some (.int .i64 1) := hk6.cell 0
  have k1 : w6.cell? ⟨w.heap.size, 1, none⟩ = some (.int .i64 1) := hk6.cell 1
  have k2 : w6.cell? ⟨w.heap.size, 2, none⟩ = some (.bool false) := hk6.cell 2
  have k3 : w6.cell? ⟨w.heap.size, 3, none⟩ = some (.slice none 0 0) := hk6.cell 3
  have k4 : w6.cell? ⟨w.heap.size, 4, none⟩ = some (.slice none 0 0) := hk6.cell 4
  clear hb6 hk6 HX5 HB5 HK5 HS5 HH5
  go_wp2_with fail
  refine (a8_check1 _).mono ?_
  rintro e w7 ⟨rfl, hb7⟩
  have hk7 := HK6.out.below hb7
  have hx7 := HX6.out.below hb7
  have HB7 := Aside0.mk (below_step HB6.out hb7)
  have HS7 := Aside0.mk (Kd.C_below HS6.out hb7)
  have HH7 := Aside0.mk (Kd.C_below HH6.out hb7)
  have m0 : w7.cell? ⟨w.heap.size, 0, none⟩ = some (.int .i64 1) := hk7.cell 0
  have m1 : w7.cell? ⟨w.heap.size, 1, none⟩ = some (.int .i64 1) := hk7.cell 1
  have m2 : w7.cell? ⟨w.heap.size, 2, none⟩ = some (.bool false) := hk7.cell 2
  have m3 : w7.cell? ⟨w.heap.size, 3, none⟩ = some (.slice none 0 0) := hk7.cell 3
  have m4 : w7.cell? ⟨w.heap.size, 4, none⟩ = some (.slice none 0 0) := hk7.cell 4
  have x0 : w7.cell? ⟨w2.heap.size, 0, none⟩ = some (.int .i64 1) := hx7.cell 0
  have x1 : w7.cell? ⟨w2.heap.size, 1, none⟩ = some (.int .i64 2) := hx7.cell 1
  have x2 : w7.cell? ⟨w2.heap.size, 2, none⟩ = some (.bool true) := hx7.cell 2
  have x3 : w7.cell? ⟨w2.heap.size, 3, none⟩ = some (.slice A2 1 c2) := hx7.cell 3
  have x4 : w7.cell? ⟨w2.heap.size, 4, none⟩ = some (.slice B2 1 d2) := hx7.cell 4
  clear hb7 hk7 hx7 HX6 HB6 HK6 HS6 HH6 k0 k1 k2 k3 k4
  go_wp2_with fail
  refine (a8_other _ _ _ _ _ hc2 hd2 HS7.out HH7.out).mono ?_
  rintro e w8 ⟨rfl, hb8⟩
  have HB8 := Aside0.mk (below_step HB7.out hb8)
  clear hb8 HB7 HS7 HH7 m0 m1 m2 m3 m4 x0 x1 x2 x3 x4
  go_wp2
  go_ret
  exact ⟨rfl, HB8.out⟩
end Go.Proofs.Ytnhblhhkjnmkkaa.Q
