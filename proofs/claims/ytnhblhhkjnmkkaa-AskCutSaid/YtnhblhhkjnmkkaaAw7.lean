/- The awake of the ask laws: what it asks at fixed inputs, walked once. -/
import Derived.Test.YtnhblhhkjnmkkaaAw
import Derived.Test.YtnhblhhkjnmkkaaAe
import Derived.Test.YtnhblhhkjnmkkaaAs
import Derived.Test.YtnhblhhkjnmkkaaBk
import Derived.Test.YtnhblhhkjnmkkaaQ30
import Derived.Test.YtnhblhhkjnmkkaaQ8
namespace Go.Proofs.Ytnhblhhkjnmkkaa.Q
open Go.RowKit Go.Proofs.YtnhblhhkjnmkkaaW.PrintWords Go.Proofs.YtnhblhhkjnmkkaaW.PrintLast Go.Proofs.YtnhblhhkjnmkkaaW.PrintMore
open Go.Proofs.Ytnhblhhkjnmkkaa.Sp Go.Proofs.Ytnhblhhkjnmkkaa.Va
set_option linter.unusedVariables false
set_option linter.unusedSimpArgs false
def eK : S142 := ⟨⟨#[107]⟩, ⟨#[118]⟩⟩
def dK : S140 := ⟨[eK]⟩
def bK : List Int := [1, 1, 1, 97, 0, 1, 1, 1, 107, 1, 118]
theorem a7_lit (W : World) : Kd.C k140 ((W.alloc (.cells #[.string ⟨#[107]⟩, .string ⟨#[118]⟩] 142)).alloc (.cells #[.slice (some ⟨W.heap.size, 0, none⟩) 1 1] 140)) (some ⟨W.heap.size + 1, 0, none⟩) 1 [dK] :=
  lit_one k140 _ dK [.slice (some ⟨W.heap.size, 0, none⟩) 1 1] 140 _ (by simp) (k140_mk _ dK (c0 := 1) (Nat.le_refl 1) (lit_one k142 W eK [.string ⟨#[107]⟩, .string ⟨#[118]⟩] 142 _ rfl (k142_mk _ eK)))
theorem a7_enc (W : World) (A : Option Addr) (c : Nat) (hC : Kd.C k140 W A 1 [dK]) (hc : 1 ≤ c) : Calls Try.prog 77 #[.agg #[.int .i64 1, .string ⟨#[97]⟩, .int .i64 0, .slice A 1 c]] W fun e w' => ∃ v, e = .returned (.tuple #[v, .int .i64 0]) ∧ Kd.R (Kd.int .u8) 5 w' W.heap.size (fun _ => True) v bK ∧ Below W.heap.size W w' :=
  ask_Encode.calls 1 ⟨#[97]⟩ 0 A c [dK] bK 0 W hC hc (by
    unfold ask_Encode.f
    rw [if_pos (by decide +kernel), if_pos (by decide +kernel)]
    simp [askW, descW, entryW, putv_small, bytesOf, dK, eK, bK, ByteArray.size])
theorem a7_none (W : World) : Calls Try.prog 77 #[.agg #[.int .i64 0, .string ⟨#[]⟩, .int .i64 0, .slice none 0 0]] W fun e w' => ∃ v, e = .returned (.tuple #[v, .int .i64 1]) ∧ Kd.R (Kd.int .u8) 5 w' W.heap.size (fun _ => True) v [] ∧ Below W.heap.size W w' :=
  ask_Encode.calls 0 ⟨#[]⟩ 0 none 0 [] [] 1 W (Kd.C_nil _ _) (Nat.le_refl _) (by
    unfold ask_Encode.f
    rw [if_pos (by decide +kernel), if_neg (by decide +kernel)])
theorem a7_dec (W : World) (A : Option Addr) (c : Nat) (h : Kd.C (Kd.int .u8) W A 11 bK) (hc : 11 ≤ c) : Calls Try.prog 84 #[.slice A 11 c] W fun e w' => ∃ v, e = .returned (.tuple #[.agg #[.int .i64 1, .string ⟨#[97]⟩, .int .i64 0, v], .int .i64 0]) ∧ Kd.S k140 140 w' W.heap.size (fun _ => True) v [dK] ∧ Below W.heap.size W w' :=
  ask_Decode.calls A c bK 1 ⟨#[97]⟩ 0 [dK] 0 W h hc (by decide +kernel)
theorem a7_dec0 (W : World) : Calls Try.prog 84 #[.slice none 0 0] W fun e w' => ∃ v, e = .returned (.tuple #[.agg #[.int .i64 0, .string ⟨#[]⟩, .int .i64 0, v], .int .i64 2]) ∧ Kd.S k140 140 w' W.heap.size (fun _ => True) v [] ∧ Below W.heap.size W w' :=
  ask_Decode.calls none 0 [] 0 ⟨#[]⟩ 0 [] 2 W (Kd.C_nil _ _) (Nat.le_refl _) (by decide +kernel)
theorem a7_bytes (W : World) (A B : Option Addr) (c : Nat) (hc : 11 ≤ c) (h : Kd.C (Kd.int .u8) W A 11 bK) (h2 : Kd.C (Kd.int .u8) W B 11 bK) : Calls Try.prog 29 #[.slice A 11 c, .slice B 11 11] W fun e w' => e = .returned (.bool true) ∧ Drawn0 W w' :=
  turncockref1_Bytes.calls A c bK B 11 bK true W h hc h2 (Nat.le_refl 11) (by decide +kernel)
theorem a7_same (W : World) (A B : Option Addr) (c d : Nat) (hc : 1 ≤ c) (hd : 1 ≤ d) (h : Kd.C k140 W A 1 [dK]) (h2 : Kd.C k140 W B 1 [dK]) : Calls Try.prog 86 #[.agg #[.int .i64 1, .string ⟨#[97]⟩, .int .i64 0, .slice A 1 c], .agg #[.int .i64 1, .string ⟨#[97]⟩, .int .i64 0, .slice B 1 d]] W fun e w' => e = .returned (.bool true) ∧ Below W.heap.size W w' :=
  ask_Same.calls 1 ⟨#[97]⟩ 0 A c [dK] 1 ⟨#[97]⟩ 0 B d [dK] true W h hc h2 hd (by decide +kernel)
theorem a7_other (W : World) (A : Option Addr) (c : Nat) (hc : 1 ≤ c) (h : Kd.C k140 W A 1 [dK]) : Calls Try.prog 86 #[.agg #[.int .i64 1, .string ⟨#[97]⟩, .int .i64 0, .slice A 1 c], .agg #[.int .i64 0, .string ⟨#[]⟩, .int .i64 0, .slice none 0 0]] W fun e w' => e = .returned (.bool false) ∧ Below W.heap.size W w' :=
  ask_Same.calls 1 ⟨#[97]⟩ 0 A c [dK] 0 ⟨#[]⟩ 0 none 0 [] false W h hc (Kd.C_nil _ _) (Nat.le_refl _) (by decide +kernel)
theorem a7_hits (W : World) (A : Option Addr) (c : Nat) (hc : 1 ≤ c) (h : Kd.C k140 W A 1 [dK]) : Calls Try.prog 82 #[.agg #[.int .i64 1, .string ⟨#[97]⟩, .int .i64 0, .slice A 1 c]] W fun e w' => e = .returned (.int .i64 1) ∧ Below W.heap.size W w' :=
  ask_Hits.calls 1 ⟨#[97]⟩ 0 A c [dK] 1 W h hc (by decide +kernel)
theorem a7_check (W : World) (A : Option Addr) (c : Nat) (hc : 1 ≤ c) (h : Kd.C k140 W A 1 [dK]) : Calls Try.prog 79 #[.agg #[.int .i64 1, .string ⟨#[97]⟩, .int .i64 0, .slice A 1 c]] W fun e w' => e = .returned (.int .i64 0) ∧ Below W.heap.size W w' :=
  ask_Check.calls 20 1 ⟨#[97]⟩ 0 A c [dK] 0 W h hc (by decide +kernel)
def turncocklaw7_awake.f : Option Bool := some true
theorem awake7 : turncocklaw7_awake.f = some true := rfl
set_option maxHeartbeats 4000000 in
set_option maxRecDepth 100000 in
theorem turncocklaw7_awake.calls (r : Bool) (w : World) (h : turncocklaw7_awake.f = some r) : Calls Try.prog 76 #[] w fun e w' => e = .returned (.bool r) ∧ Below w.heap.size w w' := by
  obtain rfl := Option.some.inj h
  clear h
  have HL := Aside0.mk (a7_lit w)
  go_enter Try.func76, Try.ntmps76
  go_wp2_with fail
  refine (a7_enc _ _ _ (Kd.C_alloc HL.out _) (Nat.le_refl 1)).mono ?_
  rintro e w1 ⟨v1, rfl, ho1, hb1⟩
  have hblk : Blk w1 (w.heap.size + 1 + 1) #[.int .i64 1, .string ⟨#[97]⟩, .int .i64 0, .slice (some ⟨w.heap.size + 1, 0, none⟩) 1 1] := (blk_one _ _ 95 _ (by simp)).below hb1
  have HB1 := Aside0.mk (below_step (below_alloc (below_alloc (below_alloc (Below.refl w.heap.size w) _) _) _) hb1)
  have HL1 := Aside0.mk (Kd.C_below (Kd.C_alloc HL.out _) hb1)
  have HK1 := Aside0.mk hblk
  obtain ⟨A1, c1, e1, hc1, hC1⟩ := Kd.R_reads ho1
  obtain rfl : v1 = .slice A1 11 c1 := e1
  have HC1 := Aside0.mk hC1
  clear ho1 hb1 hblk hC1 HL
  go_wp2_with fail
  refine (a7_dec _ _ _ HC1.out hc1).mono ?_
  rintro e w2 ⟨v2, rfl, ho2, hb2⟩
  obtain ⟨A2, c2, e2, hc2, hC2⟩ := Kd.S_reads ho2
  obtain rfl : v2 = .slice A2 1 c2 := e2
  have HB2 := Aside0.mk (below_step HB1.out hb2)
  have HL2 := Aside0.mk (Kd.C_below HL1.out hb2)
  have HK2 := Aside0.mk (HK1.out.below hb2)
  have HC2 := Aside0.mk (Kd.C_below HC1.out hb2)
  have HD2 := Aside0.mk hC2
  clear ho2 hb2 hC2 HB1 HL1 HK1 HC1
  go_wp2_with fail
  refine (a7_dec0 _).mono ?_
  rintro e w3 ⟨v3, rfl, ho3, hb3⟩
  obtain ⟨A3, c3, e3, _, _⟩ := Kd.S_reads ho3
  obtain rfl : v3 = .slice A3 0 c3 := e3
  have hx2 : Blk _ w2.heap.size #[.int .i64 1, .string ⟨#[97]⟩, .int .i64 0, .slice A2 1 c2] := blk_one w2 _ 95 _ rfl
  have hb3' := below_step (below_alloc (Below.refl w2.heap.size w2) _) hb3
  have HX3 := Aside0.mk (hx2.below hb3)
  have HB3 := Aside0.mk (below_step HB2.out hb3')
  have HL3 := Aside0.mk (Kd.C_below HL2.out hb3')
  have HK3 := Aside0.mk (HK2.out.below hb3')
  have HC3 := Aside0.mk (Kd.C_below HC2.out hb3')
  have HD3 := Aside0.mk (Kd.C_below HD2.out hb3')
  have HZ3 := Aside0.mk (Nat.lt_of_lt_of_le (by simp) hb3.size : w2.heap.size < w3.heap.size)
  clear ho3 hb3 hb3' hx2 HB2 HL2 HK2 HC2 HD2
  go_wp2_with fail
  refine (a7_none _).mono ?_
  rintro e w4 ⟨v4, rfl, ho4, hb4⟩
  obtain ⟨A4, c4, e4, _, _⟩ := Kd.R_reads ho4
  obtain rfl : v4 = .slice A4 0 c4 := e4
  have hb4' := below_step (below_alloc (Below.refl w3.heap.size w3) _) hb4
  have HX4 := Aside0.mk (HX3.out.below hb4')
  have HB4 := Aside0.mk (below_step HB3.out hb4')
  have HL4 := Aside0.mk (Kd.C_below HL3.out hb4')
  have HK4 := Aside0.mk (HK3.out.below hb4')
  have HC4 := Aside0.mk (Kd.C_below HC3.out hb4')
  have HD4 := Aside0.mk (Kd.C_below HD3.out hb4')
  clear ho4 hb4 hb4' HX3 HB3 HL3 HK3 HC3 HD3
  go_wp2_with fail
  refine (a7_bytes _ _ _ _ hc1 (Kd.C_alloc HC4.out _) (lit_bytes _ 5 _ bK _ rfl (by decide))).mono ?_
  rintro e w5 ⟨rfl, hd5⟩
  have hb5' := below_step (below_alloc (Below.refl w4.heap.size w4) _) hd5.below
  have hx5 := HX4.out.below hb5'
  have hk5 := HK4.out.below hb5'
  have HX5 := Aside0.mk hx5
  have HB5 := Aside0.mk (below_step HB4.out hb5')
  have HL5 := Aside0.mk (Kd.C_below HL4.out hb5')
  have HK5 := Aside0.mk hk5
  have HD5 := Aside0.mk (Kd.C_below HD4.out hb5')
  have x0 : w5.cell? ⟨w2.heap.size, 0, none⟩ = some (.int .i64 1) := hx5.cell 0
  have x1 : w5.cell? ⟨w2.heap.size, 1, none⟩ = some (.string ⟨#[97]⟩) := hx5.cell 1
  have x2 : w5.cell? ⟨w2.heap.size, 2, none⟩ = some (.int .i64 0) := hx5.cell 2
  have x3 : w5.cell? ⟨w2.heap.size, 3, none⟩ = some (.slice A2 1 c2) := hx5.cell 3
  have k0 : w5.cell? ⟨w.heap.size + 1 + 1, 0, none⟩ = some (.int .i64 1) := hk5.cell 0
  have k1 : w5.cell? ⟨w.heap.size + 1 + 1, 1, none⟩ = some (.string ⟨#[97]⟩) := hk5.cell 1
  have k2 : w5.cell? ⟨w.heap.size + 1 + 1, 2, none⟩ = some (.int .i64 0) := hk5.cell 2
  have k3 : w5.cell? ⟨w.heap.size + 1 + 1, 3, none⟩ = some (.slice (some ⟨w.heap.size + 1, 0, none⟩) 1 1) := hk5.cell 3
  clear hd5 hb5' hx5 hk5 HX4 HB4 HL4 HK4 HC4 HD4
  go_wp2_with fail
  refine (a7_same _ _ _ _ _ hc2 (Nat.le_refl 1) HD5.out HL5.out).mono ?_
  rintro e w6 ⟨rfl, hb6⟩
  have hk6 := HK5.out.below hb6
  have HB6 := Aside0.mk (below_step HB5.out hb6)
  have HL6 := Aside0.mk (Kd.C_below HL5.out hb6)
  have HK6 := Aside0.mk hk6
  have k0' : w6.cell? ⟨w.heap.size + 1 + 1, 0, none⟩ = some (.int .i64 1) := hk6.cell 0
  have k1' : w6.cell? ⟨w.heap.size + 1 + 1, 1, none⟩ = some (.string ⟨#[97]⟩) := hk6.cell 1
  have k2' : w6.cell? ⟨w.heap.size + 1 + 1, 2, none⟩ = some (.int .i64 0) := hk6.cell 2
  have k3' : w6.cell? ⟨w.heap.size + 1 + 1, 3, none⟩ = some (.slice (some ⟨w.heap.size + 1, 0, none⟩) 1 1) := hk6.cell 3
  clear hb6 hk6 HX5 HB5 HL5 HK5 HD5 x0 x1 x2 x3 k0 k1 k2 k3
  go_wp2_with fail
  refine (a7_hits _ _ _ (Nat.le_refl 1) HL6.out).mono ?_
  rintro e w7 ⟨rfl, hb7⟩
  have hk7 := HK6.out.below hb7
  have HB7 := Aside0.mk (below_step HB6.out hb7)
  have HL7 := Aside0.mk (Kd.C_below HL6.out hb7)
  have HK7 := Aside0.mk hk7
  have k0 : w7.cell? ⟨w.heap.size + 1 + 1, 0, none⟩ = some (.int .i64 1) := hk7.cell 0
  have k1 : w7.cell? ⟨w.heap.size + 1 + 1, 1, none⟩ = some (.string ⟨#[97]⟩) := hk7.cell 1
  have k2 : w7.cell? ⟨w.heap.size + 1 + 1, 2, none⟩ = some (.int .i64 0) := hk7.cell 2
  have k3 : w7.cell? ⟨w.heap.size + 1 + 1, 3, none⟩ = some (.slice (some ⟨w.heap.size + 1, 0, none⟩) 1 1) := hk7.cell 3
  clear hb7 hk7 HB6 HL6 HK6 k0' k1' k2' k3'
  go_wp2_with fail
  refine (a7_check _ _ _ (Nat.le_refl 1) HL7.out).mono ?_
  rintro e w8 ⟨rfl, hb8⟩
  have hk8 := HK7.out.below hb8
  have HB8 := Aside0.mk (below_step HB7.out hb8)
  have HL8 := Aside0.mk (Kd.C_below HL7.out hb8)
  have k0' : w8.cell? ⟨w.heap.size + 1 + 1, 0, none⟩ = some (.int .i64 1) := hk8.cell 0
  have k1' : w8.cell? ⟨w.heap.size + 1 + 1, 1, none⟩ = some (.string ⟨#[97]⟩) := hk8.cell 1
  have k2' : w8.cell? ⟨w.heap.size + 1 + 1, 2, none⟩ = some (.int .i64 0) := hk8.cell 2
  have k3' : w8.cell? ⟨w.heap.size + 1 + 1, 3, none⟩ = some (.slice (some ⟨w.heap.size + 1, 0, none⟩) 1 1) := hk8.cell 3
  clear hb8 hk8 HB7 HL7 HK7 k0 k1 k2 k3
  go_wp2_with fail
  refine (a7_other _ _ _ (Nat.le_refl 1) HL8.out).mono ?_
  rintro e w9 ⟨rfl, hb9⟩
  have HB9 := Aside0.mk (below_step HB8.out hb9)
  clear hb9 HB8 HL8 k0' k1' k2' k3'
  go_wp2
  go_ret
  exact ⟨rfl, HB9.out⟩
end Go.Proofs.Ytnhblhhkjnmkkaa.Q
