/- The awake of the admin laws: what it asks at fixed inputs, walked once. -/
import Derived.Test.YtnhblhhkjnmkkaaDo
import Derived.Test.YtnhblhhkjnmkkaaQ13
import Derived.Test.YtnhblhhkjnmkkaaQ15
import Derived.Test.YtnhblhhkjnmkkaaQ16
import Derived.Test.YtnhblhhkjnmkkaaQ7
namespace Go.Proofs.Ytnhblhhkjnmkkaa.Q
open Go.RowKit Go.Proofs.YtnhblhhkjnmkkaaW.PrintWords Go.Proofs.YtnhblhhkjnmkkaaW.PrintLast Go.Proofs.YtnhblhhkjnmkkaaW.PrintMore
open Go.Proofs.Ytnhblhhkjnmkkaa.Sp Go.Proofs.Ytnhblhhkjnmkkaa.Va
set_option linter.unusedVariables false
set_option linter.unusedSimpArgs false
theorem lit_reads9 (W : World) (e : TypeId) (fr : Nat × Nat) (l : List Int) (hl : l.length ≤ 1000) : Kd.C (Kd.int .u8) (W.alloc (.cells (nums .u8 l).toArray e fr)) (some ⟨W.heap.size, 0, none⟩) l.length l := by
  refine Kd.C_of_reads (enc := Value.int .u8) (d := (0 : Int)) (h1 := fun _ => rfl) ⟨rfl, by omega, fun _ => ⟨_, rfl, fun j hj => ?_⟩⟩
  rw [add_plain, cell_of_row _ W.heap.size j (nums .u8 l).toArray e fr (heap_alloc_new W _)]
  simp [nums, List.getElem?_eq_getElem hj, List.getD_eq_getElem?_getD]
theorem lit_at9 (W : World) (e : TypeId) (fr : Nat × Nat) (l : List Int) (g : Nat) (hg : W.heap.size = g) (hl : l.length ≤ 1000) : Kd.C (Kd.int .u8) (W.alloc (.cells (nums .u8 l).toArray e fr)) (some ⟨g, 0, none⟩) l.length l := by
  subst hg; exact lit_reads9 W e fr l hl
theorem a9_query (W : World) : Calls Try.prog 66 #[.agg #[.int .i64 2, .int .i64 2, .string ⟨#[]⟩]] W fun e w' => ∃ v, e = .returned (.tuple #[v, .int .i64 0]) ∧ Kd.R (Kd.int .u8) 5 w' W.heap.size (fun _ => True) v [3, 2, 2, 0] ∧ Below W.heap.size W w' :=
  admin_EncodeQuery.calls 2 2 ⟨#[]⟩ [3, 2, 2, 0] 0 W (by simp [admin_EncodeQuery.f, admin_encode.f, putv_small, bytesOf, ByteArray.size])
theorem a9_report (W : World) : Calls Try.prog 69 #[.agg #[.int .i64 1, .int .i64 1, .string ⟨#[97]⟩]] W fun e w' => ∃ v, e = .returned (.tuple #[v, .int .i64 0]) ∧ Kd.R (Kd.int .u8) 5 w' W.heap.size (fun _ => True) v [4, 1, 1, 1, 97] ∧ Below W.heap.size W w' :=
  admin_EncodeReport.calls 1 1 ⟨#[97]⟩ [4, 1, 1, 1, 97] 0 W (by simp [admin_EncodeReport.f, admin_encode.f, putv_small, bytesOf, ByteArray.size])
theorem a9_oops (W : World) : Calls Try.prog 72 #[.agg #[.int .i64 0, .int .i64 4, .int .i64 0, .int .i64 0]] W fun e w' => ∃ v, e = .returned (.tuple #[v, .int .i64 0]) ∧ Kd.R (Kd.int .u8) 5 w' W.heap.size (fun _ => True) v [5, 0, 4, 0, 0] ∧ Below W.heap.size W w' :=
  admin_EncodeOops.calls 0 4 0 0 [5, 0, 4, 0, 0] 0 W (by simp [admin_EncodeOops.f, MayO, putv_small])
theorem a9_none (W : World) : Calls Try.prog 72 #[.agg #[.int .i64 0, .int .i64 0, .int .i64 0, .int .i64 0]] W fun e w' => ∃ v, e = .returned (.tuple #[v, .int .i64 1]) ∧ Kd.R (Kd.int .u8) 5 w' W.heap.size (fun _ => True) v [] ∧ Below W.heap.size W w' :=
  admin_EncodeOops.calls 0 0 0 0 [] 1 W (by simp [admin_EncodeOops.f, MayO])
theorem a9_back (W : World) (A : Option Addr) (c : Nat) (h : Kd.C (Kd.int .u8) W A 4 [3, 2, 2, 0]) (hc : 4 ≤ c) : Calls Try.prog 68 #[.slice A 4 c] W fun e w' => e = .returned (.tuple #[.agg #[.int .i64 2, .int .i64 2, .string ⟨#[]⟩], .int .i64 0]) ∧ Below W.heap.size W w' :=
  admin_DecodeQuery.calls A c [3, 2, 2, 0] 2 2 ⟨#[]⟩ 0 W h hc (by decide +kernel)
theorem a9_bytes1 (W : World) (A B : Option Addr) (c : Nat) (hc : 4 ≤ c) (h : Kd.C (Kd.int .u8) W A 4 [3, 2, 2, 0]) (h2 : Kd.C (Kd.int .u8) W B 4 [3, 2, 2, 0]) : Calls Try.prog 29 #[.slice A 4 c, .slice B 4 4] W fun e w' => e = .returned (.bool true) ∧ Drawn0 W w' :=
  turncockref1_Bytes.calls A c [3, 2, 2, 0] B 4 [3, 2, 2, 0] true W h hc h2 (by decide) (by decide +kernel)
theorem a9_bytes2 (W : World) (A B : Option Addr) (c : Nat) (hc : 5 ≤ c) (h : Kd.C (Kd.int .u8) W A 5 [4, 1, 1, 1, 97]) (h2 : Kd.C (Kd.int .u8) W B 5 [4, 1, 1, 1, 97]) : Calls Try.prog 29 #[.slice A 5 c, .slice B 5 5] W fun e w' => e = .returned (.bool true) ∧ Drawn0 W w' :=
  turncockref1_Bytes.calls A c [4, 1, 1, 1, 97] B 5 [4, 1, 1, 1, 97] true W h hc h2 (by decide) (by decide +kernel)
theorem a9_bytes3 (W : World) (A B : Option Addr) (c : Nat) (hc : 5 ≤ c) (h : Kd.C (Kd.int .u8) W A 5 [5, 0, 4, 0, 0]) (h2 : Kd.C (Kd.int .u8) W B 5 [5, 0, 4, 0, 0]) : Calls Try.prog 29 #[.slice A 5 c, .slice B 5 5] W fun e w' => e = .returned (.bool true) ∧ Drawn0 W w' :=
  turncockref1_Bytes.calls A c [5, 0, 4, 0, 0] B 5 [5, 0, 4, 0, 0] true W h hc h2 (by decide) (by decide +kernel)
theorem a9_kind1 (W : World) (A : Option Addr) (c : Nat) (hc : 5 ≤ c) (h : Kd.C (Kd.int .u8) W A 5 [4, 1, 1, 1, 97]) : Calls Try.prog 98 #[.slice A 5 c] W fun e w' => e = .returned (.int .i64 4) ∧ Drawn0 W w' :=
  admin_Kind.calls A c [4, 1, 1, 1, 97] 4 W h hc (by decide +kernel)
theorem a9_kind2 (W : World) : Calls Try.prog 98 #[.slice none 0 0] W fun e w' => e = .returned (.int .i64 0) ∧ Drawn0 W w' :=
  admin_Kind.calls none 0 [] 0 W (Kd.C_nil _ _) (by decide) (by decide +kernel)
theorem a9_kind3 (W : World) (A : Option Addr) (h : Kd.C (Kd.int .u8) W A 1 [6]) : Calls Try.prog 98 #[.slice A 1 1] W fun e w' => e = .returned (.int .i64 0) ∧ Drawn0 W w' :=
  admin_Kind.calls A 1 [6] 0 W h (by decide) (by decide +kernel)
def turncocklaw9_awake.f : Option Bool := some true
set_option maxHeartbeats 4000000 in
set_option maxRecDepth 100000 in
theorem turncocklaw9_awake.calls (r : Bool) (w : World) (h : turncocklaw9_awake.f = some r) : Calls Try.prog 65 #[] w fun e w' => e = .returned (.bool r) ∧ Below w.heap.size w w' := by
  obtain rfl := Option.some.inj h
  clear h
  go_enter Try.func65, Try.ntmps65
  go_wp2_with fail
  refine (a9_query _).mono ?_
  rintro e w1 ⟨v1, rfl, ho1, hb1⟩
  have HO1 := Aside0.mk ho1
  have HB1 := Aside0.mk hb1
  clear ho1 hb1
  go_wp2_with fail
  refine (a9_report _).mono ?_
  rintro e w2 ⟨v2, rfl, ho2, hb2⟩
  have HO1' := Aside0.mk (Kd.R_below HO1.out hb2)
  have HO2 := Aside0.mk ho2
  have HB2 := Aside0.mk (below_step HB1.out hb2)
  clear ho2 hb2 HO1 HB1
  go_wp2_with fail
  refine (a9_oops _).mono ?_
  rintro e w3 ⟨v3, rfl, ho3, hb3⟩
  have HO1 := Aside0.mk (Kd.R_below HO1'.out hb3)
  have HO2' := Aside0.mk (Kd.R_below HO2.out hb3)
  have HO3 := Aside0.mk ho3
  have HB3 := Aside0.mk (below_step HB2.out hb3)
  clear ho3 hb3 HO1' HB2 HO2
  go_wp2_with fail
  refine (a9_none _).mono ?_
  rintro e w4 ⟨v4, rfl, ho4, hb4⟩
  have HO1' := Aside0.mk (Kd.R_below HO1.out hb4)
  have HO2 := Aside0.mk (Kd.R_below HO2'.out hb4)
  have HO3' := Aside0.mk (Kd.R_below HO3.out hb4)
  have HB4 := Aside0.mk (below_step HB3.out hb4)
  clear ho4 hb4 HO1 HO3 HB3 HO2'
  obtain ⟨A1, c1, e1, hc1, hC1⟩ := Kd.R_reads HO1'.out
  obtain rfl : v1 = .slice A1 4 c1 := e1
  obtain ⟨A2, c2, e2, hc2, hC2⟩ := Kd.R_reads HO2.out
  obtain rfl : v2 = .slice A2 5 c2 := e2
  obtain ⟨A3, c3, e3, hc3, hC3⟩ := Kd.R_reads HO3'.out
  obtain rfl : v3 = .slice A3 5 c3 := e3
  have HC1 := Aside0.mk hC1
  have HC2 := Aside0.mk hC2
  have HC3 := Aside0.mk hC3
  have HN := Aside0.mk (And.intro hc1 (And.intro hc2 hc3))
  clear hC1 hC2 hC3 hc1 hc2 hc3 HO1' HO2 HO3'
  go_wp2_with fail
  refine (a9_back _ _ _ HC1.out HN.out.1).mono ?_
  rintro e w5 ⟨rfl, hb5⟩
  have HB5 := Aside0.mk (below_step HB4.out hb5)
  have HD1 := Aside0.mk (Kd.C_below HC1.out hb5)
  have HD2 := Aside0.mk (Kd.C_below HC2.out hb5)
  have HD3 := Aside0.mk (Kd.C_below HC3.out hb5)
  clear hb5 HC1 HC2 HC3 HB4
  go_wp2_with fail
  refine (a9_bytes1 _ _ _ _ HN.out.1 (Kd.C_alloc (Kd.C_alloc HD1.out _) _) (lit_at9 _ 5 _ [3, 2, 2, 0] _ (by simp) (by decide))).mono ?_
  rintro e w6 ⟨rfl, hd6⟩
  have hq : Blk w6 w5.heap.size #[.int .i64 2, .int .i64 2, .string ⟨#[]⟩] := ((blk_one w5 _ 76 _ rfl).alloc _).below hd6.below
  have HQ := Aside0.mk hq
  have hb6 := below_step (below_alloc (below_alloc (Below.refl _ _) _) _) hd6.below
  have HB6 := Aside0.mk (below_step HB5.out hb6)
  have HC2 := Aside0.mk (Kd.C_below HD2.out hb6)
  have HC3 := Aside0.mk (Kd.C_below HD3.out hb6)
  clear hd6 hq HD2 HD3 HD1 HB5 hb6
  go_wp2_with fail
  refine (a9_bytes2 _ _ _ _ HN.out.2.1 (Kd.C_alloc HC2.out _) (lit_at9 _ 5 _ [4, 1, 1, 1, 97] _ rfl (by decide))).mono ?_
  rintro e w7 ⟨rfl, hd7⟩
  have hb7 := below_step (below_alloc (Below.refl _ _) _) hd7.below
  have HQ7 := Aside0.mk (HQ.out.below hb7)
  have HB7 := Aside0.mk (below_step HB6.out hb7)
  have HD2 := Aside0.mk (Kd.C_below HC2.out hb7)
  have HD3 := Aside0.mk (Kd.C_below HC3.out hb7)
  clear hd7 HC2 HC3 HB6 hb7 HQ
  go_wp2_with fail
  refine (a9_bytes3 _ _ _ _ HN.out.2.2 (Kd.C_alloc HD3.out _) (lit_at9 _ 5 _ [5, 0, 4, 0, 0] _ rfl (by decide))).mono ?_
  rintro e w8 ⟨rfl, hd8⟩
  have hb8 := below_step (below_alloc (Below.refl _ _) _) hd8.below
  have hq := HQ7.out.below hb8
  have HB8 := Aside0.mk (below_step HB7.out hb8)
  have HC2 := Aside0.mk (Kd.C_below HD2.out hb8)
  have k0 : w8.cell? ⟨w5.heap.size, 0, none⟩ = some (.int .i64 2) := hq.cell 0
  have k1 : w8.cell? ⟨w5.heap.size, 1, none⟩ = some (.int .i64 2) := hq.cell 1
  have k2 : w8.cell? ⟨w5.heap.size, 2, none⟩ = some (.string ⟨#[]⟩) := hq.cell 2
  clear hd8 HD2 HD3 HB7 hb8 HQ7 hq
  go_wp2_with fail
  refine (a9_kind1 _ _ _ HN.out.2.1 HC2.out).mono ?_
  rintro e w9 ⟨rfl, hd9⟩
  have HB9 := Aside0.mk (below_step HB8.out hd9.below)
  clear hd9 HC2 HB8 k0 k1 k2
  go_wp2_with fail
  refine (a9_kind2 _).mono ?_
  rintro e w10 ⟨rfl, hd10⟩
  have HB10 := Aside0.mk (below_step HB9.out hd10.below)
  clear hd10 HB9
  go_wp2_with fail
  refine (a9_kind3 _ _ (lit_at9 _ 5 _ [6] _ rfl (by decide))).mono ?_
  rintro e w11 ⟨rfl, hd11⟩
  have HB11 := Aside0.mk (below_step (below_alloc HB10.out _) hd11.below)
  clear hd11 HB10
  go_wp2
  go_ret
  exact ⟨rfl, HB11.out⟩
end Go.Proofs.Ytnhblhhkjnmkkaa.Q
