/- The printed functions of package varint, and the reference's, tell what putv and getv tell. -/
import Derived.Test.YtnhblhhkjnmkkaaQ8
import Derived.Test.YtnhblhhkjnmkkaaSp
namespace Go.Proofs.Ytnhblhhkjnmkkaa.Va
open Go.RowKit Go.Proofs.YtnhblhhkjnmkkaaW.PrintWords Go.Proofs.YtnhblhhkjnmkkaaW.PrintLast Go.Proofs.YtnhblhhkjnmkkaaW.PrintMore
open Go.Proofs.Ytnhblhhkjnmkkaa.Q Go.Proofs.Ytnhblhhkjnmkkaa.Sp

theorem w64 {n : Int} (h0 : -9223372036854775808 ≤ n) (h1 : n ≤ 9223372036854775807) : wrap64 n = n := by
  unfold wrap64
  omega
theorem u64w {n : Int} (h0 : 0 ≤ n) (h1 : n < 18446744073709551616) : IntKind.u64.wrap n = n := by
  rw [IntKind.wrap_u64]
  omega
theorem or128 : ∀ x : Fin 256, (x.val ||| 128) = x.val % 128 + 128 := by decide +kernel
theorem or_byte (v : Nat) : Go.bits .or .u8 ((v : Int) % 256) 128 = ((v % 128 + 128 : Nat) : Int) := by
  have h := or128 ⟨v % 256, by omega⟩
  simp only at h
  rw [show ((v : Int) % 256) = ((v % 256 : Nat) : Int) from by omega]
  have h2 := Go.u8_or_nat (v % 256) 128 (by omega) (by omega)
  rw [show ((128 : Nat) : Int) = 128 from rfl] at h2
  rw [h2, h]
  omega

theorem put_l0 (v : Nat) : ∀ (k : Nat) (x5 : List Int), (putv v).length ≤ k → x5.length + (putv v).length ≤ 140737488355328 →
    varint_Put.l0 k (v : Int) x5 = some (x5 ++ putv v) := by
  induction v using Nat.strongRecOn with
  | _ v ih =>
    intro k x5 hk hl
    have hp := putv_pos v
    obtain ⟨k, rfl⟩ : ∃ m, k = m + 1 := ⟨k - 1, by omega⟩
    simp only [varint_Put.l0]
    by_cases h : v < 128
    · rw [putv_small h] at hk hl ⊢
      simp only [List.length_cons, List.length_nil] at hk hl
      rw [if_neg (by omega), if_pos (by omega)]
      rw [show ((v : Int) % 256) = (v : Int) from by omega]
    · rw [putv_big h] at hk hl ⊢
      simp only [List.length_cons] at hk hl
      rw [if_pos (by omega), if_pos (by omega), or_byte]
      have e : ((v : Int) / 128) = ((v / 128 : Nat) : Int) := by omega
      rw [e, ih (v / 128) (by omega) k _ (by omega) (by simp; omega)]
      simp

theorem put_f (v : Nat) (l : List Int) (k : Nat) (hk : (putv v).length ≤ k) (hl : l.length + (putv v).length < 140737488355328) :
    varint_Put.f k l (v : Int) = some (l ++ putv v) := by
  unfold varint_Put.f
  rw [if_pos (by simp; omega), put_l0 v k _ hk (by simp; omega)]
  simp

theorem ref_put_l0 (v : Nat) (hv : v < 18446744073709551616) : ∀ (k : Nat) (x5 : List Int), (putv v).length ≤ k → x5.length + (putv v).length ≤ 140737488355328 →
    turncockref1_Put.l0 k (v : Int) x5 = some (x5 ++ putv v) := by
  induction v using Nat.strongRecOn with
  | _ v ih =>
    intro k x5 hk hl
    have hp := putv_pos v
    obtain ⟨k, rfl⟩ : ∃ m, k = m + 1 := ⟨k - 1, by omega⟩
    simp only [turncockref1_Put.l0]
    by_cases h : v < 128
    · rw [putv_small h] at hk hl ⊢
      simp only [List.length_cons, List.length_nil] at hk hl
      rw [if_neg (by omega), if_pos (by omega)]
      rw [show ((v : Int) % 256) = (v : Int) from by omega]
    · rw [putv_big h] at hk hl ⊢
      simp only [List.length_cons] at hk hl
      rw [if_pos (by omega), if_pos (by omega)]
      have e1 : Int.tmod (v : Int) 128 = ((v % 128 : Nat) : Int) := by rw [Int.tmod_eq_emod_of_nonneg (by omega)]; omega
      have e2 : Int.tdiv (v : Int) 128 = ((v / 128 : Nat) : Int) := by rw [Int.tdiv_eq_ediv_of_nonneg (by omega)]; omega
      rw [e1, e2, u64w (by omega) (by omega), u64w (by omega) (by omega)]
      rw [show (((v % 128 : Nat) : Int) + 128) % 256 = ((v % 128 + 128 : Nat) : Int) from by omega]
      rw [ih (v / 128) (by omega) (by omega) k _ (by omega) (by simp; omega)]
      simp

theorem ref_put_f (v : Nat) (hv : v < 18446744073709551616) (l : List Int) (k : Nat) (hk : (putv v).length ≤ k) (hl : l.length + (putv v).length < 140737488355328) :
    turncockref1_Put.f k l (v : Int) = some (l ++ putv v) := by
  unfold turncockref1_Put.f
  simp only [Option.bind_some]
  rw [if_pos (by simp; omega), ref_put_l0 v hv k _ hk (by simp; omega)]
  simp

theorem pow7 (i : Nat) : 2 ^ (7 * i) = 128 ^ i := by rw [Nat.pow_mul]
/-- A byte's seven bits, laid behind i times seven. -/
theorem or_shl (acc i : Nat) (c : Int) (h0 : 0 ≤ c) (h1 : c ≤ 255) (hi : i ≤ 9) (hacc : acc < 128 ^ i) (hlt : c.toNat % 128 * 128 ^ i + acc < 18446744073709551616) :
    Go.bits .or .u64 (acc : Int) (shl .u64 (IntKind.u64.wrap (Go.bits .and .u8 c 127)) (wrap64 (7 * (i : Int)))) = ((acc + c.toNat % 128 * 128 ^ i : Nat) : Int) := by
  obtain ⟨n, rfl⟩ := Int.eq_ofNat_of_zero_le h0
  rw [Int.toNat_natCast] at hlt ⊢
  have e1 : Go.bits .and .u8 (n : Int) 127 = ((n % 128 : Nat) : Int) := by
    have h2 := Go.u8_and_nat n 127 (by omega) (by omega)
    rw [show ((127 : Nat) : Int) = 127 from rfl] at h2
    rw [h2, Go.nat_mask7]
  rw [e1, u64w (by omega) (by omega), w64 (by omega) (by omega)]
  have e2 : shl .u64 ((n % 128 : Nat) : Int) (7 * (i : Int)) = ((n % 128 * 128 ^ i : Nat) : Int) := by
    unfold shl
    rw [show (7 * (i : Int)).toNat = 7 * i from by omega, Nat.min_eq_left (by show 7 * i ≤ 64; omega)]
    rw [show ((2 : Int) ^ (7 * i)) = ((2 ^ (7 * i) : Nat) : Int) from by push_cast; rfl, pow7, ← Int.natCast_mul]
    exact u64w (by omega) (by omega)
  rw [e2, Go.u64_or_nat acc _ (by omega) (by omega), Nat.or_comm, Go.nat_join (7 * i) _ _ (by rw [pow7]; exact Nat.mul_mod_left _ _) (by rw [pow7]; exact hacc), Nat.add_comm]

/-- What getv tells, as the program's three results. -/
def told (r : Nat × Nat × Int) : Int × Int × Int := ((r.1 : Int), (r.2.1 : Int), r.2.2)

theorem drop_at (l : List Int) (i : Nat) (h : i < l.length) : l.drop i = rd l (i : Int) :: l.drop (i + 1) := by
  rw [List.drop_eq_getElem_cons h]
  congr 1
  unfold rd
  rw [Int.toNat_natCast, List.getD_eq_getElem?_getD, List.getElem?_eq_getElem h]
  rfl
theorem rd_byte {l : List Int} (hb : Bytes l) (i : Nat) (h : i < l.length) : 0 ≤ rd l (i : Int) ∧ rd l (i : Int) ≤ 255 := by
  unfold rd
  rw [Int.toNat_natCast, List.getD_eq_getElem?_getD, List.getElem?_eq_getElem h]
  exact hb _ (List.getElem_mem h)

theorem get_l0 (l : List Int) (hb : Bytes l) (hl : l.length ≤ 140737488355328) : ∀ (d k i acc : Nat), i + d = 9 → 2 * d + 2 ≤ k → i ≤ l.length → acc < 128 ^ i →
    varint_Get.l0 k (acc : Int) l (l.length : Int) (i : Int) = some (told (getv i acc (l.drop i))) := by
  intro d
  induction d with
  | zero =>
    intro k i acc hid hk hi hacc
    obtain rfl : i = 9 := by omega
    obtain ⟨k, rfl⟩ : ∃ m, k = m + 2 := ⟨k - 2, by omega⟩
    simp only [varint_Get.l0]
    by_cases hlt : 9 < l.length
    · have hc := rd_byte hb 9 hlt
      rw [drop_at l 9 hlt]
      rw [if_pos (by omega), if_pos (by omega), if_pos (by omega), if_pos (show ((9 : Nat) : Int) = 9 from rfl)]
      simp only [getv, varint_Get.j1]
      generalize rd l ((9 : Nat) : Int) = c at *
      by_cases h1 : c > 1
      · rw [if_pos (by simpa using h1), if_pos ⟨trivial, h1⟩]
        rfl
      · rw [if_neg (by simpa using h1), if_neg (show ¬ (True ∧ c > 1) from fun h => h1 h.2), w64 (by omega) (by omega), if_pos (show (0 : Int) ≤ 7 * ((9 : Nat) : Int) from by omega), if_neg (show ¬ c ≥ 128 from by omega), if_neg (show ¬ c ≥ 128 from by omega)]
        rw [pow9] at hacc
        have hor := or_shl acc 9 c hc.1 hc.2 (by omega) (by rw [pow9]; exact hacc) (by rw [pow9]; omega)
        rw [w64 (by omega) (by omega)] at hor
        rw [hor]
        by_cases h3 : c = 0
        · rw [if_pos h3, if_pos (show ((9 : Nat) : Int) > 0 from by omega), if_pos (show c = 0 ∧ 9 > 0 from ⟨h3, by omega⟩)]
          rfl
        · rw [if_neg h3, if_neg (show ¬ (c = 0 ∧ 9 > 0) from fun h => h3 h.1), w64 (by omega) (by omega)]
          have e : c.toNat % 128 = c.toNat := by omega
          rw [e]
          rfl
    · rw [if_neg (by omega)]
      rw [List.drop_eq_nil_of_le (by omega)]
      rfl
  | succ d ih =>
    intro k i acc hid hk hi hacc
    obtain ⟨k, rfl⟩ : ∃ m, k = m + 2 := ⟨k - 2, by omega⟩
    simp only [varint_Get.l0]
    by_cases hlt : i < l.length
    · have hc := rd_byte hb i hlt
      rw [drop_at l i hlt]
      rw [if_pos (by omega), if_pos (by omega), if_pos (by omega), if_neg (by omega)]
      simp only [getv, varint_Get.j1]
      generalize rd l (i : Int) = c at *
      have hle : 128 ^ i ≤ 128 ^ 8 := Nat.pow_le_pow_right (by omega) (by omega)
      have e8 : (128 : Nat) ^ 8 = 72057594037927936 := by decide
      have hm : c.toNat % 128 * 128 ^ i ≤ 127 * 128 ^ i := Nat.mul_le_mul_right _ (by omega)
      have hor := or_shl acc i c hc.1 hc.2 (by omega) hacc (by omega)
      rw [w64 (by omega) (by omega)] at hor ⊢
      rw [if_pos (show (0 : Int) ≤ 7 * (i : Int) from by omega), if_neg (show ¬ (i = 9 ∧ c > 1) from fun h => by omega)]
      rw [hor]
      by_cases h2 : c ≥ 128
      · rw [if_pos h2, if_pos h2, w64 (by omega) (by omega)]
        have e : c.toNat % 128 = c.toNat - 128 := by omega
        rw [e] at hm ⊢
        rw [show ((i : Int) + 1) = ((i + 1 : Nat) : Int) from by omega]
        exact ih k (i + 1) _ (by omega) (by omega) (by omega) (by rw [Nat.pow_succ]; omega)
      · rw [if_neg h2, if_neg h2]
        have e : c.toNat % 128 = c.toNat := by omega
        rw [e]
        by_cases h3 : c = 0
        · rw [if_pos h3]
          by_cases h4 : (i : Int) > 0
          · rw [if_pos h4, if_pos (show c = 0 ∧ i > 0 from ⟨h3, by omega⟩)]
            rfl
          · rw [if_neg h4, if_neg (show ¬ (c = 0 ∧ i > 0) from fun h => by omega), w64 (by omega) (by omega)]
            rfl
        · rw [if_neg h3, if_neg (show ¬ (c = 0 ∧ i > 0) from fun h => h3 h.1), w64 (by omega) (by omega)]
          rfl
    · rw [if_neg (by omega)]
      rw [List.drop_eq_nil_of_le (by omega)]
      rfl

theorem get_f (l : List Int) (hb : Bytes l) (hl : l.length ≤ 140737488355328) (k : Nat) (hk : 20 ≤ k) : varint_Get.f k l = some (told (getv 0 0 l)) :=
  get_l0 l hb hl 9 k 0 0 (by omega) (by omega) (by omega) (by omega)

theorem bytes_of_wf {l : List Int} (h : ∀ x ∈ l, (Lit.int .u8 x).wf = true) : Bytes l := by
  intro x hx
  have := h x hx
  simp [Lit.wf] at this
  have e1 : IntKind.u8.min = 0 := rfl
  have e2 : IntKind.u8.max = 255 := rfl
  omega
theorem nat_of_wf {v : Int} (h : (Lit.int .u64 v).wf = true) : ∃ n : Nat, v = n ∧ n < 18446744073709551616 := by
  simp [Lit.wf] at h
  have e1 : IntKind.u64.min = 0 := rfl
  have e2 : IntKind.u64.max = 18446744073709551615 := rfl
  exact ⟨v.toNat, by omega, by omega⟩
theorem int_of_wf {v : Int} (h : (Lit.int .i64 v).wf = true) : -9223372036854775808 ≤ v ∧ v ≤ 9223372036854775807 := by
  simp [Lit.wf] at h
  have e1 : IntKind.i64.min = -9223372036854775808 := rfl
  have e2 : IntKind.i64.max = 9223372036854775807 := rfl
  omega

end Go.Proofs.Ytnhblhhkjnmkkaa.Va
