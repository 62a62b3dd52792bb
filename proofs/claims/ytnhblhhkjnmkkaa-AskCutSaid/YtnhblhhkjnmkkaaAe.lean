/- ask.Encode: a request's bytes, or that it may not be. Texts and lists of more than 1000000 are not spoken of. -/
import Derived.Test.YtnhblhhkjnmkkaaWr
import Derived.Test.YtnhblhhkjnmkkaaNm
import Derived.Test.YtnhblhhkjnmkkaaBk
namespace Go.Proofs.Ytnhblhhkjnmkkaa.Q
open Go.RowKit Go.Proofs.YtnhblhhkjnmkkaaW.PrintWords Go.Proofs.YtnhblhhkjnmkkaaW.PrintLast Go.Proofs.YtnhblhhkjnmkkaaW.PrintMore
open Go.Proofs.Ytnhblhhkjnmkkaa.Sp Go.Proofs.Ytnhblhhkjnmkkaa.Va
set_option linter.unusedVariables false
set_option linter.unusedSimpArgs false
def entryW (y : List Int) (e : S142) : List Int := y ++ putv e.f0.size ++ bytesOf e.f0 ++ putv e.f1.size ++ bytesOf e.f1
def descW (y : List Int) (d : S140) : List Int := d.f0.foldl entryW (y ++ putv d.f0.length)
def askW (a0 : Int) (s : ByteArray) (a2 : Int) (ds : List S140) : List Int := ds.foldl descW ([1] ++ putv a0.toNat ++ putv s.size ++ bytesOf s ++ putv a2.toNat ++ putv ds.length)
theorem putv_len9 {v : Nat} (h : v ≤ 9223372036854775807) : (putv v).length ≤ 10 := putv_le10 v (by omega)
theorem entryW_len (y : List Int) (e : S142) (h : entryB e = true) : (entryW y e).length ≤ y.length + 300 := by
  simp only [entryB, nameB, Bool.and_eq_true, decide_eq_true_eq] at h
  have h1 := putv_len9 (v := e.f0.size) (by omega)
  have h2 := putv_len9 (v := e.f1.size) (by omega)
  have h3 := bytesOf_length e.f0
  have h4 := bytesOf_length e.f1
  simp only [entryW, List.length_append]
  omega
theorem entriesW_len : ∀ (es : List S142) (y : List Int), es.all entryB = true → (es.foldl entryW y).length ≤ y.length + 300 * es.length := by
  intro es
  induction es with
  | nil => intro y _; simp
  | cons e es ih =>
    intro y h
    simp only [List.all_cons, Bool.and_eq_true] at h
    have h1 := ih (entryW y e) h.2
    have h2 := entryW_len y e h.1
    simp only [List.foldl_cons, List.length_cons]
    omega
theorem descW_len (y : List Int) (d : S140) (h : descB d.f0 = true) : (descW y d).length ≤ y.length + 3000 := by
  simp only [descB, Bool.and_eq_true, decide_eq_true_eq] at h
  have h1 := entriesW_len d.f0 (y ++ putv d.f0.length) h.2
  have h2 := putv_len9 (v := d.f0.length) (by omega)
  simp only [descW, List.length_append] at h1 ⊢
  omega
theorem descsW_len : ∀ (ds : List S140) (y : List Int), ds.all (fun d => descB d.f0) = true → (ds.foldl descW y).length ≤ y.length + 3000 * ds.length := by
  intro ds
  induction ds with
  | nil => intro y _; simp
  | cons d ds ih =>
    intro y h
    simp only [List.all_cons, Bool.and_eq_true] at h
    have h1 := ih (descW y d) h.2
    have h2 := descW_len y d h.1
    simp only [List.foldl_cons, List.length_cons]
    omega
theorem take_T140 (l : List S140) (i : Nat) (h : i < l.length) (y : List Int) : descW ((l.take i).foldl descW y) (rd_T140 l (i : Int)) = (l.take (i + 1)).foldl descW y := by
  rw [List.take_succ_eq_append_getElem h, List.foldl_append, rd_T140, Int.toNat_natCast, List.getD_eq_getElem?_getD, List.getElem?_eq_getElem h]; rfl
theorem take_T142 (l : List S142) (i : Nat) (h : i < l.length) (y : List Int) : entryW ((l.take i).foldl entryW y) (rd_T142 l (i : Int)) = (l.take (i + 1)).foldl entryW y := by
  rw [List.take_succ_eq_append_getElem h, List.foldl_append, rd_T142, Int.toNat_natCast, List.getD_eq_getElem?_getD, List.getElem?_eq_getElem h]; rfl
theorem all_take {α : Type} (p : α → Bool) (l : List α) (i : Nat) (h : l.all p = true) : (l.take i).all p = true := by
  rw [List.all_eq_true] at h ⊢
  exact fun x hx => h x (List.mem_of_mem_take hx)
theorem all_T140 (l : List S140) (i : Nat) (h : i < l.length) (ha : l.all (fun d => descB d.f0) = true) : descB (rd_T140 l (i : Int)).f0 = true := by
  rw [List.all_eq_true] at ha
  exact ha _ (List.mem_of_mem_drop (i := i) (by rw [drop_T140 l i h]; exact List.mem_cons_self ..))
theorem all_T142 (l : List S142) (i : Nat) (h : i < l.length) (ha : l.all entryB = true) : entryB (rd_T142 l (i : Int)) = true := by
  rw [List.all_eq_true] at ha
  exact ha _ (List.mem_of_mem_drop (i := i) (by rw [drop_T142 l i h]; exact List.mem_cons_self ..))
set_option maxHeartbeats 2000000 in
set_option maxRecDepth 100000 in
theorem askE_no (a0 : Int) (s : ByteArray) (a2 : Int) (A : Option Addr) (c : Nat) (ds : List S140) (w : World) (hC : Kd.C k140 w A ds.length ds) (hc : ds.length ≤ c) (M : Nat) (hM : M ≤ 1000000) (hs : SmallA M s ds) (h : askB a0 s a2 ds = false) :
    Calls Try.prog 77 #[.agg #[.int .i64 a0, .string s, .int .i64 a2, .slice A ds.length c]] w fun e w' => e = .returned (.tuple #[.slice none 0 0, .int .i64 1]) ∧ Below w.heap.size w w' := by
  have H := Aside0.mk (ask_f a0 s a2 ds M (by omega) hs (3 * M + 5) (Nat.le_refl _))
  rw [h] at H
  have HC := Aside0.mk hC
  have HC' := Aside0.mk hc
  clear h hs hC hc
  go_enter Try.func77, Try.ntmps77
  go_wp2_with fail
  refine (ask_Check.calls _ _ _ _ A c ds _ _ (Kd.C_alloc HC.out _) HC'.out H.out).mono ?_
  rintro e w1 ⟨rfl, hb⟩
  have HB := Aside0.mk (below_step (below_alloc (Below.refl _ _) _) hb)
  clear hb
  go_wp2_with fail
  go_ret2
  exact ⟨rfl, HB.out⟩
set_option maxHeartbeats 4000000 in
set_option maxRecDepth 100000 in
theorem askE_yes (a0 : Int) (s : ByteArray) (a2 : Int) (A : Option Addr) (c : Nat) (ds : List S140) (w : World) (hC : Kd.C k140 w A ds.length ds) (hc : ds.length ≤ c) (M : Nat) (hM : M ≤ 1000000) (hs : SmallA M s ds) (h : askB a0 s a2 ds = true) :
    Calls Try.prog 77 #[.agg #[.int .i64 a0, .string s, .int .i64 a2, .slice A ds.length c]] w fun e w' => ∃ v, e = .returned (.tuple #[v, .int .i64 0]) ∧ Kd.R (Kd.int .u8) 5 w' w.heap.size (fun _ => True) v (askW a0 s a2 ds) ∧ Below w.heap.size w w' := by
  have H := Aside0.mk (ask_f a0 s a2 ds M (by omega) hs (3 * M + 5) (Nat.le_refl _))
  rw [h] at H
  have HC := Aside0.mk hC
  have HC' := Aside0.mk hc
  have h' := h
  simp only [askB, nameB, Bool.and_eq_true, decide_eq_true_eq] at h'
  obtain ⟨⟨⟨q1, q2, q3, q4, q5, q6⟩, ⟨q7, q8⟩, _⟩, q9⟩ := h'
  have L1 := Aside0.mk (putv_len9 (v := a0.toNat) (by omega))
  have L2 := Aside0.mk (putv_len9 (v := s.size) (by omega))
  have L3 := Aside0.mk (bytesOf_length s)
  have L4 := Aside0.mk (putv_len9 (v := a2.toNat) (by omega))
  have L5 := Aside0.mk (putv_len9 (v := ds.length) (by omega))
  have Q9 := Aside0.mk q9
  clear h hs hC hc q9
  go_enter Try.func77, Try.ntmps77
  go_wp2_with fail
  refine (ask_Check.calls _ _ _ _ A c ds _ _ (Kd.C_alloc HC.out _) HC'.out H.out).mono ?_
  rintro e w1 ⟨rfl, hb⟩
  have hblk := blk_below (heap_alloc_new w (.cells #[.int .i64 a0, .string s, .int .i64 a2, .slice A ds.length c] 95)) hb
  have HK := Aside0.mk hblk
  have HB := Aside0.mk (below_step (below_alloc (Below.refl _ _) _) hb)
  have hz : w.heap.size < w1.heap.size := blk_lt hblk
  have hc0 : w1.cell? ⟨w.heap.size, 0, none⟩ = some (.int .i64 a0) := blk_cell hblk 0
  clear hb hblk H
  go_wp2_with fail
  refine (wnumP w1 _ _ _ _ (wat_new w1 w1 (Below.refl _ _) 1) (by omega) (by omega) (by simp)).mono ?_
  rintro e w2 ⟨rfl, hw2⟩
  have HW2 := Aside0.mk hw2
  have hc1 : w2.cell? ⟨w.heap.size, 1, none⟩ = some (.string s) := blk_cell (blk_below HK.out hw2.below) 1
  clear hw2 hc0
  go_wp2_with fail
  refine (wtextP w1 _ _ _ _ HW2.out (by omega) (by have := L1.out; simp only [List.length_append, List.length_cons, List.length_nil]; omega)).mono ?_
  rintro e w3 ⟨rfl, hw3⟩
  have HW3 := Aside0.mk hw3
  have hc2 : w3.cell? ⟨w.heap.size, 2, none⟩ = some (.int .i64 a2) := blk_cell (blk_below HK.out hw3.below) 2
  clear hw3 hc1 HW2
  go_wp2_with fail
  refine (wnumP w1 _ _ _ _ HW3.out (by omega) (by omega) (by have := L1.out; have := L2.out; have := L3.out; simp only [List.length_append, List.length_cons, List.length_nil]; omega)).mono ?_
  rintro e w4 ⟨rfl, hw4⟩
  have HW4 := Aside0.mk hw4
  have hc3 : w4.cell? ⟨w.heap.size, 3, none⟩ = some (.slice A ds.length c) := blk_cell (blk_below HK.out hw4.below) 3
  clear hw4 hc2 HW3
  go_wp2_with fail
  refine (wnumP w1 _ _ _ _ HW4.out (by omega) (by omega) (by have := L1.out; have := L2.out; have := L3.out; have := L4.out; simp only [List.length_append, List.length_cons, List.length_nil]; omega)).mono ?_
  rintro e w5 ⟨rfl, hw5⟩
  have hc3' : w5.cell? ⟨w.heap.size, 3, none⟩ = some (.slice A ds.length c) := blk_cell (blk_below HK.out hw5.below) 3
  obtain ⟨y, hy⟩ : ∃ y, y = [1] ++ putv a0.toNat ++ putv s.size ++ bytesOf s ++ putv a2.toNat ++ putv ds.length := ⟨_, rfl⟩
  have HY := Aside0.mk hy
  have hyl : y.length ≤ 1000 := by
    have := L1.out; have := L2.out; have := L3.out; have := L4.out; have := L5.out
    rw [hy]; simp only [List.length_append, List.length_cons, List.length_nil]; omega
  have HYL := Aside0.mk hyl
  rw [show ((ds.length : Int)).toNat = ds.length from by omega, ← hy] at hw5
  have HW5 := Aside0.mk hw5
  clear hw5 hc3 HW4 hy hyl L1 L2 L3 L4 L5
  go_wp2_with fail
  go_loopg [33] (ds.length + 1) (fun kq v33 w' => ∃ i : Nat, v33 = .int .i64 (i : Int) ∧ Aside0 (i ≤ ds.length) ∧ Aside0 (kq = ds.length + 1 - i) ∧ Aside0 (Wat w1 w' (w1.heap.size + 1) ((ds.take i).foldl descW y)))
  case atStart => exact ⟨0, rfl, ⟨Nat.zero_le _⟩, ⟨rfl⟩, by simpa using HW5⟩
  case round =>
    obtain ⟨i, rfl, hi, hkq, hw⟩ := hrel
    have hgl : w1.heap.size + 1 < wr.heap.size := by obtain ⟨v, h1, _⟩ := hw.out; exact blk_lt h1
    have hyi : ((ds.take i).foldl descW y).length ≤ 60000 := by
      have h1 := descsW_len (ds.take i) y (all_take _ _ _ Q9.out)
      have h2 := HYL.out
      have h3 : (ds.take i).length ≤ 16 := by rw [List.length_take]; omega
      omega
    have HYI := Aside0.mk hyi
    clear hyi
    by_cases c1 : i < ds.length
    · have d1 : decide ((i : Int) < (ds.length : Int)) = true := decide_eq_true (by omega)
      have hbr := below_step HB.out hw.out.below
      obtain ⟨ad, A1, n1, eA, hx, hl1, hC1⟩ := at_T140 HC.out (i : Int) (by omega) (by omega)
      cases eA
      replace hx := (hbr.cell (World.block_lt_of_cell? w _ hx)).trans hx
      rw [Int.toNat_natCast] at hx
      have hdB := all_T140 ds i c1 Q9.out
      have HT := Aside0.mk (take_T140 ds i c1 y)
      obtain ⟨es, hes⟩ : ∃ es, es = (rd_T140 ds (i : Int)).f0 := ⟨_, rfl⟩
      rw [← hes] at hx hl1 hC1 hdB
      have HE := Aside0.mk hes
      have HC1 := Aside0.mk hC1
      have HDB := Aside0.mk hdB
      simp only [descB, Bool.and_eq_true, decide_eq_true_eq] at hdB
      obtain ⟨⟨e1, e2⟩, e3⟩ := hdB
      have E3 := Aside0.mk e3
      have e0 : 0 ≤ (i : Int) := by omega
      have e4 : (i : Int) < (ds.length : Int) := by omega
      have HIL := Aside0.mk c1
      clear hes hC1 hbr e3 c1
      go_wp2_with fail
      refine (wnumK w1 _ _ _ _ (hw.out.more (below_alloc (Below.refl _ _) _)) (by omega) (by omega) (by have := HYI.out; omega)).mono ?_
      rintro e w6 ⟨rfl, hw6, hk6⟩
      have hb6 : Blk w6 wr.heap.size #[.slice A1 es.length n1] := (blk_one wr _ 140 _ rfl).but hk6 (by omega)
      have hc6 : w6.cell? ⟨wr.heap.size, 0, none⟩ = some (.slice A1 es.length n1) := hb6.cell 0
      rw [show ((es.length : Int)).toNat = es.length from by omega] at hw6
      obtain ⟨z, hz⟩ : ∃ z, z = (ds.take i).foldl descW y ++ putv es.length := ⟨_, rfl⟩
      have hzl : z.length ≤ 61000 := by
        have h1 := HYI.out
        have h2 := putv_len9 (v := es.length) (by omega)
        rw [hz, List.length_append]; omega
      rw [← hz] at hw6
      have HZ := Aside0.mk hz
      have HZL := Aside0.mk hzl
      have HW6 := Aside0.mk hw6
      have HKQ := Aside0.mk hkq.out
      clear hw6 hk6 hb6 hz hzl hx hw hkq hgl e0 e4 d1
      go_wp2_with fail
      clear hc6
      go_loopg [44] (es.length + 1) (fun kq v44 w' => ∃ j : Nat, v44 = .int .i64 (j : Int) ∧ Aside0 (j ≤ es.length) ∧ Aside0 (kq = es.length + 1 - j) ∧ Aside0 (Wat w1 w' (w1.heap.size + 1) ((es.take j).foldl entryW z)))
      case atStart => exact ⟨0, rfl, ⟨Nat.zero_le _⟩, ⟨rfl⟩, by simpa using HW6⟩
      case round =>
        obtain ⟨j, rfl, hj, hkj, hw⟩ := hrel
        have hgl : w1.heap.size + 1 < wr.heap.size := by obtain ⟨v, h1, _⟩ := hw.out; exact blk_lt h1
        have hzj : ((es.take j).foldl entryW z).length ≤ 70000 := by
          have h1 := entriesW_len (es.take j) z (all_take _ _ _ E3.out)
          have h2 := HZL.out
          have h3 : (es.take j).length ≤ 8 := by rw [List.length_take]; omega
          omega
        have HZJ := Aside0.mk hzj
        clear hzj
        by_cases c2 : j < es.length
        · have d2 : decide ((j : Int) < (es.length : Int)) = true := decide_eq_true (by omega)
          have hbr := below_step HB.out hw.out.below
          obtain ⟨ad2, eA2, hx0, hx1⟩ := at_T142 HC1.out (j : Int) (by omega) (by omega)
          cases eA2
          replace hx0 := (hbr.cell (World.block_lt_of_cell? w _ hx0)).trans hx0
          replace hx1 := (hbr.cell (World.block_lt_of_cell? w _ hx1)).trans hx1
          rw [Int.toNat_natCast] at hx0 hx1
          have heB := all_T142 es j c2 E3.out
          have HT2 := Aside0.mk (take_T142 es j c2 z)
          obtain ⟨en, hen⟩ : ∃ en, en = rd_T142 es (j : Int) := ⟨_, rfl⟩
          rw [← hen] at hx0 hx1 heB
          have HEN := Aside0.mk hen
          simp only [entryB, nameB, Bool.and_eq_true, decide_eq_true_eq] at heB
          obtain ⟨⟨⟨f1, f2⟩, _⟩, f3⟩ := heB
          have e0 : 0 ≤ (j : Int) := by omega
          have e4 : (j : Int) < (es.length : Int) := by omega
          clear hen hbr c2
          go_wp2_with fail
          refine (wtextK w1 _ _ _ _ (hw.out.more (below_alloc (Below.refl _ _) _)) (by omega) (by have := HZJ.out; omega)).mono ?_
          rintro e w7 ⟨rfl, hw7, hk7⟩
          have hb7 : Blk w7 wr.heap.size #[.string en.f0, .string en.f1] := (blk_one wr _ 142 _ rfl).but hk7 (by omega)
          have hc7 : w7.cell? ⟨wr.heap.size, 1, none⟩ = some (.string en.f1) := hb7.cell 1
          have HW7 := Aside0.mk hw7
          clear hw7 hk7 hb7 hx0 hx1 hw d2 e0
          go_wp2_with fail
          have hlen : (((es.take j).foldl entryW z) ++ putv en.f0.size ++ bytesOf en.f0).length ≤ 80000 := by
            have h1 := HZJ.out
            have h2 := putv_len9 (v := en.f0.size) (by omega)
            have h3 := bytesOf_length en.f0
            rw [List.length_append, List.length_append]; omega
          refine (wtextK w1 _ _ _ _ HW7.out (by omega) (by omega)).mono ?_
          rintro e w8 ⟨rfl, hw8, _⟩
          have hw9 : Wat w1 w8 (w1.heap.size + 1) ((es.take (j + 1)).foldl entryW z) := by
            rw [← HT2.out, ← HEN.out]; exact hw8
          have HW9 := Aside0.mk hw9
          have hjl : j < es.length := by omega
          clear hc7 hw8 hw9 hlen e4
          go_wp2_with fail
          go_roundg (es.length + 1 - (j + 1))
          case measure => have := hkj.out; omega
          case rel => exact ⟨j + 1, by first | (simp [wrap64, w64]; done) | (simp [wrap64, w64]; omega), ⟨by omega⟩, ⟨rfl⟩, HW9⟩
        · have hje : j = es.length := by have := hj.out; omega
          subst hje
          have d2 : decide ((es.length : Int) < (es.length : Int)) = false := decide_eq_false (by omega)
          have hw9 : Wat w1 wr (w1.heap.size + 1) ((ds.take (i + 1)).foldl descW y) := by
            have h1 := hw.out
            rw [List.take_length] at h1
            rw [← HT.out, descW, ← HE.out, ← HZ.out]; exact h1
          have HW9 := Aside0.mk hw9
          have hil : i < ds.length := HIL.out
          clear hw hw9
          go_wp2_with fail
          go_roundg (ds.length + 1 - (i + 1))
          case measure => have := HKQ.out; omega
          case rel => exact ⟨i + 1, by first | (simp [wrap64, w64]; done) | (simp [wrap64, w64]; omega), ⟨by omega⟩, ⟨rfl⟩, HW9⟩
    · have hie : i = ds.length := by have := hi.out; omega
      subst hie
      have d1 : decide ((ds.length : Int) < (ds.length : Int)) = false := decide_eq_false (by omega)
      have h1 := hw.out
      rw [List.take_length, HY.out] at h1
      obtain ⟨v, h2, h3, h4, h5⟩ := h1
      have hcell : wr.cell? ⟨w1.heap.size + 1, 0, none⟩ = some v := blk_cell h2 0
      have HR := Aside0.mk (Kd.R_lower h3 HB.out.size)
      have HB2 := Aside0.mk (below_step HB.out h4)
      clear hw h2 h3 h4 h5
      go_wp2_with fail
      go_ret2
      exact ⟨v, rfl, HR.out, HB2.out⟩
/-- Is no text or list very long? -/
def smallB (M : Nat) (s : ByteArray) (ds : List S140) : Bool := decide (s.size ≤ M) && (decide (ds.length ≤ M) && ds.all fun d => decide (d.f0.length ≤ M) && d.f0.all fun e => decide (e.f0.size ≤ M))
theorem small_of (M : Nat) (s : ByteArray) (ds : List S140) (h : smallB M s ds = true) : SmallA M s ds := by
  simp only [smallB, Bool.and_eq_true, decide_eq_true_eq, List.all_eq_true] at h
  exact ⟨h.1, h.2.1, fun d hd => ⟨(h.2.2 d hd).1, (h.2.2 d hd).2⟩⟩
def ask_Encode.f (a0_0 : Int) (a0_1 : ByteArray) (a0_2 : Int) (l0_3 : List S140) : Option (List Int × Int) :=
  if smallB 1000000 a0_1 l0_3 then (if askB a0_0 a0_1 a0_2 l0_3 then some (askW a0_0 a0_1 a0_2 l0_3, 0) else some ([], 1)) else none
theorem ask_Encode.calls (a0_0 : Int) (a0_1 : ByteArray) (a0_2 : Int) (A0_3 : Option Addr) (c0_3 : Nat) (l0_3 : List S140) (r1 : List Int) (r2 : Int) (w : World) (hr0_3 : Kd.C k140 w A0_3 l0_3.length l0_3) (hc0_3 : l0_3.length ≤ c0_3) (h : ask_Encode.f a0_0 a0_1 a0_2 l0_3 = some (r1, r2)) :
    Calls Try.prog 77 #[.agg #[.int .i64 a0_0, .string a0_1, .int .i64 a0_2, .slice A0_3 l0_3.length c0_3]] w fun e w' => ∃ v0_ : Value, e = .returned (.tuple #[v0_, .int .i64 r2]) ∧ Kd.R (Kd.int .u8) 5 w' w.heap.size (fun _ => True) v0_ r1 ∧ Below w.heap.size w w' := by
  unfold ask_Encode.f at h
  split at h
  · rename_i hs
    split at h
    · rename_i ha
      simp only [Option.some.injEq, Prod.mk.injEq] at h
      obtain ⟨rfl, rfl⟩ := h
      exact askE_yes a0_0 a0_1 a0_2 A0_3 c0_3 l0_3 w hr0_3 hc0_3 1000000 (Nat.le_refl _) (small_of _ _ _ hs) ha
    · rename_i ha
      simp only [Option.some.injEq, Prod.mk.injEq] at h
      obtain ⟨rfl, rfl⟩ := h
      refine (askE_no a0_0 a0_1 a0_2 A0_3 c0_3 l0_3 w hr0_3 hc0_3 1000000 (Nat.le_refl _) (small_of _ _ _ hs) (by simpa using ha)).mono ?_
      rintro e w' ⟨rfl, hb⟩
      exact ⟨_, rfl, Kd.R_nil _ _ _ _ _, hb⟩
  · cases h
end Go.Proofs.Ytnhblhhkjnmkkaa.Q
