/- ask.one: a descriptor read. -/
import Derived.Test.YtnhblhhkjnmkkaaRd
import Derived.Test.YtnhblhhkjnmkkaaBk
import Derived.Deep.AppendLies
import Derived.Deep.RegionLaw
import Derived.Deep.RegionWith
import Derived.Deep.Heap
import Derived.RegionTactic
import Derived.ChangeAlike
namespace Go.Proofs.Ytnhblhhkjnmkkaa.Q
open Go.RowKit Go.Proofs.YtnhblhhkjnmkkaaW.PrintWords Go.Proofs.YtnhblhhkjnmkkaaW.PrintLast Go.Proofs.YtnhblhhkjnmkkaaW.PrintMore
open Go.Proofs.Ytnhblhhkjnmkkaa.Sp Go.Proofs.Ytnhblhhkjnmkkaa.Va
set_option linter.unusedVariables false
set_option linter.unusedSimpArgs false
theorem info142' : (Try.prog.info? 142).map (fun i => (i.zero, i.size, i.bytes)) = some (some (.agg #[.string ⟨#[]⟩, .string ⟨#[]⟩]), 2, 32) := by kernel_rfl
/-- So many entries read. -/
def rentries : Nat → List Int → Option (List S142 × List Int)
  | 0, l => some ([], l)
  | n + 1, l => (rtext 64 l).bind fun p => (rtext 128 p.2).bind fun q => (rentries n q.2).bind fun r => some (⟨p.1, q.1⟩ :: r.1, r.2)
def rdesc (l : List Int) : Option (List S142 × List Int) := (rnum 8 l).bind fun p => rentries p.1 p.2
/-- A descriptor in block g, made since W0, with the entries xs, whose row lies elsewhere than in block g'. -/
def Dat (W0 W : World) (g g' : Nat) (xs : List S142) : Prop :=
  ∃ v, W.heap[g]? = some (.cells #[v] 140 (0, 0)) ∧ Kd.R k142 142 W W0.heap.size (fun k => k ≠ g') v xs ∧ Below W0.heap.size W0 W ∧ W0.heap.size ≤ g
/-- What reading a descriptor comes to. -/
def OneSaid (W0 W : World) (g : Nat) (D : Option (List S142 × List Int)) (e : Ending) (w' : World) : Prop :=
  match D with
  | some (xs, l') => ∃ v, e = .returned (.agg #[v]) ∧ Kd.R k142 142 w' W.heap.size (fun k => k ≠ g) v xs ∧ Rat W0 w' g l' ∧ KeepBut W w' g none
  | none => e = .panicked [gaveUp] ∧ Below W0.heap.size W0 w' ∧ KeepBut W w' g none
/-- A descriptor's block. -/
def Dsc (W : World) (g : Nat) (v : Value) : Prop := W.heap[g]? = some (.cells #[v] 140 (0, 0))
theorem Dsc.cell {W : World} {g : Nat} {v : Value} (h : Dsc W g v) : W.cell? ⟨g, 0, none⟩ = some v := blk_cell h 0
theorem Dsc.frozen {W : World} {g : Nat} {v : Value} (h : Dsc W g v) : W.frozen? ⟨g, 0, none⟩ = false := blk_frozen h 0
theorem Dsc.but {W W1 : World} {g g' : Nat} {v : Value} (h : Dsc W g v) (hk : KeepBut W W1 g' none) (hne : g ≠ g') : Dsc W1 g v := (hk.2 g (blk_lt h) hne (by simp)).trans h
theorem Dsc.drew {W : World} {g : Nat} {v : Value} (h : Dsc W g v) : Dsc W.drew g v := blk_drew h
theorem Dsc.set_ {W : World} {g : Nat} {v : Value} (h : Dsc W g v) (v' : Value) : Dsc (W.setCell ⟨g, 0, none⟩ v') g v' := by have h2 := blk_set h 0 v'; rw [Dsc]; simpa using h2
theorem dsc_new (W : World) (v : Value) : Dsc (W.alloc (.cells #[v] 140)) W.heap.size v := heap_alloc_new W _
theorem grown3 {w3 : World} {gd base g : Nat} {v : Value} {xs : List S142} (hd : Dsc w3 gd v) (ho : Kd.R k142 142 w3 base (fun k => k ≠ g) v xs) {w4 : World} (hg : w3.grownBy w4 v.ownBlock) : Dsc w4 gd v :=
  blk_grown hd hg (Kd.R_ne ho hd (by decide))
theorem keep_more {W w3 w4 : World} {g : Nat} {v : Value} {xs : List S142} (hk : KeepBut W w3 g none) (ho : Kd.R k142 142 w3 W.heap.size (fun k => k ≠ g) v xs) (hg : w3.grownBy w4 v.ownBlock) : KeepBut W w4 g none := by
  refine ⟨Nat.le_trans hk.1 hg.size, fun i hi hne _ => ?_⟩
  exact (hg.block i (Nat.lt_of_lt_of_le hi hk.1) (fun e => by have := Kd.R_base ho i e.symm; omega)).trans (hk.2 i hi hne (by simp))
theorem keep_set {W w : World} {g gd : Nat} (hk : KeepBut W w g none) (hg : W.heap.size ≤ gd) (v : Value) : KeepBut W (w.setCell ⟨gd, 0, none⟩ v) g none := by
  refine ⟨by have := hk.1; simpa using this, fun i hi hne hr => ?_⟩
  have h := hk.2 i hi hne hr
  rw [← h]
  exact Go.Deep.blk_setCell_other w ⟨gd, 0, none⟩ v i (by simp; omega)
theorem rat_grown {W0 w3 w4 : World} {g base : Nat} {l : List Int} {v : Value} {xs : List S142} (hr : Rat W0 w3 g l) (ho : Kd.R k142 142 w3 base (fun k => k ≠ g) v xs) (hg : w3.grownBy w4 v.ownBlock) (hb : g < base) : Rat W0 w4 g l := by
  obtain ⟨A, c, h1, h2, h3, h4, h5⟩ := hr
  refine ⟨A, c, blk_grown h1 hg (fun e => by have := Kd.R_base ho g e.symm; omega), h2, h3, ?_, h5⟩
  exact h4.grown hg h4.size (fun k hk => by have := Kd.R_base ho k hk; omega)
set_option maxHeartbeats 4000000 in
set_option maxRecDepth 100000 in
theorem one_walk (W0 W : World) (g : Nat) (l : List Int) (hr : Rat W0 W g l) (hb : Bytes l) (hl : l.length ≤ 140737488351232) (n : Nat) (l1 : List Int) (hn : rnum 8 l = some (n, l1)) :
    Calls Try.prog 118 #[.pointer (some ⟨g, 0, none⟩)] W (OneSaid W0 W g (rentries n l1)) := by
  generalize hD : rentries n l1 = D
  have HD := Aside0.mk hD
  have hn1 := rnum_lt hb hn
  have hr1 := hr.more (below_alloc (Below.refl _ _) (.cells #[.slice none 0 0] 140))
  have HN := num_calls W0 g l 8 _ hr1 hb hl (by omega)
  rw [hn] at HN
  have HN' := Aside0.mk HN
  have HGL := Aside0.mk (show g < W.heap.size by obtain ⟨A, c, h, _⟩ := hr; exact blk_lt h)
  clear HN hr1 hD hr hb
  go_enter Try.func118, Try.ntmps118
  go_wp2_with fail
  refine HN'.out.mono ?_
  rintro e w1 ⟨rfl, hr1, hk1⟩
  have hd1 : Dsc w1 W.heap.size (.slice none 0 0) := (dsc_new W _).but hk1 (by have := HGL.out; omega)
  have HX := Aside0.mk (And.intro hr1 (And.intro hk1 hd1))
  clear hr1 hk1 hd1 HN'
  go_wp2_with fail
  go_loopg [6] (n + 1) (fun kq v6 w' => ∃ (i : Nat) (l' : List Int) (xs : List S142) (v : Value), v6 = .int .i64 (i : Int) ∧ Aside0 (i ≤ n) ∧ Aside0 (kq = n + 1 - i) ∧ Aside0 (Rat W0 w' g l') ∧ Aside0 (Dsc w' W.heap.size v) ∧ Aside0 (Kd.R k142 142 w' W.heap.size (fun k => k ≠ g) v xs) ∧ Aside0 (KeepBut W w' g none) ∧ Aside0 (l'.length ≤ l.length ∧ Bytes l' ∧ xs.length = i) ∧ Aside0 (D = (rentries (n - i) l').bind fun r => some (xs ++ r.1, r.2)))
  case atStart =>
    refine ⟨0, l1, [], _, rfl, ⟨Nat.zero_le _⟩, ⟨rfl⟩, ⟨HX.out.1⟩, ⟨HX.out.2.2⟩, ⟨Kd.R_nil _ _ _ _ _⟩, ⟨?_⟩, ⟨hn1.2.1, hn1.2.2, rfl⟩, ⟨?_⟩⟩
    · have h := HX.out.2.1
      refine ⟨?_, fun k hk hne hr => ?_⟩
      · have := h.1; simp at this; omega
      · exact (h.2 k (by simp; omega) hne hr).trans (Below.heap_alloc W _ k hk)
    · rw [← HD.out]; cases rentries n l1 <;> rfl
  case round =>
    obtain ⟨i, l', xs, v, rfl, hi, hkq, hr, hd, ho, hk, hlb, hq⟩ := hrel
    by_cases c1 : i < n
    · have d1 : decide ((i : Int) < (n : Int)) = true := decide_eq_true (by omega)
      have ht := text_calls W0 g l' 64 wr hr.out hlb.out.2.1 (by have := hlb.out.1; omega) (by omega)
      have hni : n - i = (n - (i + 1)) + 1 := by omega
      have HQ : D = ((rtext 64 l').bind fun p => (rtext 128 p.2).bind fun q => (rentries (n - (i + 1)) q.2).bind fun r => some (xs ++ ⟨p.1, q.1⟩ :: r.1, r.2)) := by
        rw [hq.out, hni, rentries]
        simp only [Option.bind_assoc, Option.bind_some]
      have HQ' := Aside0.mk HQ
      clear HQ hq hni
      have HT := Aside0.mk ht
      clear ht
      go_wp2_with fail
      cases h1 : rtext 64 l' with
      | none =>
        have ht := HT.out
        rw [h1] at ht
        have hq := HQ'.out
        rw [h1] at hq
        refine ht.mono ?_
        rintro e w2 ⟨rfl, hb2, hk2⟩
        go_wp2_with fail
        exact ⟨rfl, rfl, hb2, hk.out.trans hk2 (Or.inl rfl)⟩
      | some p =>
        obtain ⟨key, l2⟩ := p
        have ht := HT.out
        rw [h1] at ht
        have hq := HQ'.out
        rw [h1, Option.bind_some] at hq
        obtain ⟨hks, hl2a, hl2b⟩ := rtext_lt hlb.out.2.1 h1
        refine ht.mono ?_
        rintro e w2 ⟨rfl, hr2, hk2⟩
        have hgd : g ≠ W.heap.size := by have := HGL.out; omega
        have hd2 := hd.out.but hk2 hgd.symm
        have ho2 := Kd.R_keep ho.out hk2 (fun k hk => hk)
        have hcd : w2.cell? ⟨W.heap.size, 0, none⟩ = some v := hd2.cell
        have hfd : w2.frozen? ⟨W.heap.size, 0, none⟩ = false := hd2.frozen
        have HQ2 := Aside0.mk hq
        have ht2 := text_calls W0 g l2 128 w2.drew (hr2.more (below_drew (Below.refl _ _))) hl2b (by have := hlb.out.1; omega) (by omega)
        have HT2 := Aside0.mk ht2
        have HS := Aside0.mk (And.intro hr2 (And.intro hd2 (And.intro ho2 (hk.out.trans hk2 (Or.inl rfl)))))
        clear ht hq HT HQ' hr2 hd2 ho2 hk2 hr hd ho hk ht2 h1 d1
        go_wp2_with fail
        have ht2 := HT2.out
        have hxl : (xs.length + 1) * 32 ≤ 140737488355328 := by have := hlb.out.2.2; omega
        clear HT2
        go_region_law (first
          | (refine Kd.R_append_step k142 (w0 := w3) W.heap.size rfl (.tmp 11) (.tmp 16) 138 142 (.agg #[.string ⟨#[]⟩, .string ⟨#[]⟩]) 32 rfl Try.underlying138 info142' rfl (by decide) (by decide) v xs ⟨key, val⟩ [.string key, .string val] (fun k => k ≠ g) (fun _ => False) (by simp [Act.eval, Act.put]) (by simp [Act.eval, Act.put]) (k142_mkM _ _ _ _) (fun _ h => h.elim) (fun k hk => by have := HK3.out; omega) HO3.out (Below.refl _ _) HS3.out hxl ?_; intro v1 w4 ho4 hb4 hg4 hat4; obtain ⟨A4, c4, e4⟩ := Kd.R_slice ho4; subst e4; have hd4 : Dsc w4 W.heap.size v := grown3 HG3.out HO3.out hg4; have hcd4 : w4.cell? ⟨W.heap.size, 0, none⟩ = some v := hd4.cell; have hfd4 : w4.frozen? ⟨W.heap.size, 0, none⟩ = false := hd4.frozen; have HA4 := Aside0.mk (And.intro ho4 (And.intro hg4 (And.intro hat4 hd4))); clear ho4 hb4 hg4 hat4 hd4)
          | (go_simp; go_at_call 117; refine ht2.mono ?_; rintro e w3 h3; rcases h2 : rtext 128 l2 with _ | ⟨val, l3⟩; (rw [h2] at h3; obtain ⟨rfl, hb3, hk3⟩ := h3; have hq := HQ2.out; rw [h2, Option.bind_none] at hq; clear HQ2; subst hq; go_simp; exact ⟨rfl, rfl, hb3, HS.out.2.2.2.trans (show KeepBut w2 w3 g none from hk3) (Or.inl rfl)⟩); rw [h2] at h3; obtain ⟨rfl, hr3, hk3⟩ := h3; have hd3 := HS.out.2.1.drew.but hk3 hgd.symm; have hcd3 : w3.cell? ⟨W.heap.size, 0, none⟩ = some v := hd3.cell; have hcd3' : ∀ o, (w3.alloc o).cell? ⟨W.heap.size, 0, none⟩ = some v := fun o => blk_cell (blk_alloc hd3 o) 0; have ho3 := Kd.R_keep (Kd.R_drew HS.out.2.2.1) hk3 (fun k hk => hk); have HK3 := Aside0.mk (Nat.lt_of_lt_of_le (Nat.lt_of_lt_of_le HGL.out HS.out.2.2.2.1) hk3.1); have HS3 := Aside0.mk (Nat.le_trans HS.out.2.2.2.1 hk3.1); have HG3 := Aside0.mk hd3; have HO3 := Aside0.mk ho3; have HR3 := Aside0.mk (And.intro hr3 hk3); clear hr3 hk3 hd3 ho3))
        all_goals
          have q1 : Dsc (w4.setCell ⟨W.heap.size, 0, none⟩ (.slice A4 (xs.length + 1) c4)) W.heap.size (.slice A4 (xs.length + 1) c4) := HA4.out.2.2.2.set_ _
          have q2 : Kd.R k142 142 (w4.setCell ⟨W.heap.size, 0, none⟩ (.slice A4 (xs.length + 1) c4)) W.heap.size (fun k => k ≠ g) (.slice A4 (xs.length + 1) c4) (xs ++ [⟨key, val⟩]) := by have h := Kd.R_set HA4.out.1 HA4.out.2.2.2 (by decide) 0 (.slice A4 (xs.length + 1) c4); simpa using h
          have hkg : KeepBut W w4 g none := keep_more (HS.out.2.2.2.trans (show KeepBut w2 w3 g none from HR3.out.2) (Or.inl rfl)) HO3.out HA4.out.2.1
          have q3 : KeepBut W (w4.setCell ⟨W.heap.size, 0, none⟩ (.slice A4 (xs.length + 1) c4)) g none := keep_set hkg (Nat.le_refl _) _
          have q4 : Rat W0 (w4.setCell ⟨W.heap.size, 0, none⟩ (.slice A4 (xs.length + 1) c4)) g l3 := (rat_grown HR3.out.1 HO3.out HA4.out.2.1 HGL.out).far W.heap.size 0 _ hgd (Nat.le_trans HR3.out.1.base (Nat.le_of_lt HGL.out))
          have Q1 := Aside0.mk q1
          have Q2 := Aside0.mk q2
          have Q3 := Aside0.mk q3
          have Q4 := Aside0.mk q4
          obtain ⟨_, hl3a, hl3b⟩ := rtext_lt hl2b h2
          clear q1 q2 q3 q4 hkg HA4 HO3 HG3 HS3 HK3 HR3 hcd3 hcd3' hcd4 hfd4 hcd hfd HS ht2
          have hq := HQ2.out
          rw [h2, Option.bind_some] at hq
          have HQ3 := Aside0.mk hq
          clear hq HQ2
          go_wp2_with fail
          go_roundg (n + 1 - (i + 1))
          case measure => have := hkq.out; omega
          case rel =>
            refine ⟨i + 1, l3, xs ++ [⟨key, val⟩], _, by first | (simp [wrap64, w64]; done) | (simp [wrap64, w64]; omega), ⟨by omega⟩, ⟨rfl⟩, Q4, Q1, Q2, Q3, ⟨?_⟩, ⟨?_⟩⟩
            · have := hlb.out; refine ⟨by omega, hl3b, ?_⟩; rw [List.length_append]; simp; omega
            · rw [HQ3.out]; simp
    · have hie : i = n := by have := hi.out; omega
      subst hie
      have d1 : decide ((i : Int) < (i : Int)) = false := decide_eq_false (by omega)
      have hq2 := hq.out
      rw [Nat.sub_self, rentries] at hq2
      simp only [Option.bind_some, List.append_nil] at hq2
      have HQ2 := Aside0.mk hq2
      obtain ⟨A4, c4, e4⟩ := Kd.R_slice ho.out
      subst e4
      have hcd : wr.cell? ⟨W.heap.size, 0, none⟩ = some (.slice A4 xs.length c4) := hd.out.cell
      have hfd : wr.frozen? ⟨W.heap.size, 0, none⟩ = false := hd.out.frozen
      have q1 := hd.out.set_ (.slice A4 xs.length c4)
      have q2 : Kd.R k142 142 (wr.setCell ⟨W.heap.size, 0, none⟩ (.slice A4 xs.length c4)) W.heap.size (fun k => k ≠ g) (.slice A4 xs.length c4) xs := Kd.R_set ho.out hd.out (by decide) 0 _
      have q3 : KeepBut W (wr.setCell ⟨W.heap.size, 0, none⟩ (.slice A4 xs.length c4)) g none := keep_set hk.out (Nat.le_refl _) _
      have q4 : Rat W0 (wr.setCell ⟨W.heap.size, 0, none⟩ (.slice A4 xs.length c4)) g l' := hr.out.far W.heap.size 0 _ (by have := HGL.out; omega) (Nat.le_trans hr.out.base (Nat.le_of_lt HGL.out))
      have hcd1 := q1.cell
      have Q2 := Aside0.mk q2
      have Q3 := Aside0.mk q3
      have Q4 := Aside0.mk q4
      clear hq hq2 q2 q3 q4 hr hd ho hk
      go_wp2_with fail
      rw [HQ2.out]
      simp [bodyPost, results, Try.results118, go_sem, hcd1, OneSaid]
      exact ⟨Q2.out, Q4.out, Q3.out⟩
theorem one_calls (W0 W : World) (g : Nat) (l : List Int) (hr : Rat W0 W g l) (hb : Bytes l) (hl : l.length ≤ 140737488351232) : Calls Try.prog 118 #[.pointer (some ⟨g, 0, none⟩)] W (OneSaid W0 W g (rdesc l)) := by
  unfold rdesc
  cases h : rnum 8 l with
  | some p => exact one_walk W0 W g l hr hb hl p.1 p.2 h
  | none =>
    have hr1 := hr.more (below_alloc (Below.refl _ _) (.cells #[.slice none 0 0] 140))
    have HN := num_calls W0 g l 8 _ hr1 hb hl (by omega)
    rw [h] at HN
    have HN' := Aside0.mk HN
    clear HN hr1 hr hb
    go_enter Try.func118, Try.ntmps118
    go_wp2_with fail
    refine HN'.out.mono ?_
    rintro e w1 ⟨rfl, hb1, hk1⟩
    have hk : KeepBut W w1 g none := (KeepBut.of_below (below_alloc (Below.refl _ _) _) g none).trans hk1 (Or.inl rfl)
    have HK := Aside0.mk (And.intro hb1 hk)
    clear hk1 hb1 hk HN'
    go_wp2_with fail
    exact ⟨rfl, rfl, HK.out.1, HK.out.2⟩
theorem rentries_lt : ∀ (n : Nat) (l : List Int) (xs : List S142) (l' : List Int), Bytes l → rentries n l = some (xs, l') → xs.length = n ∧ (∀ e ∈ xs, e.f0.size ≤ 64 ∧ e.f1.size ≤ 128) ∧ l'.length ≤ l.length ∧ Bytes l' := by
  intro n
  induction n with
  | zero =>
    intro l xs l' hb h
    simp only [rentries, Option.some.injEq, Prod.mk.injEq] at h
    obtain ⟨rfl, rfl⟩ := h
    exact ⟨rfl, (fun _ h => by cases h), Nat.le_refl _, hb⟩
  | succ n ih =>
    intro l xs l' hb h
    rw [rentries] at h
    obtain ⟨⟨k, l1⟩, h1, h⟩ := Option.bind_eq_some_iff.1 h
    obtain ⟨⟨v, l2⟩, h2, h⟩ := Option.bind_eq_some_iff.1 h
    obtain ⟨⟨ys, l3⟩, h3, h⟩ := Option.bind_eq_some_iff.1 h
    simp only [Option.some.injEq, Prod.mk.injEq] at h
    obtain ⟨rfl, rfl⟩ := h
    obtain ⟨a1, a2, a3⟩ := rtext_lt hb h1
    obtain ⟨b1, b2, b3⟩ := rtext_lt a3 h2
    obtain ⟨c1, c2, c3, c4⟩ := ih l2 ys l3 b3 h3
    refine ⟨by simp [c1], fun e he => ?_, by omega, c4⟩
    rcases List.mem_cons.1 he with rfl | he
    · exact ⟨a1, b1⟩
    · exact c2 e he
theorem rdesc_lt {l l' : List Int} {xs : List S142} (hb : Bytes l) (h : rdesc l = some (xs, l')) : xs.length ≤ 8 ∧ (∀ e ∈ xs, e.f0.size ≤ 64 ∧ e.f1.size ≤ 128) ∧ l'.length ≤ l.length ∧ Bytes l' := by
  unfold rdesc at h
  obtain ⟨⟨n, l1⟩, h1, h2⟩ := Option.bind_eq_some_iff.1 h
  obtain ⟨a1, a2, a3⟩ := rnum_lt hb h1
  obtain ⟨b1, b2, b3, b4⟩ := rentries_lt n l1 xs l' a3 h2
  exact ⟨by omega, b2, by omega, b4⟩
/-- A row that was made since so many blocks were there has its blocks behind them. -/
theorem R_high {w : World} {base H g : Nat} {v : Value} {xs : List S142} (h : Kd.R k142 142 w H (fun k => k ≠ g) v xs) (hb : base ≤ H) : Kd.R k142 142 w base (fun k => H ≤ k ∧ k ≠ g) v xs := by
  have hlow := Kd.R_lower h hb
  have hbase := Kd.R_base h
  obtain ⟨h0, inner, ho, hr⟩ := hlow
  refine ⟨fun k hk => ⟨hbase k hk, h0 k hk⟩, inner, ho, hr.imp_ fun x cs hx => ?_⟩
  have e := k142_openM hx
  subst e
  exact k142_mkM _ _ _ _
end Go.Proofs.Ytnhblhhkjnmkkaa.Q
