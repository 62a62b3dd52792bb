/- ask.Decode, walked. -/
import Derived.Test.YtnhblhhkjnmkkaaAd
import Derived.Defers
import Derived.Deep.RegionLaw
namespace Go.Proofs.Ytnhblhhkjnmkkaa.Q
open Go.RowKit Go.Proofs.YtnhblhhkjnmkkaaW.PrintWords Go.Proofs.YtnhblhhkjnmkkaaW.PrintLast Go.Proofs.YtnhblhhkjnmkkaaW.PrintMore
open Go.Proofs.Ytnhblhhkjnmkkaa.Sp Go.Proofs.Ytnhblhhkjnmkkaa.Va
set_option linter.unusedVariables false
set_option linter.unusedSimpArgs false
theorem info140' : (Try.prog.info? 140).map (fun i => (i.zero, i.size, i.bytes)) = some (some (.agg #[.slice none 0 0]), 1, 24) := by kernel_rfl
theorem grown_blk {w3 w4 : World} {g base : Nat} {v : Value} {vs : Array Value} (hd : Blk w3 g vs) (hb : ∀ k, v.ownBlock = some k → base ≤ k) (hg : w3.grownBy w4 v.ownBlock) (hlt : g < base) : Blk w4 g vs := by
  obtain ⟨t, h⟩ := hd
  exact ⟨t, blk_grown h hg (fun e => by have := hb g e.symm; omega)⟩
theorem S_old3 {wr w3 : World} {base g : Nat} {v : Value} {ds : List S140} (hs : Kd.S k140 140 wr base (fun k => k ≠ g) v ds) (hk : KeepBut wr.drew w3 g none) : Kd.S k140 140 w3 base (fun k => k ≠ g ∧ ¬ (wr.heap.size ≤ k ∧ k ≠ g)) v ds :=
  Kd.S_mono (Kd.S_oldK (ok := fun k => k ≠ g) (Kd.S_mono (Kd.S_drew hs) (fun k hk => ⟨hk, hk⟩)) hk) (fun k hk => ⟨hk.1, fun h => Nat.lt_irrefl _ (Nat.lt_of_lt_of_le hk.2 h.1)⟩)
theorem grown_one {w3 w4 : World} {g base : Nat} {v u : Value} (hd : One w3 g u) (hb : ∀ k, v.ownBlock = some k → base ≤ k) (hg : w3.grownBy w4 v.ownBlock) (hlt : g < base) : One w4 g u := by
  obtain ⟨t, h⟩ := hd
  exact ⟨t, blk_grown h hg (fun e => by have := hb g e.symm; omega)⟩
theorem grown_rat {W0 w3 w4 : World} {g base : Nat} {l : List Int} {v : Value} (hr : Rat W0 w3 g l) (hb : ∀ k, v.ownBlock = some k → base ≤ k) (hg : w3.grownBy w4 v.ownBlock) (hlt : g < base) : Rat W0 w4 g l := by
  obtain ⟨A, c, h1, h2, h3, h4, h5⟩ := hr
  refine ⟨A, c, blk_grown h1 hg (fun e => by have := hb g e.symm; omega), h2, h3, ?_, h5⟩
  exact h4.grown hg h4.size (fun k hk => by have := hb k hk; omega)
theorem S_farB {w : World} {base g : Nat} {ok : Nat → Prop} {v : Value} {ds : List S140} (h : Kd.S k140 140 w base ok v ds) (hlt : g < base) (j : Nat) (u : Value) : Kd.S k140 140 (w.setCell ⟨g, j, none⟩ u) base ok v ds :=
  Kd.S_mono (Kd.S_far (p := ⟨g, j, none⟩) (Kd.S_bound h) (fun k hk => by have := hk.2.1; simp only; omega) u) (fun _ hk => hk.1)
/-- What decoding a request comes to. -/
def AskSaid (W : World) (D : Option (Nat × ByteArray × Nat × List S140)) (e : Ending) (w' : World) : Prop :=
  match D with
  | some (a, s, b, ds) => ∃ v0, e = .returned (.tuple #[.agg #[.int .i64 (a : Int), .string s, .int .i64 (b : Int), v0], .int .i64 0]) ∧ Kd.S k140 140 w' W.heap.size (fun _ => True) v0 ds ∧ Below W.heap.size W w'
  | none => e = .returned (.tuple #[.agg #[.int .i64 0, .string ⟨#[]⟩, .int .i64 0, .slice none 0 0], .int .i64 2]) ∧ Below W.heap.size W w'
set_option maxHeartbeats 4000000 in
set_option maxRecDepth 100000 in
theorem decodeAsk_calls (W : World) (A : Option Addr) (c : Nat) (l : List Int) (hC : Kd.C (Kd.int .u8) W A l.length l) (hc : l.length ≤ c) (hb : Bytes l) (hl : l.length ≤ 140737488351232) :
    Calls Try.prog 84 #[.slice A l.length c] W (AskSaid W (rask l)) := by
  have hmf : ∀ (fn : Fn) (first cap : Array Value) (w : World), (Instr.makeFunc fn first cap).run Try.prog w = .ok (.func fn first cap) w := fun _ _ _ _ => rfl
  have GAVE := And.intro @gave84 @back84
  generalize hD : rask l = D
  unfold rask at hD
  obtain ⟨W1, hW1⟩ : ∃ W1, W1 = ((W.alloc (.cells #[.int .i64 0, .string ⟨#[]⟩, .int .i64 0, .slice none 0 0] 95)).alloc (.cells #[.int .i64 0] 27)) := ⟨_, rfl⟩
  have hs1 : W1.heap.size = W.heap.size + 1 + 1 := by rw [hW1]; simp
  have o0 : Blk W1 W.heap.size #[.int .i64 ((0 : Nat) : Int), .string ⟨#[]⟩, .int .i64 ((0 : Nat) : Int), .slice none 0 0] := by rw [hW1]; exact (blk_one W _ _ _ rfl).alloc _
  have z0 : One W1 (W.heap.size + 1) (.int .i64 0) := by rw [hW1]; exact one_new _ _ _ _ (by simp)
  have hb1 : Below W.heap.size W W1 := by rw [hW1]; exact below_alloc (below_alloc (Below.refl _ _) _) _
  have HO := Aside0.mk (open_calls W A c 1 l W1 hC hc hb1)
  have HGV := Aside0.mk GAVE
  have HD := Aside0.mk hD
  have HB := Aside0.mk hb
  clear GAVE hC hb hD
  go_enter_defers Try.func84, Try.ntmps84
  go_wp2_with fail
  rw [← hW1]
  clear hW1
  have ho := HO.out
  have hd := HD.out
  cases h1 : ropen 1 l with
  | none =>
    rw [h1] at ho hd
    subst hd
    refine ho.mono ?_
    rintro e w1 ⟨rfl, hb2⟩
    go_wp2_with fail
    exact HGV.out.1 _ _ _ _ _ _ _ _ _ _ _ _ _ _ _ _ _ _ _ _ _ _ _ _ _ _ _ _ _ _ _ _ _ _ _ _ _ W _ w1 (o0.below hb2) (z0.below hb2) (by omega) (below_step hb1 hb2) (by omega) (fun w' h => ⟨rfl, h⟩)
  | some l0 =>
    rw [h1, hs1] at ho
    refine ho.mono ?_
    rintro e w1 ⟨rfl, hr1, hk1⟩
    have hl0 : l0.length ≤ l.length ∧ Bytes l0 := by
      cases l with
      | nil => simp [ropen] at h1
      | cons b t =>
        simp only [ropen] at h1
        split at h1
        · cases h1; exact ⟨by simp, HB.out.tail⟩
        · cases h1
    have HH := Aside0.mk h1
    have NX := Aside0.mk (And.intro (o0.but hk1 (by omega)) (And.intro (z0.but hk1 (by omega)) hr1))
    obtain ⟨hl0a, hl0b⟩ := hl0
    clear ho o0 z0 hd h1 hr1 hk1 hb1
    go_wp2_with fail
    obtain ⟨o1, z1, hr⟩ := NX.out
    have hn := num_calls W _ l0 2147483647 _ hr hl0b (by omega) (by omega)
    cases h1 : rnum 2147483647 l0 with
    | none =>
      rw [h1] at hn
      have hd := HD.out
      rw [HH.out, Option.bind_some, h1] at hd
      subst hd
      refine hn.mono ?_
      rintro e w2 ⟨rfl, hb2, hk2⟩
      go_wp2_with fail
      exact HGV.out.1 _ _ _ _ _ _ _ _ _ _ _ _ _ _ _ _ _ _ _ _ _ _ _ _ _ _ _ _ _ _ _ _ _ _ _ _ _ W _ w2 (o1.but hk2 (by omega)) (z1.but hk2 (by omega)) (by omega) hb2 (by omega) (fun w' h => ⟨rfl, h⟩)
    | some p =>
      obtain ⟨v0, l1⟩ := p
      rw [h1] at hn
      refine hn.mono ?_
      rintro e w2 ⟨rfl, hr2, hk2⟩
      have o2 := o1.but hk2 (by omega)
      have z2 := z1.but hk2 (by omega)
      have hc2 := o2.cell 0
      have hf2 := o2.frozen 0
      obtain ⟨hv0, hl1a, hl1b⟩ := rnum_lt hl0b h1
      have H0 := Aside0.mk h1
      have HN := Aside0.mk (And.intro o2 (And.intro z2 hr2))
      clear hn o1 z1 hr NX h1 o2 z2 hr2 hk2
      go_wp2_with fail
      obtain ⟨o2, z2, hr2⟩ := HN.out
      have o3 : Blk _ W.heap.size #[.int .i64 (v0 : Int), .string ⟨#[]⟩, .int .i64 ((0 : Nat) : Int), .slice none 0 0] := o2.set_ 0 (.int .i64 (v0 : Int))
      have z3 := z2.far' (g' := W.heap.size) (by omega) 0 (.int .i64 (v0 : Int))
      have hr3 := hr2.far W.heap.size 0 (.int .i64 (v0 : Int)) (by omega) (Nat.le_refl _)
      obtain ⟨w3, hw3⟩ : ∃ w3, w3 = w2.setCell ⟨W.heap.size, 0, none⟩ (.int .i64 (v0 : Int)) := ⟨_, rfl⟩
      rw [← hw3] at o3 z3 hr3 ⊢
      have NX := Aside0.mk (And.intro o3 (And.intro z3 hr3))
      clear o2 z2 hr2 o3 z3 hr3 HN hw3 hc2 hf2
      obtain ⟨o1, z1, hr⟩ := NX.out
      have hn := text_calls W _ l1 64 _ hr hl1b (by omega) (by omega)
      cases h1 : rtext 64 l1 with
      | none =>
        rw [h1] at hn
        have hd := HD.out
        rw [HH.out, Option.bind_some, H0.out, Option.bind_some, h1] at hd
        subst hd
        refine hn.mono ?_
        rintro e w2 ⟨rfl, hb2, hk2⟩
        go_wp2_with fail
        exact HGV.out.1 _ _ _ _ _ _ _ _ _ _ _ _ _ _ _ _ _ _ _ _ _ _ _ _ _ _ _ _ _ _ _ _ _ _ _ _ _ W _ w2 (o1.but hk2 (by omega)) (z1.but hk2 (by omega)) (by omega) hb2 (by omega) (fun w' h => ⟨rfl, h⟩)
      | some p =>
        obtain ⟨v1, l2⟩ := p
        rw [h1] at hn
        refine hn.mono ?_
        rintro e w2 ⟨rfl, hr2, hk2⟩
        have o2 := o1.but hk2 (by omega)
        have z2 := z1.but hk2 (by omega)
        have hc2 := o2.cell 1
        have hf2 := o2.frozen 1
        obtain ⟨hv1, hl2a, hl2b⟩ := rtext_lt hl1b h1
        have H1 := Aside0.mk h1
        have HN := Aside0.mk (And.intro o2 (And.intro z2 hr2))
        clear hn o1 z1 hr NX h1 o2 z2 hr2 hk2
        go_wp2_with fail
        obtain ⟨o2, z2, hr2⟩ := HN.out
        have o3 : Blk _ W.heap.size #[.int .i64 (v0 : Int), .string v1, .int .i64 ((0 : Nat) : Int), .slice none 0 0] := o2.set_ 1 (.string v1)
        have z3 := z2.far' (g' := W.heap.size) (by omega) 1 (.string v1)
        have hr3 := hr2.far W.heap.size 1 (.string v1) (by omega) (Nat.le_refl _)
        obtain ⟨w3, hw3⟩ : ∃ w3, w3 = w2.setCell ⟨W.heap.size, 1, none⟩ (.string v1) := ⟨_, rfl⟩
        rw [← hw3] at o3 z3 hr3 ⊢
        have NX := Aside0.mk (And.intro o3 (And.intro z3 hr3))
        clear o2 z2 hr2 o3 z3 hr3 HN hw3 hc2 hf2
        obtain ⟨o1, z1, hr⟩ := NX.out
        have hn := num_calls W _ l2 4294967295 _ hr hl2b (by omega) (by omega)
        cases h1 : rnum 4294967295 l2 with
        | none =>
          rw [h1] at hn
          have hd := HD.out
          rw [HH.out, Option.bind_some, H0.out, Option.bind_some, H1.out, Option.bind_some, h1] at hd
          subst hd
          refine hn.mono ?_
          rintro e w2 ⟨rfl, hb2, hk2⟩
          go_wp2_with fail
          exact HGV.out.1 _ _ _ _ _ _ _ _ _ _ _ _ _ _ _ _ _ _ _ _ _ _ _ _ _ _ _ _ _ _ _ _ _ _ _ _ _ W _ w2 (o1.but hk2 (by omega)) (z1.but hk2 (by omega)) (by omega) hb2 (by omega) (fun w' h => ⟨rfl, h⟩)
        | some p =>
          obtain ⟨v2, l3⟩ := p
          rw [h1] at hn
          refine hn.mono ?_
          rintro e w2 ⟨rfl, hr2, hk2⟩
          have o2 := o1.but hk2 (by omega)
          have z2 := z1.but hk2 (by omega)
          have hc2 := o2.cell 2
          have hf2 := o2.frozen 2
          obtain ⟨hv2, hl3a, hl3b⟩ := rnum_lt hl2b h1
          have H2 := Aside0.mk h1
          have HN := Aside0.mk (And.intro o2 (And.intro z2 hr2))
          clear hn o1 z1 hr NX h1 o2 z2 hr2 hk2
          go_wp2_with fail
          obtain ⟨o2, z2, hr2⟩ := HN.out
          have o3 : Blk _ W.heap.size #[.int .i64 (v0 : Int), .string v1, .int .i64 (v2 : Int), .slice none 0 0] := o2.set_ 2 (.int .i64 (v2 : Int))
          have z3 := z2.far' (g' := W.heap.size) (by omega) 2 (.int .i64 (v2 : Int))
          have hr3 := hr2.far W.heap.size 2 (.int .i64 (v2 : Int)) (by omega) (Nat.le_refl _)
          obtain ⟨w3, hw3⟩ : ∃ w3, w3 = w2.setCell ⟨W.heap.size, 2, none⟩ (.int .i64 (v2 : Int)) := ⟨_, rfl⟩
          rw [← hw3] at o3 z3 hr3 ⊢
          have NX := Aside0.mk (And.intro o3 (And.intro z3 hr3))
          clear o2 z2 hr2 o3 z3 hr3 HN hw3 hc2 hf2
          obtain ⟨o1, z1, hr⟩ := NX.out
          have hn := num_calls W _ l3 16 _ hr hl3b (by omega) (by omega)
          cases h1 : rnum 16 l3 with
          | none =>
            rw [h1] at hn
            have hd := HD.out
            rw [HH.out, Option.bind_some, H0.out, Option.bind_some, H1.out, Option.bind_some, H2.out, Option.bind_some, h1] at hd
            subst hd
            refine hn.mono ?_
            rintro e w2 ⟨rfl, hb2, hk2⟩
            go_wp2_with fail
            exact HGV.out.1 _ _ _ _ _ _ _ _ _ _ _ _ _ _ _ _ _ _ _ _ _ _ _ _ _ _ _ _ _ _ _ _ _ _ _ _ _ W _ w2 (o1.but hk2 (by omega)) (z1.but hk2 (by omega)) (by omega) hb2 (by omega) (fun w' h => ⟨rfl, h⟩)
          | some p =>
            obtain ⟨n, l4⟩ := p
            rw [h1] at hn
            refine hn.mono ?_
            rintro e w2 ⟨rfl, hr2, hk2⟩
            obtain ⟨hvn, hl4a, hl4b⟩ := rnum_lt hl3b h1
            have H3 := Aside0.mk h1
            have HN := Aside0.mk (And.intro (o1.but hk2 (by omega)) (And.intro (z1.but hk2 (by omega)) hr2))
            clear hn o1 z1 hr NX h1 hr2 hk2
            go_wp2_with fail
            go_loopg [19] (n + 1) (fun kq v19 w' => ∃ (i : Nat) (l' : List Int) (ds : List S140) (v : Value), v19 = .int .i64 (i : Int) ∧ Aside0 (i ≤ n) ∧ Aside0 (kq = n + 1 - i) ∧ Aside0 (Rat W w' (W.heap.size + 1 + 1) l') ∧ Aside0 (Blk w' W.heap.size #[.int .i64 (v0 : Int), .string v1, .int .i64 (v2 : Int), v]) ∧ Aside0 (One w' (W.heap.size + 1) (.int .i64 0)) ∧ Aside0 (Kd.S k140 140 w' (W.heap.size + 1 + 1 + 1) (fun k => k ≠ W.heap.size + 1 + 1) v ds) ∧ Aside0 (l'.length ≤ l.length ∧ Bytes l' ∧ ds.length = i ∧ ∀ d ∈ ds, d.f0.length ≤ 8 ∧ ∀ e ∈ d.f0, e.f0.size ≤ 64) ∧ Aside0 (rdescs n l4 = (rdescs (n - i) l').bind fun r => some (ds ++ r.1, r.2)))
            case atStart =>
              refine ⟨0, l4, [], _, rfl, ⟨Nat.zero_le _⟩, ⟨rfl⟩, ⟨HN.out.2.2⟩, ⟨HN.out.1⟩, ⟨HN.out.2.1⟩, ⟨Kd.S_nil _ _ _ _ _⟩, ⟨by omega, hl4b, rfl, (fun _ h => by cases h)⟩, ⟨?_⟩⟩
              cases rdescs n l4 <;> rfl
            case round =>
              obtain ⟨i, l', ds, v, rfl, hi, hkq, hr, hd, hz, hs, hlb, hq⟩ := hrel
              by_cases c1 : i < n
              · have d1 : decide ((i : Int) < (n : Int)) = true := decide_eq_true (by omega)
                have hni : n - i = (n - (i + 1)) + 1 := by omega
                have hcd : wr.cell? ⟨W.heap.size, 3, none⟩ = some v := hd.out.cell 3
                have hfd : wr.frozen? ⟨W.heap.size, 3, none⟩ = false := hd.out.frozen 3
                have ht := one_calls W wr.drew (W.heap.size + 1 + 1) l' (hr.out.more (below_drew (Below.refl _ _))) hlb.out.2.1 (by have := hlb.out.1; omega)
                have HT := Aside0.mk ht
                have HSS := Aside0.mk (And.intro hr.out (And.intro hd.out (And.intro hz.out hs.out)))
                clear ht hr hd hz hs
                go_wp2_with fail
                have ht := HT.out
                have hxl : (ds.length + 1) * 24 ≤ 140737488355328 := by have := hlb.out.2.2.1; omega
                have hgr : W.heap.size + 1 + 1 < wr.heap.size := by obtain ⟨A0, c0, h0, _⟩ := HSS.out.1; exact blk_lt h0
                have HOWN := Aside0.mk (show ∀ k : Nat, wr.heap.size ≤ k → some k ≠ v.ownBlock from fun k hk e => absurd (Kd.R_lt (Kd.S_R HSS.out.2.2.2) k e.symm) (by omega))
                first | go_region_law (first
                  | (refine Kd.S_append_step k140 (w0 := w3) (W.heap.size + 1 + 1 + 1) rfl (.tmp 22) (.tmp 25) 93 140 (.agg #[.slice none 0 0]) 24 rfl Try.underlying93 info140' rfl (by decide) (by decide) v ds ⟨es⟩ [.slice A5 es.length c5] (fun k => k ≠ W.heap.size + 1 + 1) (fun k => wr.heap.size ≤ k ∧ k ≠ W.heap.size + 1 + 1) (by simp [Act.eval, Act.put]) (by simp [Act.eval, Act.put]) (k140_mkM _ _ _ _ HE3.out) (fun k hk => ⟨hk.2, HOWN.out k hk.1⟩) (fun k hk => by have := HK3.out; omega) HO3.out (Below.refl _ _) (by have := HK3.out; omega) hxl ?_; intro v1 w4 ho4 hb4 hg4 hat4; obtain ⟨A4, c4, e4⟩ := Kd.R_slice (Kd.S_R ho4); subst e4; have hd4 := grown_blk HD3.out (Kd.R_base (Kd.S_R HO3.out)) hg4 (by omega); have hcd4 : w4.cell? ⟨W.heap.size, 3, none⟩ = some v := hd4.cell 3; have hfd4 : w4.frozen? ⟨W.heap.size, 3, none⟩ = false := hd4.frozen 3; have HA4 := Aside0.mk (And.intro ho4 (And.intro hg4 hd4)); clear ho4 hb4 hg4 hat4 hd4)
                  | (go_simp; go_at_call 118; refine ht.mono ?_; rintro e w3 h3; rcases h2 : rdesc l' with _ | ⟨es, l5⟩; (rw [h2] at h3; obtain ⟨rfl, hb3, hk3⟩ := h3; have hd := HD.out; rw [HH.out, Option.bind_some, H0.out, Option.bind_some, H1.out, Option.bind_some, H2.out, Option.bind_some, H3.out, Option.bind_some, hq.out, hni, rdescs, h2, Option.bind_none, Option.bind_none, Option.bind_none] at hd; subst hd; simp only [bodyPostD]; exact HGV.out.1 _ _ _ _ _ _ _ _ _ _ _ _ _ _ _ _ _ _ _ _ _ _ _ _ _ _ _ _ _ _ _ _ _ _ _ _ _ W _ w3 (HSS.out.2.1.drew.but hk3 (by omega)) (HSS.out.2.2.1.drew.but hk3 (by omega)) (by omega) hb3 (by omega) (fun w' h => ⟨rfl, h⟩)); rw [h2] at h3; obtain ⟨ve, rfl, ho3, hr3, hk3⟩ := h3; obtain ⟨A5, c5, e5⟩ := Kd.R_slice ho3; subst e5; have HE3 := Aside0.mk (R_high (base := W.heap.size + 1 + 1 + 1) ho3 (by have := hgr; simp; omega)); have hd3 := HSS.out.2.1.drew.but hk3 (by omega); have hcd3 : w3.cell? ⟨W.heap.size, 3, none⟩ = some v := hd3.cell 3; have hcd3' : ∀ o, (w3.alloc o).cell? ⟨W.heap.size, 3, none⟩ = some v := fun o => (hd3.alloc o).cell 3; have HD3 := Aside0.mk hd3; have HK3 := Aside0.mk (Nat.lt_of_lt_of_le hgr hk3.1); have HO3 := Aside0.mk (S_old3 HSS.out.2.2.2 hk3); have HR3 := Aside0.mk (And.intro hr3 hk3); clear hr3 hk3 hd3 ho3)) | skip
                all_goals
                  have q1 : Blk (w4.setCell ⟨W.heap.size, 3, none⟩ (.slice A4 (ds.length + 1) c4)) W.heap.size #[.int .i64 (v0 : Int), .string v1, .int .i64 (v2 : Int), .slice A4 (ds.length + 1) c4] := HA4.out.2.2.set_ 3 _
                  have q2 : Kd.S k140 140 (w4.setCell ⟨W.heap.size, 3, none⟩ (.slice A4 (ds.length + 1) c4)) (W.heap.size + 1 + 1 + 1) (fun k => k ≠ W.heap.size + 1 + 1) (.slice A4 (ds.length + 1) c4) (ds ++ [⟨es⟩]) := by have h := S_farB HA4.out.1 (g := W.heap.size) (by omega) 3 (.slice A4 (ds.length + 1) c4); simpa using h
                  have q3 : One (w4.setCell ⟨W.heap.size, 3, none⟩ (.slice A4 (ds.length + 1) c4)) (W.heap.size + 1) (.int .i64 0) := (grown_one (HSS.out.2.2.1.drew.but HR3.out.2 (by omega)) (Kd.R_base (Kd.S_R HO3.out)) HA4.out.2.1 (by omega)).far' (g' := W.heap.size) (by omega) 3 _
                  have q4 : Rat W (w4.setCell ⟨W.heap.size, 3, none⟩ (.slice A4 (ds.length + 1) c4)) (W.heap.size + 1 + 1) l5 := (grown_rat HR3.out.1 (Kd.R_base (Kd.S_R HO3.out)) HA4.out.2.1 (by omega)).far W.heap.size 3 _ (by omega) (Nat.le_refl _)
                  obtain ⟨hes1, hes2, hl5a, hl5b⟩ := rdesc_lt hlb.out.2.1 h2
                  have hq5 : rdescs n l4 = (rdescs (n - (i + 1)) l5).bind fun r => some ((ds ++ [⟨es⟩]) ++ r.1, r.2) := by
                    rw [hq.out, hni, rdescs, h2]
                    simp only [Option.bind_some, Option.bind_assoc, List.append_assoc, List.singleton_append]
                  have Q1 := Aside0.mk q1
                  have Q2 := Aside0.mk q2
                  have Q3 := Aside0.mk q3
                  have Q4 := Aside0.mk q4
                  have HQ5 := Aside0.mk hq5
                  have HES := Aside0.mk hes2
                  clear q1 q2 q3 q4 hq5 hes2 HA4 HO3 HD3 HK3 HR3 HE3 hcd3 hcd3' hcd4 hfd4 hcd hfd HSS ht HT HOWN hq
                  go_wp2_with fail
                  go_roundg (n + 1 - (i + 1))
                  case measure => have := hkq.out; omega
                  case rel =>
                    refine ⟨i + 1, l5, ds ++ [⟨es⟩], _, by first | (simp [wrap64, w64]; done) | (simp [wrap64, w64]; omega), ⟨by omega⟩, ⟨rfl⟩, Q4, Q1, Q3, Q2, ⟨?_⟩, HQ5⟩
                    obtain ⟨k1, k2, k3, k4⟩ := hlb.out
                    refine ⟨by omega, hl5b, by rw [List.length_append]; simp; omega, fun d hd => ?_⟩
                    rcases List.mem_append.1 hd with hd | hd
                    · exact k4 d hd
                    · rw [List.mem_singleton] at hd
                      subst hd
                      exact ⟨hes1, fun e he => (HES.out e he).1⟩
              · have hie : i = n := by have := hi.out; omega
                subst hie
                have d1 : decide ((i : Int) < (i : Int)) = false := decide_eq_false (by omega)
                have hq2 := hq.out
                rw [Nat.sub_self, rdescs] at hq2
                simp only [Option.bind_some, List.append_nil] at hq2
                have HQ2 := Aside0.mk hq2
                have HSS := Aside0.mk (And.intro hr.out (And.intro hd.out (And.intro hz.out hs.out)))
                clear hq hq2 hr hd hz hs
                go_wp2_with fail
                obtain ⟨hr, hd, hz, hs⟩ := HSS.out
                have hD2 := HD.out
                rw [HH.out, Option.bind_some, H0.out, Option.bind_some, H1.out, Option.bind_some, H2.out, Option.bind_some, H3.out, Option.bind_some, HQ2.out, Option.bind_some] at hD2
                by_cases h5 : l' = []
                · subst h5
                  refine (end_yes W _ _ hr).mono ?_
                  rintro e w5 ⟨rfl, rfl⟩
                  obtain ⟨A4, c4, e4⟩ := Kd.R_slice (Kd.S_R hs)
                  subst e4
                  have c0 := hd.cell 0
                  have c1 := hd.cell 1
                  have c2 := hd.cell 2
                  have c3 := hd.cell 3
                  have f0 := hd.frozen 0
                  have f1 := hd.frozen 1
                  have f2 := hd.frozen 2
                  have f3 := hd.frozen 3
                  have c5 := hz.cell
                  have f5 := hz.frozen
                  have n1 : W.heap.size ≠ W.heap.size + 1 := by omega
                  have HR := Aside0.mk hr.below
                  have HX := Aside0.mk (And.intro hd (And.intro hz hs))
                  have HD2 := Aside0.mk hD2
                  clear hd hz hs hr HSS hD2
                  go_wp2_with fail
                  obtain ⟨o1, z1, s1⟩ := HX.out
                  have q1 : Blk _ W.heap.size #[.int .i64 (v0 : Int), .string v1, .int .i64 (v2 : Int), .slice A4 ds.length c4] := ((((o1.set_ 0 (.int .i64 (v0 : Int))).set_ 1 (.string v1)).set_ 2 (.int .i64 (v2 : Int))).set_ 3 (.slice A4 ds.length c4)).far (g' := W.heap.size + 1) (by omega) 0 (.int .i64 0)
                  have q2 := ((((z1.far' (g' := W.heap.size) (by omega) 0 (.int .i64 (v0 : Int))).far' (g' := W.heap.size) (by omega) 1 (.string v1)).far' (g' := W.heap.size) (by omega) 2 (.int .i64 (v2 : Int))).far' (g' := W.heap.size) (by omega) 3 (.slice A4 ds.length c4)).set_ (.int .i64 0)
                  have q3 := S_farB (S_farB (S_farB (S_farB (S_farB s1 (g := W.heap.size) (by omega) 0 (.int .i64 (v0 : Int))) (g := W.heap.size) (by omega) 1 (.string v1)) (g := W.heap.size) (by omega) 2 (.int .i64 (v2 : Int))) (g := W.heap.size) (by omega) 3 (.slice A4 ds.length c4)) (g := W.heap.size + 1) (by omega) 0 (.int .i64 0)
                  have HR2 := below_set (below_set (below_set (below_set (below_set HR.out (g := W.heap.size) (j := 0) (by omega) (v := .int .i64 (v0 : Int))) (g := W.heap.size) (j := 1) (by omega) (v := .string v1)) (g := W.heap.size) (j := 2) (by omega) (v := .int .i64 (v2 : Int))) (g := W.heap.size) (j := 3) (by omega) (v := .slice A4 ds.length c4)) (g := W.heap.size + 1) (j := 0) (by omega) (v := .int .i64 0)
                  have hrd := Kd.S_reads' q3
                  have hsm : SmallA 1000000 v1 ds := ⟨by omega, by have := hlb.out.2.2.1; omega, fun d hd => ⟨by have := (hlb.out.2.2.2 d hd).1; omega, fun e he => by have := (hlb.out.2.2.2 d hd).2 e he; omega⟩⟩
                  refine HGV.out.2 _ _ _ _ _ _ _ _ _ _ _ _ _ _ _ _ _ _ _ _ _ _ _ _ _ _ _ _ _ _ _ _ _ _ _ _ _ W _ _ A4 c4 ds rfl hrd.2.2 hrd.2.1 hsm q1 q2 (by omega) HR2 (by omega) (fun hm w' h => ?_) (fun hm w' h => ?_)
                  · rw [← HD2.out, if_pos ⟨by trivial, hm⟩]
                    exact ⟨_, rfl, Kd.S_mono (Kd.S_lower (Kd.S_below q3 h) (by omega)) (fun _ _ => trivial), below_step HR2 h⟩
                  · rw [← HD2.out, if_neg (fun h => by rw [hm] at h; exact absurd h.2 (by decide))]
                    exact ⟨rfl, h⟩
                · refine (end_no W _ l' _ hr h5).mono ?_
                  rintro e w5 ⟨rfl, rfl⟩
                  simp only [h5, false_and, if_false] at hD2
                  subst hD2
                  go_wp2_with fail
                  exact HGV.out.1 _ _ _ _ _ _ _ _ _ _ _ _ _ _ _ _ _ _ _ _ _ _ _ _ _ _ _ _ _ _ _ _ _ _ _ _ _ W _ _ hd hz (by omega) hr.below (by omega) (fun w' h => ⟨rfl, h⟩)
def ask_Decode.f (l : List Int) : Option (Int × ByteArray × Int × List S140 × Int) :=
  if Bytes l ∧ l.length ≤ 140737488351232 then
    match rask l with
    | some (a, s, b, ds) => some ((a : Int), s, (b : Int), ds, 0)
    | none => some (0, ⟨#[]⟩, 0, [], 2)
  else none
theorem ask_Decode.calls (A0 : Option Addr) (c0 : Nat) (l0 : List Int) (r1 : Int) (r2 : ByteArray) (r3 : Int) (r4 : List S140) (r5 : Int) (w : World) (hr0 : Kd.C (Kd.int .u8) w A0 l0.length l0) (hc0 : l0.length ≤ c0) (h : ask_Decode.f l0 = some (r1, r2, r3, r4, r5)) :
    Calls Try.prog 84 #[.slice A0 l0.length c0] w fun e w' => ∃ v0_ : Value, e = .returned (.tuple #[.agg #[.int .i64 r1, .string r2, .int .i64 r3, v0_], .int .i64 r5]) ∧ Kd.S k140 140 w' w.heap.size (fun _ => True) v0_ r4 ∧ Below w.heap.size w w' := by
  unfold ask_Decode.f at h
  split at h
  · rename_i hc
    obtain ⟨h1, h2⟩ := hc
    refine (decodeAsk_calls w A0 c0 l0 hr0 hc0 h1 h2).mono ?_
    rintro e w' hs
    split at h
    · rename_i heq
      simp only [Option.some.injEq, Prod.mk.injEq] at h
      obtain ⟨rfl, rfl, rfl, rfl, rfl⟩ := h
      rw [heq] at hs
      exact hs
    · rename_i heq
      simp only [Option.some.injEq, Prod.mk.injEq] at h
      obtain ⟨rfl, rfl, rfl, rfl, rfl⟩ := h
      rw [heq] at hs
      exact ⟨_, hs.1, Kd.S_nil _ _ _ _ _, hs.2⟩
  · cases h
end Go.Proofs.Ytnhblhhkjnmkkaa.Q
