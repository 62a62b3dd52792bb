/- tell.Decode, walked. -/
import Derived.Test.YtnhblhhkjnmkkaaTf
import Derived.Defers
import Derived.Deep.RegionLaw
namespace Go.Proofs.Ytnhblhhkjnmkkaa.Q
open Go.RowKit Go.Proofs.YtnhblhhkjnmkkaaW.PrintWords Go.Proofs.YtnhblhhkjnmkkaaW.PrintLast Go.Proofs.YtnhblhhkjnmkkaaW.PrintMore
open Go.Proofs.Ytnhblhhkjnmkkaa.Sp Go.Proofs.Ytnhblhhkjnmkkaa.Va
set_option linter.unusedVariables false
set_option linter.unusedSimpArgs false
theorem info154' : (Try.prog.info? 154).map (fun i => (i.zero, i.size, i.bytes)) = some (some (.agg #[.int .i64 0, .int .i64 0, .int .i64 0, .int .i64 0, .int .i64 0]), 5, 40) := by kernel_rfl
theorem info152' : (Try.prog.info? 152).map (fun i => (i.zero, i.size, i.bytes)) = some (some (.agg #[.string ⟨#[]⟩, .string ⟨#[]⟩]), 2, 32) := by kernel_rfl
theorem tgrown_blk {w3 w4 : World} {g base : Nat} {v : Value} {vs : Array Value} (hd : Blk w3 g vs) (hb : ∀ k, v.ownBlock = some k → base ≤ k) (hg : w3.grownBy w4 v.ownBlock) (hlt : g < base) : Blk w4 g vs := by
  obtain ⟨t, h⟩ := hd
  exact ⟨t, blk_grown h hg (fun e => by have := hb g e.symm; omega)⟩
theorem tgrown_one {w3 w4 : World} {g base : Nat} {v u : Value} (hd : One w3 g u) (hb : ∀ k, v.ownBlock = some k → base ≤ k) (hg : w3.grownBy w4 v.ownBlock) (hlt : g < base) : One w4 g u := by
  obtain ⟨t, h⟩ := hd
  exact ⟨t, blk_grown h hg (fun e => by have := hb g e.symm; omega)⟩
theorem tgrown_rat {W0 w3 w4 : World} {g base : Nat} {l : List Int} {v : Value} (hr : Rat W0 w3 g l) (hb : ∀ k, v.ownBlock = some k → base ≤ k) (hg : w3.grownBy w4 v.ownBlock) (hlt : g < base) : Rat W0 w4 g l := by
  obtain ⟨A, c, h1, h2, h3, h4, h5⟩ := hr
  refine ⟨A, c, blk_grown h1 hg (fun e => by have := hb g e.symm; omega), h2, h3, ?_, h5⟩
  exact h4.grown hg h4.size (fun k hk => by have := hb k hk; omega)
theorem R_farB {α : Type} {d : Kd α} {e : Nat} {w : World} {base g : Nat} {ok : Nat → Prop} {v : Value} {ds : List α} (h : Kd.R d e w base ok v ds) (hlt : g < base) (j : Nat) (u : Value) : Kd.R d e (w.setCell ⟨g, j, none⟩ u) base ok v ds :=
  Kd.R_mono (Kd.R_far (p := ⟨g, j, none⟩) (Kd.R_bound h) (fun k hk => by have := hk.2.1; simp only; omega) u) (fun _ hk => hk.1)
theorem R_farN {α : Type} {d : Kd α} {e : Nat} {w : World} {base g n : Nat} {ok : Nat → Prop} {v : Value} {ds : List α} (h : Kd.R d e w base (fun k => ok k ∧ k < n) v ds) (hlt : n ≤ g) (j : Nat) (u : Value) : Kd.R d e (w.setCell ⟨g, j, none⟩ u) base (fun k => ok k ∧ k < n) v ds :=
  Kd.R_far (p := ⟨g, j, none⟩) h (fun k hk => by have := hk.2; simp only; omega) u
theorem R_young {α : Type} {d : Kd α} {e : Nat} {w : World} {base : Nat} {ok : Nat → Prop} {v : Value} {ds : List α} (h : Kd.R d e w base ok v ds) (o : Obj) : Kd.R d e (w.alloc o) base (fun k => ok k ∧ k < w.heap.size) v ds :=
  Kd.R_alloc (Kd.R_mono (Kd.R_bound h) (fun k hk => ⟨hk.1, hk.2.2.1⟩)) o
/-- What decoding a reply comes to. -/
def TellSaid (W : World) (D : Option (Nat × Nat × Bool × List S154 × List S152)) (e : Ending) (w' : World) : Prop :=
  match D with
  | some (a, c, b, ss, hs) => ∃ v u, e = .returned (.tuple #[.agg #[.int .i64 (a : Int), .int .i64 (c : Int), .bool b, v, u], .int .i64 0]) ∧ Kd.R k154 154 w' W.heap.size (fun _ => True) v ss ∧ Kd.R k152 152 w' W.heap.size (fun _ => True) u hs ∧ Below W.heap.size W w'
  | none => e = .returned (.tuple #[.agg #[.int .i64 0, .int .i64 0, .bool false, .slice none 0 0, .slice none 0 0], .int .i64 2]) ∧ Below W.heap.size W w'
set_option maxHeartbeats 8000000 in
set_option maxRecDepth 100000 in
theorem decodeTell_calls (W : World) (A : Option Addr) (c : Nat) (l : List Int) (hC : Kd.C (Kd.int .u8) W A l.length l) (hc : l.length ≤ c) (hb : Bytes l) (hl : l.length ≤ 140737488351232) :
    Calls Try.prog 93 #[.slice A l.length c] W (TellSaid W (rtell l)) := by
  have hmf : ∀ (fn : Fn) (first cap : Array Value) (w : World), (Instr.makeFunc fn first cap).run Try.prog w = .ok (.func fn first cap) w := fun _ _ _ _ => rfl
  have GAVE := And.intro @gave93 @back93
  generalize hD : rtell l = D
  unfold rtell at hD
  obtain ⟨W1, hW1⟩ : ∃ W1, W1 = ((W.alloc (.cells #[.int .i64 0, .int .i64 0, .bool false, .slice none 0 0, .slice none 0 0] 108)).alloc (.cells #[.int .i64 0] 27)) := ⟨_, rfl⟩
  have hs1 : W1.heap.size = W.heap.size + 1 + 1 := by rw [hW1]; simp
  have o0 : Blk W1 W.heap.size #[.int .i64 ((0 : Nat) : Int), .int .i64 ((0 : Nat) : Int), .bool false, .slice none 0 0, .slice none 0 0] := by rw [hW1]; exact (blk_one W _ _ _ rfl).alloc _
  have z0 : One W1 (W.heap.size + 1) (.int .i64 0) := by rw [hW1]; exact one_new _ _ _ _ (by simp)
  have hb1 : Below W.heap.size W W1 := by rw [hW1]; exact below_alloc (below_alloc (Below.refl _ _) _) _
  have HO := Aside0.mk (open_calls W A c 2 l W1 hC hc hb1)
  have HGV := Aside0.mk GAVE
  have HD := Aside0.mk hD
  have HB := Aside0.mk hb
  clear GAVE hC hb hD
  go_enter_defers Try.func93, Try.ntmps93
  go_wp2_with fail
  rw [← hW1]
  clear hW1
  have ho := HO.out
  have hd := HD.out
  cases h1 : ropen 2 l with
  | none =>
    rw [h1] at ho hd
    subst hd
    refine ho.mono ?_
    rintro e w1 ⟨rfl, hb2⟩
    go_wp2_with fail
    exact HGV.out.1 _ _ _ _ _ _ _ _ _ _ _ _ _ _ _ _ _ _ _ _ _ _ _ _ _ _ _ _ _ _ _ _ _ _ _ _ _ _ _ _ _ _ _ _ _ _ _ _ _ _ _ _ _ _ _ _ _ _ _ _ _ _ _ _ _ _ _ _ _ _ _ _ W _ w1 (o0.below hb2) (z0.below hb2) (by omega) (below_step hb1 hb2) (by omega) (fun w' h => ⟨rfl, h⟩)
  | some l0 =>
    clear hd
    rw [h1, hs1] at ho
    refine ho.mono ?_
    rintro e w1 ⟨rfl, hr1, hk1⟩
    have hl0 : l0.length ≤ l.length ∧ Bytes l0 := by
      cases l with
      | nil => simp [ropen] at h1
      | cons b t =>
        simp only [ropen] at h1
        split at h1
        · cases h1; exact ⟨by simp, HB.out.tail⟩
        · cases h1
    have hd := HD.out
    rw [h1, Option.bind_some] at hd
    have HD := Aside0.mk hd
    have NX := Aside0.mk (And.intro (o0.but hk1 (by omega)) (And.intro (z0.but hk1 (by omega)) hr1))
    obtain ⟨hl0a, hl0b⟩ := hl0
    clear ho o0 z0 hd h1 hr1 hk1 hb1 HO
    go_wp2_with fail
    obtain ⟨o1, z1, hr⟩ := NX.out
    have hn := num_calls W _ l0 2147483647 _ hr hl0b (by omega) (by omega)
    cases h1 : rnum 2147483647 l0 with
    | none =>
      rw [h1] at hn
      have hd := HD.out
      rw [h1] at hd
      subst hd
      refine hn.mono ?_
      rintro e w2 ⟨rfl, hb2, hk2⟩
      go_wp2_with fail
      exact HGV.out.1 _ _ _ _ _ _ _ _ _ _ _ _ _ _ _ _ _ _ _ _ _ _ _ _ _ _ _ _ _ _ _ _ _ _ _ _ _ _ _ _ _ _ _ _ _ _ _ _ _ _ _ _ _ _ _ _ _ _ _ _ _ _ _ _ _ _ _ _ _ _ _ _ W _ w2 (o1.but hk2 (by omega)) (z1.but hk2 (by omega)) (by omega) hb2 (by omega) (fun w' h => ⟨rfl, h⟩)
    | some p =>
      obtain ⟨v0, l1⟩ := p
      rw [h1] at hn
      refine hn.mono ?_
      rintro e w2 ⟨rfl, hr2, hk2⟩
      have o2 := o1.but hk2 (by omega)
      have z2 := z1.but hk2 (by omega)
      have hc2 := o2.cell 0
      have hf2 := o2.frozen 0
      obtain ⟨hv0, hl1a, hl1b⟩ := rnum_lt hl0b h1
      have hd := HD.out
      rw [h1, Option.bind_some] at hd
      have HD := Aside0.mk hd
      have HN := Aside0.mk (And.intro o2 (And.intro z2 hr2))
      clear hn o1 z1 hr NX h1 o2 z2 hr2 hk2 hd
      go_wp2_with fail
      obtain ⟨o2, z2, hr2⟩ := HN.out
      have o3 : Blk _ W.heap.size #[.int .i64 (v0 : Int), .int .i64 ((0 : Nat) : Int), .bool false, .slice none 0 0, .slice none 0 0] := o2.set_ 0 (.int .i64 (v0 : Int))
      have z3 := z2.far' (g' := W.heap.size) (by omega) 0 (.int .i64 (v0 : Int))
      have hr3 := hr2.far W.heap.size 0 (.int .i64 (v0 : Int)) (by omega) (Nat.le_refl _)
      obtain ⟨w3, hw3⟩ : ∃ w3, w3 = w2.setCell ⟨W.heap.size, 0, none⟩ (.int .i64 (v0 : Int)) := ⟨_, rfl⟩
      rw [← hw3] at o3 z3 hr3 ⊢
      have NX := Aside0.mk (And.intro o3 (And.intro z3 hr3))
      clear o2 z2 hr2 o3 z3 hr3 HN hw3 hc2 hf2
      obtain ⟨o1, z1, hr⟩ := NX.out
      have hn := num_calls W _ l1 2 _ hr hl1b (by omega) (by omega)
      cases h1 : rnum 2 l1 with
      | none =>
        rw [h1] at hn
        have hd := HD.out
        rw [h1] at hd
        subst hd
        refine hn.mono ?_
        rintro e w2 ⟨rfl, hb2, hk2⟩
        go_wp2_with fail
        exact HGV.out.1 _ _ _ _ _ _ _ _ _ _ _ _ _ _ _ _ _ _ _ _ _ _ _ _ _ _ _ _ _ _ _ _ _ _ _ _ _ _ _ _ _ _ _ _ _ _ _ _ _ _ _ _ _ _ _ _ _ _ _ _ _ _ _ _ _ _ _ _ _ _ _ _ W _ w2 (o1.but hk2 (by omega)) (z1.but hk2 (by omega)) (by omega) hb2 (by omega) (fun w' h => ⟨rfl, h⟩)
      | some p =>
        obtain ⟨v1, l2⟩ := p
        rw [h1] at hn
        refine hn.mono ?_
        rintro e w2 ⟨rfl, hr2, hk2⟩
        have o2 := o1.but hk2 (by omega)
        have z2 := z1.but hk2 (by omega)
        have hc2 := o2.cell 1
        have hf2 := o2.frozen 1
        obtain ⟨hv1, hl2a, hl2b⟩ := rnum_lt hl1b h1
        have hd := HD.out
        rw [h1, Option.bind_some] at hd
        have HD := Aside0.mk hd
        have HN := Aside0.mk (And.intro o2 (And.intro z2 hr2))
        clear hn o1 z1 hr NX h1 o2 z2 hr2 hk2 hd
        go_wp2_with fail
        obtain ⟨o2, z2, hr2⟩ := HN.out
        have o3 : Blk _ W.heap.size #[.int .i64 (v0 : Int), .int .i64 (v1 : Int), .bool false, .slice none 0 0, .slice none 0 0] := o2.set_ 1 (.int .i64 (v1 : Int))
        have z3 := z2.far' (g' := W.heap.size) (by omega) 1 (.int .i64 (v1 : Int))
        have hr3 := hr2.far W.heap.size 1 (.int .i64 (v1 : Int)) (by omega) (Nat.le_refl _)
        obtain ⟨w3, hw3⟩ : ∃ w3, w3 = w2.setCell ⟨W.heap.size, 1, none⟩ (.int .i64 (v1 : Int)) := ⟨_, rfl⟩
        rw [← hw3] at o3 z3 hr3 ⊢
        have NX := Aside0.mk (And.intro o3 (And.intro z3 hr3))
        clear o2 z2 hr2 o3 z3 hr3 HN hw3 hc2 hf2
        obtain ⟨o1, z1, hr⟩ := NX.out
        have hn := num_calls W _ l2 1 _ hr hl2b (by omega) (by omega)
        cases h1 : rnum 1 l2 with
        | none =>
          rw [h1] at hn
          have hd := HD.out
          rw [h1] at hd
          subst hd
          refine hn.mono ?_
          rintro e w2 ⟨rfl, hb2, hk2⟩
          go_wp2_with fail
          exact HGV.out.1 _ _ _ _ _ _ _ _ _ _ _ _ _ _ _ _ _ _ _ _ _ _ _ _ _ _ _ _ _ _ _ _ _ _ _ _ _ _ _ _ _ _ _ _ _ _ _ _ _ _ _ _ _ _ _ _ _ _ _ _ _ _ _ _ _ _ _ _ _ _ _ _ W _ w2 (o1.but hk2 (by omega)) (z1.but hk2 (by omega)) (by omega) hb2 (by omega) (fun w' h => ⟨rfl, h⟩)
        | some p =>
          obtain ⟨v2, l3⟩ := p
          rw [h1] at hn
          refine hn.mono ?_
          rintro e w2 ⟨rfl, hr2, hk2⟩
          have o2 := o1.but hk2 (by omega)
          have z2 := z1.but hk2 (by omega)
          have hc2 := o2.cell 2
          have hf2 := o2.frozen 2
          obtain ⟨hv2, hl3a, hl3b⟩ := rnum_lt hl2b h1
          have hd := HD.out
          rw [h1, Option.bind_some] at hd
          have HD := Aside0.mk hd
          have HN := Aside0.mk (And.intro o2 (And.intro z2 hr2))
          clear hn o1 z1 hr NX h1 o2 z2 hr2 hk2 hd
          obtain ⟨bb, hbb⟩ : ∃ bb : Bool, ((v2 : Int) == 1) = bb := ⟨_, rfl⟩
          have hbb2 : decide (v2 = 1) = bb := by rw [← hbb]; exact Bool.eq_iff_iff.2 (by simp; omega)
          have HBB := Aside0.mk hbb2
          clear hbb2
          go_wp2_with fail
          obtain ⟨o2, z2, hr2⟩ := HN.out
          have o3 : Blk _ W.heap.size #[.int .i64 (v0 : Int), .int .i64 (v1 : Int), .bool bb, .slice none 0 0, .slice none 0 0] := o2.set_ 2 (.bool bb)
          have z3 := z2.far' (g' := W.heap.size) (by omega) 2 (.bool bb)
          have hr3 := hr2.far W.heap.size 2 (.bool bb) (by omega) (Nat.le_refl _)
          obtain ⟨w3, hw3⟩ : ∃ w3, w3 = w2.setCell ⟨W.heap.size, 2, none⟩ (.bool bb) := ⟨_, rfl⟩
          rw [← hw3] at o3 z3 hr3 ⊢
          have NX := Aside0.mk (And.intro o3 (And.intro z3 hr3))
          clear o2 z2 hr2 o3 z3 hr3 HN hw3 hc2 hf2
          obtain ⟨o1, z1, hr⟩ := NX.out
          have hn := num_calls W _ l3 16 _ hr hl3b (by omega) (by omega)
          cases h1 : rnum 16 l3 with
          | none =>
            rw [h1] at hn
            have hd := HD.out
            rw [h1] at hd
            subst hd
            refine hn.mono ?_
            rintro e w2 ⟨rfl, hb2, hk2⟩
            go_wp2_with fail
            exact HGV.out.1 _ _ _ _ _ _ _ _ _ _ _ _ _ _ _ _ _ _ _ _ _ _ _ _ _ _ _ _ _ _ _ _ _ _ _ _ _ _ _ _ _ _ _ _ _ _ _ _ _ _ _ _ _ _ _ _ _ _ _ _ _ _ _ _ _ _ _ _ _ _ _ _ W _ w2 (o1.but hk2 (by omega)) (z1.but hk2 (by omega)) (by omega) hb2 (by omega) (fun w' h => ⟨rfl, h⟩)
          | some p =>
            obtain ⟨n, l4⟩ := p
            rw [h1] at hn
            refine hn.mono ?_
            rintro e w2 ⟨rfl, hr2, hk2⟩
            obtain ⟨hvn, hl4a, hl4b⟩ := rnum_lt hl3b h1
            have hd := HD.out
            rw [h1, Option.bind_some] at hd
            have HD := Aside0.mk hd
            have HN := Aside0.mk (And.intro (o1.but hk2 (by omega)) (And.intro (z1.but hk2 (by omega)) hr2))
            clear hn o1 z1 hr NX h1 hr2 hk2 hd
            go_wp2_with fail
            go_loopg [22] (n + 1) (fun kq v22 w' => ∃ (i : Nat) (l' : List Int) (ss : List S154) (v : Value), v22 = .int .i64 (i : Int) ∧ Aside0 (i ≤ n) ∧ Aside0 (kq = n + 1 - i) ∧ Aside0 (Rat W w' (W.heap.size + 1 + 1) l') ∧ Aside0 (Blk w' W.heap.size #[.int .i64 (v0 : Int), .int .i64 (v1 : Int), .bool bb, v, .slice none 0 0]) ∧ Aside0 (One w' (W.heap.size + 1) (.int .i64 0)) ∧ Aside0 (Kd.R k154 154 w' (W.heap.size + 1 + 1 + 1) (fun k => k ≠ W.heap.size + 1 + 1) v ss) ∧ Aside0 (l'.length ≤ l.length ∧ Bytes l' ∧ ss.length = i) ∧ Aside0 (rstats n l4 = (rstats (n - i) l').bind fun r => some (ss ++ r.1, r.2)))
            case atStart =>
              refine ⟨0, l4, [], _, rfl, ⟨Nat.zero_le _⟩, ⟨rfl⟩, ⟨HN.out.2.2⟩, ⟨HN.out.1⟩, ⟨HN.out.2.1⟩, ⟨Kd.R_nil _ _ _ _ _⟩, ⟨by omega, hl4b, rfl⟩, ⟨?_⟩⟩
              cases rstats n l4 <;> rfl
            case round =>
              obtain ⟨i, l', ss, v, rfl, hi, hkq, hr, hd, hz, ho, hlb, hq⟩ := hrel
              by_cases c1 : i < n
              · have d1 : decide ((i : Int) < (n : Int)) = true := decide_eq_true (by omega)
                have hni : n - i = (n - (i + 1)) + 1 := by omega
                obtain ⟨hla, hlb0, hlen⟩ := hlb.out
                have hll : ss.length ≤ 16 := by omega
                have HLEN := Aside0.mk hlen
                clear hlen
                have hd0 := HD.out
                rw [hq.out, hni, rstats] at hd0
                unfold rstat at hd0
                simp only [Option.bind_assoc] at hd0
                have hq0 := hq.out
                rw [hni, rstats] at hq0
                unfold rstat at hq0
                simp only [Option.bind_assoc] at hq0
                have HDQ := Aside0.mk (And.intro hd0 hq0)
                obtain ⟨Av, cv, ev⟩ := Kd.R_slice ho.out
                subst ev
                have NX := Aside0.mk (And.intro hd.out (And.intro hz.out (And.intro hr.out ho.out)))
                have hl0c : l'.length ≤ 140737488351232 := by omega
                clear hd0 hq0 hr hd hz ho hq hlb
                go_wp2_with fail
                obtain ⟨o1, z1, hr, ho1⟩ := NX.out
                have hn := num_calls W _ l' 2 _ hr hlb0 (by omega) (by omega)
                cases h1 : rnum 2 l' with
                | none =>
                  rw [h1] at hn
                  have hd := HDQ.out.1
                  rw [h1] at hd
                  simp only [Option.bind_none] at hd
                  subst hd
                  refine hn.mono ?_
                  rintro e w2 ⟨rfl, hb2, hk2⟩
                  go_wp2_with fail
                  exact HGV.out.1 _ _ _ _ _ _ _ _ _ _ _ _ _ _ _ _ _ _ _ _ _ _ _ _ _ _ _ _ _ _ _ _ _ _ _ _ _ _ _ _ _ _ _ _ _ _ _ _ _ _ _ _ _ _ _ _ _ _ _ _ _ _ _ _ _ _ _ _ _ _ _ _ W _ w2 (o1.but hk2 (by omega)) (z1.but hk2 (by omega)) (by omega) hb2 (by omega) (fun w' h => ⟨rfl, h⟩)
                | some p =>
                  obtain ⟨b0, m1⟩ := p
                  rw [h1] at hn
                  refine hn.mono ?_
                  rintro e w2 ⟨rfl, hr2, hk2⟩
                  obtain ⟨hb0, hm1a, hm1b⟩ := rnum_lt hlb0 h1
                  have hdq := HDQ.out
                  rw [h1] at hdq
                  simp only [Option.bind_some] at hdq
                  have HDQ := Aside0.mk hdq
                  have HN := Aside0.mk (And.intro (o1.but hk2 (by omega)) (And.intro (z1.but hk2 (by omega)) (And.intro hr2 (Kd.R_keep ho1 hk2 (fun k hk => hk)))))
                  clear hn o1 z1 hr NX h1 hr2 hk2 hdq ho1
                  go_wp2_with fail
                  obtain ⟨o2, z2, hr2, ho2⟩ := HN.out
                  have hgr : W.heap.size + 1 + 1 < w2.heap.size := by obtain ⟨A0, c0, h0, _⟩ := hr2; exact blk_lt h0
                  obtain ⟨gs, hgs⟩ : ∃ gs, gs = w2.heap.size := ⟨_, rfl⟩
                  have hg1 : W.heap.size + 1 + 1 < gs := by omega
                  have s3 : Blk (w2.alloc (.cells #[.int .i64 (b0 : Int), .int .i64 0, .int .i64 0, .int .i64 0, .int .i64 0] 154)) gs #[.int .i64 (b0 : Int), .int .i64 0, .int .i64 0, .int .i64 0, .int .i64 0] := blk_one w2 _ 154 gs hgs.symm
                  have o3 := o2.alloc (.cells #[.int .i64 (b0 : Int), .int .i64 0, .int .i64 0, .int .i64 0, .int .i64 0] 154)
                  have z3 := z2.alloc (.cells #[.int .i64 (b0 : Int), .int .i64 0, .int .i64 0, .int .i64 0, .int .i64 0] 154)
                  have hr3 := hr2.more (below_alloc (Below.refl _ _) (.cells #[.int .i64 (b0 : Int), .int .i64 0, .int .i64 0, .int .i64 0, .int .i64 0] 154))
                  have ho3 := R_young ho2 (.cells #[.int .i64 (b0 : Int), .int .i64 0, .int .i64 0, .int .i64 0, .int .i64 0] 154)
                  rw [← hgs] at ho3 ⊢
                  obtain ⟨w3, hw3⟩ : ∃ w3, w3 = w2.alloc (.cells #[.int .i64 (b0 : Int), .int .i64 0, .int .i64 0, .int .i64 0, .int .i64 0] 154) := ⟨_, rfl⟩
                  rw [← hw3] at o3 z3 hr3 ho3 s3 ⊢
                  have NX := Aside0.mk (And.intro o3 (And.intro z3 (And.intro hr3 (And.intro ho3 s3))))
                  clear o2 z2 hr2 o3 z3 hr3 HN hw3 ho2 ho3 s3 hgs hgr
                  obtain ⟨o1, z1, hr, ho1, s1⟩ := NX.out
                  have hn := num_calls W _ m1 4294967295 _ hr hm1b (by omega) (by omega)
                  cases h1 : rnum 4294967295 m1 with
                  | none =>
                    rw [h1] at hn
                    have hd := HDQ.out.1
                    rw [h1] at hd
                    simp only [Option.bind_none] at hd
                    subst hd
                    refine hn.mono ?_
                    rintro e w2 ⟨rfl, hb2, hk2⟩
                    go_wp2_with fail
                    exact HGV.out.1 _ _ _ _ _ _ _ _ _ _ _ _ _ _ _ _ _ _ _ _ _ _ _ _ _ _ _ _ _ _ _ _ _ _ _ _ _ _ _ _ _ _ _ _ _ _ _ _ _ _ _ _ _ _ _ _ _ _ _ _ _ _ _ _ _ _ _ _ _ _ _ _ W _ w2 (o1.but hk2 (by omega)) (z1.but hk2 (by omega)) (by omega) hb2 (by omega) (fun w' h => ⟨rfl, h⟩)
                  | some p =>
                    obtain ⟨b1, m2⟩ := p
                    rw [h1] at hn
                    refine hn.mono ?_
                    rintro e w2 ⟨rfl, hr2, hk2⟩
                    obtain ⟨hb1, hm2a, hm2b⟩ := rnum_lt hm1b h1
                    have hdq := HDQ.out
                    rw [h1] at hdq
                    simp only [Option.bind_some] at hdq
                    have HDQ := Aside0.mk hdq
                    have s2 := s1.but hk2 (by omega)
                    have hc2 := s2.cell 1
                    have hf2 := s2.frozen 1
                    have HN := Aside0.mk (And.intro (o1.but hk2 (by omega)) (And.intro (z1.but hk2 (by omega)) (And.intro hr2 (And.intro (Kd.R_keep ho1 hk2 (fun k hk => hk.1)) s2))))
                    clear hn o1 z1 hr NX h1 hr2 hk2 hdq ho1 s1 s2
                    go_wp2_with fail
                    obtain ⟨o2, z2, hr2, ho2, s2⟩ := HN.out
                    have s3 : Blk _ gs #[.int .i64 (b0 : Int), .int .i64 (b1 : Int), .int .i64 0, .int .i64 0, .int .i64 0] := s2.set_ 1 (.int .i64 (b1 : Int))
                    have o3 := o2.far (g' := gs) (by omega) 1 (.int .i64 (b1 : Int))
                    have z3 := z2.far' (g' := gs) (by omega) 1 (.int .i64 (b1 : Int))
                    have hr3 := hr2.far gs 1 (.int .i64 (b1 : Int)) (by omega) (by omega)
                    have ho3 := R_farN ho2 (Nat.le_refl gs) 1 (.int .i64 (b1 : Int))
                    obtain ⟨w3, hw3⟩ : ∃ w3, w3 = w2.setCell ⟨gs, 1, none⟩ (.int .i64 (b1 : Int)) := ⟨_, rfl⟩
                    rw [← hw3] at o3 z3 hr3 ho3 s3 ⊢
                    have NX := Aside0.mk (And.intro o3 (And.intro z3 (And.intro hr3 (And.intro ho3 s3))))
                    clear o2 z2 hr2 o3 z3 hr3 HN hw3 hc2 hf2 ho2 ho3 s2 s3
                    obtain ⟨o1, z1, hr, ho1, s1⟩ := NX.out
                    have hn := num_calls W _ m2 4 _ hr hm2b (by omega) (by omega)
                    cases h1 : rnum 4 m2 with
                    | none =>
                      rw [h1] at hn
                      have hd := HDQ.out.1
                      rw [h1] at hd
                      simp only [Option.bind_none] at hd
                      subst hd
                      refine hn.mono ?_
                      rintro e w2 ⟨rfl, hb2, hk2⟩
                      go_wp2_with fail
                      exact HGV.out.1 _ _ _ _ _ _ _ _ _ _ _ _ _ _ _ _ _ _ _ _ _ _ _ _ _ _ _ _ _ _ _ _ _ _ _ _ _ _ _ _ _ _ _ _ _ _ _ _ _ _ _ _ _ _ _ _ _ _ _ _ _ _ _ _ _ _ _ _ _ _ _ _ W _ w2 (o1.but hk2 (by omega)) (z1.but hk2 (by omega)) (by omega) hb2 (by omega) (fun w' h => ⟨rfl, h⟩)
                    | some p =>
                      obtain ⟨b2, m3⟩ := p
                      rw [h1] at hn
                      refine hn.mono ?_
                      rintro e w2 ⟨rfl, hr2, hk2⟩
                      obtain ⟨hb2, hm3a, hm3b⟩ := rnum_lt hm2b h1
                      have hdq := HDQ.out
                      rw [h1] at hdq
                      simp only [Option.bind_some] at hdq
                      have HDQ := Aside0.mk hdq
                      have s2 := s1.but hk2 (by omega)
                      have hc2 := s2.cell 2
                      have hf2 := s2.frozen 2
                      have HN := Aside0.mk (And.intro (o1.but hk2 (by omega)) (And.intro (z1.but hk2 (by omega)) (And.intro hr2 (And.intro (Kd.R_keep ho1 hk2 (fun k hk => hk.1)) s2))))
                      clear hn o1 z1 hr NX h1 hr2 hk2 hdq ho1 s1 s2
                      go_wp2_with fail
                      obtain ⟨o2, z2, hr2, ho2, s2⟩ := HN.out
                      have s3 : Blk _ gs #[.int .i64 (b0 : Int), .int .i64 (b1 : Int), .int .i64 (b2 : Int), .int .i64 0, .int .i64 0] := s2.set_ 2 (.int .i64 (b2 : Int))
                      have o3 := o2.far (g' := gs) (by omega) 2 (.int .i64 (b2 : Int))
                      have z3 := z2.far' (g' := gs) (by omega) 2 (.int .i64 (b2 : Int))
                      have hr3 := hr2.far gs 2 (.int .i64 (b2 : Int)) (by omega) (by omega)
                      have ho3 := R_farN ho2 (Nat.le_refl gs) 2 (.int .i64 (b2 : Int))
                      obtain ⟨w3, hw3⟩ : ∃ w3, w3 = w2.setCell ⟨gs, 2, none⟩ (.int .i64 (b2 : Int)) := ⟨_, rfl⟩
                      rw [← hw3] at o3 z3 hr3 ho3 s3 ⊢
                      have NX := Aside0.mk (And.intro o3 (And.intro z3 (And.intro hr3 (And.intro ho3 s3))))
                      clear o2 z2 hr2 o3 z3 hr3 HN hw3 hc2 hf2 ho2 ho3 s2 s3
                      obtain ⟨o1, z1, hr, ho1, s1⟩ := NX.out
                      have hn := num_calls W _ m3 4294967295 _ hr hm3b (by omega) (by omega)
                      cases h1 : rnum 4294967295 m3 with
                      | none =>
                        rw [h1] at hn
                        have hd := HDQ.out.1
                        rw [h1] at hd
                        simp only [Option.bind_none] at hd
                        subst hd
                        refine hn.mono ?_
                        rintro e w2 ⟨rfl, hb2, hk2⟩
                        go_wp2_with fail
                        exact HGV.out.1 _ _ _ _ _ _ _ _ _ _ _ _ _ _ _ _ _ _ _ _ _ _ _ _ _ _ _ _ _ _ _ _ _ _ _ _ _ _ _ _ _ _ _ _ _ _ _ _ _ _ _ _ _ _ _ _ _ _ _ _ _ _ _ _ _ _ _ _ _ _ _ _ W _ w2 (o1.but hk2 (by omega)) (z1.but hk2 (by omega)) (by omega) hb2 (by omega) (fun w' h => ⟨rfl, h⟩)
                      | some p =>
                        obtain ⟨b3, m4⟩ := p
                        rw [h1] at hn
                        refine hn.mono ?_
                        rintro e w2 ⟨rfl, hr2, hk2⟩
                        obtain ⟨hb3, hm4a, hm4b⟩ := rnum_lt hm3b h1
                        have hdq := HDQ.out
                        rw [h1] at hdq
                        simp only [Option.bind_some] at hdq
                        have HDQ := Aside0.mk hdq
                        have s2 := s1.but hk2 (by omega)
                        have hc2 := s2.cell 3
                        have hf2 := s2.frozen 3
                        have HN := Aside0.mk (And.intro (o1.but hk2 (by omega)) (And.intro (z1.but hk2 (by omega)) (And.intro hr2 (And.intro (Kd.R_keep ho1 hk2 (fun k hk => hk.1)) s2))))
                        clear hn o1 z1 hr NX h1 hr2 hk2 hdq ho1 s1 s2
                        go_wp2_with fail
                        obtain ⟨o2, z2, hr2, ho2, s2⟩ := HN.out
                        have s3 : Blk _ gs #[.int .i64 (b0 : Int), .int .i64 (b1 : Int), .int .i64 (b2 : Int), .int .i64 (b3 : Int), .int .i64 0] := s2.set_ 3 (.int .i64 (b3 : Int))
                        have o3 := o2.far (g' := gs) (by omega) 3 (.int .i64 (b3 : Int))
                        have z3 := z2.far' (g' := gs) (by omega) 3 (.int .i64 (b3 : Int))
                        have hr3 := hr2.far gs 3 (.int .i64 (b3 : Int)) (by omega) (by omega)
                        have ho3 := R_farN ho2 (Nat.le_refl gs) 3 (.int .i64 (b3 : Int))
                        obtain ⟨w3, hw3⟩ : ∃ w3, w3 = w2.setCell ⟨gs, 3, none⟩ (.int .i64 (b3 : Int)) := ⟨_, rfl⟩
                        rw [← hw3] at o3 z3 hr3 ho3 s3 ⊢
                        have NX := Aside0.mk (And.intro o3 (And.intro z3 (And.intro hr3 (And.intro ho3 s3))))
                        clear o2 z2 hr2 o3 z3 hr3 HN hw3 hc2 hf2 ho2 ho3 s2 s3
                        obtain ⟨o1, z1, hr, ho1, s1⟩ := NX.out
                        have hn := num_calls W _ m4 86400 _ hr hm4b (by omega) (by omega)
                        cases h1 : rnum 86400 m4 with
                        | none =>
                          rw [h1] at hn
                          have hd := HDQ.out.1
                          rw [h1] at hd
                          simp only [Option.bind_none] at hd
                          subst hd
                          refine hn.mono ?_
                          rintro e w2 ⟨rfl, hb2, hk2⟩
                          go_wp2_with fail
                          exact HGV.out.1 _ _ _ _ _ _ _ _ _ _ _ _ _ _ _ _ _ _ _ _ _ _ _ _ _ _ _ _ _ _ _ _ _ _ _ _ _ _ _ _ _ _ _ _ _ _ _ _ _ _ _ _ _ _ _ _ _ _ _ _ _ _ _ _ _ _ _ _ _ _ _ _ W _ w2 (o1.but hk2 (by omega)) (z1.but hk2 (by omega)) (by omega) hb2 (by omega) (fun w' h => ⟨rfl, h⟩)
                        | some p =>
                          obtain ⟨b4, m5⟩ := p
                          rw [h1] at hn
                          refine hn.mono ?_
                          rintro e w2 ⟨rfl, hr2, hk2⟩
                          obtain ⟨hb4, hm5a, hm5b⟩ := rnum_lt hm4b h1
                          have hdq := HDQ.out
                          rw [h1] at hdq
                          simp only [Option.bind_some] at hdq
                          have HDQ := Aside0.mk hdq
                          have s2 := s1.but hk2 (by omega)
                          have hc2 := s2.cell 4
                          have hf2 := s2.frozen 4
                          have o2 := o1.but hk2 (by omega)
                          have z2 := z1.but hk2 (by omega)
                          have ho2 := Kd.R_keep ho1 hk2 (fun k hk => hk.1)
                          have s3 : Blk _ gs #[.int .i64 (b0 : Int), .int .i64 (b1 : Int), .int .i64 (b2 : Int), .int .i64 (b3 : Int), .int .i64 (b4 : Int)] := s2.set_ 4 (.int .i64 (b4 : Int))
                          have o3 := o2.far (g' := gs) (by omega) 4 (.int .i64 (b4 : Int))
                          have z3 := z2.far' (g' := gs) (by omega) 4 (.int .i64 (b4 : Int))
                          have hr3 := hr2.far gs 4 (.int .i64 (b4 : Int)) (by omega) (by omega)
                          have ho3 := Kd.R_mono (R_farN ho2 (Nat.le_refl gs) 4 (.int .i64 (b4 : Int))) (fun _ hk => hk.1)
                          have hgz : gs < (w2.setCell ⟨gs, 4, none⟩ (.int .i64 (b4 : Int))).heap.size := by obtain ⟨t, h⟩ := s3; exact blk_lt h
                          have NX := Aside0.mk (And.intro o3 (And.intro z3 hr3))
                          have HO3 := Aside0.mk ho3
                          have hne : W.heap.size ≠ gs := by omega
                          have hcd : w2.cell? ⟨W.heap.size, 3, none⟩ = some (.slice Av ss.length cv) := o2.cell 3
                          have hfd : w2.frozen? ⟨W.heap.size, 3, none⟩ = false := o2.frozen 3
                          have g0 : w2.cell? ⟨gs, 0, none⟩ = some (.int .i64 (b0 : Int)) := s2.cell 0
                          have g1 : w2.cell? ⟨gs, 1, none⟩ = some (.int .i64 (b1 : Int)) := s2.cell 1
                          have g2 : w2.cell? ⟨gs, 2, none⟩ = some (.int .i64 (b2 : Int)) := s2.cell 2
                          have g3 : w2.cell? ⟨gs, 3, none⟩ = some (.int .i64 (b3 : Int)) := s2.cell 3
                          have HDQ4 := Aside0.mk hdq.2
                          clear hdq
                          clear hn o1 z1 hr h1 hr2 hk2 ho1 s1 s2 o2 z2 ho2 s3 o3 z3 hr3 ho3
                          go_wp2_with (at_builtin; refine Kd.R_append k154 (w0 := (w2.setCell ⟨gs, 4, none⟩ (.int .i64 (b4 : Int)))) (W.heap.size + 1 + 1 + 1) rfl (.tmp 40) (.tmp 42) 105 154 (.agg #[.int .i64 0, .int .i64 0, .int .i64 0, .int .i64 0, .int .i64 0]) 40 rfl Try.underlying105 info154' rfl (by decide) (by decide) (.slice Av ss.length cv) ss ⟨(b0 : Int), (b1 : Int), (b2 : Int), (b3 : Int), (b4 : Int)⟩ [.int .i64 (b0 : Int), .int .i64 (b1 : Int), .int .i64 (b2 : Int), .int .i64 (b3 : Int), .int .i64 (b4 : Int)] (fun k => k ≠ W.heap.size + 1 + 1) (fun _ => False) (by simp [Act.eval, Act.put]) (by simp [Act.eval, Act.put]) (k154_mkM _ _ _ _) (fun _ h => h.elim) (fun k hk => by omega) HO3.out (Below.refl _ _) (by omega) (by omega) ?_; intro v1 w4 ho4 hb4 hg4 hat4; obtain ⟨A4, c4, e4⟩ := Kd.R_slice ho4; subst e4; have hd4 := tgrown_blk NX.out.1 (Kd.R_base HO3.out) hg4 (by omega); have hcd4 : w4.cell? ⟨W.heap.size, 3, none⟩ = some (.slice Av ss.length cv) := hd4.cell 3; have hfd4 : w4.frozen? ⟨W.heap.size, 3, none⟩ = false := hd4.frozen 3; have HA4 := Aside0.mk (And.intro ho4 (And.intro hg4 hd4)); clear ho4 hb4 hg4 hat4 hd4)
                          have q1 : Blk (w4.setCell ⟨W.heap.size, 3, none⟩ (.slice A4 (ss.length + 1) c4)) W.heap.size #[.int .i64 (v0 : Int), .int .i64 (v1 : Int), .bool bb, .slice A4 (ss.length + 1) c4, .slice none 0 0] := HA4.out.2.2.set_ 3 _
                          have q2 : Kd.R k154 154 (w4.setCell ⟨W.heap.size, 3, none⟩ (.slice A4 (ss.length + 1) c4)) (W.heap.size + 1 + 1 + 1) (fun k => k ≠ W.heap.size + 1 + 1) (.slice A4 (ss.length + 1) c4) (ss ++ [⟨(b0 : Int), (b1 : Int), (b2 : Int), (b3 : Int), (b4 : Int)⟩]) := by have h := R_farB HA4.out.1 (g := W.heap.size) (by omega) 3 (.slice A4 (ss.length + 1) c4); simpa using h
                          have q3 : One (w4.setCell ⟨W.heap.size, 3, none⟩ (.slice A4 (ss.length + 1) c4)) (W.heap.size + 1) (.int .i64 0) := (tgrown_one NX.out.2.1 (Kd.R_base HO3.out) HA4.out.2.1 (by omega)).far' (g' := W.heap.size) (by omega) 3 _
                          have q4 : Rat W (w4.setCell ⟨W.heap.size, 3, none⟩ (.slice A4 (ss.length + 1) c4)) (W.heap.size + 1 + 1) m5 := (tgrown_rat NX.out.2.2 (Kd.R_base HO3.out) HA4.out.2.1 (by omega)).far W.heap.size 3 _ (by omega) (Nat.le_refl _)
                          have hq5 : rstats n l4 = (rstats (n - (i + 1)) m5).bind fun r => some ((ss ++ [⟨(b0 : Int), (b1 : Int), (b2 : Int), (b3 : Int), (b4 : Int)⟩]) ++ r.1, r.2) := by
                            rw [HDQ4.out]
                            simp only [List.append_assoc, List.singleton_append]
                          have Q1 := Aside0.mk q1
                          have Q2 := Aside0.mk q2
                          have Q3 := Aside0.mk q3
                          have Q4 := Aside0.mk q4
                          have HQ5 := Aside0.mk hq5
                          clear q1 q2 q3 q4 hq5 HDQ4 HA4 HO3 NX hcd4 hfd4 hcd hfd g0 g1 g2 g3 hc2 hf2
                          go_wp2_with fail
                          go_roundg (n + 1 - (i + 1))
                          case measure => have := hkq.out; omega
                          case rel =>
                            refine ⟨i + 1, m5, ss ++ [⟨(b0 : Int), (b1 : Int), (b2 : Int), (b3 : Int), (b4 : Int)⟩], _, by first | (simp [wrap64, w64]; done) | (simp [wrap64, w64]; omega), ⟨by omega⟩, ⟨rfl⟩, Q4, Q1, Q3, Q2, ⟨?_⟩, HQ5⟩
                            have := HLEN.out
                            exact ⟨by omega, hm5b, by rw [List.length_append]; simp; omega⟩
              · have hie : i = n := by have := hi.out; omega
                subst hie
                have d1 : decide ((i : Int) < (i : Int)) = false := decide_eq_false (by omega)
                have hq2 := hq.out
                rw [Nat.sub_self, rstats] at hq2
                simp only [Option.bind_some, List.append_nil] at hq2
                have hd0 := HD.out
                rw [hq2, Option.bind_some] at hd0
                dsimp only at hd0
                have HD := Aside0.mk hd0
                obtain ⟨hla, hlb0, hlen⟩ := hlb.out
                have HLEN := Aside0.mk (show ss.length ≤ 16 by omega)
                obtain ⟨Av, cv, ev⟩ := Kd.R_slice ho.out
                subst ev
                have NX := Aside0.mk (And.intro hd.out (And.intro hz.out (And.intro hr.out ho.out)))
                clear hq2 hd0 hq hr hd hz ho hlb hlen hi hkq
                go_wp2_with fail
                obtain ⟨o1, z1, hr, ho1⟩ := NX.out
                have hn := num_calls W _ l' 4 _ hr hlb0 (by omega) (by omega)
                cases h1 : rnum 4 l' with
                | none =>
                  rw [h1] at hn
                  have hd := HD.out
                  rw [h1] at hd
                  subst hd
                  refine hn.mono ?_
                  rintro e w2 ⟨rfl, hb2, hk2⟩
                  go_wp2_with fail
                  exact HGV.out.1 _ _ _ _ _ _ _ _ _ _ _ _ _ _ _ _ _ _ _ _ _ _ _ _ _ _ _ _ _ _ _ _ _ _ _ _ _ _ _ _ _ _ _ _ _ _ _ _ _ _ _ _ _ _ _ _ _ _ _ _ _ _ _ _ _ _ _ _ _ _ _ _ W _ w2 (o1.but hk2 (by omega)) (z1.but hk2 (by omega)) (by omega) hb2 (by omega) (fun w' h => ⟨rfl, h⟩)
                | some p =>
                  obtain ⟨m, m0⟩ := p
                  rw [h1] at hn
                  refine hn.mono ?_
                  rintro e w2 ⟨rfl, hr2, hk2⟩
                  obtain ⟨hvm, hm0a, hm0b⟩ := rnum_lt hlb0 h1
                  have hd := HD.out
                  rw [h1, Option.bind_some] at hd
                  dsimp only at hd
                  have HD := Aside0.mk hd
                  have HN := Aside0.mk (And.intro (o1.but hk2 (by omega)) (And.intro (z1.but hk2 (by omega)) (And.intro hr2 (Kd.R_keep ho1 hk2 (fun k hk => hk)))))
                  clear hn o1 z1 hr ho1 NX h1 hr2 hk2 hd
                  go_wp2_with fail
                  go_loopg [48] (m + 1) (fun kq v48 w' => ∃ (k : Nat) (l' : List Int) (hs : List S152) (u : Value), v48 = .int .i64 (k : Int) ∧ Aside0 (k ≤ m) ∧ Aside0 (kq = m + 1 - k) ∧ Aside0 (Rat W w' (W.heap.size + 1 + 1) l') ∧ Aside0 (Blk w' W.heap.size #[.int .i64 (v0 : Int), .int .i64 (v1 : Int), .bool bb, .slice Av ss.length cv, u]) ∧ Aside0 (One w' (W.heap.size + 1) (.int .i64 0)) ∧ Aside0 (Kd.R k154 154 w' (W.heap.size + 1 + 1 + 1) (fun k => k ≠ W.heap.size + 1 + 1) (.slice Av ss.length cv) ss) ∧ Aside0 (Kd.R k152 152 w' (W.heap.size + 1 + 1 + 1) (fun k => k ≠ W.heap.size + 1 + 1) u hs) ∧ Aside0 (l'.length ≤ l.length ∧ Bytes l' ∧ hs.length = k ∧ ∀ h ∈ hs, h.f0.size ≤ 1000000 ∧ h.f1.size ≤ 1000000) ∧ Aside0 (rheads m m0 = (rheads (m - k) l').bind fun r => some (hs ++ r.1, r.2)))
                  case atStart =>
                    refine ⟨0, m0, [], _, rfl, ⟨Nat.zero_le _⟩, ⟨rfl⟩, ⟨HN.out.2.2.1⟩, ⟨HN.out.1⟩, ⟨HN.out.2.1⟩, ⟨HN.out.2.2.2⟩, ⟨Kd.R_nil _ _ _ _ _⟩, ⟨by omega, hm0b, rfl, (fun _ h => by cases h)⟩, ⟨?_⟩⟩
                    cases rheads m m0 <;> rfl
                  case round =>
                    obtain ⟨k, m1, hs, u, rfl, hi, hkq, hr, hd, hz, ho, hp, hlb, hq⟩ := hrel
                    by_cases c1 : k < m
                    · have d1 : decide ((k : Int) < (m : Int)) = true := decide_eq_true (by omega)
                      have hni : m - k = (m - (k + 1)) + 1 := by omega
                      obtain ⟨hla1, hlb1, hlen, hsz⟩ := hlb.out
                      have hll : hs.length ≤ 4 := by omega
                      have HLEN2 := Aside0.mk (And.intro hlen hsz)
                      have hd0 := HD.out
                      rw [hq.out, hni, rheads] at hd0
                      unfold rhead at hd0
                      simp only [Option.bind_assoc] at hd0
                      have hq0 := hq.out
                      rw [hni, rheads] at hq0
                      unfold rhead at hq0
                      simp only [Option.bind_assoc] at hq0
                      have HDQ := Aside0.mk (And.intro hd0 hq0)
                      obtain ⟨Au, cu, eu⟩ := Kd.R_slice hp.out
                      subst eu
                      have NX := Aside0.mk (And.intro hd.out (And.intro hz.out (And.intro hr.out (And.intro ho.out hp.out))))
                      have hl0c : m1.length ≤ 140737488351232 := by omega
                      clear hd0 hq0 hr hd hz ho hp hq hlb hlen hsz
                      go_wp2_with fail
                      obtain ⟨o1, z1, hr, ho1, hp1⟩ := NX.out
                      have hn := text_calls W _ m1 64 _ hr hlb1 (by omega) (by omega)
                      cases h1 : rtext 64 m1 with
                      | none =>
                        rw [h1] at hn
                        have hd := HDQ.out.1
                        rw [h1] at hd
                        simp only [Option.bind_none] at hd
                        subst hd
                        refine hn.mono ?_
                        rintro e w2 ⟨rfl, hb2, hk2⟩
                        go_wp2_with fail
                        exact HGV.out.1 _ _ _ _ _ _ _ _ _ _ _ _ _ _ _ _ _ _ _ _ _ _ _ _ _ _ _ _ _ _ _ _ _ _ _ _ _ _ _ _ _ _ _ _ _ _ _ _ _ _ _ _ _ _ _ _ _ _ _ _ _ _ _ _ _ _ _ _ _ _ _ _ W _ w2 (o1.but hk2 (by omega)) (z1.but hk2 (by omega)) (by omega) hb2 (by omega) (fun w' h => ⟨rfl, h⟩)
                      | some p =>
                        obtain ⟨s1, m2⟩ := p
                        rw [h1] at hn
                        refine hn.mono ?_
                        rintro e w2 ⟨rfl, hr2, hk2⟩
                        obtain ⟨hs1s, hm2a, hm2b⟩ := rtext_lt hlb1 h1
                        have hdq := HDQ.out
                        rw [h1] at hdq
                        simp only [Option.bind_some] at hdq
                        have HDQ := Aside0.mk hdq
                        have HN := Aside0.mk (And.intro (o1.but hk2 (by omega)) (And.intro (z1.but hk2 (by omega)) (And.intro hr2 (And.intro (Kd.R_keep ho1 hk2 (fun k hk => hk)) (Kd.R_keep hp1 hk2 (fun k hk => hk))))))
                        clear hn o1 z1 hr NX h1 hr2 hk2 hdq ho1 hp1
                        go_wp2_with fail
                        obtain ⟨o2, z2, hr2, ho2, hp2⟩ := HN.out
                        have hgr : W.heap.size + 1 + 1 < w2.heap.size := by obtain ⟨A0, c0, h0, _⟩ := hr2; exact blk_lt h0
                        obtain ⟨gs, hgs⟩ : ∃ gs, gs = w2.heap.size := ⟨_, rfl⟩
                        have hg1 : W.heap.size + 1 + 1 < gs := by omega
                        have s3 : Blk (w2.alloc (.cells #[.string s1, .string ⟨#[]⟩] 152)) gs #[.string s1, .string ⟨#[]⟩] := blk_one w2 _ 152 gs hgs.symm
                        have o3 := o2.alloc (.cells #[.string s1, .string ⟨#[]⟩] 152)
                        have z3 := z2.alloc (.cells #[.string s1, .string ⟨#[]⟩] 152)
                        have hr3 := hr2.more (below_alloc (Below.refl _ _) (.cells #[.string s1, .string ⟨#[]⟩] 152))
                        have ho3 := R_young ho2 (.cells #[.string s1, .string ⟨#[]⟩] 152)
                        have hp3 := R_young hp2 (.cells #[.string s1, .string ⟨#[]⟩] 152)
                        rw [← hgs] at ho3 hp3 ⊢
                        obtain ⟨w3, hw3⟩ : ∃ w3, w3 = w2.alloc (.cells #[.string s1, .string ⟨#[]⟩] 152) := ⟨_, rfl⟩
                        rw [← hw3] at o3 z3 hr3 ho3 hp3 s3 ⊢
                        clear o2 z2 hr2 HN hw3 ho2 hp2 hgs hgr
                        have hn := text_calls W _ m2 400 _ hr3 hm2b (by omega) (by omega)
                        cases h1 : rtext 400 m2 with
                        | none =>
                          rw [h1] at hn
                          have hd := HDQ.out.1
                          rw [h1] at hd
                          simp only [Option.bind_none] at hd
                          subst hd
                          refine hn.mono ?_
                          rintro e w4 ⟨rfl, hb2, hk2⟩
                          go_wp2_with fail
                          exact HGV.out.1 _ _ _ _ _ _ _ _ _ _ _ _ _ _ _ _ _ _ _ _ _ _ _ _ _ _ _ _ _ _ _ _ _ _ _ _ _ _ _ _ _ _ _ _ _ _ _ _ _ _ _ _ _ _ _ _ _ _ _ _ _ _ _ _ _ _ _ _ _ _ _ _ W _ w4 (o3.but hk2 (by omega)) (z3.but hk2 (by omega)) (by omega) hb2 (by omega) (fun w' h => ⟨rfl, h⟩)
                        | some p =>
                          obtain ⟨s2, m3⟩ := p
                          rw [h1] at hn
                          refine hn.mono ?_
                          rintro e w4 ⟨rfl, hr4, hk4⟩
                          obtain ⟨hs2s, hm3a, hm3b⟩ := rtext_lt hm2b h1
                          have hdq := HDQ.out
                          rw [h1] at hdq
                          simp only [Option.bind_some] at hdq
                          have HDQ4 := Aside0.mk hdq.2
                          have q2 := s3.but hk4 (by omega)
                          have hc2 := q2.cell 1
                          have hf2 := q2.frozen 1
                          have o4 := o3.but hk4 (by omega)
                          have z4 := z3.but hk4 (by omega)
                          have ho4 := Kd.R_keep ho3 hk4 (fun k hk => hk.1)
                          have hp4 := Kd.R_keep hp3 hk4 (fun k hk => hk.1)
                          have q3 : Blk _ gs #[.string s1, .string s2] := q2.set_ 1 (.string s2)
                          have o5 := o4.far (g' := gs) (by omega) 1 (.string s2)
                          have z5 := z4.far' (g' := gs) (by omega) 1 (.string s2)
                          have hr5 := hr4.far gs 1 (.string s2) (by omega) (by omega)
                          have ho5 := Kd.R_mono (R_farN ho4 (Nat.le_refl gs) 1 (.string s2)) (fun _ hk => hk.1)
                          have hp5 := Kd.R_mono (R_farN hp4 (Nat.le_refl gs) 1 (.string s2)) (fun _ hk => hk.1)
                          have hgz : gs < (w4.setCell ⟨gs, 1, none⟩ (.string s2)).heap.size := by obtain ⟨t, h⟩ := q3; exact blk_lt h
                          have NX := Aside0.mk (And.intro o5 (And.intro z5 (And.intro hr5 ho5)))
                          have HO3 := Aside0.mk hp5
                          have hne : W.heap.size ≠ gs := by omega
                          have hcd : w4.cell? ⟨W.heap.size, 4, none⟩ = some (.slice Au hs.length cu) := o4.cell 4
                          have hfd : w4.frozen? ⟨W.heap.size, 4, none⟩ = false := o4.frozen 4
                          have g0 : w4.cell? ⟨gs, 0, none⟩ = some (.string s1) := q2.cell 0
                          clear hn o3 z3 hr3 ho3 hp3 s3 h1 hr4 hk4 hdq q2 q3 o4 z4 ho4 hp4 o5 z5 hr5 ho5 hp5 HDQ
                          go_wp2_with (at_builtin; refine Kd.R_append k152 (w0 := (w4.setCell ⟨gs, 1, none⟩ (.string s2))) (W.heap.size + 1 + 1 + 1) rfl (.tmp 57) (.tmp 59) 106 152 (.agg #[.string ⟨#[]⟩, .string ⟨#[]⟩]) 32 rfl Try.underlying106 info152' rfl (by decide) (by decide) (.slice Au hs.length cu) hs ⟨s1, s2⟩ [.string s1, .string s2] (fun k => k ≠ W.heap.size + 1 + 1) (fun _ => False) (by simp [Act.eval, Act.put]) (by simp [Act.eval, Act.put]) (k152_mkM _ _ _ _) (fun _ h => h.elim) (fun k hk => by omega) HO3.out (Below.refl _ _) (by omega) (by omega) ?_; intro v1 w5 ho6 hb6 hg6 hat6; obtain ⟨A4, c4, e4⟩ := Kd.R_slice ho6; subst e4; have hd6 := tgrown_blk NX.out.1 (Kd.R_base HO3.out) hg6 (by omega); have hcd6 : w5.cell? ⟨W.heap.size, 4, none⟩ = some (.slice Au hs.length cu) := hd6.cell 4; have hfd6 : w5.frozen? ⟨W.heap.size, 4, none⟩ = false := hd6.frozen 4; have HA4 := Aside0.mk (And.intro ho6 (And.intro hg6 hd6)); clear ho6 hb6 hg6 hat6 hd6)
                          have q1 : Blk (w5.setCell ⟨W.heap.size, 4, none⟩ (.slice A4 (hs.length + 1) c4)) W.heap.size #[.int .i64 (v0 : Int), .int .i64 (v1 : Int), .bool bb, .slice Av ss.length cv, .slice A4 (hs.length + 1) c4] := HA4.out.2.2.set_ 4 _
                          have q2 : Kd.R k152 152 (w5.setCell ⟨W.heap.size, 4, none⟩ (.slice A4 (hs.length + 1) c4)) (W.heap.size + 1 + 1 + 1) (fun k => k ≠ W.heap.size + 1 + 1) (.slice A4 (hs.length + 1) c4) (hs ++ [⟨s1, s2⟩]) := by have h := R_farB HA4.out.1 (g := W.heap.size) (by omega) 4 (.slice A4 (hs.length + 1) c4); simpa using h
                          have q3 : One (w5.setCell ⟨W.heap.size, 4, none⟩ (.slice A4 (hs.length + 1) c4)) (W.heap.size + 1) (.int .i64 0) := (tgrown_one NX.out.2.1 (Kd.R_base HO3.out) HA4.out.2.1 (by omega)).far' (g' := W.heap.size) (by omega) 4 _
                          have q4 : Rat W (w5.setCell ⟨W.heap.size, 4, none⟩ (.slice A4 (hs.length + 1) c4)) (W.heap.size + 1 + 1) m3 := (tgrown_rat NX.out.2.2.1 (Kd.R_base HO3.out) HA4.out.2.1 (by omega)).far W.heap.size 4 _ (by omega) (Nat.le_refl _)
                          have q5 : Kd.R k154 154 (w5.setCell ⟨W.heap.size, 4, none⟩ (.slice A4 (hs.length + 1) c4)) (W.heap.size + 1 + 1 + 1) (fun k => k ≠ W.heap.size + 1 + 1) (.slice Av ss.length cv) ss := R_farB (Kd.R_over' NX.out.2.2.2 (Kd.R_typed HO3.out) (by decide) HA4.out.2.1) (g := W.heap.size) (by omega) 4 _
                          have hq5 : rheads m m0 = (rheads (m - (k + 1)) m3).bind fun r => some ((hs ++ [⟨s1, s2⟩]) ++ r.1, r.2) := by
                            rw [HDQ4.out]
                            simp only [List.append_assoc, List.singleton_append]
                          have Q1 := Aside0.mk q1
                          have Q2 := Aside0.mk q2
                          have Q3 := Aside0.mk q3
                          have Q4 := Aside0.mk q4
                          have Q5 := Aside0.mk q5
                          have HQ5 := Aside0.mk hq5
                          clear q1 q2 q3 q4 q5 hq5 HDQ4 HA4 HO3 NX hcd6 hfd6 hcd hfd g0 hc2 hf2
                          go_wp2_with fail
                          go_roundg (m + 1 - (k + 1))
                          case measure => have := hkq.out; omega
                          case rel =>
                            refine ⟨k + 1, m3, hs ++ [⟨s1, s2⟩], _, by first | (simp [wrap64, w64]; done) | (simp [wrap64, w64]; omega), ⟨by omega⟩, ⟨rfl⟩, Q4, Q1, Q3, Q5, Q2, ⟨?_⟩, HQ5⟩
                            obtain ⟨j1, j2⟩ := HLEN2.out
                            refine ⟨by omega, hm3b, by rw [List.length_append]; simp; omega, fun d hd => ?_⟩
                            rcases List.mem_append.1 hd with hd | hd
                            · exact j2 d hd
                            · rw [List.mem_singleton] at hd
                              subst hd
                              exact ⟨by show s1.size ≤ 1000000; omega, by show s2.size ≤ 1000000; omega⟩
                    · have hie : k = m := by have := hi.out; omega
                      subst hie
                      have d1 : decide ((k : Int) < (k : Int)) = false := decide_eq_false (by omega)
                      have hq2 := hq.out
                      rw [Nat.sub_self, rheads] at hq2
                      simp only [Option.bind_some, List.append_nil] at hq2
                      have hd0 := HD.out
                      rw [hq2, Option.bind_some] at hd0
                      dsimp only at hd0
                      obtain ⟨hla1, hlb1, hlen, hsz⟩ := hlb.out
                      have HSM := Aside0.mk (show smallT ss hs = true by
                        simp only [smallT, Bool.and_eq_true, decide_eq_true_eq, List.all_eq_true]
                        exact ⟨by have := HLEN.out; omega, by omega, hsz⟩)
                      have HD := Aside0.mk hd0
                      have HSS := Aside0.mk (And.intro hr.out (And.intro hd.out (And.intro hz.out (And.intro ho.out hp.out))))
                      clear hq hq2 hr hd hz ho hp hd0 hlb hlen hsz
                      go_wp2_with fail
                      obtain ⟨hr, hd, hz, ho, hp⟩ := HSS.out
                      have hD2 := HD.out
                      by_cases h5 : m1 = []
                      · subst h5
                        refine (end_yes W _ _ hr).mono ?_
                        rintro e w5 ⟨rfl, rfl⟩
                        obtain ⟨Au, cu, eu⟩ := Kd.R_slice hp
                        subst eu
                        have c0 := hd.cell 0
                        have c1 := hd.cell 1
                        have c2 := hd.cell 2
                        have c3 := hd.cell 3
                        have c4 := hd.cell 4
                        have f0 := hd.frozen 0
                        have f1 := hd.frozen 1
                        have f2 := hd.frozen 2
                        have f3 := hd.frozen 3
                        have f4 := hd.frozen 4
                        have c5 := hz.cell
                        have f5 := hz.frozen
                        have n1 : W.heap.size ≠ W.heap.size + 1 := by omega
                        have HR := Aside0.mk hr.below
                        have HX := Aside0.mk (And.intro hd (And.intro hz (And.intro ho hp)))
                        have HD2 := Aside0.mk hD2
                        clear hd hz ho hp hr HSS hD2
                        go_wp2_with fail
                        obtain ⟨o1, z1, s1, s2⟩ := HX.out
                        have q1 : Blk _ W.heap.size #[.int .i64 (v0 : Int), .int .i64 (v1 : Int), .bool bb, .slice Av ss.length cv, .slice Au hs.length cu] := ((((((o1).set_ 0 (.int .i64 (v0 : Int))).set_ 1 (.int .i64 (v1 : Int))).set_ 2 (.bool bb)).set_ 3 (.slice Av ss.length cv)).set_ 4 (.slice Au hs.length cu)).far (g' := W.heap.size + 1) (by omega) 0 (.int .i64 0)
                        have q2 := ((((((z1).far' (g' := W.heap.size) (by omega) 0 (.int .i64 (v0 : Int))).far' (g' := W.heap.size) (by omega) 1 (.int .i64 (v1 : Int))).far' (g' := W.heap.size) (by omega) 2 (.bool bb)).far' (g' := W.heap.size) (by omega) 3 (.slice Av ss.length cv)).far' (g' := W.heap.size) (by omega) 4 (.slice Au hs.length cu)).set_ (.int .i64 0)
                        have q3 := R_farB (R_farB (R_farB (R_farB (R_farB (R_farB (s1) (g := W.heap.size) (by omega) 0 (.int .i64 (v0 : Int))) (g := W.heap.size) (by omega) 1 (.int .i64 (v1 : Int))) (g := W.heap.size) (by omega) 2 (.bool bb)) (g := W.heap.size) (by omega) 3 (.slice Av ss.length cv)) (g := W.heap.size) (by omega) 4 (.slice Au hs.length cu)) (g := W.heap.size + 1) (by omega) 0 (.int .i64 0)
                        have q4 := R_farB (R_farB (R_farB (R_farB (R_farB (R_farB (s2) (g := W.heap.size) (by omega) 0 (.int .i64 (v0 : Int))) (g := W.heap.size) (by omega) 1 (.int .i64 (v1 : Int))) (g := W.heap.size) (by omega) 2 (.bool bb)) (g := W.heap.size) (by omega) 3 (.slice Av ss.length cv)) (g := W.heap.size) (by omega) 4 (.slice Au hs.length cu)) (g := W.heap.size + 1) (by omega) 0 (.int .i64 0)
                        have HR2 := below_set (below_set (below_set (below_set (below_set (below_set (HR.out) (g := W.heap.size) (j := 0) (by omega) (v := .int .i64 (v0 : Int))) (g := W.heap.size) (j := 1) (by omega) (v := .int .i64 (v1 : Int))) (g := W.heap.size) (j := 2) (by omega) (v := .bool bb)) (g := W.heap.size) (j := 3) (by omega) (v := .slice Av ss.length cv)) (g := W.heap.size) (j := 4) (by omega) (v := .slice Au hs.length cu)) (g := W.heap.size + 1) (j := 0) (by omega) (v := .int .i64 0)
                        have hrd := Kd.R_reads' q3
                        have hrh := Kd.R_reads' q4
                        refine HGV.out.2 _ _ _ _ _ _ _ _ _ _ _ _ _ _ _ _ _ _ _ _ _ _ _ _ _ _ _ _ _ _ _ _ _ _ _ _ _ _ _ _ _ _ _ _ _ _ _ _ _ _ _ _ _ _ _ _ _ _ _ _ _ _ _ _ _ _ _ _ _ _ _ _ W _ _ Av cv ss Au cu hs rfl rfl hrd.2.2 hrd.2.1 hrh.2.2 hrh.2.1 HSM.out q1 q2 (by omega) HR2 (by omega) (fun hm w' h => ?_) (fun hm w' h => ?_)
                        · rw [← HD2.out, if_pos ⟨by trivial, hm⟩]
                          exact ⟨_, _, by rw [HBB.out], Kd.R_mono (Kd.R_lower (Kd.R_below q3 h) (by omega)) (fun _ _ => trivial), Kd.R_mono (Kd.R_lower (Kd.R_below q4 h) (by omega)) (fun _ _ => trivial), below_step HR2 h⟩
                        · rw [← HD2.out, if_neg (fun h => by rw [hm] at h; exact absurd h.2 (by decide))]
                          exact ⟨rfl, h⟩
                      · refine (end_no W _ m1 _ hr h5).mono ?_
                        rintro e w5 ⟨rfl, rfl⟩
                        simp only [h5, false_and, if_false] at hD2
                        subst hD2
                        go_wp2_with fail
                        exact HGV.out.1 _ _ _ _ _ _ _ _ _ _ _ _ _ _ _ _ _ _ _ _ _ _ _ _ _ _ _ _ _ _ _ _ _ _ _ _ _ _ _ _ _ _ _ _ _ _ _ _ _ _ _ _ _ _ _ _ _ _ _ _ _ _ _ _ _ _ _ _ _ _ _ _ W _ _ hd hz (by omega) hr.below (by omega) (fun w' h => ⟨rfl, h⟩)
def tell_Decode.f (l : List Int) : Option (Int × Int × Bool × List S154 × List S152 × Int) :=
  if Bytes l ∧ l.length ≤ 140737488351232 then
    match rtell l with
    | some (a, c, b, ss, hs) => some ((a : Int), (c : Int), b, ss, hs, 0)
    | none => some (0, 0, false, [], [], 2)
  else none
theorem tell_Decode.calls (A0 : Option Addr) (c0 : Nat) (l0 : List Int) (r1 r2 : Int) (r3 : Bool) (r4 : List S154) (r5 : List S152) (r6 : Int) (w : World) (hr0 : Kd.C (Kd.int .u8) w A0 l0.length l0) (hc0 : l0.length ≤ c0) (h : tell_Decode.f l0 = some (r1, r2, r3, r4, r5, r6)) :
    Calls Try.prog 93 #[.slice A0 l0.length c0] w fun e w' => ∃ v0_ v1_ : Value, e = .returned (.tuple #[.agg #[.int .i64 r1, .int .i64 r2, .bool r3, v0_, v1_], .int .i64 r6]) ∧ Kd.R k154 154 w' w.heap.size (fun _ => True) v0_ r4 ∧ Kd.R k152 152 w' w.heap.size (fun _ => True) v1_ r5 ∧ Below w.heap.size w w' := by
  unfold tell_Decode.f at h
  split at h
  · rename_i hc
    obtain ⟨h1, h2⟩ := hc
    refine (decodeTell_calls w A0 c0 l0 hr0 hc0 h1 h2).mono ?_
    rintro e w' hs
    split at h
    · rename_i heq
      simp only [Option.some.injEq, Prod.mk.injEq] at h
      obtain ⟨rfl, rfl, rfl, rfl, rfl, rfl⟩ := h
      rw [heq] at hs
      exact hs
    · rename_i heq
      simp only [Option.some.injEq, Prod.mk.injEq] at h
      obtain ⟨rfl, rfl, rfl, rfl, rfl, rfl⟩ := h
      rw [heq] at hs
      exact ⟨_, _, hs.1, Kd.R_nil _ _ _ _ _, Kd.R_nil _ _ _ _ _, hs.2⟩
  · cases h
end Go.Proofs.Ytnhblhhkjnmkkaa.Q
