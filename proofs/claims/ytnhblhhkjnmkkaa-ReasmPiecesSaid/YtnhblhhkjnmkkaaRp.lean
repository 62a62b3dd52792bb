/- The walk of ReasmPieces: however bytes are cut in pieces, the same payloads come, and the same error. -/
import Derived.Test.YtnhblhhkjnmkkaaRw
namespace Go.Proofs.Ytnhblhhkjnmkkaa.Q
open Go.RowKit Go.Proofs.YtnhblhhkjnmkkaaW.PrintWords Go.Proofs.YtnhblhhkjnmkkaaW.PrintLast Go.Proofs.YtnhblhhkjnmkkaaW.PrintMore
open Go.Proofs.Ytnhblhhkjnmkkaa.Sp Go.Proofs.Ytnhblhhkjnmkkaa.Va Go.Proofs.Ytnhblhhkjnmkkaa.Fr
set_option linter.unusedVariables false
set_option linter.unusedSimpArgs false
def rr (m : Nat) (c : List Int) : List (List Int) × Nat × Int := allv m c.length c
/-- What waits, whether it is off, and the error told, behind so many bytes. -/
def stW (m : Nat) (c : List Int) : List Int := if badE (rr m c).2.2 then [] else c.drop (rr m c).2.1
def stO (m : Nat) (c : List Int) : Bool := badE (rr m c).2.2
def stE (m : Nat) (c : List Int) : Int := if badE (rr m c).2.2 then (rr m c).2.2 else 0
theorem st_step (m : Nat) (c p : List Int) (hc : Bytes c) (hp : Bytes p) :
    (rr m c).1 ++ (feedv m (stW m c) (stO m c) p).1 = (rr m (c ++ p)).1 ∧ (if stE m c = 0 then (feedv m (stW m c) (stO m c) p).2.1 else stE m c) = stE m (c ++ p) ∧ (feedv m (stW m c) (stO m c) p).2.2.1 = stW m (c ++ p) ∧ (feedv m (stW m c) (stO m c) p).2.2.2 = stO m (c ++ p) := by
  have happ := allv_app m c.length (c ++ p).length c p hc hp (Nat.le_refl _) (Nat.le_refl _)
  have hn := (allv_len m c.length c hc).2
  have hE := allv_err m c.length c hc
  obtain ⟨r, hr⟩ : ∃ r, r = allv m c.length c := ⟨_, rfl⟩
  rw [← hr] at happ hn hE
  rcases badE_cases hE with ⟨hb, he⟩ | ⟨hb, he⟩
  · rw [if_pos hb] at happ
    have e1 : rr m c = r := hr.symm
    have e2 : rr m (c ++ p) = r := happ
    unfold stW stO stE feedv
    rw [e1, e2]
    simp only [hb, if_true, List.append_nil]
    refine ⟨trivial, ?_, trivial, trivial⟩
    rw [if_neg (by omega)]
  · rw [if_neg (by rw [hb]; decide)] at happ
    have e1 : rr m c = r := hr.symm
    have hq : allv m (c.drop r.2.1 ++ p).length (c.drop r.2.1 ++ p) = allv m (c ++ p).length (c.drop r.2.1 ++ p) := allv_rounds m _ _ _ (Bytes.append (hc.drop _) hp) (Nat.le_refl _) (by simp only [List.length_append, List.length_drop]; omega)
    obtain ⟨s, hs⟩ : ∃ s, s = allv m (c.drop r.2.1 ++ p).length (c.drop r.2.1 ++ p) := ⟨_, rfl⟩
    rw [← hq, ← hs] at happ
    have e2 : rr m (c ++ p) = (r.1 ++ s.1, r.2.1 + s.2.1, s.2.2) := happ
    have hdd : (c.drop r.2.1 ++ p).drop s.2.1 = (c ++ p).drop (r.2.1 + s.2.1) := by
      rw [← List.drop_drop, List.drop_append_of_le_length hn]
    unfold stW stO stE feedv
    rw [e1, e2]
    simp only [hb, Bool.false_eq_true, if_false, if_true, ← hs]
    cases hb2 : badE s.2.2 with
    | true => simp
    | false => simp [hdd]
theorem at_int {w : World} {A : Option Addr} {n : Nat} {xs : List Int} (h : Kd.C (Kd.int .i64) w A n xs) (j : Nat) (hj : j < n) : ∃ ad, A = some ad ∧ w.cell? (ad.add j) = some (.int .i64 (xs.getD j 0)) := by
  obtain ⟨ad, e, hc⟩ := h.2.2 (by omega)
  have hl : j < xs.length := by have := h.1; omega
  obtain ⟨cs, _, hk, hcell⟩ := hc j xs[j] (List.getElem?_eq_getElem hl)
  have hk2 : cs = [.int .i64 xs[j]] := hk
  subst hk2
  refine ⟨ad, e, ?_⟩
  have h3 := hcell 0 _ rfl
  rw [List.getD_eq_getElem?_getD, List.getElem?_eq_getElem hl]
  simpa [Kd.int, Kd.scalar] using h3
/-- A row's elements, read with all that is known of them. -/
theorem R_rows {α : Type} {d : Kd α} {e : Nat} {W : World} {base : Nat} {ok : Nat → Prop} {A : Option Addr} {n c : Nat} {xs : List α} (h : Kd.R d e W base ok (.slice A n c) xs) : ReadsRow (fun x cs => d.M W base ok x cs) d.sz W A n xs := by
  obtain ⟨hn, hnc, hC⟩ := Kd.R_reads' h
  refine ⟨hn.symm, by have := hC.2.1; omega, fun hp => ?_⟩
  obtain ⟨ad, eA, _⟩ := hC.2.2 (by omega)
  subst eA
  refine ⟨ad, rfl, fun j p hj => ?_⟩
  have hl := (List.getElem?_eq_some_iff.1 hj).1
  obtain ⟨cs, h1, h2, h3⟩ := Kd.R_getA h p (j : Int) (by omega) (by omega)
  refine ⟨cs, h1, ?_, fun i u hu => by have := h3 i u hu; simpa using this⟩
  rw [Int.toNat_natCast, List.getD_eq_getElem?_getD, hj] at h2
  exact d.M_mono (fun k hk => hk.1) h2
theorem wpList_min_run {P : Program} (w : World) {ops : Array Oper} {rest : List Oper} {o : Oper} {a : Act} {Q : Exit → Act → World → Prop} (hg : o.guard = none) (s x : Operand) (t : TypeId)
    (hop : o.op = Op.call { callee := Callee.builtin Builtin.min, args := #[s, x], argTypes := #[t, t] }) (p q r : Int) (h1 : a.eval s = .int .i64 p) (h2 : a.eval x = .int .i64 q) (hr : mn p q = r) (hK : wpList P ops Q rest (a.put o.dst (.int .i64 r)) w) : wpList P ops Q (o :: rest) a w := by
  subst hr
  refine wpList_plain hg fun K hK' => ?_
  unfold Oper.wp
  simp [execOp, hop, resolve, invoke, builtin, h1, h2, min_two, min2_int, Result.andThen]
  exact hK' _ _ hK
theorem wpList_max_run {P : Program} (w : World) {ops : Array Oper} {rest : List Oper} {o : Oper} {a : Act} {Q : Exit → Act → World → Prop} (hg : o.guard = none) (s x : Operand) (t : TypeId)
    (hop : o.op = Op.call { callee := Callee.builtin Builtin.max, args := #[s, x], argTypes := #[t, t] }) (p q r : Int) (h1 : a.eval s = .int .i64 p) (h2 : a.eval x = .int .i64 q) (hr : mx p q = r) (hK : wpList P ops Q rest (a.put o.dst (.int .i64 r)) w) : wpList P ops Q (o :: rest) a w := by
  subst hr
  refine wpList_plain hg fun K hK' => ?_
  unfold Oper.wp
  simp [execOp, hop, resolve, invoke, builtin, h1, h2, max_two, max2_int, Result.andThen]
  exact hK' _ _ hK
theorem info22' : (Try.prog.info? 22).map (fun i => (i.zero, i.size, i.bytes)) = some (some (.slice none 0 0), 1, 24) := by kernel_rfl
/-- A piece of bytes, as it is read. -/
theorem piece {W : World} {A : Option Addr} {c : Nat} {b : List Int} (h : Kd.C (Kd.int .u8) W A b.length b) (hc : b.length ≤ c) (p n : Nat) (hp : p + n ≤ b.length) (hlt : p < b.length) :
    Kd.C (Kd.int .u8) W (Option.map (fun x => x.add p) A) n ((b.drop p).take n) := by
  have h1 := Kd.C_drop (m := p) h (by omega) hc
  rw [if_neg (by omega)] at h1
  have h2 := Kd.C_take (m := n) h1 (by rw [List.length_drop]; omega)
  have e : ((b.drop p).take n).length = n := by rw [List.length_take, List.length_drop]; omega
  rw [e] at h2
  simpa [Kd.int, Kd.scalar] using h2
set_option maxHeartbeats 8000000 in
set_option maxRecDepth 100000 in
theorem fed_calls (b : List Int) (most : Int) (cuts : List Int) (A : Option Addr) (c : Nat) (B : Option Addr) (d : Nat) (w : World) (hA : Kd.C (Kd.int .u8) w A b.length b) (hc : b.length ≤ c) (hbb : Bytes b) (hl : b.length ≤ 3000) (hB : Kd.C (Kd.int .i64) w B cuts.length cuts) (hd : cuts.length ≤ d) (hcl : cuts.length ≤ 1000000) :
    Calls Try.prog 49 #[.slice A b.length c, .int .i64 most, .slice B cuts.length d] w fun e w' => ∃ A' c', e = .returned (.tuple #[.slice A' (rr (lim most) b).1.length c', .int .i64 (stE (lim most) b), .bool true]) ∧ Kd.C (Kd.slice 5 (Kd.int .u8)) w' A' (rr (lim most) b).1.length (rr (lim most) b).1 ∧ (rr (lim most) b).1.length ≤ c' ∧ Below w.heap.size w w' := by
  have HA := Aside0.mk hA
  have HB := Aside0.mk hB
  have HBB := Aside0.mk hbb
  obtain ⟨m, hm⟩ : ∃ m, m = lim most := ⟨_, rfl⟩
  rw [← hm]
  have HM := Aside0.mk hm
  clear hA hB hbb hm
  go_enter Try.func49, Try.ntmps49
  go_wp2_with fail
  refine (new_calls most _).mono ?_
  rintro e w2 ⟨rfl, rfl⟩
  have HR0 := Aside0.mk (rdr_new w w (Below.refl _ _) most 118)
  have e00 : stE m (b.take 0) = 0 := by simp [stE, rr, allv, badE]
  have w00 : stW m (b.take 0) = [] := by simp [stW, rr, allv, badE]
  have o00 : stO m (b.take 0) = false := by simp [stO, rr, allv, badE]
  have r00 : (rr m (b.take 0)).1 = [] := by simp [rr, allv]
  have H00 := Aside0.mk (And.intro e00 (And.intro w00 (And.intro o00 r00)))
  clear e00 w00 o00 r00
  go_wp2_with fail
  go_loopg [10, 11, 12, 13] (cuts.length + 3) (fun kq v10 v11 v12 v13 w' => ∃ (p i : Nat) (v : Value) (Ao : Option Addr) (co : Nat) (R : List (List Int)) (E : Int), v10 = .slice Ao R.length co ∧ v11 = .int .i64 E ∧ v12 = .int .i64 (p : Int) ∧ v13 = .int .i64 (i : Int) ∧ Aside0 (E = stE m (b.take p) ∧ R = (rr m (b.take p)).1) ∧ Aside0 (p ≤ b.length ∧ (p = b.length ∨ i ≤ cuts.length) ∧ i ≤ cuts.length + 1) ∧ Aside0 (kq = cuts.length + 3 - i) ∧ Aside0 (Rdr w w' w.heap.size 118 most (stW m (b.take p)) (stO m (b.take p)) v) ∧ Aside0 (Kd.R (Kd.slice 5 (Kd.int .u8)) 22 w' w.heap.size (fun k => some k ≠ v.ownBlock) (.slice Ao R.length co) R))
  case atStart =>
    refine ⟨0, 0, .slice none 0 0, none, 0, [], 0, rfl, rfl, rfl, rfl, ⟨H00.out.1.symm, H00.out.2.2.2.symm⟩, ⟨by omega, Or.inr (by omega), by omega⟩, ⟨rfl⟩, ⟨?_⟩, ⟨?_⟩⟩
    · rw [H00.out.2.1, H00.out.2.2.1]; exact HR0.out
    · exact Kd.R_nil _ _ _ _ _
  case round =>
    obtain ⟨p, i, v, Ao, co, R, E, rfl, rfl, rfl, rfl, hE, hp, hkq, hr, ho⟩ := hrel
    by_cases c1 : p < b.length
    · have d1 : decide ((p : Int) < (b.length : Int)) = true := decide_eq_true (by omega)
      obtain ⟨hp1, hp2, hp3⟩ := hp.out
      have hic : i ≤ cuts.length := by omega
      obtain ⟨x, hxd⟩ : ∃ x, x = cuts.getD i 0 := ⟨_, rfl⟩
      obtain ⟨n, hn, hcase⟩ : ∃ n : Nat, p + n ≤ b.length ∧ ((i < cuts.length ∧ ((b.length : Int) - (p : Int) < x → (n : Int) = (b.length : Int) - (p : Int)) ∧ (¬ (b.length : Int) - (p : Int) < x → x < 0 → (n : Int) = 0) ∧ (¬ (b.length : Int) - (p : Int) < x → ¬ x < 0 → (n : Int) = x)) ∨ (i = cuts.length ∧ p + n = b.length)) := by
        by_cases hi : i < cuts.length
        · by_cases x1 : (b.length : Int) - (p : Int) < x
          · exact ⟨b.length - p, by omega, Or.inl ⟨hi, by omega, by omega, by omega⟩⟩
          · by_cases x2 : x < 0
            · exact ⟨0, by omega, Or.inl ⟨hi, by omega, by omega, by omega⟩⟩
            · exact ⟨x.toNat, by omega, Or.inl ⟨hi, by omega, by omega, by omega⟩⟩
        · exact ⟨b.length - p, by omega, Or.inr ⟨by omega, by omega⟩⟩
      have hCq := piece (Kd.C_below HA.out hr.out.2.2.1) hc p n hn c1
      have hnc : n ≤ c - p := by omega
      obtain ⟨q, hq⟩ : ∃ q, q = (b.drop p).take n := ⟨_, rfl⟩
      have hql : q.length = n := by rw [hq, List.length_take, List.length_drop]; omega
      have hqb : Bytes q := by rw [hq]; exact (HBB.out.drop p).take n
      have hcat : b.take p ++ q = b.take (p + n) := by rw [hq, List.take_add]
      have hwb : Bytes (stW m (b.take p)) ∧ (stW m (b.take p)).length ≤ p := by
        unfold stW
        split
        · exact ⟨Bytes.nil, by simp⟩
        · exact ⟨(HBB.out.take p).drop _, by simp only [List.length_drop, List.length_take]; omega⟩
      have hst := st_step m (b.take p) q (HBB.out.take p) hqb
      rw [hcat] at hst
      rw [← hq] at hCq
      have hfeed := feed_calls w wr _ most (stW m (b.take p)) (stO m (b.take p)) v hr.out hwb.1 (Option.map (fun x => x.add p) A) (c - p) q (by rw [hql]; exact hCq) (by omega) hqb (by omega)
      rw [hql, ← HM.out] at hfeed
      have HFD := Aside0.mk hfeed
      have HST := Aside0.mk hst
      have HRO := Aside0.mk (And.intro hr.out ho.out)
      have HEP := Aside0.mk (And.intro hE.out hkq.out)
      clear hfeed hst hcat hwb hqb hql hq hCq hr ho hE hkq hp
      have hfit : ∀ a : Nat, a = n → (#[.pointer (some ⟨w.heap.size, 0, none⟩), .slice (Option.map (fun x => x.add p) A) a (c - p)] : Array Value) = #[.pointer (some ⟨w.heap.size, 0, none⟩), .slice (Option.map (fun x => x.add p) A) n (c - p)] := by rintro a rfl; rfl
      have HFIT := Aside0.mk hfit
      have HCASE := Aside0.mk hcase
      clear hfit
      rcases hcase with ⟨hi, hmx⟩ | ⟨hi, hpn⟩
      · have d2 : decide ((i : Int) < (cuts.length : Int)) = true := decide_eq_true (by omega)
        obtain ⟨ad, eB, hx⟩ := at_int HB.out i hi
        subst eB
        rw [← hxd] at hx
        have hx1 := (HRO.out.1.2.2.1.cell (World.block_lt_of_cell? w _ hx)).trans hx
        have e0 : 0 ≤ (i : Int) := by omega
        have e4 : (i : Int) < (cuts.length : Int) := by omega
        clear hx hmx hp2 hxd
        go_wp2_with fail
        all_goals first | (exfalso; omega) | skip
        all_goals
          refine calls_of_args (HFIT.out _ (by have := HCASE.out; omega)) (HFD.out.mono ?_)
          rintro e w4 ⟨vl, v', rfl, hs4, hr4, hk4, hown4⟩
          obtain ⟨D, hD⟩ : ∃ D, D = feedv m (stW m (b.take p)) (stO m (b.take p)) q := ⟨_, rfl⟩
          rw [← hD] at hs4 hr4 ⊢
          have hst := HST.out
          rw [← hD] at hst
          obtain ⟨hr, ho⟩ := HRO.out
          obtain ⟨Al, cl, el⟩ := Kd.S_slice hs4
          subst el
          have hlw : w.heap.size ≤ wr.heap.size := hr.2.2.1.size
          have hvl := Kd.R_lt hr4.2.1
          have hol := Kd.R_lt ho
          have ho4 : Kd.R (Kd.slice 5 (Kd.int .u8)) 22 w4 w.heap.size (fun k => some k ≠ v'.ownBlock) (.slice Ao R.length co) R :=
            Kd.R_mono (Kd.R_step (Kd.R_types (Kd.R_bound ho) hr.1 (by decide)) (fun k hk hlt => hk4.2 k hlt hk.2 hk.1.1)) (fun k hk e => by
              rcases hown4 k e.symm with h | h
              · exact hk.1.1 h.symm
              · have := hk.1.2.2.1; omega)
          have hx4 : Kd.R (Kd.slice 5 (Kd.int .u8)) 22 w4 w.heap.size (fun k => some k ≠ v'.ownBlock ∧ wr.heap.size ≤ k) (.slice Al D.1.length cl) D.1 := Kd.S_R (Kd.S_lower (Kd.S_mono (Kd.S_bound hs4) (fun k hk => ⟨hk.1, hk.2.1⟩)) hlw)
          have hlen : R.length + D.1.length ≤ 3000 := by
            have h1 := congrArg List.length hst.1
            rw [← HEP.out.1.2] at h1
            have h2 := (allv_len m (b.take (p + n)).length (b.take (p + n)) (HBB.out.take _)).1
            rw [List.length_append] at h1
            have h3 : (rr m (b.take (p + n))).1.length ≤ (b.take (p + n)).length := h2
            rw [List.length_take] at h3
            omega
          have HX4 := Aside0.mk (And.intro hx4 (And.intro ho4 (And.intro hr4 (And.intro hvl hol))))
          have HLN := Aside0.mk hlen
          have HST2 := Aside0.mk hst
          clear hs4 hk4 hown4 hlw hD hst hr ho hvl hol ho4 hx4 hlen hr4 HST HFD
          go_wp2_with (at_builtin; refine Kd.R_append_rows (Kd.slice 5 (Kd.int .u8)) (w0 := w) w.heap.size rfl (.tmp 53) (.tmp 54) 35 22 (.slice none 0 0) 24 rfl Try.underlying35 info22' rfl (by decide) (by decide) (.slice Ao R.length co) R D.1 Al D.1.length cl (fun k => some k ≠ v'.ownBlock) (fun k => some k ≠ v'.ownBlock ∧ wr.heap.size ≤ k) rfl rfl HX4.out.2.1 (R_rows HX4.out.1) (fun _ _ h => h) (fun k hk => ⟨hk.1, fun e => by have := HX4.out.2.2.2.2 k e.symm; omega⟩) (fun k hk e => by have := HX4.out.2.2.2.1 k e.symm; omega) HX4.out.2.2.1.2.2.1 HX4.out.2.2.1.2.2.1.size (by have := HLN.out; omega) ?_; intro o' w5 ho5 hb5 hg5 hat5; have HX5 := Aside0.mk (And.intro ho5 (And.intro hb5 hg5)); obtain ⟨Ao2, co2, eo⟩ := Kd.R_slice ho5; subst eo; clear ho5 hb5 hg5 hat5)
          all_goals first | (exfalso; omega) | skip
          all_goals
            go_roundg (cuts.length + 3 - (i + 1))
            case measure => have := HEP.out.2; omega
            case rel =>
              obtain ⟨ho5, hb5, hg5⟩ := HX5.out
              obtain ⟨hx4, ho4, hr4, hvl, hol⟩ := HX4.out
              have hst := HST2.out
              have hE := HEP.out.1
              have hr5 : Rdr w w5 w.heap.size 118 most (stW m (b.take (p + n))) (stO m (b.take (p + n))) v' := by
                rw [← hst.2.2.1, ← hst.2.2.2]
                exact ⟨blk_grown hr4.1 hg5 (Kd.R_ne ho4 hr4.1 (by decide)), Kd.R_over' hr4.2.1 (Kd.R_typed ho4) (by decide) hg5, hb5, hr4.2.2.2⟩
              refine ⟨p + n, i + 1, v', Ao2, co2, R ++ D.1, _, by simp, rfl, ?_, by first | (simp [wrap64, w64]; done) | (simp [wrap64, w64]; omega), ⟨?_, by rw [hE.2]; exact hst.1⟩, ⟨by have := HCASE.out; omega, by have := HCASE.out; omega, by have := HCASE.out; omega⟩, ⟨rfl⟩, ⟨hr5⟩, ⟨by simpa using ho5⟩⟩
              · have hcs := HCASE.out
                refine congrArg (Value.int .i64) ?_
                first
                  | (rw [w64 (by omega) (by omega)]; omega)
                  | omega
                  | (simp [wrap64]; omega)
              · rw [← hst.2.1, ← hE.1]
                split
                · first | rfl | (exfalso; simp_all; done) | (simp_all; done)
                · first | rfl | (exfalso; simp_all; done) | (simp_all; done)
      · have d2 : decide ((i : Int) < (cuts.length : Int)) = false := decide_eq_false (by omega)
        clear hxd
        go_wp2_with fail
        refine calls_of_args (HFIT.out _ (by have := HCASE.out; omega)) (HFD.out.mono ?_)
        rintro e w4 ⟨vl, v', rfl, hs4, hr4, hk4, hown4⟩
        obtain ⟨D, hD⟩ : ∃ D, D = feedv m (stW m (b.take p)) (stO m (b.take p)) q := ⟨_, rfl⟩
        rw [← hD] at hs4 hr4 ⊢
        have hst := HST.out
        rw [← hD] at hst
        obtain ⟨hr, ho⟩ := HRO.out
        obtain ⟨Al, cl, el⟩ := Kd.S_slice hs4
        subst el
        have hlw : w.heap.size ≤ wr.heap.size := hr.2.2.1.size
        have hvl := Kd.R_lt hr4.2.1
        have hol := Kd.R_lt ho
        have ho4 : Kd.R (Kd.slice 5 (Kd.int .u8)) 22 w4 w.heap.size (fun k => some k ≠ v'.ownBlock) (.slice Ao R.length co) R :=
          Kd.R_mono (Kd.R_step (Kd.R_types (Kd.R_bound ho) hr.1 (by decide)) (fun k hk hlt => hk4.2 k hlt hk.2 hk.1.1)) (fun k hk e => by
            rcases hown4 k e.symm with h | h
            · exact hk.1.1 h.symm
            · have := hk.1.2.2.1; omega)
        have hx4 : Kd.R (Kd.slice 5 (Kd.int .u8)) 22 w4 w.heap.size (fun k => some k ≠ v'.ownBlock ∧ wr.heap.size ≤ k) (.slice Al D.1.length cl) D.1 := Kd.S_R (Kd.S_lower (Kd.S_mono (Kd.S_bound hs4) (fun k hk => ⟨hk.1, hk.2.1⟩)) hlw)
        have hlen : R.length + D.1.length ≤ 3000 := by
          have h1 := congrArg List.length hst.1
          rw [← HEP.out.1.2] at h1
          have h2 := (allv_len m (b.take (p + n)).length (b.take (p + n)) (HBB.out.take _)).1
          rw [List.length_append] at h1
          have h3 : (rr m (b.take (p + n))).1.length ≤ (b.take (p + n)).length := h2
          rw [List.length_take] at h3
          omega
        have HX4 := Aside0.mk (And.intro hx4 (And.intro ho4 (And.intro hr4 (And.intro hvl hol))))
        have HLN := Aside0.mk hlen
        have HST2 := Aside0.mk hst
        clear hs4 hk4 hown4 hlw hD hst hr ho hvl hol ho4 hx4 hlen hr4 HST HFD
        go_wp2_with (at_builtin; refine Kd.R_append_rows (Kd.slice 5 (Kd.int .u8)) (w0 := w) w.heap.size rfl (.tmp 53) (.tmp 54) 35 22 (.slice none 0 0) 24 rfl Try.underlying35 info22' rfl (by decide) (by decide) (.slice Ao R.length co) R D.1 Al D.1.length cl (fun k => some k ≠ v'.ownBlock) (fun k => some k ≠ v'.ownBlock ∧ wr.heap.size ≤ k) rfl rfl HX4.out.2.1 (R_rows HX4.out.1) (fun _ _ h => h) (fun k hk => ⟨hk.1, fun e => by have := HX4.out.2.2.2.2 k e.symm; omega⟩) (fun k hk e => by have := HX4.out.2.2.2.1 k e.symm; omega) HX4.out.2.2.1.2.2.1 HX4.out.2.2.1.2.2.1.size (by have := HLN.out; omega) ?_; intro o' w5 ho5 hb5 hg5 hat5; have HX5 := Aside0.mk (And.intro ho5 (And.intro hb5 hg5)); obtain ⟨Ao2, co2, eo⟩ := Kd.R_slice ho5; subst eo; clear ho5 hb5 hg5 hat5)
        all_goals first | (exfalso; omega) | skip
        all_goals
          go_roundg (cuts.length + 3 - (i + 1))
          case measure => have := HEP.out.2; omega
          case rel =>
            obtain ⟨ho5, hb5, hg5⟩ := HX5.out
            obtain ⟨hx4, ho4, hr4, hvl, hol⟩ := HX4.out
            have hst := HST2.out
            have hE := HEP.out.1
            have hr5 : Rdr w w5 w.heap.size 118 most (stW m (b.take (p + n))) (stO m (b.take (p + n))) v' := by
              rw [← hst.2.2.1, ← hst.2.2.2]
              exact ⟨blk_grown hr4.1 hg5 (Kd.R_ne ho4 hr4.1 (by decide)), Kd.R_over' hr4.2.1 (Kd.R_typed ho4) (by decide) hg5, hb5, hr4.2.2.2⟩
            refine ⟨p + n, i + 1, v', Ao2, co2, R ++ D.1, _, by simp, rfl, ?_, by first | (simp [wrap64, w64]; done) | (simp [wrap64, w64]; omega), ⟨?_, by rw [hE.2]; exact hst.1⟩, ⟨by have := HCASE.out; omega, by have := HCASE.out; omega, by have := HCASE.out; omega⟩, ⟨rfl⟩, ⟨hr5⟩, ⟨by simpa using ho5⟩⟩
            · have hcs := HCASE.out
              refine congrArg (Value.int .i64) ?_
              first
                | (rw [w64 (by omega) (by omega)]; omega)
                | omega
                | (simp [wrap64]; omega)
            · rw [← hst.2.1, ← hE.1]
              split
              · first | rfl | (exfalso; simp_all; done) | (simp_all; done)
              · first | rfl | (exfalso; simp_all; done) | (simp_all; done)
    · have hpe : p = b.length := by have := hp.out; omega
      subst hpe
      have d1 : decide ((b.length : Int) < (b.length : Int)) = false := decide_eq_false (by omega)
      have hrd := Kd.R_reads' ho.out
      have hEE := hE.out
      rw [List.take_length] at hEE
      have HZ := Aside0.mk (And.intro hrd (And.intro hr.out.2.2.1 hEE))
      clear hrd hr ho hE hEE hp
      go_wp2_with fail
      go_ret3
      obtain ⟨⟨h1, h2, h3⟩, h4, h5, h6⟩ := HZ.out
      refine ⟨Ao, co, by rw [← h5, ← h6]; rfl, ?_, ?_, h4⟩
      · rw [← h6]; exact h3
      · rw [← h6]; exact h2
set_option maxHeartbeats 4000000 in
set_option maxRecDepth 100000 in
theorem rp_awake (A : Option Addr) (c : Nat) (b : List Int) (most : Int) (B : Option Addr) (d : Nat) (l : List Int) (C : Option Addr) (f : Nat) (l' : List Int) (w : World) (h : 3000 < b.length ∨ 300 < l.length ∨ 300 < l'.length) (hb : b.length ≤ 9223372036854775807) (hl : l.length ≤ 9223372036854775807) (hl' : l'.length ≤ 9223372036854775807) :
    Calls Try.prog 12 #[.slice A b.length c, .int .i64 most, .slice B l.length d, .slice C l'.length f] w fun e w' => e = .returned (.bool true) ∧ Below w.heap.size w w' := by
  have HA := Aside0.mk (a4_awake w)
  by_cases c1 : 3000 < b.length
  · have d1 : decide ((3000 : Int) < (b.length : Int)) = true := decide_eq_true (by omega)
    clear h c1
    go_enter Try.func12, Try.ntmps12
    go_wp2_with fail
    refine HA.out.mono ?_
    rintro e w2 ⟨rfl, hb2⟩
    have HB2 := Aside0.mk hb2
    clear hb2
    go_wp2_with fail
    go_ret
    exact ⟨rfl, HB2.out⟩
  · have d1 : decide ((3000 : Int) < (b.length : Int)) = false := decide_eq_false (by omega)
    by_cases c2 : 300 < l.length
    · have d2 : decide ((300 : Int) < (l.length : Int)) = true := decide_eq_true (by omega)
      clear h c1 c2
      go_enter Try.func12, Try.ntmps12
      go_wp2_with fail
      refine HA.out.mono ?_
      rintro e w2 ⟨rfl, hb2⟩
      have HB2 := Aside0.mk hb2
      clear hb2
      go_wp2_with fail
      go_ret
      exact ⟨rfl, HB2.out⟩
    · have d2 : decide ((300 : Int) < (l.length : Int)) = false := decide_eq_false (by omega)
      have d3 : decide ((300 : Int) < (l'.length : Int)) = true := decide_eq_true (by omega)
      clear h c1 c2
      go_enter Try.func12, Try.ntmps12
      go_wp2_with fail
      refine HA.out.mono ?_
      rintro e w2 ⟨rfl, hb2⟩
      have HB2 := Aside0.mk hb2
      clear hb2
      go_wp2_with fail
      go_ret
      exact ⟨rfl, HB2.out⟩
set_option maxHeartbeats 4000000 in
set_option maxRecDepth 100000 in
theorem rp_main (A : Option Addr) (c : Nat) (b : List Int) (most : Int) (B : Option Addr) (d : Nat) (l : List Int) (C : Option Addr) (f : Nat) (l' : List Int) (w : World) (hA : Kd.C (Kd.int .u8) w A b.length b) (hc : b.length ≤ c) (hbb : Bytes b) (h1 : b.length ≤ 3000) (hB : Kd.C (Kd.int .i64) w B l.length l) (hd : l.length ≤ d) (h2 : l.length ≤ 300) (hC : Kd.C (Kd.int .i64) w C l'.length l') (hf : l'.length ≤ f) (h3 : l'.length ≤ 300) :
    Calls Try.prog 12 #[.slice A b.length c, .int .i64 most, .slice B l.length d, .slice C l'.length f] w fun e w' => e = .returned (.bool true) ∧ Below w.heap.size w w' := by
  have d1 : decide ((3000 : Int) < (b.length : Int)) = false := decide_eq_false (by omega)
  have d2 : decide ((300 : Int) < (l.length : Int)) = false := decide_eq_false (by omega)
  have d3 : decide ((300 : Int) < (l'.length : Int)) = false := decide_eq_false (by omega)
  have HX := Aside0.mk (fed_calls b most l A c B d w hA hc hbb h1 hB hd (by omega))
  have HY := Aside0.mk (fun (W : World) (hW : Below w.heap.size w W) => fed_calls b most l' A c C f W (Kd.C_below hA hW) hc hbb h1 (Kd.C_below hC hW) hf (by omega))
  have hrl : (rr (lim most) b).1.length ≤ 1000000000 := by
    have h := (allv_len (lim most) b.length b hbb).1
    have h' : (rr (lim most) b).1.length ≤ b.length := h
    omega
  obtain ⟨R, hR⟩ : ∃ R, R = (rr (lim most) b).1 := ⟨_, rfl⟩
  obtain ⟨E, hE⟩ : ∃ E, E = stE (lim most) b := ⟨_, rfl⟩
  rw [← hR, ← hE] at HX
  rw [← hR, ← hE] at HY
  rw [← hR] at hrl
  have HRL := Aside0.mk hrl
  have hee : (E == E) = true := beq_self_eq_true E
  clear hA hbb h1 hB h2 hC h3 hR hE hrl
  go_enter Try.func12, Try.ntmps12
  go_wp2_with fail
  refine HX.out.mono ?_
  rintro e w1 ⟨Ax, cx, rfl, hCx, hcx, hb1⟩
  have HC1 := Aside0.mk (And.intro hCx (And.intro hcx hb1))
  have HY1 := Aside0.mk (HY.out w1 hb1)
  clear hCx hcx hb1 HY
  go_wp2_with fail
  refine HY1.out.mono ?_
  rintro e w2 ⟨Ay, cy, rfl, hCy, hcy, hb2⟩
  have HROWS := Aside0.mk (turncockref1_Rows.calls (R.length + 1) Ax cx R Ay cy R true w2 (Kd.C_below HC1.out.1 hb2) HC1.out.2.1 hCy hcy (rows_self R HRL.out _ (Nat.le_refl _)))
  have HB2 := Aside0.mk (below_step HC1.out.2.2 hb2)
  clear hCy hcy hb2
  go_wp2_with fail
  refine HROWS.out.mono ?_
  rintro e w3 ⟨rfl, hd3⟩
  have HB3 := Aside0.mk (below_step HB2.out hd3.below)
  clear hd3
  go_wp2_with fail
  refine (a4_awake _).mono ?_
  rintro e w4 ⟨rfl, hb4⟩
  have HB4 := Aside0.mk (below_step HB3.out hb4)
  clear hb4
  go_wp2_with fail
  go_ret
  exact ⟨rfl, HB4.out⟩
def turncocklaw4_ReasmPieces.f (k : Nat) (l0 : List Int) (a1 : Int) (l2 l3 : List Int) : Option Bool :=
  if Bytes l0 ∧ l0.length ≤ 140737488351232 ∧ l2.length * 8 ≤ 140737488351232 ∧ l3.length * 8 ≤ 140737488351232 then some true else none
theorem turncocklaw4_ReasmPieces.calls (k : Nat) (A0 : Option Addr) (c0 : Nat) (l0 : List Int) (a1 : Int) (A2 : Option Addr) (c2 : Nat) (l2 : List Int) (A3 : Option Addr) (c3 : Nat) (l3 : List Int) (r : Bool) (w : World) (hr0 : Kd.C (Kd.int .u8) w A0 l0.length l0) (hc0 : l0.length ≤ c0) (hr2 : Kd.C (Kd.int .i64) w A2 l2.length l2) (hc2 : l2.length ≤ c2) (hr3 : Kd.C (Kd.int .i64) w A3 l3.length l3) (hc3 : l3.length ≤ c3) (h : turncocklaw4_ReasmPieces.f k l0 a1 l2 l3 = some r) :
    Calls Try.prog 12 #[.slice A0 l0.length c0, .int .i64 a1, .slice A2 l2.length c2, .slice A3 l3.length c3] w fun e w' => e = .returned (.bool r) ∧ Below w.heap.size w w' := by
  unfold turncocklaw4_ReasmPieces.f at h
  split at h
  · rename_i hh
    obtain rfl := Option.some.inj h
    by_cases c : 3000 < l0.length ∨ 300 < l2.length ∨ 300 < l3.length
    · exact rp_awake A0 c0 l0 a1 A2 c2 l2 A3 c3 l3 w c (by omega) (by omega) (by omega)
    · exact rp_main A0 c0 l0 a1 A2 c2 l2 A3 c3 l3 w hr0 hc0 hh.1 (by omega) hr2 hc2 (by omega) hr3 hc3 (by omega)
  · cases h
end Go.Proofs.Ytnhblhhkjnmkkaa.Q
