import Derived.Test.YtnpkeganpkobjaaGreatDoorYB
import Derived.Test.YtnpkeganpkobjaaGreatDoorNE
import Derived.Test.YtnpkeganpkobjaaGreatDoorWD
set_option linter.all false
namespace Go.Proofs.YtnpkeganpkobjaaGreatDoor.Ev
set_option maxRecDepth 100000
set_option maxHeartbeats 4000000
open Go Go.RowKit
variable {W0 : World}
noncomputable section
def r0C : Code := match codeOf 4 with | .seq a _ => a | _ => .skip
def g1C : Code := match codeOf 4 with | .seq _ (.seq a _) => a | _ => .skip
def r7C : Code := match codeOf 4 with | .seq _ (.seq _ (.seq _ (.seq _ (.seq _ (.seq (.seq a _) _))))) => a | _ => .skip
def finC : Code := match codeOf 4 with | .seq _ (.seq _ (.seq _ (.seq _ (.seq _ (.seq _ t))))) => t | _ => .skip
theorem code4 : codeOf 4 = .seq r0C (.seq g1C (app preC (.seq (.seq r7C (.block 0 (.loop (bodyOf 4 0)))) finC))) := by kernel_rfl
def fiF (d0 d1 : Bool) : Facts := ⟨[(0, 30), (0, 30), (0, 60), (0, 2), (0, 60), (0, 60), (0, 60), (0, 120), (4602678819172646912, 4605380978949069210), (1, 2), (0, 60), (0, 30), (0, 30), (0, 59), (-60, 30)], [⟨.sub, .i64, .s 12, .s 5, .s 14⟩], [⟨.s 10, .s 11, d0⟩, ⟨.s 14, .c (0), d1⟩], [match d0 with | true => ⟨.s 5, .s 10, true⟩ | false => ⟨.s 5, .s 11, true⟩, match d1 with | true => ⟨.s 6, .c (0), true⟩ | false => ⟨.s 6, .s 14, true⟩, ⟨.s 4, .s 12, true⟩], [], [], [], []⟩
def awU (n : Nat) : List Use := [⟨awe88, n, [], []⟩]
def fiP : Pc := ⟨133, List.take 7 (tp 3), 26, [(22, .cells (nl 2 (.sint .i64 4)))], .ret, [(10, .bool true)], 26, []⟩
def endT (n0 : Nat) : Tm := ⟨133, [(10, .bool true)], n0, []⟩
def n26 : List Nat := [0, 1, 2, 3, 4, 5, 6, 7, 8, 9, 10, 11, 12, 13, 14, 15, 16, 17, 18, 19, 20, 21, 22, 23, 24, 25]
theorem fiR : ∀ d0 d1, (pcOk fiP (exec (env (fiF d0 d1).sg) (callS (fiF d0 d1) (awU 26) []) 1000 finC (fr fiP.n fiP.f0) (mkSt fiP.h0 fiP.n0)) && (partOk fiP (finT 3) && pickOk (fiP.full (finT 3)) n26 [] (endT 26))) = true := by
  intro d0 d1
  cases d0 <;> cases d1 <;> kernel_rfl
theorem aw_use {σ : Nat → Int} {n : Nat} : ∀ u ∈ awU n, u.e.Ok Tryz.prog (sgn σ (qf u.Q)) := al (awe88_ok _) an
theorem fin_ok {L c m n u v r d y f s k : Int} (q : Ct m u v r d y f s k) (hb : (0 ≤ L ∧ L ≤ 30) ∧ (0 ≤ c ∧ c ≤ 30) ∧ (0 ≤ n ∧ n ≤ 60)) (e1 : u = min f y) (e2 : v = max (s - u) 0) (e3 : n = s) {ρ : Rho} {a : Act} {W : World} {R : Exit → Act → World → Prop} (h : (finT 3).At W0 (vl L c 0 m n u v 60 r d y f s k) ρ a W)
    (hR : ∀ ρ' a' W', (endT 26).At W0 (sgl []) ρ' a' W' → R .ret a' W') : finC.wp Tryz.prog R a W := by
  have qu := q.u
  have qv := q.v
  have qy := q.y
  have qf := q.f
  have qs := q.s
  obtain ⟨z, hz⟩ := ex (s - u)
  have G := gs14 (lo := 0) (hi := 60) (L := L) (c := c) (i := 0) (n := n) (w := 60) q (by omega)
  have hF : ∀ d0 d1 : Bool, decide (y < f) = d0 → decide (z < 0) = d1 → Facts.Ok (fiF d0 d1) [L, c, 0, m, n, u, v, 60, r, d, y, f, s, k, z] := by
    intro d0 d1 h0 h1
    refine ⟨⟨G.1, G.2.1, G.2.2.1, G.2.2.2.1, G.2.2.2.2.1, G.2.2.2.2.2.1, G.2.2.2.2.2.2.1, G.2.2.2.2.2.2.2.1, G.2.2.2.2.2.2.2.2.1, G.2.2.2.2.2.2.2.2.2.1, G.2.2.2.2.2.2.2.2.2.2.1, G.2.2.2.2.2.2.2.2.2.2.2.1, G.2.2.2.2.2.2.2.2.2.2.2.2.1, G.2.2.2.2.2.2.2.2.2.2.2.2.2.1, show (-60 : Int) ≤ z ∧ z ≤ 30 by omega, trivial⟩, al (fS s u z) an, al h0 (al h1 an), ?_, an, an, an, an⟩
    cases d0 <;> cases d1 <;> simp only [decide_eq_true_eq, decide_eq_false_iff_not] at h0 h1
    · exact al (decide_eq_true (show u = f by omega)) (al (decide_eq_true (show v = z by omega)) (al (decide_eq_true (show n = s by omega)) an))
    · exact al (decide_eq_true (show u = f by omega)) (al (decide_eq_true (show v = 0 by omega)) (al (decide_eq_true (show n = s by omega)) an))
    · exact al (decide_eq_true (show u = y by omega)) (al (decide_eq_true (show v = z by omega)) (al (decide_eq_true (show n = s by omega)) an))
    · exact al (decide_eq_true (show u = y by omega)) (al (decide_eq_true (show v = 0 by omega)) (al (decide_eq_true (show n = s by omega)) an))
  obtain ⟨h1, h2, h3⟩ := and3 (fiR (decide (y < f)) (decide (z < 0)))
  exact pc_part (W0 := W0) (F := fiF (decide (y < f)) (decide (z < 0))) (us := awU 26) (ps := []) (l := [L, c, 0, m, n, u, v, 60, r, d, y, f, s, k, z]) (e := fiP) (P := n26) (Q := []) (t := finT 3) (t' := endT 26) (hF _ _ rfl rfl) aw_use an h1 h2 h3 (Tm.At.up (m := 14) h (by simp) (by kernel_rfl)) hR
def parT : Tm := ⟨133, [(0, .sint .i64 0), (1, .sint .i64 1), (2, .sint .i64 2), (3, .sint .i64 3), (4, .sint .i64 4)], 0, []⟩
def fg (a b c d : Int × Int) : Facts := ⟨[a, b, c, (-9223372036854775808, 9223372036854775807), d], [], [], [], [], [], [], []⟩
def any64 : Int × Int := (-9223372036854775808, 9223372036854775807)
def neg64 : Int × Int := (-9223372036854775808, -1)
def paP (o : Out) (f1 : List (Nat × V)) : Pc := ⟨133, parT.f0, 0, [], o, f1, 0, []⟩
def paOk (F : Facts) (c : Code) (us : List Use) (e : Pc) (t : Tm) : Bool := pcOk e (exec (env F.sg) (callS F us []) 1000 c (fr e.n e.f0) (mkSt e.h0 e.n0)) && (partOk e parT && pickOk (e.full parT) [] [.s 0, .s 1, .s 2, .s 3, .s 4] t)
theorem pa_wp {F : Facts} {x0 x1 x2 x3 x4 : Int} (hF : F.Ok [x0, x1, x2, x3, x4]) {us : List Use} (hu : ∀ u ∈ us, u.e.Ok Tryz.prog (sgn (sgl [x0, x1, x2, x3, x4]) (qf u.Q))) {c : Code} {o : Out} {f1 : List (Nat × V)} {t : Tm} (h : paOk F c us (paP o f1) t = true) {ρ : Rho} {a : Act} {W : World} {R : Exit → Act → World → Prop} (ha : parT.At W0 (sgl [x0, x1, x2, x3, x4]) ρ a W)
    (hR : ∀ ρ' a' W', t.At W0 (sgl [x0, x1, x2, x3, x4]) ρ' a' W' → R (toExit o) a' W') : c.wp Tryz.prog R a W := by
  obtain ⟨h1, h2, h3⟩ := and3 h
  exact pc_part (W0 := W0) (e := paP o f1) (P := []) (Q := [.s 0, .s 1, .s 2, .s 3, .s 4]) (t := parT) (t' := t) hF hu an h1 h2 h3 ha hR
theorem pa0 : paOk (fg any64 any64 any64 any64) r0C [] (paP .norm parT.f0) parT = true := by kernel_rfl
theorem pa1 : paOk (fg (0, 30) (0, 30) (0, 60) (0, 59)) g1C [] (paP .norm parT.f0) parT = true := by kernel_rfl
theorem pb0 : paOk (fg neg64 any64 any64 any64) g1C (awU 0) (paP .ret [(10, .bool true)]) (endT 0) = true := by kernel_rfl
theorem pb1 : paOk (fg (31, 9223372036854775807) any64 any64 any64) g1C (awU 0) (paP .ret [(10, .bool true)]) (endT 0) = true := by kernel_rfl
theorem pb2 : paOk (fg (0, 30) neg64 any64 any64) g1C (awU 0) (paP .ret [(10, .bool true)]) (endT 0) = true := by kernel_rfl
theorem pb3 : paOk (fg (0, 30) (31, 9223372036854775807) any64 any64) g1C (awU 0) (paP .ret [(10, .bool true)]) (endT 0) = true := by kernel_rfl
theorem pb4 : paOk (fg (0, 30) (0, 30) neg64 any64) g1C (awU 0) (paP .ret [(10, .bool true)]) (endT 0) = true := by kernel_rfl
theorem pb5 : paOk (fg (0, 30) (0, 30) (61, 9223372036854775807) any64) g1C (awU 0) (paP .ret [(10, .bool true)]) (endT 0) = true := by kernel_rfl
theorem pb6 : paOk (fg (0, 30) (0, 30) (0, 60) neg64) g1C (awU 0) (paP .ret [(10, .bool true)]) (endT 0) = true := by kernel_rfl
theorem pb7 : paOk (fg (0, 30) (0, 30) (0, 60) (60, 9223372036854775807)) g1C (awU 0) (paP .ret [(10, .bool true)]) (endT 0) = true := by kernel_rfl
theorem r7Ok : tinyOk tiG r7C (tiny (List.take 6 (tp 0)) .norm (List.take 7 (tp 0))) = true := by kernel_rfl
def qc : List Nm := [.s 0, .c 0, .s 2, .s 3, .s 4, .s 5, .s 6, .s 7, .s 8, .s 9, .s 10, .s 11, .s 12, .s 13]
def isC (t : Tm) : Bool := swapOk (qf qc) t t && has (mkH t.h0 .e) t.h0
theorem ofC {t : Tm} (hq : isC t = true) {L c i m n u v w r d y f s k : Int} {ρ : Rho} {a : Act} {W : World} (h : t.At W0 (vl L c i m n u v w r d y f s k) ρ a W) : t.At W0 (vl L 0 i m n u v w r d y f s k) ρ a W :=
  Tm.At.unswap (t := t) (Q := qc) h hq
theorem P1.c {L m : Int} {t : Tm} (h : P1 2 L 0 0 m t) : isC ⟨133, List.take 7 (tp 2), 26, t.h0⟩ = true := by
  cases h with
  | ek h => omega
  | eo h => omega
  | em h => omega
  | ekm h => omega
  | _ => kernel_rfl
theorem sg0_ok : SgOk sg0 (fun _ => 0) where
  bounds := fun i => ⟨Int.le_refl _, Int.le_refl _⟩
  facts := {
    ar := fun op k a b r hr => by cases hr
    lt := fun a b c hr => by cases hr
    eq := fun a b c hr => by cases hr
    fb := fun op a b v hr => by cases hr
    fc := fun a v hr => by cases hr
    fi := fun k a v hr => by cases hr
    fn := fun a v hr => by cases hr }
theorem out4 {n0 : Nat} {σ : Nat → Int} {ρ : Rho} {a : Act} {W : World} (h : (endT n0).At W0 σ ρ a W) : bodyPostD Tryz.prog Tryz.f4 (fun e w' => e = .returned (.bool true) ∧ Kp W0 w') .ret a W := by
  show Leaves Tryz.prog Tryz.f4 a.tmps _ a.defers .returning W
  have hE := env_ok sg0 (fun _ => 0) sg0_ok
  refine leaves_idle (E := env sg0) (σ := fun _ => 0) (D := []) hE ?_ a.defers h.dfr
  have hf : FR σ ρ (fr 133 [(10, .bool true)]) a := fr_FR h.size h.tmps
  obtain ⟨_, u, k1, k2⟩ := results_run (P := Tryz.prog) (fn := Tryz.f4) h.sim hf (v := .bool true) (s' := mkSt [] n0) (by kernel_rfl)
  have k2 : u = .bool true := by simpa [VR] using k2
  subst k2
  exact ⟨_, k1, rfl, h.kept⟩
theorem law4 (f s y mk k : Int) (bf : -9223372036854775808 ≤ f ∧ f ≤ 9223372036854775807) (bs : -9223372036854775808 ≤ s ∧ s ≤ 9223372036854775807) (by_ : -9223372036854775808 ≤ y ∧ y ≤ 9223372036854775807) (bm : -9223372036854775808 ≤ mk ∧ mk ≤ 9223372036854775807) (bk : -9223372036854775808 ≤ k ∧ k ≤ 9223372036854775807) (W : World) :
    Calls Tryz.prog 4 #[.int .i64 f, .int .i64 s, .int .i64 y, .int .i64 mk, .int .i64 k] W fun e w' => e = .returned (.bool true) ∧ Kp W w' := by
  refine calls_of_wp_defers (fn := Tryz.f4) (c := codeOf 4) Tryz.func4 (by kernel_rfl) ?_
  obtain ⟨a0, ha0⟩ : ∃ a0 : Act, a0 = { tmps := #[.int .i64 f, .int .i64 s, .int .i64 y, .int .i64 mk, .int .i64 k] ++ Array.replicate (Tryz.f4.ntmps - (#[Value.int .i64 f, .int .i64 s, .int .i64 y, .int .i64 mk, .int .i64 k] : Array Value).size) undef, defers := [] } := ⟨_, rfl⟩
  rw [← ha0]
  have hA : parT.At W (sgl [f, s, y, mk, k]) (fun _ => none) a0 W := by
    have hn : Tryz.f4.ntmps = 133 := by kernel_rfl
    refine ⟨⟨fun id b hb => ?_, fun i j b n m hi hj ri => ?_, fun _ _ => rfl, fun id b n hr => ?_⟩, ?_, ?_, ?_, fun id b n hi hr => ?_, ⟨Nat.le_refl _, fun _ _ => rfl, rfl, rfl, rfl⟩⟩
    · cases hb
    · cases ri
    · cases hr
    · rw [ha0]; simp [hn, parT]
    · rw [ha0]
      intro x hx
      simp only [parT, List.mem_cons, List.not_mem_nil, or_false] at hx
      rcases hx with rfl | rfl | rfl | rfl | rfl <;> simp [VR, sgl, lget]
    · rw [ha0]; exact ⟨[], rfl, fun d hd => by cases hd⟩
    · cases hr
  rw [code4]
  have FG : ∀ {a b c d : Int × Int}, (a.1 ≤ f ∧ f ≤ a.2) → (b.1 ≤ s ∧ s ≤ b.2) → (c.1 ≤ y ∧ y ≤ c.2) → (d.1 ≤ k ∧ k ≤ d.2) → Facts.Ok (fg a b c d) [f, s, y, mk, k] := fun h1 h2 h3 h4 => ⟨⟨h1, h2, h3, bm, h4, trivial⟩, an, an, an, an, an, an, an⟩
  refine wp_seq (pa_wp (FG bf bs by_ bk) an pa0 hA (fun ρ1 a1 W1 h1 => ?_))
  have bad : ∀ {F : Facts}, Facts.Ok F [f, s, y, mk, k] → paOk F g1C (awU 0) (paP .ret [(10, .bool true)]) (endT 0) = true → (Code.seq g1C (app preC (.seq (.seq r7C (.block 0 (.loop (bodyOf 4 0)))) finC))).wp Tryz.prog (bodyPostD Tryz.prog Tryz.f4 (fun e w' => e = .returned (.bool true) ∧ Kp W w')) a1 W1 :=
    fun hF hp => wp_seq (pa_wp hF aw_use hp h1 (fun ρ2 a2 W2 h2 => out4 h2))
  by_cases g0 : f < 0
  · exact bad (FG (show _ ≤ f ∧ f ≤ (-1 : Int) from ⟨bf.1, by omega⟩) bs by_ bk) pb0
  by_cases g1 : 30 < f
  · exact bad (FG (show (31 : Int) ≤ f ∧ f ≤ _ from ⟨by omega, bf.2⟩) bs by_ bk) pb1
  have cf : (0 : Int) ≤ f ∧ f ≤ 30 := by omega
  by_cases g2 : s < 0
  · exact bad (FG cf (show _ ≤ s ∧ s ≤ (-1 : Int) from ⟨bs.1, by omega⟩) by_ bk) pb2
  by_cases g3 : 30 < s
  · exact bad (FG cf (show (31 : Int) ≤ s ∧ s ≤ _ from ⟨by omega, bs.2⟩) by_ bk) pb3
  have cs : (0 : Int) ≤ s ∧ s ≤ 30 := by omega
  by_cases g4 : y < 0
  · exact bad (FG cf cs (show _ ≤ y ∧ y ≤ (-1 : Int) from ⟨by_.1, by omega⟩) bk) pb4
  by_cases g5 : 60 < y
  · exact bad (FG cf cs (show (61 : Int) ≤ y ∧ y ≤ _ from ⟨by omega, by_.2⟩) bk) pb5
  have cy : (0 : Int) ≤ y ∧ y ≤ 60 := by omega
  by_cases g6 : k < 0
  · exact bad (FG cf cs cy (show _ ≤ k ∧ k ≤ (-1 : Int) from ⟨bk.1, by omega⟩)) pb6
  by_cases g7 : 59 < k
  · exact bad (FG cf cs cy (show (60 : Int) ≤ k ∧ k ≤ _ from ⟨by omega, bk.2⟩)) pb7
  have ck : (0 : Int) ≤ k ∧ k ≤ 59 := by omega
  clear bad g0 g1 g2 g3 g4 g5 g6 g7 hA ha0
  refine wp_seq (pa_wp (FG cf cs cy ck) an pa1 h1 (fun ρ2 a2 W2 h2 => ?_))
  obtain ⟨m, hm⟩ := ex (mk % 3)
  have cm : (0 : Int) ≤ m ∧ m ≤ 2 := by omega
  -- from where the server is made and loaded
  have main : ∀ {X : Tm} {ρ : Rho} {a : Act} {W' : World}, P0 0 f 0 0 m X → (⟨133, List.take 6 (tp 0), 26, X.h0⟩ : Tm).At W (vl f 0 0 m 0 0 0 0 4605380978949069210 1 y f s k) ρ a W' →
      (Code.seq (.seq r7C (.block 0 (.loop (bodyOf 4 0)))) finC).wp Tryz.prog (bodyPostD Tryz.prog Tryz.f4 (fun e w' => e = .returned (.bool true) ∧ Kp W w')) a W' := by
    intro X ρ a W' hX h
    have q0 : Ct m 0 0 4605380978949069210 1 y f s k := ⟨cm, by omega, by omega, .inl rfl, by omega, cy, cf, cs, ck⟩
    refine wp_seq (wp_seq (tiny_wp (F := tiG) ⟨gs14 q0 (by omega), an, an, an, an, an, an, an⟩ r7Ok h (fun ρ3 a3 W3 h3 => ?_)))
    refine wp_block (wp_loop_rounds 4 ?_)
    rw [rounds_succ]
    refine part (p := 0) (by omega) q0 cf (by omega) (by omega) (N := y) cy (by omega) (Pd := fun c i t => P0 0 f c i m t) (fun h => h.f) (fun h => h.i (by omega)) (fun hc hi hn ht h hR => round0 (by omega) q0 cf hc (by omega) (by omega) (by omega) (fun _ => hi.2) ht h hR) hX h3 ?_
    intro ρ4 a4 W4 t4 c4 n4 k4 h4 e4 e5
    refine load0 (w := 0) q0 cf (by omega) (by omega) (by omega) k4 h4 (fun ρ5 a5 W5 t5 k5 h5 => ?_)
    have q1 : Ct m n4 0 4602678819172646912 2 y f s k := ⟨cm, by omega, by omega, .inr rfl, by omega, cy, cf, cs, ck⟩
    show Code.rounds _ _ _ 3 a5 W5
    rw [rounds_succ]
    refine part (p := 1) (by omega) q1 cs (by omega) (by omega) (N := 60) (by omega) (.inl rfl) (Pd := fun c i t => P0 1 s c i m t) (fun h => h.f) (fun h => h.i (by omega)) (fun hc hi hn ht h hR => round0 (by omega) q1 cs hc (by omega) (by omega) ck (fun h => by omega) ht h hR) k5 h5 ?_
    intro ρ6 a6 W6 t6 c6 n6 k6 h6 e6 e7
    refine tick1 (N := 60) (w := 0) q1 cs (by omega) (by omega) (by omega) k6 h6 (fun ρ7 a7 W7 t7 k7 h7 => ?_)
    have h7 := ofC k7.c h7
    have q2 : Ct m n4 n6 4602678819172646912 2 y f s k := ⟨cm, by omega, by omega, .inr rfl, by omega, cy, cf, cs, ck⟩
    show Code.rounds _ _ _ 2 a7 W7
    rw [rounds_succ]
    refine part (p := 2) (by omega) q2 cs (by omega) (by omega) (N := 60) (by omega) (.inl rfl) (Pd := fun c i t => P1 2 s c i m t) (fun h => h.f) (fun h => h.i) (fun hc hi hn ht h hR => round1 rfl q2 cs hc (by omega) (by omega) (by omega) ht h hR) k7 h7 ?_
    intro ρ8 a8 W8 t8 c8 n8 k8 h8 e8 e9
    refine tick2 (w := 0) q2 cs (by omega) (by omega) k8 h8 (fun ρ9 a9 W9 h9 => ?_)
    show Code.rounds _ _ _ 1 a9 W9
    rw [rounds_succ, body0]
    refine wp_seq (tiny_wp (F := tiG) ⟨gs14 q2 (by omega), an, an, an, an, an, an, an⟩ heEnd h9 (fun ρ10 a10 W10 h10 => ?_))
    show finC.wp _ _ a10 W10
    exact fin_ok q2 (by omega) (by omega) (by omega) (by omega) h10 (fun ρ11 a11 W11 h11 => out4 h11)
  rcases (show 10 ≤ f ∨ (1 ≤ f ∧ f ≤ 9) ∨ f = 0 by omega) with c | c | c
  · exact YP2_ok f s y mk k (by simp only [Gs, and_true]; omega) h2 (fun ρ3 a3 W3 h3 => main (X := Tm0a 0) (.inl ⟨by omega, rfl, .inl rfl⟩) (by rw [hm]; exact h3))
  · exact YP1_ok f s y mk k (by simp only [Gs, and_true]; omega) h2 (fun ρ3 a3 W3 h3 => main (X := Tm0a 0) (.inl ⟨by omega, rfl, .inl rfl⟩) (by rw [hm]; exact h3))
  · subst c
    exact YP0_ok 0 s y mk k (by simp only [Gs, and_true]; omega) (Tm.At.swap (Q := [.c 0, .s 1, .s 2, .s 3, .s 4]) h2 (by kernel_rfl)) (fun ρ3 a3 W3 h3 => main (X := Tm0za 0) (.inr (.inr (.inr (.inl ⟨rfl, rfl, .inl ⟨rfl, rfl⟩, .inl rfl⟩)))) (by rw [hm]; exact h3))
end
end Go.Proofs.YtnpkeganpkobjaaGreatDoor.Ev
