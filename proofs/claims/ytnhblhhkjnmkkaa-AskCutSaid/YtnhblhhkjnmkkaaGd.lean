/- Plain facts of a request: what was written is read back; the guard bounds all sizes; the reference writes the same bytes; what the row asks of lists. -/
import Derived.Test.YtnhblhhkjnmkkaaPl
import Derived.Test.YtnhblhhkjnmkkaaAe
import Derived.Test.YtnhblhhkjnmkkaaAd
import Derived.Test.YtnhblhhkjnmkkaaAs
import Derived.Test.YtnhblhhkjnmkkaaQ29
import Derived.Test.YtnhblhhkjnmkkaaQ32
import Derived.Test.YtnhblhhkjnmkkaaAw7
namespace Go.Proofs.Ytnhblhhkjnmkkaa.Q
open Go.RowKit Go.Proofs.YtnhblhhkjnmkkaaW.PrintWords Go.Proofs.YtnhblhhkjnmkkaaW.PrintLast Go.Proofs.YtnhblhhkjnmkkaaW.PrintMore
open Go.Proofs.Ytnhblhhkjnmkkaa.Sp Go.Proofs.Ytnhblhhkjnmkkaa.Va
set_option linter.unusedVariables false
set_option linter.unusedSimpArgs false
/-- A step of reading takes a front, whatever stands behind it. -/
def Fronts {α : Type} (f : List Int → Option (α × List Int)) : Prop := ∀ l v r, Bytes l → f l = some (v, r) → ∃ p, l = p ++ r ∧ ∀ t, f (p ++ t) = some (v, t)
theorem fronts_num (most : Nat) (hm : most ≤ 9223372036854775807) : Fronts (rnum most) := by
  intro l v r hb h
  unfold rnum at h
  split at h
  · rename_i hc
    simp only [Option.some.injEq, Prod.mk.injEq] at h
    obtain ⟨h1, h2⟩ := h
    obtain ⟨u, a1, a2, a3, a4, a5, a6, a7⟩ := getv_only l 0 0 (getv 0 0 l).1 (getv 0 0 l).2.1 hb (by omega) (by decide) (Prod.ext rfl (Prod.ext rfl hc.1))
    simp only [Nat.sub_zero] at a5
    refine ⟨putv u, ?_, fun t => ?_⟩
    · rw [a5, ← h2, List.take_append_drop]
    · have hu : u = v := by rw [← h1, a1]; simp
      rw [hu]
      exact rnum_put most v t (by rw [← h1]; exact hc.2) hm
  · cases h
theorem fronts_bind {α β γ : Type} {f : List Int → Option (α × List Int)} {g : α → List Int → Option (β × List Int)} {c : α → β → γ} (hf : Fronts f) (hg : ∀ a, Fronts (g a)) (hb : ∀ l v r, Bytes l → f l = some (v, r) → Bytes r) :
    Fronts (fun l => (f l).bind fun p => (g p.1 p.2).bind fun q => some (c p.1 q.1, q.2)) := by
  intro l v r hl h
  obtain ⟨⟨a, l1⟩, h1, h⟩ := Option.bind_eq_some_iff.1 h
  obtain ⟨⟨b, l2⟩, h2, h⟩ := Option.bind_eq_some_iff.1 h
  simp only [Option.some.injEq, Prod.mk.injEq] at h h2
  obtain ⟨rfl, rfl⟩ := h
  obtain ⟨p, e1, k1⟩ := hf l a l1 hl h1
  obtain ⟨q, e2, k2⟩ := hg a l1 b l2 (hb l a l1 hl h1) h2
  refine ⟨p ++ q, by rw [e1, e2, List.append_assoc], fun t => ?_⟩
  simp only [List.append_assoc, k1, Option.bind_some, k2]
theorem fronts_text (most : Nat) (hm : most ≤ 9223372036854775807) : Fronts (rtext most) := by
  intro l v r hl h
  unfold rtext at h
  obtain ⟨⟨n, l1⟩, h1, h2⟩ := Option.bind_eq_some_iff.1 h
  simp only at h2
  split at h2
  · rename_i hc
    simp only [Option.some.injEq, Prod.mk.injEq] at h2
    obtain ⟨rfl, rfl⟩ := h2
    obtain ⟨p, e1, k1⟩ := fronts_num most hm l n l1 hl h1
    have ht : (l1.take n).length = n := by rw [List.length_take]; omega
    refine ⟨p ++ l1.take n, by rw [List.append_assoc, List.take_append_drop, ← e1], fun t => ?_⟩
    unfold rtext
    rw [List.append_assoc, k1]
    simp only [Option.bind_some, List.length_append, ht]
    rw [if_pos (by omega), List.take_left' ht, List.drop_left' ht]
  · cases h2
theorem fronts_entries : ∀ n, Fronts (rentries n) := by
  intro n
  induction n with
  | zero =>
    intro l v r _ h
    simp only [rentries, Option.some.injEq, Prod.mk.injEq] at h
    obtain ⟨rfl, rfl⟩ := h
    exact ⟨[], rfl, fun t => rfl⟩
  | succ n ih =>
    have h2 : Fronts (fun l => (rtext 128 l).bind fun q => (rentries n q.2).bind fun r => some ((q.1, r.1), r.2)) := fronts_bind (c := fun a b => (a, b)) (g := fun _ => rentries n) (fronts_text 128 (by omega)) (fun _ => ih) (fun l v r hb h => (rtext_lt hb h).2.2)
    have h1 := fronts_bind (c := fun a b => (⟨a, b.1⟩ : S142) :: b.2) (g := fun _ => fun l => (rtext 128 l).bind fun q => (rentries n q.2).bind fun r => some ((q.1, r.1), r.2)) (fronts_text 64 (by omega)) (fun _ => h2) (fun l v r hb h => (rtext_lt hb h).2.2)
    intro l v r hb h
    have e : ∀ l, rentries (n + 1) l = (rtext 64 l).bind fun p => ((rtext 128 p.2).bind fun q => (rentries n q.2).bind fun r => some ((q.1, r.1), r.2)).bind fun q => some ((⟨p.1, q.1.1⟩ : S142) :: q.1.2, q.2) := by
      intro l
      rw [rentries]
      simp only [Option.bind_assoc, Option.bind_some]
    rw [e] at h
    obtain ⟨p, q1, q2⟩ := h1 l v r hb h
    exact ⟨p, q1, fun t => by rw [e]; exact q2 t⟩
theorem fronts_desc : Fronts rdesc := by
  intro l v r hb h
  unfold rdesc at h
  obtain ⟨⟨n, l1⟩, h1, h2⟩ := Option.bind_eq_some_iff.1 h
  obtain ⟨p, e1, k1⟩ := fronts_num 8 (by omega) l n l1 hb h1
  obtain ⟨q, e2, k2⟩ := fronts_entries n l1 v r (rnum_lt hb h1).2.2 h2
  refine ⟨p ++ q, by rw [e1, e2, List.append_assoc], fun t => ?_⟩
  unfold rdesc
  rw [List.append_assoc, k1, Option.bind_some, k2]
theorem fronts_descs : ∀ n, Fronts (rdescs n) := by
  intro n
  induction n with
  | zero =>
    intro l v r _ h
    simp only [rdescs, Option.some.injEq, Prod.mk.injEq] at h
    obtain ⟨rfl, rfl⟩ := h
    exact ⟨[], rfl, fun t => rfl⟩
  | succ n ih =>
    have h1 := fronts_bind (c := fun a b => (⟨a⟩ : S140) :: b) (g := fun _ => rdescs n) fronts_desc (fun _ => ih) (fun l v r hb h => (rdesc_lt hb h).2.2.2)
    intro l v r hb h
    rw [rdescs] at h
    obtain ⟨p, q1, q2⟩ := h1 l v r hb h
    exact ⟨p, q1, fun t => by rw [rdescs]; exact q2 t⟩
/-- All of a request but that nothing is left and that it may be. -/
def rall (l : List Int) : Option ((Nat × ByteArray × Nat × List S140) × List Int) :=
  (ropen 1 l).bind fun l0 => (rnum 2147483647 l0).bind fun p => (rtext 64 p.2).bind fun q => (rnum 4294967295 q.2).bind fun r => (rnum 16 r.2).bind fun s => (rdescs s.1 s.2).bind fun t => some ((p.1, q.1, r.1, t.1), t.2)
theorem rask_all (l : List Int) : rask l = (rall l).bind fun x => if x.2 = [] ∧ askB (x.1.1 : Int) x.1.2.1 (x.1.2.2.1 : Int) x.1.2.2.2 = true then some x.1 else none := by
  unfold rask rall
  simp only [Option.bind_assoc, Option.bind_some]
theorem fronts_all : Fronts rall := by
  intro l v r hb h
  unfold rall at h
  obtain ⟨l0, h0, h⟩ := Option.bind_eq_some_iff.1 h
  obtain ⟨⟨a1, l1⟩, h1, h⟩ := Option.bind_eq_some_iff.1 h
  obtain ⟨⟨a2, l2⟩, h2, h⟩ := Option.bind_eq_some_iff.1 h
  obtain ⟨⟨a3, l3⟩, h3, h⟩ := Option.bind_eq_some_iff.1 h
  obtain ⟨⟨a4, l4⟩, h4, h⟩ := Option.bind_eq_some_iff.1 h
  obtain ⟨⟨a5, l5⟩, h5, h⟩ := Option.bind_eq_some_iff.1 h
  simp only [Option.some.injEq, Prod.mk.injEq] at h h1 h2 h3 h4 h5
  obtain ⟨rfl, rfl⟩ := h
  cases l with
  | nil => simp [ropen] at h0
  | cons b l =>
    simp only [ropen] at h0
    split at h0
    · rename_i hb1
      obtain rfl := Option.some.inj h0
      have B0 := hb.tail
      have B1 := (rnum_lt B0 h1).2.2
      have B2 := (rtext_lt B1 h2).2.2
      have B3 := (rnum_lt B2 h3).2.2
      have B4 := (rnum_lt B3 h4).2.2
      obtain ⟨p1, e1, k1⟩ := fronts_num 2147483647 (by omega) _ _ _ B0 h1
      obtain ⟨p2, e2, k2⟩ := fronts_text 64 (by omega) _ _ _ B1 h2
      obtain ⟨p3, e3, k3⟩ := fronts_num 4294967295 (by omega) _ _ _ B2 h3
      obtain ⟨p4, e4, k4⟩ := fronts_num 16 (by omega) _ _ _ B3 h4
      obtain ⟨p5, e5, k5⟩ := fronts_descs a4 _ _ _ B4 h5
      refine ⟨b :: (p1 ++ (p2 ++ (p3 ++ (p4 ++ p5)))), by simp only [List.cons_append, List.append_assoc]; rw [← e5, ← e4, ← e3, ← e2, ← e1], fun t => ?_⟩
      unfold rall
      simp only [List.cons_append, List.append_assoc, ropen, if_pos hb1, Option.bind_some, k1, k2, k3, k4, k5]
    · cases h0
theorem entryW_app (y : List Int) (e : S142) : entryW y e = y ++ entryW [] e := by simp [entryW]
theorem entriesW_app : ∀ (es : List S142) (y : List Int), es.foldl entryW y = y ++ es.foldl entryW [] := by
  intro es
  induction es with
  | nil => intro y; simp
  | cons e es ih =>
    intro y
    rw [List.foldl_cons, List.foldl_cons, ih (entryW y e), ih (entryW [] e), entryW_app y e, List.append_assoc]
theorem descW_app (y : List Int) (d : S140) : descW y d = y ++ descW [] d := by
  rw [descW, descW, entriesW_app, entriesW_app d.f0 ([] ++ putv d.f0.length)]
  simp
theorem descsW_app : ∀ (ds : List S140) (y : List Int), ds.foldl descW y = y ++ ds.foldl descW [] := by
  intro es
  induction es with
  | nil => intro y; simp
  | cons e es ih =>
    intro y
    rw [List.foldl_cons, List.foldl_cons, ih (descW y e), ih (descW [] e), descW_app y e, List.append_assoc]
theorem rentries_put : ∀ (es : List S142) (tail : List Int), es.all entryB = true → rentries es.length (es.foldl entryW [] ++ tail) = some (es, tail) := by
  intro es
  induction es with
  | nil => intro tail _; rfl
  | cons e es ih =>
    intro tail h
    simp only [List.all_cons, Bool.and_eq_true] at h
    have h1 := h.1
    simp only [entryB, nameB, Bool.and_eq_true, decide_eq_true_eq] at h1
    rw [List.foldl_cons, entriesW_app, List.length_cons, rentries]
    have e1 : entryW [] e ++ es.foldl entryW [] ++ tail = putv e.f0.size ++ bytesOf e.f0 ++ (putv e.f1.size ++ bytesOf e.f1 ++ (es.foldl entryW [] ++ tail)) := by simp [entryW]
    rw [e1, rtext_put 64 e.f0 _ (by omega) (by omega), Option.bind_some, rtext_put 128 e.f1 _ (by omega) (by omega), Option.bind_some, ih tail h.2]
    rfl
theorem rdesc_put (d : S140) (tail : List Int) (h : descB d.f0 = true) : rdesc (descW [] d ++ tail) = some (d.f0, tail) := by
  simp only [descB, Bool.and_eq_true, decide_eq_true_eq] at h
  rw [descW, entriesW_app, rdesc]
  have e1 : ([] ++ putv d.f0.length) ++ d.f0.foldl entryW [] ++ tail = putv d.f0.length ++ (d.f0.foldl entryW [] ++ tail) := by simp
  rw [e1, rnum_put 8 _ _ (by omega) (by omega), Option.bind_some, rentries_put _ _ h.2]
theorem rdescs_put : ∀ (ds : List S140) (tail : List Int), ds.all (fun d => descB d.f0) = true → rdescs ds.length (ds.foldl descW [] ++ tail) = some (ds, tail) := by
  intro ds
  induction ds with
  | nil => intro tail _; rfl
  | cons d ds ih =>
    intro tail h
    simp only [List.all_cons, Bool.and_eq_true] at h
    rw [List.foldl_cons, descsW_app, List.length_cons, rdescs, List.append_assoc, rdesc_put d _ h.1, Option.bind_some, ih tail h.2]
    rfl
theorem rall_put (a0 : Int) (s : ByteArray) (a2 : Int) (ds : List S140) (tail : List Int) (h : askB a0 s a2 ds = true) : rall (askW a0 s a2 ds ++ tail) = some ((a0.toNat, s, a2.toNat, ds), tail) := by
  simp only [askB, nameB, Bool.and_eq_true, decide_eq_true_eq] at h
  obtain ⟨⟨⟨q1, q2, q3, q4, q5, q6⟩, ⟨q7, q8⟩, _⟩, q9⟩ := h
  have e1 : askW a0 s a2 ds ++ tail = 1 :: (putv a0.toNat ++ (putv s.size ++ bytesOf s ++ (putv a2.toNat ++ (putv ds.length ++ (ds.foldl descW [] ++ tail))))) := by
    rw [askW, descsW_app]; simp
  rw [e1, rall]
  simp only [ropen, if_true, Option.bind_some, rnum_put 2147483647 a0.toNat _ (by omega) (by omega), rtext_put 64 s _ q8 (by omega), rnum_put 4294967295 a2.toNat _ (by omega) (by omega), rnum_put 16 ds.length _ (by omega) (by omega), rdescs_put ds _ q9]
theorem rask_put (a0 : Int) (s : ByteArray) (a2 : Int) (ds : List S140) (h : askB a0 s a2 ds = true) : rask (askW a0 s a2 ds) = some (a0.toNat, s, a2.toNat, ds) := by
  have h1 := rall_put a0 s a2 ds [] h
  rw [List.append_nil] at h1
  rw [rask_all, h1, Option.bind_some]
  have h2 := h
  simp only [askB, nameB, Bool.and_eq_true, decide_eq_true_eq] at h2
  have key : askB ((a0.toNat : Nat) : Int) s ((a2.toNat : Nat) : Int) ds = true := by
    rw [show ((a0.toNat : Nat) : Int) = a0 from by omega, show ((a2.toNat : Nat) : Int) = a2 from by omega]; exact h
  rw [if_pos ⟨rfl, key⟩]
theorem rask_tail (a0 : Int) (s : ByteArray) (a2 : Int) (ds : List S140) (tail : List Int) (h : askB a0 s a2 ds = true) (ht : tail ≠ []) : rask (askW a0 s a2 ds ++ tail) = none := by
  rw [rask_all, rall_put a0 s a2 ds tail h, Option.bind_some, if_neg]
  exact fun h => ht h.1
theorem rask_cut (a0 : Int) (s : ByteArray) (a2 : Int) (ds : List S140) (m : Nat) (h : askB a0 s a2 ds = true) (hm : m < (askW a0 s a2 ds).length) (hb : Bytes (askW a0 s a2 ds)) : rask ((askW a0 s a2 ds).take m) = none := by
  rw [rask_all]
  cases h1 : rall ((askW a0 s a2 ds).take m) with
  | none => rfl
  | some x =>
    obtain ⟨v, r⟩ := x
    rw [Option.bind_some, if_neg]
    rintro ⟨h2, _⟩
    simp only at h2
    subst h2
    obtain ⟨p, e1, k1⟩ := fronts_all _ _ _ (hb.take m) h1
    rw [List.append_nil] at e1
    have h3 := k1 ((askW a0 s a2 ds).drop m)
    rw [← e1, List.take_append_drop] at h3
    have h4 := rall_put a0 s a2 ds [] h
    rw [List.append_nil, h3] at h4
    simp only [Option.some.injEq, Prod.mk.injEq] at h4
    have := congrArg List.length h4.2
    rw [List.length_drop] at this
    simp at this
    omega
theorem entryW_bytes {y : List Int} {e : S142} (h : Bytes y) : Bytes (entryW y e) :=
  Bytes.append (Bytes.append (Bytes.append (Bytes.append h (putv_bytes _)) (bytesOf_bytes _)) (putv_bytes _)) (bytesOf_bytes _)
theorem entriesW_bytes : ∀ (es : List S142) (y : List Int), Bytes y → Bytes (es.foldl entryW y) := by
  intro es
  induction es with
  | nil => intro y h; exact h
  | cons e es ih => intro y h; exact ih _ (entryW_bytes h)
theorem descsW_bytes : ∀ (ds : List S140) (y : List Int), Bytes y → Bytes (ds.foldl descW y) := by
  intro es
  induction es with
  | nil => intro y h; exact h
  | cons e es ih => intro y h; exact ih _ (entriesW_bytes _ _ (Bytes.append h (putv_bytes _)))
theorem askW_bytes (a0 : Int) (s : ByteArray) (a2 : Int) (ds : List S140) : Bytes (askW a0 s a2 ds) := by
  refine descsW_bytes _ _ (Bytes.append (Bytes.append (Bytes.append (Bytes.append (Bytes.append ?_ (putv_bytes _)) (putv_bytes _)) (bytesOf_bytes s)) (putv_bytes _)) (putv_bytes _))
  intro x hx
  rw [List.mem_singleton] at hx
  subst hx; omega
theorem askW_len (a0 : Int) (s : ByteArray) (a2 : Int) (ds : List S140) (h : askB a0 s a2 ds = true) : (askW a0 s a2 ds).length ≤ 60000 := by
  simp only [askB, nameB, Bool.and_eq_true, decide_eq_true_eq] at h
  obtain ⟨⟨⟨q1, q2, q3, q4, q5, q6⟩, ⟨q7, q8⟩, _⟩, q9⟩ := h
  have h1 := descsW_len ds ([1] ++ putv a0.toNat ++ putv s.size ++ bytesOf s ++ putv a2.toNat ++ putv ds.length) q9
  have h2 := putv_len9 (v := a0.toNat) (by omega)
  have h3 := putv_len9 (v := s.size) (by omega)
  have h4 := putv_len9 (v := a2.toNat) (by omega)
  have h5 := putv_len9 (v := ds.length) (by omega)
  have h6 := bytesOf_length s
  simp only [List.length_append, List.length_cons, List.length_nil] at h1
  rw [askW]
  omega
/-- Requests with the same bytes are the same. -/
theorem askW_inj (a0 : Int) (s : ByteArray) (a2 : Int) (ds : List S140) (b0 : Int) (t : ByteArray) (b2 : Int) (fs : List S140) (h : askB a0 s a2 ds = true) (h' : askB b0 t b2 fs = true) (he : askW a0 s a2 ds = askW b0 t b2 fs) : a0 = b0 ∧ s = t ∧ a2 = b2 ∧ ds = fs := by
  have h1 := rask_put a0 s a2 ds h
  have h2 := rask_put b0 t b2 fs h'
  rw [he, h2] at h1
  simp only [Option.some.injEq, Prod.mk.injEq] at h1
  simp only [askB, nameB, Bool.and_eq_true, decide_eq_true_eq] at h h'
  refine ⟨by omega, h1.2.1.symm, by omega, h1.2.2.2.symm⟩
end Go.Proofs.Ytnhblhhkjnmkkaa.Q
namespace Go.Proofs.Ytnhblhhkjnmkkaa.Q
open Go.RowKit Go.Proofs.YtnhblhhkjnmkkaaW.PrintWords Go.Proofs.YtnhblhhkjnmkkaaW.PrintLast Go.Proofs.YtnhblhhkjnmkkaaW.PrintMore
open Go.Proofs.Ytnhblhhkjnmkkaa.Sp Go.Proofs.Ytnhblhhkjnmkkaa.Va
set_option linter.unusedVariables false
set_option linter.unusedSimpArgs false
/-- No entry of these is longer than 5000. -/
def lightE (es : List S142) : Prop := ∀ e ∈ es, e.f0.size ≤ 5000 ∧ e.f1.size ≤ 5000
def lightD (ds : List S140) : Prop := ∀ d ∈ ds, d.f0.length ≤ 5000 ∧ lightE d.f0
theorem heavy_l1 (a0 : Int) (s : ByteArray) (a2 : Int) (ds : List S140) (i : Nat) (hi : i < ds.length) (hds : ds.length ≤ 1000000000000000) (es : List S142) (hel : es.length ≤ 1000000000000000)
    (H : ∀ n : Int, 0 ≤ n → n ≤ 1000000000000000 → ∃ K b, (∀ k, K ≤ k → turncocklaw7_heavy.l0 k n ((i : Int) + 1) a0 s a2 ds = some b) ∧ (b = false → n ≤ 5000 ∧ lightD (ds.drop (i + 1)))) :
    ∀ (d e : Nat), es.length - e ≤ d → e ≤ es.length → ∀ n : Int, 0 ≤ n → n ≤ 1000000000000000 → ∃ K b, (∀ k, K ≤ k → turncocklaw7_heavy.l1 k n (i : Int) es (e : Int) a0 s a2 ds = some b) ∧ (b = false → n ≤ 5000 ∧ lightE (es.drop e) ∧ lightD (ds.drop (i + 1))) := by
  have out : ∀ (e : Nat), ¬ e < es.length → e ≤ es.length → ∀ n : Int, 0 ≤ n → n ≤ 1000000000000000 → ∃ K b, (∀ k, K ≤ k → turncocklaw7_heavy.l1 k n (i : Int) es (e : Int) a0 s a2 ds = some b) ∧ (b = false → n ≤ 5000 ∧ lightE (es.drop e) ∧ lightD (ds.drop (i + 1))) := by
    intro e h1 h2 n hn0 hn1
    obtain ⟨K, b, hk, hb⟩ := H n hn0 hn1
    refine ⟨K + 1, b, fun k hK => ?_, fun h => ?_⟩
    · obtain ⟨k, rfl⟩ : ∃ j, k = j + 1 := ⟨k - 1, by omega⟩
      simp only [turncocklaw7_heavy.l1]
      rw [if_neg (by omega), w64 (by omega) (by omega)]
      exact hk k (by omega)
    · rw [List.drop_eq_nil_of_le (by omega)]
      exact ⟨(hb h).1, (fun _ h => by cases h), (hb h).2⟩
  intro d
  induction d with
  | zero => intro e h1 h2 n hn0 hn1; exact out e (by omega) h2 n hn0 hn1
  | succ d ih =>
    intro e h1 h2 n hn0 hn1
    by_cases he : e < es.length
    · by_cases hn : n ≤ 5000
      · have q0 : 0 ≤ mn ((rd_T142 es (e : Int)).f0.size : Int) 5001 ∧ mn ((rd_T142 es (e : Int)).f0.size : Int) 5001 ≤ 5001 := by unfold mn; split <;> omega
        have q1 : 0 ≤ mn ((rd_T142 es (e : Int)).f1.size : Int) 5001 ∧ mn ((rd_T142 es (e : Int)).f1.size : Int) 5001 ≤ 5001 := by unfold mn; split <;> omega
        obtain ⟨K, b, hk, hb⟩ := ih (e + 1) (by omega) (by omega) (n + mn ((rd_T142 es (e : Int)).f0.size : Int) 5001 + mn ((rd_T142 es (e : Int)).f1.size : Int) 5001) (by omega) (by omega)
        refine ⟨K + 1, b, fun k hK => ?_, fun h => ?_⟩
        · obtain ⟨k, rfl⟩ : ∃ j, k = j + 1 := ⟨k - 1, by omega⟩
          simp only [turncocklaw7_heavy.l1]
          rw [if_pos (by omega), if_pos hn, if_pos (by omega), w64 (n := n + mn _ 5001) (by omega) (by omega), w64 (n := n + _ + _) (by omega) (by omega), w64 (n := (e : Int) + 1) (by omega) (by omega)]
          exact hk k (by omega)
        · obtain ⟨g1, g2, g3⟩ := hb h
          refine ⟨hn, ?_, g3⟩
          rw [drop_T142 es e he]
          intro x hx
          rcases List.mem_cons.1 hx with rfl | hx
          · have r0 : mn ((rd_T142 es (e : Int)).f0.size : Int) 5001 ≤ 5000 := by omega
            have r1 : mn ((rd_T142 es (e : Int)).f1.size : Int) 5001 ≤ 5000 := by omega
            unfold mn at r0 r1
            split at r0 <;> split at r1 <;> omega
          · exact g2 x hx
      · obtain ⟨K, b, hk, hb⟩ := H n hn0 hn1
        refine ⟨K + 1, b, fun k hK => ?_, fun h => absurd (hb h).1 hn⟩
        obtain ⟨k, rfl⟩ : ∃ j, k = j + 1 := ⟨k - 1, by omega⟩
        simp only [turncocklaw7_heavy.l1]
        rw [if_pos (by omega), if_neg hn, w64 (by omega) (by omega)]
        exact hk k (by omega)
    · exact out e he h2 n hn0 hn1
theorem heavy_l0 (a0 : Int) (s : ByteArray) (a2 : Int) (ds : List S140) (hds : ds.length ≤ 1000000000000) (hel : ∀ d ∈ ds, d.f0.length ≤ 1000000000000000) :
    ∀ (d i : Nat), ds.length - i ≤ d → i ≤ ds.length → ∀ n : Int, 0 ≤ n → n ≤ 1000000000000000 → ∃ K b, (∀ k, K ≤ k → turncocklaw7_heavy.l0 k n (i : Int) a0 s a2 ds = some b) ∧ (b = false → n ≤ 5000 ∧ lightD (ds.drop i)) := by
  have out : ∀ (i : Nat), ¬ i < ds.length → i ≤ ds.length → ∀ n : Int, 0 ≤ n → n ≤ 1000000000000000 → ∃ K b, (∀ k, K ≤ k → turncocklaw7_heavy.l0 k n (i : Int) a0 s a2 ds = some b) ∧ (b = false → n ≤ 5000 ∧ lightD (ds.drop i)) := by
    intro i h1 h2 n hn0 hn1
    refine ⟨2, decide (n > 5000), fun k hK => ?_, fun h => ?_⟩
    · obtain ⟨k, rfl⟩ : ∃ j, k = j + 1 + 1 := ⟨k - 2, by omega⟩
      simp only [turncocklaw7_heavy.l0, turncocklaw7_heavy.j1]
      rw [if_neg (by omega)]; rfl
    · rw [List.drop_eq_nil_of_le (by omega)]
      exact ⟨by simpa using h, (fun _ h => by cases h)⟩
  intro d
  induction d with
  | zero => intro i h1 h2 n hn0 hn1; exact out i (by omega) h2 n hn0 hn1
  | succ d ih =>
    intro i h1 h2 n hn0 hn1
    by_cases hi : i < ds.length
    · by_cases hn : n ≤ 5000
      · have hm : rd_T140 ds (i : Int) ∈ ds := List.mem_of_mem_drop (i := i) (by rw [drop_T140 ds i hi]; exact List.mem_cons_self ..)
        have q0 : 0 ≤ mn ((rd_T140 ds (i : Int)).f0.length : Int) 5001 ∧ mn ((rd_T140 ds (i : Int)).f0.length : Int) 5001 ≤ 5001 := by unfold mn; split <;> omega
        have hH : ∀ n : Int, 0 ≤ n → n ≤ 1000000000000000 → ∃ K b, (∀ k, K ≤ k → turncocklaw7_heavy.l0 k n ((i : Int) + 1) a0 s a2 ds = some b) ∧ (b = false → n ≤ 5000 ∧ lightD (ds.drop (i + 1))) := by
          intro n h3 h4
          have := ih (i + 1) (by omega) (by omega) n h3 h4
          simpa using this
        obtain ⟨K, b, hk, hb⟩ := heavy_l1 a0 s a2 ds i hi (by omega) (rd_T140 ds (i : Int)).f0 (hel _ hm) hH (rd_T140 ds (i : Int)).f0.length 0 (by omega) (by omega) (n + mn ((rd_T140 ds (i : Int)).f0.length : Int) 5001) (by omega) (by omega)
        refine ⟨K + 2, b, fun k hK => ?_, fun h => ?_⟩
        · obtain ⟨k, rfl⟩ : ∃ j, k = j + 1 + 1 := ⟨k - 2, by omega⟩
          simp only [turncocklaw7_heavy.l0, turncocklaw7_heavy.j1]
          rw [if_pos (by omega), if_pos (decide_eq_true hn), if_pos (by omega), if_pos (by omega), w64 (by omega) (by omega)]
          exact hk k (by omega)
        · obtain ⟨g1, g2, g3⟩ := hb h
          refine ⟨hn, ?_⟩
          rw [drop_T140 ds i hi]
          intro x hx
          rcases List.mem_cons.1 hx with rfl | hx
          · refine ⟨?_, by simpa using g2⟩
            have r0 : mn ((rd_T140 ds (i : Int)).f0.length : Int) 5001 ≤ 5000 := by omega
            unfold mn at r0
            split at r0 <;> omega
          · exact g3 x hx
      · refine ⟨2, true, fun k hK => ?_, fun h => by cases h⟩
        obtain ⟨k, rfl⟩ : ∃ j, k = j + 1 + 1 := ⟨k - 2, by omega⟩
        simp only [turncocklaw7_heavy.l0, turncocklaw7_heavy.j1]
        rw [if_pos (by omega), if_neg (by simp; omega)]
        exact congrArg some (decide_eq_true (by omega))
    · exact out i hi h2 n hn0 hn1
/-- The guard: it answers; and where it says no, nothing is longer than 5000. -/
theorem heavy_f (a0 : Int) (s : ByteArray) (a2 : Int) (ds : List S140) (hs : s.size ≤ 200000000000000) (hds : ds.length * 24 ≤ 140737488351232) (hel : ∀ d ∈ ds, d.f0.length * 32 ≤ 140737488351232) :
    ∃ K b, (∀ k, K ≤ k → turncocklaw7_heavy.f k a0 s a2 ds = some b) ∧ (b = false → SmallA 5000 s ds) := by
  have key : ∀ n : Int, n = (s.size : Int) + (ds.length : Int) → ∃ K b, (∀ k, K ≤ k → turncocklaw7_heavy.l0 k n 0 a0 s a2 ds = some b) ∧ (b = false → SmallA 5000 s ds) := by
    intro n hn
    by_cases hsm : n ≤ 5000
    · obtain ⟨K, b, hk, hb⟩ := heavy_l0 a0 s a2 ds (by omega) (fun d hd => by have := hel d hd; omega) ds.length 0 (by omega) (by omega) n (by omega) (by omega)
      refine ⟨K, b, fun k hK => by simpa using hk k hK, fun h => ?_⟩
      obtain ⟨g1, g2⟩ := hb h
      rw [List.drop_zero] at g2
      exact ⟨by omega, by omega, fun d hd => ⟨(g2 d hd).1, fun e he => ((g2 d hd).2 e he).1⟩⟩
    · refine ⟨2, true, fun k hK => ?_, fun h => by cases h⟩
      obtain ⟨k, rfl⟩ : ∃ j, k = j + 1 + 1 := ⟨k - 2, by omega⟩
      simp only [turncocklaw7_heavy.l0, turncocklaw7_heavy.j1]
      have e1 : decide (n ≤ 5000) = false := decide_eq_false hsm
      have e2 : decide (n > 5000) = true := decide_eq_true (by omega)
      rw [e1, e2]
      split <;> simp
  obtain ⟨K, b, hk, hb⟩ := key _ rfl
  refine ⟨K, b, fun k hK => ?_, hb⟩
  unfold turncocklaw7_heavy.f
  rw [w64 (by omega) (by omega)]
  exact hk k hK
set_option maxRecDepth 100000 in
theorem ref_enc_l1 (a0 : Int) (s : ByteArray) (a2 : Int) (ds : List S140) (i : Nat) (hi : i < ds.length) (hds : ds.length ≤ 16) (es : List S142) (hes : descB es = true) (F : Nat) (R : List Int → Option (List Int × Int))
    (H : ∀ (k : Nat) (x : List Int), F ≤ k → x.length ≤ 3000 * (i + 1) + 1000 → turncockref1_EncodeAsk.l0 k x ((i : Int) + 1) a0 s a2 ds = R x) :
    ∀ (d e k : Nat) (x : List Int), es.length - e ≤ d → e ≤ es.length → F + d + 11 ≤ k → x.length ≤ 3000 * i + 1000 + 300 * e + 10 → turncockref1_EncodeAsk.l1 k x (i : Int) es (e : Int) a0 s a2 ds = R ((es.drop e).foldl entryW x) := by
  simp only [descB, Bool.and_eq_true, decide_eq_true_eq] at hes
  have out : ∀ (d e k : Nat) (x : List Int), ¬ e < es.length → e ≤ es.length → F + d + 11 ≤ k → x.length ≤ 3000 * i + 1000 + 300 * e + 10 → turncockref1_EncodeAsk.l1 k x (i : Int) es (e : Int) a0 s a2 ds = R ((es.drop e).foldl entryW x) := by
    intro d e k x h1 h2 hk hx
    obtain ⟨k, rfl⟩ : ∃ j, k = j + 1 := ⟨k - 1, by omega⟩
    simp only [turncockref1_EncodeAsk.l1]
    rw [if_neg (by omega), w64 (by omega) (by omega), H k x (by omega) (by omega), List.drop_eq_nil_of_le (by omega)]
    rfl
  intro d
  induction d with
  | zero => intro e k x h1 h2 hk hx; exact out 0 e k x (by omega) h2 hk hx
  | succ d ih =>
    intro e k x h1 h2 hk hx
    by_cases he : e < es.length
    · have hB := all_T142 es e he hes.2
      have hl := entryW_len x _ hB
      simp only [entryB, nameB, Bool.and_eq_true, decide_eq_true_eq] at hB
      obtain ⟨k, rfl⟩ : ∃ j, k = j + 1 := ⟨k - 1, by omega⟩
      simp only [turncockref1_EncodeAsk.l1]
      have p1 := putv_len9 (v := (rd_T142 es (e : Int)).f0.size) (by omega)
      have p2 := bytesOf_length (rd_T142 es (e : Int)).f0
      rw [if_pos (by omega), if_pos (by omega), ref_text_f x _ k (by omega) (by omega) (by omega), Option.bind_some, ref_text_f _ _ k (by omega) (by omega) (by simp only [List.length_append]; omega), Option.bind_some, w64 (by omega) (by omega)]
      have h3 := ih (e + 1) k (entryW x (rd_T142 es (e : Int))) (by omega) (by omega) (by omega) (by omega)
      rw [drop_T142 es e he, List.foldl_cons]
      simpa [entryW] using h3
    · exact out _ e k x he h2 hk hx
set_option maxRecDepth 100000 in
theorem ref_enc_l0 (a0 : Int) (s : ByteArray) (a2 : Int) (ds : List S140) (hds : ds.length ≤ 16) (hB : ds.all (fun d => descB d.f0) = true) :
    ∀ (d i k : Nat) (x : List Int), ds.length - i ≤ d → i ≤ ds.length → 30 * d + 30 ≤ k → x.length ≤ 3000 * i + 1000 → turncockref1_EncodeAsk.l0 k x (i : Int) a0 s a2 ds = some ((ds.drop i).foldl descW x, 0) := by
  have out : ∀ (i k : Nat) (x : List Int), ¬ i < ds.length → i ≤ ds.length → 1 ≤ k → turncockref1_EncodeAsk.l0 k x (i : Int) a0 s a2 ds = some ((ds.drop i).foldl descW x, 0) := by
    intro i k x h1 h2 hk
    obtain ⟨k, rfl⟩ : ∃ j, k = j + 1 := ⟨k - 1, by omega⟩
    simp only [turncockref1_EncodeAsk.l0]
    rw [if_neg (by omega), List.drop_eq_nil_of_le (by omega)]
    rfl
  intro d
  induction d with
  | zero => intro i k x h1 h2 hk hx; exact out i k x (by omega) h2 (by omega)
  | succ d ih =>
    intro i k x h1 h2 hk hx
    by_cases hi : i < ds.length
    · have hD := all_T140 ds i hi hB
      obtain ⟨k, rfl⟩ : ∃ j, k = j + 1 := ⟨k - 1, by omega⟩
      simp only [turncockref1_EncodeAsk.l0]
      have hD2 := hD
      simp only [descB, Bool.and_eq_true, decide_eq_true_eq] at hD2
      have p1 := putv_len9 (v := (rd_T140 ds (i : Int)).f0.length) (by omega)
      rw [if_pos (by omega), if_pos (by omega), ref_num_f x _ (by omega) (by omega) k (by omega) (by omega), Option.bind_some]
      have hH : ∀ (k : Nat) (x : List Int), 30 * d + 30 ≤ k → x.length ≤ 3000 * (i + 1) + 1000 → turncockref1_EncodeAsk.l0 k x ((i : Int) + 1) a0 s a2 ds = some ((ds.drop (i + 1)).foldl descW x, 0) := by
        intro k x h3 h4
        have := ih (i + 1) k x (by omega) (by omega) h3 h4
        simpa using this
      have h5 := ref_enc_l1 a0 s a2 ds i hi hds (rd_T140 ds (i : Int)).f0 hD (30 * d + 30) (fun x => some ((ds.drop (i + 1)).foldl descW x, 0)) hH (rd_T140 ds (i : Int)).f0.length 0 k (x ++ putv (rd_T140 ds (i : Int)).f0.length) (by omega) (by omega) (by omega) (by rw [List.length_append]; omega)
      rw [drop_T140 ds i hi, List.foldl_cons]
      simpa [descW] using h5
    · exact out i k x hi h2 (by omega)
set_option maxRecDepth 100000 in
theorem ref_enc_f (a0 : Int) (s : ByteArray) (a2 : Int) (ds : List S140) (hs : SmallA 5000 s ds) (k : Nat) (hk : 20000 ≤ k) : turncockref1_EncodeAsk.f k a0 s a2 ds = some (if askB a0 s a2 ds then (askW a0 s a2 ds, 0) else ([], 1)) := by
  unfold turncockref1_EncodeAsk.f
  rw [ref_ask_f a0 s a2 ds 5000 (by omega) hs k (by omega), Option.bind_some]
  cases h : askB a0 s a2 ds with
  | false => rfl
  | true =>
    rw [if_pos rfl]
    simp only [askB, nameB, Bool.and_eq_true, decide_eq_true_eq] at h
    obtain ⟨⟨⟨q1, q2, q3, q4, q5, q6⟩, ⟨q7, q8⟩, _⟩, q9⟩ := h
    have p1 := putv_len9 (v := a0.toNat) (by omega)
    have p2 := putv_len9 (v := s.size) (by omega)
    have p3 := bytesOf_length s
    have p4 := putv_len9 (v := a2.toNat) (by omega)
    have p5 := putv_len9 (v := ds.length) (by omega)
    rw [ref_num_f [1] a0 (by omega) (by omega) k (by omega) (by simp), Option.bind_some, ref_text_f _ s k (by omega) (by omega) (by simp; omega), Option.bind_some, ref_num_f _ a2 (by omega) (by omega) k (by omega) (by simp; omega), Option.bind_some, ref_num_f _ (ds.length : Int) (by omega) (by omega) k (by omega) (by simp; omega), Option.bind_some]
    have h6 := ref_enc_l0 a0 s a2 ds (by omega) q9 ds.length 0 k ([1] ++ putv a0.toNat ++ putv s.size ++ bytesOf s ++ putv a2.toNat ++ putv ds.length) (by omega) (by omega) (by omega) (by simp only [List.length_append, List.length_cons, List.length_nil]; omega)
    simpa [askW] using h6
theorem small_b (M N : Nat) (s : ByteArray) (ds : List S140) (h : SmallA M s ds) (hMN : M ≤ N) : smallB N s ds = true := by
  simp only [smallB, Bool.and_eq_true, decide_eq_true_eq, List.all_eq_true]
  exact ⟨by have := h.1; omega, by have := h.2.1; omega, fun d hd => ⟨by have := (h.2.2 d hd).1; omega, fun e he => by have := (h.2.2 d hd).2 e he; omega⟩⟩
theorem short_b (M N : Nat) (s : ByteArray) (ds : List S140) (h : SmallA M s ds) (hMN : M ≤ N) : shortB N ds = true := by
  simp only [shortB, Bool.and_eq_true, decide_eq_true_eq, List.all_eq_true]
  exact ⟨by have := h.2.1; omega, fun d hd => by have := (h.2.2 d hd).1; omega⟩
theorem enc_f (a0 : Int) (s : ByteArray) (a2 : Int) (ds : List S140) (hs : SmallA 5000 s ds) : ask_Encode.f a0 s a2 ds = some (if askB a0 s a2 ds then (askW a0 s a2 ds, 0) else ([], 1)) := by
  unfold ask_Encode.f
  rw [if_pos (small_b 5000 1000000 s ds hs (by omega))]
  cases askB a0 s a2 ds <;> rfl
theorem same_ask_f (a0 : Int) (s : ByteArray) (a2 : Int) (ds : List S140) (b0 : Int) (t : ByteArray) (b2 : Int) (fs : List S140) (hs : SmallA 5000 s ds) : ask_Same.f a0 s a2 ds b0 t b2 fs = some (decide (a0 = b0 ∧ s = t ∧ a2 = b2 ∧ ds = fs)) := by
  unfold ask_Same.f
  rw [if_pos (short_b 5000 1000000 s ds hs (by omega))]
def good142 (x : S142) : Prop := x.f0.size ≤ 140737488351232 ∧ x.f1.size ≤ 140737488351232
def good140 (x : S140) : Prop := (x.f0.length * 32 ≤ 140737488351232 ∧ ∀ y0 ∈ x.f0, good142 y0)
end Go.Proofs.Ytnhblhhkjnmkkaa.Q
namespace Go.Proofs.Ytnhblhhkjnmkkaa.Pure
open Go.RowKit Go.Proofs.YtnhblhhkjnmkkaaW.PrintWords Go.Proofs.YtnhblhhkjnmkkaaW.PrintLast Go.Proofs.YtnhblhhkjnmkkaaW.PrintMore
open Go.Proofs.Ytnhblhhkjnmkkaa.Sp Go.Proofs.Ytnhblhhkjnmkkaa.Va Go.Proofs.Ytnhblhhkjnmkkaa.Q
theorem dec_back (a0 : Int) (s : ByteArray) (a2 : Int) (ds : List S140) (h : askB a0 s a2 ds = true) : ask_Decode.f (askW a0 s a2 ds) = some (a0, s, a2, ds, 0) := by
  have hl := askW_len a0 s a2 ds h
  unfold ask_Decode.f
  rw [if_pos ⟨askW_bytes a0 s a2 ds, by omega⟩, rask_put a0 s a2 ds h]
  simp only [askB, Bool.and_eq_true, decide_eq_true_eq] at h
  simp only []
  rw [show ((a0.toNat : Nat) : Int) = a0 from by omega, show ((a2.toNat : Nat) : Int) = a2 from by omega]
theorem hits_eq (a : Int) : mn (mx a 1) 4294967295 = mx (mn a 4294967295) 1 := by
  unfold mn mx
  repeat' split
  all_goals omega
end Go.Proofs.Ytnhblhhkjnmkkaa.Pure
