/- Plain facts of a reply: what may be, its bytes, and that they are read back. -/
import Derived.Test.YtnhblhhkjnmkkaaPl
import Derived.Test.YtnhblhhkjnmkkaaNn
namespace Go.Proofs.Ytnhblhhkjnmkkaa.Q
open Go.RowKit Go.Proofs.YtnhblhhkjnmkkaaW.PrintWords Go.Proofs.YtnhblhhkjnmkkaaW.PrintLast Go.Proofs.YtnhblhhkjnmkkaaW.PrintMore
open Go.Proofs.Ytnhblhhkjnmkkaa.Sp Go.Proofs.Ytnhblhhkjnmkkaa.Va
set_option linter.unusedVariables false
set_option linter.unusedSimpArgs false
def codeB (n : Int) : Bool := decide (n = 1 ∨ n = 2)
def statB (x : S154) : Bool := decide ((x.f0 = 1 ∨ x.f0 = 2) ∧ 0 ≤ x.f1 ∧ x.f1 ≤ 4294967295 ∧ 0 ≤ x.f2 ∧ x.f2 ≤ 4 ∧ 0 ≤ x.f3 ∧ x.f3 ≤ 4294967295 ∧ 0 ≤ x.f4 ∧ x.f4 ≤ 86400)
/-- A sign of a header's value. -/
def signV (b : Int) : Bool := decide (32 ≤ b) && decide (b ≤ 126)
def headB (x : S152) : Bool := nameB x.f0 && decide (x.f1.size ≤ 400) && (bytesOf x.f1).all signV
def tellB (a0 a1 : Int) (ss : List S154) (hs : List S152) : Bool := decide (0 ≤ a0 ∧ a0 ≤ 2147483647 ∧ (a1 = 1 ∨ a1 = 2) ∧ ss.length ≤ 16 ∧ hs.length ≤ 4) && ss.all statB && hs.all headB
def statW (y : List Int) (x : S154) : List Int := y ++ putv x.f0.toNat ++ putv x.f1.toNat ++ putv x.f2.toNat ++ putv x.f3.toNat ++ putv x.f4.toNat
def headW (y : List Int) (x : S152) : List Int := y ++ putv x.f0.size ++ bytesOf x.f0 ++ putv x.f1.size ++ bytesOf x.f1
def fullN (b : Bool) : Nat := if b then 1 else 0
def tellW (a0 a1 : Int) (b : Bool) (ss : List S154) (hs : List S152) : List Int := hs.foldl headW (ss.foldl statW ([2] ++ putv a0.toNat ++ putv a1.toNat ++ putv (fullN b) ++ putv ss.length) ++ putv hs.length)
theorem statW_len (y : List Int) (x : S154) (h : statB x = true) : (statW y x).length ≤ y.length + 50 := by
  simp only [statB, decide_eq_true_eq] at h
  have h0 := putv_len9 (v := x.f0.toNat) (by omega)
  have h1 := putv_len9 (v := x.f1.toNat) (by omega)
  have h2 := putv_len9 (v := x.f2.toNat) (by omega)
  have h3 := putv_len9 (v := x.f3.toNat) (by omega)
  have h4 := putv_len9 (v := x.f4.toNat) (by omega)
  simp only [statW, List.length_append]
  omega
theorem statsW_len : ∀ (es : List S154) (y : List Int), es.all statB = true → (es.foldl statW y).length ≤ y.length + 50 * es.length := by
  intro es
  induction es with
  | nil => intro y _; simp
  | cons e es ih =>
    intro y h
    simp only [List.all_cons, Bool.and_eq_true] at h
    have h1 := ih (statW y e) h.2
    have h2 := statW_len y e h.1
    simp only [List.foldl_cons, List.length_cons]
    omega
theorem headW_len (y : List Int) (x : S152) (h : headB x = true) : (headW y x).length ≤ y.length + 500 := by
  simp only [headB, nameB, Bool.and_eq_true, decide_eq_true_eq] at h
  have h1 := putv_len9 (v := x.f0.size) (by omega)
  have h2 := putv_len9 (v := x.f1.size) (by omega)
  have h3 := bytesOf_length x.f0
  have h4 := bytesOf_length x.f1
  simp only [headW, List.length_append]
  omega
theorem headsW_len : ∀ (es : List S152) (y : List Int), es.all headB = true → (es.foldl headW y).length ≤ y.length + 500 * es.length := by
  intro es
  induction es with
  | nil => intro y _; simp
  | cons e es ih =>
    intro y h
    simp only [List.all_cons, Bool.and_eq_true] at h
    have h1 := ih (headW y e) h.2
    have h2 := headW_len y e h.1
    simp only [List.foldl_cons, List.length_cons]
    omega
def rstat (l : List Int) : Option (S154 × List Int) :=
  (rnum 2 l).bind fun a => (rnum 4294967295 a.2).bind fun b => (rnum 4 b.2).bind fun c => (rnum 4294967295 c.2).bind fun d => (rnum 86400 d.2).bind fun e => some (⟨(a.1 : Int), (b.1 : Int), (c.1 : Int), (d.1 : Int), (e.1 : Int)⟩, e.2)
def rhead (l : List Int) : Option (S152 × List Int) :=
  (rtext 64 l).bind fun p => (rtext 400 p.2).bind fun q => some (⟨p.1, q.1⟩, q.2)
/-- So many statuses read. -/
def rstats : Nat → List Int → Option (List S154 × List Int)
  | 0, l => some ([], l)
  | n + 1, l => (rstat l).bind fun p => (rstats n p.2).bind fun r => some (p.1 :: r.1, r.2)
/-- So many headers read. -/
def rheads : Nat → List Int → Option (List S152 × List Int)
  | 0, l => some ([], l)
  | n + 1, l => (rhead l).bind fun p => (rheads n p.2).bind fun r => some (p.1 :: r.1, r.2)
/-- The reply of bytes, if they are one that may be. -/
def rtell (l : List Int) : Option (Nat × Nat × Bool × List S154 × List S152) :=
  (ropen 2 l).bind fun l0 => (rnum 2147483647 l0).bind fun p => (rnum 2 p.2).bind fun q => (rnum 1 q.2).bind fun r => (rnum 16 r.2).bind fun s => (rstats s.1 s.2).bind fun t => (rnum 4 t.2).bind fun u => (rheads u.1 u.2).bind fun v =>
    if v.2 = [] ∧ tellB (p.1 : Int) (q.1 : Int) t.1 v.1 = true then some (p.1, q.1, decide (r.1 = 1), t.1, v.1) else none
theorem statW_app (y : List Int) (e : S154) : statW y e = y ++ statW [] e := by simp [statW]
theorem statsW_app : ∀ (es : List S154) (y : List Int), es.foldl statW y = y ++ es.foldl statW [] := by
  intro es
  induction es with
  | nil => intro y; simp
  | cons e es ih =>
    intro y
    rw [List.foldl_cons, List.foldl_cons, ih (statW y e), ih (statW [] e), statW_app y e, List.append_assoc]
theorem headW_app (y : List Int) (e : S152) : headW y e = y ++ headW [] e := by simp [headW]
theorem headsW_app : ∀ (es : List S152) (y : List Int), es.foldl headW y = y ++ es.foldl headW [] := by
  intro es
  induction es with
  | nil => intro y; simp
  | cons e es ih =>
    intro y
    rw [List.foldl_cons, List.foldl_cons, ih (headW y e), ih (headW [] e), headW_app y e, List.append_assoc]
theorem rstat_put (x : S154) (tail : List Int) (h : statB x = true) : rstat (statW [] x ++ tail) = some (x, tail) := by
  simp only [statB, decide_eq_true_eq] at h
  have e1 : statW [] x ++ tail = putv x.f0.toNat ++ (putv x.f1.toNat ++ (putv x.f2.toNat ++ (putv x.f3.toNat ++ (putv x.f4.toNat ++ tail)))) := by simp [statW]
  rw [e1, rstat, rnum_put 2 _ _ (by omega) (by omega), Option.bind_some, rnum_put 4294967295 _ _ (by omega) (by omega), Option.bind_some, rnum_put 4 _ _ (by omega) (by omega), Option.bind_some, rnum_put 4294967295 _ _ (by omega) (by omega), Option.bind_some, rnum_put 86400 _ _ (by omega) (by omega), Option.bind_some]
  cases x with
  | mk a b c d e =>
    simp only [] at h ⊢
    rw [show ((a.toNat : Nat) : Int) = a from by omega, show ((b.toNat : Nat) : Int) = b from by omega, show ((c.toNat : Nat) : Int) = c from by omega, show ((d.toNat : Nat) : Int) = d from by omega, show ((e.toNat : Nat) : Int) = e from by omega]
theorem rstats_put : ∀ (ds : List S154) (tail : List Int), ds.all statB = true → rstats ds.length (ds.foldl statW [] ++ tail) = some (ds, tail) := by
  intro ds
  induction ds with
  | nil => intro tail _; rfl
  | cons d ds ih =>
    intro tail h
    simp only [List.all_cons, Bool.and_eq_true] at h
    rw [List.foldl_cons, statsW_app, List.length_cons, rstats, List.append_assoc, rstat_put d _ h.1, Option.bind_some, ih tail h.2]
    rfl
theorem rhead_put (x : S152) (tail : List Int) (h : headB x = true) : rhead (headW [] x ++ tail) = some (x, tail) := by
  simp only [headB, nameB, Bool.and_eq_true, decide_eq_true_eq] at h
  have e1 : headW [] x ++ tail = putv x.f0.size ++ bytesOf x.f0 ++ (putv x.f1.size ++ bytesOf x.f1 ++ tail) := by simp [headW]
  rw [e1, rhead, rtext_put 64 _ _ (by omega) (by omega), Option.bind_some, rtext_put 400 _ _ (by omega) (by omega), Option.bind_some]
theorem rheads_put : ∀ (ds : List S152) (tail : List Int), ds.all headB = true → rheads ds.length (ds.foldl headW [] ++ tail) = some (ds, tail) := by
  intro ds
  induction ds with
  | nil => intro tail _; rfl
  | cons d ds ih =>
    intro tail h
    simp only [List.all_cons, Bool.and_eq_true] at h
    rw [List.foldl_cons, headsW_app, List.length_cons, rheads, List.append_assoc, rhead_put d _ h.1, Option.bind_some, ih tail h.2]
    rfl
theorem rtell_put (a0 a1 : Int) (b : Bool) (ss : List S154) (hs : List S152) (h : tellB a0 a1 ss hs = true) : rtell (tellW a0 a1 b ss hs) = some (a0.toNat, a1.toNat, b, ss, hs) := by
  have h2 := h
  simp only [tellB, Bool.and_eq_true, decide_eq_true_eq] at h
  obtain ⟨⟨⟨q1, q2, q3, q4, q5⟩, q6⟩, q7⟩ := h
  have e1 : tellW a0 a1 b ss hs = 2 :: (putv a0.toNat ++ (putv a1.toNat ++ (putv (fullN b) ++ (putv ss.length ++ (ss.foldl statW [] ++ (putv hs.length ++ (hs.foldl headW [] ++ []))))))) := by
    rw [tellW, headsW_app, statsW_app]; simp
  have hf : fullN b ≤ 1 := by cases b <;> decide
  rw [e1, rtell]
  simp only [ropen, if_true, Option.bind_some, rnum_put 2147483647 a0.toNat _ (by omega) (by omega), rnum_put 2 a1.toNat _ (by omega) (by omega), rnum_put 1 (fullN b) _ hf (by omega), rnum_put 16 ss.length _ (by omega) (by omega), rstats_put ss _ q6, rnum_put 4 hs.length _ (by omega) (by omega), rheads_put hs _ q7]
  rw [show ((a0.toNat : Nat) : Int) = a0 from by omega, show ((a1.toNat : Nat) : Int) = a1 from by omega, if_pos ⟨trivial, h2⟩]
  cases b <;> rfl
theorem headW_bytes {y : List Int} {e : S152} (h : Bytes y) : Bytes (headW y e) :=
  Bytes.append (Bytes.append (Bytes.append (Bytes.append h (putv_bytes _)) (bytesOf_bytes _)) (putv_bytes _)) (bytesOf_bytes _)
theorem headsW_bytes : ∀ (es : List S152) (y : List Int), Bytes y → Bytes (es.foldl headW y) := by
  intro es
  induction es with
  | nil => intro y h; exact h
  | cons e es ih => intro y h; exact ih _ (headW_bytes h)
theorem statsW_bytes : ∀ (es : List S154) (y : List Int), Bytes y → Bytes (es.foldl statW y) := by
  intro es
  induction es with
  | nil => intro y h; exact h
  | cons e es ih => intro y h; exact ih _ (Bytes.append (Bytes.append (Bytes.append (Bytes.append (Bytes.append h (putv_bytes _)) (putv_bytes _)) (putv_bytes _)) (putv_bytes _)) (putv_bytes _))
theorem tellW_bytes (a0 a1 : Int) (b : Bool) (ss : List S154) (hs : List S152) : Bytes (tellW a0 a1 b ss hs) := by
  refine headsW_bytes _ _ (Bytes.append (statsW_bytes _ _ (Bytes.append (Bytes.append (Bytes.append (Bytes.append ?_ (putv_bytes _)) (putv_bytes _)) (putv_bytes _)) (putv_bytes _))) (putv_bytes _))
  intro x hx
  rw [List.mem_singleton] at hx
  subst hx; omega
theorem tellW_len (a0 a1 : Int) (b : Bool) (ss : List S154) (hs : List S152) (h : tellB a0 a1 ss hs = true) : (tellW a0 a1 b ss hs).length ≤ 10000 := by
  simp only [tellB, Bool.and_eq_true, decide_eq_true_eq] at h
  obtain ⟨⟨⟨q1, q2, q3, q4, q5⟩, q6⟩, q7⟩ := h
  have hf : fullN b ≤ 1 := by cases b <;> decide
  have h1 := headsW_len hs (ss.foldl statW ([2] ++ putv a0.toNat ++ putv a1.toNat ++ putv (fullN b) ++ putv ss.length) ++ putv hs.length) q7
  have h2 := statsW_len ss ([2] ++ putv a0.toNat ++ putv a1.toNat ++ putv (fullN b) ++ putv ss.length) q6
  have h3 := putv_len9 (v := a0.toNat) (by omega)
  have h4 := putv_len9 (v := a1.toNat) (by omega)
  have h5 := putv_len9 (v := fullN b) (by omega)
  have h6 := putv_len9 (v := ss.length) (by omega)
  have h7 := putv_len9 (v := hs.length) (by omega)
  simp only [List.length_append, List.length_cons, List.length_nil] at h1 h2
  rw [tellW]
  omega
end Go.Proofs.Ytnhblhhkjnmkkaa.Q
