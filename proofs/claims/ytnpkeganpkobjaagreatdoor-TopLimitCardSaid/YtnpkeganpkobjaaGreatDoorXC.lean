import Derived.Test.YtnpkeganpkobjaaGreatDoorXB
set_option linter.all false
namespace Go.Proofs.YtnpkeganpkobjaaGreatDoor.Ev
open Go Go.RowKit
noncomputable section
def Ok1 (P : Program) (σ : Nat → Int) (ρ : Rho) (s : St) (W : World) (v : V) (s' : St) (m : Sem Value) : Prop :=
  ∃ ρ' u W', m.run P W = .ok u W' ∧ VR σ ρ' v u ∧ Stp σ ρ s W ρ' s' W'
def Ok0 (P : Program) (σ : Nat → Int) (ρ : Rho) (s : St) (W : World) (s' : St) (m : Sem Unit) : Prop :=
  ∃ ρ' W', m.run P W = .ok () W' ∧ Stp σ ρ s W ρ' s' W'
section vals
variable {σ : Nat → Int} {ρ : Rho} {s s' : St} {W : World} {P : Program} {v : V}
theorem ret_some {o : Option V} (h : ret o s = some (v, s')) : o = some v ∧ s' = s := by
  unfold ret at h; split at h
  · cases h; exact ⟨rfl, rfl⟩
  · cases h
theorem Ok1.val (hs : Sim σ ρ s W) {m : Sem Value} (h : ∃ u, m.run P W = .ok u W ∧ VR σ ρ v u) : Ok1 P σ ρ s W v s m := by
  obtain ⟨u, h1, h2⟩ := h
  exact ⟨ρ, u, W, h1, h2, Stp.refl hs⟩
theorem Ok1.new (hs : Sim σ ρ s W) {x : B} {f : Nat → V} {m : Sem Value} {n : Nat} (hr : retN x f s = some (v, s'))
    (h : ∃ u W' o, m.run P W = .ok u W' ∧ W'.heap[W.heap.size]? = some o ∧ (∀ j, j < W.heap.size → W'.heap[j]? = W.heap[j]?) ∧ W.heap.size ≤ W'.heap.size ∧ W'.os = W.os ∧ W'.tape = W.tape ∧ W'.output = W.output ∧
      ∀ ρ' : Rho, (∀ id p, ρ id = some p → ρ' id = some p) → ρ' s.next = some (W.heap.size, n) → VR σ ρ' (f s.next) u ∧ OR σ ρ' n x o) : Ok1 P σ ρ s W v s' m := by
  unfold retN at hr
  cases hr
  obtain ⟨u, W', o, h1, h2, h3, h4, h5, h6, h7, h8⟩ := h
  obtain ⟨k1, k2⟩ := h8 (ext1 ρ s.next (W.heap.size, n)) (ext1_mono hs _) (by simp [ext1])
  refine ⟨_, u, W', h1, k1, Stp.new hs ?_ h2 k2 (fun j _ hj => h3 j hj) h4 (Nat.le_refl _) h5 h6 h7⟩
  intro i m _ hi
  exact absurd (hs.old i _ _ hi) (by omega)
theorem CR_of {l : List V} {us : List Value} {c : Array Value} (h : VRs σ ρ l us) (hc : ∀ j, j < us.length → c[j]? = us[j]?) : CR σ ρ l c := by
  intro i w hw
  obtain ⟨u, h1, h2⟩ := h.get hw
  have : i < us.length := (List.getElem?_eq_some_iff.1 h1).1
  exact ⟨u, by rw [hc i this, h1], h2⟩
theorem Ok1.cells (hs : Sim σ ρ s W) {l : List V} {us : List Value} {f : Nat → V} {m : Sem Value} {t : TypeId} {u : Value} (hr : retN (.cells l) f s = some (v, s')) (hl : VRs σ ρ l us)
    (hm : m.run P W = .ok u { W with heap := W.heap.push (.cells us.toArray t) })
    (hv : ∀ ρ' : Rho, (∀ id p, ρ id = some p → ρ' id = some p) → ρ' s.next = some (W.heap.size, us.length) → VR σ ρ' (f s.next) u) : Ok1 P σ ρ s W v s' m := by
  refine Ok1.new (n := us.length) hs hr ⟨u, _, .cells us.toArray t, hm, by simp, fun j hj => by simp [Array.getElem?_push, Nat.ne_of_lt hj], by simp, rfl, rfl, rfl, fun ρ' h1 h2 => ⟨hv ρ' h1 h2, us.toArray, t, (0, 0), rfl, by simp, ?_, fun i _ => by omega⟩⟩
  exact CR_of (VRs.mono h1 _ _ hl) (fun j hj => by simp)
theorem opAlloc_sound (hs : Sim σ ρ s W) {z : V} {u : Value} {t : TypeId} (hz : VR σ ρ z u) (h : opAlloc s (some z) = some (v, s')) :
    Ok1 P σ ρ s W v s' (do pure (.pointer (some (← newVar t u)))) := by
  unfold opAlloc at h
  simp only at h
  split at h
  · cases h
  rename_i hna
  refine Ok1.cells hs (us := u.cells.toList) (t := t) (u := .pointer (some ⟨W.heap.size, 0, none⟩)) h (hz.cells hna) (by simp [newVar, newRow]) ?_
  intro ρ' h1 h2
  simp only [VR]
  exact ⟨_, _, h2, rfl⟩
theorem opNew_sound {E : Env} (hs : Sim σ ρ s W) {z : V} {u : Value} {t : TypeId} (hz : VR σ ρ z u) (hna : isAny z = false) (h : opNew E t s (some z) = some (v, s')) :
    Ok1 P σ ρ s W v s' (do pure (.pointer (some (← newVar t u)))) := by
  unfold opNew at h
  cases hb : Nat.beq t E.bt with
  | false =>
    rw [hb] at h
    refine opAlloc_sound hs hz ?_
    show (match isAny z with | true => none | false => retN (B.cells z.cells) (fun id => V.ptr id 0) s) = _
    rw [hna]; exact h
  | true =>
    rw [hb] at h
    have hl : VRs σ ρ z.cells u.cells.toList := hz.cells hna
    have h : retN (.typ true t z.cells) (fun id => .ptr id 0) s = some (v, s') := h
    refine Ok1.new (n := u.cells.toList.length) hs h ⟨.pointer (some ⟨W.heap.size, 0, none⟩), _, .cells u.cells.toList.toArray t, (by simp [newVar, newRow] : _ = Result.ok _ { W with heap := W.heap.push (.cells u.cells.toList.toArray t) }), by simp, fun j hj => by simp [Array.getElem?_push, Nat.ne_of_lt hj], by simp, rfl, rfl, rfl, fun ρ' h1 h2 => ⟨?_, u.cells.toList.toArray, (0, 0), rfl, by simp, ⟨?_, ?_⟩, fun i _ => by omega⟩⟩
    · simp only [VR]; exact ⟨_, _, h2, rfl⟩
    · exact CR_of (VRs.mono h1 _ _ hl) (fun j hj => by simp)
    · exact fun _ => (VRs.len hl).symm
theorem un_sound {E : Env} (hF : Fok E σ) {op : UnOp} {x : V} {ux : Value} (hx : VR σ ρ x ux) (h : un E op x = some v) : ∃ u, (Op.unary op ux).run P W = .ok u W ∧ VR σ ρ v u := by
  unfold un at h
  split at h
  · simp only [VR] at hx; subst hx
    split at h
    · cases h; exact ⟨_, rfl, by simp only [VR]⟩
    · cases h
  · simp only [VR] at hx; subst hx
    split at h
    · cases h; exact ⟨_, rfl, by simp only [VR]⟩
    · cases h
  · simp only [VR] at hx; subst hx
    split at h
    · cases h; exact ⟨_, rfl, by simp only [VR]⟩
    · cases h
  · simp only [VR] at hx; subst hx
    split at h
    · have := hF.fn _ _ h
      exact ⟨_, rfl, VR_conc (by rw [this]; simp only [VR, Nm.val])⟩
    · cases h
  · cases h
theorem byteC_sound {c : V} {u : Value} {b : Nat} (hc : VR σ ρ c u) (h : byteC c = some b) : ∃ n : Int, u = .int .u8 n ∧ UInt8.ofNat n.toNat = byteOf σ b := by
  unfold byteC at h
  split at h
  · simp only [VR] at hc; subst hc
    split at h
    · rename_i n
      split at h
      · rename_i hb; cases h
        exact ⟨_, rfl, by unfold byteOf byteN; rw [hb]; rfl⟩
      · cases h
    · cases h
  · rename_i i
    simp only [VR] at hc; subst hc
    cases h
    refine ⟨_, rfl, ?_⟩
    unfold byteOf byteN
    have : Nat.blt (256 + i) 256 = false := by
      cases hq : Nat.blt (256 + i) 256 with
      | false => rfl
      | true => rw [Nat.blt_eq] at hq; omega
    rw [this]
    show UInt8.ofNat (σ i).toNat = UInt8.ofNat (σ (256 + i - 256)).toNat
    rw [Nat.add_sub_cancel_left]
  · cases h
theorem bytesC_sound : ∀ {l : List V} {us : List Value} {b : List Nat}, VRs σ ρ l us → bytesC l = some b → ∃ ns : List Int, us = ns.map (Value.int .u8) ∧ ns.map (fun n => UInt8.ofNat n.toNat) = b.map (byteOf σ) := by
  intro l
  induction l with
  | nil => intro us b h hb; simp only [VRs] at h; simp only [bytesC, Option.some.injEq] at hb; subst h; subst hb; exact ⟨[], rfl, rfl⟩
  | cons c l ih =>
    intro us b h hb
    simp only [VRs] at h
    obtain ⟨u, r, h1, h2, rfl⟩ := h
    simp only [bytesC] at hb
    split at hb
    · rename_i b0 hb0
      split at hb
      · rename_i br hbr; cases hb
        obtain ⟨n, rfl, hn⟩ := byteC_sound h1 hb0
        obtain ⟨ns, rfl, hns⟩ := ih h2 hbr
        exact ⟨n :: ns, by simp, by simp [hn, hns]⟩
      · cases hb
    · cases hb
theorem push_bytes (ns : List Int) : ∀ (r : ByteArray), (ns.foldl (fun r n => r.push (UInt8.ofNat n.toNat)) r).data.toList = r.data.toList ++ ns.map (fun n => UInt8.ofNat n.toNat) := by
  induction ns with
  | nil => intro r; simp
  | cons n ns ih =>
    intro r
    simp only [List.foldl_cons, List.map_cons, ih]
    simp [ByteArray.push]
theorem cellB_sound {G : Nat → Int × Int} (hG : Gok G σ) {c : Nat} (h : okB G c = true) : VR σ ρ (cellB c) (.int .u8 ((byteOf σ c).toNat : Int)) := by
  obtain ⟨h1, h2, h3, h4⟩ := byteN_sound hG h
  unfold cellB
  unfold okB at h
  unfold byteN at h2
  cases hc : Nat.blt c 256 with
  | true => rw [hc] at h2; simp only [VR]; rw [h2]
  | false =>
    rw [hc] at h h2
    have h : (decide (0 ≤ (G (c - 256)).1) && decide ((G (c - 256)).2 ≤ 255)) = true := h
    simp only [Bool.and_eq_true, decide_eq_true_eq] at h
    have := hG (c - 256)
    have h2 : (byteOf σ c).toNat = (σ (c - 256)).toNat := h2
    simp only [VR]; rw [h2]
    congr 1
    omega
theorem allB_sound {G : Nat → Int × Int} (hG : Gok G σ) : ∀ {l : List Nat}, allB G l = true → VRs σ ρ (l.map cellB) (l.map fun c => .int .u8 ((byteOf σ c).toNat : Int)) := by
  intro l
  induction l with
  | nil => intro _; simp [VRs]
  | cons c l ih =>
    intro h
    simp only [allB] at h
    split at h
    · rename_i hc
      simp only [List.map_cons, VRs]
      exact ⟨_, _, cellB_sound hG hc, ih h, rfl⟩
    · cases h
theorem u8T_sound {e : TypeId} (h : u8T P e = true) : P.underlying e = some (.int .u8) := by
  unfold u8T at h; split at h
  · assumption
  · cases h
theorem u8S_sound {d : TypeDesc} (h : u8S P d = true) : ∃ e, d = .slice e ∧ P.underlying e = some (.int .u8) := by
  unfold u8S at h; split at h
  · exact ⟨_, rfl, u8T_sound h⟩
  · cases h
theorem strOf_sound {id b n off len cap : Nat} (hs : Sim σ ρ s W) (hr : ρ id = some (b, n)) (h : strOf (cellsOf s id) off len = some v) :
    ∃ u, (Conv.bytesToString (.slice (some ⟨b, off, none⟩) len cap)).run P W = .ok u W ∧ VR σ ρ v u := by
  unfold strOf at h
  split at h
  · rename_i l hl
    obtain ⟨b', n', c, t, fz, h1, h2, h3, h4, h5, h6⟩ := cellsOf_some hs hl
    rw [hr] at h1; cases h1
    split at h
    · rename_i r hc
      split at h
      · rename_i bs hb
        cases h
        obtain ⟨us, k1, k2, k3, k4⟩ := run_cut (P := P) h4 h2 hc
        obtain ⟨ns, rfl, hns⟩ := bytesC_sound k1 hb
        refine ⟨_, run_bytesToString W _ len cap ns k3, ?_⟩
        simp only [VR]
        refine ⟨_, ?_, rfl⟩
        unfold BR
        rw [push_bytes, hns]; simp
      · cases h
    · cases h
  · cases h
theorem bytes_data {l : List Nat} {x : ByteArray} (h : BR σ l x) : x.data.map (fun b : UInt8 => Value.int .u8 (b.toNat : Int)) = (l.map fun c => Value.int .u8 ((byteOf σ c).toNat : Int)).toArray := by
  apply Array.ext'
  rw [Array.toList_map, h, List.map_map]; rfl
def BtOk (P : Program) (t : TypeId) : Prop := ∀ (W : World) (src dst : TypeId) (ds d : TypeDesc) (b : Nat) (c : Array Value) (fz : Nat × Nat), P.underlying src = some ds → P.underlying dst = some d → dirOk t ds d = true →
  W.heap[b]? = some (.cells c t fz) → sizeT P t = some c.size → (convert src dst (.pointer (some ⟨b, 0, none⟩))).run P W = .ok (.pointer (some ⟨b, 0, none⟩)) W
theorem typB_some {t : TypeId} {o : Option B} (h : typB P t o = true) : ∃ l, o = some (.typ true t l) ∧ sizeT P t = some l.length := by
  unfold typB at h
  split at h
  · simp only [Bool.and_eq_true, Nat.beq_eq] at h
    obtain ⟨rfl, h⟩ := h
    split at h
    · rename_i n hn; rw [Nat.beq_eq, llen_eq] at h; exact ⟨_, rfl, by rw [hn, h]⟩
    · cases h
  · cases h
theorem conv_sound {E : Env} (hB : BtOk E.P E.bt) (hG : Gok E.G σ) (hF : Fok E σ) (hs : Sim σ ρ s W) {src dst : TypeId} {x : V} {ux : Value} (hx : VR σ ρ x ux) (h : conv E src dst x s = some (v, s')) :
    Ok1 E.P σ ρ s W v s' (convert src dst ux) := by
  unfold conv at h
  split at h
  · rename_i ds hsd
    split at h
    · rename_i d hd
      unfold conv2 at h
      split at h
      · have hh := ret_some h; clear h; obtain ⟨h, rfl⟩ := hh
        refine Ok1.val hs ?_
        unfold convP at h
        split at h
        · rename_i hc
          cases h
          simp only [Bool.and_eq_true, Nat.beq_eq] at hc
          obtain ⟨⟨rfl, hc1⟩, hc2⟩ := hc
          obtain ⟨l, hl, hn⟩ := typB_some hc2
          obtain ⟨b, n, o, h1, h2, h3⟩ := hs.blk _ _ hl
          obtain ⟨c, fz, rfl, h4, ⟨h5, h7⟩, h6⟩ := h3
          simp only [VR] at hx
          obtain ⟨b', n', k1, rfl⟩ := hx
          rw [h1] at k1; cases k1
          exact ⟨_, hB W src dst ds d b c fz hsd hd hc1 h2 (by rw [hn, h7 rfl, h4]), by simp only [VR]; exact ⟨_, _, h1, rfl⟩⟩
        · cases h
      · simp only [VR] at hx; subst hx
        have hh := ret_some h; clear h; obtain ⟨h, rfl⟩ := hh
        refine Ok1.val hs ?_
        unfold convI at h
        split at h
        · cases h; exact ⟨_, by simp [convert, run_underlying hsd, run_underlying hd, Conv.intToInt]; rfl, by simp only [VR, wrapK_eq]⟩
        · cases h; exact ⟨_, by simp [convert, run_underlying hsd, run_underlying hd, Conv.intToFloat]; rfl, by simp only [VR]⟩
        · cases h
      · rename_i k i
        simp only [VR] at hx; subst hx
        have hh := ret_some h; clear h; obtain ⟨h, rfl⟩ := hh
        refine Ok1.val hs ?_
        cases d <;> simp only [convSI] at h <;> try contradiction
        · rename_i k2
          split at h
          · rename_i hf; cases h
            refine ⟨.int k2 (σ i), ?_, by simp only [VR]⟩
            have := hG i
            have hw : k2.wrap (σ i) = σ i := by
              unfold fitsK at hf
              simp only [Bool.and_eq_true, decide_eq_true_eq] at hf
              have h1 : k2.min ≤ σ i := by omega
              have h2 : σ i ≤ k2.max := by omega
              clear hf hs hd hsd hG
              cases k2 <;> simp [IntKind.wrap, IntKind.min, IntKind.max, IntKind.bits, IntKind.signed] at h1 h2 ⊢ <;> omega
            simp [convert, run_underlying hsd, run_underlying hd, Conv.intToInt, hw]
          · cases h
        · rename_i k2
          cases k2 <;> simp only at h <;> try contradiction
          have := hF.fc _ _ h
          exact ⟨_, by simp [convert, run_underlying hsd, run_underlying hd, Conv.intToFloat]; rfl, VR_conc (by rw [this]; simp only [VR, Nm.val])⟩
      · rename_i i
        simp only [VR] at hx; subst hx
        have hh := ret_some h; clear h; obtain ⟨h, rfl⟩ := hh
        refine Ok1.val hs ?_
        unfold convSF at h
        split at h
        · rename_i k2
          have hq := hF.fi _ _ _ h
          unfold convF at hq
          simp only [Nm.val] at hq
          unfold inK at hq
          split at hq
          · rename_i n hn
            split at hq
            · rename_i hk
              simp only [Option.some.injEq] at hq
              simp only [Bool.and_eq_true, decide_eq_true_eq] at hk
              exact ⟨_, by simp [convert, run_underlying hsd, run_underlying hd, Conv.floatToInt, hn, hk]; rfl, VR_conc (by rw [← hq]; simp only [VR])⟩
            · cases hq
          · cases hq
        · cases h
      · simp only [VR] at hx; subst hx
        have hh := ret_some h; clear h; obtain ⟨h, rfl⟩ := hh
        refine Ok1.val hs ?_
        unfold convF at h
        split at h
        · unfold inK at h
          split at h
          · rename_i n hn
            split at h
            · rename_i hk; cases h
              simp only [Bool.and_eq_true, decide_eq_true_eq] at hk
              exact ⟨_, by simp [convert, run_underlying hsd, run_underlying hd, Conv.floatToInt, hn, hk]; rfl, by simp only [VR]⟩
            · cases h
          · cases h
        · cases h
      · rename_i l
        simp only [VR] at hx
        obtain ⟨xa, hxa, rfl⟩ := hx
        unfold convS at h
        split at h
        · cases h
          exact Ok1.val hs ⟨_, by simp [convert, run_underlying hsd, run_underlying hd]; rfl, by simp only [VR]; exact ⟨_, hxa, rfl⟩⟩
        · rename_i e
          split at h
          · rename_i hc
            simp only [Bool.and_eq_true] at hc
            obtain ⟨⟨hc1, hc2⟩, hc3⟩ := hc
            have he := u8T_sound hc1
            have hcell := allB_sound (ρ := ρ) hG hc2
            rw [llen_eq] at h
            have hsz := BR_size hxa
            have hq : (Question.appendCap xa.size 0 e).forced = false := rfl
            obtain ⟨cap, hcap, hge⟩ : ∃ cap, (Question.appendCap xa.size 0 e).cut (W.tape W.drawn (.appendCap xa.size 0 e)) = cap ∧ xa.size ≤ cap := ⟨_, rfl, by simp [Question.cut]⟩
            obtain ⟨ca, hca⟩ : ∃ ca, ca = (l.map fun c => Value.int .u8 ((byteOf σ c).toNat : Int)).toArray ++ Array.replicate (cap - xa.size) (.int .u8 0) := ⟨_, rfl⟩
            have hcs : ca.size = cap := by rw [hca]; simp; omega
            have hnew : (W.drew.alloc (.cells ca e)).heap[W.heap.size]? = some (.cells ca e) := by
              show (W.heap.push (Obj.cells ca e))[W.heap.size]? = _
              simp
            have hsh : (W.drew.alloc (.cells ca e)).shape? W.heap.size = some (e, cap) := by simp only [World.shape?, hnew, hcs]
            have hrun : (convert src dst (.string xa)).run E.P W = .ok (.slice (some ⟨W.heap.size, 0, none⟩) xa.size cap)
                ((W.drew.alloc (.cells ca e)).freeze ⟨W.heap.size, cap, none⟩ 1) := by
              simp [convert, run_underlying hsd, run_underlying hd, run_underlying he, Conv.stringToBytes, hq, hcap, newRow, bytes_data hxa, markStringish, ← hca, hsh]
            have hfz : ((W.drew.alloc (.cells ca e)).freeze ⟨W.heap.size, cap, none⟩ 1).heap[W.heap.size]? = some (.cells ca e (cap, cap + 1)) := by
              simp only [World.freeze, Nat.succ_ne_zero, if_false, Array.getElem?_modify, hnew, if_true, Option.map_some]
              rfl
            refine Ok1.new (n := cap) hs h ⟨_, _, _, hrun, hfz, ?_, ?_, ?_, ?_, ?_, ?_⟩
            · intro j hj
              simp only [World.freeze, Nat.succ_ne_zero, if_false, Array.getElem?_modify]
              rw [if_neg (by omega)]
              show (W.heap.push (Obj.cells ca e))[j]? = _
              simp [Array.getElem?_push, Nat.ne_of_lt hj]
            · simp only [World.freeze, Nat.succ_ne_zero, if_false, Array.size_modify]
              show _ ≤ (W.heap.push (Obj.cells ca e)).size
              simp
            · rfl
            · rfl
            · rfl
            · intro ρ' h1 h2
              refine ⟨?_, _, _, _, rfl, hcs, ?_, fun i hi => by simp; omega⟩
              · simp only [VR]; exact ⟨_, _, cap, h2, by omega, by omega, by omega, by rw [hsz]⟩
              · refine CR_of (VRs.mono h1 _ _ hcell) (fun j hj => ?_)
                rw [hca, Array.getElem?_append_left (by simpa using hj)]; simp
          · cases h
        · cases h
      · have hh := ret_some h; clear h; obtain ⟨h, rfl⟩ := hh
        refine Ok1.val hs ?_
        unfold convL at h
        split at h
        · rename_i hc
          simp only [Bool.and_eq_true] at hc
          obtain ⟨e, rfl, he⟩ := u8S_sound hc.2
          have hd' : d = .string := by
            have := hc.1; unfold isStr at this; split at this
            · rfl
            · cases this
          subst hd'
          split at h
          · simp only [VR] at hx; subst hx; cases h
            exact ⟨.string .empty, by rw [run_convert_bytes_string W src dst e _ _ _ hsd he hd]; rfl, by simp only [VR]; exact ⟨_, by simp [BR], rfl⟩⟩
          · simp only [VR] at hx; obtain ⟨a, cap, rfl⟩ := hx; cases h
            exact ⟨.string .empty, by rw [run_convert_bytes_string W src dst e _ _ _ hsd he hd]; exact run_bytesToString W a 0 cap [] rfl, by simp only [VR]; exact ⟨_, by simp [BR], rfl⟩⟩
          · simp only [VR] at hx
            obtain ⟨b, n, cap, h1, h2, h3, h4, rfl⟩ := hx
            split at h
            · rw [run_convert_bytes_string W src dst e _ _ _ hsd he hd]
              exact strOf_sound hs h1 h
            · cases h
          · cases h
        · cases h
    · cases h
  · cases h
end vals
def EvOk (σ : Nat → Int) (ρ : Rho) (f : F) (e : Operand → Value) (x : Operand) : Prop := ∀ v, ev f x = some v → VR σ ρ v (e x)
section more
variable {σ : Nat → Int} {ρ : Rho} {s s' : St} {W : World} {P : Program} {v : V} {f : F} {e : Operand → Value}
theorem fieldOf_sound {t : TypeId} {i : Nat} {q : Nat × Nat × TypeId} (h : fieldOf P t i = some q) : ∃ fs fd, P.underlying t = some (.struct fs) ∧ fs[i]? = some fd ∧ fd.offset = q.1 ∧ sizeT P fd.type = some q.2.1 ∧ fd.type = q.2.2 := by
  unfold fieldOf at h
  split at h
  · rename_i fs hd
    split at h
    · rename_i fd hf
      split at h
      · rename_i n hn; cases h
        rw [lget_eq] at hf
        exact ⟨fs, fd, hd, by simpa using hf, rfl, hn, rfl⟩
      · cases h
    · cases h
  · cases h
theorem opField_sound {t : TypeId} {i : Nat} {x : Option V} {ux : Value} (hx : ∀ v, x = some v → VR σ ρ v ux) (h : opField P t i x = some v) : ∃ u, (Instr.fieldAt t ux i).run P W = .ok u W ∧ VR σ ρ v u := by
  unfold opField at h
  split at h
  · rename_i id off
    have hx := hx _ rfl
    simp only [VR] at hx
    obtain ⟨b, n, hr, rfl⟩ := hx
    split at h
    · rename_i q hq
      obtain ⟨fs, fd, h1, h2, h3, h4, h5⟩ := fieldOf_sound hq
      split at h
      · cases h
      · rename_i hn
        cases h
        refine ⟨.pointer (some ⟨b, off + q.1, none⟩), ?_, by simp only [VR]; exact ⟨b, n, hr, rfl⟩⟩
        have hz : ¬ q.2.1 = 0 := fun e => hn e
        simp [Instr.fieldAt, run_underlying h1, h2, Instr.sureAddr, fieldPlace, run_sizeT h4, hz, addr_add, h3]
    · cases h
  · cases h
theorem run_part {t : TypeId} {l : List V} {us : List Value} {o n : Nat} (hl : VRs σ ρ l us) (hn : sizeT P t = some n) (h : partV P t l o n = some v) : ∃ u, (part t us.toArray o).run P W = .ok u W ∧ VR σ ρ v u := by
  unfold partV at h
  split at h
  · rename_i c hc
    obtain ⟨h1, h2⟩ := lcut_some hc
    have hlen := hl.len
    have hcs : VRs σ ρ c ((us.drop o).take n) := by
      refine VRs.of_get (by rw [lcut_len hc]; simp; omega) fun i w hw => ?_
      have hi : i < n := by rw [← lcut_len hc]; exact (List.getElem?_eq_some_iff.1 hw).1
      rw [lcut_get hc hi] at hw
      obtain ⟨u, k1, k2⟩ := hl.get hw
      exact ⟨u, by simp [List.getElem?_take, hi, List.getElem?_drop, k1], k2⟩
    obtain ⟨d, hd, q⟩ := mk1_VR h hcs
    rcases q with ⟨ha, hv⟩ | ⟨ha, u, hu, hv⟩
    · refine ⟨_, ?_, hv⟩
      simp only [part, Sem.run_bind, run_aggT hd, ha, Result.andThen_ok, if_true, run_sizeT hn, Sem.run_pure]
      congr 2
      apply Array.ext'
      simp [List.extract, List.drop_take]
    · refine ⟨u, ?_, hv⟩
      have hg : us[o]? = some u := by
        have : ((us.drop o).take n)[0]? = some u := by rw [hu]; rfl
        have hn1 : n = 1 := by have := congrArg List.length hu; simp at this; omega
        subst hn1
        simpa [List.getElem?_take, List.getElem?_drop] using this
      simp [part, run_aggT hd, ha, hg]
  · cases h
theorem opPart_sound {t : TypeId} {i : Nat} {x : Option V} {ux : Value} (hx : ∀ v, x = some v → VR σ ρ v ux) (h : opPart P t i x = some v) : ∃ u, (Instr.field t ux i).run P W = .ok u W ∧ VR σ ρ v u := by
  unfold opPart at h
  split at h
  · rename_i l
    have hx := hx _ rfl
    simp only [VR] at hx
    obtain ⟨us, hl, rfl⟩ := hx
    split at h
    · rename_i q hq
      obtain ⟨fs, fd, h1, h2, h3, h4, h5⟩ := fieldOf_sound hq
      obtain ⟨u, k1, k2⟩ := run_part (W := W) hl (t := q.2.2) (by rw [← h5]; exact h4) h
      refine ⟨u, ?_, k2⟩
      simp [Instr.field, run_underlying h1, h2, asAgg, h3, h5, k1]
    · cases h
  · cases h
theorem natOf_sound {x : V} {ux : Value} {i : Nat} (hx : VR σ ρ x ux) (h : natOf x = some i) : ∃ k, ux = .int k (i : Int) := by
  unfold natOf at h
  split at h
  · simp only [VR] at hx; cases h; exact ⟨_, hx⟩
  · cases h
theorem sizeT_bare {t : TypeId} {n : Nat} (h : sizeT P t = some n) : ∃ i, P.info? t = some i ∧ i.size = n := by
  unfold sizeT at h
  split at h
  · rename_i i hi; cases h; exact ⟨i, hi, rfl⟩
  · cases h
theorem indexAddr_sound {t : TypeId} {x i : V} {ux ui : Value} (hx : VR σ ρ x ux) (hi : VR σ ρ i ui) (h : indexAddrV P t x i = some v) : ∃ u, (Instr.indexAt t ux ui).run P W = .ok u W ∧ VR σ ρ v u := by
  unfold indexAddrV at h
  split at h
  · rename_i j hj
    obtain ⟨k, rfl⟩ := natOf_sound hi hj
    unfold indexA at h
    split at h
    · rename_i id off len es
      simp only [VR] at hx
      obtain ⟨b, n, cap, h1, h2, h3, h4, rfl⟩ := hx
      split at h
      · rename_i e hd
        split at h
        · rename_i m hm
          unfold placeA at h
          split at h
          · rename_i hc; cases h
            simp only [Bool.and_eq_true] at hc
            rw [Nat.blt_eq, Nat.beq_eq] at hc
            refine ⟨.pointer (some ⟨b, off + j * m, none⟩), ?_, by simp only [VR]; exact ⟨b, n, h1, rfl⟩⟩
            simp [Instr.indexAt, asIntOf, run_underlying hd, hc.1, run_sizeT hm, addr_add]
          · cases h
        · cases h
      · cases h
    · rename_i id off
      simp only [VR] at hx
      obtain ⟨b, n, h1, rfl⟩ := hx
      split at h
      · rename_i len e hd
        split at h
        · rename_i m hm
          unfold placeA at h
          split at h
          · rename_i hc; cases h
            rw [Nat.blt_eq] at hc
            refine ⟨.pointer (some ⟨b, off + j * m, none⟩), ?_, by simp only [VR]; exact ⟨b, n, h1, rfl⟩⟩
            simp [Instr.indexAt, asIntOf, run_underlying hd, hc, run_sizeT hm, addr_add, Instr.sureAddr]
          · cases h
        · cases h
      · cases h
    · cases h
  · cases h
theorem byteV_sound {G : Nat → Int × Int} (hG : Gok G σ) {l : List Nat} {x : ByteArray} {i : Nat} (hx : BR σ l x) (h : byteV G (lget l i) = some v) : ∃ b, x[i]? = some b ∧ VR σ ρ v (.int .u8 (b.toNat : Int)) := by
  unfold byteV at h
  split at h
  · rename_i c hc
    split at h
    · rename_i ho; cases h
      rw [lget_eq] at hc
      refine ⟨byteOf σ c, ?_, cellB_sound hG ho⟩
      have : x.data.toList[i]? = some (byteOf σ c) := by rw [hx]; simp [hc]
      have hi : i < x.size := by
        have := (List.getElem?_eq_some_iff.1 this).1
        simpa using this
      rw [getElem?_pos x i hi]
      have h2 : x.data[i]? = some (byteOf σ c) := by simpa using this
      rw [Array.getElem?_eq_some_iff] at h2
      obtain ⟨_, h3⟩ := h2
      exact congrArg some h3
    · cases h
  · cases h
theorem index_sound {E : Env} (hG : Gok E.G σ) {t : TypeId} {x i : V} {ux ui : Value} (hx : VR σ ρ x ux) (hi : VR σ ρ i ui) (h : indexV E t x i = some v) : ∃ u, (Instr.index t ux ui).run E.P W = .ok u W ∧ VR σ ρ v u := by
  unfold indexV at h
  split at h
  · rename_i j hj
    obtain ⟨k, rfl⟩ := natOf_sound hi hj
    unfold indexN at h
    split at h
    · rename_i l
      simp only [VR] at hx
      obtain ⟨xa, hxa, rfl⟩ := hx
      split at h
      · rename_i hd
        obtain ⟨b, h1, h2⟩ := byteV_sound (ρ := ρ) hG hxa h
        exact ⟨_, by simp [Instr.index, asIntOf, run_underlying hd, h1], h2⟩
      · cases h
    · rename_i l
      simp only [VR] at hx
      obtain ⟨us, hl, rfl⟩ := hx
      split at h
      · rename_i len e hd
        split at h
        · rename_i n hn
          split at h
          · rename_i hc
            rw [Nat.blt_eq] at hc
            obtain ⟨u, k1, k2⟩ := run_part (W := W) hl hn h
            exact ⟨u, by simp [Instr.index, asIntOf, run_underlying hd, hc, run_sizeT hn, k1], k2⟩
          · cases h
        · cases h
      · cases h
    · cases h
  · cases h
theorem optN_sound {o : Option Operand} {d a : Nat} (hx : ∀ x, o = some x → EvOk σ ρ f e x) (h : optN f d o = some a) : (o = none ∧ a = d) ∨ ∃ x k, o = some x ∧ e x = .int k (a : Int) := by
  cases o with
  | none => simp only [optN, Option.some.injEq] at h; exact .inl ⟨rfl, h.symm⟩
  | some x =>
    simp only [optN] at h
    unfold optV at h
    split at h
    · rename_i v hv
      obtain ⟨k, hk⟩ := natOf_sound (hx x rfl v hv) h
      exact .inr ⟨x, k, rfl, hk⟩
    · cases h
theorem is0_eq {o : Option Nat} (h : is0 o = true) : o = some 0 := by
  unfold is0 at h; split at h
  · rfl
  · cases h
theorem bounds_sound {lo hi mx : Option Operand} {len cap a b m : Nat} {isS : Bool} (hlo : ∀ x, lo = some x → EvOk σ ρ f e x) (hhi : ∀ x, hi = some x → EvOk σ ρ f e x) (hmx : ∀ x, mx = some x → EvOk σ ρ f e x)
    (ha : optN f 0 lo = some a) (hb : optN f len hi = some b) (hm : optN f len mx = some m) (h1 : a ≤ b) (h2 : b ≤ m) (h3 : m ≤ len) (h4 : len ≤ cap) (hq : ¬ (hi = none ∧ mx.isSome)) :
    ∃ m', (Instr.sliceBounds isS len cap (lo.map e) (hi.map e) (mx.map e)).run P W = .ok (a, b, m') W ∧ b ≤ m' ∧ m' ≤ cap := by
  rcases optN_sound hlo ha with ⟨rfl, rfl⟩ | ⟨xl, kl, rfl, el⟩ <;> rcases optN_sound hhi hb with ⟨rfl, rfl⟩ | ⟨xh, kh, rfl, eh⟩ <;> rcases optN_sound hmx hm with ⟨rfl, rfl⟩ | ⟨xm, km, rfl, em⟩
  · exact ⟨cap, by simp [Instr.sliceBounds], by omega, by omega⟩
  · exact absurd ⟨rfl, rfl⟩ hq
  · exact ⟨cap, by simp [Instr.sliceBounds, Instr.sliceBound, asIntOf, eh, (by omega : b ≤ cap)], by omega, by omega⟩
  · exact ⟨m, by simp [Instr.sliceBounds, Instr.sliceBound, asIntOf, eh, em, (by omega : m ≤ cap), h2], by omega, by omega⟩
  · exact ⟨cap, by simp [Instr.sliceBounds, Instr.sliceBound, asIntOf, el, h1], by omega, by omega⟩
  · exact absurd ⟨rfl, rfl⟩ hq
  · exact ⟨cap, by simp [Instr.sliceBounds, Instr.sliceBound, asIntOf, eh, el, h1, (by omega : b ≤ cap)], by omega, by omega⟩
  · exact ⟨m, by simp [Instr.sliceBounds, Instr.sliceBound, asIntOf, eh, em, el, h1, (by omega : m ≤ cap), h2], by omega, by omega⟩
theorem slice_sound {t : TypeId} {x : V} {ux : Value} {lo hi mx : Option Operand} (hlo : ∀ x, lo = some x → EvOk σ ρ f e x) (hhi : ∀ x, hi = some x → EvOk σ ρ f e x) (hmx : ∀ x, mx = some x → EvOk σ ρ f e x)
    (hx : VR σ ρ x ux) (h : sliceV P t x f lo hi mx = some v) : ∃ u, (Instr.sliceAt t ux (lo.map e) (hi.map e) (mx.map e)).run P W = .ok u W ∧ VR σ ρ v u := by
  unfold sliceV at h
  split at h
  · rename_i hq
    have hq : ¬ (hi = none ∧ mx.isSome) := by
      rintro ⟨rfl, h2⟩
      cases mx with
      | none => simp at h2
      | some _ => simp at hq
    split at h
    · rename_i l
      simp only [VR] at hx
      obtain ⟨xa, hxa, rfl⟩ := hx
      split at h
      · rename_i hd
        unfold cutS at h
        split at h
        · rename_i a ha
          split at h
          · rename_i b hb
            split at h
            · rename_i hc
              simp only [Bool.and_eq_true] at hc
              obtain ⟨⟨hc1, hc2⟩, hc3⟩ := hc
              have hmn : mx = none := by cases mx <;> simp at hc1; rfl
              subst hmn
              rw [Nat.ble_eq] at hc2 hc3
              rw [llen_eq] at hc3 hb
              split at h
              · rename_i c hcut; cases h
                obtain ⟨k1, k2⟩ := lcut_some hcut
                have hsz := BR_size hxa
                obtain ⟨m', r1, r2, r3⟩ := bounds_sound (P := P) (W := W) (isS := false) (cap := xa.size) (m := xa.size) (len := xa.size) hlo hhi hmx ha (by rw [hsz]; exact hb) rfl hc2 (by omega) (Nat.le_refl _) (Nat.le_refl _) hq
                refine ⟨.string (xa.extract a b), ?_, ?_⟩
                · simp only [Option.map_none] at r1
                  simp [Instr.sliceAt, run_underlying hd, Instr.slice, r1]
                · simp only [VR]
                  refine ⟨_, ?_, rfl⟩
                  unfold BR at hxa ⊢
                  rw [ByteArray.data_extract, Array.toList_extract, hxa, k2]
                  simp [List.extract, List.map_take, List.map_drop]
              · cases h
            · cases h
          · cases h
        · cases h
      · cases h
    · rename_i id off len es
      simp only [VR] at hx
      obtain ⟨b0, n, cap, h1, h2, h3, h4, rfl⟩ := hx
      split at h
      · rename_i el hd
        unfold cutL at h
        split at h
        · rename_i n0 hn
          split at h
          · rename_i a ha
            split at h
            · rename_i b hb
              split at h
              · rename_i m hm
                split at h
                · rename_i hc
                  simp only [Bool.and_eq_true] at hc
                  obtain ⟨⟨⟨hc1, hc2⟩, hc3⟩, hc4⟩ := hc
                  rw [Nat.ble_eq] at hc1 hc2 hc3
                  rw [Nat.beq_eq] at hc4
                  subst hc4
                  obtain ⟨m', r1, r2, r3⟩ := bounds_sound (P := P) (W := W) (isS := true) (cap := cap) hlo hhi hmx ha hb hm hc1 hc2 hc3 h3 hq
                  refine ⟨.slice (if m' = a then some ⟨b0, off, none⟩ else (some (⟨b0, off, none⟩ : Addr)).map (·.add (a * n0))) (b - a) (m' - a), ?_, ?_⟩
                  · simp [Instr.sliceAt, run_underlying hd, Instr.slice, r1, run_sizeT hn]
                  · split at h
                    · rename_i hab
                      rw [Nat.beq_eq] at hab
                      subst hab
                      split at h
                      · rename_i h0; cases h
                        rw [Nat.beq_eq] at h0
                        subst h0
                        simp only [VR]
                        refine ⟨b0, n, m', h1, ?_, by omega, h4, ?_⟩
                        · have : m' * n0 ≤ cap * n0 := Nat.mul_le_mul_right _ r3
                          omega
                        · split
                          · rename_i e; subst e; simp
                          · simp [addr_add]
                      cases h
                      simp only [VR]
                      split
                      · exact ⟨_, _, by rw [Nat.sub_self]⟩
                      · exact ⟨_, _, by rw [Nat.sub_self]; rfl⟩
                    · rename_i hab; cases h
                      have hab : ¬ a = b := by rw [← Nat.beq_eq, hab]; simp
                      rw [if_neg (by omega)]
                      simp only [VR]
                      refine ⟨b0, n, m' - a, h1, ?_, by omega, h4, by simp [addr_add]⟩
                      have : a * n0 + (m' - a) * n0 = m' * n0 := by rw [← Nat.add_mul]; congr 1; omega
                      have : m' * n0 ≤ cap * n0 := Nat.mul_le_mul_right _ r3
                      omega
                · cases h
              · cases h
            · cases h
          · cases h
        · cases h
      · cases h
    · simp only [VR] at hx; subst hx
      split at h
      · rename_i el hd
        split at h
        · rename_i hc; cases h
          simp only [Bool.and_eq_true] at hc
          obtain ⟨⟨⟨hc1, hc2⟩, hc3⟩, hc4⟩ := hc
          obtain ⟨n0, hn⟩ := Option.isSome_iff_exists.1 hc1
          obtain ⟨m', r1, r2, r3⟩ := bounds_sound (P := P) (W := W) (isS := true) (cap := 0) hlo hhi hmx (is0_eq hc2) (is0_eq hc3) (is0_eq hc4) (Nat.le_refl _) (Nat.le_refl _) (Nat.le_refl _) (Nat.le_refl _) hq
          have : m' = 0 := by omega
          subst this
          exact ⟨.slice none 0 0, by simp [Instr.sliceAt, run_underlying hd, Instr.slice, r1, run_sizeT hn], by simp only [VR]⟩
        · cases h
      · cases h
    · simp only [VR] at hx
      obtain ⟨a0, cap, rfl⟩ := hx
      split at h
      · rename_i el hd
        split at h
        · rename_i hc; cases h
          simp only [Bool.and_eq_true] at hc
          obtain ⟨⟨⟨hc1, hc2⟩, hc3⟩, hc4⟩ := hc
          have hmn : mx = none := by cases mx <;> simp at hc4; rfl
          subst hmn
          obtain ⟨n0, hn⟩ := Option.isSome_iff_exists.1 hc1
          obtain ⟨m', r1, r2, r3⟩ := bounds_sound (P := P) (W := W) (isS := true) (len := 0) (cap := cap) (m := 0) hlo hhi hmx (is0_eq hc2) (is0_eq hc3) rfl (Nat.le_refl _) (Nat.le_refl _) (Nat.le_refl _) (Nat.zero_le _) hq
          simp only [Option.map_none] at r1
          refine ⟨.slice (if m' = 0 then some a0 else some (a0.add 0)) 0 m', by simp [Instr.sliceAt, run_underlying hd, Instr.slice, r1, run_sizeT hn], ?_⟩
          simp only [VR]
          split
          · exact ⟨_, _, rfl⟩
          · exact ⟨_, _, rfl⟩
        · cases h
      · cases h
    · cases h
  · cases h
end more
section rows
variable {σ : Nat → Int} {ρ : Rho} {s s' s1 : St} {W : World} {P : Program} {v : V} {f : F} {e : Operand → Value}
theorem Stp.new2 (h1 : Sim σ ρ s1 W) (hd : Stp σ ρ s W ρ s1 W) (hn1 : s1.next = s.next) {x : B} {b n : Nat} {o : Obj} {W1 : World} (hb : ∀ i m, (s1.heap.get i).isSome → ρ i ≠ some (b, m))
    (ho : W1.heap[b]? = some o) (hOR : OR σ (ext1 ρ s1.next (b, n)) n x o) (hf : ∀ j, j ≠ b → j < W.heap.size → W1.heap[j]? = W.heap[j]?) (hz : W.heap.size ≤ W1.heap.size)
    (hlv : b < W.heap.size → ∃ j, (s.heap.get j).isSome ∧ ρ j = some (b, n)) (e2 : W1.os = W.os) (e3 : W1.tape = W.tape) (e4 : W1.output = W.output) : Stp σ ρ s W (ext1 ρ s1.next (b, n)) (s1.new x) W1 := by
  have hget : ∀ i y, (s1.new x).heap.get i = some y → (s1.heap.get i = some y ∧ i ≠ s1.next) ∨ (i = s1.next ∧ x = y) := by
    intro i y hy
    rcases T.get_add 40 s1.heap s1.next (some x) i with e | ⟨e1, e2⟩
    · rw [show (s1.new x).heap.get i = s1.heap.get i from e] at hy
      refine .inl ⟨hy, ?_⟩
      have := h1.lt (id := i) (by rw [hy]; rfl)
      omega
    · refine .inr ⟨e1, ?_⟩
      rw [show (s1.new x).heap.get i = some x from e2] at hy
      exact Option.some.inj hy
  have hlive : ∀ i, ((s1.new x).heap.get i).isSome → ((s1.heap.get i).isSome ∧ i ≠ s1.next) ∨ i = s1.next := by
    intro i hi
    obtain ⟨y, hy⟩ := Option.isSome_iff_exists.1 hi
    rcases hget i y hy with ⟨a, c⟩ | ⟨a, _⟩
    · exact .inl ⟨by rw [a]; rfl, c⟩
    · exact .inr a
  have hm := ext1_mono h1 (b, n)
  have hbs : b < W1.heap.size := by
    rcases Nat.lt_or_ge b W1.heap.size with c | c
    · exact c
    · rw [Array.getElem?_eq_none c] at ho; cases ho
  refine ⟨⟨?_, ?_, ?_, ?_⟩, ?_, by show s.next ≤ s1.next + 1; omega, hz, ?_, ?_, hd.low, ?_, e2, e3, e4⟩
  · intro i y hy
    rcases hget i y hy with ⟨a, c⟩ | ⟨a, c⟩
    · obtain ⟨b', n', o', h3, h4, h5⟩ := h1.blk i y a
      have hlt := h1.old i b' n' h3
      refine ⟨b', n', o', hm _ _ h3, ?_, OR.mono hm h5⟩
      rw [hf b' ?_ hlt, h4]
      intro e'
      exact hb i n' (by rw [a]; rfl) (e' ▸ h3)
    · subst a; subst c
      exact ⟨b, n, o, by simp [ext1], ho, hOR⟩
  · intro i j b' n' m' hi hj ri rj
    unfold ext1 at ri rj
    rcases hlive i hi with ⟨a1, a2⟩ | a <;> rcases hlive j hj with ⟨c1, c2⟩ | c
    · rw [if_neg a2] at ri; rw [if_neg c2] at rj; exact h1.inj i j _ _ _ a1 c1 ri rj
    · rw [if_neg a2] at ri; rw [if_pos c] at rj
      obtain ⟨rfl, rfl⟩ : b = b' ∧ n = m' := by simpa using rj
      exact absurd ri (hb i _ a1)
    · rw [if_pos a] at ri; rw [if_neg c2] at rj
      obtain ⟨rfl, rfl⟩ : b = b' ∧ n = n' := by simpa using ri
      exact absurd rj (hb j _ c1)
    · rw [a, c]
  · intro i hi
    have hi : s1.next + 1 ≤ i := hi
    unfold ext1; rw [if_neg (by omega)]; exact h1.dom i (by omega)
  · intro i b' n' hi
    unfold ext1 at hi
    split at hi
    · obtain ⟨rfl, rfl⟩ : b = b' ∧ n = n' := by simpa using hi
      exact hbs
    · exact Nat.lt_of_lt_of_le (h1.old i b' n' hi) hz
  · intro i hi; unfold ext1; rw [if_neg (by omega)]
  · intro j hj hnl
    refine hf j ?_ hj
    intro e'
    subst e'
    obtain ⟨i, k1, k2⟩ := hlv hj
    exact hnl i n k1 k2
  · intro i b' n' hi ri hlt
    unfold ext1 at ri
    rcases hlive i hi with ⟨a1, a2⟩ | a
    · rw [if_neg a2] at ri; exact hd.live i b' n' a1 ri hlt
    · rw [if_pos a] at ri
      obtain ⟨rfl, rfl⟩ : b = b' ∧ n = n' := by simpa using ri
      exact hlv hlt
  · intro i hi hl
    rw [← hd.kept i hi hl]
    rcases T.get_add 40 s1.heap s1.next (some x) i with e | ⟨e1, _⟩
    · exact e
    · omega
theorem foldl_get (off : Nat) : ∀ (vs : List Value) (k : Nat) (cs : Array Value), off + k + vs.length ≤ cs.size →
    ((vs.zipIdx k).foldl (fun cs (p : Value × Nat) => cs.setIfInBounds (off + p.2) p.1) cs).size = cs.size ∧
    ∀ j, j < cs.size → ((vs.zipIdx k).foldl (fun cs (p : Value × Nat) => cs.setIfInBounds (off + p.2) p.1) cs)[j]? = if off + k ≤ j ∧ j < off + k + vs.length then vs[j - (off + k)]? else cs[j]? := by
  intro vs
  induction vs with
  | nil => intro k cs h; refine ⟨rfl, fun j hj => ?_⟩; rw [if_neg (by simp only [List.length_nil]; omega)]; rfl
  | cons u vs ih =>
    intro k cs h
    simp only [List.length_cons] at h
    obtain ⟨h1, h2⟩ := ih (k + 1) (cs.setIfInBounds (off + k) u) (by simp; omega)
    simp only [List.zipIdx_cons, List.foldl_cons]
    refine ⟨by rw [h1]; simp, fun j hj => ?_⟩
    rw [h2 j (by simpa using hj)]
    simp only [List.length_cons]
    by_cases e : j = off + k
    · subst e
      rw [if_neg (by omega), if_pos (by omega)]
      simp [hj]
    · by_cases c : off + (k + 1) ≤ j ∧ j < off + (k + 1) + vs.length
      · rw [if_pos c, if_pos (by omega)]
        obtain ⟨q, hq⟩ : ∃ q, j - (off + k) = q + 1 := ⟨j - (off + k) - 1, by omega⟩
        have : j - (off + (k + 1)) = q := by omega
        rw [hq, this]; simp
      · rw [if_neg c, if_neg (by omega), Array.getElem?_setIfInBounds_ne (by omega)]
def PR (σ : Nat → Int) (ρ : Rho) : List (Nat × V) → List (Nat × Value) → Prop
  | [], us => us = []
  | p :: l, us => ∃ u r, VR σ ρ p.2 u ∧ PR σ ρ l r ∧ us = (p.1, u) :: r
theorem fillV_len {place : Nat → Option (Nat × Nat)} : ∀ (ps : List (Nat × V)) (c c' : List V), fillV place c ps = some c' → c'.length = c.length := by
  intro ps
  induction ps with
  | nil => intro c c' h; simp only [fillV, Option.some.injEq] at h; rw [h]
  | cons p ps ih =>
    intro c c' h
    simp only [fillV] at h
    split at h
    · split at h
      · rw [ih _ _ h, lsets_len]
      · cases h
    · cases h
theorem fill_sound {place place' : Nat → Option (Nat × Nat)} (hp : ∀ i q, place' i = some q → place i = some q) : ∀ (ps : List (Nat × V)) (us : List (Nat × Value)) (c c' : List V) (cs : Array Value), PR σ ρ ps us → VRs σ ρ c cs.toList → fillV place' c ps = some c' →
    ∃ cs', Instr.fill place cs us = some cs' ∧ VRs σ ρ c' cs'.toList := by
  intro ps
  induction ps with
  | nil => intro us c c' cs hps hc h; simp only [PR] at hps; subst hps; simp only [fillV, Option.some.injEq] at h; subst h; exact ⟨cs, rfl, hc⟩
  | cons p ps ih =>
    intro us c c' cs hps hc h
    simp only [PR] at hps
    obtain ⟨u, r, h1, h2, rfl⟩ := hps
    simp only [fillV] at h
    split at h
    · rename_i q hq
      split at h
      · rename_i hk
        simp only [Bool.and_eq_true] at hk
        obtain ⟨⟨hk0, hk1⟩, hk2⟩ := hk
        rw [Nat.beq_eq, llen_eq] at hk1
        rw [Nat.ble_eq, llen_eq] at hk2
        have hu := h1.cells (by simpa using hk0)
        have hul : u.cells.size = q.2 := by have := hu.len; simp at this; omega
        have hcl := hc.len
        simp at hcl
        obtain ⟨k1, k2⟩ := foldl_get q.1 u.cells.toList 0 cs (by simp; omega)
        have hvr : VRs σ ρ (lsets c q.1 p.2.cells) ((u.cells.toList.zipIdx 0).foldl (fun cs (p : Value × Nat) => cs.setIfInBounds (q.1 + p.2) p.1) cs).toList := ?_
        · obtain ⟨cs', k3, k4⟩ := ih r (lsets c q.1 p.2.cells) c' _ h2 hvr h
          refine ⟨cs', ?_, k4⟩
          simp only [Instr.fill, hp _ _ hq]
          rw [if_neg (by simp; omega)]
          rw [← k3]
          congr 1
          rw [← Array.foldl_toList, Array.toList_zipIdx]
        · refine VRs.of_get (by simp [k1, lsets_len, hcl]) fun i w hw => ?_
          have hi : i < c.length := by have := (List.getElem?_eq_some_iff.1 hw).1; rwa [lsets_len] at this
          rw [lsets_get _ _ _ _ hi] at hw
          rw [Array.getElem?_toList, k2 i (by omega)]
          simp only [Nat.add_zero]
          have hl2 : u.cells.toList.length = p.2.cells.length := hu.len
          by_cases cc : q.1 ≤ i ∧ i < q.1 + p.2.cells.length
          · rw [if_pos cc] at hw
            rw [if_pos (by omega)]
            exact hu.get hw
          · rw [if_neg cc] at hw
            rw [if_neg (by omega)]
            obtain ⟨u', a1, a2⟩ := hc.get hw
            exact ⟨u', by simpa using a1, a2⟩
      · cases h
    · cases h
theorem sized_run : ∀ {fs : List Field}, sized P fs = true → ∃ l : List (Nat × Nat), (fs.mapM (fun f => (do pure (f.offset, ← sizeOf f.type) : Sem (Nat × Nat)))).run P W = .ok l W ∧ ∀ (i : Nat) fd, fs[i]? = some fd → ∃ n, sizeT P fd.type = some n ∧ l[i]? = some (fd.offset, n) := by
  intro fs
  induction fs with
  | nil => intro _; exact ⟨[], by simp, by simp⟩
  | cons f fs ih =>
    intro h
    simp only [sized] at h
    split at h
    · rename_i n hn
      obtain ⟨l, h1, h2⟩ := ih h
      refine ⟨(f.offset, n) :: l, ?_, ?_⟩
      · simp only [List.mapM_cons, Sem.run_bind, run_sizeT hn, Result.andThen_ok, Sem.run_pure, h1]
      · intro i fd hi
        cases i with
        | zero => simp at hi; subst hi; exact ⟨n, hn, by simp⟩
        | succ i => simp at hi; obtain ⟨m, a, b⟩ := h2 i fd hi; exact ⟨m, a, by simpa using b⟩
    · cases h
theorem build_sound {t : TypeId} {ps : List (Nat × V)} {us : List (Nat × Value)} (hps : PR σ ρ ps us) (h : buildV P t ps = some v) : ∃ u, (Instr.build t us.toArray).run P W = .ok u W ∧ VR σ ρ v u := by
  unfold buildV at h
  split at h
  · rename_i z hz
    obtain ⟨uz, hz1, hz2⟩ := run_zeroV (W := W) (σ := σ) (ρ := ρ) hz
    have hzc := hz2.cells (zeroV_any hz)
    split at h
    · rename_i fs hd
      split at h
      · rename_i hsz
        unfold agg? at h
        split at h
        · rename_i c hc; cases h
          obtain ⟨l, r1, r2⟩ := sized_run (W := W) hsz
          obtain ⟨cs', k1, k2⟩ := fill_sound (place := (l.toArray[·]?)) (place' := fplace P t) (fun i q hq => by
            unfold fplace at hq
            split at hq
            · rename_i q' hq'; cases hq
              obtain ⟨fs', fd, a1, a2, a3, a4, a5⟩ := fieldOf_sound hq'
              rw [hd] at a1; cases a1
              obtain ⟨n, b1, b2⟩ := r2 i fd (by simpa using a2)
              rw [a4] at b1; cases b1
              simp [b2, a3]
            · cases hq) ps us z.cells c uz.cells hps hzc hc
          have hm : (fs.mapM (fun f => (do pure (f.offset, ← sizeOf f.type) : Sem (Nat × Nat)))).run P W = .ok l.toArray W := by
            rw [← Array.toArray_toList (xs := fs), List.mapM_toArray]
            simp only [Sem.run_map, r1, Result.andThen_ok]
          refine ⟨.agg cs', ?_, by simp only [VR]; exact ⟨_, k2, by simp⟩⟩
          simp only [Instr.build, Sem.run_bind, hz1, Result.andThen_ok, run_underlying hd, hm, k1, Sem.run_pure]
        · cases h
      · cases h
    · rename_i len el hd
      split at h
      · rename_i n hn
        unfold agg? at h
        split at h
        · rename_i c hc; cases h
          obtain ⟨cs', k1, k2⟩ := fill_sound (place := fun i => some (i * n, n)) (place' := eplace n) (fun i q hq => hq) ps us z.cells c uz.cells hps hzc hc
          refine ⟨.agg cs', ?_, by simp only [VR]; exact ⟨_, k2, by simp⟩⟩
          simp only [Instr.build, Sem.run_bind, hz1, Result.andThen_ok, run_underlying hd, run_sizeT hn, k1, Sem.run_pure]
        · cases h
      · cases h
    · cases h
  · cases h
theorem zeros_get (z : Array Value) (n j : Nat) (hj : j < n) : ((Array.range n).map (z[· % z.size]!))[j]? = some z[j % z.size]! := by simp [hj]
theorem VRs.rep {z : List V} {uz : Array Value} (hz : VRs σ ρ z uz.toList) (k : Nat) (hk : z.length = k) (h0 : 0 < k) (n : Nat) : VRs σ ρ (rep n z) ((Array.range (n * k)).map (uz[· % uz.size]!)).toList := by
  have hl := hz.len
  simp at hl
  refine VRs.of_get (by simp [rep_len, hk]) fun i w hw => ?_
  have hi : i < n * k := by have := (List.getElem?_eq_some_iff.1 hw).1; rwa [rep_len, hk] at this
  rw [rep_get z (by omega) n i (by rw [hk]; exact hi)] at hw
  obtain ⟨u, a1, a2⟩ := hz.get hw
  refine ⟨u, ?_, a2⟩
  rw [Array.getElem?_toList, zeros_get _ _ _ hi, hl]
  have hlt : i % z.length < uz.size := by rw [hl]; exact Nat.mod_lt _ (by omega)
  rw [Array.getElem?_toList, Array.getElem?_eq_getElem hlt] at a1
  rw [getElem!_pos uz _ hlt]
  exact a1
theorem buildSlice_sound (hs : Sim σ ρ s W) {t : TypeId} {n : Nat} {ps : List (Nat × V)} {us : List (Nat × Value)} (hps : PR σ ρ ps us) (h : buildSliceV P t n ps s = some (v, s')) : Ok1 P σ ρ s W v s' (Instr.buildSlice t n us.toArray) := by
  unfold buildSliceV at h
  split at h
  · rename_i el hd
    split at h
    · rename_i k hk
      split at h
      · rename_i z hz
        unfold buildS at h
        split at h
        · rename_i hc
          simp only [Bool.and_eq_true] at hc
          obtain ⟨⟨hc1, hc2⟩, hc3⟩ := hc
          rw [Nat.beq_eq, llen_eq] at hc1
          rw [Nat.blt_eq] at hc2
          rw [Nat.ble_eq] at hc3
          unfold row? at h
          split at h
          · rename_i c hfill
            obtain ⟨uz, hz1, hz2⟩ := run_zeroV (W := W) (σ := σ) (ρ := ρ) hz
            obtain ⟨cs', k1, k2⟩ := fill_sound (place := fun i => some (i * k, k)) (place' := eplace k) (fun i q hq => hq) ps us _ c _ hps (VRs.rep (hz2.cells (zeroV_any hz)) k hc1 hc2 n) hfill
            have hc3' : ¬ 16777216 < n * k := by omega
            have hlen : cs'.size = n * k := by
              have a := k2.len
              simp at a
              have b := fillV_len _ _ _ hfill
              rw [rep_len, hc1] at b
              omega
            refine Ok1.cells hs (us := cs'.toList) (t := el) (u := .slice (some ⟨W.heap.size, 0, none⟩) n n) h k2 ?_ ?_
            · by_cases h0 : n * k = 0
              · simp only [Instr.buildSlice, Sem.run_bind, run_underlying hd, Result.andThen_ok, run_sizeT hk]
                rw [if_neg (by omega)]
                simp only [h0, if_true, Sem.run_bind, Sem.run_pure, Result.andThen_ok]
                have : ((Array.range 0).map (fun x => (#[] : Array Value)[x % (#[] : Array Value).size]!)) = ((Array.range (n * k)).map (uz.cells[· % uz.cells.size]!)) := by rw [h0]; simp
                rw [this, k1]
                simp [newRow]
              · simp only [Instr.buildSlice, Sem.run_bind, run_underlying hd, Result.andThen_ok, run_sizeT hk]
                rw [if_neg (by omega)]
                simp only [h0, if_false, Sem.run_bind, Sem.run_pure, Result.andThen_ok, hz1, k1]
                simp [newRow]
            · intro ρ' h1 h2
              simp only [VR]
              exact ⟨_, _, n, h2, by simp; omega, Nat.le_refl _, hc2, rfl⟩
          · cases h
        · cases h
      · cases h
    · cases h
  · cases h
end rows
end
end Go.Proofs.YtnpkeganpkobjaaGreatDoor.Ev
