/-
  SX, part 9b: new blocks that the abstract heap does not list yet, and how they are listed later.
  Conditions: none (lemmas over any program and any world).
-/
import Derived.Test.YtdjpkhjaibdogaaGreatSX9
namespace Go.SX
set_option linter.unusedSimpArgs false
set_option linter.unusedVariables false
open Go.RowKit (Below)

/-! ### Values that hold no reference -/

theorem norefs_mem : ∀ {l : List AV}, norefs l = true → ∀ a ∈ l, a.noref = true
  | [], _, a, h => by cases h
  | x :: r, hn, a, h => by
    simp only [norefs, Bool.and_eq_true] at hn
    rcases List.mem_cons.1 h with rfl | h
    · exact hn.1
    · exact norefs_mem hn.2 a h
theorem norefs_of : ∀ {l : List AV}, (∀ a ∈ l, a.noref = true) → norefs l = true
  | [], _ => by simp [norefs]
  | x :: r, h => by
    simp only [norefs, Bool.and_eq_true]
    exact ⟨h x List.mem_cons_self, norefs_of fun a ha => h a (List.mem_cons_of_mem _ ha)⟩
theorem noref_cells {e : AV} (h : e.noref = true) : ∀ a ∈ e.cells, a.noref = true := by
  cases e with
  | ag cs => simp only [AV.noref] at h; exact norefs_mem h
  | _ => intro a ha; simp only [AV.cells, List.mem_singleton] at ha; subst ha; exact h
theorem noref_ofCell (v : Value) : (ofCell v).noref = true := by
  unfold ofCell
  split <;> try (simp [AV.noref]; done)
  split <;> simp [AV.noref, norefs]
theorem noref_ofAgg (v : Value) : (ofAgg v).noref = true := by
  unfold ofAgg
  split
  · split
    · simp only [AV.noref]
      refine norefs_of fun a ha => ?_
      obtain ⟨x, _, rfl⟩ := List.mem_map.1 ha
      exact noref_ofCell x
    · simp [AV.noref]
  · exact noref_ofCell _
theorem norefs_replicate {v : AV} (h : v.noref = true) (n : Nat) : norefs (List.replicate n v) = true :=
  norefs_of fun a ha => by rw [List.eq_of_mem_replicate ha]; exact h

theorem lastEls_append (H : List Blk) (B : Blk) : lastEls (H ++ [B]) = B.els := by
  induction H with
  | nil => rfl
  | cons x r ih => cases r with
    | nil => rfl
    | cons y r => exact ih

/-! ### What an operation makes that makes a block -/

/-- A new block: when it is made matters to nobody else. -/
def lateB (o : Oper) : Bool := o.guard.isNone && lateOp o.op
/-- The reference to a new block. -/
def rvOf (rv : Option Nat) (id ver : Nat) : AV := match rv with
  | none => .pt id ver 0 0
  | some n => .sl id ver 0 n
def putT (T : List AV) : Option Nat → AV → List AV
  | some d, v => T.set d v
  | none, _ => T
theorem put_eq (T : List AV) (H : List Blk) (c : Nat) (d : Option Nat) (v : AV) : St.put ⟨T, H, c⟩ d v = ⟨putT T d v, H, c⟩ := by cases d <;> rfl

theorem late_heapop {o : Op} (h : lateOp o = true) : isHeapOp o = true ∧ isCall o = false := by
  cases o <;> simp_all [lateOp, isHeapOp, isCall]

theorem late_shape {P : Program} {E : Env} {ops : Array Oper} {o : Oper} (hl : lateB o = true) {T : List AV} {H : List Blk} {c : Nat} {s' : St} (h : opStep P E ops ⟨T, H, c⟩ o = some s') :
    hstep P ⟨T, H, c⟩ o.op o.dst = some s' ∧ ∃ rv ty esz els tmp, s' = ⟨putT T o.dst (rvOf rv H.length c), H ++ [⟨true, c, ty, esz, els, tmp⟩], c + 1⟩ ∧
      (∀ H2 c2, opStep P E ops ⟨T, H2, c2⟩ o = some ⟨putT T o.dst (rvOf rv H2.length c2), H2 ++ [⟨true, c2, ty, esz, els, tmp⟩], c2 + 1⟩) ∧
      ((∀ t n parts, o.op ≠ .buildSlice t n parts) → norefs els = true) := by
  simp only [lateB, Bool.and_eq_true, Option.isNone_iff_eq_none] at hl
  obtain ⟨hg, hlo⟩ := hl
  obtain ⟨h1, h2⟩ := late_heapop hlo
  have hst : ∀ H2 c2, opStep P E ops ⟨T, H2, c2⟩ o = hstep P ⟨T, H2, c2⟩ o.op o.dst := by
    intro H2 c2
    unfold opStep
    rw [hg]
    simp only [isPure, h2, h1, hval, Bool.false_eq_true, if_false, Bool.not_true]
  rw [hst] at h
  refine ⟨h, ?_⟩
  simp only [hst]
  cases ho : o.op with
  | alloc t =>
    rw [ho] at h
    simp only [hstep] at h ⊢
    split at h
    rotate_left
    · cases h
    rename_i d htd
    split at h
    rotate_left
    · cases h
    rename_i z hz
    split at h
    · rename_i hst
      cases h
      refine ⟨none, _, _, _, _, by rw [put_eq]; rfl, fun H2 c2 => ?_, fun _ => ?_⟩
      · simp only [htd, hz, hst, if_true]
        rw [put_eq]; rfl
      · simp [norefs, noref_ofAgg]
    · cases h
  | makeSlice t x y =>
    rw [ho] at h
    simp only [hstep] at h ⊢
    split at h
    rotate_left
    · cases h
    rename_i d htd
    split at h
    rotate_left
    · cases h
    rename_i el hel hlen
    split at h
    rotate_left
    · cases h
    rename_i de hde
    split at h
    rotate_left
    · cases h
    rename_i z k n k' m hz hxv hyv
    split at h
    rotate_left
    · cases h
    rename_i hh
    cases h
    refine ⟨some n.toNat, _, _, _, _, by rw [put_eq]; rfl, fun H2 c2 => ?_, fun _ => ?_⟩
    · rw [if_pos hh, put_eq]; rfl
    · exact norefs_replicate (noref_ofAgg _) _
  | buildSlice t len parts =>
    rw [ho] at h
    simp only [hstep] at h ⊢
    split at h
    rotate_left
    · cases h
    rename_i d htd
    split at h
    rotate_left
    · cases h
    rename_i el hel hlen
    split at h
    rotate_left
    · cases h
    rename_i de hde
    split at h
    rotate_left
    · cases h
    rename_i z hz
    split at h
    rotate_left
    · cases h
    rename_i es hes
    split at h
    rotate_left
    · cases h
    rename_i hh
    cases h
    refine ⟨some len, _, _, _, _, by rw [put_eq]; rfl, fun H2 c2 => ?_, fun hb => absurd rfl (hb _ _ _)⟩
    rw [if_pos hh, put_eq]; rfl
  | _ => rw [ho] at hlo; simp [lateOp] at hlo

/-! ### A block that is not listed -/

section
variable {P : Program} {w : World} {X : Nat → Prop} {hc : HC}

theorem push_ok {w' : World} {cells : Array Value} {ty : Nat} (hr : HR w X hc) (hos : w'.os = w.os) (htape : w'.tape = w.tape) (hout : w'.output = w.output) (hheap : w'.heap = w.heap.push (.cells cells ty (0, 0))) :
    HR w' (fun b => X b ∨ b = w.heap.size) hc ∧ Evo w X hc w' (fun b => X b ∨ b = w.heap.size) hc := by
  have hold : ∀ b, b < w.heap.size → w'.heap[b]? = w.heap[b]? := by
    intro b hb
    rw [hheap, Array.getElem?_push, if_neg (by omega)]
  have hsize : w'.heap.size = w.heap.size + 1 := by rw [hheap]; simp
  have ev : Evo w X hc w' (fun b => X b ∨ b = w.heap.size) hc := by
    refine ⟨hos, htape, hout, by omega, fun b hb _ => hold b hb, ?_, ?_, Nat.le_refl _, fun _ B' h1 h2 _ => ⟨B', h1, h2, rfl, rfl, rfl, rfl, rfl⟩, fun _ B' _ o h1 h2 h3 _ => ⟨B', o, h1, h2, h3⟩⟩
    · intro b s hs
      have hb : b < w.heap.size := by
        unfold World.shape? at hs
        split at hs
        · rename_i c e fr hh; exact (Array.getElem?_eq_some_iff.1 hh).1
        · cases hs
      unfold World.shape? at *
      rw [hold b hb]; exact hs
    · intro b hb
      constructor
      · rintro (h | h)
        · exact h
        · omega
      · exact .inl
  refine ⟨⟨?_, hr.inj, ?_⟩, ev⟩
  · intro id B h1 h2
    exact hr.rest ev h1 h2 rfl (fun b o hl => hold b (hr.lt b (hr.own ⟨id, B, o, h1, h2, hl⟩))) (fun _ => .inl)
  · rintro b (hb | hb)
    · have := hr.lt b hb; omega
    · omega

/-- The value of the reference. -/
def RvV (w : World) (rv : Option Nat) (ty esz n0 b : Nat) (c : Value) : Prop := match rv with
  | none => c = .pointer (some ⟨b, 0, none⟩)
  | some n => n ≤ n0 ∧ ((n = 0 ∧ ∃ a, c = .slice a 0 0) ∨ ∃ cap k, c = .slice (some ⟨b, 0, none⟩) n cap ∧ n ≤ cap ∧ cap ≤ maxLen ∧ w.shape? b = some (ty, k) ∧ cap * esz ≤ k)

/-- A block of the memory that is not listed, and what it holds. -/
structure Born (w : World) (X : Nat → Prop) (hc : HC) (b ty esz : Nat) (els : List AV) : Prop where
  lt : b < w.heap.size
  x : X b
  no : ¬ Own hc b
  hp : ∃ cs, w.heap[b]? = some (.cells cs ty (0, 0))
  len : els.length ≤ lenMax
  nr : norefs els = true
  els : ∀ i e, els[i]? = some e → e.cells.length = esz ∧ ∀ j a, e.cells[j]? = some a → ∃ c, w.cell? ⟨b, i * esz + j, none⟩ = some c ∧ c.oneCell' = true ∧ VR w X none a c

theorem Born.mono {w' X' hc' b ty esz els} (h : Born w X hc b ty esz els) (ev : Evo w X hc w' X' hc') (hr : HR w X hc) : Born w' X' hc' b ty esz els where
  lt := Nat.lt_of_lt_of_le h.lt ev.size
  x := (ev.xs b h.lt).2 h.x
  no := by
    rintro ⟨id, B, o, h1, h2, h3⟩
    obtain ⟨B', o', g1, g2, g3⟩ := ev.fresh id B b o h1 h2 h3 h.lt
    exact h.no ⟨id, B', o', g1, g2, g3⟩
  hp := by rw [ev.keep b h.lt h.no]; exact h.hp
  len := h.len
  nr := h.nr
  els := by
    intro i e he
    obtain ⟨g1, g2⟩ := h.els i e he
    refine ⟨g1, fun j a ha => ?_⟩
    obtain ⟨c, k1, k2, k3⟩ := g2 j a ha
    exact ⟨c, by rw [ev.cell (a := ⟨b, i * esz + j, none⟩) h.lt h.no]; exact k1, k2, k3.mono_none ev hr⟩

theorem RvV.mono {w' X' hc' rv ty esz n0 b c} (h : RvV w rv ty esz n0 b c) (ev : Evo w X hc w' X' hc') : RvV w' rv ty esz n0 b c := by
  cases rv with
  | none => exact h
  | some n =>
    obtain ⟨h0, h⟩ := h
    refine ⟨h0, ?_⟩
    rcases h with h | ⟨cap, k, g1, g2, g3, g4, g5⟩
    · exact .inl h
    · exact .inr ⟨cap, k, g1, g2, g3, ev.shape _ _ g4, g5⟩

theorem RvV.one {rv ty esz n0 b c} (h : RvV w rv ty esz n0 b c) : c.oneCell' = true := by
  cases rv with
  | none => simp only [RvV] at h; subst h; rfl
  | some n =>
    obtain ⟨h0, h⟩ := h
    rcases h with ⟨_, a, rfl⟩ | ⟨cap, k, rfl, _⟩ <;> rfl

/-- A block is made, and not listed. -/
theorem born_new {T : List AV} {H : List Blk} {c : Nat} {loc : Nat → Option (Nat × Nat)} {a : Act} {o : Oper} {rv : Option Nat} {ty esz : Nat} {els : List AV} {tmp : Bool} (hs : SR w X loc ⟨T, H, c⟩ a)
    (hn : HsNew P w X loc ⟨T, H, c⟩ a o ⟨putT T o.dst (rvOf rv H.length c), H ++ [⟨true, c, ty, esz, els, tmp⟩], c + 1⟩) (hnr : norefs els = true) :
    ∃ n c' w', (execOp a.eval o).run P w = .ok n w' ∧ (n = .value c' ∨ n = .skip ∧ c' = undef) ∧
      SR w' (fun b => X b ∨ b = w.heap.size) loc ⟨putT T o.dst .jk, H, c⟩ (a.put o.dst c') ∧ Evo w X ⟨loc, H, c⟩ w' (fun b => X b ∨ b = w.heap.size) ⟨loc, H, c⟩ ∧
      Born w' (fun b => X b ∨ b = w.heap.size) ⟨loc, H, c⟩ w.heap.size ty esz els ∧
      ∀ d, o.dst = some d → d < T.length → ∃ v, (a.put o.dst c').tmps.toList[d]? = some v ∧ RvV w' rv ty esz els.length w.heap.size v := by
  obtain ⟨n, c', w', cells, ty', h1, h2, ⟨e1, e2, e3, e4⟩, h3, h4⟩ := hn
  obtain ⟨p1, p2⟩ := push_ok hs.hr e1 e2 e3 e4
  have hB : (H ++ [(⟨true, c, ty, esz, els, tmp⟩ : Blk)])[H.length]? = some ⟨true, c, ty, esz, els, tmp⟩ := by simp
  have hblk := h3.hr.blk H.length _ hB rfl
  simp only [St.hc, if_true] at hblk
  obtain ⟨b1, b2, b3, b4, b5⟩ := hblk
  have base : SR w' (fun b => X b ∨ b = w.heap.size) loc ⟨T, H, c⟩ a := ⟨p1, hs.tm.mono p2 hs.hr, hs.df⟩
  refine ⟨n, c', w', h1, h2, ?_, p2, ⟨?_, .inr rfl, ?_, b4, b2, hnr, ?_⟩, ?_⟩
  · have := base.put o.dst (v := .jk) (c := c') .jk
    rwa [put_eq] at this
  · rw [e4]; simp
  · intro ho
    have := hs.hr.lt _ (hs.hr.own ho)
    omega
  · intro i e he
    obtain ⟨g1, g2⟩ := b5 i e he
    refine ⟨g1, fun j x hx => ?_⟩
    obtain ⟨u, k1, k2, k3⟩ := g2 j x hx
    exact ⟨u, by simpa using k1, k2, k3.close⟩
  · intro d hd hlt
    have hl : T.length = a.tmps.size := hs.tm.1.trans Array.length_toList
    have hget : (a.put o.dst c').tmps.toList[d]? = some c' := by
      rw [hd]; simp [Act.put, ← hl, hlt]
    refine ⟨c', hget, ?_⟩
    have hv := h3.tm.2 d (rvOf rv H.length c) c' (by rw [hd]; simp [putT, hlt]) hget
    cases rv with
    | none =>
      cases hv with
      | pt _ q =>
        obtain ⟨_, q⟩ := q _ rfl
        obtain ⟨b, bs, q1, q2⟩ := q _ hB rfl rfl
        simp only [St.hc, if_true, Option.some.injEq, Prod.mk.injEq] at q1
        obtain ⟨rfl, rfl⟩ := q1
        simpa [RvV] using q2
    | some n =>
      cases hv with
      | sl _ q =>
        obtain ⟨_, q⟩ := q _ rfl
        obtain ⟨q0, q⟩ := q _ hB rfl rfl
        refine ⟨by simpa using q0, ?_⟩
        rcases q with q | ⟨b, bs, cap, k, q1, q2, q3, q4, q5, q6⟩
        · exact .inl q
        · simp only [St.hc, if_true, Option.some.injEq, Prod.mk.injEq] at q1
          obtain ⟨rfl, rfl⟩ := q1
          exact .inr ⟨cap, k, by simpa using q2, q3, q4, q5, by simpa using q6⟩

/-- More blocks are listed. -/
theorem VR.grow {hc' : HC} (hP : ∀ id ver i off v, PtOk hc id ver i off v → PtOk hc' id ver i off v) (hS : ∀ id ver lo len v, SlOk w hc id ver lo len v → SlOk w hc' id ver lo len v)
    {o : Option HC} {a : AV} {v : Value} (h : VR w X o a v) : o = some hc → VR w X (some hc') a v := by
  induction h with
  | sc h => exact fun _ => .sc h
  | un => exact fun _ => .un
  | jk => exact fun _ => .jk
  | ag hl h1 h2 ih => exact fun e => .ag hl (fun i a v ha hv => ih i a v ha hv e) h2
  | tu hl h1 ih => exact fun e => .tu hl (fun i a v ha hv => ih i a v ha hv e)
  | pt h1 h2 => exact fun e => .pt h1 (fun hc1 e1 => by cases e1; exact hP _ _ _ _ _ (h2 hc e))
  | sl h1 h2 => exact fun e => .sl h1 (fun hc1 e1 => by cases e1; exact hS _ _ _ _ _ (h2 hc e))
  | vw0 hz hmax => exact fun _ => .vw0 hz hmax
  | vw1 f hne hX hb hcap hz hmax hsz hcl hv ih => exact fun _ => .vw1 f hne hX hb hcap hz hmax hsz hcl hv
  | vp f hX hb hsz hcl hv ih => exact fun _ => .vp f hX hb hsz hcl hv
  | fn hl h1 ih => exact fun e => .fn hl (fun i a v ha hv => ih i a v ha hv e)

/-- A block is listed. -/
theorem reg_ok {T : List AV} {H : List Blk} {c : Nat} {loc : Nat → Option (Nat × Nat)} {a : Act} {dst : Option Nat} {rv : Option Nat} {b ty esz : Nat} {els : List AV} {tmp : Bool} (hs : SR w X loc ⟨T, H, c⟩ a)
    (hb : Born w X ⟨loc, H, c⟩ b ty esz els) (hv : ∀ d, dst = some d → d < T.length → ∃ v, a.tmps.toList[d]? = some v ∧ RvV w rv ty esz els.length b v) :
    SR w X (fun k => if k = H.length then some (b, 0) else loc k) ⟨putT T dst (rvOf rv H.length c), H ++ [⟨true, c, ty, esz, els, tmp⟩], c + 1⟩ a := by
  have hB : (H ++ [(⟨true, c, ty, esz, els, tmp⟩ : Blk)])[H.length]? = some ⟨true, c, ty, esz, els, tmp⟩ := by simp
  have hne : ∀ k, k ≠ H.length → (H ++ [(⟨true, c, ty, esz, els, tmp⟩ : Blk)])[k]? = H[k]? := by
    intro k hk
    rw [List.getElem?_append]
    split
    · rfl
    · rename_i h
      rw [List.getElem?_eq_none (show H.length ≤ k by omega), List.getElem?_eq_none]
      simp; omega
  have hP : ∀ id ver i off v, PtOk ⟨loc, H, c⟩ id ver i off v → PtOk ⟨fun k => if k = H.length then some (b, 0) else loc k, H ++ [⟨true, c, ty, esz, els, tmp⟩], c + 1⟩ id ver i off v := by
    rintro id ver i off v ⟨h1, h2⟩
    have h1' : ver < c := h1
    refine ⟨Nat.lt_succ_of_lt h1', fun B e1 e2 e3 => ?_⟩
    by_cases hid : id = H.length
    · subst hid
      simp only at e1
      rw [hB] at e1; cases e1
      simp only at e3; omega
    · simp only at e1
      rw [hne id hid] at e1
      simp only [hid, if_false]
      exact h2 B e1 e2 e3
  have hS : ∀ id ver lo len v, SlOk w ⟨loc, H, c⟩ id ver lo len v → SlOk w ⟨fun k => if k = H.length then some (b, 0) else loc k, H ++ [⟨true, c, ty, esz, els, tmp⟩], c + 1⟩ id ver lo len v := by
    rintro id ver i off v ⟨h1, h2⟩
    have h1' : ver < c := h1
    refine ⟨Nat.lt_succ_of_lt h1', fun B e1 e2 e3 => ?_⟩
    by_cases hid : id = H.length
    · subst hid
      simp only at e1
      rw [hB] at e1; cases e1
      simp only at e3; omega
    · simp only at e1
      rw [hne id hid] at e1
      simp only [hid, if_false]
      exact h2 B e1 e2 e3
  have hg : ∀ {x : AV} {v : Value}, VR w X (some ⟨loc, H, c⟩) x v → VR w X (some ⟨fun k => if k = H.length then some (b, 0) else loc k, H ++ [⟨true, c, ty, esz, els, tmp⟩], c + 1⟩) x v :=
    fun h => h.grow hP hS rfl
  have hr := hs.hr
  refine ⟨⟨?_, ?_, hr.lt⟩, ?_, hs.df⟩
  · intro id B e1 e2
    by_cases hid : id = H.length
    · subst hid
      simp only [St.hc] at e1
      rw [hB] at e1; cases e1
      refine ⟨by simp [St.hc], hb.len, ?_⟩
      simp only [St.hc, if_true]
      refine ⟨hb.x, hb.hp, ?_⟩
      intro i e he
      obtain ⟨g1, g2⟩ := hb.els i e he
      refine ⟨g1, fun j x hx => ?_⟩
      obtain ⟨u, k1, k2, k3⟩ := g2 j x hx
      exact ⟨u, by simpa using k1, k2, noref_ok x (noref_cells (norefs_mem hb.nr e (List.mem_of_getElem? he)) x (List.mem_of_getElem? hx)) k3⟩
    · simp only [St.hc] at e1
      rw [hne id hid] at e1
      obtain ⟨g1, g2, g3⟩ := hr.blk id B e1 e2
      refine ⟨Nat.lt_succ_of_lt g1, g2, ?_⟩
      simp only [St.hc, hid, if_false]
      simp only [St.hc] at g3
      split at g3
      · exact g3
      · obtain ⟨k1, k2, k3⟩ := g3
        refine ⟨k1, k2, fun i e he => ?_⟩
        obtain ⟨m1, m2⟩ := k3 i e he
        refine ⟨m1, fun j x hx => ?_⟩
        obtain ⟨u, n1, n2, n3⟩ := m2 j x hx
        exact ⟨u, n1, n2, hg n3⟩
  · intro id id' B1 B2 b1 o o' e1 e2 e3 e4 e5 e6
    simp only [St.hc] at e1 e2 e5 e6
    by_cases hi : id = H.length <;> by_cases hi' : id' = H.length
    · rw [hi, hi']
    · simp only [hi, if_true, Option.some.injEq, Prod.mk.injEq] at e5
      simp only [hi', if_false] at e6
      rw [hne id' hi'] at e2
      exact absurd ⟨id', B2, o', e2, e4, by rw [e5.1]; exact e6⟩ hb.no
    · simp only [hi', if_true, Option.some.injEq, Prod.mk.injEq] at e6
      simp only [hi, if_false] at e5
      rw [hne id hi] at e1
      exact absurd ⟨id, B1, o, e1, e3, by rw [e6.1]; exact e5⟩ hb.no
    · simp only [hi, if_false] at e5
      simp only [hi', if_false] at e6
      rw [hne id hi] at e1
      rw [hne id' hi'] at e2
      exact hr.inj id id' B1 B2 b1 o o' e1 e2 e3 e4 e5 e6
  · have htm : VL w X (some ⟨fun k => if k = H.length then some (b, 0) else loc k, H ++ [⟨true, c, ty, esz, els, tmp⟩], c + 1⟩) T a.tmps.toList := ⟨hs.tm.1, fun i x v h1 h2 => hg (hs.tm.2 i x v h1 h2)⟩
    cases hd : dst with
    | none => exact htm
    | some d =>
      simp only [putT]
      by_cases hlt : d < T.length
      · obtain ⟨v, g1, g2⟩ := hv d hd hlt
        have hone := g2.one
        have hVR : VR w X (some ⟨fun k => if k = H.length then some (b, 0) else loc k, H ++ [⟨true, c, ty, esz, els, tmp⟩], c + 1⟩) (rvOf rv H.length c) v := by
          cases rv with
          | none =>
            refine .pt hone ?_
            intro hc1 he
            cases he
            refine ⟨by simp, fun B e1 e2 e3 => ?_⟩
            refine ⟨b, 0, by simp, ?_⟩
            simp only [RvV] at g2
            rw [g2]; simp
          | some n =>
            refine .sl hone ?_
            intro hc1 he
            cases he
            refine ⟨by simp, fun B e1 e2 e3 => ?_⟩
            simp only at e1
            rw [hB] at e1; cases e1
            obtain ⟨q0, q⟩ := g2
            refine ⟨by simpa using q0, ?_⟩
            rcases q with q | ⟨cap, k, q2, q3, q4, q5, q6⟩
            · exact .inl q
            · exact .inr ⟨b, 0, cap, k, by simp, by rw [q2]; simp, q3, q4, q5, by simpa using q6⟩
        have hset := htm.set d hVR
        have hsame : a.tmps.toList.set d v = a.tmps.toList := by
          refine List.ext_getElem? fun i => ?_
          by_cases hi : d = i
          · subst hi
            rw [List.getElem?_set_self (by rw [← hs.tm.1]; exact hlt), g1]
          · rw [List.getElem?_set_ne hi]
        rw [hsame] at hset
        exact hset
      · rw [List.set_eq_of_length_le (by omega)]; exact htm

theorem reg_evo {w0 : World} {X0 : Nat → Prop} {hc0 : HC} {loc : Nat → Option (Nat × Nat)} {H : List Blk} {c b : Nat} (B : Blk) (hv : B.ver = c) (ev : Evo w0 X0 hc0 w X ⟨loc, H, c⟩) (hb : w0.heap.size ≤ b) :
    Evo w0 X0 hc0 w X ⟨fun k => if k = H.length then some (b, 0) else loc k, H ++ [B], c + 1⟩ := by
  have hne : ∀ k, k ≠ H.length → (H ++ [B])[k]? = H[k]? := by
    intro k hk
    rw [List.getElem?_append]
    split
    · rfl
    · rename_i h
      rw [List.getElem?_eq_none (show H.length ≤ k by omega), List.getElem?_eq_none]
      simp; omega
  have hcn : hc0.cnt ≤ c := ev.cnt
  refine ⟨ev.os, ev.tape, ev.output, ev.size, ev.keep, ev.shape, ev.xs, Nat.le_succ_of_le hcn, ?_, ?_⟩
  · intro id B' e1 e2 e3
    by_cases hid : id = H.length
    · subst hid
      simp only at e1
      rw [List.getElem?_append_right (Nat.le_refl _)] at e1
      simp at e1
      subst e1
      omega
    · simp only at e1
      rw [hne id hid] at e1
      simp only [hid, if_false]
      exact ev.old id B' e1 e2 e3
  · intro id B' b' o e1 e2 e3 e4
    by_cases hid : id = H.length
    · subst hid
      simp only [if_true, Option.some.injEq, Prod.mk.injEq] at e3
      omega
    · simp only at e1
      rw [hne id hid] at e1
      simp only [hid, if_false] at e3
      exact ev.fresh id B' b' o e1 e2 e3 e4

theorem reg_other {loc : Nat → Option (Nat × Nat)} {H : List Blk} {c b b2 ty esz : Nat} {els : List AV} (B : Blk) (h : Born w X ⟨loc, H, c⟩ b2 ty esz els) (hne : b2 ≠ b) :
    Born w X ⟨fun k => if k = H.length then some (b, 0) else loc k, H ++ [B], c + 1⟩ b2 ty esz els := by
  refine ⟨h.lt, h.x, ?_, h.hp, h.len, h.nr, h.els⟩
  rintro ⟨id, B', o, e1, e2, e3⟩
  by_cases hid : id = H.length
  · subst hid
    simp only [if_true, Option.some.injEq, Prod.mk.injEq] at e3
    exact hne e3.1.symm
  · simp only [hid, if_false] at e3
    simp only at e1
    rw [List.getElem?_append] at e1
    split at e1
    · exact h.no ⟨id, B', o, e1, e2, e3⟩
    · rename_i hh
      rw [List.getElem?_eq_none (by simp; omega)] at e1
      cases e1
end
end Go.SX
