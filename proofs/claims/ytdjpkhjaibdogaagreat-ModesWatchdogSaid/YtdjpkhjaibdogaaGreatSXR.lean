/-
  SX, part 9c: freezing a block; slices that are made and only read.
  Conditions: none (lemmas over any program and any world).
-/
import Derived.Test.YtdjpkhjaibdogaaGreatSXL
namespace Go.SX
set_option linter.unusedSimpArgs false
set_option linter.unusedVariables false
open Go.RowKit (Below)

/-! ### Freezing a block: from here on it is only read -/

/-- What a slice of the frozen block becomes. -/
inductive Frz (id : Nat) (B : Blk) : AV → AV → Prop
  | same (a) : Frz id B a a
  | jk (a) : Frz id B a .jk
  | sl (lo len) : Frz id B (.sl id B.ver lo len) (.vw false ((B.els.drop lo).take len))
  | pt (i off) : Frz id B (.pt id B.ver i off) (.vp B.els i off)
  | ag {cs ds : List AV} (hl : cs.length = ds.length) (h : ∀ (i : Nat) (a b : AV), cs[i]? = some a → ds[i]? = some b → Frz id B a b) : Frz id B (.ag cs) (.ag ds)

theorem frz_ok {w X hc id} {B : Blk} (hr : HR w X hc) (hB : hc.H[id]? = some B) (hl : B.live = true) (hn : ∀ e ∈ B.els, ∀ a ∈ e.cells, a.noref = true)
    {H' : List Blk} {cnt' : Nat} (hH : ∀ (k : Nat) (B' : Blk), H'[k]? = some B' → B'.live = true → ∃ B0, hc.H[k]? = some B0 ∧ B0.live = true ∧ B0.ver = B'.ver ∧ B0.esz = B'.esz ∧ B0.ty = B'.ty ∧ B0.els.length = B'.els.length) (hcn : hc.cnt ≤ cnt')
    {X' : Nat → Prop} (hX' : ∀ b, X' b ↔ (X b ∧ ∀ o, hc.loc id ≠ some (b, o))) {a a' : AV} {v : Value} (hf : Frz id B a a') (hv : VR w X (some hc) a v) : VR w X' (some ⟨hc.loc, H', cnt'⟩) a' v := by
  have key : ∀ {o : Option HC} {a : AV} {v : Value}, VR w X o a v → (o = none → VR w X' none a v) ∧ (o = some hc → VR w X' (some ⟨hc.loc, H', cnt'⟩) a v) := by
    intro o a v h
    induction h with
    | sc h => exact ⟨fun _ => .sc h, fun _ => .sc h⟩
    | un => exact ⟨fun _ => .un, fun _ => .un⟩
    | jk => exact ⟨fun _ => .jk, fun _ => .jk⟩
    | ag hl h1 h2 ih => exact ⟨fun e => .ag hl (fun i a v ha hv => (ih i a v ha hv).1 e) h2, fun e => .ag hl (fun i a v ha hv => (ih i a v ha hv).2 e) h2⟩
    | tu hl h1 ih => exact ⟨fun e => .tu hl (fun i a v ha hv => (ih i a v ha hv).1 e), fun e => .tu hl (fun i a v ha hv => (ih i a v ha hv).2 e)⟩
    | pt h1 h2 =>
      refine ⟨fun _ => .pt h1 (fun _ e => by cases e), fun e => .pt h1 (fun hc1 e1 => ?_)⟩
      cases e1
      obtain ⟨q1, q2⟩ := h2 hc e
      refine ⟨Nat.lt_of_lt_of_le q1 hcn, fun B' e1 e2 e3 => ?_⟩
      obtain ⟨B0, k1, k2, k3, k4, k5, k6⟩ := hH _ B' e1 e2
      obtain ⟨b, base, m1, m2⟩ := q2 B0 k1 k2 (by omega)
      exact ⟨b, base, m1, by rw [m2, k4]⟩
    | sl h1 h2 =>
      refine ⟨fun _ => .sl h1 (fun _ e => by cases e), fun e => .sl h1 (fun hc1 e1 => ?_)⟩
      cases e1
      obtain ⟨q1, q2⟩ := h2 hc e
      refine ⟨Nat.lt_of_lt_of_le q1 hcn, fun B' e1 e2 e3 => ?_⟩
      obtain ⟨B0, k1, k2, k3, k4, k5, k6⟩ := hH _ B' e1 e2
      obtain ⟨m0, m1⟩ := q2 B0 k1 k2 (by omega)
      refine ⟨by omega, ?_⟩
      rcases m1 with m1 | ⟨b, base, cap, n, n0, n1, n2, n3, n4, n5⟩
      · exact .inl m1
      · exact .inr ⟨b, base, cap, n, n0, by rw [n1, k4], n2, n3, by rw [← k5]; exact n4, by rw [← k4]; exact n5⟩
    | vw0 hz hmax => exact ⟨fun _ => .vw0 hz hmax, fun _ => .vw0 hz hmax⟩
    | vw1 f hne hX hb hcap hz hmax hsz hcl hv ih =>
      have hX2 := fun h => hX ((hX' _).1 h).1
      have h2 := fun i e j a h1 h2 => (ih i e j a h1 h2).1 rfl
      exact ⟨fun _ => .vw1 f hne hX2 hb hcap hz hmax hsz hcl h2, fun _ => .vw1 f hne hX2 hb hcap hz hmax hsz hcl h2⟩
    | vp f hX hb hsz hcl hv ih =>
      have hX2 := fun h => hX ((hX' _).1 h).1
      have h2 := fun i e j a h1 h2 => (ih i e j a h1 h2).1 rfl
      exact ⟨fun _ => .vp f hX2 hb hsz hcl h2, fun _ => .vp f hX2 hb hsz hcl h2⟩
    | fn hl h1 ih => exact ⟨fun e => .fn hl (fun i a v ha hv => (ih i a v ha hv).1 e), fun e => .fn hl (fun i a v ha hv => (ih i a v ha hv).2 e)⟩
  induction hf generalizing v with
  | same a => exact (key hv).2 rfl
  | jk a => exact .jk
  | ag hl' h ih =>
    cases hv with
    | ag hl1 h1 h2 =>
      refine .ag (hl'.symm.trans hl1) (fun i b v hb hv => ?_) h2
      have hi : i < _ := (List.getElem?_eq_some_iff.1 hb).1
      rename_i cs ds vs
      have hc : cs[i]? = some (cs[i]'(by omega)) := List.getElem?_eq_getElem _
      exact ih i _ b hc hb (h1 i _ v hc hv)
  | pt i0 off =>
    cases hv with
    | pt q1 q2 =>
      obtain ⟨r1, r2⟩ := q2 _ rfl
      obtain ⟨b, base, hloc, k1⟩ := r2 B hB hl rfl
      have hB2 := (hr.blk id B hB hl).2.2
      rw [hloc] at hB2
      obtain ⟨m1, ⟨cs, m2⟩, m3⟩ := hB2
      subst k1
      exact VR.vp (w := w) (X := X') (o := some ⟨hc.loc, H', cnt'⟩) (es := B.els) (i := i0) (off := off) (b := b) (base := base) (esz := B.esz)
        (fun i j => (w.cell? ⟨b, base + i * B.esz + j, none⟩).getD undef) (fun h => ((hX' _).1 h).2 base hloc) (hr.lt b m1)
        (fun e he => by
          obtain ⟨i, hi⟩ := List.mem_iff_getElem?.1 he
          exact (m3 _ e hi).1)
        (fun i j hi hj => by
          have he : B.els[i]? = some B.els[i] := List.getElem?_eq_getElem hi
          obtain ⟨q1, q2⟩ := m3 _ _ he
          obtain ⟨c, e1, e2, e3⟩ := q2 j (B.els[i].cells[j]'(by omega)) (by simp)
          rw [e1]
          exact ⟨rfl, e2⟩)
        (fun i e j a he ha => by
          obtain ⟨q1, q2⟩ := m3 _ e he
          obtain ⟨c, e1, e2, e3⟩ := q2 j a ha
          rw [e1]
          exact ((key e3.close).1 rfl))
  | sl lo len =>
    cases hv with
    | sl q1 q2 =>
      obtain ⟨r1, r2⟩ := q2 _ rfl
      obtain ⟨r3, r4⟩ := r2 B hB hl rfl
      have hlen : ((B.els.drop lo).take len).length = len := by simp; omega
      have hBk := hr.blk id B hB hl
      rcases r4 with ⟨r4, p, hp⟩ | ⟨b, base, cap, nn, hloc, k1, k2, k3, k4, k5⟩
      · subst r4; subst hp
        rw [List.take_zero]
        exact .vw0 (fun h => by cases h) (Nat.zero_le _)
      · have hB2 := hBk.2.2
        rw [hloc] at hB2
        obtain ⟨m1, ⟨cs, m2⟩, m3⟩ := hB2
        subst k1
        by_cases h0 : len = 0
        · subst h0
          rw [List.take_zero]
          exact .vw0 (fun h => by cases h) k3
        · have hne : (B.els.drop lo).take len ≠ [] := by intro e; rw [e] at hlen; simp at hlen; omega
          have hget : ∀ i e, ((B.els.drop lo).take len)[i]? = some e → B.els[lo + i]? = some e := by
            intro i e he
            rw [List.getElem?_take] at he
            split at he
            · rwa [List.getElem?_drop] at he
            · cases he
          have := VR.vw1 (w := w) (X := X') (o := some ⟨hc.loc, H', cnt'⟩) (z := false) (es := (B.els.drop lo).take len) (b := b) (base := base + lo * B.esz) (cap := cap) (esz := B.esz)
            (fun i j => (w.cell? ⟨b, base + lo * B.esz + i * B.esz + j, none⟩).getD undef) hne (fun h => ((hX' _).1 h).2 base hloc) (hr.lt b m1) (by rw [hlen]; exact k2) (fun h => by cases h) k3
            (fun e he => by
              obtain ⟨i, hi⟩ := List.mem_iff_getElem?.1 he
              exact (m3 _ e (hget i e hi)).1)
            (fun i j hi hj => by
              have he : ((B.els.drop lo).take len)[i]? = some ((B.els.drop lo).take len)[i] := List.getElem?_eq_getElem hi
              obtain ⟨q1, q2⟩ := m3 _ _ (hget i _ he)
              obtain ⟨c, e1, e2, e3⟩ := q2 j (((B.els.drop lo).take len)[i].cells[j]'(by omega)) (by simp)
              rw [Nat.add_mul, ← Nat.add_assoc] at e1
              rw [e1]
              exact ⟨rfl, e2⟩)
            (fun i e j a he ha => by
              obtain ⟨q1, q2⟩ := m3 _ e (hget i e he)
              obtain ⟨c, e1, e2, e3⟩ := q2 j a ha
              rw [Nat.add_mul, ← Nat.add_assoc] at e1
              rw [e1]
              exact ((key e3.close).1 rfl))
          rw [hlen] at this
          exact this

/-- Slots behind the freezing. -/
def FrzT (id : Nat) (B : Blk) : List AV → List AV → Prop
  | [], [] => True
  | a :: T, b :: T' => Frz id B a b ∧ FrzT id B T T'
  | _, _ => False
theorem frzT_spec {id B} : ∀ {T T' : List AV}, FrzT id B T T' → T.length = T'.length ∧ ∀ (i : Nat) (b : AV), T'[i]? = some b → ∃ a, T[i]? = some a ∧ Frz id B a b
  | [], [], _ => ⟨rfl, fun i b h => by simp at h⟩
  | a :: T, b :: T', h => by
    obtain ⟨h1, h2⟩ := h
    obtain ⟨e1, e2⟩ := frzT_spec h2
    refine ⟨by simp [e1], fun i c hc => ?_⟩
    cases i with
    | zero => simp at hc; subst hc; exact ⟨a, rfl, h1⟩
    | succ i => simp at hc; obtain ⟨a', k1, k2⟩ := e2 i c hc; exact ⟨a', by simpa using k1, k2⟩
  | [], _ :: _, h => h.elim
  | _ :: _, [], h => h.elim

/-- A block behind the freezing. -/
def FrzB (id : Nat) (B : Blk) (A A' : Blk) : Prop :=
  A.live = true ∧ A.ver = A'.ver ∧ A.esz = A'.esz ∧ A.ty = A'.ty ∧ A.els.length = A'.els.length ∧
    ∀ (i : Nat) (e e' : AV), A.els[i]? = some e → A'.els[i]? = some e' → e.cells.length = e'.cells.length ∧ ∀ (j : Nat) (a a' : AV), e.cells[j]? = some a → e'.cells[j]? = some a' → Frz id B a a'
theorem FrzB.refl {id B} {A : Blk} (h : A.live = true) : FrzB id B A A :=
  ⟨h, rfl, rfl, rfl, rfl, fun i e e' h1 h2 => by rw [h1] at h2; cases h2; exact ⟨rfl, fun j a a' h3 h4 => by rw [h3] at h4; cases h4; exact .same _⟩⟩

theorem freeze_sr {w : World} {X : Nat → Prop} {loc : Nat → Option (Nat × Nat)} {a : Act} {n0 : Nat} {T T' : List AV} {H H' : List Blk} {c c' : Nat} (id : Nat) (B : Blk) (hs : SR w X loc ⟨T, H, c⟩ a) (hB : H[id]? = some B) (hl : B.live = true) (hid : n0 ≤ id) (hn : ∀ e ∈ B.els, ∀ a ∈ e.cells, a.noref = true)
    (hT : FrzT id B T T') (hH : ∀ (k : Nat) (A' : Blk), H'[k]? = some A' → A'.live = true → k ≠ id ∧ ∃ A, H[k]? = some A ∧ FrzB id B A A') (hc : c ≤ c') :
    ∃ X' loc', SR w X' loc' ⟨T', H', c'⟩ a ∧ ∀ w0 X0 hc0, hc0.H.length = n0 → Evo w0 X0 hc0 w X ((⟨T, H, c⟩ : St).hc loc) → Evo w0 X0 hc0 w X' ((⟨T', H', c'⟩ : St).hc loc') := by
  obtain ⟨h1, h2, h3⟩ := hs
  have hH1 : ∀ (k : Nat) (B' : Blk), H'[k]? = some B' → B'.live = true → ∃ B0, (St.hc ⟨T, H, c⟩ loc).H[k]? = some B0 ∧ B0.live = true ∧ B0.ver = B'.ver ∧ B0.esz = B'.esz ∧ B0.ty = B'.ty ∧ B0.els.length = B'.els.length := by
    intro k A' e1 e2
    obtain ⟨_, A, q1, q2, q3, q4, q5, q6, _⟩ := hH k A' e1 e2
    exact ⟨A, q1, q2, q3, q4, q5, q6⟩
  have fz : ∀ {a a' : AV} {v : Value}, Frz id B a a' → VR w X (some (St.hc ⟨T, H, c⟩ loc)) a v → VR w (fun b => X b ∧ ∀ o, loc id ≠ some (b, o)) (some ⟨loc, H', c'⟩) a' v :=
    fun hf hv => frz_ok (hc := St.hc ⟨T, H, c⟩ loc) h1 hB hl hn hH1 hc (fun b => Iff.rfl) hf hv
  refine ⟨fun b => X b ∧ ∀ o, loc id ≠ some (b, o), loc, ⟨⟨?_, ?_, fun b hb => h1.lt b hb.1⟩, ?_, h3⟩, ?_⟩
  · intro k A' e1 e2
    obtain ⟨hne, A, q1, q2, q3, q4, q5, q6, q7⟩ := hH k A' e1 e2
    obtain ⟨g1, g2, g3⟩ := h1.blk k A q1 q2
    refine ⟨by have : A.ver < c := g1; show A'.ver < c'; omega, by omega, ?_⟩
    have hloc : (St.hc ⟨T, H, c⟩ loc).loc k = loc k := rfl
    rw [hloc] at g3
    show match loc k with | none => A'.els = [] | some (b, base) => _ 
    cases hk : loc k with
    | none =>
      rw [hk] at g3
      simp only at g3 ⊢
      have := q6; rw [g3] at this
      exact List.eq_nil_of_length_eq_zero this.symm
    | some p =>
      obtain ⟨b, base⟩ := p
      rw [hk] at g3
      simp only at g3 ⊢
      obtain ⟨m1, ⟨cs, m2⟩, m3⟩ := g3
      refine ⟨⟨m1, fun o ho => ?_⟩, ⟨cs, by rw [m2, q5]⟩, ?_⟩
      · exact hne (h1.inj k id A B b base o q1 hB q2 hl hk ho)
      · intro i e' he'
        have hi : i < A'.els.length := (List.getElem?_eq_some_iff.1 he').1
        have he : A.els[i]? = some (A.els[i]'(by omega)) := List.getElem?_eq_getElem _
        obtain ⟨n1, n2⟩ := m3 i _ he
        obtain ⟨n3, n4⟩ := q7 i _ e' he he'
        refine ⟨by rw [← n3, n1, q4], fun j a' ha' => ?_⟩
        have hj : j < e'.cells.length := (List.getElem?_eq_some_iff.1 ha').1
        have ha : (A.els[i]'(by omega)).cells[j]? = some ((A.els[i]'(by omega)).cells[j]'(by omega)) := List.getElem?_eq_getElem _
        obtain ⟨cc, p1, p2, p3⟩ := n2 j _ ha
        exact ⟨cc, by rw [← q4]; exact p1, p2, fz (n4 j _ a' ha ha') p3⟩
  · intro k k' A1 A2 b o o' e1 e2 e3 e4 e5 e6
    obtain ⟨_, B1, q1, q2, _⟩ := hH k A1 e1 e3
    obtain ⟨_, B2, q3, q4, _⟩ := hH k' A2 e2 e4
    exact h1.inj k k' B1 B2 b o o' q1 q3 q2 q4 e5 e6
  · obtain ⟨e1, e2⟩ := frzT_spec hT
    refine ⟨e1.symm.trans h2.1, fun i b v hb hv => ?_⟩
    obtain ⟨a0, k1, k2⟩ := e2 i b hb
    exact fz k2 (h2.2 i a0 v k1 hv)
  · intro w0 X0 hc0 hlen he
    refine ⟨he.os, he.tape, he.output, he.size, he.keep, he.shape, fun b hb => ?_, Nat.le_trans he.cnt hc, ?_, ?_⟩
    · refine ⟨fun h => (he.xs b hb).1 h.1, fun h => ⟨(he.xs b hb).2 h, fun o ho => ?_⟩⟩
      obtain ⟨B1, o1, k1, _⟩ := he.fresh id B b o hB hl ho hb
      have := (List.getElem?_eq_some_iff.1 k1).1
      omega
    · intro k A' e1 e2 e3
      obtain ⟨_, A, q1, q2, q3, q4, q5, q6, _⟩ := hH k A' e1 e2
      obtain ⟨B0, m1, m2, m3, m4, m5, m6, m7⟩ := he.old k A q1 q2 (by have : A'.ver < hc0.cnt := e3; omega)
      exact ⟨B0, m1, m2, m3.trans q3, m4, m5.trans q4, m6.trans q5, m7.trans q6⟩
    · intro k A' b o e1 e2 e3 hb
      obtain ⟨_, A, q1, q2, _⟩ := hH k A' e1 e2
      exact he.fresh k A b o q1 q2 e3 hb

/-- A slice that is made and only read. -/
theorem litStep_ok {P : Program} {w : World} {X : Nat → Prop} {loc : Nat → Option (Nat × Nat)} {s s' : St} {a : Act} {o : Oper} (hs : SR w X loc s a) (hl : litOp o.op = true) (h : litStep P s o.op o.dst = some s') : HsOk P w X loc s a o s' := by
  obtain ⟨T, H, c⟩ := s
  unfold litStep at h
  cases hq : hstep P ⟨T, H, c⟩ o.op o.dst with
  | none => rw [hq] at h; cases h
  | some s1 =>
    rw [hq] at h
    simp only [litR] at h
    split at h
    rotate_left
    · cases h
    rename_i hnr
    injection h with h
    have hlo : lateOp o.op = true := by
      cases ho : o.op <;> rw [ho] at hl <;> simp_all [litOp, lateOp]
    obtain ⟨n, cv, w', cells, ty, r1, r2, ⟨e1, e2, e3, e4⟩, r3, r4⟩ := hstep_new hlo hs hq
    -- the form of what is made
    have hform : ∃ B m, B.live = true ∧ B.ver = c ∧ s1 = ⟨putT T o.dst (.sl H.length c 0 m), H ++ [B], c + 1⟩ ∧ m = B.els.length := by
      cases ho : o.op with
      | makeSlice t x y =>
        rw [ho] at hq
        simp only [hstep] at hq
        repeat' (split at hq <;> try (cases hq; done))
        cases hq
        exact ⟨_, _, rfl, rfl, by rw [put_eq], by simp⟩
      | buildSlice t len parts =>
        rw [ho] at hq
        simp only [hstep] at hq
        repeat' (split at hq <;> try (cases hq; done))
        rename_i hes _
        cases hq
        refine ⟨_, _, rfl, rfl, by rw [put_eq], ?_⟩
        have hlen : ∀ (ops : List (Nat × AV)) (sz : Nat) (es es' : List AV), fillE sz es ops = some es' → es'.length = es.length := by
          intro ops
          induction ops with
          | nil => intro sz es es' h; simp only [fillE, Option.some.injEq] at h; rw [h]
          | cons p r ih =>
            intro sz es es' h
            simp only [fillE] at h
            split at h
            · rw [ih _ _ _ h]; simp
            · cases h
        have := hlen _ _ _ _ hes
        simp at this
        exact this.symm
      | _ => rw [ho] at hl; simp [litOp] at hl
    obtain ⟨B, m, b1, b2, rfl, b3⟩ := hform
    rw [lastEls_append] at hnr h
    have hB : (H ++ [B])[H.length]? = some B := by simp
    have hview : (B.els.drop 0).take m = B.els := by rw [List.drop_zero, b3, List.take_length]
    obtain ⟨X', loc', f1, f2⟩ := freeze_sr (n0 := H.length) (T' := putT T o.dst (.vw false B.els)) (H' := H) (c' := c + 1) H.length B r3 hB b1 (Nat.le_refl _)
      (fun e he x hx => noref_cells (norefs_mem hnr e he) x hx)
      (by
        have hT : ∀ (T : List AV), FrzT H.length B T T := by
          intro T
          induction T with
          | nil => exact trivial
          | cons x r ih => exact ⟨.same _, ih⟩
        have hset : ∀ (T : List AV) (d : Nat), FrzT H.length B (T.set d (.sl H.length c 0 m)) (T.set d (.vw false B.els)) := by
          intro T
          induction T with
          | nil => intro d; exact trivial
          | cons x r ih =>
            intro d
            cases d with
            | zero =>
              refine ⟨?_, hT r⟩
              have := Frz.sl (id := H.length) (B := B) 0 m
              rwa [hview, b2] at this
            | succ d => exact ⟨.same _, ih d⟩
        cases o.dst with
        | none => exact hT T
        | some d => exact hset T d)
      (fun k A' h1 h2 => by
        have hk : k < H.length := (List.getElem?_eq_some_iff.1 h1).1
        exact ⟨by omega, A', by rw [List.getElem?_append_left hk]; exact h1, FrzB.refl h2⟩)
      (Nat.le_refl _)
    refine ⟨n, cv, w', X', loc', r1, r2, ?_, ?_⟩
    · rw [← h, put_eq]; exact f1
    · rw [← h, put_eq]
      exact f2 w X ((⟨T, H, c⟩ : St).hc loc) rfl r4
end Go.SX
