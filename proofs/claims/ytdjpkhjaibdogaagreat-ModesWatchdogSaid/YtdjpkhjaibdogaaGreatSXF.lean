/-
  SX, part 15: what is read of an argument, as abstract values.
  Conditions: none (lemmas over any program and any world).
-/
import Derived.Test.YtdjpkhjaibdogaaGreatSXE
import Derived.ProofKit
import Derived.ChangeOld
namespace Go.SX
set_option linter.unusedSimpArgs false
set_option linter.unusedVariables false
open Go.RowKit (Below)

/-- The value whose cells these are. -/
def asV (P : Program) (t : TypeId) (c : List AV) : AV :=
  match P.underlying t with
  | some (.struct _) | some (.array _ _) => .ag c
  | _ => c.headD .un

mutual
/-- The cells of a value of a type. -/
inductive HasC (P : Program) : TypeId → List AV → Prop
  | bool {t b} (h : P.underlying t = some .bool) : HasC P t [.sc (.bool b)]
  | int {t k n} (h : P.underlying t = some (.int k)) (hw : (Lit.int k n).wf = true) : HasC P t [.sc (.int k n)]
  | str {t s} (h : P.underlying t = some .string) (hs : s.size ≤ maxLen) : HasC P t [.sc (.string s)]
  | slice {t e} (h : P.underlying t = some (.slice e)) (z : Bool) (ess : List (List AV)) (hs : ∀ c ∈ ess, HasC P e c) : HasC P t [.vw z (ess.map (asV P e))]
  | struct {t fs cs} (h : P.underlying t = some (.struct fs)) (hf : HasFs P (fs.toList.map (·.type)) cs) : HasC P t cs
  | array {t n e cs} (h : P.underlying t = some (.array n e)) (hf : HasFs P (List.replicate n e) cs) : HasC P t cs
inductive HasFs (P : Program) : List TypeId → List AV → Prop
  | nil : HasFs P [] []
  | cons {t ts c cs} (h : HasC P t c) (hs : HasFs P ts cs) : HasFs P (t :: ts) (c ++ cs)
end
def HasV (P : Program) (t : TypeId) (a : AV) : Prop := ∃ c, HasC P t c ∧ a = asV P t c

theorem asV_cells {P : Program} {t : TypeId} {c : List AV} (h : HasC P t c) : (asV P t c).cells = c := by
  cases h with
  | bool h => simp [asV, h, AV.cells]
  | int h hw => simp [asV, h, AV.cells]
  | str h hs => simp [asV, h, AV.cells]
  | slice h z ess hs => simp [asV, h, AV.cells]
  | struct h hf => simp [asV, h, AV.cells]
  | array h hf => simp [asV, h, AV.cells]

/-- The parts lie one behind the other. -/
def ctg (P : Program) : List (Nat × TypeId) → Nat → Nat → Bool
  | [], off, tot => off == tot
  | (o, t) :: r, off, tot => o == off && ctg P r (off + P.cellsOf t) tot

/-- The types that are served. -/
def okT (P : Program) : Nat → TypeId → Bool
  | 0, _ => false
  | d + 1, t => match P.underlying t with
    | some .bool | some (.int _) | some .string => true
    | some (.slice e) => okT P d e && decide (0 < P.cellsOf e)
    | some (.struct fs) => fs.toList.all (fun f => okT P d f.type) && ctg P (fs.toList.map fun f => (f.offset, f.type)) 0 (P.cellsOf t)
    | some (.array n e) => okT P d e && ctg P ((List.range n).map fun i => (i * P.cellsOf e, e)) 0 (P.cellsOf t)
    | _ => false

/-- Cells that are known. -/
def Rel (w : World) (cs : List AV) (vs : List Value) : Prop :=
  cs.length = vs.length ∧ ∀ (j : Nat) (a : AV) (v : Value), cs[j]? = some a → vs[j]? = some v → (∀ o, VR w noX o a v) ∧ v.oneCell' = true
theorem Rel.one {w : World} {a : AV} {v : Value} (h : ∀ o, VR w noX o a v) (h1 : v.oneCell' = true) : Rel w [a] [v] := by
  refine ⟨rfl, fun j b u hb hu => ?_⟩
  cases j with
  | zero => simp at hb hu; subst hb; subst hu; exact ⟨h, h1⟩
  | succ j => simp at hb
theorem Rel.append {w : World} {cs cs' : List AV} {vs vs' : List Value} (h : Rel w cs vs) (h' : Rel w cs' vs') : Rel w (cs ++ cs') (vs ++ vs') := by
  refine ⟨by simp [h.1, h'.1], fun j b u hb hu => ?_⟩
  rw [List.getElem?_append] at hb hu
  rw [h.1] at hb
  split at hb
  · rename_i hi; rw [if_pos hi] at hu; exact h.2 j b u hb hu
  · rename_i hi; rw [if_neg hi] at hu; exact h'.2 _ b u hb hu

section
variable {H : Type} {enc : TypeId × Value → H} {P : Program} {w : World}

theorem add_none (b off n : Nat) : (⟨b, off, none⟩ : Addr).add n = ⟨b, off + n, none⟩ := by
  unfold Addr.add
  split
  · rename_i h; subst h; rfl
  · rfl

/-- Parts that lie one behind the other. -/
theorem parts_has {fuel D : Nat} {vcs : List Value} (ih : ∀ t cs d ps, okT P D t = true → DataW.trod enc P w 0 (fun _ => true) true fuel t cs = some (d, ps) → ∃ c, HasC P t c ∧ Rel w c cs) :
    ∀ (l : List (Nat × TypeId)) (off : Nat) (xs : List (DataW H × List MemPlace)), ctg P l off vcs.length = true → (∀ p ∈ l, okT P D p.2 = true) →
      l.mapM (fun p => DataW.trod enc P w 0 (fun _ => true) true fuel p.2 ((vcs.drop p.1).take (P.cellsOf p.2))) = some xs → ∃ cs, HasFs P (l.map (·.2)) cs ∧ Rel w cs (vcs.drop off)
  | [], off, xs, hc, _, _ => by
    simp only [ctg, beq_iff_eq] at hc
    refine ⟨[], .nil, ?_⟩
    rw [List.drop_eq_nil_of_le (by omega)]
    exact ⟨rfl, fun j a v h => by simp at h⟩
  | (o, t) :: r, off, xs, hc, hk, hm => by
    simp only [ctg, Bool.and_eq_true, beq_iff_eq] at hc
    obtain ⟨rfl, hc⟩ := hc
    rw [List.mapM_cons] at hm
    simp only [Option.bind_eq_bind, Option.bind_eq_some_iff] at hm
    obtain ⟨x, hx, ys, hys, _⟩ := hm
    obtain ⟨c, h1, h2⟩ := ih t _ x.1 x.2 (hk _ List.mem_cons_self) hx
    obtain ⟨cs, h3, h4⟩ := parts_has ih r (o + P.cellsOf t) ys hc (fun p hp => hk p (List.mem_cons_of_mem _ hp)) hys
    refine ⟨c ++ cs, .cons h1 h3, ?_⟩
    have : vcs.drop o = (vcs.drop o).take (P.cellsOf t) ++ vcs.drop (o + P.cellsOf t) := by
      rw [← List.drop_drop, List.take_append_drop]
    rw [this]
    exact h2.append h4

theorem mapM_map' {α β γ : Type} (f : β → Option γ) (g : α → β) : ∀ l : List α, (l.map g).mapM f = l.mapM (fun x => f (g x))
  | [] => rfl
  | x :: l => by rw [List.map_cons, List.mapM_cons, List.mapM_cons, mapM_map' f g l]

/-- A slice. -/
theorem slice_has {fuel D : Nat} {t e : TypeId} {ad : Addr} {len cap : Nat} {xs : List (DataW H × List MemPlace)} (ih : ∀ t cs d ps, okT P D t = true → DataW.trod enc P w 0 (fun _ => true) true fuel t cs = some (d, ps) → ∃ c, HasC P t c ∧ Rel w c cs)
    (hu : P.underlying t = some (.slice e)) (hk : okT P D e = true) (hpos : 0 < P.cellsOf e) (hl : len ≤ cap) (hm : cap ≤ maxLen)
    (hxs : (List.range len).mapM (fun i => (w.cells? 0 (ad.add (i * P.cellsOf e)) (P.cellsOf e)).bind (DataW.trod enc P w 0 (fun _ => true) true fuel e)) = some xs) :
    ∃ c, HasC P t c ∧ Rel w c [.slice (some ad) len cap] := by
  by_cases h0 : len = 0
  · subst h0
    exact ⟨_, .slice hu false [] (by simp), .one (fun o => .vw0 (fun h => by cases h) hm) rfl⟩
  have hel : ∀ i, i < len → ∃ c vs, HasC P e c ∧ Rel w c vs ∧ w.cells? 0 (ad.add (i * P.cellsOf e)) (P.cellsOf e) = some vs := by
    intro i hi
    have := mapM_some_get hxs i i (by simp [hi])
    have hlen := mapM_some_length hxs
    simp only [List.length_range] at hlen
    have hx : xs[i]? = some xs[i] := List.getElem?_eq_getElem (by omega)
    rw [hx] at this
    simp only [Option.bind_eq_some_iff] at this
    obtain ⟨vs, h1, h2⟩ := this
    obtain ⟨c, h3, h4⟩ := ih e vs _ _ hk h2
    exact ⟨c, vs, h3, h4, h1⟩
  -- the first cell: the address is plain
  obtain ⟨b, off, sp⟩ := ad
  have hsp : sp = none := by
    obtain ⟨c, vs, _, _, h⟩ := hel 0 (by omega)
    obtain ⟨_, h2, h3⟩ := World.cells?_some h
    have h4 := h3 0 hpos
    have : vs[0]? = some vs[0] := List.getElem?_eq_getElem (by omega)
    rw [this] at h4
    simpa [Addr.add] using World.cell?_spot h4
  subst hsp
  have hel2 : ∀ i, ∃ c, i < len → HasC P e c ∧ c.length = P.cellsOf e ∧ ∀ j, j < P.cellsOf e → ∃ v, w.cell? ⟨b, off + i * P.cellsOf e + j, none⟩ = some v ∧ v.oneCell' = true ∧ ∀ a, c[j]? = some a → ∀ o, VR w noX o a v := by
    intro i
    by_cases hi : i < len
    · obtain ⟨c, vs, h1, h2, h3⟩ := hel i hi
      obtain ⟨_, h4, h5⟩ := World.cells?_some h3
      refine ⟨c, fun _ => ⟨h1, h2.1.trans h4, fun j hj => ?_⟩⟩
      have h6 := h5 j hj
      rw [add_none, add_none] at h6
      have hv : vs[j]? = some vs[j] := List.getElem?_eq_getElem (by omega)
      have hc : c[j]? = some (c[j]'(by rw [h2.1]; omega)) := List.getElem?_eq_getElem _
      rw [hv] at h6
      exact ⟨_, h6, (h2.2 j _ _ hc hv).2, fun a ha => (h2.2 j _ _ ha hv).1⟩
    · exact ⟨[], fun h => absurd h hi⟩
  let g : Nat → List AV := fun i => Classical.choose (hel2 i)
  have hg : ∀ i, i < len → HasC P e (g i) ∧ (g i).length = P.cellsOf e ∧ ∀ j, j < P.cellsOf e → ∃ v, w.cell? ⟨b, off + i * P.cellsOf e + j, none⟩ = some v ∧ v.oneCell' = true ∧ ∀ a, (g i)[j]? = some a → ∀ o, VR w noX o a v :=
    fun i hi => Classical.choose_spec (hel2 i) hi
  let ess := (List.range len).map g
  have hess : ∀ i, i < len → ess[i]? = some (g i) := fun i hi => by simp [ess, hi]
  have hlen : ess.length = len := by simp [ess]
  have hmem : ∀ c ∈ ess, ∃ i, i < len ∧ c = g i := fun c hc => by
    obtain ⟨i, hi, rfl⟩ := List.mem_map.1 hc
    exact ⟨i, by simpa using hi, rfl⟩
  refine ⟨_, .slice hu false ess (fun c hc => by obtain ⟨i, hi, rfl⟩ := hmem c hc; exact (hg i hi).1), .one (fun o => ?_) rfl⟩
  have hcell : ∀ i j, i < len → j < P.cellsOf e → w.cell? ⟨b, off + i * P.cellsOf e + j, none⟩ = some ((w.cell? ⟨b, off + i * P.cellsOf e + j, none⟩).getD undef) ∧ ((w.cell? ⟨b, off + i * P.cellsOf e + j, none⟩).getD undef).oneCell' = true := by
    intro i j hi hj
    obtain ⟨v, h1, h2, _⟩ := (hg i hi).2.2 j hj
    rw [h1]; exact ⟨rfl, h2⟩
  have hget : ∀ i x, (ess.map (asV P e))[i]? = some x → i < len ∧ x = asV P e (g i) := by
    intro i x hx
    have hi : i < len := by
      have := (List.getElem?_eq_some_iff.1 hx).1
      simpa [hlen] using this
    refine ⟨hi, ?_⟩
    rw [List.getElem?_map, hess i hi] at hx
    simpa using hx.symm
  have := VR.vw1 (w := w) (X := noX) (o := o) (z := false) (es := ess.map (asV P e)) (b := b) (base := off) (cap := cap) (esz := P.cellsOf e)
    (fun i j => (w.cell? ⟨b, off + i * P.cellsOf e + j, none⟩).getD undef)
    (by intro h; have := congrArg List.length h; simp [hlen] at this; omega) (fun h => h.elim)
    (World.block_lt_of_cell? w ⟨b, off + 0 * P.cellsOf e + 0, none⟩ (hcell 0 0 (by omega) hpos).1) (by simpa [hlen] using hl) (fun h => by cases h) hm
    (fun x hx => by
      obtain ⟨c, hc, rfl⟩ := List.mem_map.1 hx
      obtain ⟨i, hi, rfl⟩ := hmem c hc
      rw [asV_cells (hg i hi).1]; exact (hg i hi).2.1)
    (fun i j hi hj => hcell i j (by simpa [hlen] using hi) hj)
    (fun i x j a hx ha => by
      obtain ⟨hi, rfl⟩ := hget i x hx
      rw [asV_cells (hg i hi).1] at ha
      have hj : j < P.cellsOf e := by
        have := (List.getElem?_eq_some_iff.1 ha).1
        rw [(hg i hi).2.1] at this
        exact this
      obtain ⟨v, h1, h2, h3⟩ := (hg i hi).2.2 j hj
      simp only [h1, Option.getD_some]
      exact h3 a ha none)
  simpa [hlen] using this

/-- What is read, as abstract values. -/
theorem trod_has : ∀ (fuel D : Nat) (t : TypeId) (vcs : List Value) (d : DataW H) (ps : List MemPlace), okT P D t = true →
    DataW.trod enc P w 0 (fun _ => true) true fuel t vcs = some (d, ps) → ∃ c, HasC P t c ∧ Rel w c vcs
  | 0, D, t, vcs, d, ps, hk, h => by simp [DataW.trod] at h
  | fuel + 1, 0, t, vcs, d, ps, hk, h => by simp [okT] at hk
  | fuel + 1, D + 1, t, vcs, d, ps, hk, h => by
    have ih := trod_has fuel D
    unfold DataW.trod at h
    unfold okT at hk
    split at hk
    · rename_i hu
      rw [hu] at h
      split at h <;> simp_all
      exact ⟨_, .bool hu, .one (fun o => .sc rfl) rfl⟩
    · rename_i k hu
      rw [hu] at h
      split at h <;> simp_all
      obtain ⟨⟨rfl, hw⟩, _⟩ := h
      exact ⟨_, .int hu hw, .one (fun o => .sc rfl) rfl⟩
    · rename_i hu
      rw [hu] at h
      split at h <;> simp_all
      exact ⟨_, .str hu h.1, .one (fun o => .sc rfl) rfl⟩
    · rename_i e hu
      rw [hu] at h
      simp only [Bool.and_eq_true, decide_eq_true_eq] at hk
      obtain ⟨hk, hpos⟩ := hk
      split at h
      all_goals first | (rename_i hq; cases hq; done) | skip
      · simp only [Option.some.injEq, Prod.mk.injEq] at h
        exact ⟨_, .slice hu true [] (by simp), .one (fun o => .vw0 (fun _ => rfl) (by simp [maxLen])) rfl⟩
      · rename_i e' ad len cap h1
        cases h1
        simp only at h
        split at h
        rotate_left
        · cases h
        rename_i hh
        obtain ⟨_, hl, hm⟩ := hh
        simp only [Option.bind_eq_some_iff] at h
        obtain ⟨xs, hxs, _⟩ := h
        exact slice_has ih hu hk hpos hl hm hxs
      · cases h
    · rename_i fs hu
      rw [hu] at h
      simp only [Bool.and_eq_true, List.all_eq_true] at hk
      obtain ⟨hk, hc⟩ := hk
      split at h
      all_goals first | (rename_i hq; cases hq; done) | skip
      · rename_i fs' h1
        cases h1
        split at h
        rotate_left
        · cases h
        rename_i hl
        simp only [Option.map_eq_some_iff] at h
        obtain ⟨xs, hxs, _⟩ := h
        have := parts_has (w := w) ih (fs.toList.map fun f => (f.offset, f.type)) 0 xs (by rw [hl]; exact hc) (by
          intro p hp
          obtain ⟨f, hf, rfl⟩ := List.mem_map.1 hp
          exact hk f hf) (by rw [mapM_map']; exact hxs)
        obtain ⟨cs, g1, g2⟩ := this
        rw [List.map_map] at g1
        exact ⟨cs, .struct hu g1, by simpa using g2⟩
      · exact absurd rfl (‹∀ (gs : Array Field), some (TypeDesc.struct fs) = some (TypeDesc.struct gs) → False› fs)
    · rename_i n e hu
      rw [hu] at h
      simp only [Bool.and_eq_true] at hk
      obtain ⟨hk, hc⟩ := hk
      split at h
      all_goals first | (rename_i hq; cases hq; done) | skip
      · rename_i n' e' h1
        cases h1
        split at h
        rotate_left
        · cases h
        rename_i hl
        simp only [Option.map_eq_some_iff] at h
        obtain ⟨xs, hxs, _⟩ := h
        have := parts_has (w := w) ih ((List.range n).map fun i => (i * P.cellsOf e, e)) 0 xs (by rw [hl]; exact hc) (by
          intro p hp
          obtain ⟨f, hf, rfl⟩ := List.mem_map.1 hp
          exact hk) (by rw [mapM_map']; exact hxs)
        obtain ⟨cs, g1, g2⟩ := this
        have e1 : List.map (fun x : Nat × TypeId => x.2) (List.map (fun i => (i * P.cellsOf e, e)) (List.range n)) = List.replicate n e := by
          rw [List.map_map]
          exact List.eq_replicate_iff.2 ⟨by simp, by simp⟩
        rw [e1] at g1
        exact ⟨cs, .array hu g1, by simpa using g2⟩
      · exact absurd rfl (‹∀ (m : Nat) (u : TypeId), some (TypeDesc.array n e) = some (TypeDesc.array m u) → False› n e)
    · cases hk
end
end Go.SX
