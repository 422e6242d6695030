/-
  SX, part 22: functions whose results are views of memory of their own alone.
  Conditions: none.
-/
import Derived.Test.YtdjpkhjaibdogaaGreatSXM
namespace Go.SX
set_option linter.unusedSimpArgs false
set_option linter.unusedVariables false
open Go.RowKit (Below)

mutual
/-- No part is a view of memory that was there. -/
def AV.fresh : AV → Bool
  | .sc _ | .un | .jk | .pt .. | .sl .. => true
  | .vw _ es => es.isEmpty
  | .ag cs | .tu cs => freshs cs
  | _ => false
def freshs : List AV → Bool
  | [] => true
  | a :: r => a.fresh && freshs r
end
mutual
/-- The blocks that it names hold no such views either. -/
def AV.freshIn (H : List Blk) : AV → Bool
  | .sl id ver _ _ => match liveB H id ver with | some B => freshs B.els | none => true
  | .pt id ver _ _ => match liveB H id ver with | some B => freshs B.els | none => true
  | .ag cs | .tu cs => freshsIn H cs
  | .vw _ es => es.isEmpty
  | .sc _ | .un | .jk => true
  | _ => false
def freshsIn (H : List Blk) : List AV → Bool
  | [] => true
  | a :: r => a.freshIn H && freshsIn H r
end

mutual
theorem fresh_any {w X Y o} : ∀ (a : AV) {v : Value}, a.fresh = true → VR w X o a v → VR w Y none a v
  | .sc x, v, _, h => by cases h with | sc h => exact .sc h
  | .un, v, _, h => by cases h; exact .un
  | .jk, v, _, _ => .jk
  | .pt .., v, _, h => by cases h with | pt h1 h2 => exact .pt h1 (fun _ e => by cases e)
  | .sl .., v, _, h => by cases h with | sl h1 h2 => exact .sl h1 (fun _ e => by cases e)
  | .vw z [], v, _, h => by
    cases h with
    | vw0 hz hm => exact .vw0 hz hm
    | vw1 f hne => exact absurd rfl hne
  | .vw z (_ :: _), v, hf, _ => by simp [AV.fresh] at hf
  | .ag cs, v, hf, h => by
    cases h with
    | ag hl h1 h2 =>
      have := freshs_any (Y := Y) cs (by simpa [AV.fresh] using hf) ⟨hl, h1⟩
      exact .ag this.1 this.2 h2
  | .tu cs, v, hf, h => by
    cases h with
    | tu hl h1 =>
      have := freshs_any (Y := Y) cs (by simpa [AV.fresh] using hf) ⟨hl, h1⟩
      exact .tu this.1 this.2
  | .vp .., v, hf, _ => by simp [AV.fresh] at hf
  | .fn .., v, hf, _ => by simp [AV.fresh] at hf
theorem freshs_any {w X Y o} : ∀ (as : List AV) {vs : List Value}, freshs as = true → VL w X o as vs → VL w Y none as vs
  | [], vs, _, h => by rw [h.unnil]; exact .nil
  | a :: r, vs, hf, h => by
    obtain ⟨v, vs', rfl, h1, h2⟩ := h.uncons
    simp only [freshs, Bool.and_eq_true] at hf
    exact .cons (fresh_any a hf.1 h1) (freshs_any r hf.2 h2)
end
theorem freshs_mem : ∀ {as : List AV}, freshs as = true → ∀ a ∈ as, a.fresh = true
  | [], _, a, h => by cases h
  | b :: r, h, a, ha => by
    simp only [freshs, Bool.and_eq_true] at h
    rcases List.mem_cons.1 ha with rfl | ha
    · exact h.1
    · exact freshs_mem h.2 a ha
theorem fresh_cells {e : AV} (h : e.fresh = true) : ∀ a ∈ e.cells, a.fresh = true := by
  intro a ha
  cases e with
  | ag cs =>
    have h' : freshs cs = true := by simpa [AV.fresh] using h
    exact freshs_mem h' a ha
  | _ => simp only [AV.cells, List.mem_singleton] at ha; subst ha; exact h

mutual
theorem borrowF_ok {w X Y hc} (hr : HR w X hc) (ho : ∀ b, Own hc b → ¬ Y b) : ∀ (a : AV) {v : Value}, a.freshIn hc.H = true → VR w X (some hc) a v → VR w Y (some hc0) (borrow hc.H a) v
  | .sc x, v, _, h => by cases h with | sc h => exact .sc h
  | .un, v, _, h => by cases h; exact .un
  | .jk, v, _, _ => .jk
  | .vw z [], v, _, h => by
    cases h with
    | vw0 hz hm => exact .vw0 hz hm
    | vw1 f hne => exact absurd rfl hne
  | .vw z (_ :: _), v, hf, _ => by simp [AV.freshIn] at hf
  | .vp .., v, hf, _ => by simp [AV.freshIn] at hf
  | .fn .., v, hf, _ => by simp [AV.freshIn] at hf
  | .ag cs, v, hf, h => by
    cases h with
    | ag hl h1 h2 =>
      have := borrowsF_ok hr ho cs (by simpa [AV.freshIn] using hf) ⟨hl, h1⟩
      exact .ag this.1 this.2 h2
  | .tu cs, v, hf, h => by
    cases h with
    | tu hl h1 =>
      have := borrowsF_ok hr ho cs (by simpa [AV.freshIn] using hf) ⟨hl, h1⟩
      exact .tu this.1 this.2
  | .pt id ver i off, v, hf, h => by
    simp only [borrow]
    split
    · rename_i B hl
      simp only [AV.freshIn, hl] at hf
      obtain ⟨b, base, h1, h2, h3, ⟨cs, h4⟩, h5⟩ := pt_live hr h hl
      obtain ⟨g1, g2, g3⟩ := liveB_some hl
      subst h2
      refine .vp (fun i j => (w.cell? ⟨b, base + i * B.esz + j, none⟩).getD undef) (ho b ⟨id, B, base, g1, g2, h1⟩) (hr.lt b h3) ?_ ?_ ?_
      · intro e he
        obtain ⟨i, hi⟩ := List.mem_iff_getElem?.1 he
        exact (h5 i e hi).1
      · intro i j hi hj
        obtain ⟨q1, q2⟩ := h5 i B.els[i] (by simp [hi])
        obtain ⟨c, e1, e2, e3⟩ := q2 j (B.els[i].cells[j]'(by omega)) (by simp)
        rw [e1]
        exact ⟨rfl, e2⟩
      · intro i e j a he ha
        obtain ⟨q1, q2⟩ := h5 i e he
        obtain ⟨c, e1, e2, e3⟩ := q2 j a ha
        rw [e1]
        exact fresh_any a (fresh_cells (freshs_mem hf e (List.mem_of_getElem? he)) a (List.mem_of_getElem? ha)) e3
    · exact .jk
  | .sl id ver lo len, v, hf, h => by
    simp only [borrow]
    split
    · rename_i B hl
      simp only [AV.freshIn, hl] at hf
      obtain ⟨g1, g2, g3⟩ := liveB_some hl
      cases h with
      | sl q1 q2 =>
        obtain ⟨r1, r2⟩ := q2 _ rfl
        obtain ⟨r3, r4⟩ := r2 B g1 g2 g3
        have hlen : ((B.els.drop lo).take len).length = len := by simp; omega
        have hB := hr.blk id B g1 g2
        rcases r4 with ⟨r4, p, hp⟩ | ⟨b, base, cap, nn, hloc, k1, k2, k3, k4, k5⟩
        · subst r4; subst hp
          rw [List.take_zero]
          exact .vw0 (fun h => by cases h) (Nat.zero_le _)
        · have hB2 := hB.2.2
          rw [hloc] at hB2
          obtain ⟨m1, ⟨cs, m2⟩, m3⟩ := hB2
          subst k1
          by_cases h0 : len = 0
          · subst h0
            rw [List.take_zero]
            exact .vw0 (fun h => by cases h) k3
          · have hne : (B.els.drop lo).take len ≠ [] := by intro e; rw [e] at hlen; simp at hlen; omega
            have hget : ∀ i e, ((B.els.drop lo).take len)[i]? = some e → B.els[lo + i]? = some e := by
              intro i e he
              rw [List.getElem?_take] at he
              split at he
              · rwa [List.getElem?_drop] at he
              · cases he
            have := VR.vw1 (w := w) (X := Y) (o := some hc0) (z := false) (es := (B.els.drop lo).take len) (b := b) (base := base + lo * B.esz) (cap := cap) (esz := B.esz)
              (fun i j => (w.cell? ⟨b, base + lo * B.esz + i * B.esz + j, none⟩).getD undef) hne (ho b ⟨id, B, base, g1, g2, hloc⟩) (hr.lt b m1) (by rw [hlen]; exact k2) (fun h => by cases h) k3
              (fun e he => by
                obtain ⟨i, hi⟩ := List.mem_iff_getElem?.1 he
                exact (m3 _ e (hget i e hi)).1)
              (fun i j hi hj => by
                have he : ((B.els.drop lo).take len)[i]? = some ((B.els.drop lo).take len)[i] := List.getElem?_eq_getElem hi
                obtain ⟨q1, q2⟩ := m3 _ _ (hget i _ he)
                obtain ⟨c, e1, e2, e3⟩ := q2 j (((B.els.drop lo).take len)[i].cells[j]'(by omega)) (by simp)
                rw [Nat.add_mul, ← Nat.add_assoc] at e1
                rw [e1]
                exact ⟨rfl, e2⟩)
              (fun i e j a he ha => by
                obtain ⟨q1, q2⟩ := m3 _ e (hget i e he)
                obtain ⟨c, e1, e2, e3⟩ := q2 j a ha
                rw [Nat.add_mul, ← Nat.add_assoc] at e1
                rw [e1]
                exact fresh_any a (fresh_cells (freshs_mem hf e (List.mem_of_getElem? (hget i e he))) a (List.mem_of_getElem? ha)) e3)
            rw [hlen] at this
            exact this
    · exact .jk
theorem borrowsF_ok {w X Y hc} (hr : HR w X hc) (ho : ∀ b, Own hc b → ¬ Y b) : ∀ (as : List AV) {vs : List Value}, freshsIn hc.H as = true → VL w X (some hc) as vs → VL w Y (some hc0) (borrows hc.H as) vs
  | [], vs, _, h => by rw [h.unnil]; exact .nil
  | a :: r, vs, hf, h => by
    obtain ⟨v, vs', rfl, h1, h2⟩ := h.uncons
    simp only [freshsIn, Bool.and_eq_true] at hf
    exact .cons (borrowF_ok hr ho a hf.1 h1) (borrowsF_ok hr ho r hf.2 h2)
end

/-- A call that leaves all memory as it was; what it gives are values and views of memory of its own. -/
def FSpec (P : Program) (f : FuncId) (args : List AV) (r : AV) : Prop :=
  Callable P f ∧ r.noref = true ∧ ∀ (w : World) (cargs : Array Value), VL w noX (some hc0) args cargs.toList →
    Calls P f cargs w fun e w' => ∃ c, e = .returned c ∧ VR w' (fun b => b < w.heap.size) (some hc0) r c ∧ Below w.heap.size w w'
def FOk (P : Program) (g : Nat) (F : List AV → Option AV) : Prop := ∀ args r, F args = some r → FSpec P g args r
inductive FOks (P : Program) : List (Nat × (List AV → Option AV)) → Prop
  | nil : FOks P []
  | cons {g F r} (h : FOk P g F) (t : FOks P r) : FOks P ((g, F) :: r)
theorem fok_mk {P : Program} {g : Nat} {α : Type} {q : α → Prop} {enc : α → List AV} {out : α → AV} (h : ∀ x, q x → FSpec P g (enc x) (out x)) : FOk P g (mkF q enc out) := by
  intro args r hr
  obtain ⟨x, hq, rfl, rfl⟩ := mkF_inv hr
  exact h x hq

theorem hspec_of_f {P : Program} {f : FuncId} {args : List AV} {r : AV} {H : List Blk} {cnt : Nat} (hv : FSpec P f (borrows H args) r) : HSpec P f args H cnt r H cnt := by
  obtain ⟨h1, h2, h3⟩ := hv
  refine ⟨h1, fun w X loc cargs hr hl => ?_⟩
  refine (h3 w cargs (borrows_ok (hc := ⟨loc, H, cnt⟩) hr args hl)).mono ?_
  rintro e w' ⟨c, rfl, g1, g2⟩
  exact ⟨X, loc, c, rfl, hr.below g2, noref_ok _ h2 (g1.antiX (fun b hb => hr.lt b hb)).close, evo_below g2 X _⟩

def hcF (H : List Blk) (cnt : Nat) : Option AV → Option (AV × List Blk × Nat)
  | some r => some (r, H, cnt)
  | none => none
theorem hcF_some (H : List Blk) (cnt : Nat) (r : AV) : hcF H cnt (some r) = some (r, H, cnt) := rfl
/-- What is known of pure functions, and of those whose views are their own. -/
def fEnv (l lf : List (Nat × (List AV → Option AV))) : Env := ⟨pin l, pl l, fun g args H cnt => hcF H cnt (pl lf g (borrows H args)), false, fun _ => none, fun _ => false⟩
theorem lit_fEnv (l lf : List (Nat × (List AV → Option AV))) : (fEnv l lf).lit = false := rfl
theorem perm_fEnv (l lf : List (Nat × (List AV → Option AV))) (i : Nat) : (fEnv l lf).perm i = none := rfl
theorem hb_fEnv (l lf : List (Nat × (List AV → Option AV))) (g : Nat) : (fEnv l lf).hb g = false := rfl
theorem isP_fEnv (l lf : List (Nat × (List AV → Option AV))) (f : Nat) : (fEnv l lf).isP f = pin l f := rfl
theorem pcall_fEnv (l lf : List (Nat × (List AV → Option AV))) (f : Nat) (a : List AV) : (fEnv l lf).pcall f a = pl l f a := rfl
theorem hcall_fEnv (l lf : List (Nat × (List AV → Option AV))) (f : Nat) (a : List AV) (H : List Blk) (cnt : Nat) : (fEnv l lf).hcall f a H cnt = hcF H cnt (pl lf f (borrows H a)) := rfl
theorem fEnv_ok {P : Program} {l lf : List (Nat × (List AV → Option AV))} (h : POks P l) (hf : FOks P lf) : EnvOk P (fEnv l lf) where
  p := (pEnv_ok h).p
  h f args H cnt r H' cnt' he := by
    simp only [fEnv] at he
    cases hp : pl lf f (borrows H args) with
    | none => rw [hp] at he; simp [hcF] at he
    | some q =>
      rw [hp] at he
      simp only [hcF, Option.some.injEq, Prod.mk.injEq] at he
      obtain ⟨rfl, rfl, rfl⟩ := he
      refine hspec_of_f ?_
      induction hf with
      | nil => simp [pl] at hp
      | @cons g F l h t ih =>
        simp only [pl] at hp
        split at hp
        · rename_i hh; subst hh; exact h _ q hp
        · exact ih hp

theorem fspec_of_go {P : Program} {E : Env} (hE : EnvOk P E) (hm : P.follows .mixedOrders = true) {f : FuncId} {fn : Func} {c : Code} {args : List AV} {r : AV}
    (hf : P.funcs[f]? = some fn) (hb : fn.body = some c) (hn : (fn.name == "runtime.NumGoroutine") = false) (hlex : lexAll E.hb E.perm c = true) (hr : r.noref = true)
    (h : Go P E 0 fn.results.toList (fun r' s' => borrow s'.H r' = r ∧ r'.freshIn s'.H = true) [.code c] (initSt fn args [] 0)) : FSpec P f args r := by
  refine ⟨⟨fn, hf, hn, by rw [hb]; rfl⟩, hr, fun w cargs hv => ?_⟩
  refine (calls_of_go hE hm hf hb hlex (H := []) (cnt := 0) (R := fun r' s' => borrow s'.H r' = r ∧ r'.freshIn s'.H = true) h w noX (fun _ => none) cargs (hr0 w) hv).mono ?_
  rintro e w' ⟨r', s', X', loc', c', rfl, ⟨rfl, hfr⟩, g1, g2, g3⟩
  have hown : ∀ b, Own (s'.hc loc') b → ¬ b < w.heap.size := by
    rintro b ⟨id, B, o, e1, e2, e3⟩ hb0
    obtain ⟨B1, o1, k1, _⟩ := g3.fresh id B b o e1 e2 e3 hb0
    simp at k1
  refine ⟨c', rfl, borrowF_ok g1 hown _ hfr g2, g3.os, g3.tape, g3.output, g3.size, fun k hk => g3.keep k hk ?_⟩
  rintro ⟨id, B, o, h1, _⟩
  simp at h1

/-- Its views are its own: all the more it is a function that returns views. -/
theorem vspec_of_f {P : Program} {f : FuncId} {args : List AV} {r : AV} (h : FSpec P f args r) : VSpec P f args r := by
  obtain ⟨h1, hn, h3⟩ := h
  refine ⟨h1, hn, fun w X0 cargs hx hl => ?_⟩
  refine (h3 w cargs ⟨hl.1, fun i a v e1 e2 => (hl.2 i a v e1 e2).antiX (fun _ h => h.elim)⟩).mono ?_
  rintro e w' ⟨c, rfl, g1, g2⟩
  exact ⟨c, rfl, g1.antiX hx, g2⟩
theorem vok_of_f {P : Program} {g : Nat} {F : List AV → Option AV} (h : FOk P g F) : VOk P g F := fun args r hr => vspec_of_f (h args r hr)
theorem freshs_map {α : Type} {f : α → AV} (h : ∀ x, (f x).fresh = true) : ∀ l : List α, freshs (l.map f) = true
  | [] => by simp [freshs]
  | x :: r => by simp [freshs, h x, freshs_map h r]
theorem freshs_kA (k : IntKind) (l : List Int) : freshs (l.map (kA k)) = true := freshs_map (f := kA k) (fun _ => by simp [kA, AV.fresh]) l
end Go.SX
