/-
  SX, part 19: functions that return views of memory of their own; freezing a block.
  Conditions: none (lemmas over any program and any world).
-/
import Derived.Test.YtdjpkhjaibdogaaGreatSXH
namespace Go.SX
set_option linter.unusedSimpArgs false
set_option linter.unusedVariables false
open Go.RowKit (Below)

/-! ### Own blocks as views -/

mutual
theorem borrowX_ok {w X X0 hc} (hr : HR w X hc) (hx : ∀ b, X0 b → X b) (ho : ∀ b, Own hc b → ¬ X0 b) : ∀ (a : AV) {v : Value}, VR w X (some hc) a v → VR w X0 (some hc0) (borrow hc.H a) v
  | .sc x, v, h => by cases h with | sc h => exact .sc h
  | .un, v, h => by cases h; exact .un
  | .jk, v, _ => .jk
  | .vw z es, v, h => by
    cases h with
    | vw0 hz hm => exact .vw0 hz hm
    | vw1 f hne hX hb hcap hz hmax hsz hcl hv => exact .vw1 f hne (fun h => hX (hx _ h)) hb hcap hz hmax hsz hcl (fun i e j a h1 h2 => (hv i e j a h1 h2).antiX hx)
  | .vp es i off, v, h => by
    cases h with
    | vp f hX hb hsz hcl hv => exact .vp f (fun h => hX (hx _ h)) hb hsz hcl (fun i e j a h1 h2 => (hv i e j a h1 h2).antiX hx)
  | .ag cs, v, h => by
    cases h with
    | ag hl h1 h2 =>
      have := borrowsX_ok hr hx ho cs ⟨hl, h1⟩
      exact .ag this.1 this.2 h2
  | .tu cs, v, h => by
    cases h with
    | tu hl h1 =>
      have := borrowsX_ok hr hx ho cs ⟨hl, h1⟩
      exact .tu this.1 this.2
  | .fn f cs, v, h => by
    cases h with
    | fn hl h1 =>
      have := borrowsX_ok hr hx ho cs ⟨hl, h1⟩
      exact .fn this.1 this.2
  | .pt id ver i off, v, h => by
    simp only [borrow]
    split
    · rename_i B hl
      obtain ⟨b, base, h1, h2, h3, ⟨cs, h4⟩, h5⟩ := pt_live hr h hl
      obtain ⟨g1, g2, g3⟩ := liveB_some hl
      subst h2
      refine .vp (fun i j => (w.cell? ⟨b, base + i * B.esz + j, none⟩).getD undef) (ho b ⟨id, B, base, g1, g2, h1⟩) (hr.lt b h3) ?_ ?_ ?_
      · intro e he
        obtain ⟨i, hi⟩ := List.mem_iff_getElem?.1 he
        exact (h5 i e hi).1
      · intro i j hi hj
        obtain ⟨q1, q2⟩ := h5 i B.els[i] (by simp [hi])
        obtain ⟨c, e1, e2, e3⟩ := q2 j (B.els[i].cells[j]'(by omega)) (by simp)
        rw [e1]
        exact ⟨rfl, e2⟩
      · intro i e j a he ha
        obtain ⟨q1, q2⟩ := h5 i e he
        obtain ⟨c, e1, e2, e3⟩ := q2 j a ha
        rw [e1]
        exact e3.close.antiX hx
    · exact .jk
  | .sl id ver lo len, v, h => by
    simp only [borrow]
    split
    · rename_i B hl
      obtain ⟨g1, g2, g3⟩ := liveB_some hl
      cases h with
      | sl q1 q2 =>
        obtain ⟨r1, r2⟩ := q2 _ rfl
        obtain ⟨r3, r4⟩ := r2 B g1 g2 g3
        have hlen : ((B.els.drop lo).take len).length = len := by simp; omega
        have hB := hr.blk id B g1 g2
        rcases r4 with ⟨r4, p, hp⟩ | ⟨b, base, cap, nn, hloc, k1, k2, k3, k4, k5⟩
        · subst r4; subst hp
          rw [List.take_zero]
          exact .vw0 (fun h => by cases h) (Nat.zero_le _)
        · have hB2 := hB.2.2
          rw [hloc] at hB2
          obtain ⟨m1, ⟨cs, m2⟩, m3⟩ := hB2
          subst k1
          by_cases h0 : len = 0
          · subst h0
            rw [List.take_zero]
            exact .vw0 (fun h => by cases h) k3
          · have hne : (B.els.drop lo).take len ≠ [] := by intro e; rw [e] at hlen; simp at hlen; omega
            have hget : ∀ i e, ((B.els.drop lo).take len)[i]? = some e → B.els[lo + i]? = some e := by
              intro i e he
              rw [List.getElem?_take] at he
              split at he
              · rwa [List.getElem?_drop] at he
              · cases he
            have := VR.vw1 (w := w) (X := X0) (o := some hc0) (z := false) (es := (B.els.drop lo).take len) (b := b) (base := base + lo * B.esz) (cap := cap) (esz := B.esz)
              (fun i j => (w.cell? ⟨b, base + lo * B.esz + i * B.esz + j, none⟩).getD undef) hne (ho b ⟨id, B, base, g1, g2, hloc⟩) (hr.lt b m1) (by rw [hlen]; exact k2) (fun h => by cases h) k3
              (fun e he => by
                obtain ⟨i, hi⟩ := List.mem_iff_getElem?.1 he
                exact (m3 _ e (hget i e hi)).1)
              (fun i j hi hj => by
                have he : ((B.els.drop lo).take len)[i]? = some ((B.els.drop lo).take len)[i] := List.getElem?_eq_getElem hi
                obtain ⟨q1, q2⟩ := m3 _ _ (hget i _ he)
                obtain ⟨c, e1, e2, e3⟩ := q2 j (((B.els.drop lo).take len)[i].cells[j]'(by omega)) (by simp)
                rw [Nat.add_mul, ← Nat.add_assoc] at e1
                rw [e1]
                exact ⟨rfl, e2⟩)
              (fun i e j a he ha => by
                obtain ⟨q1, q2⟩ := m3 _ e (hget i e he)
                obtain ⟨c, e1, e2, e3⟩ := q2 j a ha
                rw [Nat.add_mul, ← Nat.add_assoc] at e1
                rw [e1]
                exact e3.close.antiX hx)
            rw [hlen] at this
            exact this
    · exact .jk
theorem borrowsX_ok {w X X0 hc} (hr : HR w X hc) (hx : ∀ b, X0 b → X b) (ho : ∀ b, Own hc b → ¬ X0 b) : ∀ (as : List AV) {vs : List Value}, VL w X (some hc) as vs → VL w X0 (some hc0) (borrows hc.H as) vs
  | [], vs, h => by rw [h.unnil]; exact .nil
  | a :: r, vs, h => by
    obtain ⟨v, vs', rfl, h1, h2⟩ := h.uncons
    exact .cons (borrowX_ok hr hx ho a h1) (borrowsX_ok hr hx ho r h2)
end

/-! ### Functions that return views -/

/-- A call that leaves all memory as it was; what it gives are values, views of what came in, and views of memory of its own. -/
def VSpec (P : Program) (f : FuncId) (args : List AV) (r : AV) : Prop :=
  Callable P f ∧ r.noref = true ∧ ∀ (w : World) (X0 : Nat → Prop) (cargs : Array Value), (∀ b, X0 b → b < w.heap.size) → VL w X0 (some hc0) args cargs.toList →
    Calls P f cargs w fun e w' => ∃ c, e = .returned c ∧ VR w' X0 (some hc0) r c ∧ Below w.heap.size w w'

theorem VL.close {w X o as vs} (h : VL w X o as vs) : VL w X none as vs := ⟨h.1, fun i a v h1 h2 => (h.2 i a v h1 h2).close⟩

theorem hspec_of_v {P : Program} {f : FuncId} {args : List AV} {r : AV} (hv : VSpec P f args r) (hn : norefs args = true) (H : List Blk) (cnt : Nat) : HSpec P f args H cnt r H cnt := by
  obtain ⟨h1, h2, h3⟩ := hv
  refine ⟨h1, fun w X loc cargs hr hl => ?_⟩
  refine (h3 w X cargs hr.lt (norefs_ok _ hn hl.close)).mono ?_
  rintro e w' ⟨c, rfl, g1, g2⟩
  exact ⟨X, loc, c, rfl, hr.below g2, noref_ok _ h2 g1.close, evo_below g2 X _⟩

/-- A pure function gives no views. -/
theorem vspec_of_p {P : Program} {f : FuncId} {args : List AV} {r : AV} (h : PSpec P f args r) (hn : r.noref = true) : VSpec P f args r := by
  obtain ⟨h1, c, h2, h3⟩ := h
  refine ⟨h1, hn, fun w X0 cargs _ hl => ?_⟩
  refine (h3 w cargs ⟨hl.1, fun i a v e1 e2 => (hl.2 i a v e1 e2).antiX (fun _ h => h.elim)⟩).mono ?_
  rintro e w' ⟨rfl, g⟩
  exact ⟨c, rfl, h2 _ _ _, g⟩

def VOk (P : Program) (g : Nat) (F : List AV → Option AV) : Prop := ∀ args r, F args = some r → VSpec P g args r
inductive VOks (P : Program) : List (Nat × (List AV → Option AV)) → Prop
  | nil : VOks P []
  | cons {g F r} (h : VOk P g F) (t : VOks P r) : VOks P ((g, F) :: r)

def hcV (H : List Blk) (cnt : Nat) : Bool → Option AV → Option (AV × List Blk × Nat)
  | true, some r => some (r, H, cnt)
  | _, _ => none
theorem hcV_some (H : List Blk) (cnt : Nat) (r : AV) : hcV H cnt true (some r) = some (r, H, cnt) := rfl
/-- What is known of pure functions, and of those that return views. -/
def vEnv (l lv : List (Nat × (List AV → Option AV))) : Env := ⟨pin l, pl l, fun g args H cnt => hcV H cnt (norefs args) (pl lv g args), false, fun _ => none, fun _ => false⟩
theorem lit_vEnv (l lv : List (Nat × (List AV → Option AV))) : (vEnv l lv).lit = false := rfl
theorem perm_vEnv (l lv : List (Nat × (List AV → Option AV))) (i : Nat) : (vEnv l lv).perm i = none := rfl
theorem hb_vEnv (l lv : List (Nat × (List AV → Option AV))) (g : Nat) : (vEnv l lv).hb g = false := rfl
theorem isP_vEnv (l lv : List (Nat × (List AV → Option AV))) (f : Nat) : (vEnv l lv).isP f = pin l f := rfl
theorem pcall_vEnv (l lv : List (Nat × (List AV → Option AV))) (f : Nat) (a : List AV) : (vEnv l lv).pcall f a = pl l f a := rfl
theorem hcall_vEnv (l lv : List (Nat × (List AV → Option AV))) (f : Nat) (a : List AV) (H : List Blk) (cnt : Nat) : (vEnv l lv).hcall f a H cnt = hcV H cnt (norefs a) (pl lv f a) := rfl
theorem vEnv_ok {P : Program} {l lv : List (Nat × (List AV → Option AV))} (h : POks P l) (hv : VOks P lv) : EnvOk P (vEnv l lv) where
  p := (pEnv_ok h).p
  h f args H cnt r H' cnt' he := by
    simp only [vEnv] at he
    cases hn : norefs args with
    | false => rw [hn] at he; simp [hcV] at he
    | true =>
      rw [hn] at he
      cases hp : pl lv f args with
      | none => rw [hp] at he; simp [hcV] at he
      | some q =>
        rw [hp] at he
        simp only [hcV, Option.some.injEq, Prod.mk.injEq] at he
        obtain ⟨rfl, rfl, rfl⟩ := he
        refine hspec_of_v ?_ hn H cnt
        induction hv with
        | nil => simp [pl] at hp
        | @cons g F l h t ih =>
          simp only [pl] at hp
          split at hp
          · rename_i hh; subst hh; exact h args q hp
          · exact ih hp

/-- The same, with slices that are made and only read. -/
def lEnv (l lv : List (Nat × (List AV → Option AV))) : Env := ⟨pin l, pl l, fun g args H cnt => hcV H cnt (norefs args) (pl lv g args), true, fun _ => none, fun _ => false⟩
theorem lit_lEnv (l lv : List (Nat × (List AV → Option AV))) : (lEnv l lv).lit = true := rfl
theorem perm_lEnv (l lv : List (Nat × (List AV → Option AV))) (i : Nat) : (lEnv l lv).perm i = none := rfl
theorem hb_lEnv (l lv : List (Nat × (List AV → Option AV))) (g : Nat) : (lEnv l lv).hb g = false := rfl
theorem isP_lEnv (l lv : List (Nat × (List AV → Option AV))) (f : Nat) : (lEnv l lv).isP f = pin l f := rfl
theorem pcall_lEnv (l lv : List (Nat × (List AV → Option AV))) (f : Nat) (a : List AV) : (lEnv l lv).pcall f a = pl l f a := rfl
theorem hcall_lEnv (l lv : List (Nat × (List AV → Option AV))) (f : Nat) (a : List AV) (H : List Blk) (cnt : Nat) : (lEnv l lv).hcall f a H cnt = hcV H cnt (norefs a) (pl lv f a) := rfl
theorem lEnv_ok {P : Program} {l lv : List (Nat × (List AV → Option AV))} (h : POks P l) (hv : VOks P lv) : EnvOk P (lEnv l lv) := ⟨(vEnv_ok h hv).p, (vEnv_ok h hv).h⟩

/-- A function that returns views: its specification from a run of the abstract machine. -/
theorem vspec_of_go {P : Program} {E : Env} (hE : EnvOk P E) (hm : P.follows .mixedOrders = true) {f : FuncId} {fn : Func} {c : Code} {args : List AV} {r : AV}
    (hf : P.funcs[f]? = some fn) (hb : fn.body = some c) (hn : (fn.name == "runtime.NumGoroutine") = false) (hlex : lexAll E.hb E.perm c = true) (hr : r.noref = true)
    (h : Go P E 0 fn.results.toList (fun r' s' => borrow s'.H r' = r) [.code c] (initSt fn args [] 0)) : VSpec P f args r := by
  refine ⟨⟨fn, hf, hn, by rw [hb]; rfl⟩, hr, fun w X0 cargs hx hv => ?_⟩
  have hr0 : HR w X0 ⟨fun _ => none, [], 0⟩ := ⟨fun id B h1 _ => by simp at h1, fun id id' B B' b o o' h1 => by simp at h1, hx⟩
  refine (calls_of_go hE hm hf hb hlex (H := []) (cnt := 0) (R := fun r' s' => borrow s'.H r' = r) h w X0 (fun _ => none) cargs hr0 hv).mono ?_
  rintro e w' ⟨r', s', X', loc', c', rfl, rfl, g1, g2, g3⟩
  have hown : ∀ b, Own (s'.hc loc') b → ¬ X0 b := by
    rintro b ⟨id, B, o, e1, e2, e3⟩ hb0
    obtain ⟨B1, o1, k1, _⟩ := g3.fresh id B b o e1 e2 e3 (hx b hb0)
    simp at k1
  refine ⟨c', rfl, borrowX_ok g1 (fun b hb0 => (g3.xs b (hx b hb0)).2 hb0) hown _ g2, g3.os, g3.tape, g3.output, g3.size, fun k hk => g3.keep k hk ?_⟩
  rintro ⟨id, B, o, h1, _⟩
  simp at h1

/-! ### Freezing a block: from here on it is only read -/

section
variable {P : Program} {E : Env} {n0 : Nat} {rs : List ResultVar} {R : AV → St → Prop}
theorem go_freeze {k : List Item} {T T' : List AV} {H H' : List Blk} {c c' : Nat} (id : Nat) (B : Blk) (hB : H[id]? = some B) (hl : B.live = true) (hid : n0 ≤ id) (hn : ∀ e ∈ B.els, ∀ a ∈ e.cells, a.noref = true)
    (hT : FrzT id B T T') (hH : ∀ (k : Nat) (A' : Blk), H'[k]? = some A' → A'.live = true → k ≠ id ∧ ∃ A, H[k]? = some A ∧ FrzB id B A A') (hc : c ≤ c')
    (h : Go P E n0 rs R k ⟨T', H', c'⟩) : Go P E n0 rs R k ⟨T, H, c⟩ := by
  exact .ghost (s' := ⟨T', H', c'⟩) (fun w X loc a hs => freeze_sr id B hs hB hl hid hn hT hH hc) h
end
end Go.SX
