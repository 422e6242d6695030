/-
  SX, part 12: loops by induction.
  Conditions: none.
-/
import Derived.Test.YtdjpkhjaibdogaaGreatSXB
namespace Go.SX
set_option linter.unusedSimpArgs false
set_option linter.unusedVariables false

/-- Slots of which less is known. -/
def WeakT : List AV → List AV → Prop
  | [], [] => True
  | a :: T, b :: T' => (b = .jk ∨ a = b) ∧ WeakT T T'
  | _, _ => False
theorem weakT_nil : WeakT [] [] = True := rfl
theorem weakT_cons (a b : AV) (T T' : List AV) : WeakT (a :: T) (b :: T') = ((b = .jk ∨ a = b) ∧ WeakT T T') := rfl
theorem weakT_spec : ∀ {T T' : List AV}, WeakT T T' → T.length = T'.length ∧ ∀ (i : Nat) (b : AV), T'[i]? = some b → b = .jk ∨ T[i]? = some b
  | [], [], _ => ⟨rfl, fun i b h => by simp at h⟩
  | a :: T, b :: T', h => by
    obtain ⟨h1, h2⟩ := h
    obtain ⟨e1, e2⟩ := weakT_spec h2
    refine ⟨by simp [e1], fun i c hc => ?_⟩
    cases i with
    | zero =>
      simp at hc ⊢
      subst hc
      exact h1
    | succ i => simp at hc ⊢; exact e2 i c hc
  | [], _ :: _, h => h.elim
  | _ :: _, [], h => h.elim

/-- A heap of which less is known. -/
def WeakH : List Blk → List Blk → Prop
  | _, [] => True
  | [], b :: H' => b.live = false ∧ WeakH [] H'
  | a :: H, b :: H' => (b.live = false ∨ a = b) ∧ WeakH H H'
theorem weakH_nil (H : List Blk) : WeakH H [] = True := by cases H <;> rfl
theorem weakH_cons (a b : Blk) (H H' : List Blk) : WeakH (a :: H) (b :: H') = ((b.live = false ∨ a = b) ∧ WeakH H H') := rfl
theorem weakH_spec : ∀ {H H' : List Blk}, WeakH H H' → ∀ (i : Nat) (b : Blk), H'[i]? = some b → b.live = true → H[i]? = some b
  | _, [], _, i, b, h, _ => by simp at h
  | [], b :: H', h, i, c, hc, hl => by
    cases i with
    | zero => simp at hc; subst hc; rw [h.1] at hl; cases hl
    | succ i => simp at hc; have := weakH_spec h.2 i c hc hl; simp at this
  | a :: H, b :: H', h, i, c, hc, hl => by
    cases i with
    | zero =>
      simp at hc ⊢; subst hc
      rcases h.1 with h1 | h1
      · rw [h1] at hl; cases hl
      · exact h1
    | succ i => simp at hc ⊢; exact weakH_spec h.2 i c hc hl

section
variable {P : Program} {E : Env} {n0 : Nat} {rs : List ResultVar} {R : AV → St → Prop}

theorem go_weak {k : List Item} {T T' : List AV} {H H' : List Blk} {c c' : Nat} (hT : WeakT T T') (hH : WeakH H H') (hc : c ≤ c') (h : Go P E n0 rs R k ⟨T', H', c'⟩) : Go P E n0 rs R k ⟨T, H, c⟩ := by
  refine .ghost (s' := ⟨T', H', c'⟩) (fun w X loc a hs => ?_) h
  obtain ⟨h1, h2, h3⟩ := hs
  obtain ⟨g1, g2⟩ := forget_ok (H' := H') (cnt' := c') h1 (weakH_spec hH) hc
  refine ⟨X, loc, ⟨g1, ?_, h3⟩, fun w0 X0 hc0 _ he => he.trans g2⟩
  obtain ⟨e1, e2⟩ := weakT_spec hT
  refine ⟨e1.symm.trans h2.1, fun i b v hb hv => ?_⟩
  rcases e2 i b hb with rfl | hb'
  · exact .jk
  · exact (h2.2 i b v hb' hv).mono g2 h1

/-- A loop, by induction: 'I x c' is the state at its head. -/
theorem go_loop {σ : Type} (I : σ → Nat → St) (Inv : σ → Prop) (μ : σ → Nat) {c : Code} {k : List Item}
    (hb : ∀ x cnt, Inv x → (∀ x' cnt', Inv x' → μ x' < μ x → Go P E n0 rs R (.inLoop c :: k) (I x' cnt')) → Go P E n0 rs R (.code c :: .inLoop c :: k) (I x cnt))
    (x : σ) (cnt : Nat) (h : Inv x) : Go P E n0 rs R (.code (.loop c) :: k) (I x cnt) := by
  have : ∀ n x cnt, μ x < n → Inv x → Go P E n0 rs R (.code c :: .inLoop c :: k) (I x cnt) := by
    intro n
    induction n with
    | zero => intro x cnt h; omega
    | succ n ih => intro x cnt h h'; exact hb x cnt h' (fun x' cnt' h1 h2 => .inLoop (ih x' cnt' (by omega) h1))
  exact .loop (this _ x cnt (Nat.lt_succ_self _) h)

/-- The same, from a state of which more is known. -/
theorem go_loopW {σ : Type} (I : σ → Nat → St) (Inv : σ → Prop) (μ : σ → Nat) (x : σ) {c : Code} {k : List Item} {T : List AV} {H : List Blk} {cnt : Nat}
    (h : Inv x) (hw : WeakT T (I x cnt).T) (hh : WeakH H (I x cnt).H) (hcn : (I x cnt).cnt = cnt)
    (hb : ∀ x cnt, Inv x → (∀ x' cnt', Inv x' → μ x' < μ x → Go P E n0 rs R (.inLoop c :: k) (I x' cnt')) → Go P E n0 rs R (.code c :: .inLoop c :: k) (I x cnt)) :
    Go P E n0 rs R (.code (.loop c) :: k) ⟨T, H, cnt⟩ :=
  go_weak hw hh (Nat.le_of_eq hcn.symm) (go_loop I Inv μ hb x cnt h)
end

theorem wrap_i64s {x : Int} (h : -9223372036854775808 ≤ x) (h' : x < 9223372036854775808) : IntKind.i64.wrap x = x := by
  simp only [IntKind.wrap, IntKind.bits, IntKind.signed]; simp; omega
/-- A number that is written out. -/
theorem wrap_lit {x : Int} (h : -9223372036854775808 ≤ x) (h' : x < 9223372036854775808) : IntKind.i64.wrap x = x := wrap_i64s h h'
theorem wrap_u64s {x : Int} (h : 0 ≤ x) (h' : x < 18446744073709551616) : IntKind.u64.wrap x = x := by
  simp only [IntKind.wrap, IntKind.bits, IntKind.signed]; simp; omega
theorem wrap_u32s {x : Int} (h : 0 ≤ x) (h' : x < 4294967296) : IntKind.u32.wrap x = x := by
  simp only [IntKind.wrap, IntKind.bits, IntKind.signed]; simp; omega
theorem wrap_u16s {x : Int} (h : 0 ≤ x) (h' : x < 65536) : IntKind.u16.wrap x = x := by
  simp only [IntKind.wrap, IntKind.bits, IntKind.signed]; simp; omega
theorem wrap_u8s {x : Int} (h : 0 ≤ x) (h' : x < 256) : IntKind.u8.wrap x = x := by
  simp only [IntKind.wrap, IntKind.bits, IntKind.signed]; simp; omega
theorem wrap_i32s {x : Int} (h : -2147483648 ≤ x) (h' : x < 2147483648) : IntKind.i32.wrap x = x := by
  simp only [IntKind.wrap, IntKind.bits, IntKind.signed]; simp; omega

/-- A frame of n slots of which some are known. -/
def lkT : Nat → List (Nat × AV) → AV
  | _, [] => .jk
  | i, (j, v) :: l => if i = j then v else lkT i l
def mkT : Nat → Nat → List (Nat × AV) → List AV
  | _, 0, _ => []
  | i, n + 1, l => lkT i l :: mkT (i + 1) n l
end Go.SX
