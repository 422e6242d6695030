/-
  Lemmas towards ModesBegins (joined texts: SXQ, SXS, SXW, SXZ, SYG).
  Conditions: none.
-/
import Derived.Test.YtdjpkhjaibdogaaGreatL09
namespace Go.SX
set_option linter.unusedSimpArgs false
set_option linter.unusedVariables false
open Go.RowKit (Below)
theorem popTmp_sc (H : List Blk) (v : Value) : popTmp H (.sc v) = H := rfl
def dead : Blk := ⟨false, 0, 0, 0, [], false⟩
def swp (a b i : Nat) : Nat := if i = a then b else if i = b then a else i
inductive Ren (a b : Nat) : AV → AV → Prop
  | same {v : AV} (h : v.noref = true) : Ren a b v v
  | jk {v : AV} : Ren a b v .jk
  | pt (id ver i off : Nat) : Ren a b (.pt id ver i off) (.pt (swp a b id) ver i off)
  | sl (id ver lo len : Nat) : Ren a b (.sl id ver lo len) (.sl (swp a b id) ver lo len)
  | ag {cs ds : List AV} (hl : cs.length = ds.length) (h : ∀ (i : Nat) (c d : AV), cs[i]? = some c → ds[i]? = some d → Ren a b c d) : Ren a b (.ag cs) (.ag ds)
section
variable {P : Program} {E : Env} {n0 : Nat} {rs : List ResultVar} {R : AV → St → Prop}
end
section
variable {P : Program} {E : Env} {n0 : Nat} {rs : List ResultVar} {R : AV → St → Prop}
end
inductive WkV (H : List Blk) : AV → AV → Prop
  | refl (v : AV) : WkV H v v
  | jk (v : AV) : WkV H v .jk
  | vw (z : Bool) (es : List AV) : WkV H (.vw z es) (.vw false es)
  | sl0 (id ver lo : Nat) (h : (liveB H id ver).isSome = true) : WkV H (.sl id ver lo 0) (.vw false [])
  | ag {cs ds : List AV} (hl : cs.length = ds.length) (h : ∀ (i : Nat) (c d : AV), cs[i]? = some c → ds[i]? = some d → WkV H c d) : WkV H (.ag cs) (.ag ds)
  | tu {cs ds : List AV} (hl : cs.length = ds.length) (h : ∀ (i : Nat) (c d : AV), cs[i]? = some c → ds[i]? = some d → WkV H c d) : WkV H (.tu cs) (.tu ds)
def WkL (H : List Blk) : List AV → List AV → Prop
  | [], [] => True
  | a :: l, b :: m => WkV H a b ∧ WkL H l m
  | _, _ => False
theorem wkL_get {H : List Blk} : ∀ {l m : List AV}, WkL H l m → l.length = m.length ∧ ∀ (i : Nat) (c d : AV), l[i]? = some c → m[i]? = some d → WkV H c d
  | [], [], _ => ⟨rfl, fun i c d h => by simp at h⟩
  | x :: l, y :: m, h => by
    obtain ⟨h1, h2⟩ := wkL_get h.2
    refine ⟨by simp [h1], fun i c d hc hd => ?_⟩
    cases i with
    | zero => simp at hc hd; subst hc; subst hd; exact h.1
    | succ i => simp at hc hd; exact h2 i c d hc hd
  | [], _ :: _, h => h.elim
  | _ :: _, [], h => h.elim
theorem wkV_self (H : List Blk) (a : AV) : WkV H a a = True := eq_true (.refl a)
theorem wkV_ok {w : World} {X : Nat → Prop} {hc : HC} {a b : AV} (h : WkV hc.H a b) : ∀ {v : Value}, VR w X (some hc) a v → VR w X (some hc) b v := by
  induction h with
  | refl => exact fun hv => hv
  | jk => exact fun _ => .jk
  | vw z es =>
    intro v hv
    cases hv with
    | vw0 hz hm => exact .vw0 (fun h => by cases h) hm
    | vw1 f hne hX hb hcap hz hmax hsz hc' hv' => exact .vw1 f hne hX hb hcap (fun h => by cases h) hmax hsz hc' hv'
  | sl0 id ver lo h =>
    intro v hv
    cases hv with
    | sl g1 g2 =>
      obtain ⟨k1, k2⟩ := g2 _ rfl
      obtain ⟨B, hB⟩ := Option.isSome_iff_exists.1 h
      obtain ⟨e1, e2, e3⟩ := liveB_some hB
      rcases (k2 B e1 e2 e3).2 with ⟨_, a, rfl⟩ | ⟨b', base, cap, n, _, rfl, _, hm, _⟩
      · exact .vw0 (fun h => by cases h) (Nat.zero_le _)
      · exact .vw0 (fun h => by cases h) hm
  | ag hl h ih =>
    intro v hv
    cases hv with
    | ag g1 g2 g3 =>
      refine .ag (hl.symm.trans g1) (fun i d u hd hu => ?_) g3
      have hi := (List.getElem?_eq_some_iff.1 hd).1
      have hci := List.getElem?_eq_getElem (hl ▸ hi)
      exact ih i _ d hci hd (g2 i _ u hci hu)
  | tu hl h ih =>
    intro v hv
    cases hv with
    | tu g1 g2 =>
      refine .tu (hl.symm.trans g1) (fun i d u hd hu => ?_)
      have hi := (List.getElem?_eq_some_iff.1 hd).1
      have hci := List.getElem?_eq_getElem (hl ▸ hi)
      exact ih i _ d hci hd (g2 i _ u hci hu)
theorem wk_cells {H : List Blk} {e e' : AV} (h : WkV H e e') (hj : e' ≠ .jk) : e.cells.length = e'.cells.length ∧ ∀ (j : Nat) (a a' : AV), e.cells[j]? = some a → e'.cells[j]? = some a' → WkV H a a' := by
  have one : ∀ {x y : AV}, WkV H x y → x.cells = [x] → y.cells = [y] → x.cells.length = y.cells.length ∧ ∀ (j : Nat) (a a' : AV), x.cells[j]? = some a → y.cells[j]? = some a' → WkV H a a' := by
    intro x y hw hx hy
    rw [hx, hy]
    refine ⟨rfl, fun j a a' h1 h2 => ?_⟩
    cases j with
    | zero => simp at h1 h2; subst h1; subst h2; exact hw
    | succ j => simp at h1
  cases h with
  | refl => exact ⟨rfl, fun j a a' h1 h2 => by rw [h1] at h2; cases h2; exact .refl _⟩
  | jk => exact absurd rfl hj
  | vw z es => exact one (.vw z es) rfl rfl
  | sl0 id ver lo h => exact one (.sl0 id ver lo h) rfl rfl
  | ag hl h => exact ⟨hl, h⟩
  | tu hl h => exact one (.tu hl h) rfl rfl
def noJk : List AV → Bool
  | [] => true
  | .jk :: _ => false
  | _ :: l => noJk l
theorem noJk_mem : ∀ {l : List AV}, noJk l = true → ∀ e ∈ l, e ≠ .jk
  | [], _, e, he => by cases he
  | a :: l, h, e, he => by
    rcases List.mem_cons.1 he with rfl | he
    · rintro rfl; simp [noJk] at h
    · refine noJk_mem (l := l) ?_ e he
      cases a <;> simp_all [noJk]
def WkB (H : List Blk) (a b : Blk) : Prop := a.live = true ∧ a.ver = b.ver ∧ a.ty = b.ty ∧ a.esz = b.esz ∧ WkL H a.els b.els ∧ noJk b.els = true
def WkH (H0 : List Blk) : List Blk → List Blk → Prop
  | _, [] => True
  | [], b :: H' => b.live = false ∧ WkH H0 [] H'
  | a :: H, b :: H' => (b.live = false ∨ a = b ∨ WkB H0 a b) ∧ WkH H0 H H'
theorem wkH_self (H0 : List Blk) : ∀ H : List Blk, WkH H0 H H
  | [] => trivial
  | _ :: H => ⟨.inr (.inl rfl), wkH_self H0 H⟩
theorem wkH_selfT (H0 H : List Blk) : WkH H0 H H = True := eq_true (wkH_self H0 H)
theorem wkH_app (H0 D : List Blk) : ∀ H : List Blk, WkH H0 (H ++ D) H
  | [] => by cases D <;> trivial
  | _ :: H => ⟨.inr (.inl rfl), wkH_app H0 D H⟩
theorem wkH_spec {H0 : List Blk} : ∀ {H H' : List Blk}, WkH H0 H H' → ∀ (i : Nat) (b : Blk), H'[i]? = some b → b.live = true → ∃ a, H[i]? = some a ∧ (a = b ∨ WkB H0 a b)
  | _, [], _, i, b, h, _ => by simp at h
  | [], b :: H', h, i, c, hc, hl => by
    cases i with
    | zero => simp at hc; subst hc; rw [h.1] at hl; cases hl
    | succ i =>
      simp at hc
      obtain ⟨a, h1, _⟩ := wkH_spec h.2 i c hc hl
      simp at h1
  | a :: H, b :: H', h, i, c, hc, hl => by
    cases i with
    | zero =>
      simp at hc; subst hc
      rcases h.1 with h1 | h1
      · rw [h1] at hl; cases hl
      · exact ⟨a, rfl, h1⟩
    | succ i =>
      simp at hc
      obtain ⟨a', h1, h2⟩ := wkH_spec h.2 i c hc hl
      exact ⟨a', by simpa using h1, h2⟩
theorem wkH_ok {w : World} {X : Nat → Prop} {hc : HC} (hr : HR w X hc) {H' : List Blk} {cnt' : Nat} (h : WkH hc.H hc.H H') (hcnt : hc.cnt ≤ cnt') :
    HR w X ⟨hc.loc, H', cnt'⟩ ∧ Evo w X hc w X ⟨hc.loc, H', cnt'⟩ := by
  have key : ∀ (i : Nat) (b : Blk), H'[i]? = some b → b.live = true → ∃ a, hc.H[i]? = some a ∧ a.live = true ∧ a.ver = b.ver ∧ a.ty = b.ty ∧ a.esz = b.esz ∧ a.els.length = b.els.length ∧
      ∀ (j : Nat) (e e' : AV), a.els[j]? = some e → b.els[j]? = some e' → e.cells.length = e'.cells.length ∧ ∀ (m : Nat) (x x' : AV), e.cells[m]? = some x → e'.cells[m]? = some x' → WkV hc.H x x' := by
    intro i b hb hl
    obtain ⟨a, h1, h2⟩ := wkH_spec h i b hb hl
    rcases h2 with rfl | ⟨g1, g2, g3, g4, g5, g6⟩
    · exact ⟨a, h1, hl, rfl, rfl, rfl, rfl, fun j e e' he he' => by
        rw [he] at he'; cases he'
        exact ⟨rfl, fun m x x' h3 h4 => by rw [h3] at h4; cases h4; exact .refl _⟩⟩
    · obtain ⟨k1, k2⟩ := wkL_get g5
      exact ⟨a, h1, g1, g2, g3, g4, k1, fun j e e' he he' => wk_cells (k2 j e e' he he') (noJk_mem g6 e' (List.mem_of_getElem? he'))⟩
  have ev : Evo w X hc w X ⟨hc.loc, H', cnt'⟩ := by
    refine ⟨rfl, rfl, rfl, Nat.le_refl _, fun _ _ _ => rfl, fun _ _ h => h, fun _ _ => Iff.rfl, hcnt, ?_, ?_⟩
    · intro k B e1 e2 e3
      obtain ⟨a, k1, k2, k3, k4, k5, k6, _⟩ := key k B e1 e2
      exact ⟨a, k1, k2, k3, rfl, k5, k4, k6⟩
    · intro k B b o e1 e2 e3 e4
      obtain ⟨a, k1, k2, _⟩ := key k B e1 e2
      exact ⟨a, o, k1, k2, e3⟩
  refine ⟨⟨?_, ?_, hr.lt⟩, ev⟩
  · intro k B e1 e2
    obtain ⟨a, k1, k2, k3, k4, k5, k6, k7⟩ := key k B e1 e2
    obtain ⟨q1, q2, q3⟩ := hr.blk k a k1 k2
    have q1' : a.ver < hc.cnt := q1
    refine ⟨by rw [← k3]; exact Nat.lt_of_lt_of_le q1' hcnt, by rw [← k6]; exact q2, ?_⟩
    show match hc.loc k with
      | none => B.els = []
      | some (b, base) => X b ∧ (∃ cs, w.heap[b]? = some (.cells cs B.ty (0, 0))) ∧ ElsOk w X ⟨hc.loc, H', cnt'⟩ b base B
    cases hl : hc.loc k with
    | none =>
      rw [hl] at q3
      simp only at q3 ⊢
      rw [q3] at k6
      exact List.length_eq_zero_iff.1 k6.symm
    | some p =>
      obtain ⟨b, base⟩ := p
      rw [hl] at q3
      simp only at q3 ⊢
      obtain ⟨p1, ⟨cs, p2⟩, p3⟩ := q3
      refine ⟨p1, ⟨cs, by rw [← k4]; exact p2⟩, fun i e he => ?_⟩
      have hi : i < B.els.length := (List.getElem?_eq_some_iff.1 he).1
      have he0 : a.els[i]? = some (a.els[i]'(by omega)) := List.getElem?_eq_getElem (by omega)
      obtain ⟨r1, r2⟩ := p3 i _ he0
      obtain ⟨s1, s2⟩ := k7 i _ e he0 he
      refine ⟨by rw [← s1, ← k5]; exact r1, fun m d hd => ?_⟩
      have hm : m < e.cells.length := (List.getElem?_eq_some_iff.1 hd).1
      have hc0 := List.getElem?_eq_getElem (l := (a.els[i]'(by omega)).cells) (i := m) (by omega)
      obtain ⟨u, t1, t2, t3⟩ := r2 m _ hc0
      exact ⟨u, by rw [← k5]; exact t1, t2, (wkV_ok (s2 m _ d hc0 hd) t3).mono ev hr⟩
  · intro k k' B1 B2 b o o' e1 e2 e3 e4 e5 e6
    obtain ⟨a1, k1, k2, _⟩ := key k B1 e1 e3
    obtain ⟨a2, l1, l2, _⟩ := key k' B2 e2 e4
    exact hr.inj k k' a1 a2 b o o' k1 l1 k2 l2 e5 e6
section
variable {P : Program} {E : Env} {n0 : Nat} {rs : List ResultVar} {R : AV → St → Prop}
end
def HOk (P : Program) (g : Nat) (F : List AV → List Blk → Nat → Option (AV × List Blk × Nat)) : Prop := ∀ args H cnt r H' cnt', F args H cnt = some (r, H', cnt') → HSpec P g args H cnt r H' cnt'
inductive HOks (P : Program) : List (Nat × (List AV → List Blk → Nat → Option (AV × List Blk × Nat))) → Prop
  | nil : HOks P []
  | cons {g F r} (h : HOk P g F) (t : HOks P r) : HOks P ((g, F) :: r)
def hin : List (Nat × (List AV → List Blk → Nat → Option (AV × List Blk × Nat))) → Nat → Bool
  | [], _ => false
  | (g, _) :: r, f => if f = g then true else hin r f
def hl : List (Nat × (List AV → List Blk → Nat → Option (AV × List Blk × Nat))) → Nat → List AV → List Blk → Nat → Option (AV × List Blk × Nat)
  | [], _, _, _, _ => none
  | (g, F) :: r, f, a, H, c => if f = g then F a H c else hl r f a H c
def gEnv (l lv lf : List (Nat × (List AV → Option AV))) (lh : List (Nat × (List AV → List Blk → Nat → Option (AV × List Blk × Nat)))) (lit : Bool) (pm : Nat → Option (List Nat)) : Env :=
  ⟨pin l, pl l, fun g args H cnt => if hin lh g = true then hl lh g args H cnt else if pin lf g = true then hcF H cnt (pl lf g (borrows H args)) else hcV H cnt (norefs args) (pl lv g args), lit, pm, hin lh⟩
section
variable (l lv lf : List (Nat × (List AV → Option AV))) (lh : List (Nat × (List AV → List Blk → Nat → Option (AV × List Blk × Nat)))) (lit : Bool) (pm : Nat → Option (List Nat))
theorem lit_gEnv : (gEnv l lv lf lh lit pm).lit = lit := rfl
theorem isP_gEnv (f : Nat) : (gEnv l lv lf lh lit pm).isP f = pin l f := rfl
theorem pcall_gEnv (f : Nat) (a : List AV) : (gEnv l lv lf lh lit pm).pcall f a = pl l f a := rfl
theorem hcall_gEnv (f : Nat) (a : List AV) (H : List Blk) (cnt : Nat) : (gEnv l lv lf lh lit pm).hcall f a H cnt = if hin lh f = true then hl lh f a H cnt else if pin lf f = true then hcF H cnt (pl lf f (borrows H a)) else hcV H cnt (norefs a) (pl lv f a) := rfl
end
theorem gEnv_ok {P : Program} {l lv lf : List (Nat × (List AV → Option AV))} {lh : List (Nat × (List AV → List Blk → Nat → Option (AV × List Blk × Nat)))} {lit : Bool} {pm : Nat → Option (List Nat)}
    (h : POks P l) (hv : VOks P lv) (hf : FOks P lf) (hh : HOks P lh) : EnvOk P (gEnv l lv lf lh lit pm) where
  p := (pEnv_ok h).p
  h f args H cnt r H' cnt' he := by
    simp only [gEnv] at he
    split at he
    · induction hh with
      | nil => simp [hl] at he
      | @cons g F r' h t ih =>
        simp only [hl] at he
        split at he
        · rename_i hh; subst hh; exact h _ _ _ _ _ _ he
        · rename_i h1 h2
          refine ih ?_ he
          simp only [hin] at h1
          rw [if_neg h2] at h1
          exact h1
    · split at he
      · exact (fEnv_ok h hf).h f args H cnt r H' cnt' he
      · exact (vEnv_ok h hv).h f args H cnt r H' cnt' he
theorem hspecW_of_go {P : Program} {E : Env} (hE : EnvOk P E) (hm : P.follows .mixedOrders = true) {f : FuncId} {fn : Func} {c : Code} {args : List AV} {H H' : List Blk} {cnt cnt' : Nat} {r : AV}
    (hf : P.funcs[f]? = some fn) (hb : fn.body = some c) (hn : (fn.name == "runtime.NumGoroutine") = false) (hlex : lexAll E.hb E.perm c = true)
    (h : Go P E H.length fn.results.toList (fun r' s' => WkV s'.H r' r ∧ WkH s'.H s'.H H' ∧ s'.cnt ≤ cnt') [.code c] (initSt fn args H cnt)) : HSpec P f args H cnt r H' cnt' := by
  refine ⟨⟨fn, hf, hn, by rw [hb]; rfl⟩, fun w X loc cargs hr hv => ?_⟩
  refine (calls_of_go hE hm hf hb hlex h w X loc cargs hr hv).mono ?_
  rintro e w' ⟨r', s', X', loc', c', rfl, ⟨h0, h1, h2⟩, g1, g2, g3⟩
  obtain ⟨q1, q2⟩ := wkH_ok (hc := s'.hc loc') (H' := H') (cnt' := cnt') g1 h1 h2
  exact ⟨X', loc', c', rfl, q1, (wkV_ok (hc := s'.hc loc') h0 g2).mono q2 g1, g3.trans q2⟩
end Go.SX

namespace Go.SX
set_option linter.unusedSimpArgs false
set_option linter.unusedVariables false
open Go.RowKit (Below)
section
variable {P : Program} {E : Env} {n0 : Nat} {rs : List ResultVar} {R : AV → St → Prop}
end
section
variable (id ver : Nat) (els : List AV)
end
section
variable {P : Program} {E : Env} {n0 : Nat} {rs : List ResultVar} {R : AV → St → Prop}
end
section
variable (a b : Nat)
end
end Go.SX

namespace Go.SX
section
variable {P : Program} {E : Env} {n0 : Nat} {rs : List ResultVar} {R : AV → St → Prop} {k : List Item}
end
section
variable {α : Type}
theorem st0 (a0 v : α) (l : List α) : (a0 :: l).set 0 v = v :: l := rfl
theorem gd0 (a0 v : α) (l : List α) : (a0 :: l).getD 0 v = a0 := rfl
theorem st1 (a0 a1 v : α) (l : List α) : (a0 :: a1 :: l).set 1 v = a0 :: v :: l := rfl
theorem gd1 (a0 a1 v : α) (l : List α) : (a0 :: a1 :: l).getD 1 v = a1 := rfl
theorem st2 (a0 a1 a2 v : α) (l : List α) : (a0 :: a1 :: a2 :: l).set 2 v = a0 :: a1 :: v :: l := rfl
theorem gd2 (a0 a1 a2 v : α) (l : List α) : (a0 :: a1 :: a2 :: l).getD 2 v = a2 := rfl
theorem st3 (a0 a1 a2 a3 v : α) (l : List α) : (a0 :: a1 :: a2 :: a3 :: l).set 3 v = a0 :: a1 :: a2 :: v :: l := rfl
theorem gd3 (a0 a1 a2 a3 v : α) (l : List α) : (a0 :: a1 :: a2 :: a3 :: l).getD 3 v = a3 := rfl
theorem st4 (a0 a1 a2 a3 a4 v : α) (l : List α) : (a0 :: a1 :: a2 :: a3 :: a4 :: l).set 4 v = a0 :: a1 :: a2 :: a3 :: v :: l := rfl
theorem gd4 (a0 a1 a2 a3 a4 v : α) (l : List α) : (a0 :: a1 :: a2 :: a3 :: a4 :: l).getD 4 v = a4 := rfl
theorem st5 (a0 a1 a2 a3 a4 a5 v : α) (l : List α) : (a0 :: a1 :: a2 :: a3 :: a4 :: a5 :: l).set 5 v = a0 :: a1 :: a2 :: a3 :: a4 :: v :: l := rfl
theorem gd5 (a0 a1 a2 a3 a4 a5 v : α) (l : List α) : (a0 :: a1 :: a2 :: a3 :: a4 :: a5 :: l).getD 5 v = a5 := rfl
theorem st6 (a0 a1 a2 a3 a4 a5 a6 v : α) (l : List α) : (a0 :: a1 :: a2 :: a3 :: a4 :: a5 :: a6 :: l).set 6 v = a0 :: a1 :: a2 :: a3 :: a4 :: a5 :: v :: l := rfl
theorem gd6 (a0 a1 a2 a3 a4 a5 a6 v : α) (l : List α) : (a0 :: a1 :: a2 :: a3 :: a4 :: a5 :: a6 :: l).getD 6 v = a6 := rfl
theorem st7 (a0 a1 a2 a3 a4 a5 a6 a7 v : α) (l : List α) : (a0 :: a1 :: a2 :: a3 :: a4 :: a5 :: a6 :: a7 :: l).set 7 v = a0 :: a1 :: a2 :: a3 :: a4 :: a5 :: a6 :: v :: l := rfl
theorem gd7 (a0 a1 a2 a3 a4 a5 a6 a7 v : α) (l : List α) : (a0 :: a1 :: a2 :: a3 :: a4 :: a5 :: a6 :: a7 :: l).getD 7 v = a7 := rfl
theorem st8 (a0 a1 a2 a3 a4 a5 a6 a7 a8 v : α) (l : List α) : (a0 :: a1 :: a2 :: a3 :: a4 :: a5 :: a6 :: a7 :: a8 :: l).set 8 v = a0 :: a1 :: a2 :: a3 :: a4 :: a5 :: a6 :: a7 :: v :: l := rfl
theorem gd8 (a0 a1 a2 a3 a4 a5 a6 a7 a8 v : α) (l : List α) : (a0 :: a1 :: a2 :: a3 :: a4 :: a5 :: a6 :: a7 :: a8 :: l).getD 8 v = a8 := rfl
theorem st9 (a0 a1 a2 a3 a4 a5 a6 a7 a8 a9 v : α) (l : List α) : (a0 :: a1 :: a2 :: a3 :: a4 :: a5 :: a6 :: a7 :: a8 :: a9 :: l).set 9 v = a0 :: a1 :: a2 :: a3 :: a4 :: a5 :: a6 :: a7 :: a8 :: v :: l := rfl
theorem gd9 (a0 a1 a2 a3 a4 a5 a6 a7 a8 a9 v : α) (l : List α) : (a0 :: a1 :: a2 :: a3 :: a4 :: a5 :: a6 :: a7 :: a8 :: a9 :: l).getD 9 v = a9 := rfl
theorem st10 (a0 a1 a2 a3 a4 a5 a6 a7 a8 a9 a10 v : α) (l : List α) : (a0 :: a1 :: a2 :: a3 :: a4 :: a5 :: a6 :: a7 :: a8 :: a9 :: a10 :: l).set 10 v = a0 :: a1 :: a2 :: a3 :: a4 :: a5 :: a6 :: a7 :: a8 :: a9 :: v :: l := rfl
theorem gd10 (a0 a1 a2 a3 a4 a5 a6 a7 a8 a9 a10 v : α) (l : List α) : (a0 :: a1 :: a2 :: a3 :: a4 :: a5 :: a6 :: a7 :: a8 :: a9 :: a10 :: l).getD 10 v = a10 := rfl
theorem st11 (a0 a1 a2 a3 a4 a5 a6 a7 a8 a9 a10 a11 v : α) (l : List α) : (a0 :: a1 :: a2 :: a3 :: a4 :: a5 :: a6 :: a7 :: a8 :: a9 :: a10 :: a11 :: l).set 11 v = a0 :: a1 :: a2 :: a3 :: a4 :: a5 :: a6 :: a7 :: a8 :: a9 :: a10 :: v :: l := rfl
theorem gd11 (a0 a1 a2 a3 a4 a5 a6 a7 a8 a9 a10 a11 v : α) (l : List α) : (a0 :: a1 :: a2 :: a3 :: a4 :: a5 :: a6 :: a7 :: a8 :: a9 :: a10 :: a11 :: l).getD 11 v = a11 := rfl
theorem st12 (a0 a1 a2 a3 a4 a5 a6 a7 a8 a9 a10 a11 a12 v : α) (l : List α) : (a0 :: a1 :: a2 :: a3 :: a4 :: a5 :: a6 :: a7 :: a8 :: a9 :: a10 :: a11 :: a12 :: l).set 12 v = a0 :: a1 :: a2 :: a3 :: a4 :: a5 :: a6 :: a7 :: a8 :: a9 :: a10 :: a11 :: v :: l := rfl
theorem gd12 (a0 a1 a2 a3 a4 a5 a6 a7 a8 a9 a10 a11 a12 v : α) (l : List α) : (a0 :: a1 :: a2 :: a3 :: a4 :: a5 :: a6 :: a7 :: a8 :: a9 :: a10 :: a11 :: a12 :: l).getD 12 v = a12 := rfl
theorem st13 (a0 a1 a2 a3 a4 a5 a6 a7 a8 a9 a10 a11 a12 a13 v : α) (l : List α) : (a0 :: a1 :: a2 :: a3 :: a4 :: a5 :: a6 :: a7 :: a8 :: a9 :: a10 :: a11 :: a12 :: a13 :: l).set 13 v = a0 :: a1 :: a2 :: a3 :: a4 :: a5 :: a6 :: a7 :: a8 :: a9 :: a10 :: a11 :: a12 :: v :: l := rfl
theorem gd13 (a0 a1 a2 a3 a4 a5 a6 a7 a8 a9 a10 a11 a12 a13 v : α) (l : List α) : (a0 :: a1 :: a2 :: a3 :: a4 :: a5 :: a6 :: a7 :: a8 :: a9 :: a10 :: a11 :: a12 :: a13 :: l).getD 13 v = a13 := rfl
theorem st14 (a0 a1 a2 a3 a4 a5 a6 a7 a8 a9 a10 a11 a12 a13 a14 v : α) (l : List α) : (a0 :: a1 :: a2 :: a3 :: a4 :: a5 :: a6 :: a7 :: a8 :: a9 :: a10 :: a11 :: a12 :: a13 :: a14 :: l).set 14 v = a0 :: a1 :: a2 :: a3 :: a4 :: a5 :: a6 :: a7 :: a8 :: a9 :: a10 :: a11 :: a12 :: a13 :: v :: l := rfl
theorem gd14 (a0 a1 a2 a3 a4 a5 a6 a7 a8 a9 a10 a11 a12 a13 a14 v : α) (l : List α) : (a0 :: a1 :: a2 :: a3 :: a4 :: a5 :: a6 :: a7 :: a8 :: a9 :: a10 :: a11 :: a12 :: a13 :: a14 :: l).getD 14 v = a14 := rfl
theorem st15 (a0 a1 a2 a3 a4 a5 a6 a7 a8 a9 a10 a11 a12 a13 a14 a15 v : α) (l : List α) : (a0 :: a1 :: a2 :: a3 :: a4 :: a5 :: a6 :: a7 :: a8 :: a9 :: a10 :: a11 :: a12 :: a13 :: a14 :: a15 :: l).set 15 v = a0 :: a1 :: a2 :: a3 :: a4 :: a5 :: a6 :: a7 :: a8 :: a9 :: a10 :: a11 :: a12 :: a13 :: a14 :: v :: l := rfl
theorem gd15 (a0 a1 a2 a3 a4 a5 a6 a7 a8 a9 a10 a11 a12 a13 a14 a15 v : α) (l : List α) : (a0 :: a1 :: a2 :: a3 :: a4 :: a5 :: a6 :: a7 :: a8 :: a9 :: a10 :: a11 :: a12 :: a13 :: a14 :: a15 :: l).getD 15 v = a15 := rfl
theorem st16 (a0 a1 a2 a3 a4 a5 a6 a7 a8 a9 a10 a11 a12 a13 a14 a15 v : α) (l : List α) (n : Nat) : (a0 :: a1 :: a2 :: a3 :: a4 :: a5 :: a6 :: a7 :: a8 :: a9 :: a10 :: a11 :: a12 :: a13 :: a14 :: a15 :: l).set (n + 16) v = a0 :: a1 :: a2 :: a3 :: a4 :: a5 :: a6 :: a7 :: a8 :: a9 :: a10 :: a11 :: a12 :: a13 :: a14 :: a15 :: l.set n v := rfl
theorem gd16 (a0 a1 a2 a3 a4 a5 a6 a7 a8 a9 a10 a11 a12 a13 a14 a15 v : α) (l : List α) (n : Nat) : (a0 :: a1 :: a2 :: a3 :: a4 :: a5 :: a6 :: a7 :: a8 :: a9 :: a10 :: a11 :: a12 :: a13 :: a14 :: a15 :: l).getD (n + 16) v = l.getD n v := rfl
end
end Go.SX

namespace Go.SX
set_option maxRecDepth 100000
theorem bnS : type_of% (And.intro (And.intro (And.intro (And.intro (And.intro (And.intro (And.intro (@vc_ret) (@vc_nil)) (And.intro (@vcR_some) (And.intro (@vc_skip) (@vc_seq)))) (And.intro (And.intro (@vc_block) (And.intro (@vc_inBlock) (@vc_loop))) (And.intro (@vc_inLoop) (And.intro (@vc_exit) (@vcE_some))))) (And.intro (And.intro (And.intro (@exitTo_hit) (@exitTo_code)) (And.intro (@exitTo_inLoop) (And.intro (@vc_cond) (@vcC_bool)))) (And.intro (And.intro (@vc_region) (And.intro (@vcO_nil) (@vcO_cons))) (And.intro (@vcO_consL) (And.intro (@opM_g) (@opM_b)))))) (And.intro (And.intro (And.intro (And.intro (@litR_some) (@vcS_some)) (And.intro (@retVal_nil) (And.intro (@retVal_tmp) (@retOne_one)))) (And.intro (And.intro (@oV_some) (And.intro (@gP_bool) (@gH_bool))) (And.intro (@callA_fn) (And.intro (@callP_t) (@callP_f))))) (And.intro (And.intro (And.intro (@hres_some) (@os_call)) (And.intro (@callGA_fn) (And.intro (@os_callG) (@os_move)))) (And.intro (And.intro (@os_move_g) (And.intro (@os_assign) (@os_pick))) (And.intro (@os_pick_g) (And.intro (@os_load) (@os_load_g))))))) (And.intro (And.intro (And.intro (And.intro (And.intro (@os_binOp) (@os_binOp_g)) (And.intro (@os_unOp_g) (And.intro (@os_convert) (@os_convert_g)))) (And.intro (And.intro (@os_fieldAddr) (And.intro (@os_fieldAddr_g) (@os_indexAddr_g))) (And.intro (@os_extract) (And.intro (@os_build) (@os_build_g))))) (And.intro (And.intro (And.intro (@os_len) (@os_len_g)) (And.intro (@os_min) (And.intro (@os_min_g) (@os_max)))) (And.intro (And.intro (@os_alloc) (And.intro (@os_box) (@os_buildSlice))) (And.intro (@os_store) (And.intro (@os_append) (@ev_tmp)))))) (And.intro (And.intro (And.intro (And.intro (@ev_func) (@ev_int)) (And.intro (@ev_bool) (And.intro (@ev_str) (@ev_nil)))) (And.intro (And.intro (@rval_move) (And.intro (@rval_assign) (@rval_pick))) (And.intro (@pickA_bool) (And.intro (@rval_load) (@loadA_pt))))) (And.intro (And.intro (And.intro (@loadA_vp) (And.intro (@ldB_some) (@ldE_some))) (And.intro (@ldV_some) (And.intro (@ldW_some) (@takeT_agg)))) (And.intro (And.intro (@takeT_one) (And.intro (@cells_ag) (@cells_sc))) (And.intro (@norefs_cons) (And.intro (@rval_binOp) (@nilV_sc)))))))) (And.intro (And.intro (And.intro (And.intro (And.intro (And.intro (@nilV_ag) (@bin_nil_eql)) (And.intro (@nilR_eql) (And.intro (@isNil_no) (@isNil_so)))) (And.intro (And.intro (@bin_add) (And.intro (@bin_eql) (@bin_neq))) (And.intro (@bin_lss) (And.intro (@bin_leq) (@bin_gtr))))) (And.intro (And.intro (And.intro (@bin_geq) (@rval_unOp)) (And.intro (@un_not) (And.intro (@rval_convert) (@cvX_int)))) (And.intro (And.intro (@rval_fieldAddr) (And.intro (@faT_some) (@faD_some))) (And.intro (@faS_some) (And.intro (@faA_pt) (@faA_vp)))))) (And.intro (And.intro (And.intro (And.intro (@faL_some) (@rval_extract)) (And.intro (@lit_pEnv) (And.intro (@isP_pEnv) (@pcall_pEnv)))) (And.intro (And.intro (@bin_quo) (And.intro (@bin_rem) (@litStep_eq))) (And.intro (@lit_fEnv) (And.intro (@rval_indexAddr) (@ixD_some))))) (And.intro (And.intro (And.intro (@ixE_vw) (@rval_len)) (And.intro (@lenD_sl) (And.intro (@lenA_vw) (@lenN_some)))) (And.intro (And.intro (@lastEls_one) (And.intro (@lastEls_cons) (@plc_nil))) (And.intro (@plc_cons) (And.intro (@plcC_some) (@rval_build))))))) (And.intro (And.intro (And.intro (And.intro (And.intro (@bdA_some) (@bdZ_st)) (And.intro (@bdS_some) (And.intro (@fillA_nil) (@fillA_cons)))) (And.intro (And.intro (@fillB_some) (And.intro (@setAll_nil) (@setAll_cons))) (And.intro (@setC_ag) (And.intro (@fillE_nil) (@fillE_cons))))) (And.intro (And.intro (And.intro (@st0) (@st1)) (And.intro (@st2) (And.intro (@st3) (@st4)))) (And.intro (And.intro (@st5) (And.intro (@st6) (@st7))) (And.intro (@st8) (And.intro (@st9) (@st10)))))) (And.intro (And.intro (And.intro (And.intro (@st11) (@st12)) (And.intro (@st13) (And.intro (@st14) (@st15)))) (And.intro (And.intro (@st16) (And.intro (@gd0) (@gd1))) (And.intro (@gd2) (And.intro (@gd3) (@gd4))))) (And.intro (And.intro (And.intro (@gd5) (And.intro (@gd6) (@gd7))) (And.intro (@gd8) (And.intro (@gd9) (@gd10)))) (And.intro (And.intro (@gd11) (And.intro (@gd12) (@gd13))) (And.intro (@gd14) (And.intro (@gd15) (@gd16))))))))) := And.intro (And.intro (And.intro (And.intro (And.intro (And.intro (And.intro (@vc_ret) (@vc_nil)) (And.intro (@vcR_some) (And.intro (@vc_skip) (@vc_seq)))) (And.intro (And.intro (@vc_block) (And.intro (@vc_inBlock) (@vc_loop))) (And.intro (@vc_inLoop) (And.intro (@vc_exit) (@vcE_some))))) (And.intro (And.intro (And.intro (@exitTo_hit) (@exitTo_code)) (And.intro (@exitTo_inLoop) (And.intro (@vc_cond) (@vcC_bool)))) (And.intro (And.intro (@vc_region) (And.intro (@vcO_nil) (@vcO_cons))) (And.intro (@vcO_consL) (And.intro (@opM_g) (@opM_b)))))) (And.intro (And.intro (And.intro (And.intro (@litR_some) (@vcS_some)) (And.intro (@retVal_nil) (And.intro (@retVal_tmp) (@retOne_one)))) (And.intro (And.intro (@oV_some) (And.intro (@gP_bool) (@gH_bool))) (And.intro (@callA_fn) (And.intro (@callP_t) (@callP_f))))) (And.intro (And.intro (And.intro (@hres_some) (@os_call)) (And.intro (@callGA_fn) (And.intro (@os_callG) (@os_move)))) (And.intro (And.intro (@os_move_g) (And.intro (@os_assign) (@os_pick))) (And.intro (@os_pick_g) (And.intro (@os_load) (@os_load_g))))))) (And.intro (And.intro (And.intro (And.intro (And.intro (@os_binOp) (@os_binOp_g)) (And.intro (@os_unOp_g) (And.intro (@os_convert) (@os_convert_g)))) (And.intro (And.intro (@os_fieldAddr) (And.intro (@os_fieldAddr_g) (@os_indexAddr_g))) (And.intro (@os_extract) (And.intro (@os_build) (@os_build_g))))) (And.intro (And.intro (And.intro (@os_len) (@os_len_g)) (And.intro (@os_min) (And.intro (@os_min_g) (@os_max)))) (And.intro (And.intro (@os_alloc) (And.intro (@os_box) (@os_buildSlice))) (And.intro (@os_store) (And.intro (@os_append) (@ev_tmp)))))) (And.intro (And.intro (And.intro (And.intro (@ev_func) (@ev_int)) (And.intro (@ev_bool) (And.intro (@ev_str) (@ev_nil)))) (And.intro (And.intro (@rval_move) (And.intro (@rval_assign) (@rval_pick))) (And.intro (@pickA_bool) (And.intro (@rval_load) (@loadA_pt))))) (And.intro (And.intro (And.intro (@loadA_vp) (And.intro (@ldB_some) (@ldE_some))) (And.intro (@ldV_some) (And.intro (@ldW_some) (@takeT_agg)))) (And.intro (And.intro (@takeT_one) (And.intro (@cells_ag) (@cells_sc))) (And.intro (@norefs_cons) (And.intro (@rval_binOp) (@nilV_sc)))))))) (And.intro (And.intro (And.intro (And.intro (And.intro (And.intro (@nilV_ag) (@bin_nil_eql)) (And.intro (@nilR_eql) (And.intro (@isNil_no) (@isNil_so)))) (And.intro (And.intro (@bin_add) (And.intro (@bin_eql) (@bin_neq))) (And.intro (@bin_lss) (And.intro (@bin_leq) (@bin_gtr))))) (And.intro (And.intro (And.intro (@bin_geq) (@rval_unOp)) (And.intro (@un_not) (And.intro (@rval_convert) (@cvX_int)))) (And.intro (And.intro (@rval_fieldAddr) (And.intro (@faT_some) (@faD_some))) (And.intro (@faS_some) (And.intro (@faA_pt) (@faA_vp)))))) (And.intro (And.intro (And.intro (And.intro (@faL_some) (@rval_extract)) (And.intro (@lit_pEnv) (And.intro (@isP_pEnv) (@pcall_pEnv)))) (And.intro (And.intro (@bin_quo) (And.intro (@bin_rem) (@litStep_eq))) (And.intro (@lit_fEnv) (And.intro (@rval_indexAddr) (@ixD_some))))) (And.intro (And.intro (And.intro (@ixE_vw) (@rval_len)) (And.intro (@lenD_sl) (And.intro (@lenA_vw) (@lenN_some)))) (And.intro (And.intro (@lastEls_one) (And.intro (@lastEls_cons) (@plc_nil))) (And.intro (@plc_cons) (And.intro (@plcC_some) (@rval_build))))))) (And.intro (And.intro (And.intro (And.intro (And.intro (@bdA_some) (@bdZ_st)) (And.intro (@bdS_some) (And.intro (@fillA_nil) (@fillA_cons)))) (And.intro (And.intro (@fillB_some) (And.intro (@setAll_nil) (@setAll_cons))) (And.intro (@setC_ag) (And.intro (@fillE_nil) (@fillE_cons))))) (And.intro (And.intro (And.intro (@st0) (@st1)) (And.intro (@st2) (And.intro (@st3) (@st4)))) (And.intro (And.intro (@st5) (And.intro (@st6) (@st7))) (And.intro (@st8) (And.intro (@st9) (@st10)))))) (And.intro (And.intro (And.intro (And.intro (@st11) (@st12)) (And.intro (@st13) (And.intro (@st14) (@st15)))) (And.intro (And.intro (@st16) (And.intro (@gd0) (@gd1))) (And.intro (@gd2) (And.intro (@gd3) (@gd4))))) (And.intro (And.intro (And.intro (@gd5) (And.intro (@gd6) (@gd7))) (And.intro (@gd8) (And.intro (@gd9) (@gd10)))) (And.intro (And.intro (@gd11) (And.intro (@gd12) (@gd13))) (And.intro (@gd14) (And.intro (@gd15) (@gd16))))))))
theorem bnH : type_of% (And.intro (And.intro (And.intro (And.intro (And.intro (@hstep_store) (And.intro (@stD_some) (@stA_pt))) (And.intro (@stB_some) (And.intro (@stE_some) (@stS_some)))) (And.intro (And.intro (@hstep_buildSlice) (And.intro (@blD_sl) (@blE_some))) (And.intro (And.intro (@blZ_some) (@blF_some)) (And.intro (@hstep_append) (@apD_sl))))) (And.intro (And.intro (And.intro (@apE_some) (And.intro (@apY_some) (@apX_sl))) (And.intro (@apB_some) (And.intro (@hstep_alloc) (@alD_some)))) (And.intro (And.intro (@alO_some) (And.intro (@alZ_ok) (@hstep_box))) (And.intro (And.intro (@liveB_eq) (@lvB_mk)) (And.intro (@stor_sc) (@stor_ag)))))) (And.intro (And.intro (And.intro (And.intro (@ofAgg_int) (And.intro (@vcells_int) (@vcells_agg))) (And.intro (@rep1) (And.intro (@rep2) (@allSz_nil)))) (And.intro (And.intro (@allSz_cons) (And.intro (@rval_min) (@rval_max))) (And.intro (And.intro (@mm_min) (@mm_max)) (And.intro (@bin_eqlA) (@eqR_some))))) (And.intro (And.intro (And.intro (@eqA_some) (And.intro (@eqC_nil) (@eqC_i))) (And.intro (@eqM_some) (And.intro (@hcV_some) (@wkH_selfT)))) (And.intro (And.intro (@popTmp_sc) (And.intro (@elsA_sc) (@wkV_self))) (And.intro (And.intro (@isP_gEnv) (@pcall_gEnv)) (And.intro (@hcall_gEnv) (@lit_gEnv))))))) := And.intro (And.intro (And.intro (And.intro (And.intro (@hstep_store) (And.intro (@stD_some) (@stA_pt))) (And.intro (@stB_some) (And.intro (@stE_some) (@stS_some)))) (And.intro (And.intro (@hstep_buildSlice) (And.intro (@blD_sl) (@blE_some))) (And.intro (And.intro (@blZ_some) (@blF_some)) (And.intro (@hstep_append) (@apD_sl))))) (And.intro (And.intro (And.intro (@apE_some) (And.intro (@apY_some) (@apX_sl))) (And.intro (@apB_some) (And.intro (@hstep_alloc) (@alD_some)))) (And.intro (And.intro (@alO_some) (And.intro (@alZ_ok) (@hstep_box))) (And.intro (And.intro (@liveB_eq) (@lvB_mk)) (And.intro (@stor_sc) (@stor_ag)))))) (And.intro (And.intro (And.intro (And.intro (@ofAgg_int) (And.intro (@vcells_int) (@vcells_agg))) (And.intro (@rep1) (And.intro (@rep2) (@allSz_nil)))) (And.intro (And.intro (@allSz_cons) (And.intro (@rval_min) (@rval_max))) (And.intro (And.intro (@mm_min) (@mm_max)) (And.intro (@bin_eqlA) (@eqR_some))))) (And.intro (And.intro (And.intro (@eqA_some) (And.intro (@eqC_nil) (@eqC_i))) (And.intro (@eqM_some) (And.intro (@hcV_some) (@wkH_selfT)))) (And.intro (And.intro (@popTmp_sc) (And.intro (@elsA_sc) (@wkV_self))) (And.intro (And.intro (@isP_gEnv) (@pcall_gEnv)) (And.intro (@hcall_gEnv) (@lit_gEnv))))))
theorem bnC : type_of% (And.intro (And.intro (And.intro (And.intro (And.intro (@List.getElem?_cons_zero.{0}) (@List.getElem?_cons_succ.{0})) (And.intro (@List.getElem?_toArray.{0}) (@List.length_cons.{0}))) (And.intro (And.intro (@List.length_nil.{0}) (@List.map_cons.{0, 0})) (And.intro (@List.map_nil.{0, 0}) (@List.nil_append.{0})))) (And.intro (And.intro (And.intro (@List.cons_append.{0}) (@List.append_nil.{0})) (And.intro (@List.drop_zero.{0}) (@List.take_succ_cons.{0}))) (And.intro (And.intro (@List.take_nil.{0}) (@List.drop_nil.{0})) (And.intro (@Option.bind_some.{0, 0}) (And.intro (@Option.map_some.{0, 0}) (@Bool.false_eq_true)))))) (And.intro (And.intro (And.intro (And.intro (@not_false_eq_true) (@and_self)) (And.intro (@beq_self_eq_true.{0}) (@Bool.and_self))) (And.intro (And.intro (@Bool.not_true) (@decide_true)) (And.intro (@decide_false) (@Nat.zero_add)))) (And.intro (And.intro (And.intro (@Nat.le_refl) (@Nat.zero_le)) (And.intro (@List.replicate_zero.{0}) (@List.append_eq.{0}))) (And.intro (And.intro (@Int.cast_ofNat_Int) (@Int.toNat_zero)) (And.intro (@Int.toNat_one) (And.intro (@Int.zero_le_ofNat) (@bne_self_eq_false.{0}))))))) := And.intro (And.intro (And.intro (And.intro (And.intro (@List.getElem?_cons_zero.{0}) (@List.getElem?_cons_succ.{0})) (And.intro (@List.getElem?_toArray.{0}) (@List.length_cons.{0}))) (And.intro (And.intro (@List.length_nil.{0}) (@List.map_cons.{0, 0})) (And.intro (@List.map_nil.{0, 0}) (@List.nil_append.{0})))) (And.intro (And.intro (And.intro (@List.cons_append.{0}) (@List.append_nil.{0})) (And.intro (@List.drop_zero.{0}) (@List.take_succ_cons.{0}))) (And.intro (And.intro (@List.take_nil.{0}) (@List.drop_nil.{0})) (And.intro (@Option.bind_some.{0, 0}) (And.intro (@Option.map_some.{0, 0}) (@Bool.false_eq_true)))))) (And.intro (And.intro (And.intro (And.intro (@not_false_eq_true) (@and_self)) (And.intro (@beq_self_eq_true.{0}) (@Bool.and_self))) (And.intro (And.intro (@Bool.not_true) (@decide_true)) (And.intro (@decide_false) (@Nat.zero_add)))) (And.intro (And.intro (And.intro (@Nat.le_refl) (@Nat.zero_le)) (And.intro (@List.replicate_zero.{0}) (@List.append_eq.{0}))) (And.intro (And.intro (@Int.cast_ofNat_Int) (@Int.toNat_zero)) (And.intro (@Int.toNat_one) (And.intro (@Int.zero_le_ofNat) (@bne_self_eq_false.{0}))))))
end Go.SX

namespace Go.SX
set_option linter.unusedSimpArgs false
set_option linter.unusedVariables false
theorem set_last' (H : List Blk) (a b : Blk) : (H ++ [a]).set H.length b = H ++ [b] := by
  rw [List.set_append_right _ _ (Nat.le_refl _), Nat.sub_self]; rfl
theorem own0 {P : Program} {f : FuncId} {args : List AV} {H H' : List Blk} {cnt cnt1 : Nat} (h : HSpec P f args H cnt (.vw true []) H' cnt1) (ver ty esz cnt' : Nat) (hv : cnt1 ≤ ver) (hv' : ver < cnt') :
    HSpec P f args H cnt (.sl H'.length ver 0 0) (H' ++ [⟨true, ver, ty, esz, [], false⟩]) cnt' := by
  obtain ⟨hc, h⟩ := h
  refine ⟨hc, fun w X loc cargs hr hvl => (h w X loc cargs hr hvl).mono ?_⟩
  rintro e w' ⟨X', loc', c, he, hr', hvr, hev⟩
  have hlt : ∀ k (B : Blk), H'[k]? = some B → k < H'.length := fun k B hk => (List.getElem?_eq_some_iff.1 hk).1
  have hnew : ∀ k (B : Blk), (H' ++ [(⟨true, ver, ty, esz, [], false⟩ : Blk)])[k]? = some B → (k < H'.length ∧ H'[k]? = some B) ∨ (k = H'.length ∧ B = ⟨true, ver, ty, esz, [], false⟩) := by
    intro k B hk
    rw [List.getElem?_append] at hk
    split at hk
    · rename_i hl; exact .inl ⟨hl, hk⟩
    · rename_i hl
      have hk0 : k - H'.length = 0 := by
        have := (List.getElem?_eq_some_iff.1 hk).1
        simp at this; omega
      rw [hk0] at hk
      simp at hk
      exact .inr ⟨by omega, hk.symm⟩
  have hevo : Evo w' X' ⟨loc', H', cnt1⟩ w' X' ⟨fun k => if k = H'.length then none else loc' k, H' ++ [⟨true, ver, ty, esz, [], false⟩], cnt'⟩ := by
    refine ⟨rfl, rfl, rfl, Nat.le_refl _, fun _ _ _ => rfl, fun _ _ hs => hs, fun _ _ => Iff.rfl, by simp only; omega, ?_, ?_⟩
    · intro id B' h1 h2 h3
      simp only at h1 h3 ⊢
      rcases hnew id B' h1 with ⟨hl, h1⟩ | ⟨rfl, rfl⟩
      · exact ⟨B', h1, h2, rfl, by rw [if_neg (by omega)], rfl, rfl, rfl⟩
      · simp only at h3; omega
    · intro id B' b o h1 h2 h3 h4
      simp only at h1 h3 ⊢
      rcases hnew id B' h1 with ⟨hl, h1⟩ | ⟨rfl, rfl⟩
      · rw [if_neg (by omega)] at h3
        exact ⟨B', o, h1, h2, h3⟩
      · rw [if_pos rfl] at h3; cases h3
  refine ⟨X', _, c, he, ?_, ?_, hev.trans hevo⟩
  · refine ⟨?_, ?_, hr'.lt⟩
    · intro id B h1 h2
      rcases hnew id B h1 with ⟨hl, h1⟩ | ⟨rfl, rfl⟩
      · obtain ⟨g1, g2, g3⟩ := hr'.blk id B h1 h2
        simp only at g1 g3 ⊢
        refine ⟨by omega, g2, ?_⟩
        rw [if_neg (by omega)]
        split at g3
        · exact g3
        · rename_i b base hn
          obtain ⟨k1, k2, k3⟩ := g3
          refine ⟨k1, k2, fun i e he => ?_⟩
          obtain ⟨q1, q2⟩ := k3 i e he
          refine ⟨q1, fun j a ha => ?_⟩
          obtain ⟨c, e1, e2, e3⟩ := q2 j a ha
          exact ⟨c, e1, e2, e3.mono hevo hr'⟩
      · refine ⟨hv', by simp [lenMax], ?_⟩
        simp only [if_true]
    · intro id id' B B' b o o' h1 h2 h3 h4 h5 h6
      simp only at h1 h2 h5 h6
      rcases hnew id B h1 with ⟨hl, h1⟩ | ⟨rfl, rfl⟩
      · rcases hnew id' B' h2 with ⟨hl', h2⟩ | ⟨rfl, rfl⟩
        · rw [if_neg (by omega)] at h5 h6
          exact hr'.inj id id' B B' b o o' h1 h2 h3 h4 h5 h6
        · rw [if_pos rfl] at h6; cases h6
      · rw [if_pos rfl] at h5; cases h5
  · cases hvr with
    | vw0 hz hm =>
      rename_i a cap
      obtain rfl := hz rfl
      refine .sl ⟨_, _, rfl⟩ fun hc1 h1 => ?_
      cases h1
      refine ⟨hv', fun B h1 _ _ => ?_⟩
      simp only at h1
      rcases hnew _ B h1 with ⟨hl, _⟩ | ⟨_, rfl⟩
      · omega
      · exact ⟨by simp, .inl ⟨rfl, _, rfl⟩⟩
    | vw1 f hne => exact absurd rfl hne
theorem nilcase {P : Program} {f : FuncId} {z : Bool} {H H' : List Blk} {cnt cnt' : Nat} {r : AV} (h1 : ∀ cap, HSpec P f [.sc (.slice none 0 cap)] H cnt r H' cnt') (h2 : ∀ a cap, HSpec P f [.sc (.slice (some a) 0 cap)] H cnt r H' cnt') :
    HSpec P f [.vw z []] H cnt r H' cnt' := by
  refine ⟨(h1 0).1, fun w X loc cargs hr hvl => ?_⟩
  obtain ⟨hl, hv⟩ := hvl
  obtain ⟨v, hcv⟩ : ∃ v, cargs.toList = [v] := by
    match hm : cargs.toList, hl with
    | [v], _ => exact ⟨v, rfl⟩
  have h0 := hv 0 (.vw z []) v rfl (by rw [hcv]; rfl)
  have key : ∀ a cap, v = .slice a 0 cap → VL w X (some ⟨loc, H, cnt⟩) [.sc (.slice a 0 cap)] cargs.toList := by
    intro a cap hva
    rw [hcv, hva]
    refine ⟨rfl, fun i x y hx hy => ?_⟩
    cases i with
    | zero => cases hx; cases hy; exact .sc rfl
    | succ i => simp at hx
  cases h0 with
  | vw0 hz hm =>
    rename_i a cap
    cases a with
    | none => exact (h1 cap).2 w X loc cargs hr (key none cap rfl)
    | some a => exact (h2 a cap).2 w X loc cargs hr (key (some a) cap rfl)
  | vw1 f hne => exact absurd rfl hne
theorem nilcaseS {P : Program} {f : FuncId} {id ver lo : Nat} {H H' : List Blk} {cnt cnt' : Nat} {r : AV} (hlv : (liveB H id ver).isSome = true) (h1 : ∀ cap, HSpec P f [.sc (.slice none 0 cap)] H cnt r H' cnt') (h2 : ∀ a cap, HSpec P f [.sc (.slice (some a) 0 cap)] H cnt r H' cnt') :
    HSpec P f [.sl id ver lo 0] H cnt r H' cnt' := by
  refine ⟨(h1 0).1, fun w X loc cargs hr hvl => ?_⟩
  obtain ⟨hl, hv⟩ := hvl
  obtain ⟨v, hcv⟩ : ∃ v, cargs.toList = [v] := by
    match hm : cargs.toList, hl with
    | [v], _ => exact ⟨v, rfl⟩
  have h0 := hv 0 (.sl id ver lo 0) v rfl (by rw [hcv]; rfl)
  have key : ∀ a cap, v = .slice a 0 cap → VL w X (some ⟨loc, H, cnt⟩) [.sc (.slice a 0 cap)] cargs.toList := by
    intro a cap hva
    rw [hcv, hva]
    refine ⟨rfl, fun i x y hx hy => ?_⟩
    cases i with
    | zero => cases hx; cases hy; exact .sc rfl
    | succ i => simp at hx
  obtain ⟨B, hB⟩ := Option.isSome_iff_exists.1 hlv
  obtain ⟨g1, g2, g3⟩ := liveB_some hB
  cases h0 with
  | sl q1 q2 =>
    obtain ⟨_, r2⟩ := q2 _ rfl
    obtain ⟨_, r4⟩ := r2 B g1 g2 g3
    rcases r4 with ⟨_, a, rfl⟩ | ⟨b, base, cap, n, _, rfl, _⟩
    · cases a with
      | none => exact (h1 0).2 w X loc cargs hr (key none 0 rfl)
      | some a => exact (h2 a 0).2 w X loc cargs hr (key (some a) 0 rfl)
    · exact (h2 _ cap).2 w X loc cargs hr (key _ cap rfl)
end Go.SX
