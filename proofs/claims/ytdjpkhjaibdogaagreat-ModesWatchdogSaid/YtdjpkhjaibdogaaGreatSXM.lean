/-
  SX, part 21: a function by its arguments' form; lists of numbers.
  Conditions: none.
-/
import Derived.Test.YtdjpkhjaibdogaaGreatSXJ
import Derived.Test.YtdjpkhjaibdogaaGreatSXK
namespace Go.SX
set_option linter.unusedSimpArgs false
set_option linter.unusedVariables false

/-- A function that is known at arguments of a form: 'enc x' gives 'out x', where 'q x'. -/
noncomputable def mkF {α : Type} (q : α → Prop) (enc : α → List AV) (out : α → AV) (args : List AV) : Option AV :=
  open Classical in if h : ∃ x, q x ∧ enc x = args then some (out (Classical.choose h)) else none
theorem mkF_eq {α : Type} {q : α → Prop} {enc : α → List AV} {out : α → AV} (x : α) (hq : q x) (hi : ∀ y, enc y = enc x → y = x) : mkF q enc out (enc x) = some (out x) := by
  unfold mkF
  have h : ∃ y, q y ∧ enc y = enc x := ⟨x, hq, rfl⟩
  rw [dif_pos h, hi _ (Classical.choose_spec h).2]
theorem mkF_inv {α : Type} {q : α → Prop} {enc : α → List AV} {out : α → AV} {args : List AV} {r : AV} (h : mkF q enc out args = some r) : ∃ x, q x ∧ enc x = args ∧ out x = r := by
  unfold mkF at h
  split at h
  · rename_i hx
    injection h with h
    exact ⟨_, (Classical.choose_spec hx).1, (Classical.choose_spec hx).2, h⟩
  · cases h
theorem pok_mk {P : Program} {g : Nat} {α : Type} {q : α → Prop} {enc : α → List AV} {out : α → AV} (h : ∀ x, q x → PSpec P g (enc x) (out x)) : POk P g (mkF q enc out) := by
  intro args r hr
  obtain ⟨x, hq, rfl, rfl⟩ := mkF_inv hr
  exact h x hq
theorem vok_mk {P : Program} {g : Nat} {α : Type} {q : α → Prop} {enc : α → List AV} {out : α → AV} (h : ∀ x, q x → VSpec P g (enc x) (out x)) : VOk P g (mkF q enc out) := by
  intro args r hr
  obtain ⟨x, hq, rfl, rfl⟩ := mkF_inv hr
  exact h x hq

/-! ### Numbers and lists of numbers -/
def kA (k : IntKind) (n : Int) : AV := .sc (.int k n)
def bA (b : Bool) : AV := .sc (.bool b)
theorem kA_eq (k : IntKind) (n : Int) : kA k n = .sc (.int k n) := rfl
theorem bA_eq (b : Bool) : bA b = .sc (.bool b) := rfl
theorem kA_inj {k : IntKind} {a b : Int} (h : kA k a = kA k b) : a = b := by unfold kA at h; injection h with h; injection h with _ h
theorem bA_inj {a b : Bool} (h : bA a = bA b) : a = b := by unfold bA at h; injection h with h; injection h
theorem map_inj {α : Type} {f : α → AV} (hf : ∀ a b, f a = f b → a = b) : ∀ {l m : List α}, l.map f = m.map f → l = m
  | [], [], _ => rfl
  | a :: l, b :: m, h => by
    simp only [List.map_cons, List.cons.injEq] at h
    rw [hf a b h.1, map_inj hf h.2]
  | [], b :: m, h => by simp at h
  | a :: l, [], h => by simp at h
theorem map_kA {k : IntKind} {l m : List Int} : l.map (kA k) = m.map (kA k) ↔ l = m := ⟨map_inj (fun _ _ => kA_inj), fun h => by rw [h]⟩
theorem map_bA {l m : List Bool} : l.map bA = m.map bA ↔ l = m := ⟨map_inj (fun _ _ => bA_inj), fun h => by rw [h]⟩
theorem allSz_kA (k : IntKind) (l : List Int) : allSz 1 (l.map (kA k)) = true := allSz_map (f := kA k) (fun _ => rfl) l
theorem allSz_bA (l : List Bool) : allSz 1 (l.map bA) = true := allSz_map (f := bA) (fun _ => rfl) l
theorem norefs_kA (k : IntKind) (l : List Int) : norefs (l.map (kA k)) = true := norefs_map (f := kA k) (fun _ => by simp [kA, AV.noref]) l
theorem norefs_bA (l : List Bool) : norefs (l.map bA) = true := norefs_map (f := bA) (fun _ => by simp [bA, AV.noref]) l

/-- An element of a list that is an image. -/
theorem ldV_mapN {α : Type} [Inhabited α] {f : α → AV} {l : List α} {n : Nat} {d : TyD} {off : Nat} (h : decide (n < l.length) = true) : ldV d off (l.map f)[n]? = ldW (takeT d (f (l.getD n default)).cells off) := by
  rw [map_get (by simpa using h)]; rfl

/-- The first place at which p holds, or -1. -/
def idxF {α : Type} (p : α → Bool) (l : List α) : Int := match l.findIdx? p with | some i => i | none => -1
theorem idxF_at {α : Type} [Inhabited α] {p : α → Bool} {l : List α} {r : Nat} (hr : r < l.length) (hp : p (l.getD r default) = true) (hn : ∀ j, j < r → p (l.getD j default) = false) : idxF p l = r := by
  have : l.findIdx? p = some r := by
    rw [List.findIdx?_eq_some_iff_getElem]
    refine ⟨hr, ?_, fun j hj => ?_⟩
    · rw [List.getD_eq_getElem?_getD, List.getElem?_eq_getElem hr] at hp; exact hp
    · have := hn j hj
      rw [List.getD_eq_getElem?_getD, List.getElem?_eq_getElem (by omega), Option.getD_some] at this
      rw [this]; decide
  rw [idxF, this]
theorem idxF_no {α : Type} [Inhabited α] {p : α → Bool} {l : List α} (hn : ∀ j, j < l.length → p (l.getD j default) = false) : idxF p l = -1 := by
  have : l.findIdx? p = none := by
    rw [List.findIdx?_eq_none_iff]
    intro x hx
    obtain ⟨j, hj, rfl⟩ := List.getElem_of_mem hx
    have := hn j hj
    rwa [List.getD_eq_getElem?_getD, List.getElem?_eq_getElem hj, Option.getD_some] at this
  rw [idxF, this]
theorem idxF_any {α : Type} {p : α → Bool} {l : List α} : decide (0 ≤ idxF p l) = l.any p := by
  unfold idxF
  cases h : l.findIdx? p with
  | none =>
    rw [List.findIdx?_eq_none_iff] at h
    have : l.any p = false := by rw [List.any_eq_false]; intro x hx; rw [h x hx]; decide
    rw [this]; rfl
  | some i =>
    have hi := List.findIdx?_eq_some_iff_getElem.1 h
    obtain ⟨hl, hp, _⟩ := hi
    have : l.any p = true := List.any_eq_true.2 ⟨_, List.getElem_mem hl, hp⟩
    rw [this, decide_eq_true_eq]
    exact Int.natCast_nonneg i

/-! ### Parts of slices -/
section
variable {P : Program} {s : St} {T : List AV} {H : List Blk}
def bnd (hi : Nat) : AV → Option Nat
  | .sc (.int _ n) => bound n hi
  | _ => none
theorem boundO_none (d hi : Nat) : boundO T none d hi = some d := rfl
theorem boundO_some (x : Operand) (d hi : Nat) : boundO T (some x) d hi = bnd hi (ev T x) := by
  simp only [boundO, bnd]
  rfl
theorem bnd_ok {hi : Nat} {k : IntKind} {n : Int} (h0 : decide (0 ≤ n) = true) (h1 : decide (n ≤ (hi : Int)) = true) : bnd hi (.sc (.int k n)) = some n.toNat := by
  simp only [decide_eq_true_eq] at h0 h1
  simp [bnd, bound, h0, h1]
def slG (z : Bool) (es : List AV) (h : Nat) : Option Nat → Option AV
  | some l => some (.vw (z && decide (h = es.length)) ((es.drop l).take (h - l)))
  | none => none
def slF (T : List AV) (z : Bool) (es : List AV) (lo : Option Operand) : Option Nat → Option AV
  | some h => slG z es h (boundO T lo 0 h)
  | none => none
def slK (id ver lo' h : Nat) : Option Nat → Option AV
  | some l => some (.sl id ver (lo' + l) (h - l))
  | none => none
def slI (T : List AV) (id ver lo' : Nat) (lo : Option Operand) : Option Nat → Option AV
  | some h => slK id ver lo' h (boundO T lo 0 h)
  | none => none
def slH (T : List AV) (de : TyD) (id ver lo' len : Nat) (lo hi : Option Operand) : Option Blk → Option AV
  | some B => if (B.esz == de.sz) = true then slI T id ver lo' lo (boundO T hi len len) else none
  | none => none
def slE (T : List AV) (H : List Blk) (lo hi : Option Operand) : AV → Option TyD → Option AV
  | .vw z es, some de => if allSz de.sz es = true then slF T z es lo (boundO T hi es.length es.length) else none
  | .sl id ver lo' len, some de => slH T de id ver lo' len lo hi (liveB H id ver)
  | _, _ => none
/-- The first cells of an array that is only read. -/
def arC (es : List AV) (off m h : Nat) : Option AV → Option AV
  | some e => if (decide (off + m ≤ e.cells.length) && decide (m ≤ 1000000) && allSz 1 e.cells) = true then some (.vw false ((e.cells.drop off).take h)) else none
  | none => none
def arB (es : List AV) (i off m : Nat) : Option Nat → Option AV
  | some h => arC es off m h es[i]?
  | none => none
def arA (T : List AV) (lo hi : Option Operand) (m : Nat) : AV → Option TyD → Option AV
  | .vp es i off, some de => match lo with
    | none => if (de.sz == 1) = true then arB es i off m (boundO T hi m m) else none
    | some _ => none
  | _, _ => none
def strS (P : Program) (t : TypeId) : Option Value → Option (Option Value) → Option (Option Value) → Option AV
  | some a, some l, some h => match spure P (Instr.sliceAt t a l h none) with
    | some v => some (ofV v)
    | none => none
  | _, _, _ => none
def slD (P : Program) (t : TypeId) (T : List AV) (H : List Blk) (lo hi : Option Operand) (v : AV) : Option TyD → Option AV
  | some d => match d.el, d.len with
    | some el, none => slE T H lo hi v (tyD P el)
    | some el, some m => arA T lo hi m v (tyD P el)
    | none, none => strS P t (conc v) (concO T lo) (concO T hi)
    | _, _ => none
  | none => none
theorem rval_slice (t : TypeId) (x : Operand) (lo hi : Option Operand) : rval P s (.slice t x lo hi none) = slD P t s.T s.H lo hi (ev s.T x) (tyD P t) := by
  simp only [rval, slD]
  cases tyD P t with
  | none => rfl
  | some d =>
    simp only
    cases d.el with
    | none =>
      cases d.len with
      | some m => rfl
      | none =>
        simp only [strS, show concO s.T none = some none from rfl]
        generalize concO s.T lo = a
        generalize concO s.T hi = b
        cases conc (ev s.T x) <;> cases a <;> cases b <;> rfl
    | some el =>
      cases d.len with
      | some m =>
        simp only
        cases tyD P el with
        | none => cases ev s.T x <;> rfl
        | some de =>
          cases ev s.T x with
          | vp es i off =>
            cases lo with
            | some lo => rfl
            | none =>
              simp only [arA]
              cases boundO s.T hi m m with
              | none =>
                cases es[i]? with
                | none => by_cases hz : de.sz = 1 <;> simp [hz, arB]
                | some e => by_cases hz : de.sz = 1 <;> simp [hz, arB]
              | some h =>
                cases hei : es[i]? with
                | none => by_cases hz : de.sz = 1 <;> simp [hz, arB, arC, hei]
                | some e =>
                  simp only [arB, arC, hei, allSz_eq]
                  by_cases hz : de.sz = 1
                  · by_cases hc : off + m ≤ e.cells.length ∧ m ≤ 1000000 ∧ allSz 1 e.cells = true
                    · rw [if_pos ⟨hz, hc⟩, if_pos (by simp [hz]), if_pos (by simp [hc.1, hc.2.1, hc.2.2])]
                    · rw [if_neg (fun h => hc h.2), if_pos (by simp [hz]), if_neg]
                      intro h'
                      simp only [Bool.and_eq_true, decide_eq_true_eq] at h'
                      exact hc ⟨h'.1.1, h'.1.2, h'.2⟩
                  · rw [if_neg (fun h => hz h.1), if_neg (by simpa using hz)]
          | _ => rfl
      | none =>
        simp only
        cases tyD P el with
        | none => cases ev s.T x <;> rfl
        | some de =>
          simp only
          cases ev s.T x with
          | vw z es =>
            simp only [slE, boundO_none]
            by_cases ha : allSz de.sz es = true
            · rw [if_pos ha]
              cases boundO s.T hi es.length es.length with
              | none => rfl
              | some h =>
                simp only [slF]
                cases boundO s.T lo 0 h with
                | none => rfl
                | some l =>
                  simp only [slG]
                  rw [if_pos ⟨by rw [allSz_eq]; exact ha, by simp⟩]
                  rfl
            · rw [if_neg ha]
              cases boundO s.T hi es.length es.length with
              | none => rfl
              | some h =>
                simp only
                cases boundO s.T lo 0 h with
                | none => rfl
                | some l =>
                  simp only
                  rw [if_neg]
                  rintro ⟨h1, _⟩
                  rw [allSz_eq] at h1
                  exact ha h1
          | sl id ver lo' len =>
            simp only [slE, slH]
            cases liveB s.H id ver with
            | none => rfl
            | some B =>
              simp only [slI, slK]
              by_cases hb : B.esz = de.sz
              · cases boundO s.T hi len len with
                | none => simp [hb]
                | some h => cases hl : boundO s.T lo 0 h <;> simp [hb, hl]
              · cases boundO s.T hi len len with
                | none => simp [hb]
                | some h => cases hl : boundO s.T lo 0 h <;> simp [hb, hl]
          | _ => rfl
theorem slD_sl (t : TypeId) (lo hi : Option Operand) (v : AV) (ag sz by' z el fl) : slD P t T H lo hi v (some ⟨ag, sz, by', z, some el, none, fl⟩) = slE T H lo hi v (tyD P el) := rfl
theorem slD_ar (t : TypeId) (lo hi : Option Operand) (v : AV) (ag sz by' z el m fl) : slD P t T H lo hi v (some ⟨ag, sz, by', z, some el, some m, fl⟩) = arA T lo hi m v (tyD P el) := rfl
theorem arA_vp {hi : Option Operand} {m i off : Nat} {es : List AV} {de : TyD} (h : (de.sz == 1) = true) : arA T none hi m (.vp es i off) (some de) = arB es i off m (boundO T hi m m) := by simp [arA, h]
theorem arB_some (es : List AV) (i off m h : Nat) : arB es i off m (some h) = arC es off m h es[i]? := rfl
theorem arC_some {es : List AV} {off m h : Nat} {e : AV} (hc : (decide (off + m ≤ e.cells.length) && decide (m ≤ 1000000) && allSz 1 e.cells) = true) : arC es off m h (some e) = some (.vw false ((e.cells.drop off).take h)) := by simp only [arC, hc, if_true]
theorem slE_vw {lo hi : Option Operand} {z : Bool} {es : List AV} {de : TyD} (h : allSz de.sz es = true) : slE T H lo hi (.vw z es) (some de) = slF T z es lo (boundO T hi es.length es.length) := by simp [slE, h]
theorem slE_sl (lo hi : Option Operand) (id ver lo' len : Nat) (de : TyD) : slE T H lo hi (.sl id ver lo' len) (some de) = slH T de id ver lo' len lo hi (liveB H id ver) := rfl
theorem slH_some {de : TyD} {id ver lo' len : Nat} {lo hi : Option Operand} {B : Blk} (h : (B.esz == de.sz) = true) : slH T de id ver lo' len lo hi (some B) = slI T id ver lo' lo (boundO T hi len len) := by simp [slH, h]
theorem slF_some (z : Bool) (es : List AV) (lo : Option Operand) (h : Nat) : slF T z es lo (some h) = slG z es h (boundO T lo 0 h) := rfl
theorem slG_some (z : Bool) (es : List AV) (h l : Nat) : slG z es h (some l) = some (.vw (z && decide (h = es.length)) ((es.drop l).take (h - l))) := rfl
theorem slI_some (id ver lo' : Nat) (lo : Option Operand) (h : Nat) : slI T id ver lo' lo (some h) = slK id ver lo' h (boundO T lo 0 h) := rfl
theorem slK_some (id ver lo' h l : Nat) : slK id ver lo' h (some l) = some (.sl id ver (lo' + l) (h - l)) := rfl
end
/-! ### min and max -/
section
variable {P : Program} {s : St}
def mm (P : Program) (b : Builtin) (ats : Array TypeId) (args : List AV) : Option AV :=
  match concs args with
  | some l => match spure P (match b with | .min => Builtin.min_ ats 0 l.toArray | _ => Builtin.max_ ats 0 l.toArray) with
    | some v => some (ofV v)
    | none => none
  | none => none
theorem rval_min (x y : Operand) (t t' : TypeId) : rval P s (.call ⟨.builtin .min, #[x, y], #[t, t']⟩) = mm P .min #[t, t'] [ev s.T x, ev s.T y] := rfl
theorem rval_max (x y : Operand) (t t' : TypeId) : rval P s (.call ⟨.builtin .max, #[x, y], #[t, t']⟩) = mm P .max #[t, t'] [ev s.T x, ev s.T y] := rfl
theorem mm_min (ats : Array TypeId) (k : IntKind) (a b : Int) : mm P .min ats [.sc (.int k a), .sc (.int k b)] = some (.sc (.int k (min a b))) := by
  have : spure P (Builtin.min_ ats 0 #[.int k a, .int k b]) = some (.int k (min a b)) := by
    simp [spure, Builtin.min_, Builtin.min2, rd_bind, rd_pure, List.foldlM]
    split <;> omega
  simp only [mm, concs, conc, this]
  rfl
theorem mm_max (ats : Array TypeId) (k : IntKind) (a b : Int) : mm P .max ats [.sc (.int k a), .sc (.int k b)] = some (.sc (.int k (max a b))) := by
  have : spure P (Builtin.max_ ats 0 #[.int k a, .int k b]) = some (.int k (max a b)) := by
    simp [spure, Builtin.max_, Builtin.max2, rd_bind, rd_pure, List.foldlM]
    split <;> omega
  simp only [mm, concs, conc, this]
  rfl
end

/-! ### Zero values and short lists -/
theorem ofAgg_int (k : IntKind) (n : Int) : ofAgg (.int k n) = .sc (.int k n) := rfl
theorem ofAgg_bool (b : Bool) : ofAgg (.bool b) = .sc (.bool b) := rfl
theorem ofAgg_str (b : ByteArray) : ofAgg (.string b) = .sc (.string b) := rfl
theorem ofAgg_slice : ofAgg (.slice none 0 0) = .vw true [] := rfl
theorem vcells_int (k : IntKind) (n : Int) : (Value.int k n).cells.size = 1 := rfl
theorem vcells_bool (b : Bool) : (Value.bool b).cells.size = 1 := rfl
theorem vcells_str (b : ByteArray) : (Value.string b).cells.size = 1 := rfl
theorem vcells_slice (a : Option Addr) (l c : Nat) : (Value.slice a l c).cells.size = 1 := rfl
theorem vcells_agg (cs : List Value) : (Value.agg cs.toArray).cells.size = cs.length := rfl
theorem rep0 (x : AV) : List.replicate 0 x = [] := rfl
theorem rep1 (x : AV) : List.replicate 1 x = [x] := rfl
theorem rep2 (x : AV) : List.replicate 2 x = [x, x] := rfl
theorem rep3 (x : AV) : List.replicate 3 x = [x, x, x] := rfl
theorem rep4 (x : AV) : List.replicate 4 x = [x, x, x, x] := rfl
theorem rep5 (x : AV) : List.replicate 5 x = [x, x, x, x, x] := rfl
theorem rep6 (x : AV) : List.replicate 6 x = [x, x, x, x, x, x] := rfl
theorem rep7 (x : AV) : List.replicate 7 x = [x, x, x, x, x, x, x] := rfl
theorem rep8 (x : AV) : List.replicate 8 x = [x, x, x, x, x, x, x, x] := rfl
theorem dropL_one {α : Type} (a : α) : [a].dropLast = [] := rfl
theorem dropL_two {α : Type} (a b : α) (l : List α) : (a :: b :: l).dropLast = a :: (b :: l).dropLast := rfl
end Go.SX
