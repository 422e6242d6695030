/-
  SX, part 13: equations of the remaining reading operations.
  Conditions: none.
-/
import Derived.Test.YtdjpkhjaibdogaaGreatSXC
namespace Go.SX
set_option linter.unusedSimpArgs false
set_option linter.unusedVariables false
section
variable {P : Program} {s : St} {H : List Blk}

/-- All elements have sz cells. -/
def allSz (sz : Nat) : List AV → Bool
  | [] => true
  | e :: r => decide (e.cells.length = sz) && allSz sz r
theorem allSz_nil (sz : Nat) : allSz sz [] = true := rfl
theorem allSz_cons (sz : Nat) (e : AV) (r : List AV) : allSz sz (e :: r) = (decide (e.cells.length = sz) && allSz sz r) := rfl
theorem allSz_spec {sz : Nat} : ∀ {es : List AV}, allSz sz es = true → ∀ e ∈ es, e.cells.length = sz
  | [], _, e, h => by cases h
  | a :: r, h, e, he => by
    simp only [allSz, Bool.and_eq_true, decide_eq_true_eq] at h
    rcases List.mem_cons.1 he with rfl | he
    · exact h.1
    · exact allSz_spec h.2 e he
theorem allSz_map {α : Type} {f : α → AV} {sz : Nat} (h : ∀ x, (f x).cells.length = sz) (l : List α) : allSz sz (l.map f) = true := by
  induction l with
  | nil => rfl
  | cons x l ih => simp [allSz, h, ih]
theorem allSz_all {sz : Nat} : ∀ {es : List AV}, allSz sz es = true → es.all (fun e => e.cells.length = sz) = true
  | es, h => by simpa using allSz_spec h

def ixE (H : List Blk) (m : Option Nat) (x i : AV) : Option TyD → Option AV
  | some de => match m, x, i with
    | none, .vw _ es, .sc (.int _ n) => match (if 0 ≤ n then es[n.toNat]? else none) with
      | some e => if e.cells.length = de.sz then some (.vp es n.toNat 0) else none
      | none => none
    | none, .sl id ver lo len, .sc (.int _ n) => match liveB H id ver with
      | some B => if 0 ≤ n ∧ n < (len : Int) ∧ B.esz = de.sz then some (.pt id ver (lo + n.toNat) 0) else none
      | none => none
    | some m, .pt id ver k o, .sc (.int _ n) => match liveB H id ver with
      | some _ => if 0 ≤ n ∧ n < (m : Int) then some (.pt id ver k (o + n.toNat * de.sz)) else none
      | none => none
    | some m, .vp es k o, .sc (.int _ n) => if 0 ≤ n ∧ n < (m : Int) then some (.vp es k (o + n.toNat * de.sz)) else none
    | _, _, _ => none
  | none => none
def ixD (P : Program) (H : List Blk) (x i : AV) : Option TyD → Option AV
  | some d => match d.el with
    | some el => ixE H d.len x i (tyD P el)
    | none => none
  | none => none
theorem rval_indexAddr (t : TypeId) (x i : Operand) : rval P s (.indexAddr t x i) = ixD P s.H (ev s.T x) (ev s.T i) (tyD P t) := by
  simp only [rval, ixD, ixE]
  cases tyD P t with
  | none => rfl
  | some d =>
    cases d.el with
    | none => rfl
    | some el =>
      simp only
      cases tyD P el with
      | none => rfl
      | some de => rfl
theorem ixD_some (x i : AV) (ag sz by' z el len fl) : ixD P H x i (some ⟨ag, sz, by', z, some el, len, fl⟩) = ixE H len x i (tyD P el) := rfl
theorem ixE_vw {z : Bool} {es : List AV} {k : IntKind} {n : Int} {de : TyD} (h0 : decide (0 ≤ n) = true) (h1 : decide (n < (es.length : Int)) = true) (h2 : allSz de.sz es = true) :
    ixE H none (.vw z es) (.sc (.int k n)) (some de) = some (.vp es n.toNat 0) := by
  simp only [decide_eq_true_eq] at h0 h1
  have hl : n.toNat < es.length := by omega
  have := allSz_spec h2 es[n.toNat] (List.getElem_mem hl)
  simp [ixE, h0, hl, this]
def ixB (len lo ver id : Nat) (n : Int) (de : TyD) : Option Blk → Option AV
  | some B => if 0 ≤ n ∧ n < (len : Int) ∧ B.esz = de.sz then some (.pt id ver (lo + n.toNat) 0) else none
  | none => none
theorem ixE_sl (id ver lo len : Nat) (k : IntKind) (n : Int) (de : TyD) : ixE H none (.sl id ver lo len) (.sc (.int k n)) (some de) = ixB len lo ver id n de (liveB H id ver) := by
  simp only [ixE, ixB]
theorem ixB_some {len lo ver id : Nat} {n : Int} {de : TyD} {B : Blk} (h0 : decide (0 ≤ n) = true) (h1 : decide (n < (len : Int)) = true) (h2 : (B.esz == de.sz) = true) :
    ixB len lo ver id n de (some B) = some (.pt id ver (lo + n.toNat) 0) := by
  simp only [decide_eq_true_eq, beq_iff_eq] at h0 h1 h2
  simp [ixB, h0, h1, h2]
def ixM (m k o ver id : Nat) (n : Int) (de : TyD) : Option Blk → Option AV
  | some _ => if 0 ≤ n ∧ n < (m : Int) then some (.pt id ver k (o + n.toNat * de.sz)) else none
  | none => none
theorem ixE_pt (m id ver k o : Nat) (kd : IntKind) (n : Int) (de : TyD) : ixE H (some m) (.pt id ver k o) (.sc (.int kd n)) (some de) = ixM m k o ver id n de (liveB H id ver) := by
  simp only [ixE, ixM]
theorem ixM_some {m k o ver id : Nat} {n : Int} {de : TyD} {B : Blk} (h0 : decide (0 ≤ n) = true) (h1 : decide (n < (m : Int)) = true) :
    ixM m k o ver id n de (some B) = some (.pt id ver k (o + n.toNat * de.sz)) := by
  simp only [decide_eq_true_eq] at h0 h1
  simp [ixM, h0, h1]
theorem ixE_vp {m k o : Nat} {es : List AV} {kd : IntKind} {n : Int} {de : TyD} (h0 : decide (0 ≤ n) = true) (h1 : decide (n < (m : Int)) = true) :
    ixE H (some m) (.vp es k o) (.sc (.int kd n)) (some de) = some (.vp es k (o + n.toNat * de.sz)) := by
  simp only [decide_eq_true_eq] at h0 h1
  simp [ixE, h0, h1]

theorem ldV_map {α : Type} [Inhabited α] {f : α → AV} {l : List α} {n : Int} {d : TyD} {off : Nat} (h0 : decide (0 ≤ n) = true) (h1 : decide (n < (l.length : Int)) = true) :
    ldV d off (l.map f)[n.toNat]? = ldW (takeT d (f (l.getD n.toNat default)).cells off) := by
  simp only [decide_eq_true_eq] at h0 h1
  have hl : n.toNat < l.length := by omega
  simp [ldV, hl]
  rfl

def lenN : Option Nat → Option AV
  | some n => some (.sc (.int .i64 n))
  | none => none
def lenD (P : Program) (t : TypeId) (H : List Blk) (x : AV) : Option TyD → Option AV
  | some d => match d.el, d.len with
    | some _, none => lenN (lenA H x)
    | some _, some m => some (.sc (.int .i64 m))
    | none, none => match conc x with
      | some a => match spure P (Builtin.len_ #[t] 0 #[a]) with
        | some v => some (ofV v)
        | none => none
      | none => none
    | _, _ => none
  | none => none
theorem rval_len (t : TypeId) (x : Operand) : rval P s (.call ⟨.builtin .len, #[x], #[t]⟩) = lenD P t s.H (ev s.T x) (tyD P t) := by
  simp only [rval, lenD]
  cases tyD P t with
  | none => rfl
  | some d =>
    cases d.el <;> cases d.len <;> rfl
theorem lenD_sl (t : TypeId) (x : AV) (ag sz by' z el fl) : lenD P t H x (some ⟨ag, sz, by', z, some el, none, fl⟩) = lenN (lenA H x) := rfl
theorem lenD_ar (t : TypeId) (x : AV) (ag sz by' z el fl m) : lenD P t H x (some ⟨ag, sz, by', z, some el, some m, fl⟩) = some (.sc (.int .i64 m)) := rfl
theorem lenA_vw (z : Bool) (es : List AV) : lenA H (.vw z es) = some es.length := rfl
def lenL (len : Nat) : Option Blk → Option Nat
  | some _ => some len
  | none => none
theorem lenA_sl (id ver lo len : Nat) : lenA H (.sl id ver lo len) = lenL len (liveB H id ver) := by
  simp only [lenA, lenL]; cases liveB H id ver <;> rfl
theorem lenL_some (len : Nat) (B : Blk) : lenL len (some B) = some len := rfl
theorem lenN_some (n : Nat) : lenN (some n) = some (.sc (.int .i64 n)) := rfl

def fldE (cs : List AV) (off : Nat) : Option TyD → Option AV
  | some df => takeT df cs off
  | none => none
def fldF (P : Program) (cs : List AV) : Option (Nat × TypeId) → Option AV
  | some p => fldE cs p.1 (tyD P p.2)
  | none => none
def fldD (P : Program) (x : AV) (f : Nat) : Option TyD → Option AV
  | some d => match x with
    | .ag cs => fldF P cs d.flds[f]?
    | _ => none
  | none => none
theorem rval_field (t : TypeId) (x : Operand) (f : Nat) : rval P s (.field t x f) = fldD P (ev s.T x) f (tyD P t) := by
  simp only [rval, fldD, fldF, fldE]
  generalize ev s.T x = v
  cases tyD P t with
  | none => rfl
  | some d =>
    cases hf : d.flds[f]? with
    | none => cases v <;> simp [hf]
    | some p =>
      obtain ⟨off, ft⟩ := p
      cases hd : tyD P ft <;> cases v <;> simp [hf, hd]
theorem fldD_ag (cs : List AV) (f : Nat) (d : TyD) : fldD P (.ag cs) f (some d) = fldF P cs d.flds[f]? := rfl
theorem fldF_some (cs : List AV) (off : Nat) (t : TypeId) : fldF P cs (some (off, t)) = fldE cs off (tyD P t) := rfl
theorem fldE_some (cs : List AV) (off : Nat) (d : TyD) : fldE cs off (some d) = takeT d cs off := rfl

def iaE (cs : List AV) (n : Int) (m : Nat) : Option TyD → Option AV
  | some de => if 0 ≤ n ∧ n < (m : Int) then takeT de cs (n.toNat * de.sz) else none
  | none => none
def iaD (P : Program) (t : TypeId) (x i : AV) : Option TyD → Option AV
  | some d => match d.el, d.len with
      | some el, some m => match tyD P el with
        | some de => match x, i with
          | .ag cs, .sc (.int _ n) => if 0 ≤ n ∧ n < (m : Int) then takeT de cs (n.toNat * de.sz) else none
          | _, _ => none
        | none => none
      | none, none => match conc x, conc i with
        | some a, some b => match spure P (Instr.index t a b) with
          | some v => some (ofV v)
          | none => none
        | _, _ => none
      | _, _ => none
  | none => none
theorem rval_index (t : TypeId) (x i : Operand) : rval P s (.index t x i) = iaD P t (ev s.T x) (ev s.T i) (tyD P t) := by
  simp only [rval, iaD]
  cases tyD P t with
  | none => rfl
  | some d => rfl
theorem iaD_ar (t : TypeId) (cs : List AV) (k : IntKind) (n : Int) (ag sz by' z el m fl) : iaD P t (.ag cs) (.sc (.int k n)) (some ⟨ag, sz, by', z, some el, some m, fl⟩) = iaE cs n m (tyD P el) := by
  simp only [iaD, iaE]
theorem iaE_some (cs : List AV) (n : Int) (m : Nat) (de : TyD) : iaE cs n m (some de) = if 0 ≤ n ∧ n < (m : Int) then takeT de cs (n.toNat * de.sz) else none := rfl
end
end Go.SX
