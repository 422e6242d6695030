/-
  SX, part 17: equations of the operations that write or make memory.
  Conditions: none.
-/
import Derived.Test.YtdjpkhjaibdogaaGreatSXE
namespace Go.SX
set_option linter.unusedSimpArgs false
set_option linter.unusedVariables false
section
variable {P : Program} {s : St} {H : List Blk} {d : Option Nat}

/-! ### Lists that are images -/
theorem map_get {α : Type} [Inhabited α] {f : α → AV} {l : List α} {n : Nat} (h : n < l.length) : (l.map f)[n]? = some (f (l.getD n default)) := by
  rw [List.getElem?_map, List.getElem?_eq_getElem h, Option.map_some, List.getD_eq_getElem?_getD, List.getElem?_eq_getElem h, Option.getD_some]
theorem map_set {α : Type} (f : α → AV) (l : List α) (n : Nat) (x : α) : (l.map f).set n (f x) = (l.set n x).map f := by
  rw [List.map_set]

theorem stor_sc (v : Value) : AV.stor (.sc v) = true := rfl
theorem stor_ag (cs : List AV) : AV.stor (.ag cs) = true := rfl
theorem stor_vw (z : Bool) (es : List AV) : AV.stor (.vw z es) = true := rfl
theorem stor_sl (a b c d : Nat) : AV.stor (.sl a b c d) = true := rfl
theorem stor_pt (a b c d : Nat) : AV.stor (.pt a b c d) = true := rfl
theorem stor_fn (f : Nat) (cs : List AV) : AV.stor (.fn f cs) = true := rfl

/-! ### store -/
def stS (s : St) (d : Option Nat) (id i : Nat) (B : Blk) : Option AV → Option St
  | some e' => some (St.put { s with H := s.H.set id { B with els := B.els.set i e' } } d .un)
  | none => none
def stE (s : St) (d : Option Nat) (v : AV) (id i off sz : Nat) (B : Blk) : Option AV → Option St
  | some e => if (v.stor && (v.cells.length == sz) && decide (0 < sz)) = true then stS s d id i B (e.setC off v.cells) else none
  | none => none
def stB (s : St) (d : Option Nat) (v : AV) (id i off sz : Nat) : Option Blk → Option St
  | some B => stE s d v id i off sz B B.els[i]?
  | none => none
def stA (s : St) (d : Option Nat) (v : AV) (dd : TyD) : AV → Option St
  | .pt id ver i off => stB s d v id i off dd.sz (liveB s.H id ver)
  | _ => none
def stD (s : St) (d : Option Nat) (v a : AV) : Option TyD → Option St
  | some dd => stA s d v dd a
  | none => none
theorem hstep_store (t : TypeId) (a x : Operand) : hstep P s (.store t a x) d = stD s d (ev s.T x) (ev s.T a) (tyD P t) := by
  simp only [hstep, stD]
  cases tyD P t with
  | none => rfl
  | some dd =>
    simp only
    generalize ev s.T a = q
    cases q <;> try rfl
    rename_i id ver i off
    simp only [stA, stB]
    generalize liveB s.H id ver = B
    cases B with
    | none => rfl
    | some B =>
      simp only [stE]
      generalize B.els[i]? = e
      cases e with
      | none => rfl
      | some e =>
        simp only [stS]
        by_cases h : (ev s.T x).stor = true ∧ (ev s.T x).cells.length = dd.sz ∧ 0 < dd.sz
        · rw [if_pos h, if_pos (by simp [h.1, h.2.1, h.2.2])]
          cases AV.setC e _ (ev s.T x).cells <;> rfl
        · rw [if_neg h, if_neg]
          intro h'
          simp only [Bool.and_eq_true, beq_iff_eq, decide_eq_true_eq] at h'
          exact h ⟨h'.1.1, h'.1.2, h'.2⟩
theorem stD_some (v a : AV) (dd : TyD) : stD s d v a (some dd) = stA s d v dd a := rfl
theorem stA_pt (v : AV) (dd : TyD) (id ver i off : Nat) : stA s d v dd (.pt id ver i off) = stB s d v id i off dd.sz (liveB s.H id ver) := rfl
theorem stB_some (v : AV) (id i off sz : Nat) (B : Blk) : stB s d v id i off sz (some B) = stE s d v id i off sz B B.els[i]? := rfl
theorem stE_some (v : AV) (id i off sz : Nat) (B : Blk) (e : AV) (h : (v.stor && (v.cells.length == sz) && decide (0 < sz)) = true) : stE s d v id i off sz B (some e) = stS s d id i B (e.setC off v.cells) := by
  simp [stE, h]
theorem stS_some (T : List AV) (H : List Blk) (c id i : Nat) (B : Blk) (e : AV) : stS ⟨T, H, c⟩ d id i B (some e) = some (St.put ⟨T, H.set id { B with els := B.els.set i e }, c⟩ d .un) := rfl
/-! ### makeSlice -/
def mkS (s : St) (d : Option Nat) (el : Nat) (de : TyD) (z : AV) : AV → AV → Option St
  | .sc (.int _ n), .sc (.int _ m) => if (z.stor && (z.cells.length == de.sz) && decide (0 < de.sz) && decide (0 < de.bytes) && decide (0 ≤ n) && decide (n ≤ m) && decide (m * de.bytes ≤ 140737488355328)) = true then
      some (St.put { s with H := s.H ++ [⟨true, s.cnt, el, de.sz, List.replicate n.toNat z, false⟩], cnt := s.cnt + 1 } d (.sl s.H.length s.cnt 0 n.toNat)) else none
  | _, _ => none
def mkZ (s : St) (d : Option Nat) (el : Nat) (de : TyD) (l c : AV) : Option Value → Option St
  | some z => mkS s d el de (ofAgg z) l c
  | none => none
def mkE (s : St) (d : Option Nat) (el : Nat) (l c : AV) : Option TyD → Option St
  | some de => mkZ s d el de l c de.zero
  | none => none
def mkD (P : Program) (s : St) (d : Option Nat) (l c : AV) : Option TyD → Option St
  | some dd => match dd.el, dd.len with
    | some el, none => mkE s d el l c (tyD P el)
    | _, _ => none
  | none => none
theorem hstep_makeSlice (t : TypeId) (l c : Operand) : hstep P s (.makeSlice t l c) d = mkD P s d (ev s.T l) (ev s.T c) (tyD P t) := by
  simp only [hstep, mkD]
  cases tyD P t with
  | none => rfl
  | some dd =>
    simp only
    cases dd.el with
    | none => rfl
    | some el =>
      cases dd.len with
      | some _ => rfl
      | none =>
        simp only [mkE]
        cases tyD P el with
        | none => rfl
        | some de =>
          simp only [mkZ]
          cases hz : de.zero with
          | none => rfl
          | some z =>
            simp only [mkS]
            generalize ev s.T l = u
            generalize ev s.T c = v
            cases u <;> try rfl
            rename_i u
            cases u <;> try rfl
            cases v <;> try rfl
            rename_i v
            cases v <;> try rfl
            rename_i k n k' m
            simp only
            by_cases h : (ofAgg z).stor = true ∧ (ofAgg z).cells.length = de.sz ∧ 0 < de.sz ∧ 0 < de.bytes ∧ 0 ≤ n ∧ n ≤ m ∧ m * de.bytes ≤ 140737488355328
            · rw [if_pos h, if_pos (by simp [h.1, h.2.1, h.2.2.1, h.2.2.2.1, h.2.2.2.2.1, h.2.2.2.2.2.1, h.2.2.2.2.2.2])]
            · rw [if_neg h, if_neg]
              intro h'
              simp only [Bool.and_eq_true, beq_iff_eq, decide_eq_true_eq] at h'
              exact h ⟨h'.1.1.1.1.1.1, h'.1.1.1.1.1.2, h'.1.1.1.1.2, h'.1.1.1.2, h'.1.1.2, h'.1.2, h'.2⟩
theorem mkD_sl (l c : AV) (ag sz by' z el fl) : mkD P s d l c (some ⟨ag, sz, by', z, some el, none, fl⟩) = mkE s d el l c (tyD P el) := rfl
theorem mkE_some (el : Nat) (l c : AV) (de : TyD) : mkE s d el l c (some de) = mkZ s d el de l c de.zero := rfl
theorem mkZ_some (el : Nat) (de : TyD) (l c : AV) (z : Value) : mkZ s d el de l c (some z) = mkS s d el de (ofAgg z) l c := rfl
theorem mkS_ok (T : List AV) (H : List Blk) (cn el : Nat) (de : TyD) (z : AV) (k k' : IntKind) (n m : Int)
    (h : (z.stor && (z.cells.length == de.sz) && decide (0 < de.sz) && decide (0 < de.bytes) && decide (0 ≤ n) && decide (n ≤ m) && decide (m * de.bytes ≤ 140737488355328)) = true) :
    mkS ⟨T, H, cn⟩ d el de z (.sc (.int k n)) (.sc (.int k' m)) = some (St.put ⟨T, H ++ [⟨true, cn, el, de.sz, List.replicate n.toNat z, false⟩], cn + 1⟩ d (.sl H.length cn 0 n.toNat)) := by
  simp only [mkS, h, if_true]

/-! ### buildSlice -/
def blF (s : St) (d : Option Nat) (el len : Nat) (de : TyD) (z : AV) : Option (List AV) → Option St
  | some es => if (z.stor && (z.cells.length == de.sz) && decide (0 < de.sz) && decide (len * de.sz ≤ 16777216)) = true then
      some (St.put { s with H := s.H ++ [⟨true, s.cnt, el, de.sz, es, true⟩], cnt := s.cnt + 1 } d (.sl s.H.length s.cnt 0 len)) else none
  | none => none
def blZ (s : St) (d : Option Nat) (el len : Nat) (de : TyD) (l : List (Nat × AV)) : Option Value → Option St
  | some z => blF s d el len de (ofAgg z) (fillE de.sz (List.replicate len (ofAgg z)) l)
  | none => none
def blE (s : St) (d : Option Nat) (el len : Nat) (l : List (Nat × AV)) : Option TyD → Option St
  | some de => blZ s d el len de l de.zero
  | none => none
def blD (P : Program) (s : St) (d : Option Nat) (len : Nat) (l : List (Nat × AV)) : Option TyD → Option St
  | some dd => match dd.el, dd.len with
    | some el, none => blE s d el len l (tyD P el)
    | _, _ => none
  | none => none
theorem hstep_buildSlice (t : TypeId) (len : Nat) (ps : Array (Nat × Operand)) : hstep P s (.buildSlice t len ps) d = blD P s d len (ps.toList.map fun p => (p.1, ev s.T p.2)) (tyD P t) := by
  simp only [hstep, blD]
  cases tyD P t with
  | none => rfl
  | some dd =>
    simp only
    cases dd.el with
    | none => rfl
    | some el =>
      cases dd.len with
      | some _ => rfl
      | none =>
        simp only [blE]
        cases tyD P el with
        | none => rfl
        | some de =>
          simp only [blZ]
          cases hz : de.zero with
          | none => rfl
          | some z =>
            simp only
            generalize fillE de.sz (List.replicate len (ofAgg z)) _ = q
            cases q with
            | none => rfl
            | some es =>
              simp only [blF]
              by_cases h : (ofAgg z).stor = true ∧ (ofAgg z).cells.length = de.sz ∧ 0 < de.sz ∧ len * de.sz ≤ 16777216
              · rw [if_pos h, if_pos (by simp [h.1, h.2.1, h.2.2.1, h.2.2.2])]
              · rw [if_neg h, if_neg]
                intro h'
                simp only [Bool.and_eq_true, beq_iff_eq, decide_eq_true_eq] at h'
                exact h ⟨h'.1.1.1, h'.1.1.2, h'.1.2, h'.2⟩
theorem blD_sl (len : Nat) (l : List (Nat × AV)) (ag sz by' z el fl) : blD P s d len l (some ⟨ag, sz, by', z, some el, none, fl⟩) = blE s d el len l (tyD P el) := rfl
theorem blE_some (el len : Nat) (l : List (Nat × AV)) (de : TyD) : blE s d el len l (some de) = blZ s d el len de l de.zero := rfl
theorem blZ_some (el len : Nat) (de : TyD) (l : List (Nat × AV)) (z : Value) : blZ s d el len de l (some z) = blF s d el len de (ofAgg z) (fillE de.sz (List.replicate len (ofAgg z)) l) := rfl
theorem blF_some (T : List AV) (H : List Blk) (cn el len : Nat) (de : TyD) (z : AV) (es : List AV) (h : (z.stor && (z.cells.length == de.sz) && decide (0 < de.sz) && decide (len * de.sz ≤ 16777216)) = true) :
    blF ⟨T, H, cn⟩ d el len de z (some es) = some (St.put ⟨T, H ++ [⟨true, cn, el, de.sz, es, true⟩], cn + 1⟩ d (.sl H.length cn 0 len)) := by
  simp only [blF, h, if_true]

/-! ### append -/
/-- Can be appended: elements of the right size, not too many bytes. -/
def apX (s : St) (d : Option Nat) (el : Nat) (de : TyD) (ys : List AV) (H1 : List Blk) : AV → Option St
  | .vw true [] => if decide (ys.length * de.bytes ≤ 140737488355328) = true then
      some (St.put { s with H := H1 ++ [⟨true, s.cnt, el, de.sz, ys, false⟩], cnt := s.cnt + 1 } d (.sl H1.length s.cnt 0 ys.length)) else none
  | .sl id ver lo len => match liveB H1 id ver with
    | some B => if ((B.esz == de.sz) && (B.ty == el) && decide ((len + ys.length) * de.bytes ≤ 140737488355328)) = true then
        some (St.put { s with H := H1.set id ⟨true, s.cnt, el, de.sz, (B.els.drop lo).take len ++ ys, false⟩, cnt := s.cnt + 1 } d (.sl id s.cnt 0 (len + ys.length))) else none
    | none => none
  | _ => none
def apY (s : St) (d : Option Nat) (el : Nat) (de : TyD) (x y : AV) : Option Value → Option (List AV) → Option St
  | some z, some ys => if (decide (0 < de.sz) && decide (0 < de.bytes) && (z.cells.size == de.sz) && allSz de.sz ys) = true then apX s d el de ys (popTmp s.H y) x else none
  | _, _ => none
def apE (s : St) (d : Option Nat) (el : Nat) (x y : AV) (ys : Option (List AV)) : Option TyD → Option St
  | some de => apY s d el de x y de.zero ys
  | none => none
def apD (P : Program) (s : St) (d : Option Nat) (x y : AV) (ys : Option (List AV)) : Option TyD → Option St
  | some dd => match dd.el, dd.len with
    | some el, none => apE s d el x y ys (tyD P el)
    | _, _ => none
  | none => none
theorem allSz_eq (sz : Nat) : ∀ es : List AV, es.all (fun e => e.cells.length = sz) = allSz sz es
  | [] => rfl
  | e :: r => by rw [List.all_cons, allSz_eq sz r, allSz]
theorem hstep_append (t : TypeId) (x y : Operand) : hstep P s (.call ⟨.builtin .append, #[x, y], #[t, t]⟩) d = apD P s d (ev s.T x) (ev s.T y) (elsA s.H (ev s.T y)) (tyD P t) := by
  simp only [hstep, apD, if_true]
  cases tyD P t with
  | none => rfl
  | some dd =>
    simp only
    cases dd.el with
    | none => rfl
    | some el =>
      cases dd.len with
      | some _ => rfl
      | none =>
        simp only [apE]
        cases tyD P el with
        | none => rfl
        | some de =>
          simp only [apY]
          cases de.zero with
          | none => rfl
          | some z =>
            cases elsA s.H (ev s.T y) with
            | none => rfl
            | some ys =>
              simp only
              rw [allSz_eq]
              by_cases h : 0 < de.sz ∧ 0 < de.bytes ∧ z.cells.size = de.sz ∧ allSz de.sz ys = true
              · have h1 : (decide (0 < de.sz) && decide (0 < de.bytes) && (z.cells.size == de.sz) && allSz de.sz ys) = true := by simp [h.1, h.2.1, h.2.2.1, h.2.2.2]
                rw [if_pos h, if_pos h1]
                generalize ev s.T x = q
                cases q with
                | sl id ver lo len =>
                  simp only [apX]
                  cases liveB (popTmp s.H (ev s.T y)) id ver with
                  | none => rfl
                  | some B =>
                    simp only
                    by_cases h2 : B.esz = de.sz ∧ B.ty = el ∧ (len + ys.length) * de.bytes ≤ 140737488355328
                    · have h3 : ((B.esz == de.sz) && (B.ty == el) && decide ((len + ys.length) * de.bytes ≤ 140737488355328)) = true := by simp [h2.1, h2.2.1, h2.2.2]
                      rw [if_pos h2, if_pos h3]
                    · rw [if_neg h2, if_neg]
                      intro h'
                      simp only [Bool.and_eq_true, beq_iff_eq, decide_eq_true_eq] at h'
                      exact h2 ⟨h'.1.1, h'.1.2, h'.2⟩
                | vw z es => cases z <;> cases es <;> simp [apX]
                | _ => rfl
              · rw [if_neg h, if_neg]
                intro h'
                simp only [Bool.and_eq_true, beq_iff_eq, decide_eq_true_eq] at h'
                exact h ⟨h'.1.1.1, h'.1.1.2, h'.1.2, h'.2⟩
theorem apD_sl (x y : AV) (ys : Option (List AV)) (ag sz by' z el fl) : apD P s d x y ys (some ⟨ag, sz, by', z, some el, none, fl⟩) = apE s d el x y ys (tyD P el) := rfl
theorem apE_some (el : Nat) (x y : AV) (ys : Option (List AV)) (de : TyD) : apE s d el x y ys (some de) = apY s d el de x y de.zero ys := rfl
theorem apY_some (el : Nat) (de : TyD) (x y : AV) (z : Value) (ys : List AV) (h : (decide (0 < de.sz) && decide (0 < de.bytes) && (z.cells.size == de.sz) && allSz de.sz ys) = true) :
    apY s d el de x y (some z) (some ys) = apX s d el de ys (popTmp s.H y) x := by
  simp only [apY, h, if_true]
theorem apX_nil (T : List AV) (H : List Blk) (c el : Nat) (de : TyD) (ys : List AV) (H1 : List Blk) (h : decide (ys.length * de.bytes ≤ 140737488355328) = true) :
    apX ⟨T, H, c⟩ d el de ys H1 (.vw true []) = some (St.put ⟨T, H1 ++ [⟨true, c, el, de.sz, ys, false⟩], c + 1⟩ d (.sl H1.length c 0 ys.length)) := by
  simp only [apX, h, if_true]
def apB (s : St) (d : Option Nat) (el : Nat) (de : TyD) (ys : List AV) (H1 : List Blk) (id lo len : Nat) : Option Blk → Option St
  | some B => if ((B.esz == de.sz) && (B.ty == el) && decide ((len + ys.length) * de.bytes ≤ 140737488355328)) = true then
        some (St.put { s with H := H1.set id ⟨true, s.cnt, el, de.sz, (B.els.drop lo).take len ++ ys, false⟩, cnt := s.cnt + 1 } d (.sl id s.cnt 0 (len + ys.length))) else none
  | none => none
theorem apX_sl (el : Nat) (de : TyD) (ys : List AV) (H1 : List Blk) (id ver lo len : Nat) : apX s d el de ys H1 (.sl id ver lo len) = apB s d el de ys H1 id lo len (liveB H1 id ver) := by
  simp only [apX, apB]
theorem apB_some (T : List AV) (H : List Blk) (c el : Nat) (de : TyD) (ys : List AV) (H1 : List Blk) (id lo len : Nat) (B : Blk)
    (h : ((B.esz == de.sz) && (B.ty == el) && decide ((len + ys.length) * de.bytes ≤ 140737488355328)) = true) :
    apB ⟨T, H, c⟩ d el de ys H1 id lo len (some B) = some (St.put ⟨T, H1.set id ⟨true, c, el, de.sz, (B.els.drop lo).take len ++ ys, false⟩, c + 1⟩ d (.sl id c 0 (len + ys.length))) := by
  simp only [apB, h, if_true]

/-! ### clear -/
def crB (s : St) (d : Option Nat) (de : TyD) (z : AV) (id lo len : Nat) : Option Blk → Option St
  | some B => if (decide (0 < de.sz) && (B.esz == de.sz) && z.stor && (z.cells.length == de.sz)) = true then
      some (St.put { s with H := s.H.set id { B with els := B.els.take lo ++ List.replicate len z ++ B.els.drop (lo + len) } } d (.tu [])) else none
  | none => none
def crX (s : St) (d : Option Nat) (de : TyD) (z : AV) : AV → Option St
  | .sl id ver lo len => crB s d de z id lo len (liveB s.H id ver)
  | _ => none
def crZ (s : St) (d : Option Nat) (de : TyD) (x : AV) : Option Value → Option St
  | some z => crX s d de (ofAgg z) x
  | none => none
def crE (s : St) (d : Option Nat) (x : AV) : Option TyD → Option St
  | some de => crZ s d de x de.zero
  | none => none
def crD (P : Program) (s : St) (d : Option Nat) (x : AV) : Option TyD → Option St
  | some dd => match dd.el, dd.len with
    | some el, none => crE s d x (tyD P el)
    | _, _ => none
  | none => none
theorem hstep_clear (t : TypeId) (x : Operand) : hstep P s (.call ⟨.builtin .clear, #[x], #[t]⟩) d = crD P s d (ev s.T x) (tyD P t) := by
  simp only [hstep, crD]
  cases tyD P t with
  | none => rfl
  | some dd =>
    simp only
    cases dd.el with
    | none => rfl
    | some el =>
      cases dd.len with
      | some _ => rfl
      | none =>
        simp only [crE]
        cases tyD P el with
        | none => rfl
        | some de =>
          simp only [crZ]
          cases hz : de.zero with
          | none => rfl
          | some z =>
            simp only
            generalize ev s.T x = q
            cases q <;> try rfl
            rename_i id ver lo len
            simp only [crX, crB]
            cases liveB s.H id ver with
            | none => rfl
            | some B =>
              simp only
              by_cases h : 0 < de.sz ∧ B.esz = de.sz ∧ (ofAgg z).stor = true ∧ (ofAgg z).cells.length = de.sz
              · rw [if_pos h, if_pos (by simp [h.1, h.2.1, h.2.2.1, h.2.2.2])]
              · rw [if_neg h, if_neg]
                intro h'
                simp only [Bool.and_eq_true, beq_iff_eq, decide_eq_true_eq] at h'
                exact h ⟨h'.1.1.1, h'.1.1.2, h'.1.2, h'.2⟩
theorem crD_sl (x : AV) (ag sz by' z el fl) : crD P s d x (some ⟨ag, sz, by', z, some el, none, fl⟩) = crE s d x (tyD P el) := rfl
theorem crE_some (x : AV) (de : TyD) : crE s d x (some de) = crZ s d de x de.zero := rfl
theorem crZ_some (x : AV) (de : TyD) (z : Value) : crZ s d de x (some z) = crX s d de (ofAgg z) x := rfl
theorem crX_sl (z : AV) (de : TyD) (id ver lo len : Nat) : crX s d de z (.sl id ver lo len) = crB s d de z id lo len (liveB s.H id ver) := rfl
theorem crB_some (T : List AV) (H : List Blk) (c : Nat) (de : TyD) (z : AV) (id lo len : Nat) (B : Blk) (h : (decide (0 < de.sz) && (B.esz == de.sz) && z.stor && (z.cells.length == de.sz)) = true) :
    crB ⟨T, H, c⟩ d de z id lo len (some B) = some (St.put ⟨T, H.set id { B with els := B.els.take lo ++ List.replicate len z ++ B.els.drop (lo + len) }, c⟩ d (.tu [])) := by
  simp only [crB, h, if_true]

/-! ### copy -/
def cpB (s : St) (d : Option Nat) (de : TyD) (ys : List AV) (id lo len : Nat) : Option Blk → Option St
  | some B => if (decide (0 < de.sz) && (B.esz == de.sz) && allSz de.sz ys) = true then
      some (St.put { s with H := s.H.set id { B with els := B.els.take lo ++ ys.take (min ys.length len) ++ B.els.drop (lo + min ys.length len) } } d (.sc (.int .i64 (min ys.length len : Nat)))) else none
  | none => none
def cpX (s : St) (d : Option Nat) (de : TyD) : AV → Option (List AV) → Option St
  | .sl id ver lo len, some ys => cpB s d de ys id lo len (liveB s.H id ver)
  | _, _ => none
def cpE (s : St) (d : Option Nat) (x : AV) (ys : Option (List AV)) : Option TyD → Option St
  | some de => cpX s d de x ys
  | none => none
def cpD (P : Program) (s : St) (d : Option Nat) (x : AV) (ys : Option (List AV)) : Option TyD → Option St
  | some dd => match dd.el, dd.len with
    | some el, none => cpE s d x ys (tyD P el)
    | _, _ => none
  | none => none
theorem hstep_copy (t t' : TypeId) (x y : Operand) : hstep P s (.call ⟨.builtin .copy, #[x, y], #[t, t']⟩) d = cpD P s d (ev s.T x) (elsA s.H (ev s.T y)) (tyD P t) := by
  simp only [hstep, cpD]
  cases tyD P t with
  | none => rfl
  | some dd =>
    simp only
    cases dd.el with
    | none => rfl
    | some el =>
      cases dd.len with
      | some _ => rfl
      | none =>
        simp only [cpE]
        cases tyD P el with
        | none => rfl
        | some de =>
          simp only
          generalize ev s.T x = q
          generalize elsA s.H (ev s.T y) = r
          cases q <;> cases r <;> try rfl
          rename_i id ver lo len ys
          simp only [cpX, cpB]
          cases liveB s.H id ver with
          | none => rfl
          | some B =>
            simp only
            rw [allSz_eq]
            by_cases h : 0 < de.sz ∧ B.esz = de.sz ∧ allSz de.sz ys = true
            · rw [if_pos h, if_pos (by simp [h.1, h.2.1, h.2.2])]
            · rw [if_neg h, if_neg]
              intro h'
              simp only [Bool.and_eq_true, beq_iff_eq, decide_eq_true_eq] at h'
              exact h ⟨h'.1.1, h'.1.2, h'.2⟩
theorem cpD_sl (x : AV) (ys : Option (List AV)) (ag sz by' z el fl) : cpD P s d x ys (some ⟨ag, sz, by', z, some el, none, fl⟩) = cpE s d x ys (tyD P el) := rfl
theorem cpE_some (x : AV) (ys : Option (List AV)) (de : TyD) : cpE s d x ys (some de) = cpX s d de x ys := rfl
theorem cpX_sl (de : TyD) (id ver lo len : Nat) (ys : List AV) : cpX s d de (.sl id ver lo len) (some ys) = cpB s d de ys id lo len (liveB s.H id ver) := rfl
theorem cpB_some (T : List AV) (H : List Blk) (c : Nat) (de : TyD) (ys : List AV) (id lo len : Nat) (B : Blk) (h : (decide (0 < de.sz) && (B.esz == de.sz) && allSz de.sz ys) = true) :
    cpB ⟨T, H, c⟩ d de ys id lo len (some B) = some (St.put ⟨T, H.set id { B with els := B.els.take lo ++ ys.take (min ys.length len) ++ B.els.drop (lo + min ys.length len) }, c⟩ d (.sc (.int .i64 (min ys.length len : Nat)))) := by
  simp only [cpB, h, if_true]

/-! ### alloc, box -/
def alZ (s : St) (d : Option Nat) (t : Nat) (z : AV) : Option St :=
  if z.stor = true then some (St.put { s with H := s.H ++ [⟨true, s.cnt, t, z.cells.length, [z], false⟩], cnt := s.cnt + 1 } d (.pt s.H.length s.cnt 0 0)) else none
def alO (s : St) (d : Option Nat) (t : Nat) : Option Value → Option St
  | some z => alZ s d t (ofAgg z)
  | none => none
def alD (s : St) (d : Option Nat) (t : Nat) : Option TyD → Option St
  | some dd => alO s d t dd.zero
  | none => none
theorem hstep_alloc (t : TypeId) : hstep P s (.alloc t) d = alD s d t (tyD P t) := by
  simp only [hstep, alD, alO, alZ]
  cases tyD P t with
  | none => rfl
  | some dd => simp only; cases dd.zero <;> rfl
theorem alD_some (t : Nat) (dd : TyD) : alD s d t (some dd) = alO s d t dd.zero := rfl
theorem alO_some (t : Nat) (z : Value) : alO s d t (some z) = alZ s d t (ofAgg z) := rfl
theorem alZ_ok (T : List AV) (H : List Blk) (c t : Nat) (z : AV) (h : z.stor = true) : alZ ⟨T, H, c⟩ d t z = some (St.put ⟨T, H ++ [⟨true, c, t, z.cells.length, [z], false⟩], c + 1⟩ d (.pt H.length c 0 0)) := by
  simp only [alZ, h, if_true]
theorem hstep_box (t : TypeId) (x : Operand) : hstep P s (.box t x) d = alZ s d t (ev s.T x) := rfl

/-! ### What is appended -/
theorem elsA_sc (a : Option Addr) (c : Nat) : elsA H (.sc (.slice a 0 c)) = some [] := rfl
theorem elsA_vw (z : Bool) (es : List AV) : elsA H (.vw z es) = if es.all (·.noref) = true then some es else none := rfl
theorem elsA_vwn (z : Bool) (es : List AV) (h : norefs es = true) : elsA H (.vw z es) = some es := by
  have : ∀ l : List AV, norefs l = true → l.all (·.noref) = true := by
    intro l
    induction l with
    | nil => intro _; rfl
    | cons a r ih =>
      intro h
      simp only [norefs, Bool.and_eq_true] at h
      simp [h.1, ih h.2]
  rw [elsA_vw, if_pos (this es h)]
theorem norefs_map {α : Type} {f : α → AV} (h : ∀ x, (f x).noref = true) : ∀ l : List α, norefs (l.map f) = true
  | [] => by simp [norefs]
  | x :: r => by simp [norefs, h x, norefs_map h r]
def elL (lo len : Nat) : Option Blk → Option (List AV)
  | some B => some ((B.els.drop lo).take len)
  | none => none
theorem elsA_sl (id ver lo len : Nat) : elsA H (.sl id ver lo len) = elL lo len (liveB H id ver) := by
  simp only [elsA, elL]; cases liveB H id ver <;> rfl
theorem elL_some (lo len : Nat) (B : Blk) : elL lo len (some B) = some ((B.els.drop lo).take len) := rfl
def ppB (H : List Blk) (id : Nat) : Option Blk → List Blk
  | some B => if B.tmp = true ∧ id + 1 = H.length then H.dropLast else H
  | none => H
theorem popTmp_vw (z : Bool) (es : List AV) : popTmp H (.vw z es) = H := rfl
theorem popTmp_sl (id ver lo len : Nat) : popTmp H (.sl id ver lo len) = ppB H id H[id]? := by
  simp only [popTmp, ppB]
  cases H[id]? <;> rfl
theorem ppB_some (id : Nat) (B : Blk) : ppB H id (some B) = if B.tmp = true ∧ id + 1 = H.length then H.dropLast else H := rfl
def lvB (ver : Nat) : Option Blk → Option Blk
  | some B => if B.live = true ∧ B.ver = ver then some B else none
  | none => none
theorem liveB_eq (id ver : Nat) : liveB H id ver = lvB ver H[id]? := by
  simp only [liveB, lvB]
  cases H[id]? <;> rfl
theorem lvB_mk (ver v ty esz : Nat) (els : List AV) (tmp : Bool) : lvB ver (some ⟨true, v, ty, esz, els, tmp⟩) = if v = ver then some ⟨true, v, ty, esz, els, tmp⟩ else none := by
  simp [lvB]
end
end Go.SX
