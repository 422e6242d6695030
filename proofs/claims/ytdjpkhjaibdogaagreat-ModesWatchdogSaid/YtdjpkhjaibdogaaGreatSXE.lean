/-
  SX, part 14: equations of composite literals.
  Conditions: none.
-/
import Derived.Test.YtdjpkhjaibdogaaGreatSXD
namespace Go.SX
set_option linter.unusedSimpArgs false
set_option linter.unusedVariables false
section
variable {P : Program} {s : St} {H : List Blk}

/-- Where a struct's fields lie. -/
def plc (P : Program) : List (Nat × TypeId) → Option (List (Nat × Nat))
  | [] => some []
  | (o, t) :: r => match tyD P t, plc P r with
    | some d, some l => some ((o, d.sz) :: l)
    | _, _ => none
theorem plc_eq : ∀ l : List (Nat × TypeId), l.mapM (fun f => (tyD P f.2).map fun df => (f.1, df.sz)) = plc P l
  | [] => rfl
  | (o, t) :: r => by
    rw [List.mapM_cons, plc_eq r, plc]
    simp only
    cases tyD P t with
    | none => rfl
    | some d => cases plc P r <;> rfl
theorem plc_nil : plc P [] = some [] := rfl
def plcC (o : Nat) : Option TyD → Option (List (Nat × Nat)) → Option (List (Nat × Nat))
  | some d, some l => some ((o, d.sz) :: l)
  | _, _ => none
theorem plc_cons (o t : Nat) (r : List (Nat × TypeId)) : plc P ((o, t) :: r) = plcC o (tyD P t) (plc P r) := by
  rw [plc, plcC.eq_def]
theorem plcC_some (o : Nat) (d : TyD) (l : List (Nat × Nat)) : plcC o (some d) (some l) = some ((o, d.sz) :: l) := rfl

/-- A literal's parts laid into its zero value. -/
def bdS (zs : List AV) (l : List (Nat × AV)) : Option (List (Nat × Nat)) → Option AV
  | some places => (fillA (fun i => places[i]?) zs l).map AV.ag
  | none => none
def bdE (zs : List AV) (l : List (Nat × AV)) : Option TyD → Option AV
  | some de => (fillA (fun i => some (i * de.sz, de.sz)) zs l).map AV.ag
  | none => none
def bdZ (P : Program) (d : TyD) (l : List (Nat × AV)) : AV → Option AV
  | .ag zs => match d.len, d.el with
    | some _, some el => bdE zs l (tyD P el)
    | none, none => if d.agg = true then bdS zs l (plc P d.flds) else none
    | _, _ => none
  | _ => none
def bdO (P : Program) (d : TyD) (l : List (Nat × AV)) : Option Value → Option AV
  | some z => bdZ P d l (ofAgg z)
  | none => none
def bdA (P : Program) (l : List (Nat × AV)) : Option TyD → Option AV
  | some d => bdO P d l d.zero
  | none => none
theorem rval_build (t : TypeId) (ps : Array (Nat × Operand)) : rval P s (.build t ps) = bdA P (ps.toList.map fun p => (p.1, ev s.T p.2)) (tyD P t) := by
  simp only [rval, bdA, bdO]
  cases tyD P t with
  | none => rfl
  | some d =>
    simp only
    cases d.zero with
    | none => rfl
    | some z =>
      simp only [bdZ]
      generalize ofAgg z = v
      cases v with
      | ag zs =>
        simp only
        rw [plc_eq]
        generalize plc P d.flds = pl
        generalize d.len = a
        generalize d.el = b
        cases a <;> cases b
        · simp only [bdS]
          cases pl with
          | none => rfl
          | some places =>
            simp only
            cases fillA (fun i => places[i]?) zs (List.map (fun p => (p.1, ev s.T p.2)) ps.toList) <;> rfl
        · rfl
        · rfl
        · rename_i n el
          simp only [bdE]
          cases tyD P el with
          | none => rfl
          | some de =>
            simp only
            cases fillA (fun i => some (i * de.sz, de.sz)) zs (List.map (fun p => (p.1, ev s.T p.2)) ps.toList) <;> rfl
      | _ => rfl
theorem bdA_some (l : List (Nat × AV)) (ag sz by' z el len fl) : bdA P l (some ⟨ag, sz, by', some z, el, len, fl⟩) = bdZ P ⟨ag, sz, by', some z, el, len, fl⟩ l (ofAgg z) := rfl
theorem bdZ_st (l : List (Nat × AV)) (zs : List AV) (sz by' z fl) : bdZ P ⟨true, sz, by', z, none, none, fl⟩ l (.ag zs) = bdS zs l (plc P fl) := rfl
theorem bdZ_ar (l : List (Nat × AV)) (zs : List AV) (ag sz by' z el m fl) : bdZ P ⟨ag, sz, by', z, some el, some m, fl⟩ l (.ag zs) = bdE zs l (tyD P el) := rfl
theorem bdS_some (zs : List AV) (l : List (Nat × AV)) (pl : List (Nat × Nat)) : bdS zs l (some pl) = (fillA (fun i => pl[i]?) zs l).map AV.ag := rfl
theorem bdE_some (zs : List AV) (l : List (Nat × AV)) (de : TyD) : bdE zs l (some de) = (fillA (fun i => some (i * de.sz, de.sz)) zs l).map AV.ag := rfl
theorem fillA_nil (pl : Nat → Option (Nat × Nat)) (cs : List AV) : fillA pl cs [] = some cs := rfl
def fillB (pl : Nat → Option (Nat × Nat)) (cs : List AV) (v : AV) (r : List (Nat × AV)) : Option (Nat × Nat) → Option (List AV)
  | some p => if v.stor = true ∧ v.cells.length = p.2 ∧ p.1 + p.2 ≤ cs.length then fillA pl (setAll cs p.1 v.cells) r else none
  | none => none
theorem fillA_cons (pl : Nat → Option (Nat × Nat)) (cs : List AV) (i : Nat) (v : AV) (r : List (Nat × AV)) : fillA pl cs ((i, v) :: r) = fillB pl cs v r (pl i) := by
  rw [fillA, fillB.eq_def]
  cases pl i <;> rfl
theorem fillB_some (pl : Nat → Option (Nat × Nat)) (cs : List AV) (v : AV) (r : List (Nat × AV)) (o n : Nat) : fillB pl cs v r (some (o, n)) =
    if v.stor = true ∧ v.cells.length = n ∧ o + n ≤ cs.length then fillA pl (setAll cs o v.cells) r else none := rfl
theorem setAll_nil {α : Type} (cs : List α) (o : Nat) : setAll cs o [] = cs := rfl
theorem setAll_cons {α : Type} (cs : List α) (o : Nat) (v : α) (r : List α) : setAll cs o (v :: r) = setAll (cs.set o v) (o + 1) r := rfl
theorem setC_ag (cs : List AV) (off : Nat) (vs : List AV) : AV.setC (.ag cs) off vs = if off + vs.length ≤ cs.length then some (.ag (setAll cs off vs)) else none := rfl
theorem setC_sc (v : Value) (x : AV) : AV.setC (.sc v) 0 [x] = some x := rfl
theorem setC_un (x : AV) : AV.setC .un 0 [x] = some x := rfl
theorem setC_vw (z : Bool) (es : List AV) (x : AV) : AV.setC (.vw z es) 0 [x] = some x := rfl
theorem setC_sl (a b c d : Nat) (x : AV) : AV.setC (.sl a b c d) 0 [x] = some x := rfl
theorem setC_pt (a b c d : Nat) (x : AV) : AV.setC (.pt a b c d) 0 [x] = some x := rfl
theorem setC_fn (f : Nat) (cs : List AV) (x : AV) : AV.setC (.fn f cs) 0 [x] = some x := rfl
theorem fillE_nil (sz : Nat) (es : List AV) : fillE sz es [] = some es := rfl
theorem fillE_cons (sz : Nat) (es : List AV) (i : Nat) (v : AV) (r : List (Nat × AV)) : fillE sz es ((i, v) :: r) =
    if v.stor = true ∧ v.cells.length = sz ∧ i < es.length then fillE sz (es.set i v) r else none := rfl

/-- Equality of two bools, by their type. -/
def eqB (c : Bool) : Option TypeDesc → Option AV
  | some .bool => some (.sc (.bool c))
  | _ => none
theorem rd_equalB (t : TypeId) (a b : Bool) : rd P (Op.equal t (.bool a) (.bool b)) default = match P.underlying t with | some .bool => some (a == b) | _ => none := by
  unfold Op.equal Op.maxDepth
  rw [show (10000 : Nat) = 9999 + 1 from rfl, Op.equalIn]
  rw [rd_bind, rd_underlying]
  cases P.underlying t with
  | none => rfl
  | some d => cases d <;> rfl
theorem bin_eqlB (t : TypeId) (x y : Operand) (a b : Bool) : binA P .eql t x y (.sc (.bool a)) (.sc (.bool b)) = eqB (a == b) (P.underlying t) := by
  have h0 : rd P (eqGuard .eql t x y (.bool a) (.bool b)) default = some () := rfl
  have : spure P (do eqGuard .eql t x y (.bool a) (.bool b); binOp .eql t (.bool a) (.bool b)) = match P.underlying t with | some .bool => some (.bool (a == b)) | _ => none := by
    unfold spure
    rw [rd_bind, h0]
    simp only [Option.bind_some, binOp]
    rw [rd_bind, rd_equalB]
    cases P.underlying t with
    | none => rfl
    | some d => cases d <;> rfl
  simp only [binA, conc, this]
  cases P.underlying t with
  | none => rfl
  | some d => cases d <;> rfl
theorem bin_neqB (t : TypeId) (x y : Operand) (a b : Bool) : binA P .neq t x y (.sc (.bool a)) (.sc (.bool b)) = eqB (a != b) (P.underlying t) := by
  have h0 : rd P (eqGuard .neq t x y (.bool a) (.bool b)) default = some () := rfl
  have : spure P (do eqGuard .neq t x y (.bool a) (.bool b); binOp .neq t (.bool a) (.bool b)) = match P.underlying t with | some .bool => some (.bool (a != b)) | _ => none := by
    unfold spure
    rw [rd_bind, h0]
    simp only [Option.bind_some, binOp]
    rw [rd_bind, rd_equalB]
    cases P.underlying t with
    | none => rfl
    | some d => cases d <;> rfl
  simp only [binA, conc, this]
  cases P.underlying t with
  | none => rfl
  | some d => cases d <;> rfl
theorem eqB_bool (c : Bool) : eqB c (some .bool) = some (.sc (.bool c)) := rfl
end
end Go.SX
