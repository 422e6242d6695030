/-
  Lemmas towards ModesBegins (joined texts: SXD, SXE, SXK, SXH, SXJ, SXM, SXN, SXO).
  Conditions: none.
-/
import Derived.Test.YtdjpkhjaibdogaaGreatL08
namespace Go.SX
set_option linter.unusedSimpArgs false
set_option linter.unusedVariables false
section
variable {P : Program} {s : St} {H : List Blk}
def allSz (sz : Nat) : List AV → Bool
  | [] => true
  | e :: r => decide (e.cells.length = sz) && allSz sz r
theorem allSz_nil (sz : Nat) : allSz sz [] = true := rfl
theorem allSz_cons (sz : Nat) (e : AV) (r : List AV) : allSz sz (e :: r) = (decide (e.cells.length = sz) && allSz sz r) := rfl
theorem allSz_spec {sz : Nat} : ∀ {es : List AV}, allSz sz es = true → ∀ e ∈ es, e.cells.length = sz
  | [], _, e, h => by cases h
  | a :: r, h, e, he => by
    simp only [allSz, Bool.and_eq_true, decide_eq_true_eq] at h
    rcases List.mem_cons.1 he with rfl | he
    · exact h.1
    · exact allSz_spec h.2 e he
def ixE (H : List Blk) (m : Option Nat) (x i : AV) : Option TyD → Option AV
  | some de => match m, x, i with
    | none, .vw _ es, .sc (.int _ n) => match (if 0 ≤ n then es[n.toNat]? else none) with
      | some e => if e.cells.length = de.sz then some (.vp es n.toNat 0) else none
      | none => none
    | none, .sl id ver lo len, .sc (.int _ n) => match liveB H id ver with
      | some B => if 0 ≤ n ∧ n < (len : Int) ∧ B.esz = de.sz then some (.pt id ver (lo + n.toNat) 0) else none
      | none => none
    | some m, .pt id ver k o, .sc (.int _ n) => match liveB H id ver with
      | some _ => if 0 ≤ n ∧ n < (m : Int) then some (.pt id ver k (o + n.toNat * de.sz)) else none
      | none => none
    | some m, .vp es k o, .sc (.int _ n) => if 0 ≤ n ∧ n < (m : Int) then some (.vp es k (o + n.toNat * de.sz)) else none
    | _, _, _ => none
  | none => none
def ixD (P : Program) (H : List Blk) (x i : AV) : Option TyD → Option AV
  | some d => match d.el with
    | some el => ixE H d.len x i (tyD P el)
    | none => none
  | none => none
theorem rval_indexAddr (t : TypeId) (x i : Operand) : rval P s (.indexAddr t x i) = ixD P s.H (ev s.T x) (ev s.T i) (tyD P t) := by
  simp only [rval, ixD, ixE]
  cases tyD P t with
  | none => rfl
  | some d =>
    cases d.el with
    | none => rfl
    | some el =>
      simp only
      cases tyD P el with
      | none => rfl
      | some de => rfl
theorem ixD_some (x i : AV) (ag sz by' z el len fl) : ixD P H x i (some ⟨ag, sz, by', z, some el, len, fl⟩) = ixE H len x i (tyD P el) := rfl
theorem ixE_vw {z : Bool} {es : List AV} {k : IntKind} {n : Int} {de : TyD} (h0 : decide (0 ≤ n) = true) (h1 : decide (n < (es.length : Int)) = true) (h2 : allSz de.sz es = true) :
    ixE H none (.vw z es) (.sc (.int k n)) (some de) = some (.vp es n.toNat 0) := by
  simp only [decide_eq_true_eq] at h0 h1
  have hl : n.toNat < es.length := by omega
  have := allSz_spec h2 es[n.toNat] (List.getElem_mem hl)
  simp [ixE, h0, hl, this]
def lenN : Option Nat → Option AV
  | some n => some (.sc (.int .i64 n))
  | none => none
def lenD (P : Program) (t : TypeId) (H : List Blk) (x : AV) : Option TyD → Option AV
  | some d => match d.el, d.len with
    | some _, none => lenN (lenA H x)
    | some _, some m => some (.sc (.int .i64 m))
    | none, none => match conc x with
      | some a => match spure P (Builtin.len_ #[t] 0 #[a]) with
        | some v => some (ofV v)
        | none => none
      | none => none
    | _, _ => none
  | none => none
theorem rval_len (t : TypeId) (x : Operand) : rval P s (.call ⟨.builtin .len, #[x], #[t]⟩) = lenD P t s.H (ev s.T x) (tyD P t) := by
  simp only [rval, lenD]
  cases tyD P t with
  | none => rfl
  | some d =>
    cases d.el <;> cases d.len <;> rfl
theorem lenD_sl (t : TypeId) (x : AV) (ag sz by' z el fl) : lenD P t H x (some ⟨ag, sz, by', z, some el, none, fl⟩) = lenN (lenA H x) := rfl
theorem lenA_vw (z : Bool) (es : List AV) : lenA H (.vw z es) = some es.length := rfl
theorem lenN_some (n : Nat) : lenN (some n) = some (.sc (.int .i64 n)) := rfl
end
end Go.SX

namespace Go.SX
set_option linter.unusedSimpArgs false
set_option linter.unusedVariables false
section
variable {P : Program} {s : St} {H : List Blk}
def plc (P : Program) : List (Nat × TypeId) → Option (List (Nat × Nat))
  | [] => some []
  | (o, t) :: r => match tyD P t, plc P r with
    | some d, some l => some ((o, d.sz) :: l)
    | _, _ => none
theorem plc_eq : ∀ l : List (Nat × TypeId), l.mapM (fun f => (tyD P f.2).map fun df => (f.1, df.sz)) = plc P l
  | [] => rfl
  | (o, t) :: r => by
    rw [List.mapM_cons, plc_eq r, plc]
    simp only
    cases tyD P t with
    | none => rfl
    | some d => cases plc P r <;> rfl
theorem plc_nil : plc P [] = some [] := rfl
def plcC (o : Nat) : Option TyD → Option (List (Nat × Nat)) → Option (List (Nat × Nat))
  | some d, some l => some ((o, d.sz) :: l)
  | _, _ => none
theorem plc_cons (o t : Nat) (r : List (Nat × TypeId)) : plc P ((o, t) :: r) = plcC o (tyD P t) (plc P r) := by
  rw [plc, plcC.eq_def]
theorem plcC_some (o : Nat) (d : TyD) (l : List (Nat × Nat)) : plcC o (some d) (some l) = some ((o, d.sz) :: l) := rfl
def bdS (zs : List AV) (l : List (Nat × AV)) : Option (List (Nat × Nat)) → Option AV
  | some places => (fillA (fun i => places[i]?) zs l).map AV.ag
  | none => none
def bdE (zs : List AV) (l : List (Nat × AV)) : Option TyD → Option AV
  | some de => (fillA (fun i => some (i * de.sz, de.sz)) zs l).map AV.ag
  | none => none
def bdZ (P : Program) (d : TyD) (l : List (Nat × AV)) : AV → Option AV
  | .ag zs => match d.len, d.el with
    | some _, some el => bdE zs l (tyD P el)
    | none, none => if d.agg = true then bdS zs l (plc P d.flds) else none
    | _, _ => none
  | _ => none
def bdO (P : Program) (d : TyD) (l : List (Nat × AV)) : Option Value → Option AV
  | some z => bdZ P d l (ofAgg z)
  | none => none
def bdA (P : Program) (l : List (Nat × AV)) : Option TyD → Option AV
  | some d => bdO P d l d.zero
  | none => none
theorem rval_build (t : TypeId) (ps : Array (Nat × Operand)) : rval P s (.build t ps) = bdA P (ps.toList.map fun p => (p.1, ev s.T p.2)) (tyD P t) := by
  simp only [rval, bdA, bdO]
  cases tyD P t with
  | none => rfl
  | some d =>
    simp only
    cases d.zero with
    | none => rfl
    | some z =>
      simp only [bdZ]
      generalize ofAgg z = v
      cases v with
      | ag zs =>
        simp only
        rw [plc_eq]
        generalize plc P d.flds = pl
        generalize d.len = a
        generalize d.el = b
        cases a <;> cases b
        · simp only [bdS]
          cases pl with
          | none => rfl
          | some places =>
            simp only
            cases fillA (fun i => places[i]?) zs (List.map (fun p => (p.1, ev s.T p.2)) ps.toList) <;> rfl
        · rfl
        · rfl
        · rename_i n el
          simp only [bdE]
          cases tyD P el with
          | none => rfl
          | some de =>
            simp only
            cases fillA (fun i => some (i * de.sz, de.sz)) zs (List.map (fun p => (p.1, ev s.T p.2)) ps.toList) <;> rfl
      | _ => rfl
theorem bdA_some (l : List (Nat × AV)) (ag sz by' z el len fl) : bdA P l (some ⟨ag, sz, by', some z, el, len, fl⟩) = bdZ P ⟨ag, sz, by', some z, el, len, fl⟩ l (ofAgg z) := rfl
theorem bdZ_st (l : List (Nat × AV)) (zs : List AV) (sz by' z fl) : bdZ P ⟨true, sz, by', z, none, none, fl⟩ l (.ag zs) = bdS zs l (plc P fl) := rfl
theorem bdS_some (zs : List AV) (l : List (Nat × AV)) (pl : List (Nat × Nat)) : bdS zs l (some pl) = (fillA (fun i => pl[i]?) zs l).map AV.ag := rfl
theorem fillA_nil (pl : Nat → Option (Nat × Nat)) (cs : List AV) : fillA pl cs [] = some cs := rfl
def fillB (pl : Nat → Option (Nat × Nat)) (cs : List AV) (v : AV) (r : List (Nat × AV)) : Option (Nat × Nat) → Option (List AV)
  | some p => if v.stor = true ∧ v.cells.length = p.2 ∧ p.1 + p.2 ≤ cs.length then fillA pl (setAll cs p.1 v.cells) r else none
  | none => none
theorem fillA_cons (pl : Nat → Option (Nat × Nat)) (cs : List AV) (i : Nat) (v : AV) (r : List (Nat × AV)) : fillA pl cs ((i, v) :: r) = fillB pl cs v r (pl i) := by
  rw [fillA, fillB.eq_def]
  cases pl i <;> rfl
theorem fillB_some (pl : Nat → Option (Nat × Nat)) (cs : List AV) (v : AV) (r : List (Nat × AV)) (o n : Nat) : fillB pl cs v r (some (o, n)) =
    if v.stor = true ∧ v.cells.length = n ∧ o + n ≤ cs.length then fillA pl (setAll cs o v.cells) r else none := rfl
theorem setAll_nil {α : Type} (cs : List α) (o : Nat) : setAll cs o [] = cs := rfl
theorem setAll_cons {α : Type} (cs : List α) (o : Nat) (v : α) (r : List α) : setAll cs o (v :: r) = setAll (cs.set o v) (o + 1) r := rfl
theorem setC_ag (cs : List AV) (off : Nat) (vs : List AV) : AV.setC (.ag cs) off vs = if off + vs.length ≤ cs.length then some (.ag (setAll cs off vs)) else none := rfl
theorem fillE_nil (sz : Nat) (es : List AV) : fillE sz es [] = some es := rfl
theorem fillE_cons (sz : Nat) (es : List AV) (i : Nat) (v : AV) (r : List (Nat × AV)) : fillE sz es ((i, v) :: r) =
    if v.stor = true ∧ v.cells.length = sz ∧ i < es.length then fillE sz (es.set i v) r else none := rfl
end
end Go.SX

namespace Go.SX
set_option linter.unusedSimpArgs false
set_option linter.unusedVariables false
inductive Kd where
  | b
  | i (k : IntKind)
  | s
  deriving DecidableEq
def okK : Kd → Value → Bool
  | .b, .bool _ => true
  | .i k, .int k' _ => decide (k = k')
  | .s, .string _ => true
  | _, _ => false
def okKs : List Kd → List Value → Bool
  | [], [] => true
  | k :: ks, v :: vs => okK k v && okKs ks vs
  | _, _ => false
theorem okKs_len : ∀ {ks : List Kd} {vs : List Value}, okKs ks vs = true → vs.length = ks.length
  | [], [], _ => rfl
  | k :: ks, v :: vs, h => by
    simp only [okKs, Bool.and_eq_true] at h
    simp [okKs_len h.2]
  | [], _ :: _, h => by simp [okKs] at h
  | _ :: _, [], h => by simp [okKs] at h
theorem okKs_one {k : Kd} {xs : List Value} (h : okKs [k] xs = true) : ∃ v, xs = [v] ∧ okK k v = true := by
  match xs, h with
  | [v], h => exact ⟨v, rfl, by simpa [okKs] using h⟩
  | [], h => simp [okKs] at h
  | _ :: _ :: _, h => simp [okKs] at h
theorem okKs_append : ∀ {ks ks' : List Kd} {vs : List Value}, okKs (ks ++ ks') vs = true → okKs ks (vs.take ks.length) = true ∧ okKs ks' (vs.drop ks.length) = true
  | [], ks', vs, h => by simpa [okKs] using h
  | k :: ks, ks', [], h => by simp [okKs] at h
  | k :: ks, ks', v :: vs, h => by
    simp only [List.cons_append, okKs, Bool.and_eq_true] at h
    obtain ⟨h1, h2⟩ := okKs_append h.2
    simp only [List.length_cons, List.take_succ_cons, List.drop_succ_cons, okKs, Bool.and_eq_true]
    exact ⟨⟨h.1, h1⟩, h2⟩
def eqK : Kd → Value → Value → Bool
  | .b, .bool a, .bool b => a == b
  | .i _, .int _ a, .int _ b => a == b
  | .s, .string a, .string b => a == b
  | _, _, _ => false
def eqKs : List Kd → List Value → List Value → Bool
  | k :: ks, x :: xs, y :: ys => eqK k x y && eqKs ks xs ys
  | _, _, _ => true
theorem eqKs_append : ∀ (ks ks' : List Kd) (xs ys : List Value), ks.length ≤ xs.length → ks.length ≤ ys.length →
    eqKs (ks ++ ks') xs ys = (eqKs ks (xs.take ks.length) (ys.take ks.length) && eqKs ks' (xs.drop ks.length) (ys.drop ks.length))
  | [], ks', xs, ys, _, _ => by simp [eqKs]
  | k :: ks, ks', [], _, h, _ => by simp at h
  | k :: ks, ks', _ :: _, [], _, h => by simp at h
  | k :: ks, ks', x :: xs, y :: ys, h, h' => by
    simp only [List.length_cons] at h h'
    simp only [List.cons_append, eqKs, List.length_cons, List.take_succ_cons, List.drop_succ_cons, eqKs_append ks ks' xs ys (by omega) (by omega), Bool.and_assoc]
def flatFs (P : Program) (F : TypeId → Option (List Kd)) : Nat → List Field → Option (List Kd)
  | _, [] => some []
  | off, f :: r => if f.name ≠ "_" ∧ f.offset = off then
      match F f.type with
      | some ks => if (P.info? f.type).map (·.size) = some ks.length ∧ 0 < ks.length then (flatFs P F (off + ks.length) r).map (ks ++ ·) else none
      | none => none
    else none
def flatK (P : Program) : Nat → TypeId → Option (List Kd)
  | 0, _ => none
  | d + 1, t => match P.underlying t with
    | some .bool => some [.b]
    | some (.int k) => some [.i k]
    | some .string => some [.s]
    | some (.array n e) => match flatK P d e with
      | some ks => if (P.info? e).map (·.size) = some ks.length ∧ 0 < ks.length then some (List.replicate n ks).flatten else none
      | none => none
    | some (.struct fs) => if P.stoodInHeld t = false then flatFs P (flatK P d) 0 fs.toList else none
    | _ => none
def mkV (P : Program) (t : TypeId) (vs : List Value) : Value :=
  match P.underlying t with
  | some (.struct _) | some (.array _ _) => .agg vs.toArray
  | _ => vs.headD undef
section
variable {P : Program} {w : World}
theorem rd_isAggK (t : TypeId) : rd P (isAgg t) w = (P.underlying t).map fun d => match d with | .struct _ | .array _ _ => true | _ => false := by
  unfold isAgg
  rw [rd_bind, rd_underlying]
  cases P.underlying t with
  | none => rfl
  | some d => cases d <;> rfl
theorem rd_partK {d : Nat} {t : TypeId} {ks : List Kd} (hk : flatK P d t = some ks) (hs : (P.info? t).map (·.size) = some ks.length) {cs : List Value} {off : Nat} (h : off + ks.length ≤ cs.length) :
    rd P (part t cs.toArray off) w = some (mkV P t ((cs.drop off).take ks.length)) := by
  unfold part
  rw [rd_bind, rd_isAggK]
  cases d with
  | zero => simp [flatK] at hk
  | succ d =>
    have one : ks.length = 1 → rd P (match cs.toArray[off]? with | some v => (pure v : Sem Value) | none => stuck "part: no such cell") w = some (((cs.drop off).take ks.length).headD undef) := by
      intro h1
      have hlt : off < cs.length := by omega
      rw [h1, List.drop_eq_getElem_cons hlt]
      simp only [List.getElem?_toArray, List.getElem?_eq_getElem hlt, rd_pure, List.take_succ_cons, List.headD_cons]
    have agg : rd P (do pure (.agg (cs.toArray.extract off (off + (← sizeOf t)))) : Sem Value) w = some (.agg ((cs.drop off).take ks.length).toArray) := by
      rw [rd_bind, rd_sizeOf, hs]
      simp only [Option.bind_some, rd_pure]
      congr 2
      simp [List.extract]
    cases hu : P.underlying t with
    | none => simp [flatK, hu] at hk
    | some q =>
      unfold flatK at hk
      rw [hu] at hk
      unfold mkV
      rw [hu]
      cases q <;> simp only [Option.map_some, Option.bind_some, reduceCtorEq] at hk ⊢
      case bool => cases hk; exact one rfl
      case int => cases hk; exact one rfl
      case string => cases hk; exact one rfl
      case array => exact agg
      case struct => exact agg
theorem rd_eqFields {d D : Nat} (ih : ∀ (t : TypeId) (ks : List Kd), flatK P D t = some ks → ∀ xs ys, okKs ks xs = true → okKs ks ys = true → rd P (Op.equalIn (d + D) t (mkV P t xs) (mkV P t ys)) w = some (eqKs ks xs ys))
    (cs ds : List Value) {body : Field → Option Bool × Unit → Sem (ForInStep (Option Bool × Unit))} {post : Option Bool × Unit → Sem Bool} (hp1 : post (none, ()) = pure true) (hp2 : post (some false, ()) = pure false)
    (hb : ∀ (f : Field) s, f.name ≠ "_" → body f s = do
          let a ← part f.type cs.toArray f.offset
          let b ← part f.type ds.toArray f.offset
          let e ← Op.equalIn (d + D) f.type a b
          if (!e) = true then pure (ForInStep.done (some false, ())) else pure (ForInStep.yield (none, ()))) : ∀ (fs : List Field) (off : Nat) (ks : List Kd), flatFs P (flatK P D) off fs = some ks → okKs ks (cs.drop off) = true → okKs ks (ds.drop off) = true →
    rd P (forIn fs (none, ()) body >>= post) w = some (eqKs ks (cs.drop off) (ds.drop off))
  | [], off, ks, h, h1, h2 => by
    simp only [flatFs, Option.some.injEq] at h
    subst h
    rw [List.forIn_nil, rd_bind, rd_pure, Option.bind_some, hp1]
    rfl
  | f :: fs, off, ks, h, h1, h2 => by
    simp only [flatFs] at h
    split at h
    rotate_left
    · cases h
    rename_i hf
    obtain ⟨hf1, rfl⟩ := hf
    split at h
    rotate_left
    · cases h
    rename_i k1 hk1
    split at h
    rotate_left
    · cases h
    rename_i hs
    simp only [Option.map_eq_some_iff] at h
    obtain ⟨k2, hk2, rfl⟩ := h
    have l1 := okKs_len h1
    have l2 := okKs_len h2
    simp only [List.length_append, List.length_drop] at l1 l2
    obtain ⟨a1, a2⟩ := okKs_append h1
    obtain ⟨b1, b2⟩ := okKs_append h2
    obtain ⟨hs, hpos⟩ := hs
    rw [eqKs_append k1 k2 _ _ (by simp; omega) (by simp; omega)]
    rw [List.drop_drop] at a2 b2
    have p1 := rd_partK (w := w) hk1 hs (cs := cs) (off := f.offset) (by omega)
    have p2 := rd_partK (w := w) hk1 hs (cs := ds) (off := f.offset) (by omega)
    have p3 := ih f.type k1 hk1 _ _ a1 b1
    have hrec := rd_eqFields ih cs ds hp1 hp2 hb fs (f.offset + k1.length) k2 hk2 a2 b2
    rw [rd_bind] at hrec
    rw [rd_bind, List.forIn_cons, rd_bind, hb f _ hf1]
    simp only [rd_bind, p1, p2, p3, Option.bind_some]
    rw [List.drop_drop, List.drop_drop]
    cases he : eqKs k1 (List.take k1.length (List.drop f.offset cs)) (List.take k1.length (List.drop f.offset ds)) with
    | true =>
      simp only [Bool.not_true, Bool.false_eq_true, if_false, rd_pure, Option.bind_some, Bool.true_and]
      exact hrec
    | false =>
      simp only [Bool.not_false, if_true, rd_pure, Option.bind_some, Bool.false_and, hp2]
theorem rd_eqItems {d D : Nat} {e : TypeId} {ks : List Kd} (hk : flatK P D e = some ks) (hs : (P.info? e).map (·.size) = some ks.length) (hpos : 0 < ks.length)
    (ih : ∀ xs ys, okKs ks xs = true → okKs ks ys = true → rd P (Op.equalIn (d + D) e (mkV P e xs) (mkV P e ys)) w = some (eqKs ks xs ys))
    (cs ds : List Value) {body : Nat → Option Bool × Unit → Sem (ForInStep (Option Bool × Unit))} {post : Option Bool × Unit → Sem Bool} (hp1 : post (none, ()) = pure true) (hp2 : post (some false, ()) = pure false)
    (hb : ∀ (i : Nat) s, body i s = do
          let a ← part e cs.toArray (i * ks.length)
          let b ← part e ds.toArray (i * ks.length)
          let e ← Op.equalIn (d + D) e a b
          if (!e) = true then pure (ForInStep.done (some false, ())) else pure (ForInStep.yield (none, ()))) : ∀ (n i : Nat), okKs (List.replicate n ks).flatten (cs.drop (i * ks.length)) = true → okKs (List.replicate n ks).flatten (ds.drop (i * ks.length)) = true →
    rd P (forIn (List.range' i n) (none, ()) body >>= post) w = some (eqKs (List.replicate n ks).flatten (cs.drop (i * ks.length)) (ds.drop (i * ks.length)))
  | 0, i, h1, h2 => by
    rw [List.range'_zero, List.forIn_nil, rd_bind, rd_pure, Option.bind_some, hp1]
    rfl
  | n + 1, i, h1, h2 => by
    rw [List.replicate_succ, List.flatten_cons] at h1 h2 ⊢
    have l1 := okKs_len h1
    have l2 := okKs_len h2
    simp only [List.length_append, List.length_drop] at l1 l2
    obtain ⟨a1, a2⟩ := okKs_append h1
    obtain ⟨b1, b2⟩ := okKs_append h2
    rw [eqKs_append ks _ _ _ (by simp; omega) (by simp; omega)]
    rw [List.drop_drop] at a2 b2
    have em : i * ks.length + ks.length = (i + 1) * ks.length := by rw [Nat.add_mul, Nat.one_mul]
    rw [em] at a2 b2
    have p1 := rd_partK (w := w) hk hs (cs := cs) (off := i * ks.length) (by omega)
    have p2 := rd_partK (w := w) hk hs (cs := ds) (off := i * ks.length) (by omega)
    have p3 := ih _ _ a1 b1
    have hrec := rd_eqItems hk hs hpos ih cs ds hp1 hp2 hb n (i + 1) a2 b2
    rw [rd_bind] at hrec
    rw [rd_bind, List.range'_succ, List.forIn_cons, rd_bind, hb]
    simp only [rd_bind, p1, p2, p3, Option.bind_some]
    rw [List.drop_drop, List.drop_drop, em]
    cases he : eqKs ks (List.take ks.length (List.drop (i * ks.length) cs)) (List.take ks.length (List.drop (i * ks.length) ds)) with
    | true =>
      simp only [Bool.not_true, Bool.false_eq_true, if_false, rd_pure, Option.bind_some, Bool.true_and]
      exact hrec
    | false =>
      simp only [Bool.not_false, if_true, rd_pure, Option.bind_some, Bool.false_and, hp2]
theorem rd_equalIn (d : Nat) : ∀ (D : Nat) (t : TypeId) (ks : List Kd), flatK P D t = some ks → ∀ xs ys, okKs ks xs = true → okKs ks ys = true → rd P (Op.equalIn (d + D) t (mkV P t xs) (mkV P t ys)) w = some (eqKs ks xs ys)
  | 0, t, ks, h, _, _, _, _ => by simp [flatK] at h
  | D + 1, t, ks, h, xs, ys, hx, hy => by
    have ih := rd_equalIn d D
    have hd : d + (D + 1) = (d + D) + 1 := by omega
    unfold flatK at h
    rw [hd]
    unfold mkV
    unfold Op.equalIn
    rw [rd_bind, rd_underlying]
    cases hu : P.underlying t with
    | none => rw [hu] at h; cases h
    | some q =>
      rw [hu] at h
      cases q <;> simp only [reduceCtorEq] at h
      case bool =>
        cases h
        obtain ⟨a, rfl, ha⟩ := okKs_one hx
        obtain ⟨b, rfl, hb⟩ := okKs_one hy
        cases a <;> simp only [okK, Bool.false_eq_true] at ha
        cases b <;> simp only [okK, Bool.false_eq_true] at hb
        simp [rd_pure, eqKs, eqK]
      case int k =>
        cases h
        obtain ⟨a, rfl, ha⟩ := okKs_one hx
        obtain ⟨b, rfl, hb⟩ := okKs_one hy
        cases a <;> simp only [okK, Bool.false_eq_true, decide_eq_true_eq] at ha
        cases b <;> simp only [okK, Bool.false_eq_true, decide_eq_true_eq] at hb
        subst ha; subst hb
        simp [rd_pure, eqKs, eqK]
      case string =>
        cases h
        obtain ⟨a, rfl, ha⟩ := okKs_one hx
        obtain ⟨b, rfl, hb⟩ := okKs_one hy
        cases a <;> simp only [okK, Bool.false_eq_true] at ha
        cases b <;> simp only [okK, Bool.false_eq_true] at hb
        simp [rd_pure, eqKs, eqK]
      case array n e =>
        split at h
        rotate_left
        · cases h
        rename_i k1 hk1
        split at h
        rotate_left
        · cases h
        rename_i hs
        cases h
        simp only [Option.bind_some]
        rw [rd_bind, rd_sizeOf, hs.1]
        simp only [Option.bind_some, Std.Legacy.Range.forIn_eq_forIn_range', Std.Legacy.Range.size, Nat.sub_zero, Nat.add_sub_cancel, Nat.div_one]
        refine (rd_eqItems (w := w) (d := d) hk1 hs.1 hs.2 (ih e k1 hk1) xs ys rfl rfl (fun i s => rfl) n 0 (by simpa using hx) (by simpa using hy)).trans ?_
        simp
      case struct fs =>
        split at h
        rotate_left
        · cases h
        rename_i hs
        simp only [Option.bind_some]
        rw [rd_bind, rd_program]
        simp only [Option.bind_some, hs, Bool.false_eq_true, if_false]
        rw [← Array.forIn_toList]
        refine (rd_eqFields (w := w) (d := d) ih xs ys rfl rfl (fun f s hf => ?_) fs.toList 0 ks h (by simpa using hx) (by simpa using hy)).trans ?_
        · simp only [hf, ne_eq, not_false_eq_true, if_true]
        · simp
end
def flK (P : Program) (t : TypeId) : Option (List Kd) :=
  match P.underlying t with
  | some (.struct _) | some (.array _ _) => if P.eqGuardType P.depth t = false then flatK P 10 t else none
  | _ => none
def eqM (b : Bool) : Option Bool → Option Bool
  | some r => some (b && r)
  | none => none
def eqC : List Kd → List AV → List AV → Option Bool
  | [], [], [] => some true
  | .b :: ks, .sc (.bool a) :: cs, .sc (.bool b) :: ds => eqM (a == b) (eqC ks cs ds)
  | .i k :: ks, .sc (.int k1 a) :: cs, .sc (.int k2 b) :: ds => if k = k1 ∧ k = k2 then eqM (a == b) (eqC ks cs ds) else none
  | .s :: ks, .sc (.string a) :: cs, .sc (.string b) :: ds => eqM (a == b) (eqC ks cs ds)
  | _, _, _ => none
def eqA (cs ds : List AV) : Option (List Kd) → Option Bool
  | some ks => eqC ks cs ds
  | none => none
theorem eqC_ok : ∀ (ks : List Kd) (cs ds : List AV) (r : Bool), eqC ks cs ds = some r → ∃ xs ys, concs cs = some xs ∧ concs ds = some ys ∧ okKs ks xs = true ∧ okKs ks ys = true ∧ eqKs ks xs ys = r
  | [], [], [], r, h => by simp only [eqC, Option.some.injEq] at h; exact ⟨[], [], rfl, rfl, rfl, rfl, h⟩
  | k :: ks, c :: cs, e :: ds, r, h => by
    have step : ∀ (b : Bool) (u v : Value), eqM b (eqC ks cs ds) = some r → c = .sc u → e = .sc v → okK k u = true → okK k v = true → eqK k u v = b →
        ∃ xs ys, concs (c :: cs) = some xs ∧ concs (e :: ds) = some ys ∧ okKs (k :: ks) xs = true ∧ okKs (k :: ks) ys = true ∧ eqKs (k :: ks) xs ys = r := by
      intro b u v h hc he hu hv hb
      cases hr : eqC ks cs ds with
      | none => rw [hr] at h; simp [eqM] at h
      | some r' =>
        rw [hr] at h
        simp only [eqM, Option.some.injEq] at h
        obtain ⟨xs, ys, h1, h2, h3, h4, h5⟩ := eqC_ok ks cs ds r' hr
        exact ⟨u :: xs, v :: ys, by rw [hc]; simp [concs, conc, h1], by rw [he]; simp [concs, conc, h2], by simp [okKs, hu, h3], by simp [okKs, hv, h4], by rw [eqKs, hb, h5, h]⟩
    unfold eqC at h
    split at h
    · rename_i e1 _ _; cases e1
    · rename_i e1 e2 e3; cases e1; cases e2; cases e3; exact step _ _ _ h rfl rfl rfl rfl rfl
    · rename_i e1 e2 e3
      cases e1; cases e2; cases e3
      split at h
      · rename_i hk
        exact step _ _ _ h rfl rfl (by simp [okK, hk.1]) (by simp [okK, hk.2]) rfl
      · cases h
    · rename_i e1 e2 e3; cases e1; cases e2; cases e3; exact step _ _ _ h rfl rfl rfl rfl rfl
    · cases h
  | [], [], _ :: _, r, h => by simp [eqC] at h
  | [], _ :: _, _, r, h => by simp [eqC] at h
  | _ :: _, [], _, r, h => by unfold eqC at h; split at h <;> simp_all
  | _ :: _, _ :: _, [], r, h => by unfold eqC at h; split at h <;> simp_all
def eqR (z : Option AV) : Option Bool → Option AV
  | some r => some (.sc (.bool r))
  | none => z
def binZ (P : Program) (op : BinOp) (t : TypeId) (x y : Operand) (u v : AV) : Option AV := binA P op t x y u v
section
variable {P : Program} (t : TypeId) (x y : Operand) (cs ds : List AV)
theorem agg_eq {r : Bool} (h : eqA cs ds (flK P t) = some r) : ∃ a b, conc (.ag cs) = some (.agg a) ∧ conc (.ag ds) = some (.agg b) ∧ P.eqGuardType P.depth t = false ∧ rd P (Op.equal t (.agg a) (.agg b)) default = some r := by
  unfold flK at h
  split at h
  all_goals first | (simp [eqA] at h; done) | skip
  all_goals
    rename_i hu
    split at h
    rotate_left
    · simp [eqA] at h
    rename_i hg
    cases hk : flatK P 10 t with
    | none => rw [hk] at h; simp [eqA] at h
    | some ks =>
      rw [hk] at h
      obtain ⟨xs, ys, h1, h2, h3, h4, h5⟩ := eqC_ok ks cs ds r h
      refine ⟨xs.toArray, ys.toArray, by simp [conc, h1], by simp [conc, h2], hg, ?_⟩
      have := rd_equalIn (P := P) (w := default) 9990 10 t ks hk xs ys h3 h4
      unfold mkV at this
      rw [hu] at this
      rw [← h5]
      exact this
theorem guard_agg (op : BinOp) (a b : Array Value) (hg : P.eqGuardType P.depth t = false) : rd P (eqGuard op t x y (.agg a) (.agg b)) default = some () := by
  unfold eqGuard
  split
  · simp only [Bool.not_true, Bool.false_eq_true, if_false, rd_bind, rd_program, Option.bind_some, hg, Bool.not_false, if_true]
    rfl
  · simp only [Bool.not_true, Bool.false_eq_true, if_false, rd_bind, rd_program, Option.bind_some, hg, Bool.not_false, if_true]
    rfl
  · rfl
theorem bin_eqlA : binA P .eql t x y (.ag cs) (.ag ds) = eqR (binZ P .eql t x y (.ag cs) (.ag ds)) (eqA cs ds (flK P t)) := by
  cases h : eqA cs ds (flK P t) with
  | none => rfl
  | some r =>
    obtain ⟨a, b, h1, h2, h3, h4⟩ := agg_eq t cs ds h
    have hb : rd P (binOp .eql t (.agg a) (.agg b)) default = some (.bool r) := by
      have : binOp .eql t (.agg a) (.agg b) = (do pure (.bool (← Op.equal t (.agg a) (.agg b))) : Sem Value) := rfl
      rw [this, rd_bind, h4]; rfl
    simp only [binA, h1, h2, spure, rd_bind, guard_agg t x y .eql a b h3, Option.bind_some, hb, eqR]
    rfl
theorem eqR_some (z : Option AV) (r : Bool) : eqR z (some r) = some (.sc (.bool r)) := rfl
theorem eqA_some (ks : List Kd) : eqA cs ds (some ks) = eqC ks cs ds := rfl
theorem eqC_nil : eqC [] [] [] = some true := rfl
theorem eqC_i (ks : List Kd) (k : IntKind) (a b : Int) : eqC (.i k :: ks) (.sc (.int k a) :: cs) (.sc (.int k b) :: ds) = eqM (a == b) (eqC ks cs ds) := by simp [eqC]
theorem eqM_some (b r : Bool) : eqM b (some r) = some (b && r) := rfl
end
end Go.SX

namespace Go.SX
set_option linter.unusedSimpArgs false
set_option linter.unusedVariables false
section
variable {P : Program} {s : St} {H : List Blk} {d : Option Nat}
theorem stor_sc (v : Value) : AV.stor (.sc v) = true := rfl
theorem stor_ag (cs : List AV) : AV.stor (.ag cs) = true := rfl
def stS (s : St) (d : Option Nat) (id i : Nat) (B : Blk) : Option AV → Option St
  | some e' => some (St.put { s with H := s.H.set id { B with els := B.els.set i e' } } d .un)
  | none => none
def stE (s : St) (d : Option Nat) (v : AV) (id i off sz : Nat) (B : Blk) : Option AV → Option St
  | some e => if (v.stor && (v.cells.length == sz) && decide (0 < sz)) = true then stS s d id i B (e.setC off v.cells) else none
  | none => none
def stB (s : St) (d : Option Nat) (v : AV) (id i off sz : Nat) : Option Blk → Option St
  | some B => stE s d v id i off sz B B.els[i]?
  | none => none
def stA (s : St) (d : Option Nat) (v : AV) (dd : TyD) : AV → Option St
  | .pt id ver i off => stB s d v id i off dd.sz (liveB s.H id ver)
  | _ => none
def stD (s : St) (d : Option Nat) (v a : AV) : Option TyD → Option St
  | some dd => stA s d v dd a
  | none => none
theorem hstep_store (t : TypeId) (a x : Operand) : hstep P s (.store t a x) d = stD s d (ev s.T x) (ev s.T a) (tyD P t) := by
  simp only [hstep, stD]
  cases tyD P t with
  | none => rfl
  | some dd =>
    simp only
    generalize ev s.T a = q
    cases q <;> try rfl
    rename_i id ver i off
    simp only [stA, stB]
    generalize liveB s.H id ver = B
    cases B with
    | none => rfl
    | some B =>
      simp only [stE]
      generalize B.els[i]? = e
      cases e with
      | none => rfl
      | some e =>
        simp only [stS]
        by_cases h : (ev s.T x).stor = true ∧ (ev s.T x).cells.length = dd.sz ∧ 0 < dd.sz
        · rw [if_pos h, if_pos (by simp [h.1, h.2.1, h.2.2])]
          cases AV.setC e _ (ev s.T x).cells <;> rfl
        · rw [if_neg h, if_neg]
          intro h'
          simp only [Bool.and_eq_true, beq_iff_eq, decide_eq_true_eq] at h'
          exact h ⟨h'.1.1, h'.1.2, h'.2⟩
theorem stD_some (v a : AV) (dd : TyD) : stD s d v a (some dd) = stA s d v dd a := rfl
theorem stA_pt (v : AV) (dd : TyD) (id ver i off : Nat) : stA s d v dd (.pt id ver i off) = stB s d v id i off dd.sz (liveB s.H id ver) := rfl
theorem stB_some (v : AV) (id i off sz : Nat) (B : Blk) : stB s d v id i off sz (some B) = stE s d v id i off sz B B.els[i]? := rfl
theorem stE_some (v : AV) (id i off sz : Nat) (B : Blk) (e : AV) (h : (v.stor && (v.cells.length == sz) && decide (0 < sz)) = true) : stE s d v id i off sz B (some e) = stS s d id i B (e.setC off v.cells) := by
  simp [stE, h]
theorem stS_some (T : List AV) (H : List Blk) (c id i : Nat) (B : Blk) (e : AV) : stS ⟨T, H, c⟩ d id i B (some e) = some (St.put ⟨T, H.set id { B with els := B.els.set i e }, c⟩ d .un) := rfl
def blF (s : St) (d : Option Nat) (el len : Nat) (de : TyD) (z : AV) : Option (List AV) → Option St
  | some es => if (z.stor && (z.cells.length == de.sz) && decide (0 < de.sz) && decide (len * de.sz ≤ 16777216)) = true then
      some (St.put { s with H := s.H ++ [⟨true, s.cnt, el, de.sz, es, true⟩], cnt := s.cnt + 1 } d (.sl s.H.length s.cnt 0 len)) else none
  | none => none
def blZ (s : St) (d : Option Nat) (el len : Nat) (de : TyD) (l : List (Nat × AV)) : Option Value → Option St
  | some z => blF s d el len de (ofAgg z) (fillE de.sz (List.replicate len (ofAgg z)) l)
  | none => none
def blE (s : St) (d : Option Nat) (el len : Nat) (l : List (Nat × AV)) : Option TyD → Option St
  | some de => blZ s d el len de l de.zero
  | none => none
def blD (P : Program) (s : St) (d : Option Nat) (len : Nat) (l : List (Nat × AV)) : Option TyD → Option St
  | some dd => match dd.el, dd.len with
    | some el, none => blE s d el len l (tyD P el)
    | _, _ => none
  | none => none
theorem hstep_buildSlice (t : TypeId) (len : Nat) (ps : Array (Nat × Operand)) : hstep P s (.buildSlice t len ps) d = blD P s d len (ps.toList.map fun p => (p.1, ev s.T p.2)) (tyD P t) := by
  simp only [hstep, blD]
  cases tyD P t with
  | none => rfl
  | some dd =>
    simp only
    cases dd.el with
    | none => rfl
    | some el =>
      cases dd.len with
      | some _ => rfl
      | none =>
        simp only [blE]
        cases tyD P el with
        | none => rfl
        | some de =>
          simp only [blZ]
          cases hz : de.zero with
          | none => rfl
          | some z =>
            simp only
            generalize fillE de.sz (List.replicate len (ofAgg z)) _ = q
            cases q with
            | none => rfl
            | some es =>
              simp only [blF]
              by_cases h : (ofAgg z).stor = true ∧ (ofAgg z).cells.length = de.sz ∧ 0 < de.sz ∧ len * de.sz ≤ 16777216
              · rw [if_pos h, if_pos (by simp [h.1, h.2.1, h.2.2.1, h.2.2.2])]
              · rw [if_neg h, if_neg]
                intro h'
                simp only [Bool.and_eq_true, beq_iff_eq, decide_eq_true_eq] at h'
                exact h ⟨h'.1.1.1, h'.1.1.2, h'.1.2, h'.2⟩
theorem blD_sl (len : Nat) (l : List (Nat × AV)) (ag sz by' z el fl) : blD P s d len l (some ⟨ag, sz, by', z, some el, none, fl⟩) = blE s d el len l (tyD P el) := rfl
theorem blE_some (el len : Nat) (l : List (Nat × AV)) (de : TyD) : blE s d el len l (some de) = blZ s d el len de l de.zero := rfl
theorem blZ_some (el len : Nat) (de : TyD) (l : List (Nat × AV)) (z : Value) : blZ s d el len de l (some z) = blF s d el len de (ofAgg z) (fillE de.sz (List.replicate len (ofAgg z)) l) := rfl
theorem blF_some (T : List AV) (H : List Blk) (cn el len : Nat) (de : TyD) (z : AV) (es : List AV) (h : (z.stor && (z.cells.length == de.sz) && decide (0 < de.sz) && decide (len * de.sz ≤ 16777216)) = true) :
    blF ⟨T, H, cn⟩ d el len de z (some es) = some (St.put ⟨T, H ++ [⟨true, cn, el, de.sz, es, true⟩], cn + 1⟩ d (.sl H.length cn 0 len)) := by
  simp only [blF, h, if_true]
def apX (s : St) (d : Option Nat) (el : Nat) (de : TyD) (ys : List AV) (H1 : List Blk) : AV → Option St
  | .vw true [] => if decide (ys.length * de.bytes ≤ 140737488355328) = true then
      some (St.put { s with H := H1 ++ [⟨true, s.cnt, el, de.sz, ys, false⟩], cnt := s.cnt + 1 } d (.sl H1.length s.cnt 0 ys.length)) else none
  | .sl id ver lo len => match liveB H1 id ver with
    | some B => if ((B.esz == de.sz) && (B.ty == el) && decide ((len + ys.length) * de.bytes ≤ 140737488355328)) = true then
        some (St.put { s with H := H1.set id ⟨true, s.cnt, el, de.sz, (B.els.drop lo).take len ++ ys, false⟩, cnt := s.cnt + 1 } d (.sl id s.cnt 0 (len + ys.length))) else none
    | none => none
  | _ => none
def apY (s : St) (d : Option Nat) (el : Nat) (de : TyD) (x y : AV) : Option Value → Option (List AV) → Option St
  | some z, some ys => if (decide (0 < de.sz) && decide (0 < de.bytes) && (z.cells.size == de.sz) && allSz de.sz ys) = true then apX s d el de ys (popTmp s.H y) x else none
  | _, _ => none
def apE (s : St) (d : Option Nat) (el : Nat) (x y : AV) (ys : Option (List AV)) : Option TyD → Option St
  | some de => apY s d el de x y de.zero ys
  | none => none
def apD (P : Program) (s : St) (d : Option Nat) (x y : AV) (ys : Option (List AV)) : Option TyD → Option St
  | some dd => match dd.el, dd.len with
    | some el, none => apE s d el x y ys (tyD P el)
    | _, _ => none
  | none => none
theorem allSz_eq (sz : Nat) : ∀ es : List AV, es.all (fun e => e.cells.length = sz) = allSz sz es
  | [] => rfl
  | e :: r => by rw [List.all_cons, allSz_eq sz r, allSz]
theorem hstep_append (t : TypeId) (x y : Operand) : hstep P s (.call ⟨.builtin .append, #[x, y], #[t, t]⟩) d = apD P s d (ev s.T x) (ev s.T y) (elsA s.H (ev s.T y)) (tyD P t) := by
  simp only [hstep, apD, if_true]
  cases tyD P t with
  | none => rfl
  | some dd =>
    simp only
    cases dd.el with
    | none => rfl
    | some el =>
      cases dd.len with
      | some _ => rfl
      | none =>
        simp only [apE]
        cases tyD P el with
        | none => rfl
        | some de =>
          simp only [apY]
          cases de.zero with
          | none => rfl
          | some z =>
            cases elsA s.H (ev s.T y) with
            | none => rfl
            | some ys =>
              simp only
              rw [allSz_eq]
              by_cases h : 0 < de.sz ∧ 0 < de.bytes ∧ z.cells.size = de.sz ∧ allSz de.sz ys = true
              · have h1 : (decide (0 < de.sz) && decide (0 < de.bytes) && (z.cells.size == de.sz) && allSz de.sz ys) = true := by simp [h.1, h.2.1, h.2.2.1, h.2.2.2]
                rw [if_pos h, if_pos h1]
                generalize ev s.T x = q
                cases q with
                | sl id ver lo len =>
                  simp only [apX]
                  cases liveB (popTmp s.H (ev s.T y)) id ver with
                  | none => rfl
                  | some B =>
                    simp only
                    by_cases h2 : B.esz = de.sz ∧ B.ty = el ∧ (len + ys.length) * de.bytes ≤ 140737488355328
                    · have h3 : ((B.esz == de.sz) && (B.ty == el) && decide ((len + ys.length) * de.bytes ≤ 140737488355328)) = true := by simp [h2.1, h2.2.1, h2.2.2]
                      rw [if_pos h2, if_pos h3]
                    · rw [if_neg h2, if_neg]
                      intro h'
                      simp only [Bool.and_eq_true, beq_iff_eq, decide_eq_true_eq] at h'
                      exact h2 ⟨h'.1.1, h'.1.2, h'.2⟩
                | vw z es => cases z <;> cases es <;> simp [apX]
                | _ => rfl
              · rw [if_neg h, if_neg]
                intro h'
                simp only [Bool.and_eq_true, beq_iff_eq, decide_eq_true_eq] at h'
                exact h ⟨h'.1.1.1, h'.1.1.2, h'.1.2, h'.2⟩
theorem apD_sl (x y : AV) (ys : Option (List AV)) (ag sz by' z el fl) : apD P s d x y ys (some ⟨ag, sz, by', z, some el, none, fl⟩) = apE s d el x y ys (tyD P el) := rfl
theorem apE_some (el : Nat) (x y : AV) (ys : Option (List AV)) (de : TyD) : apE s d el x y ys (some de) = apY s d el de x y de.zero ys := rfl
theorem apY_some (el : Nat) (de : TyD) (x y : AV) (z : Value) (ys : List AV) (h : (decide (0 < de.sz) && decide (0 < de.bytes) && (z.cells.size == de.sz) && allSz de.sz ys) = true) :
    apY s d el de x y (some z) (some ys) = apX s d el de ys (popTmp s.H y) x := by
  simp only [apY, h, if_true]
def apB (s : St) (d : Option Nat) (el : Nat) (de : TyD) (ys : List AV) (H1 : List Blk) (id lo len : Nat) : Option Blk → Option St
  | some B => if ((B.esz == de.sz) && (B.ty == el) && decide ((len + ys.length) * de.bytes ≤ 140737488355328)) = true then
        some (St.put { s with H := H1.set id ⟨true, s.cnt, el, de.sz, (B.els.drop lo).take len ++ ys, false⟩, cnt := s.cnt + 1 } d (.sl id s.cnt 0 (len + ys.length))) else none
  | none => none
theorem apX_sl (el : Nat) (de : TyD) (ys : List AV) (H1 : List Blk) (id ver lo len : Nat) : apX s d el de ys H1 (.sl id ver lo len) = apB s d el de ys H1 id lo len (liveB H1 id ver) := by
  simp only [apX, apB]
theorem apB_some (T : List AV) (H : List Blk) (c el : Nat) (de : TyD) (ys : List AV) (H1 : List Blk) (id lo len : Nat) (B : Blk)
    (h : ((B.esz == de.sz) && (B.ty == el) && decide ((len + ys.length) * de.bytes ≤ 140737488355328)) = true) :
    apB ⟨T, H, c⟩ d el de ys H1 id lo len (some B) = some (St.put ⟨T, H1.set id ⟨true, c, el, de.sz, (B.els.drop lo).take len ++ ys, false⟩, c + 1⟩ d (.sl id c 0 (len + ys.length))) := by
  simp only [apB, h, if_true]
def alZ (s : St) (d : Option Nat) (t : Nat) (z : AV) : Option St :=
  if z.stor = true then some (St.put { s with H := s.H ++ [⟨true, s.cnt, t, z.cells.length, [z], false⟩], cnt := s.cnt + 1 } d (.pt s.H.length s.cnt 0 0)) else none
def alO (s : St) (d : Option Nat) (t : Nat) : Option Value → Option St
  | some z => alZ s d t (ofAgg z)
  | none => none
def alD (s : St) (d : Option Nat) (t : Nat) : Option TyD → Option St
  | some dd => alO s d t dd.zero
  | none => none
theorem hstep_alloc (t : TypeId) : hstep P s (.alloc t) d = alD s d t (tyD P t) := by
  simp only [hstep, alD, alO, alZ]
  cases tyD P t with
  | none => rfl
  | some dd => simp only; cases dd.zero <;> rfl
theorem alD_some (t : Nat) (dd : TyD) : alD s d t (some dd) = alO s d t dd.zero := rfl
theorem alO_some (t : Nat) (z : Value) : alO s d t (some z) = alZ s d t (ofAgg z) := rfl
theorem alZ_ok (T : List AV) (H : List Blk) (c t : Nat) (z : AV) (h : z.stor = true) : alZ ⟨T, H, c⟩ d t z = some (St.put ⟨T, H ++ [⟨true, c, t, z.cells.length, [z], false⟩], c + 1⟩ d (.pt H.length c 0 0)) := by
  simp only [alZ, h, if_true]
theorem hstep_box (t : TypeId) (x : Operand) : hstep P s (.box t x) d = alZ s d t (ev s.T x) := rfl
theorem elsA_sc (a : Option Addr) (c : Nat) : elsA H (.sc (.slice a 0 c)) = some [] := rfl
def lvB (ver : Nat) : Option Blk → Option Blk
  | some B => if B.live = true ∧ B.ver = ver then some B else none
  | none => none
theorem liveB_eq (id ver : Nat) : liveB H id ver = lvB ver H[id]? := by
  simp only [liveB, lvB]
  cases H[id]? <;> rfl
theorem lvB_mk (ver v ty esz : Nat) (els : List AV) (tmp : Bool) : lvB ver (some ⟨true, v, ty, esz, els, tmp⟩) = if v = ver then some ⟨true, v, ty, esz, els, tmp⟩ else none := by
  simp [lvB]
end
end Go.SX

namespace Go.SX
set_option linter.unusedSimpArgs false
set_option linter.unusedVariables false
open Go.RowKit (Below)
def VSpec (P : Program) (f : FuncId) (args : List AV) (r : AV) : Prop :=
  Callable P f ∧ r.noref = true ∧ ∀ (w : World) (X0 : Nat → Prop) (cargs : Array Value), (∀ b, X0 b → b < w.heap.size) → VL w X0 (some hc0) args cargs.toList →
    Calls P f cargs w fun e w' => ∃ c, e = .returned c ∧ VR w' X0 (some hc0) r c ∧ Below w.heap.size w w'
theorem VL.close {w X o as vs} (h : VL w X o as vs) : VL w X none as vs := ⟨h.1, fun i a v h1 h2 => (h.2 i a v h1 h2).close⟩
theorem hspec_of_v {P : Program} {f : FuncId} {args : List AV} {r : AV} (hv : VSpec P f args r) (hn : norefs args = true) (H : List Blk) (cnt : Nat) : HSpec P f args H cnt r H cnt := by
  obtain ⟨h1, h2, h3⟩ := hv
  refine ⟨h1, fun w X loc cargs hr hl => ?_⟩
  refine (h3 w X cargs hr.lt (norefs_ok _ hn hl.close)).mono ?_
  rintro e w' ⟨c, rfl, g1, g2⟩
  exact ⟨X, loc, c, rfl, hr.below g2, noref_ok _ h2 g1.close, evo_below g2 X _⟩
def VOk (P : Program) (g : Nat) (F : List AV → Option AV) : Prop := ∀ args r, F args = some r → VSpec P g args r
inductive VOks (P : Program) : List (Nat × (List AV → Option AV)) → Prop
  | nil : VOks P []
  | cons {g F r} (h : VOk P g F) (t : VOks P r) : VOks P ((g, F) :: r)
def hcV (H : List Blk) (cnt : Nat) : Bool → Option AV → Option (AV × List Blk × Nat)
  | true, some r => some (r, H, cnt)
  | _, _ => none
theorem hcV_some (H : List Blk) (cnt : Nat) (r : AV) : hcV H cnt true (some r) = some (r, H, cnt) := rfl
def vEnv (l lv : List (Nat × (List AV → Option AV))) : Env := ⟨pin l, pl l, fun g args H cnt => hcV H cnt (norefs args) (pl lv g args), false, fun _ => none, fun _ => false⟩
theorem vEnv_ok {P : Program} {l lv : List (Nat × (List AV → Option AV))} (h : POks P l) (hv : VOks P lv) : EnvOk P (vEnv l lv) where
  p := (pEnv_ok h).p
  h f args H cnt r H' cnt' he := by
    simp only [vEnv] at he
    cases hn : norefs args with
    | false => rw [hn] at he; simp [hcV] at he
    | true =>
      rw [hn] at he
      cases hp : pl lv f args with
      | none => rw [hp] at he; simp [hcV] at he
      | some q =>
        rw [hp] at he
        simp only [hcV, Option.some.injEq, Prod.mk.injEq] at he
        obtain ⟨rfl, rfl, rfl⟩ := he
        refine hspec_of_v ?_ hn H cnt
        induction hv with
        | nil => simp [pl] at hp
        | @cons g F l h t ih =>
          simp only [pl] at hp
          split at hp
          · rename_i hh; subst hh; exact h args q hp
          · exact ih hp
section
variable {P : Program} {E : Env} {n0 : Nat} {rs : List ResultVar} {R : AV → St → Prop}
end
end Go.SX

namespace Go.SX
set_option linter.unusedSimpArgs false
set_option linter.unusedVariables false
noncomputable def mkF {α : Type} (q : α → Prop) (enc : α → List AV) (out : α → AV) (args : List AV) : Option AV :=
  open Classical in if h : ∃ x, q x ∧ enc x = args then some (out (Classical.choose h)) else none
theorem mkF_inv {α : Type} {q : α → Prop} {enc : α → List AV} {out : α → AV} {args : List AV} {r : AV} (h : mkF q enc out args = some r) : ∃ x, q x ∧ enc x = args ∧ out x = r := by
  unfold mkF at h
  split at h
  · rename_i hx
    injection h with h
    exact ⟨_, (Classical.choose_spec hx).1, (Classical.choose_spec hx).2, h⟩
  · cases h
theorem pok_mk {P : Program} {g : Nat} {α : Type} {q : α → Prop} {enc : α → List AV} {out : α → AV} (h : ∀ x, q x → PSpec P g (enc x) (out x)) : POk P g (mkF q enc out) := by
  intro args r hr
  obtain ⟨x, hq, rfl, rfl⟩ := mkF_inv hr
  exact h x hq
def kA (k : IntKind) (n : Int) : AV := .sc (.int k n)
section
variable {P : Program} {s : St} {T : List AV} {H : List Blk}
def bnd (hi : Nat) : AV → Option Nat
  | .sc (.int _ n) => bound n hi
  | _ => none
end
section
variable {P : Program} {s : St}
def mm (P : Program) (b : Builtin) (ats : Array TypeId) (args : List AV) : Option AV :=
  match concs args with
  | some l => match spure P (match b with | .min => Builtin.min_ ats 0 l.toArray | _ => Builtin.max_ ats 0 l.toArray) with
    | some v => some (ofV v)
    | none => none
  | none => none
theorem rval_min (x y : Operand) (t t' : TypeId) : rval P s (.call ⟨.builtin .min, #[x, y], #[t, t']⟩) = mm P .min #[t, t'] [ev s.T x, ev s.T y] := rfl
theorem rval_max (x y : Operand) (t t' : TypeId) : rval P s (.call ⟨.builtin .max, #[x, y], #[t, t']⟩) = mm P .max #[t, t'] [ev s.T x, ev s.T y] := rfl
theorem mm_min (ats : Array TypeId) (k : IntKind) (a b : Int) : mm P .min ats [.sc (.int k a), .sc (.int k b)] = some (.sc (.int k (min a b))) := by
  have : spure P (Builtin.min_ ats 0 #[.int k a, .int k b]) = some (.int k (min a b)) := by
    simp [spure, Builtin.min_, Builtin.min2, rd_bind, rd_pure, List.foldlM]
    split <;> omega
  simp only [mm, concs, conc, this]
  rfl
theorem mm_max (ats : Array TypeId) (k : IntKind) (a b : Int) : mm P .max ats [.sc (.int k a), .sc (.int k b)] = some (.sc (.int k (max a b))) := by
  have : spure P (Builtin.max_ ats 0 #[.int k a, .int k b]) = some (.int k (max a b)) := by
    simp [spure, Builtin.max_, Builtin.max2, rd_bind, rd_pure, List.foldlM]
    split <;> omega
  simp only [mm, concs, conc, this]
  rfl
end
theorem ofAgg_int (k : IntKind) (n : Int) : ofAgg (.int k n) = .sc (.int k n) := rfl
theorem vcells_int (k : IntKind) (n : Int) : (Value.int k n).cells.size = 1 := rfl
theorem vcells_agg (cs : List Value) : (Value.agg cs.toArray).cells.size = cs.length := rfl
theorem rep1 (x : AV) : List.replicate 1 x = [x] := rfl
theorem rep2 (x : AV) : List.replicate 2 x = [x, x] := rfl
end Go.SX

namespace Go.SX
set_option linter.unusedSimpArgs false
set_option linter.unusedVariables false
open Go.RowKit (Below)
mutual
def AV.fresh : AV → Bool
  | .sc _ | .un | .jk | .pt .. | .sl .. => true
  | .vw _ es => es.isEmpty
  | .ag cs | .tu cs => freshs cs
  | _ => false
def freshs : List AV → Bool
  | [] => true
  | a :: r => a.fresh && freshs r
end
def FSpec (P : Program) (f : FuncId) (args : List AV) (r : AV) : Prop :=
  Callable P f ∧ r.noref = true ∧ ∀ (w : World) (cargs : Array Value), VL w noX (some hc0) args cargs.toList →
    Calls P f cargs w fun e w' => ∃ c, e = .returned c ∧ VR w' (fun b => b < w.heap.size) (some hc0) r c ∧ Below w.heap.size w w'
def FOk (P : Program) (g : Nat) (F : List AV → Option AV) : Prop := ∀ args r, F args = some r → FSpec P g args r
inductive FOks (P : Program) : List (Nat × (List AV → Option AV)) → Prop
  | nil : FOks P []
  | cons {g F r} (h : FOk P g F) (t : FOks P r) : FOks P ((g, F) :: r)
theorem hspec_of_f {P : Program} {f : FuncId} {args : List AV} {r : AV} {H : List Blk} {cnt : Nat} (hv : FSpec P f (borrows H args) r) : HSpec P f args H cnt r H cnt := by
  obtain ⟨h1, h2, h3⟩ := hv
  refine ⟨h1, fun w X loc cargs hr hl => ?_⟩
  refine (h3 w cargs (borrows_ok (hc := ⟨loc, H, cnt⟩) hr args hl)).mono ?_
  rintro e w' ⟨c, rfl, g1, g2⟩
  exact ⟨X, loc, c, rfl, hr.below g2, noref_ok _ h2 (g1.antiX (fun b hb => hr.lt b hb)).close, evo_below g2 X _⟩
def hcF (H : List Blk) (cnt : Nat) : Option AV → Option (AV × List Blk × Nat)
  | some r => some (r, H, cnt)
  | none => none
def fEnv (l lf : List (Nat × (List AV → Option AV))) : Env := ⟨pin l, pl l, fun g args H cnt => hcF H cnt (pl lf g (borrows H args)), false, fun _ => none, fun _ => false⟩
theorem lit_fEnv (l lf : List (Nat × (List AV → Option AV))) : (fEnv l lf).lit = false := rfl
theorem fEnv_ok {P : Program} {l lf : List (Nat × (List AV → Option AV))} (h : POks P l) (hf : FOks P lf) : EnvOk P (fEnv l lf) where
  p := (pEnv_ok h).p
  h f args H cnt r H' cnt' he := by
    simp only [fEnv] at he
    cases hp : pl lf f (borrows H args) with
    | none => rw [hp] at he; simp [hcF] at he
    | some q =>
      rw [hp] at he
      simp only [hcF, Option.some.injEq, Prod.mk.injEq] at he
      obtain ⟨rfl, rfl, rfl⟩ := he
      refine hspec_of_f ?_
      induction hf with
      | nil => simp [pl] at hp
      | @cons g F l h t ih =>
        simp only [pl] at hp
        split at hp
        · rename_i hh; subst hh; exact h _ q hp
        · exact ih hp
end Go.SX

namespace Go.SX
set_option linter.unusedVariables false
section
variable (d : Option Nat) (ty : TypeId) (pos : String) (af : Array Edge) (g : Option (Nat × Bool)) (X Y : Option St)
theorem opM_move_ vx : opM true ⟨d, .move vx, ty, pos, af, g⟩ X Y = X := rfl
theorem opM_assign_ vx : opM true ⟨d, .assign vx, ty, pos, af, g⟩ X Y = X := rfl
theorem opM_pick_ va vb vc : opM true ⟨d, .pick va vb vc, ty, pos, af, g⟩ X Y = X := rfl
theorem opM_alloc_ ve : opM true ⟨d, .alloc ve, ty, pos, af, g⟩ X Y = X := rfl
theorem opM_build_ vt vp : opM true ⟨d, .build vt vp, ty, pos, af, g⟩ X Y = X := rfl
theorem opM_load_ vt vx : opM true ⟨d, .load vt vx, ty, pos, af, g⟩ X Y = X := rfl
theorem opM_store_ vt va vv : opM true ⟨d, .store vt va vv, ty, pos, af, g⟩ X Y = X := rfl
theorem opM_binOp_ vo vt vx vy vu : opM true ⟨d, .binOp vo vt vx vy vu, ty, pos, af, g⟩ X Y = X := rfl
theorem opM_convert_ vs vt vx : opM true ⟨d, .convert vs vt vx, ty, pos, af, g⟩ X Y = X := rfl
theorem opM_extract_ vt vi : opM true ⟨d, .extract vt vi, ty, pos, af, g⟩ X Y = X := rfl
theorem opM_call_ vc : opM true ⟨d, .call vc, ty, pos, af, g⟩ X Y = X := rfl
end
end Go.SX
