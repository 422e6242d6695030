/-
  SX, part 20: equality of structs and arrays whose cells are bools, integers and texts.
  Conditions: none.
-/
import Derived.Test.YtdjpkhjaibdogaaGreatSXB
namespace Go.SX
set_option linter.unusedSimpArgs false
set_option linter.unusedVariables false

/-- The kind of a cell. -/
inductive Kd where
  | b
  | i (k : IntKind)
  | s
  deriving DecidableEq

def okK : Kd → Value → Bool
  | .b, .bool _ => true
  | .i k, .int k' _ => decide (k = k')
  | .s, .string _ => true
  | _, _ => false
def okKs : List Kd → List Value → Bool
  | [], [] => true
  | k :: ks, v :: vs => okK k v && okKs ks vs
  | _, _ => false
theorem okKs_len : ∀ {ks : List Kd} {vs : List Value}, okKs ks vs = true → vs.length = ks.length
  | [], [], _ => rfl
  | k :: ks, v :: vs, h => by
    simp only [okKs, Bool.and_eq_true] at h
    simp [okKs_len h.2]
  | [], _ :: _, h => by simp [okKs] at h
  | _ :: _, [], h => by simp [okKs] at h
theorem okKs_one {k : Kd} {xs : List Value} (h : okKs [k] xs = true) : ∃ v, xs = [v] ∧ okK k v = true := by
  match xs, h with
  | [v], h => exact ⟨v, rfl, by simpa [okKs] using h⟩
  | [], h => simp [okKs] at h
  | _ :: _ :: _, h => simp [okKs] at h
theorem okKs_append : ∀ {ks ks' : List Kd} {vs : List Value}, okKs (ks ++ ks') vs = true → okKs ks (vs.take ks.length) = true ∧ okKs ks' (vs.drop ks.length) = true
  | [], ks', vs, h => by simpa [okKs] using h
  | k :: ks, ks', [], h => by simp [okKs] at h
  | k :: ks, ks', v :: vs, h => by
    simp only [List.cons_append, okKs, Bool.and_eq_true] at h
    obtain ⟨h1, h2⟩ := okKs_append h.2
    simp only [List.length_cons, List.take_succ_cons, List.drop_succ_cons, okKs, Bool.and_eq_true]
    exact ⟨⟨h.1, h1⟩, h2⟩

def eqK : Kd → Value → Value → Bool
  | .b, .bool a, .bool b => a == b
  | .i _, .int _ a, .int _ b => a == b
  | .s, .string a, .string b => a == b
  | _, _, _ => false
def eqKs : List Kd → List Value → List Value → Bool
  | k :: ks, x :: xs, y :: ys => eqK k x y && eqKs ks xs ys
  | _, _, _ => true
theorem eqKs_append : ∀ (ks ks' : List Kd) (xs ys : List Value), ks.length ≤ xs.length → ks.length ≤ ys.length →
    eqKs (ks ++ ks') xs ys = (eqKs ks (xs.take ks.length) (ys.take ks.length) && eqKs ks' (xs.drop ks.length) (ys.drop ks.length))
  | [], ks', xs, ys, _, _ => by simp [eqKs]
  | k :: ks, ks', [], _, h, _ => by simp at h
  | k :: ks, ks', _ :: _, [], _, h => by simp at h
  | k :: ks, ks', x :: xs, y :: ys, h, h' => by
    simp only [List.length_cons] at h h'
    simp only [List.cons_append, eqKs, List.length_cons, List.take_succ_cons, List.drop_succ_cons, eqKs_append ks ks' xs ys (by omega) (by omega), Bool.and_assoc]

def flatFs (P : Program) (F : TypeId → Option (List Kd)) : Nat → List Field → Option (List Kd)
  | _, [] => some []
  | off, f :: r => if f.name ≠ "_" ∧ f.offset = off then
      match F f.type with
      | some ks => if (P.info? f.type).map (·.size) = some ks.length ∧ 0 < ks.length then (flatFs P F (off + ks.length) r).map (ks ++ ·) else none
      | none => none
    else none

/-- The kinds of a type's cells. -/
def flatK (P : Program) : Nat → TypeId → Option (List Kd)
  | 0, _ => none
  | d + 1, t => match P.underlying t with
    | some .bool => some [.b]
    | some (.int k) => some [.i k]
    | some .string => some [.s]
    | some (.array n e) => match flatK P d e with
      | some ks => if (P.info? e).map (·.size) = some ks.length ∧ 0 < ks.length then some (List.replicate n ks).flatten else none
      | none => none
    | some (.struct fs) => if P.stoodInHeld t = false then flatFs P (flatK P d) 0 fs.toList else none
    | _ => none

def mkV (P : Program) (t : TypeId) (vs : List Value) : Value :=
  match P.underlying t with
  | some (.struct _) | some (.array _ _) => .agg vs.toArray
  | _ => vs.headD undef

section
variable {P : Program} {w : World}

theorem rd_isAggK (t : TypeId) : rd P (isAgg t) w = (P.underlying t).map fun d => match d with | .struct _ | .array _ _ => true | _ => false := by
  unfold isAgg
  rw [rd_bind, rd_underlying]
  cases P.underlying t with
  | none => rfl
  | some d => cases d <;> rfl

theorem rd_partK {d : Nat} {t : TypeId} {ks : List Kd} (hk : flatK P d t = some ks) (hs : (P.info? t).map (·.size) = some ks.length) {cs : List Value} {off : Nat} (h : off + ks.length ≤ cs.length) :
    rd P (part t cs.toArray off) w = some (mkV P t ((cs.drop off).take ks.length)) := by
  unfold part
  rw [rd_bind, rd_isAggK]
  cases d with
  | zero => simp [flatK] at hk
  | succ d =>
    have one : ks.length = 1 → rd P (match cs.toArray[off]? with | some v => (pure v : Sem Value) | none => stuck "part: no such cell") w = some (((cs.drop off).take ks.length).headD undef) := by
      intro h1
      have hlt : off < cs.length := by omega
      rw [h1, List.drop_eq_getElem_cons hlt]
      simp only [List.getElem?_toArray, List.getElem?_eq_getElem hlt, rd_pure, List.take_succ_cons, List.headD_cons]
    have agg : rd P (do pure (.agg (cs.toArray.extract off (off + (← sizeOf t)))) : Sem Value) w = some (.agg ((cs.drop off).take ks.length).toArray) := by
      rw [rd_bind, rd_sizeOf, hs]
      simp only [Option.bind_some, rd_pure]
      congr 2
      simp [List.extract]
    cases hu : P.underlying t with
    | none => simp [flatK, hu] at hk
    | some q =>
      unfold flatK at hk
      rw [hu] at hk
      unfold mkV
      rw [hu]
      cases q <;> simp only [Option.map_some, Option.bind_some, reduceCtorEq] at hk ⊢
      case bool => cases hk; exact one rfl
      case int => cases hk; exact one rfl
      case string => cases hk; exact one rfl
      case array => exact agg
      case struct => exact agg

/-- Loops over the fields. -/
theorem rd_eqFields {d D : Nat} (ih : ∀ (t : TypeId) (ks : List Kd), flatK P D t = some ks → ∀ xs ys, okKs ks xs = true → okKs ks ys = true → rd P (Op.equalIn (d + D) t (mkV P t xs) (mkV P t ys)) w = some (eqKs ks xs ys))
    (cs ds : List Value) {body : Field → Option Bool × Unit → Sem (ForInStep (Option Bool × Unit))} {post : Option Bool × Unit → Sem Bool} (hp1 : post (none, ()) = pure true) (hp2 : post (some false, ()) = pure false)
    (hb : ∀ (f : Field) s, f.name ≠ "_" → body f s = do
          let a ← part f.type cs.toArray f.offset
          let b ← part f.type ds.toArray f.offset
          let e ← Op.equalIn (d + D) f.type a b
          if (!e) = true then pure (ForInStep.done (some false, ())) else pure (ForInStep.yield (none, ()))) : ∀ (fs : List Field) (off : Nat) (ks : List Kd), flatFs P (flatK P D) off fs = some ks → okKs ks (cs.drop off) = true → okKs ks (ds.drop off) = true →
    rd P (forIn fs (none, ()) body >>= post) w = some (eqKs ks (cs.drop off) (ds.drop off))
  | [], off, ks, h, h1, h2 => by
    simp only [flatFs, Option.some.injEq] at h
    subst h
    rw [List.forIn_nil, rd_bind, rd_pure, Option.bind_some, hp1]
    rfl
  | f :: fs, off, ks, h, h1, h2 => by
    simp only [flatFs] at h
    split at h
    rotate_left
    · cases h
    rename_i hf
    obtain ⟨hf1, rfl⟩ := hf
    split at h
    rotate_left
    · cases h
    rename_i k1 hk1
    split at h
    rotate_left
    · cases h
    rename_i hs
    simp only [Option.map_eq_some_iff] at h
    obtain ⟨k2, hk2, rfl⟩ := h
    have l1 := okKs_len h1
    have l2 := okKs_len h2
    simp only [List.length_append, List.length_drop] at l1 l2
    obtain ⟨a1, a2⟩ := okKs_append h1
    obtain ⟨b1, b2⟩ := okKs_append h2
    obtain ⟨hs, hpos⟩ := hs
    rw [eqKs_append k1 k2 _ _ (by simp; omega) (by simp; omega)]
    rw [List.drop_drop] at a2 b2
    have p1 := rd_partK (w := w) hk1 hs (cs := cs) (off := f.offset) (by omega)
    have p2 := rd_partK (w := w) hk1 hs (cs := ds) (off := f.offset) (by omega)
    have p3 := ih f.type k1 hk1 _ _ a1 b1
    have hrec := rd_eqFields ih cs ds hp1 hp2 hb fs (f.offset + k1.length) k2 hk2 a2 b2
    rw [rd_bind] at hrec
    rw [rd_bind, List.forIn_cons, rd_bind, hb f _ hf1]
    simp only [rd_bind, p1, p2, p3, Option.bind_some]
    rw [List.drop_drop, List.drop_drop]
    cases he : eqKs k1 (List.take k1.length (List.drop f.offset cs)) (List.take k1.length (List.drop f.offset ds)) with
    | true =>
      simp only [Bool.not_true, Bool.false_eq_true, if_false, rd_pure, Option.bind_some, Bool.true_and]
      exact hrec
    | false =>
      simp only [Bool.not_false, if_true, rd_pure, Option.bind_some, Bool.false_and, hp2]

/-- Loops over the elements. -/
theorem rd_eqItems {d D : Nat} {e : TypeId} {ks : List Kd} (hk : flatK P D e = some ks) (hs : (P.info? e).map (·.size) = some ks.length) (hpos : 0 < ks.length)
    (ih : ∀ xs ys, okKs ks xs = true → okKs ks ys = true → rd P (Op.equalIn (d + D) e (mkV P e xs) (mkV P e ys)) w = some (eqKs ks xs ys))
    (cs ds : List Value) {body : Nat → Option Bool × Unit → Sem (ForInStep (Option Bool × Unit))} {post : Option Bool × Unit → Sem Bool} (hp1 : post (none, ()) = pure true) (hp2 : post (some false, ()) = pure false)
    (hb : ∀ (i : Nat) s, body i s = do
          let a ← part e cs.toArray (i * ks.length)
          let b ← part e ds.toArray (i * ks.length)
          let e ← Op.equalIn (d + D) e a b
          if (!e) = true then pure (ForInStep.done (some false, ())) else pure (ForInStep.yield (none, ()))) : ∀ (n i : Nat), okKs (List.replicate n ks).flatten (cs.drop (i * ks.length)) = true → okKs (List.replicate n ks).flatten (ds.drop (i * ks.length)) = true →
    rd P (forIn (List.range' i n) (none, ()) body >>= post) w = some (eqKs (List.replicate n ks).flatten (cs.drop (i * ks.length)) (ds.drop (i * ks.length)))
  | 0, i, h1, h2 => by
    rw [List.range'_zero, List.forIn_nil, rd_bind, rd_pure, Option.bind_some, hp1]
    rfl
  | n + 1, i, h1, h2 => by
    rw [List.replicate_succ, List.flatten_cons] at h1 h2 ⊢
    have l1 := okKs_len h1
    have l2 := okKs_len h2
    simp only [List.length_append, List.length_drop] at l1 l2
    obtain ⟨a1, a2⟩ := okKs_append h1
    obtain ⟨b1, b2⟩ := okKs_append h2
    rw [eqKs_append ks _ _ _ (by simp; omega) (by simp; omega)]
    rw [List.drop_drop] at a2 b2
    have em : i * ks.length + ks.length = (i + 1) * ks.length := by rw [Nat.add_mul, Nat.one_mul]
    rw [em] at a2 b2
    have p1 := rd_partK (w := w) hk hs (cs := cs) (off := i * ks.length) (by omega)
    have p2 := rd_partK (w := w) hk hs (cs := ds) (off := i * ks.length) (by omega)
    have p3 := ih _ _ a1 b1
    have hrec := rd_eqItems hk hs hpos ih cs ds hp1 hp2 hb n (i + 1) a2 b2
    rw [rd_bind] at hrec
    rw [rd_bind, List.range'_succ, List.forIn_cons, rd_bind, hb]
    simp only [rd_bind, p1, p2, p3, Option.bind_some]
    rw [List.drop_drop, List.drop_drop, em]
    cases he : eqKs ks (List.take ks.length (List.drop (i * ks.length) cs)) (List.take ks.length (List.drop (i * ks.length) ds)) with
    | true =>
      simp only [Bool.not_true, Bool.false_eq_true, if_false, rd_pure, Option.bind_some, Bool.true_and]
      exact hrec
    | false =>
      simp only [Bool.not_false, if_true, rd_pure, Option.bind_some, Bool.false_and, hp2]

theorem rd_equalIn (d : Nat) : ∀ (D : Nat) (t : TypeId) (ks : List Kd), flatK P D t = some ks → ∀ xs ys, okKs ks xs = true → okKs ks ys = true → rd P (Op.equalIn (d + D) t (mkV P t xs) (mkV P t ys)) w = some (eqKs ks xs ys)
  | 0, t, ks, h, _, _, _, _ => by simp [flatK] at h
  | D + 1, t, ks, h, xs, ys, hx, hy => by
    have ih := rd_equalIn d D
    have hd : d + (D + 1) = (d + D) + 1 := by omega
    unfold flatK at h
    rw [hd]
    unfold mkV
    unfold Op.equalIn
    rw [rd_bind, rd_underlying]
    cases hu : P.underlying t with
    | none => rw [hu] at h; cases h
    | some q =>
      rw [hu] at h
      cases q <;> simp only [reduceCtorEq] at h
      case bool =>
        cases h
        obtain ⟨a, rfl, ha⟩ := okKs_one hx
        obtain ⟨b, rfl, hb⟩ := okKs_one hy
        cases a <;> simp only [okK, Bool.false_eq_true] at ha
        cases b <;> simp only [okK, Bool.false_eq_true] at hb
        simp [rd_pure, eqKs, eqK]
      case int k =>
        cases h
        obtain ⟨a, rfl, ha⟩ := okKs_one hx
        obtain ⟨b, rfl, hb⟩ := okKs_one hy
        cases a <;> simp only [okK, Bool.false_eq_true, decide_eq_true_eq] at ha
        cases b <;> simp only [okK, Bool.false_eq_true, decide_eq_true_eq] at hb
        subst ha; subst hb
        simp [rd_pure, eqKs, eqK]
      case string =>
        cases h
        obtain ⟨a, rfl, ha⟩ := okKs_one hx
        obtain ⟨b, rfl, hb⟩ := okKs_one hy
        cases a <;> simp only [okK, Bool.false_eq_true] at ha
        cases b <;> simp only [okK, Bool.false_eq_true] at hb
        simp [rd_pure, eqKs, eqK]
      case array n e =>
        split at h
        rotate_left
        · cases h
        rename_i k1 hk1
        split at h
        rotate_left
        · cases h
        rename_i hs
        cases h
        simp only [Option.bind_some]
        rw [rd_bind, rd_sizeOf, hs.1]
        simp only [Option.bind_some, Std.Legacy.Range.forIn_eq_forIn_range', Std.Legacy.Range.size, Nat.sub_zero, Nat.add_sub_cancel, Nat.div_one]
        refine (rd_eqItems (w := w) (d := d) hk1 hs.1 hs.2 (ih e k1 hk1) xs ys rfl rfl (fun i s => rfl) n 0 (by simpa using hx) (by simpa using hy)).trans ?_
        simp
      case struct fs =>
        split at h
        rotate_left
        · cases h
        rename_i hs
        simp only [Option.bind_some]
        rw [rd_bind, rd_program]
        simp only [Option.bind_some, hs, Bool.false_eq_true, if_false]
        rw [← Array.forIn_toList]
        refine (rd_eqFields (w := w) (d := d) ih xs ys rfl rfl (fun f s hf => ?_) fs.toList 0 ks h (by simpa using hx) (by simpa using hy)).trans ?_
        · simp only [hf, ne_eq, not_false_eq_true, if_true]
        · simp
end

/-! ### The operators -/

/-- The kinds of the cells of a struct or an array that can be compared. -/
def flK (P : Program) (t : TypeId) : Option (List Kd) :=
  match P.underlying t with
  | some (.struct _) | some (.array _ _) => if P.eqGuardType P.depth t = false then flatK P 10 t else none
  | _ => none
def eqM (b : Bool) : Option Bool → Option Bool
  | some r => some (b && r)
  | none => none
def eqC : List Kd → List AV → List AV → Option Bool
  | [], [], [] => some true
  | .b :: ks, .sc (.bool a) :: cs, .sc (.bool b) :: ds => eqM (a == b) (eqC ks cs ds)
  | .i k :: ks, .sc (.int k1 a) :: cs, .sc (.int k2 b) :: ds => if k = k1 ∧ k = k2 then eqM (a == b) (eqC ks cs ds) else none
  | .s :: ks, .sc (.string a) :: cs, .sc (.string b) :: ds => eqM (a == b) (eqC ks cs ds)
  | _, _, _ => none
def eqA (cs ds : List AV) : Option (List Kd) → Option Bool
  | some ks => eqC ks cs ds
  | none => none
theorem eqC_ok : ∀ (ks : List Kd) (cs ds : List AV) (r : Bool), eqC ks cs ds = some r → ∃ xs ys, concs cs = some xs ∧ concs ds = some ys ∧ okKs ks xs = true ∧ okKs ks ys = true ∧ eqKs ks xs ys = r
  | [], [], [], r, h => by simp only [eqC, Option.some.injEq] at h; exact ⟨[], [], rfl, rfl, rfl, rfl, h⟩
  | k :: ks, c :: cs, e :: ds, r, h => by
    have step : ∀ (b : Bool) (u v : Value), eqM b (eqC ks cs ds) = some r → c = .sc u → e = .sc v → okK k u = true → okK k v = true → eqK k u v = b →
        ∃ xs ys, concs (c :: cs) = some xs ∧ concs (e :: ds) = some ys ∧ okKs (k :: ks) xs = true ∧ okKs (k :: ks) ys = true ∧ eqKs (k :: ks) xs ys = r := by
      intro b u v h hc he hu hv hb
      cases hr : eqC ks cs ds with
      | none => rw [hr] at h; simp [eqM] at h
      | some r' =>
        rw [hr] at h
        simp only [eqM, Option.some.injEq] at h
        obtain ⟨xs, ys, h1, h2, h3, h4, h5⟩ := eqC_ok ks cs ds r' hr
        exact ⟨u :: xs, v :: ys, by rw [hc]; simp [concs, conc, h1], by rw [he]; simp [concs, conc, h2], by simp [okKs, hu, h3], by simp [okKs, hv, h4], by rw [eqKs, hb, h5, h]⟩
    unfold eqC at h
    split at h
    · rename_i e1 _ _; cases e1
    · rename_i e1 e2 e3; cases e1; cases e2; cases e3; exact step _ _ _ h rfl rfl rfl rfl rfl
    · rename_i e1 e2 e3
      cases e1; cases e2; cases e3
      split at h
      · rename_i hk
        exact step _ _ _ h rfl rfl (by simp [okK, hk.1]) (by simp [okK, hk.2]) rfl
      · cases h
    · rename_i e1 e2 e3; cases e1; cases e2; cases e3; exact step _ _ _ h rfl rfl rfl rfl rfl
    · cases h
  | [], [], _ :: _, r, h => by simp [eqC] at h
  | [], _ :: _, _, r, h => by simp [eqC] at h
  | _ :: _, [], _, r, h => by unfold eqC at h; split at h <;> simp_all
  | _ :: _, _ :: _, [], r, h => by unfold eqC at h; split at h <;> simp_all

def eqR (z : Option AV) : Option Bool → Option AV
  | some r => some (.sc (.bool r))
  | none => z
def neR (z : Option AV) : Option Bool → Option AV
  | some r => some (.sc (.bool (!r)))
  | none => z
/-- As binA; not unfolded. -/
def binZ (P : Program) (op : BinOp) (t : TypeId) (x y : Operand) (u v : AV) : Option AV := binA P op t x y u v

section
variable {P : Program} (t : TypeId) (x y : Operand) (cs ds : List AV)
theorem agg_eq {r : Bool} (h : eqA cs ds (flK P t) = some r) : ∃ a b, conc (.ag cs) = some (.agg a) ∧ conc (.ag ds) = some (.agg b) ∧ P.eqGuardType P.depth t = false ∧ rd P (Op.equal t (.agg a) (.agg b)) default = some r := by
  unfold flK at h
  split at h
  all_goals first | (simp [eqA] at h; done) | skip
  all_goals
    rename_i hu
    split at h
    rotate_left
    · simp [eqA] at h
    rename_i hg
    cases hk : flatK P 10 t with
    | none => rw [hk] at h; simp [eqA] at h
    | some ks =>
      rw [hk] at h
      obtain ⟨xs, ys, h1, h2, h3, h4, h5⟩ := eqC_ok ks cs ds r h
      refine ⟨xs.toArray, ys.toArray, by simp [conc, h1], by simp [conc, h2], hg, ?_⟩
      have := rd_equalIn (P := P) (w := default) 9990 10 t ks hk xs ys h3 h4
      unfold mkV at this
      rw [hu] at this
      rw [← h5]
      exact this

theorem guard_agg (op : BinOp) (a b : Array Value) (hg : P.eqGuardType P.depth t = false) : rd P (eqGuard op t x y (.agg a) (.agg b)) default = some () := by
  unfold eqGuard
  split
  · simp only [Bool.not_true, Bool.false_eq_true, if_false, rd_bind, rd_program, Option.bind_some, hg, Bool.not_false, if_true]
    rfl
  · simp only [Bool.not_true, Bool.false_eq_true, if_false, rd_bind, rd_program, Option.bind_some, hg, Bool.not_false, if_true]
    rfl
  · rfl

theorem bin_eqlA : binA P .eql t x y (.ag cs) (.ag ds) = eqR (binZ P .eql t x y (.ag cs) (.ag ds)) (eqA cs ds (flK P t)) := by
  cases h : eqA cs ds (flK P t) with
  | none => rfl
  | some r =>
    obtain ⟨a, b, h1, h2, h3, h4⟩ := agg_eq t cs ds h
    have hb : rd P (binOp .eql t (.agg a) (.agg b)) default = some (.bool r) := by
      have : binOp .eql t (.agg a) (.agg b) = (do pure (.bool (← Op.equal t (.agg a) (.agg b))) : Sem Value) := rfl
      rw [this, rd_bind, h4]; rfl
    simp only [binA, h1, h2, spure, rd_bind, guard_agg t x y .eql a b h3, Option.bind_some, hb, eqR]
    rfl
theorem bin_neqA : binA P .neq t x y (.ag cs) (.ag ds) = neR (binZ P .neq t x y (.ag cs) (.ag ds)) (eqA cs ds (flK P t)) := by
  cases h : eqA cs ds (flK P t) with
  | none => rfl
  | some r =>
    obtain ⟨a, b, h1, h2, h3, h4⟩ := agg_eq t cs ds h
    have hb : rd P (binOp .neq t (.agg a) (.agg b)) default = some (.bool (!r)) := by
      have : binOp .neq t (.agg a) (.agg b) = (do pure (.bool (!(← Op.equal t (.agg a) (.agg b)))) : Sem Value) := rfl
      rw [this, rd_bind, h4]; rfl
    simp only [binA, h1, h2, spure, rd_bind, guard_agg t x y .neq a b h3, Option.bind_some, hb, neR]
    rfl
theorem eqR_some (z : Option AV) (r : Bool) : eqR z (some r) = some (.sc (.bool r)) := rfl
theorem neR_some (z : Option AV) (r : Bool) : neR z (some r) = some (.sc (.bool (!r))) := rfl
theorem eqA_some (ks : List Kd) : eqA cs ds (some ks) = eqC ks cs ds := rfl
theorem eqC_nil : eqC [] [] [] = some true := rfl
theorem eqC_b (ks : List Kd) (a b : Bool) : eqC (.b :: ks) (.sc (.bool a) :: cs) (.sc (.bool b) :: ds) = eqM (a == b) (eqC ks cs ds) := rfl
theorem eqC_i (ks : List Kd) (k : IntKind) (a b : Int) : eqC (.i k :: ks) (.sc (.int k a) :: cs) (.sc (.int k b) :: ds) = eqM (a == b) (eqC ks cs ds) := by simp [eqC]
theorem eqC_s (ks : List Kd) (a b : ByteArray) : eqC (.s :: ks) (.sc (.string a) :: cs) (.sc (.string b) :: ds) = eqM (a == b) (eqC ks cs ds) := rfl
theorem eqM_some (b r : Bool) : eqM b (some r) = some (b && r) := rfl
end
end Go.SX
