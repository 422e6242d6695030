/-
  SX, part 5: composite literals, min and max; all reading operations are right; calls of pure functions.
  Conditions: none (lemmas over any program and any world).
-/
import Derived.Test.YtdjpkhjaibdogaaGreatSX4
import Derived.Laws.Tables
namespace Go.SX
set_option linter.unusedSimpArgs false
set_option linter.unusedVariables false
open Go.RowKit (Below)

theorem setAll_length {α : Type} : ∀ (xs : List α) (cs : List α) (off : Nat), (setAll cs off xs).length = cs.length
  | [], _, _ => rfl
  | x :: r, cs, off => by rw [setAll, setAll_length r]; simp

theorem VL.setAll {w X o} : ∀ {xs : List AV} {us : List Value} {cs : List AV} {vs : List Value} (off : Nat), VL w X o cs vs → VL w X o xs us → VL w X o (setAll cs off xs) (setAll vs off us)
  | [], us, cs, vs, off, h, k => by rw [k.unnil]; exact h
  | x :: r, us, cs, vs, off, h, k => by
    obtain ⟨u, us', rfl, k1, k2⟩ := k.uncons
    exact VL.setAll (off + 1) (h.set off k1) k2

theorem mem_setAll {α : Type} : ∀ {xs cs : List α} {off : Nat} {u : α}, u ∈ setAll cs off xs → u ∈ cs ∨ u ∈ xs
  | [], _, _, _, h => .inl h
  | x :: r, cs, off, u, h => by
    rcases mem_setAll (xs := r) h with h | h
    · rcases List.mem_or_eq_of_mem_set h with h | h
      · exact .inl h
      · exact .inr (by rw [h]; exact List.mem_cons_self)
    · exact .inr (List.mem_cons_of_mem _ h)

theorem foldl_setAll (off : Nat) : ∀ (us : List Value) (k : Nat) (cs : Array Value),
    ((us.zipIdx k).foldl (fun cs (p : Value × Nat) => cs.setIfInBounds (off + p.2) p.1) cs).toList = setAll cs.toList (off + k) us
  | [], k, cs => rfl
  | u :: r, k, cs => by
    simp only [List.zipIdx_cons, List.foldl_cons, setAll]
    rw [foldl_setAll off r (k + 1)]
    simp [Nat.add_assoc]

section
variable {P : Program} {w : World} {X : Nat → Prop} {loc : Nat → Option (Nat × Nat)} {s : St} {a : Act} {v : AV}

theorem fill_ok {T : List AV} {o : Option HC} (ht : VL w X o T a.tmps.toList) (place : Nat → Option (Nat × Nat)) : ∀ (ops : List (Nat × Operand)) {cs cs' : List AV} {vs : List Value},
    fillA place cs (ops.map fun p => (p.1, ev T p.2)) = some cs' → VL w X o cs vs → (∀ u ∈ vs, u.oneCell' = true) →
    ∃ vs', Instr.fill place vs.toArray (ops.map fun p => (p.1, a.eval p.2)) = some vs'.toArray ∧ VL w X o cs' vs' ∧ (∀ u ∈ vs', u.oneCell' = true)
  | [], cs, cs', vs, h, h1, h2 => by
    simp only [List.map_nil, fillA, Option.some.injEq] at h
    subst h
    exact ⟨vs, rfl, h1, h2⟩
  | (i, x) :: r, cs, cs', vs, h, h1, h2 => by
    simp only [List.map_cons, fillA] at h
    split at h
    · rename_i off size hp
      split at h
      · rename_i hh
        obtain ⟨c1, c2, c3⟩ := hh
        have hx := ev_ok ht x
        obtain ⟨g1, g2⟩ := hx.cells_ok c1
        have hlen := g1.1
        have hsz : (a.eval x).cells.size = size := by
          rw [← c2, hlen]; simp
        have h1' := h1.setAll off g1
        obtain ⟨vs', e1, e2, e3⟩ := fill_ok ht place r (vs := setAll vs off (a.eval x).cells.toList) h h1' (fun u hu => by
          rcases mem_setAll hu with hu | hu
          · exact h2 u hu
          · exact g2 u hu)
        refine ⟨vs', ?_, e2, e3⟩
        have hvl := h1.1
        have hf : (a.eval x).cells.zipIdx.foldl (fun cs (p : Value × Nat) => cs.setIfInBounds (off + p.2) p.1) vs.toArray = (setAll vs off (a.eval x).cells.toList).toArray := by
          apply Array.ext'
          rw [← Array.foldl_toList, Array.toList_zipIdx]
          have := foldl_setAll off (a.eval x).cells.toList 0 vs.toArray
          simpa using this
        simp only [List.map_cons, Instr.fill, hp]
        rw [if_neg (by simp [hsz]; omega)]
        rw [← e1]
        congr 1
      · cases h
    · cases h

theorem rd_places : ∀ (fs : List Field) (places : List (Nat × Nat)), (fs.map fun f => (f.offset, f.type)).mapM (fun (f : Nat × Nat) => (tyD P f.2).map fun df => (f.1, df.sz)) = some places →
    rd P (fs.mapM fun f => do pure (f.offset, ← sizeOf f.type)) w = some places
  | [], places, h => by simp at h; subst h; simp [rd_pure]
  | f :: fs, places, h => by
    simp only [List.map_cons, List.mapM_cons, Option.bind_eq_bind, Option.pure_def] at h
    cases hd : tyD P f.type with
    | none => simp [hd] at h
    | some d =>
      cases hr : (fs.map fun f => (f.offset, f.type)).mapM (fun (f : Nat × Nat) => (tyD P f.2).map fun df => (f.1, df.sz)) with
      | none => simp [hd, hr] at h
      | some pl =>
        simp only [hd, hr, Option.map_some, Option.bind_some, Option.some.injEq] at h
        subst h
        have ih := rd_places fs pl hr
        simp only [List.mapM_cons, rd_bind, rd_sz hd, Option.bind_some, ih, rd_pure]

theorem zero_cells {z : Value} {zs : List AV} (h : ofAgg z = .ag zs) : ∃ vs : List Value, z = .agg vs.toArray ∧ VL w X (some (s.hc loc)) zs vs ∧ ∀ u ∈ vs, u.oneCell' = true := by
  have hz := ofAgg_ok (w := w) (X := X) (o := some (s.hc loc)) z
  rw [h] at hz
  cases hz with
  | ag hl h1 h2 => exact ⟨_, rfl, ⟨hl, h1⟩, h2⟩

theorem rv_build {o : Oper} {t : TypeId} {parts : Array (Nat × Operand)} (ho : o.op = .build t parts) (hs : SR w X loc s a) (h : rval P s (.build t parts) = some v) : RdOk P w X (s.hc loc) a o v := by
  simp only [rval] at h
  split at h
  rotate_left
  · cases h
  rename_i d htd
  obtain ⟨ti, u, f1, f2, f3, f4, f5, f6, f7, f8, f9⟩ := tyD_facts htd
  split at h
  rotate_left
  · cases h
  rename_i z hz
  split at h
  rotate_left
  · cases h
  rename_i zs hzs
  obtain ⟨zv, hzv, hz1, hz2⟩ := zero_cells (w := w) (X := X) (s := s) (loc := loc) hzs
  have hpm : (parts.map fun (p : Nat × Operand) => (p.1, a.eval p.2)).toList = parts.toList.map fun p => (p.1, a.eval p.2) := by simp
  have key : ∀ c, rd P (Instr.build t (parts.map fun (p : Nat × Operand) => (p.1, a.eval p.2))) w = some c → rd P (execOp a.eval o) w = some (.value c) := by
    intro c hc
    unfold execOp
    simp only [ho]
    exact rdv hc
  have hzero : rd P (zeroValue t) w = some z := by rw [rd_zeroValue, f1]; simp [f5, hz]
  split at h
  · rename_i m el hlen hel
    have hu := f8 el m hel hlen
    subst hu
    split at h
    rotate_left
    · cases h
    rename_i de hde
    split at h
    · rename_i cs hcs
      cases h
      obtain ⟨vs', e1, e2, e3⟩ := fill_ok hs.tm _ parts.toList hcs hz1 hz2
      refine ⟨.agg vs'.toArray, key _ ?_, .ag e2.1 e2.2 e3⟩
      unfold Instr.build
      simp only [rd_bind, hzero, Option.bind_some, rd_underlying, f2, rd_sz hde, hpm, hzv, Value.cells, e1, rd_pure]
    · cases h
  · rename_i hlen hel
    split at h
    · rename_i hag
      obtain ⟨fs, hu, hfl⟩ := f9 hlen hel hag
      subst hu
      split at h
      rotate_left
      · cases h
      rename_i places hpl
      split at h
      · rename_i cs hcs
        cases h
        rw [hfl] at hpl
        have hp := rd_places (w := w) _ _ hpl
        obtain ⟨vs', e1, e2, e3⟩ := fill_ok hs.tm _ parts.toList hcs hz1 hz2
        refine ⟨.agg vs'.toArray, key _ ?_, .ag e2.1 e2.2 e3⟩
        unfold Instr.build
        have hmm : rd P (fs.mapM fun f => do pure (f.offset, ← sizeOf f.type)) w = some places.toArray := by
          rw [Array.mapM_eq_mapM_toList, rd_map, hp]; rfl
        have e1' : Instr.fill (fun x => places.toArray[x]?) zv.toArray (parts.toList.map fun p => (p.1, a.eval p.2)) = some vs'.toArray := by
          simpa using e1
        simp only [rd_bind, hzero, Option.bind_some, rd_underlying, f2, hmm, hpm, hzv, Value.cells, e1', rd_pure]
      · cases h
    · cases h
  · cases h

theorem rv_minmax {o : Oper} {b : Builtin} (hb : b = .min ∨ b = .max) {args : Array Operand} {ats : Array TypeId} (ho : o.op = .call { callee := .builtin b, args := args, argTypes := ats }) (hs : SR w X loc s a)
    (h : rval P s (.call { callee := .builtin b, args := args, argTypes := ats }) = some v) : RdOk P w X (s.hc loc) a o v := by
  have hx := evs_ok hs.tm args.toList
  have harg : ∀ l, concs (args.toList.map (ev s.T)) = some l → args.map a.eval = l.toArray := by
    intro l hl
    have := concs_eq _ hl hx
    apply Array.ext'
    rw [← this]; simp
  rcases hb with rfl | rfl
  all_goals
    simp only [rval] at h
    split at h
    · rename_i l hl
      split at h
      · rename_i r hr
        cases h
        refine ⟨r, ?_, ofV_ok r⟩
        unfold execOp
        simp only [ho, resolve, invoke, builtin, rd_bind, rd_pure, Option.bind_some, harg l hl]
        have := spure_rd hr w
        first | rw [show Builtin.min_ ats o.type l.toArray = Builtin.min_ ats 0 l.toArray from rfl, this] | rw [show Builtin.max_ ats o.type l.toArray = Builtin.max_ ats 0 l.toArray from rfl, this]
        rfl
      · cases h
    · cases h

theorem rval_ok {o : Oper} (hs : SR w X loc s a) (h : rval P s o.op = some v) : RdOk P w X (s.hc loc) a o v := by
  cases ho : o.op with
  | move x => rw [ho] at h; simp only [rval, Option.some.injEq] at h; rw [← h]; exact rv_move (.inl ho) hs
  | assign x => rw [ho] at h; simp only [rval, Option.some.injEq] at h; rw [← h]; exact rv_move (.inr ho) hs
  | pick c x y => rw [ho] at h; exact rv_pick ho hs h
  | build t parts => rw [ho] at h; exact rv_build ho hs h
  | load t x => rw [ho] at h; exact rv_load ho hs h
  | nilCheck x => rw [ho] at h; exact rv_nilCheck ho hs h
  | binOp op t x y t' => rw [ho] at h; exact rv_binOp ho hs h
  | unOp op t x => rw [ho] at h; exact rv_unOp ho hs h
  | convert t t' x => rw [ho] at h; exact rv_convert ho hs h
  | makeFunc fn first caps =>
    rw [ho] at h
    cases fn with
    | func f => exact rv_makeFunc ho hs h
    | _ => simp [rval] at h
  | slice t x lo hi mx => rw [ho] at h; exact rv_slice ho hs h
  | fieldAddr t x f => rw [ho] at h; exact rv_fieldAddr ho hs h
  | field t x f => rw [ho] at h; exact rv_field ho hs h
  | indexAddr t x i => rw [ho] at h; exact rv_indexAddr ho hs h
  | index t x i => rw [ho] at h; exact rv_index ho hs h
  | extract x i => rw [ho] at h; exact rv_extract ho hs h
  | call c =>
    rw [ho] at h
    obtain ⟨callee, args, ats⟩ := c
    cases callee with
    | builtin b =>
      cases b with
      | len => exact rv_len ho hs h
      | min => exact rv_minmax (.inl rfl) ho hs h
      | max => exact rv_minmax (.inr rfl) ho hs h
      | _ => simp [rval] at h
    | value f => simp [rval] at h
    | invoke r m => simp [rval] at h
  | _ => rw [ho] at h; simp [rval] at h
end
end Go.SX
