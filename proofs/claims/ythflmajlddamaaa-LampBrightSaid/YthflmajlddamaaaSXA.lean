/-
  SX, part 10: operations, regions, code, functions: the abstract machine and its simulation.
  Conditions: none (lemmas over any program).
-/
import Derived.Test.YthflmajlddamaaaSX9
namespace Go.SX
set_option linter.unusedSimpArgs false
set_option linter.unusedVariables false
open Go.RowKit (Below)

section
variable {P : Program} {E : Env} {w : World} {X : Nat → Prop} {loc : Nat → Option (Nat × Nat)} {s : St} {a : Act}

/-- One operation: from this state to that, whatever is asked of what follows. -/
def StepsTo (P : Program) (w : World) (X : Nat → Prop) (loc : Nat → Option (Nat × Nat)) (s : St) (a : Act) (all : Array Oper) (o : Oper) (s' : St) : Prop :=
  ∀ (K : Act → World → Prop) (Q : Exit → Act → World → Prop),
    (∀ a' w' X' loc', SR w' X' loc' s' a' → Evo w X (s.hc loc) w' X' (s'.hc loc') → K a' w') →
    if Region.wanted o (yielded all a.tmps) = true then o.wp P a w K Q else K (a.put o.dst undef) w

theorem put_hc (s : St) (d : Option Nat) (v : AV) (loc) : (s.put d v).hc loc = s.hc loc := by cases d <;> rfl

theorem hval_ok (hE : EnvOk P E) (hs : SR w X loc s a) {o : Oper} {s' : St} (h : hval P E s o = some s') (K : Act → World → Prop) (Q : Exit → Act → World → Prop)
    (hK : ∀ a' w' X' loc', SR w' X' loc' s' a' → Evo w X (s.hc loc) w' X' (s'.hc loc') → K a' w') : o.wp P a w K Q := by
  unfold hval at h
  split at h
  · split at h
    · rename_i g args ht
      split at h
      · rename_i r H' cnt' hr
        cases h
        obtain ⟨hc, hcall⟩ := hE.h _ _ _ _ _ _ _ hr
        obtain ⟨cargs, e1, e2⟩ := call_rd hs ht hc
        have hrun := rd_run e1
        unfold Oper.wp
        rw [hrun]
        refine (hcall w X loc cargs hs.hr e2).mono ?_
        rintro e w' ⟨X', loc', c, he, h1, h2, h3⟩
        subst he
        have base : SR w' X' loc' { s with H := H', cnt := cnt' } a := ⟨h1, hs.tm.mono h3 hs.hr, hs.df⟩
        exact hK _ _ X' loc' (base.put o.dst h2) (by rw [put_hc]; exact h3)
      · cases h
    · cases h
  · obtain ⟨n, c, w', X', loc', h1, h2, h3, h4⟩ := hstep_ok hs h
    unfold Oper.wp
    rw [h1]
    rcases h2 with h2 | ⟨h2, h5⟩
    · rw [h2]; exact hK _ _ X' loc' h3 h4
    · rw [h2]; subst h5; exact hK _ _ X' loc' h3 h4

theorem pval_wp (hE : EnvOk P E) (hs : SR w X loc s a) {o : Oper} {v : AV} (h : pval P E s o.op = some v) (K : Act → World → Prop) (Q : Exit → Act → World → Prop)
    (hK : ∀ a' w' X' loc', SR w' X' loc' (s.put o.dst v) a' → Evo w X (s.hc loc) w' X' ((s.put o.dst v).hc loc') → K a' w') : o.wp P a w K Q := by
  obtain ⟨c, h1, h2⟩ := pval_ok hE hs h
  have hq := h2 w ⟨rfl, rfl, rfl, Nat.le_refl _, fun _ _ => rfl⟩
  refine Oper.wp_of_quiet (C := Below w.heap.size w) (K := fun a' => SR w X loc (s.put o.dst v) a') ⟨rfl, rfl, rfl, Nat.le_refl _, fun _ _ => rfl⟩ ?_ ⟨c, h2, hs.put o.dst h1⟩
  intro a' w' hw hsr
  exact hK a' w' X loc (hsr.below hw) (by rw [put_hc]; exact evo_below hw X _)

theorem opStep_ok (hE : EnvOk P E) (hs : SR w X loc s a) {all : Array Oper} {o : Oper} {s' : St} (h : opStep P E all s o = some s') : StepsTo P w X loc s a all o s' := by
  intro K Q hK
  unfold opStep at h
  have skip : s' = s.put o.dst .un → K (a.put o.dst undef) w := by
    intro e; subst e
    exact hK _ _ X loc (hs.put o.dst .un) (by rw [put_hc]; exact Evo.refl _ _ _)
  split at h
  · rename_i hg
    have hw : Region.wanted o (yielded all a.tmps) = true := by unfold Region.wanted; rw [hg]
    rw [if_pos hw]
    split at h
    · simp only [Option.map_eq_some_iff] at h
      obtain ⟨v, hv, rfl⟩ := h
      exact pval_wp hE hs hv K Q hK
    · exact hval_ok hE hs h K Q hK
  · rename_i j want hg
    split at h
    · rename_i b hgv
      have hy := yielded_bool hs hgv
      have hw : Region.wanted o (yielded all a.tmps) = (b == want) := by
        unfold Region.wanted; rw [hg]; simp only [hy]; cases b <;> cases want <;> rfl
      rw [hw]
      by_cases hbw : b = want
      · subst hbw
        simp only [beq_self_eq_true, if_true] at h ⊢
        split at h
        · simp only [Option.map_eq_some_iff] at h
          obtain ⟨v, hv, rfl⟩ := h
          exact pval_wp hE hs hv K Q hK
        · exact hval_ok hE hs h K Q hK
      · have hbf : (b == want) = false := by simpa using hbw
        rw [hbf, if_neg (by simp)]
        simp only [hbw, if_false] at h
        split at h
        · simp only [Option.map_some, Option.some.injEq] at h
          exact skip h.symm
        · cases h; exact skip rfl
    · rename_i hgv
      have hy := yielded_un hs hgv
      have hw : Region.wanted o (yielded all a.tmps) = false := by
        unfold Region.wanted; rw [hg]; simp only [hy]; rfl
      rw [hw, if_neg (by simp)]
      cases h
      exact skip rfl
    · cases h

theorem runOps_ok (hE : EnvOk P E) {all : Array Oper} (Q : Exit → Act → World → Prop) : ∀ (n k : Nat) {w : World} {X : Nat → Prop} {loc : Nat → Option (Nat × Nat)} {s s' : St} {a : Act},
    k + n = all.size → runOps P E all (all.toList.drop k) s = some s' → SR w X loc s a →
    (∀ a' w' X' loc', SR w' X' loc' s' a' → Evo w X (s.hc loc) w' X' (s'.hc loc') → Q .normal a' w') → wpOps P all Q (List.range' k n) a w
  | 0, k, w, X, loc, s, s', a, hk, h, hs, hQ => by
    rw [List.drop_eq_nil_of_le (by simp; omega)] at h
    simp only [runOps, Option.some.injEq] at h
    subst h
    exact hQ _ _ X loc hs (Evo.refl _ _ _)
  | n + 1, k, w, X, loc, s, s', a, hk, h, hs, hQ => by
    have hlt : k < all.size := by omega
    rw [List.drop_eq_getElem_cons (by simpa using hlt)] at h
    simp only [runOps] at h
    split at h
    · rename_i s1 h1
      have hst := opStep_ok hE hs h1
      have hget : all[k]? = some all[k] := by simp [hlt]
      simp only [List.range'_succ, wpOps, hget]
      have hKK : ∀ a' w' X' loc', SR w' X' loc' s1 a' → Evo w X (s.hc loc) w' X' (s1.hc loc') → wpOps P all Q (List.range' (k + 1) n) a' w' := by
        intro a' w' X' loc' g1 g2
        exact runOps_ok hE Q n (k + 1) (by omega) h g1 (fun a2 w2 X2 loc2 k1 k2 => hQ a2 w2 X2 loc2 k1 (g2.trans k2))
      have := hst _ Q hKK
      have harr : all.toList[k]'(by simpa using hlt) = all[k] := by simp
      rw [harr] at this
      split
      · rename_i hw
        rw [if_pos hw] at this
        exact .inl this
      · rename_i hw
        rw [if_neg hw] at this
        exact this
    · cases h

theorem region_ok (hE : EnvOk P E) {id : Nat} {ops : Array Oper} {s' : St} (h : runOps P E ops ops.toList s = some s') (hs : SR w X loc s a) {Q : Exit → Act → World → Prop}
    (hQ : ∀ a' w' X' loc', SR w' X' loc' s' a' → Evo w X (s.hc loc) w' X' (s'.hc loc') → Q .normal a' w') : (Code.region id ops false).wp P Q a w := by
  refine wp_region ?_
  have := runOps_ok hE (all := ops) Q ops.size 0 (by omega) (by simpa using h) hs hQ
  rwa [List.range_eq_range']
end

/-! ### Results -/

/-- What the function hands back. -/
def retVal (P : Program) (s : St) : List ResultVar → Option (List AV)
  | [] => some []
  | .tmp t :: r => (retVal P s r).map (s.T.getD t .un :: ·)
  | .cell t ty :: r => match rval P s (.load ty (.tmp t)) with
    | some v => (retVal P s r).map (v :: ·)
    | none => none

def retOne : List AV → AV
  | [v] => v
  | vs => .tu vs

/-! ### The abstract machine -/

/-- The abstract machine comes to an end at which R holds of the result. 'n0': the length of the heap at the function's beginning. -/
inductive Go (P : Program) (E : Env) (n0 : Nat) (rs : List ResultVar) (R : AV → St → Prop) : List Item → St → Prop
  | ret {k s vs} (h : retVal P s rs = some vs) (hR : R (retOne vs) s) : Go P E n0 rs R (.code .ret :: k) s
  | fin {s vs} (h : retVal P s rs = some vs) (hR : R (retOne vs) s) : Go P E n0 rs R [] s
  | skip {k s} (h : Go P E n0 rs R k s) : Go P E n0 rs R (.code .skip :: k) s
  | seq {k s x y} (h : Go P E n0 rs R (.code x :: .code y :: k) s) : Go P E n0 rs R (.code (.seq x y) :: k) s
  | cond {k s c x y} (t : Bool) (hc : ev s.T c = .sc (.bool t)) (h : Go P E n0 rs R (.code (if t = true then x else y) :: k) s) : Go P E n0 rs R (.code (.cond c x y) :: k) s
  | block {k s id c} (h : Go P E n0 rs R (.code c :: .inBlock id :: k) s) : Go P E n0 rs R (.code (.block id c) :: k) s
  | inBlock {k s id} (h : Go P E n0 rs R k s) : Go P E n0 rs R (.inBlock id :: k) s
  | loop {k s c} (h : Go P E n0 rs R (.code c :: .inLoop c :: k) s) : Go P E n0 rs R (.code (.loop c) :: k) s
  | inLoop {k s c} (h : Go P E n0 rs R (.code c :: .inLoop c :: k) s) : Go P E n0 rs R (.inLoop c :: k) s
  | exit {k k' s id} (he : exitTo id k = some k') (h : Go P E n0 rs R k' s) : Go P E n0 rs R (.code (.exit id) :: k) s
  | region {k s s' id ops} (hr : runOps P E ops ops.toList s = some s') (h : Go P E n0 rs R k s') : Go P E n0 rs R (.code (.region id ops false) :: k) s
  | draw {k s s' id ops} (hr : runPure P E ops ops.toList s = some s') (h : Go P E n0 rs R k s') : Go P E n0 rs R (.code (.region id ops true) :: k) s
  | ghost {k s s'} (hg : ∀ w X loc a, SR w X loc s a → ∃ X' loc', SR w X' loc' s' a ∧ ∀ w0 X0 hc0, hc0.H.length = n0 → Evo w0 X0 hc0 w X (s.hc loc) → Evo w0 X0 hc0 w X' (s'.hc loc'))
      (h : Go P E n0 rs R k s') : Go P E n0 rs R k s

/-- All regions that draw their order may be walked in the text's order. -/
def lexAll : Code → Bool
  | .region _ ops true => Region.lexB .any ops
  | .seq x y => lexAll x && lexAll y
  | .cond _ x y => lexAll x && lexAll y
  | .block _ c | .loop c => lexAll c
  | _ => true

def lexItem : Item → Bool
  | .code c | .inLoop c => lexAll c
  | _ => true

theorem exitTo_lex {id : Nat} : ∀ {k k' : List Item}, exitTo id k = some k' → (∀ x ∈ k, lexItem x = true) → ∀ x ∈ k', lexItem x = true
  | [], k', h, _ => by simp [exitTo] at h
  | x :: k, k', h, hk => by
    have ih := exitTo_lex (id := id) (k := k) (k' := k')
    cases x with
    | inBlock i =>
      simp only [exitTo] at h
      split at h
      · cases h; exact fun y hy => hk y (List.mem_cons_of_mem _ hy)
      · exact ih h (fun y hy => hk y (List.mem_cons_of_mem _ hy))
    | _ => simp only [exitTo] at h; exact ih h (fun y hy => hk y (List.mem_cons_of_mem _ hy))

theorem rd_results {P : Program} {w : World} {X loc} {s : St} {a : Act} (hs : SR w X loc s a) : ∀ {rs : List ResultVar} {vs : List AV}, retVal P s rs = some vs →
    ∃ cs : List Value, rd P (rs.mapM fun (r : ResultVar) => match r with
      | .tmp t => (pure (a.tmps.getD t undef) : Sem Value)
      | .cell b t => do loadVar t (← asAddr (a.tmps.getD b undef))) w = some cs ∧ VL w X (some (s.hc loc)) vs cs
  | [], vs, h => by
    simp only [retVal, Option.some.injEq] at h
    subst h
    exact ⟨[], by simp [rd_pure], .nil⟩
  | .tmp t :: r, vs, h => by
    simp only [retVal, Option.map_eq_some_iff] at h
    obtain ⟨vs', h1, rfl⟩ := h
    obtain ⟨cs, g1, g2⟩ := rd_results hs h1
    refine ⟨a.tmps.getD t undef :: cs, ?_, .cons (ev_ok hs.tm (.tmp t)) g2⟩
    simp only [List.mapM_cons, rd_bind, rd_pure, Option.bind_some, g1]
  | .cell b t :: r, vs, h => by
    simp only [retVal] at h
    split at h
    · rename_i v hv
      simp only [Option.map_eq_some_iff] at h
      obtain ⟨vs', h1, rfl⟩ := h
      obtain ⟨cs, g1, g2⟩ := rd_results hs h1
      obtain ⟨c, k1, k2⟩ := rv_load (o := ⟨none, .load t (.tmp b), 0, "", #[], none⟩) rfl hs hv
      have k3 : rd P (do loadVar t (← asAddr (a.tmps.getD b undef))) w = some c := by
        unfold execOp at k1
        simp only [Instr.loadAt, Act.eval, rd_bind] at k1
        generalize a.tmps.getD b undef = q at *
        cases q with
        | pointer p =>
          cases p with
          | none => simp [Instr.sureAddr, rd_stuck] at k1
          | some ad =>
            simp only [Instr.sureAddr, rd_pure, Option.bind_some] at k1
            simp only [rd_bind, asAddr, rd_pure, Option.bind_some]
            cases hq : rd P (loadVar t ad) w with
            | none => rw [hq] at k1; simp at k1
            | some c' => rw [hq] at k1; simp only [Option.bind_some, Option.some.injEq, Next.value.injEq] at k1; rw [k1]
        | _ => simp [Instr.sureAddr, rd_stuck] at k1
      refine ⟨c :: cs, ?_, .cons k2 g2⟩
      simp only [List.mapM_cons, rd_bind, Option.bind_some, g1, rd_pure] at k3 ⊢
      rw [k3]
      rfl
    · cases h

theorem run_results {P : Program} {w : World} {X loc} {s : St} {a : Act} (hs : SR w X loc s a) {fn : Func} {vs : List AV} (h : retVal P s fn.results.toList = some vs) :
    ∃ c, (results fn a.tmps).run P w = .ok c w ∧ VR w X (some (s.hc loc)) (retOne vs) c := by
  obtain ⟨cs, g1, g2⟩ := rd_results hs h
  have hm : rd P (fn.results.mapM fun (r : ResultVar) => match r with
      | .tmp t => (pure (a.tmps.getD t undef) : Sem Value)
      | .cell b t => do loadVar t (← asAddr (a.tmps.getD b undef))) w = some cs.toArray := by
    rw [Array.mapM_eq_mapM_toList, rd_map, g1]; rfl
  refine ⟨if h : cs.toArray.size = 1 then cs.toArray[0] else .tuple cs.toArray, ?_, ?_⟩
  · apply rd_run
    unfold results
    rw [rd_bind]
    exact (congrArg (fun q : Option (Array Value) => q.bind fun a => rd P (pure (if h : a.size = 1 then a[0] else .tuple a) : Sem Value) w) hm)
  · cases vs with
    | nil =>
      have := g2.unnil
      subst this
      simp only [retOne]
      exact .tu rfl (fun i a v h => by simp at h)
    | cons v r =>
      cases r with
      | nil =>
        obtain ⟨c, cs', rfl, k1, k2⟩ := g2.uncons
        have := k2.unnil
        subst this
        simpa [retOne] using k1
      | cons v2 r =>
        have hl := g2.1
        simp only [List.length_cons] at hl
        have hne : ¬ cs.toArray.size = 1 := by simp; omega
        rw [dif_neg hne]
        exact .tu g2.1 g2.2

theorem steps_of_wp {P : Program} {c : Code} {a : Act} {w : World} {Q : Act → World → Prop} (h : c.wp P (fun e a' w' => e = .normal ∧ Q a' w') a w) (b : Frame) (k : List Item) (cs : List Frame) :
    ∃ a' w', Q a' w' ∧ Steps P (lone (b.at a (.code c :: k)) cs w) (lone (b.at a' k) cs w') := by
  obtain ⟨e, a', w', ⟨rfl, hq⟩, harr⟩ := h b k cs
  exact ⟨a', w', hq, harr⟩

/-- What a run of the abstract machine says of the model's. -/
theorem go_sound {P : Program} {E : Env} (hE : EnvOk P E) (hm : P.follows .mixedOrders = true) {n0 : Nat} {fn : Func} {R : AV → St → Prop} {k : List Item} {s : St}
    (h : Go P E n0 fn.results.toList R k s) : (∀ x ∈ k, lexItem x = true) → ∀ (b : Frame) (cs : List Frame) (a : Act) (w : World) (X : Nat → Prop) (loc : Nat → Option (Nat × Nat)),
    b.kind = .normal → P.funcs[b.fn]? = some fn → SR w X loc s a → ∀ w0 X0 hc0, hc0.H.length = n0 → Evo w0 X0 hc0 w X (s.hc loc) →
    ∃ w' fr s' X' loc' r c, Steps P (lone (b.at a k) cs w) (lone fr cs w') ∧ fr.fn = b.fn ∧ fr.leaving P w' (.returned c) ∧ R r s' ∧ HR w' X' (s'.hc loc') ∧ VR w' X' (some (s'.hc loc')) r c ∧ Evo w0 X0 hc0 w' X' (s'.hc loc') := by
  induction h with
  | @ret k s vs h hR =>
    intro hlex b cs a w X loc hb hf hs w0 X0 hc0 hn hev
    obtain ⟨c, g1, g2⟩ := run_results hs h
    exact ⟨w, _, s, X, loc, _, c, .one step_ret, rfl, ⟨rfl, hs.df, hb, fn, hf, g1⟩, hR, hs.hr, g2, hev⟩
  | @fin s vs h hR =>
    intro hlex b cs a w X loc hb hf hs w0 X0 hc0 hn hev
    obtain ⟨c, g1, g2⟩ := run_results hs h
    exact ⟨w, _, s, X, loc, _, c, .one step_end, rfl, ⟨rfl, hs.df, hb, fn, hf, g1⟩, hR, hs.hr, g2, hev⟩
  | skip h ih =>
    intro hlex b cs a w X loc hb hf hs w0 X0 hc0 hn hev
    obtain ⟨w', fr, s', X', loc', r, c, g1, g2⟩ := ih (fun x hx => hlex x (List.mem_cons_of_mem _ hx)) b cs a w X loc hb hf hs w0 X0 hc0 hn hev
    exact ⟨w', fr, s', X', loc', r, c, .head step_skip g1, g2⟩
  | @seq k s x y h ih =>
    intro hlex b cs a w X loc hb hf hs w0 X0 hc0 hn hev
    have h0 := hlex _ List.mem_cons_self
    simp only [lexItem, lexAll, Bool.and_eq_true] at h0
    obtain ⟨w', fr, s', X', loc', r, c, g1, g2⟩ := ih (fun z hz => by
      rcases List.mem_cons.1 hz with rfl | hz
      · exact h0.1
      · rcases List.mem_cons.1 hz with rfl | hz
        · exact h0.2
        · exact hlex z (List.mem_cons_of_mem _ hz)) b cs a w X loc hb hf hs w0 X0 hc0 hn hev
    exact ⟨w', fr, s', X', loc', r, c, .head step_seq g1, g2⟩
  | @cond k s c x y t hc h ih =>
    intro hlex b cs a w X loc hb hf hs w0 X0 hc0 hn hev
    have h0 := hlex _ List.mem_cons_self
    simp only [lexItem, lexAll, Bool.and_eq_true] at h0
    have hev' := ev_ok hs.tm c
    rw [hc] at hev'
    generalize hq : a.eval c = q at hev'
    cases hev'
    obtain ⟨w', fr, s', X', loc', r, c, g1, g2⟩ := ih (fun z hz => by
      rcases List.mem_cons.1 hz with rfl | hz
      · cases t
        · exact h0.2
        · exact h0.1
      · exact hlex z (List.mem_cons_of_mem _ hz)) b cs a w X loc hb hf hs w0 X0 hc0 hn hev
    exact ⟨w', fr, s', X', loc', r, c, .head (step_cond hq) g1, g2⟩
  | @block k s id c h ih =>
    intro hlex b cs a w X loc hb hf hs w0 X0 hc0 hn hev
    have h0 := hlex _ List.mem_cons_self
    obtain ⟨w', fr, s', X', loc', r, c, g1, g2⟩ := ih (fun z hz => by
      rcases List.mem_cons.1 hz with rfl | hz
      · exact h0
      · rcases List.mem_cons.1 hz with rfl | hz
        · rfl
        · exact hlex z (List.mem_cons_of_mem _ hz)) b cs a w X loc hb hf hs w0 X0 hc0 hn hev
    exact ⟨w', fr, s', X', loc', r, c, .head step_block g1, g2⟩
  | @inBlock k s id h ih =>
    intro hlex b cs a w X loc hb hf hs w0 X0 hc0 hn hev
    obtain ⟨w', fr, s', X', loc', r, c, g1, g2⟩ := ih (fun x hx => hlex x (List.mem_cons_of_mem _ hx)) b cs a w X loc hb hf hs w0 X0 hc0 hn hev
    exact ⟨w', fr, s', X', loc', r, c, .head step_inBlock g1, g2⟩
  | @loop k s c h ih =>
    intro hlex b cs a w X loc hb hf hs w0 X0 hc0 hn hev
    have h0 := hlex _ List.mem_cons_self
    obtain ⟨w', fr, s', X', loc', r, c, g1, g2⟩ := ih (fun z hz => by
      rcases List.mem_cons.1 hz with rfl | hz
      · exact h0
      · rcases List.mem_cons.1 hz with rfl | hz
        · exact h0
        · exact hlex z (List.mem_cons_of_mem _ hz)) b cs a w X loc hb hf hs w0 X0 hc0 hn hev
    exact ⟨w', fr, s', X', loc', r, c, .head step_loop g1, g2⟩
  | @inLoop k s c h ih =>
    intro hlex b cs a w X loc hb hf hs w0 X0 hc0 hn hev
    have h0 := hlex _ List.mem_cons_self
    obtain ⟨w', fr, s', X', loc', r, c, g1, g2⟩ := ih (fun z hz => by
      rcases List.mem_cons.1 hz with rfl | hz
      · exact h0
      · rcases List.mem_cons.1 hz with rfl | hz
        · exact h0
        · exact hlex z (List.mem_cons_of_mem _ hz)) b cs a w X loc hb hf hs w0 X0 hc0 hn hev
    exact ⟨w', fr, s', X', loc', r, c, .head step_inLoop g1, g2⟩
  | @exit k k' s id he h ih =>
    intro hlex b cs a w X loc hb hf hs w0 X0 hc0 hn hev
    obtain ⟨w', fr, s', X', loc', r, c, g1, g2⟩ := ih (exitTo_lex he (fun x hx => hlex x (List.mem_cons_of_mem _ hx))) b cs a w X loc hb hf hs w0 X0 hc0 hn hev
    exact ⟨w', fr, s', X', loc', r, c, .head (step_exit he) g1, g2⟩
  | @region k s s1 id ops hr h ih =>
    intro hlex b cs a w X loc hb hf hs w0 X0 hc0 hn hev
    obtain ⟨a1, w1, ⟨X1, loc1, q1, q2⟩, q3⟩ := steps_of_wp (Q := fun a' w' => ∃ X' loc', SR w' X' loc' s1 a' ∧ Evo w X (s.hc loc) w' X' (s1.hc loc'))
      (region_ok hE (id := id) hr hs (fun a' w' X' loc' k1 k2 => ⟨rfl, X', loc', k1, k2⟩)) b k cs
    obtain ⟨w', fr, s', X', loc', r, c, g1, g2⟩ := ih (fun x hx => hlex x (List.mem_cons_of_mem _ hx)) b cs a1 w1 X1 loc1 hb hf q1 w0 X0 hc0 hn (hev.trans q2)
    exact ⟨w', fr, s', X', loc', r, c, q3.trans g1, g2⟩
  | @draw k s s1 id ops hr h ih =>
    intro hlex b cs a w X loc hb hf hs w0 X0 hc0 hn hev
    have h0 := hlex _ List.mem_cons_self
    obtain ⟨a1, w1, ⟨q1, q2⟩, q3⟩ := steps_of_wp (Q := fun a' w' => SR w' X loc s1 a' ∧ Below w.heap.size w w')
      (region_draw_ok hE hm (id := id) (by simpa [lexItem, lexAll] using h0) hr hs (fun a' w' k1 k2 => ⟨rfl, k1, k2⟩)) b k cs
    -- a pure run leaves heap and count alone
    have hpure : ∀ (l : List Oper) (s s1 : St), runPure P E ops l s = some s1 → s1.H = s.H ∧ s1.cnt = s.cnt := by
      intro l
      induction l with
      | nil => intro s s1 h; simp only [runPure, Option.some.injEq] at h; subst h; exact ⟨rfl, rfl⟩
      | cons o l ihl =>
        intro s s1 h
        simp only [runPure] at h
        split at h
        · rename_i hp
          split at h
          · rename_i s2 h2
            obtain ⟨e1, e2⟩ := ihl s2 s1 h
            have : s2.H = s.H ∧ s2.cnt = s.cnt := by
              unfold opStep at h2
              split at h2
              · simp only [hp, if_true, Option.map_eq_some_iff] at h2
                obtain ⟨v, _, rfl⟩ := h2
                cases o.dst <;> exact ⟨rfl, rfl⟩
              · split at h2
                · simp only [hp, if_true, Option.map_eq_some_iff] at h2
                  obtain ⟨v, _, rfl⟩ := h2
                  cases o.dst <;> exact ⟨rfl, rfl⟩
                · cases h2
                  cases o.dst <;> exact ⟨rfl, rfl⟩
                · cases h2
            exact ⟨e1.trans this.1, e2.trans this.2⟩
          · cases h
        · cases h
    obtain ⟨p1, p2⟩ := hpure _ _ _ hr
    have hhc : s1.hc loc = s.hc loc := by unfold St.hc; rw [p1, p2]
    obtain ⟨w', fr, s', X', loc', r, c, g1, g2⟩ := ih (fun x hx => hlex x (List.mem_cons_of_mem _ hx)) b cs a1 w1 X loc hb hf q1 w0 X0 hc0 hn (by rw [hhc]; exact hev.trans (evo_below q2 X _))
    exact ⟨w', fr, s', X', loc', r, c, q3.trans g1, g2⟩
  | @ghost k s s1 hg h ih =>
    intro hlex b cs a w X loc hb hf hs w0 X0 hc0 hn hev
    obtain ⟨X1, loc1, q1, q2⟩ := hg w X loc a hs
    exact ih hlex b cs a w X1 loc1 hb hf q1 w0 X0 hc0 hn (q2 w0 X0 hc0 hn hev)

/-! ### Functions -/

def initSt (fn : Func) (args : List AV) (H : List Blk) (cnt : Nat) : St := ⟨args ++ List.replicate (fn.ntmps - args.length) .un, H, cnt⟩

theorem calls_of_go {P : Program} {E : Env} (hE : EnvOk P E) (hm : P.follows .mixedOrders = true) {f : FuncId} {fn : Func} {c : Code} {args : List AV} {H : List Blk} {cnt : Nat} {R : AV → St → Prop}
    (hf : P.funcs[f]? = some fn) (hb : fn.body = some c) (hlex : lexAll c = true) (h : Go P E H.length fn.results.toList R [.code c] (initSt fn args H cnt))
    (w : World) (X : Nat → Prop) (loc : Nat → Option (Nat × Nat)) (cargs : Array Value) (hr : HR w X ⟨loc, H, cnt⟩) (hv : VL w X (some ⟨loc, H, cnt⟩) args cargs.toList) :
    Calls P f cargs w fun e w' => ∃ r s' X' loc' c, e = .returned c ∧ R r s' ∧ HR w' X' (s'.hc loc') ∧ VR w' X' (some (s'.hc loc')) r c ∧ Evo w X ⟨loc, H, cnt⟩ w' X' (s'.hc loc') := by
  intro cs
  let b : Frame := { (default : Frame) with fn := f, kind := .normal }
  have henter : Frame.enter P f cargs .normal = b.at { tmps := cargs ++ Array.replicate (fn.ntmps - cargs.size) undef, defers := [] } [.code c] := by
    simp [Frame.enter, Frame.at, hf, hb, b]
  have hsz : cargs.size = args.length := by rw [hv.1]; simp
  have hsr : SR w X loc (initSt fn args H cnt) { tmps := cargs ++ Array.replicate (fn.ntmps - cargs.size) undef, defers := [] } := by
    refine ⟨hr, ?_, rfl⟩
    have := hv.append (VL.map_av (w := w) (X := X) (o := some ⟨loc, H, cnt⟩) (l := List.replicate (fn.ntmps - args.length) ()) (f := fun _ => .un) (g := fun _ => undef) (fun _ _ => .un))
    simpa [initSt, hsz, St.hc] using this
  obtain ⟨w', fr, s', X', loc', r, c', g1, g2, g3, g4, g5, g6, g7⟩ := go_sound hE hm h (fun x hx => by simp at hx; subst hx; exact hlex) b cs _ w X loc rfl hf hsr w X ⟨loc, H, cnt⟩ rfl (Evo.refl _ _ _)
  rw [← henter] at g1
  exact ⟨.returned c', w', fr, ⟨r, s', X', loc', c', rfl, g4, g5, g6, g7⟩, g1, g2, g3⟩

mutual
/-- A value that is known whole, without memory. -/
def okc : AV → Bool
  | .sc v => v.oneCell'
  | .ag cs => okas cs
  | .tu cs => okcs cs
  | _ => false
def okas : List AV → Bool
  | [] => true
  | .sc v :: r => v.oneCell' && okas r
  | _ :: _ => false
def okcs : List AV → Bool
  | [] => true
  | a :: r => okc a && okcs r
end

theorem okas_ok : ∀ (as : List AV), okas as = true → ∃ vs, concs as = some vs ∧ (∀ w X o, VL w X o as vs) ∧ ∀ v ∈ vs, v.oneCell' = true
  | [], _ => ⟨[], rfl, fun _ _ _ => .nil, fun v h => by simp at h⟩
  | .sc v :: r, h => by
    simp only [okas, Bool.and_eq_true] at h
    obtain ⟨vs, h1, h2, h3⟩ := okas_ok r h.2
    refine ⟨v :: vs, by simp [concs, conc, h1], fun w X o => .cons (.sc h.1) (h2 w X o), fun u hu => ?_⟩
    rcases List.mem_cons.1 hu with rfl | hu
    · exact h.1
    · exact h3 u hu

mutual
theorem okc_ok : ∀ (a : AV), okc a = true → ∃ v, conc a = some v ∧ ∀ w X o, VR w X o a v
  | .sc v, h => ⟨v, rfl, fun _ _ _ => .sc h⟩
  | .ag cs, h => by
    obtain ⟨vs, h1, h2, h3⟩ := okas_ok cs h
    exact ⟨.agg vs.toArray, by simp [conc, h1], fun w X o => .ag (h2 w X o).1 (h2 w X o).2 h3⟩
  | .tu cs, h => by
    obtain ⟨vs, h1, h2⟩ := okcs_ok cs h
    exact ⟨.tuple vs.toArray, by simp [conc, h1], fun w X o => .tu (h2 w X o).1 (h2 w X o).2⟩
  | .pt .., h => by simp [okc] at h
  | .sl .., h => by simp [okc] at h
  | .vw .., h => by simp [okc] at h
  | .vp .., h => by simp [okc] at h
  | .fn .., h => by simp [okc] at h
  | .un, h => by simp [okc] at h
  | .jk, h => by simp [okc] at h
theorem okcs_ok : ∀ (as : List AV), okcs as = true → ∃ vs, concs as = some vs ∧ ∀ w X o, VL w X o as vs
  | [], _ => ⟨[], rfl, fun _ _ _ => .nil⟩
  | a :: r, h => by
    simp only [okcs, Bool.and_eq_true] at h
    obtain ⟨v, h1, h2⟩ := okc_ok a h.1
    obtain ⟨vs, h3, h4⟩ := okcs_ok r h.2
    exact ⟨v :: vs, by simp [concs, h1, h3], fun w X o => .cons (h2 w X o) (h4 w X o)⟩
end

/-- A pure function: its specification from a run of the abstract machine. -/
theorem pspec_of_go {P : Program} {E : Env} (hE : EnvOk P E) (hm : P.follows .mixedOrders = true) {f : FuncId} {fn : Func} {c : Code} {args : List AV} {r : AV}
    (hf : P.funcs[f]? = some fn) (hb : fn.body = some c) (hn : (fn.name == "runtime.NumGoroutine") = false) (hlex : lexAll c = true) (hr : okc r = true)
    (h : Go P E 0 fn.results.toList (fun r' _ => r' = r) [.code c] (initSt fn args [] 0)) : PSpec P f args r := by
  obtain ⟨v, hv1, hv2⟩ := okc_ok r hr
  refine ⟨⟨fn, hf, hn, by rw [hb]; rfl⟩, v, hv2, fun w cargs hv => ?_⟩
  refine (calls_of_go hE hm hf hb hlex (H := []) (cnt := 0) (R := fun r' _ => r' = r) h w noX (fun _ => none) cargs (hr0 w) hv).mono ?_
  rintro e w' ⟨r', s', X', loc', c', rfl, rfl, g1, g2, g3⟩
  have hcv := conc_eq _ hv1 g2
  subst hcv
  refine ⟨rfl, g3.os, g3.tape, g3.output, g3.size, fun k hk => g3.keep k hk ?_⟩
  rintro ⟨id, B, o, h1, _⟩
  simp at h1

theorem hspec_of_go {P : Program} {E : Env} (hE : EnvOk P E) (hm : P.follows .mixedOrders = true) {f : FuncId} {fn : Func} {c : Code} {args : List AV} {H H' : List Blk} {cnt cnt' : Nat} {r : AV}
    (hf : P.funcs[f]? = some fn) (hb : fn.body = some c) (hn : (fn.name == "runtime.NumGoroutine") = false) (hlex : lexAll c = true)
    (h : Go P E H.length fn.results.toList (fun r' s' => r' = r ∧ s'.H = H' ∧ s'.cnt = cnt') [.code c] (initSt fn args H cnt)) : HSpec P f args H cnt r H' cnt' := by
  refine ⟨⟨fn, hf, hn, by rw [hb]; rfl⟩, fun w X loc cargs hr hv => ?_⟩
  refine (calls_of_go hE hm hf hb hlex h w X loc cargs hr hv).mono ?_
  rintro e w' ⟨r', s', X', loc', c', rfl, ⟨rfl, h1, h2⟩, g1, g2, g3⟩
  have hhc : s'.hc loc' = ⟨loc', H', cnt'⟩ := by unfold St.hc; rw [h1, h2]
  rw [hhc] at g1 g2 g3
  exact ⟨X', loc', c', rfl, g1, g2, g3⟩
end Go.SX
