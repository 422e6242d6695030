/-
  Lemmas towards ModesBegins (joined texts: SXP).
  Conditions: none.
-/
import Derived.Test.YtdjpkhjaibdogaaGreatL06
import Derived.Orders
namespace Go.SX
set_option linter.unusedSimpArgs false
set_option linter.unusedVariables false
open Go.RowKit (Below)
section
variable {P : Program} {E : Env} {w : World} {X : Nat → Prop} {loc : Nat → Option (Nat × Nat)} {s : St} {a : Act}
def StepsTo (P : Program) (w : World) (X : Nat → Prop) (loc : Nat → Option (Nat × Nat)) (s : St) (a : Act) (all : Array Oper) (o : Oper) (s' : St) : Prop :=
  ∀ (K : Act → World → Prop) (Q : Exit → Act → World → Prop),
    (∀ c w' X' loc', SR w' X' loc' s' (a.put o.dst c) → Evo w X (s.hc loc) w' X' (s'.hc loc') → K (a.put o.dst c) w') →
    if Region.wanted o (yielded all a.tmps) = true then o.wp P a w K Q else K (a.put o.dst undef) w
theorem put_hc (s : St) (d : Option Nat) (v : AV) (loc) : (s.put d v).hc loc = s.hc loc := by cases d <;> rfl
theorem hval_ok (hE : EnvOk P E) (hs : SR w X loc s a) {o : Oper} {s' : St} (h : hval P E s o = some s') (K : Act → World → Prop) (Q : Exit → Act → World → Prop)
    (hK : ∀ c w' X' loc', SR w' X' loc' s' (a.put o.dst c) → Evo w X (s.hc loc) w' X' (s'.hc loc') → K (a.put o.dst c) w') : o.wp P a w K Q := by
  unfold hval at h
  split at h
  · split at h
    · rename_i g args ht
      split at h
      · rename_i r H' cnt' hr
        cases h
        obtain ⟨hc, hcall⟩ := hE.h _ _ _ _ _ _ _ hr
        obtain ⟨cargs, e1, e2⟩ := call_rd hs ht hc
        have hrun := rd_run e1
        unfold Oper.wp
        rw [hrun]
        refine (hcall w X loc cargs hs.hr e2).mono ?_
        rintro e w' ⟨X', loc', c, he, h1, h2, h3⟩
        subst he
        have base : SR w' X' loc' { s with H := H', cnt := cnt' } a := ⟨h1, hs.tm.mono h3 hs.hr, hs.df⟩
        exact hK _ _ X' loc' (base.put o.dst h2) (by rw [put_hc]; exact h3)
      · cases h
    · cases h
  · obtain ⟨n, c, w', X', loc', h1, h2, h3, h4⟩ := hstep_ok hs h
    unfold Oper.wp
    rw [h1]
    rcases h2 with h2 | ⟨h2, h5⟩
    · rw [h2]; exact hK _ _ X' loc' h3 h4
    · rw [h2]; subst h5; exact hK _ _ X' loc' h3 h4
theorem pval_wp (hE : EnvOk P E) (hs : SR w X loc s a) {o : Oper} {v : AV} (h : pval P E s o.op = some v) (K : Act → World → Prop) (Q : Exit → Act → World → Prop)
    (hK : ∀ c w' X' loc', SR w' X' loc' (s.put o.dst v) (a.put o.dst c) → Evo w X (s.hc loc) w' X' ((s.put o.dst v).hc loc') → K (a.put o.dst c) w') : o.wp P a w K Q := by
  obtain ⟨c, h1, h2⟩ := pval_ok hE hs h
  have hq := h2 w ⟨rfl, rfl, rfl, Nat.le_refl _, fun _ _ => rfl⟩
  refine Oper.wp_of_quiet (C := Below w.heap.size w) (K := fun a' => ∃ c, a' = a.put o.dst c ∧ SR w X loc (s.put o.dst v) (a.put o.dst c)) ⟨rfl, rfl, rfl, Nat.le_refl _, fun _ _ => rfl⟩ ?_ ⟨c, h2, c, rfl, hs.put o.dst h1⟩
  rintro a' w' hw ⟨c', rfl, hsr⟩
  exact hK c' w' X loc (hsr.below hw) (by rw [put_hc]; exact evo_below hw X _)
theorem opStep_ok (hE : EnvOk P E) (hs : SR w X loc s a) {all : Array Oper} {o : Oper} {s' : St} (h : opStep P E all s o = some s') : StepsTo P w X loc s a all o s' := by
  intro K Q hK
  unfold opStep at h
  have skip : s' = s.put o.dst .un → K (a.put o.dst undef) w := by
    intro e; subst e
    exact hK _ _ X loc (hs.put o.dst .un) (by rw [put_hc]; exact Evo.refl _ _ _)
  split at h
  · rename_i hg
    have hw : Region.wanted o (yielded all a.tmps) = true := by unfold Region.wanted; rw [hg]
    rw [if_pos hw]
    split at h
    · simp only [Option.map_eq_some_iff] at h
      obtain ⟨v, hv, rfl⟩ := h
      exact pval_wp hE hs hv K Q hK
    · exact hval_ok hE hs h K Q hK
  · rename_i j want hg
    split at h
    · rename_i b hgv
      have hy := yielded_bool hs hgv
      have hw : Region.wanted o (yielded all a.tmps) = (b == want) := by
        unfold Region.wanted; rw [hg]; simp only [hy]; cases b <;> cases want <;> rfl
      rw [hw]
      by_cases hbw : b = want
      · subst hbw
        simp only [beq_self_eq_true, if_true] at h ⊢
        split at h
        · simp only [Option.map_eq_some_iff] at h
          obtain ⟨v, hv, rfl⟩ := h
          exact pval_wp hE hs hv K Q hK
        · exact hval_ok hE hs h K Q hK
      · have hbf : (b == want) = false := by simpa using hbw
        rw [hbf, if_neg (by simp)]
        simp only [hbw, if_false] at h
        split at h
        · simp only [Option.map_some, Option.some.injEq] at h
          exact skip h.symm
        · cases h; exact skip rfl
    · rename_i hgv
      have hy := yielded_un hs hgv
      have hw : Region.wanted o (yielded all a.tmps) = false := by
        unfold Region.wanted; rw [hg]; simp only [hy]; rfl
      rw [hw, if_neg (by simp)]
      cases h
      exact skip rfl
    · cases h
theorem opStepM_ok (hE : EnvOk P E) (hs : SR w X loc s a) {all : Array Oper} {o : Oper} {s' : St} (h : opStepM P E all s o = some s') : StepsTo P w X loc s a all o s' := by
  unfold opStepM opM at h
  split at h
  rotate_left
  · exact opStep_ok hE hs h
  rename_i hc
  simp only [Bool.and_eq_true, Option.isNone_iff_eq_none] at hc
  intro K Q hK
  have hw : Region.wanted o (yielded all a.tmps) = true := by unfold Region.wanted; rw [hc.2]
  rw [if_pos hw]
  obtain ⟨n, c, w', X', loc', h1, h2, h3, h4⟩ := litStep_ok hs hc.1.2 h
  unfold Oper.wp
  rw [h1]
  rcases h2 with h2 | ⟨h2, h5⟩
  · rw [h2]; exact hK _ _ X' loc' h3 h4
  · rw [h2]; subst h5; exact hK _ _ X' loc' h3 h4
theorem runOps_ok (hE : EnvOk P E) {all : Array Oper} (Q : Exit → Act → World → Prop) : ∀ (n k : Nat) {w : World} {X : Nat → Prop} {loc : Nat → Option (Nat × Nat)} {s s' : St} {a : Act},
    k + n = all.size → runOps P E all (all.toList.drop k) s = some s' → SR w X loc s a →
    (∀ a' w' X' loc', SR w' X' loc' s' a' → Evo w X (s.hc loc) w' X' (s'.hc loc') → Q .normal a' w') → wpOps P all Q (List.range' k n) a w
  | 0, k, w, X, loc, s, s', a, hk, h, hs, hQ => by
    rw [List.drop_eq_nil_of_le (by simp; omega)] at h
    simp only [runOps, Option.some.injEq] at h
    subst h
    exact hQ _ _ X loc hs (Evo.refl _ _ _)
  | n + 1, k, w, X, loc, s, s', a, hk, h, hs, hQ => by
    have hlt : k < all.size := by omega
    rw [List.drop_eq_getElem_cons (by simpa using hlt)] at h
    simp only [runOps] at h
    split at h
    · rename_i s1 h1
      have hst := opStepM_ok hE hs h1
      have hget : all[k]? = some all[k] := by simp [hlt]
      simp only [List.range'_succ, wpOps, hget]
      have hKK : ∀ a' w' X' loc', SR w' X' loc' s1 a' → Evo w X (s.hc loc) w' X' (s1.hc loc') → wpOps P all Q (List.range' (k + 1) n) a' w' := by
        intro a' w' X' loc' g1 g2
        exact runOps_ok hE Q n (k + 1) (by omega) h g1 (fun a2 w2 X2 loc2 k1 k2 => hQ a2 w2 X2 loc2 k1 (g2.trans k2))
      have := hst (wpOps P all Q (List.range' (k + 1) n)) Q (fun c w' X' loc' g1 g2 => hKK _ w' X' loc' g1 g2)
      have harr : all.toList[k]'(by simpa using hlt) = all[k] := by simp
      rw [harr] at this
      split
      · rename_i hw
        rw [if_pos hw] at this
        exact .inl this
      · rename_i hw
        rw [if_neg hw] at this
        exact this
    · cases h
theorem region_ok (hE : EnvOk P E) {id : Nat} {ops : Array Oper} {s' : St} (h : runOps P E ops ops.toList s = some s') (hs : SR w X loc s a) {Q : Exit → Act → World → Prop}
    (hQ : ∀ a' w' X' loc', SR w' X' loc' s' a' → Evo w X (s.hc loc) w' X' (s'.hc loc') → Q .normal a' w') : (Code.region id ops false).wp P Q a w := by
  refine wp_region ?_
  have := runOps_ok hE (all := ops) Q ops.size 0 (by omega) (by simpa using h) hs hQ
  rwa [List.range_eq_range']
end
section
variable {P : Program} {E : Env} {T T' : List AV} {H H' : List Blk} {c c' : Nat}
theorem evs_congr {as : Array Operand} (h : ∀ x ∈ as.toList, ev T x = ev T' x) : as.toList.map (ev T) = as.toList.map (ev T') := List.map_congr_left h
theorem parts_congr {ps : Array (Nat × Operand)} (h : ∀ x ∈ (ps.toList.map (·.2)), ev T x = ev T' x) : (ps.toList.map fun p => (p.1, ev T p.2)) = ps.toList.map fun p => (p.1, ev T' p.2) := by
  refine List.map_congr_left fun p hp => ?_
  rw [h p.2 (List.mem_map.2 ⟨p, hp, rfl⟩)]
theorem boundO_congr {x : Option Operand} (h : ∀ y ∈ x.toArray.toList, ev T y = ev T' y) (d hi : Nat) : boundO T x d hi = boundO T' x d hi := by
  cases x with
  | none => rfl
  | some x => simp only [boundO]; rw [h x (by simp [Option.toArray])]
theorem concO_congr {x : Option Operand} (h : ∀ y ∈ x.toArray.toList, ev T y = ev T' y) : concO T x = concO T' x := by
  cases x with
  | none => rfl
  | some x => simp only [concO]; rw [h x (by simp [Option.toArray])]
theorem rval_congr (op : Op) (h : ∀ x ∈ op.operands.toList, ev T x = ev T' x) : rval P ⟨T, H, c⟩ op = rval P ⟨T', H, c'⟩ op := by
  cases op with
  | slice t x lo hi mx =>
    simp only [Op.operands, Array.toList_append, List.mem_append] at h
    have hx := h x (by simp)
    have h1 := fun d k => boundO_congr (T := T) (T' := T') (x := lo) (fun y hy => h y (.inl (.inl (.inr hy)))) d k
    have h2 := fun d k => boundO_congr (T := T) (T' := T') (x := hi) (fun y hy => h y (.inl (.inr hy))) d k
    have h3 := fun d k => boundO_congr (T := T) (T' := T') (x := mx) (fun y hy => h y (.inr hy)) d k
    have k1 := concO_congr (T := T) (T' := T') (x := lo) (fun y hy => h y (.inl (.inl (.inr hy))))
    have k2 := concO_congr (T := T) (T' := T') (x := hi) (fun y hy => h y (.inl (.inr hy)))
    have k3 := concO_congr (T := T) (T' := T') (x := mx) (fun y hy => h y (.inr hy))
    simp only [rval, hx, h1, h2, h3, k1, k2, k3]
  | build t ps =>
    have := parts_congr (T := T) (T' := T') (ps := ps) (by simpa [Op.operands] using h)
    simp only [rval, this]
  | makeFunc f first caps =>
    have := evs_congr (T := T) (T' := T') (as := caps) (fun x hx => h x (by simp [Op.operands] at hx ⊢; exact .inr hx))
    cases f <;> simp only [rval, this]
  | call cl =>
    obtain ⟨cal, args, ats⟩ := cl
    have hm : ∀ x ∈ args.toList, ev T x = ev T' x := fun x hx => h x (by
      simp only [Op.operands, Call.operands]
      simp at hx ⊢
      first | exact .inr hx | exact hx | exact .inl hx)
    have hc := evs_congr (as := args) hm
    cases cal with
    | builtin b =>
      cases b <;> simp only [rval, hc]
      obtain ⟨args⟩ := args
      simp only at hm
      generalize ats.toList = tl
      match tl, args with
      | [], _ => rfl
      | _ :: _ :: _, _ => rfl
      | [t], [] => rfl
      | [t], _ :: _ :: _ => rfl
      | [t], [x] =>
        have hx := hm x (by simp)
        simp only [hx]
    | _ => simp only [rval]
  | _ => simp [Op.operands] at h <;> simp only [rval, h]
theorem target_congr {op : Op} (h : ∀ x ∈ op.operands.toList, ev T x = ev T' x) : target ⟨T, H, c⟩ op = target ⟨T', H', c'⟩ op := by
  unfold target
  cases op with
  | call cl =>
    obtain ⟨cal, args, ats⟩ := cl
    cases cal with
    | value f =>
      have hm : ∀ x ∈ args.toList, ev T x = ev T' x := fun x hx => h x (by
        simp only [Op.operands, Call.operands]
        simp at hx ⊢
        first | exact .inr hx | exact hx | exact .inl hx)
      have hf : ev T f = ev T' f := h f (by simp [Op.operands, Call.operands])
      simp only [hf, evs_congr hm]
    | _ => rfl
  | _ => rfl
theorem isPure_congr {op : Op} (h : ∀ x ∈ op.operands.toList, ev T x = ev T' x) : isPure E ⟨T, H, c⟩ op = isPure E ⟨T', H', c'⟩ op := by
  unfold isPure
  rw [target_congr (H' := H') (c' := c') h]
theorem pval_congr {op : Op} (h : ∀ x ∈ op.operands.toList, ev T x = ev T' x) : pval P E ⟨T, H, c⟩ op = pval P E ⟨T', H, c'⟩ op := by
  unfold pval
  rw [target_congr (H' := H) (c' := c') h, rval_congr (c' := c') op h]
theorem hstep_congr {op : Op} {d : Option Nat} {s' : St} (h : ∀ x ∈ op.operands.toList, ev T x = ev T' x) (hs : hstep P ⟨T, H, c⟩ op d = some s') :
    ∃ v, s' = ⟨putT T d v, s'.H, s'.cnt⟩ ∧ hstep P ⟨T', H, c⟩ op d = some ⟨putT T' d v, s'.H, s'.cnt⟩ := by
  cases op with
  | box t x =>
    have hx := h x (by simp [Op.operands])
    simp only [hstep, ← hx] at hs ⊢
    clear hx h
    split at hs
    · rename_i h1
      cases hs
      refine ⟨_, by rw [put_eq], ?_⟩
      rw [if_pos h1, put_eq, put_eq]
    · cases hs
  | alloc t =>
    simp only [hstep] at hs ⊢
    repeat' split at hs
    all_goals first | (cases hs; done) | skip
    cases hs
    refine ⟨_, by rw [put_eq], ?_⟩
    simp_all [put_eq]
  | store t x y =>
    have hx := h x (by simp [Op.operands])
    have hy := h y (by simp [Op.operands])
    simp only [hstep, ← hx, ← hy] at hs ⊢
    clear hx hy h
    repeat' split at hs
    all_goals first | (cases hs; done) | skip
    cases hs
    refine ⟨_, by rw [put_eq], ?_⟩
    simp_all [put_eq]
  | buildSlice t len ps =>
    have hp := parts_congr (T := T) (T' := T') (ps := ps) (by simpa [Op.operands] using h)
    simp only [hstep, ← hp] at hs ⊢
    clear hp h
    repeat' split at hs
    all_goals first | (cases hs; done) | skip
    cases hs
    refine ⟨_, by rw [put_eq], ?_⟩
    simp_all [put_eq]
  | makeSlice t x y =>
    have hx := h x (by simp [Op.operands])
    have hy := h y (by simp [Op.operands])
    simp only [hstep, ← hx, ← hy] at hs ⊢
    clear hx hy h
    repeat' split at hs
    all_goals first | (cases hs; done) | skip
    cases hs
    refine ⟨_, by rw [put_eq], ?_⟩
    simp_all [put_eq]
  | call cl =>
    obtain ⟨cal, args, ats⟩ := cl
    have hm : ∀ x ∈ args.toList, ev T x = ev T' x := fun x hx => h x (by
      simp only [Op.operands, Call.operands]
      simp at hx ⊢
      first | exact .inr hx | exact hx | exact .inl hx)
    cases cal with
    | builtin b =>
      cases b <;> simp only [hstep] at hs <;> first | (cases hs; done) | skip
      · simp only [hstep]
        obtain ⟨args⟩ := args
        simp only at hm hs ⊢
        generalize ats.toList = tl at hs ⊢
        match tl, args, hm, hs with
        | [t, t'], [x, y], hm, hs =>
          have hx := hm x (by simp)
          have hy := hm y (by simp)
          simp only [← hx, ← hy] at hs ⊢
          clear hx hy hm h
          repeat' split at hs
          all_goals first | (cases hs; done) | skip
          all_goals
            cases hs
            refine ⟨_, by rw [put_eq], ?_⟩
            simp_all [put_eq]
      · simp only [hstep]
        obtain ⟨args⟩ := args
        simp only at hm hs ⊢
        generalize ats.toList = tl at hs ⊢
        match tl, args, hm, hs with
        | [t], [x], hm, hs =>
          have hx := hm x (by simp)
          simp only [← hx] at hs ⊢
          clear hx hm h
          repeat' split at hs
          all_goals first | (cases hs; done) | skip
          all_goals
            cases hs
            refine ⟨_, by rw [put_eq], ?_⟩
            simp_all [put_eq]
      · simp only [hstep]
        obtain ⟨args⟩ := args
        simp only at hm hs ⊢
        generalize ats.toList = tl at hs ⊢
        match tl, args, hm, hs with
        | [t, t'], [x, y], hm, hs =>
          have hx := hm x (by simp)
          have hy := hm y (by simp)
          simp only [← hx, ← hy] at hs ⊢
          clear hx hy hm h
          repeat' split at hs
          all_goals first | (cases hs; done) | skip
          all_goals
            cases hs
            refine ⟨_, by rw [put_eq], ?_⟩
            simp_all [put_eq]
    | _ => simp only [hstep] at hs; cases hs
  | _ => simp only [hstep] at hs; cases hs
theorem hval_congr {o : Oper} {s' : St} (h : ∀ x ∈ o.op.operands.toList, ev T x = ev T' x) (hs : hval P E ⟨T, H, c⟩ o = some s') :
    ∃ v, s' = ⟨putT T o.dst v, s'.H, s'.cnt⟩ ∧ hval P E ⟨T', H, c⟩ o = some ⟨putT T' o.dst v, s'.H, s'.cnt⟩ := by
  unfold hval at hs ⊢
  split at hs
  · rename_i hc
    rw [if_pos hc, ← target_congr (H := H) (c := c) h]
    split at hs
    · rename_i g args ht
      simp only at hs ⊢
      split at hs
      · rename_i r H1 c1 hr
        cases hs
        simp only [put_eq]
        exact ⟨r, rfl, rfl⟩
      · cases hs
    · cases hs
  · rename_i hc
    rw [if_neg hc]
    exact hstep_congr h hs
theorem opStep_congr {ops : Array Oper} {o : Oper} {s' : St} (h : ∀ t ∈ o.looksAt ops, T.getD t .un = T'.getD t .un) (hs : opStep P E ops ⟨T, H, c⟩ o = some s') :
    ∃ v, s' = ⟨putT T o.dst v, s'.H, s'.cnt⟩ ∧ opStep P E ops ⟨T', H, c⟩ o = some ⟨putT T' o.dst v, s'.H, s'.cnt⟩ := by
  have h1 : ∀ x ∈ o.op.operands.toList, ev T x = ev T' x := by
    intro x hx
    cases x with
    | tmp t => exact h t (by
        unfold Oper.looksAt
        exact List.mem_append_left _ (List.mem_filterMap.2 ⟨.tmp t, hx, rfl⟩))
    | _ => rfl
  have hp := pval_congr (P := P) (E := E) (H := H) (c := c) (c' := c) h1
  have hi := isPure_congr (E := E) (H := H) (c := c) (H' := H) (c' := c) h1
  unfold opStep at hs ⊢
  rw [← hp, ← hi]
  split at hs
  · split at hs
    · rename_i hpure
      rw [if_pos hpure]
      simp only [Option.map_eq_some_iff] at hs
      obtain ⟨v, hv, rfl⟩ := hs
      exact ⟨v, by rw [put_eq], by rw [hv]; simp [put_eq]⟩
    · rename_i hpure
      rw [if_neg hpure]
      exact hval_congr h1 hs
  · rename_i j want hg
    have h2 : guardV ops ⟨T, H, c⟩ j = guardV ops ⟨T', H, c⟩ j := by
      unfold guardV
      cases hd : (ops[j]?).bind (·.dst) with
      | none => rfl
      | some d => exact h d (by unfold Oper.looksAt; rw [hg]; simp [hd])
    rw [← h2]
    split at hs
    · rename_i b hb
      by_cases hpure : isPure E ⟨T, H, c⟩ o.op = true
      · rw [if_pos hpure] at hs ⊢
        simp only [Option.map_eq_some_iff] at hs
        obtain ⟨v, hv, rfl⟩ := hs
        exact ⟨v, by rw [put_eq], by rw [hv]; simp [put_eq]⟩
      · rw [if_neg hpure] at hs ⊢
        by_cases hbw : b = want
        · rw [if_pos hbw] at hs ⊢
          exact hval_congr h1 hs
        · rw [if_neg hbw] at hs ⊢
          cases hs
          exact ⟨.un, by rw [put_eq], by rw [put_eq, put_eq]⟩
    · cases hs
      exact ⟨.un, by rw [put_eq], by rw [put_eq, put_eq]⟩
    · cases hs
end
def maskOf (acc : List Nat) (o : Oper) : Nat :=
  o.after.toList.foldl (fun m e => if Region.binds .any e = true then m ||| (1 <<< e.on) ||| acc.getD e.on 0 else m) 0
def masksFrom : List Oper → List Nat → List Nat
  | [], acc => acc
  | o :: r, acc => masksFrom r (acc ++ [maskOf acc o])
def masks (ops : Array Oper) : List Nat := masksFrom ops.toList []
def before (ops : Array Oper) (i k : Nat) : Bool := ((masks ops).getD k 0).testBit i
def ClosedL (ops : Array Oper) (L : Nat → Bool) : Prop := ∀ j oj, ops[j]? = some oj → L j = true → ∀ e ∈ oj.after, Region.binds .any e = true → L e.on = true
def DepsIn (ops : Array Oper) (L : Nat → Bool) (k : Nat) : Prop := ∀ o, ops[k]? = some o → ∀ e ∈ o.after, Region.binds .any e = true → L e.on = true
theorem maskOf_spec (acc : List Nat) (o : Oper) (i : Nat) (h : (maskOf acc o).testBit i = true) : ∃ e ∈ o.after, Region.binds .any e = true ∧ (e.on = i ∨ (acc.getD e.on 0).testBit i = true) := by
  unfold maskOf at h
  have key : ∀ (l : List Edge) (m : Nat), (l.foldl (fun m e => if Region.binds .any e = true then m ||| (1 <<< e.on) ||| acc.getD e.on 0 else m) m).testBit i = true →
      m.testBit i = true ∨ ∃ e ∈ l, Region.binds .any e = true ∧ (e.on = i ∨ (acc.getD e.on 0).testBit i = true) := by
    intro l
    induction l with
    | nil => intro m h; exact .inl h
    | cons e l ih =>
      intro m h
      rw [List.foldl_cons] at h
      rcases ih _ h with h1 | ⟨e', he', h1⟩
      · split at h1
        · rename_i hb
          rw [Nat.testBit_or, Nat.testBit_or] at h1
          simp only [Bool.or_eq_true] at h1
          rcases h1 with (h1 | h1) | h1
          · exact .inl h1
          · refine .inr ⟨e, List.mem_cons_self, hb, .inl ?_⟩
            rw [Nat.testBit_shiftLeft] at h1
            simp only [Bool.and_eq_true, decide_eq_true_eq] at h1
            have := h1.2
            by_cases hz : i - e.on = 0
            · omega
            · obtain ⟨q, hq⟩ : ∃ q, i - e.on = q + 1 := ⟨i - e.on - 1, by omega⟩
              rw [hq, Nat.testBit_succ] at this
              simp at this
          · exact .inr ⟨e, List.mem_cons_self, hb, .inr h1⟩
        · exact .inl h1
      · exact .inr ⟨e', List.mem_cons_of_mem _ he', h1⟩
  rcases key _ _ h with h1 | ⟨e, he, h1⟩
  · simp at h1
  · exact ⟨e, by simpa using he, h1⟩
def MaskOk (ops : Array Oper) (acc : List Nat) : Prop :=
  ∀ k i, k < acc.length → (acc.getD k 0).testBit i = true → ∀ L, ClosedL ops L → DepsIn ops L k → L i = true
theorem masksFrom_ok (ops : Array Oper) : ∀ (l : List Oper) (acc : List Nat), ops.toList.drop acc.length = l → MaskOk ops acc → MaskOk ops (masksFrom l acc)
  | [], acc, _, h => h
  | o :: r, acc, hl, h => by
    have hlt : acc.length < ops.toList.length := by
      rcases Nat.lt_or_ge acc.length ops.toList.length with h | h
      · exact h
      · rw [List.drop_eq_nil_of_le h] at hl; cases hl
    have ho : ops[acc.length]? = some o := by
      rw [List.drop_eq_getElem_cons hlt] at hl
      injection hl with h1 h2
      rw [← h1]; simp at hlt; simp [hlt]
    refine masksFrom_ok ops r (acc ++ [maskOf acc o]) (by
      rw [List.length_append, List.length_singleton, ← List.drop_drop, hl, List.drop_succ_cons, List.drop_zero]) ?_
    intro k i hk hb L hc hd
    rw [List.getD_eq_getElem?_getD, List.getElem?_append] at hb
    by_cases hka : k < acc.length
    · rw [if_pos hka, ← List.getD_eq_getElem?_getD] at hb
      exact h k i hka hb L hc hd
    · have hke : k = acc.length := by rw [List.length_append, List.length_singleton] at hk; omega
      rw [if_neg hka, hke, Nat.sub_self] at hb
      simp only [List.getElem?_cons_zero, Option.getD_some] at hb
      obtain ⟨e, he, hbd, h1⟩ := maskOf_spec acc o i hb
      have hon := hd o (by rw [hke]; exact ho) e he hbd
      rcases h1 with h1 | h1
      · rw [← h1]; exact hon
      · by_cases hel : e.on < acc.length
        · exact h e.on i hel h1 L hc (fun o' ho' e' he' hb' => hc e.on o' ho' hon e' he' hb')
        · rw [List.getD_eq_getElem?_getD, List.getElem?_eq_none (by omega)] at h1
          simp at h1
theorem before_ok {ops : Array Oper} {i k : Nat} (h : before ops i k = true) {L : Nat → Bool} (hc : ClosedL ops L) (hd : DepsIn ops L k) : L i = true := by
  have := masksFrom_ok ops ops.toList [] rfl (fun k i hk => by simp at hk)
  unfold before masks at h
  by_cases hk : k < (masksFrom ops.toList []).length
  · exact this k i hk h L hc hd
  · rw [List.getD_eq_getElem?_getD, List.getElem?_eq_none (by omega)] at h
    simp at h
theorem before_in {ops : Array Oper} {i k : Nat} (h : before ops i k = true) {L : Nat → Bool} (hc : ClosedL ops L) (hk : L k = true) : L i = true :=
  before_ok h hc (fun o ho e he hb => hc k o ho hk e he hb)
def dstOf (ops : Array Oper) (k : Nat) : Option Nat := (ops[k]?).bind (·.dst)
variable {κ : Nat → Bool}
def heapish (o : Oper) : Bool := isCall o.op || isHeapOp o.op
def conflict (κ : Nat → Bool) (ops : Array Oper) (x y : Oper) : Bool := !(x.apart ops y) || (hopB κ x.op && hopB κ y.op && !lateB y)
def heapAt (κ : Nat → Bool) (ops : Array Oper) (h : Nat) : Bool := match ops[h]? with | some o => hopB κ o.op | none => false
def gB (κ : Nat → Bool) (ops : Array Oper) (i k : Nat) : Bool :=
  if heapAt κ ops i = true then (List.range (i + 1)).all fun h => !heapAt κ ops h || h == k || before ops h k else before ops i k
def mayB (κ : Nat → Bool) (ops : Array Oper) (k : Nat) : Bool := match ops[k]? with | some o => lateB o && !gB κ ops k k | none => false
def soleB (κ : Nat → Bool) (ops : Array Oper) (k : Nat) : Bool := match dstOf ops k with
  | none => true
  | some d => (List.range ops.size).all fun j => j == k || (match ops[j]? with | some o => (o.dst != some d) && (!(o.looksAt ops).contains d || gB κ ops k j) | none => true)
def drawB (κ : Nat → Bool) (ops : Array Oper) : Bool :=
  let ms := masks ops
  ((List.range ops.size).all fun k => match ops[k]? with
    | some ok => (ok.after.all fun e => !Region.binds .any e || decide (e.on < k)) && (List.range k).all fun i => match ops[i]? with
      | some oi => !(conflict κ ops oi ok) || (ms.getD k 0).testBit i
      | none => true
    | none => true) && (List.range ops.size).all fun k => !mayB κ ops k || soleB κ ops k
theorem drawB_spec {ops : Array Oper} (h : drawB κ ops = true) {i k : Nat} {oi ok : Oper} (hi : ops[i]? = some oi) (hk : ops[k]? = some ok) (hik : i < k) (hc : conflict κ ops oi ok = true) : before ops i k = true := by
  have h0 := (Bool.and_eq_true _ _ ▸ h : _ ∧ _).1
  have h1 := List.all_eq_true.1 h0 k (List.mem_range.2 (Array.getElem?_eq_some_iff.1 hk).1)
  simp only [hk, Bool.and_eq_true] at h1
  have h2 := List.all_eq_true.1 h1.2 i (List.mem_range.2 hik)
  simp only [hi, hc, Bool.not_true, Bool.false_or] at h2
  exact h2
theorem drawB_edge {ops : Array Oper} (h : drawB κ ops = true) {k : Nat} {ok : Oper} (hk : ops[k]? = some ok) {e : Edge} (he : e ∈ ok.after) (hb : Region.binds .any e = true) : e.on < k := by
  have h0 := (Bool.and_eq_true _ _ ▸ h : _ ∧ _).1
  have h1 := List.all_eq_true.1 h0 k (List.mem_range.2 (Array.getElem?_eq_some_iff.1 hk).1)
  simp only [hk, Bool.and_eq_true] at h1
  have := Array.all_eq_true_iff_forall_mem.1 h1.1 e he
  simpa [hb] using this
theorem drawB_sole {ops : Array Oper} (h : drawB κ ops = true) {k : Nat} (hk : mayB κ ops k = true) : soleB κ ops k = true := by
  have h0 := (Bool.and_eq_true _ _ ▸ h : _ ∧ _).2
  have hlt : k < ops.size := by
    rcases Nat.lt_or_ge k ops.size with h | h
    · exact h
    · unfold mayB at hk; rw [Array.getElem?_eq_none h] at hk; cases hk
  have h1 := List.all_eq_true.1 h0 k (List.mem_range.2 hlt)
  rw [hk] at h1
  simpa using h1
theorem gB_spec {ops : Array Oper} {i k h : Nat} (hi : heapAt κ ops i = true) (hg : gB κ ops i k = true) (hh : heapAt κ ops h = true) (hle : h ≤ i) (hne : h ≠ k) : before ops h k = true := by
  unfold gB at hg
  rw [if_pos hi] at hg
  have := List.all_eq_true.1 hg h (List.mem_range.2 (by omega))
  have hq : (h == k) = false := by simpa using hne
  simpa [hh, hq] using this
theorem gB_of {ops : Array Oper} {i k : Nat} (hi : heapAt κ ops i = false) : gB κ ops i k = before ops i k := by unfold gB; rw [hi]; simp
theorem soleB_dst {ops : Array Oper} {k j d : Nat} {o : Oper} (h : soleB κ ops k = true) (hd : dstOf ops k = some d) (hj : ops[j]? = some o) (hne : j ≠ k) : o.dst ≠ some d ∧ (d ∈ o.looksAt ops → gB κ ops k j = true) := by
  unfold soleB at h
  rw [hd] at h
  have := List.all_eq_true.1 h j (List.mem_range.2 (Array.getElem?_eq_some_iff.1 hj).1)
  have hq : (j == k) = false := by simpa using hne
  simp only [hj, hq, Bool.false_or, Bool.and_eq_true, bne_iff_ne, ne_eq, Bool.or_eq_true, Bool.not_eq_true', List.contains_eq_mem] at this
  refine ⟨this.1, fun hm => ?_⟩
  rcases this.2 with h | h
  · simp [hm] at h
  · exact h
section
variable {P : Program} {E : Env}
theorem pure_heap {ops : Array Oper} {s s' : St} {o : Oper} (hp : isPure E s o.op = true) (h : opStep P E ops s o = some s') : s'.H = s.H ∧ s'.cnt = s.cnt := by
  unfold opStep at h
  split at h
  · simp only [hp, if_true, Option.map_eq_some_iff] at h
    obtain ⟨v, _, rfl⟩ := h
    cases o.dst <;> exact ⟨rfl, rfl⟩
  · split at h
    · simp only [hp, if_true, Option.map_eq_some_iff] at h
      obtain ⟨v, _, rfl⟩ := h
      cases o.dst <;> exact ⟨rfl, rfl⟩
    · cases h
      cases o.dst <;> exact ⟨rfl, rfl⟩
    · cases h
theorem notpure_heapish {s : St} {o : Oper} (h : isPure E s o.op = false) : heapish o = true := by
  unfold isPure at h
  unfold heapish
  cases hc : isCall o.op with
  | true => rfl
  | false => rw [hc] at h; simpa using h
def hd (κ : Nat → Bool) (ops : Array Oper) (tr : Nat → St) (h : Nat) : Prop := ∃ o, ops[h]? = some o ∧ hopB κ o.op = true
theorem hd_iff {ops : Array Oper} {tr : Nat → St} {h : Nat} : hd κ ops tr h ↔ heapAt κ ops h = true := by
  unfold hd heapAt
  constructor
  · rintro ⟨o, h1, h2⟩; rw [h1]; exact h2
  · intro h1
    split at h1
    · rename_i o ho; exact ⟨o, ho, h1⟩
    · cases h1
structure Trace (P : Program) (E : Env) (κ : Nat → Bool) (ops : Array Oper) (tr : Nat → St) : Prop where
  step : ∀ i o, ops[i]? = some o → opStep P E ops (tr i) o = some (tr (i + 1))
  keep : ∀ i o, ops[i]? = some o → hopB κ o.op = false → (tr (i + 1)).H = (tr i).H ∧ (tr (i + 1)).cnt = (tr i).cnt
  past : ∀ i o h, ops[i]? = some o → hopB κ o.op = false → h < i → hd κ ops tr h → gB κ ops h i = false →
    opStep P E ops ⟨(tr i).T, (tr h).H, (tr h).cnt⟩ o = some ⟨(tr (i + 1)).T, (tr h).H, (tr h).cnt⟩
  fut : ∀ i o h, ops[i]? = some o → hopB κ o.op = false → i < h → hd κ ops tr h → before ops i h = false →
    opStep P E ops ⟨(tr i).T, (tr (h + 1)).H, (tr (h + 1)).cnt⟩ o = some ⟨(tr (i + 1)).T, (tr (h + 1)).H, (tr (h + 1)).cnt⟩
  born : ∀ i o, ops[i]? = some o → lateB o = true → gB κ ops i i = false → norefs (lastEls (tr (i + 1)).H) = true
variable {ops : Array Oper} {tr : Nat → St}
theorem Trace.same (ht : Trace P E κ ops tr) : ∀ (d i : Nat), i + d ≤ ops.size → (∀ j, i ≤ j → j < i + d → heapAt κ ops j = false) → (tr (i + d)).H = (tr i).H ∧ (tr (i + d)).cnt = (tr i).cnt
  | 0, i, _, _ => ⟨rfl, rfl⟩
  | d + 1, i, hl, h => by
    obtain ⟨e1, e2⟩ := ht.same d i (by omega) (fun j h1 h2 => h j h1 (by omega))
    have hlt : i + d < ops.size := by omega
    have ho : ops[i + d]? = some ops[i + d] := by simp [hlt]
    have hp : hopB κ ops[i + d].op = false := by
      have := h (i + d) (by omega) (by omega)
      simpa [heapAt, ho] using this
    obtain ⟨g1, g2⟩ := ht.keep _ _ ho hp
    exact ⟨by rw [show i + (d + 1) = i + d + 1 by omega, g1, e1], by rw [show i + (d + 1) = i + d + 1 by omega, g2, e2]⟩
def valOf (ops : Array Oper) (tr : Nat → St) (k : Nat) : AV := match dstOf ops k with | some d => (tr (k + 1)).T.getD d .un | none => .un
def valM (κ : Nat → Bool) (ops : Array Oper) (tr : Nat → St) (m k : Nat) : AV := if m ≤ k ∧ heapAt κ ops k = true then .jk else valOf ops tr k
def TofV (ops : Array Oper) (T0 : List AV) (val : Nat → AV) : Nat → (Nat → Bool) → List AV
  | 0, _ => T0
  | k + 1, L => if L k = true then putT (TofV ops T0 val k L) (dstOf ops k) (val k) else TofV ops T0 val k L
theorem putT_len (T : List AV) (d : Option Nat) (v : AV) : (putT T d v).length = T.length := by cases d <;> simp [putT]
theorem putT_comm (T : List AV) {d d' : Option Nat} (v v' : AV) (h : ∀ x, d = some x → d' ≠ some x) : putT (putT T d v) d' v' = putT (putT T d' v') d v := by
  cases d with
  | none => rfl
  | some x => cases d' with
    | none => rfl
    | some y =>
      have : x ≠ y := fun e => h x rfl (by rw [e])
      simp only [putT]
      rw [List.set_comm _ _ this]
theorem putT_twice (T : List AV) (d : Option Nat) (v v' : AV) : putT (putT T d v) d v' = putT T d v' := by
  cases d <;> simp [putT]
variable {T0 : List AV} {val val' : Nat → AV}
theorem TofV_len (L : Nat → Bool) : ∀ n, (TofV ops T0 val n L).length = T0.length
  | 0 => rfl
  | n + 1 => by
    rw [TofV]; split
    · rw [putT_len, TofV_len L n]
    · exact TofV_len L n
theorem TofV_ext {L L' : Nat → Bool} : ∀ n, (∀ j, j < n → L j = L' j ∧ (L j = true → val j = val' j)) → TofV ops T0 val n L = TofV ops T0 val' n L'
  | 0, _ => rfl
  | n + 1, h => by
    have ih := TofV_ext (L := L) (L' := L') n (fun j hj => h j (by omega))
    obtain ⟨h1, h2⟩ := h n (by omega)
    rw [TofV, TofV, ← h1, ih]
    split
    · rename_i hq; rw [h2 hq]
    · rfl
theorem TofV_agree {L L' : Nat → Bool} (r : Nat) : ∀ n, (∀ j, j < n → dstOf ops j = some r → L j = L' j ∧ (L j = true → val j = val' j)) → (TofV ops T0 val n L)[r]? = (TofV ops T0 val' n L')[r]?
  | 0, _ => rfl
  | n + 1, h => by
    have ih := TofV_agree (L := L) (L' := L') r n (fun j hj => h j (by omega))
    have hl : (TofV ops T0 val n L).length = (TofV ops T0 val' n L').length := by rw [TofV_len, TofV_len]
    have put : ∀ (T : List AV) (v : AV), dstOf ops n ≠ some r → (putT T (dstOf ops n) v)[r]? = T[r]? := by
      intro T v hne
      cases hd : dstOf ops n with
      | none => rfl
      | some d =>
        have : d ≠ r := fun e => hne (by rw [hd, e])
        simp only [putT]
        rw [List.getElem?_set_ne this]
    by_cases hd : dstOf ops n = some r
    · obtain ⟨h1, h2⟩ := h n (by omega) hd
      rw [TofV, TofV, ← h1]
      split
      · rename_i hq
        rw [hd, h2 hq]
        simp only [putT]
        rw [List.getElem?_set, List.getElem?_set]
        simp [hl]
      · exact ih
    · rw [TofV, TofV]
      split <;> split <;> simp only [put _ _ hd, ih]
theorem TofV_pre {L : Nat → Bool} {i : Nat} (hL : ∀ j, i ≤ j → L j = false) : ∀ d, TofV ops T0 val (i + d) L = TofV ops T0 val i L
  | 0 => rfl
  | d + 1 => by
    rw [show i + (d + 1) = (i + d) + 1 by omega, TofV, if_neg (by rw [hL (i + d) (by omega)]; decide), TofV_pre hL d]
theorem TofV_add {L : Nat → Bool} {i : Nat} (hi : L i = false) : ∀ n, i < n → (∀ j, i < j → j < n → L j = true → ∀ d, dstOf ops i = some d → dstOf ops j ≠ some d) →
    TofV ops T0 val n (fun j => L j || j == i) = putT (TofV ops T0 val n L) (dstOf ops i) (val i)
  | 0, h, _ => by omega
  | n + 1, h, hw => by
    by_cases hin : i = n
    · subst hin
      rw [TofV, TofV, if_pos (by simp), if_neg (by rw [hi]; decide)]
      congr 1
      refine TofV_ext _ fun j hj => ⟨?_, fun _ => rfl⟩
      have : (j == i) = false := by simp; omega
      simp [this]
    · have ih := TofV_add (L := L) hi n (by omega) (fun j h1 h2 => hw j h1 (by omega))
      have hq : (n == i) = false := by simp; omega
      rw [TofV, TofV, ih]
      simp only [hq, Bool.or_false]
      split
      · rename_i hL
        exact putT_comm _ _ _ (hw n (by omega) (by omega) hL)
      · rfl
theorem TofV_chg {L : Nat → Bool} {m : Nat} (hm : L m = true) (hv : ∀ j, j ≠ m → val j = val' j) : ∀ n, m < n → (∀ j, m < j → j < n → L j = true → ∀ d, dstOf ops m = some d → dstOf ops j ≠ some d) →
    TofV ops T0 val' n L = putT (TofV ops T0 val n L) (dstOf ops m) (val' m)
  | 0, h, _ => by omega
  | n + 1, h, hw => by
    by_cases hin : m = n
    · subst hin
      rw [TofV, TofV, if_pos hm, if_pos hm, putT_twice]
      congr 1
      exact TofV_ext _ fun j hj => ⟨rfl, fun _ => (hv j (by omega)).symm⟩
    · have ih := TofV_chg (L := L) hm hv n (by omega) (fun j h1 h2 => hw j h1 (by omega))
      rw [TofV, TofV, ih, hv n (fun e => hin e.symm)]
      split
      · rename_i hL
        exact putT_comm _ _ _ (hw n (by omega) (by omega) hL)
      · rfl
theorem Trace.put (ht : Trace P E κ ops tr) {i : Nat} {o : Oper} (ho : ops[i]? = some o) : (tr (i + 1)).T = putT (tr i).T (dstOf ops i) (valOf ops tr i) := by
  obtain ⟨v, h1, _⟩ := opStep_congr (T := (tr i).T) (T' := (tr i).T) (H := (tr i).H) (c := (tr i).cnt) (fun _ _ => rfl) (ht.step i _ ho)
  have hdst : dstOf ops i = o.dst := by simp [dstOf, ho]
  unfold valOf
  rw [hdst, h1]
  cases hd : o.dst with
  | none => rfl
  | some d =>
    simp only [putT]
    by_cases hlt : d < (tr i).T.length
    · rw [List.getD_eq_getElem?_getD, List.getElem?_set_self hlt, Option.getD_some]
    · have hle : (tr i).T.length ≤ d := Nat.le_of_not_lt hlt
      rw [List.set_eq_of_length_le hle, List.set_eq_of_length_le hle]
theorem Trace.slots (ht : Trace P E κ ops tr) : ∀ i, i ≤ ops.size → ∀ L : Nat → Bool, (∀ j, j < i → L j = true) → TofV ops (tr 0).T (valOf ops tr) i L = (tr i).T
  | 0, _, _, _ => rfl
  | i + 1, hi, L, hL => by
    have ih := ht.slots i (by omega) L (fun j hj => hL j (by omega))
    rw [TofV, if_pos (hL i (by omega)), ih, ht.put (show ops[i]? = some ops[i] by simp)]
theorem Trace.len (ht : Trace P E κ ops tr) {i : Nat} (hi : i ≤ ops.size) : (tr i).T.length = (tr 0).T.length := by
  rw [← ht.slots i hi (fun _ => true) (fun _ _ => rfl), TofV_len]
def NormAt (κ : Nat → Bool) (ops : Array Oper) (L : Nat → Bool) (m : Nat) : Prop := m = ops.size ∨ (heapAt κ ops m = true ∧ L m = false)
theorem late_of (hB : drawB κ ops = true) {L : Nat → Bool} (hc : ClosedL ops L) {m : Nat} (hN : NormAt κ ops L m) {k : Nat} (hk : heapAt κ ops k = true) (hmk : m ≤ k) (hL : L k = true) : mayB κ ops k = true := by
  have hks : k < ops.size := by
    rcases Nat.lt_or_ge k ops.size with h | h
    · exact h
    · unfold heapAt at hk; rw [Array.getElem?_eq_none h] at hk; cases hk
  rcases hN with hN | ⟨h1, h2⟩
  · omega
  have hne : m ≠ k := fun e => by rw [e, hL] at h2; cases h2
  have hms : m < ops.size := by omega
  have hom : ops[m]? = some ops[m] := by simp
  have hok : ops[k]? = some ops[k] := by simp
  have hpm : hopB κ ops[m].op = true := by simpa [heapAt, hom] using h1
  have hpk : hopB κ ops[k].op = true := by simpa [heapAt, hok] using hk
  have nb : before ops m k = false := by
    cases hq : before ops m k with
    | false => rfl
    | true => rw [before_in hq hc hL] at h2; cases h2
  have hl : lateB ops[k] = true := by
    cases hq : lateB ops[k] with
    | true => rfl
    | false =>
      have := drawB_spec hB hom hok (by omega) (by unfold conflict; rw [hpm, hpk, hq]; simp)
      rw [nb] at this; cases this
  unfold mayB
  rw [hok]
  simp only [hl, Bool.true_and, Bool.not_eq_true']
  cases hq : gB κ ops k k with
  | false => rfl
  | true =>
    have := gB_spec hk hq h1 hmk hne
    rw [nb] at this; cases this
theorem Trace.looks (hB : drawB κ ops = true) (ht : Trace P E κ ops tr) {L : Nat → Bool} (hc : ClosedL ops L) {i : Nat} {o : Oper} (ho : ops[i]? = some o) (hi : L i = false) (hd' : DepsIn ops L i)
    {m : Nat} (hN : NormAt κ ops L m) : ∀ t ∈ o.looksAt ops, (tr i).T.getD t .un = (TofV ops (tr 0).T (valM κ ops tr m) ops.size L).getD t .un := by
  have hin : i < ops.size := (Array.getElem?_eq_some_iff.1 ho).1
  intro t htl
  have e1 : (TofV ops (tr 0).T (valOf ops tr) ops.size (fun j => decide (j < i)))[t]? = (tr i).T[t]? := by
    have := TofV_pre (ops := ops) (T0 := (tr 0).T) (val := valOf ops tr) (L := fun j => decide (j < i)) (i := i) (fun j hj => by simp; omega) (ops.size - i)
    rw [show i + (ops.size - i) = ops.size by omega] at this
    rw [this, ht.slots i (by omega) _ (fun j hj => by simpa using hj)]
  have e2 := TofV_agree (ops := ops) (T0 := (tr 0).T) (val := valOf ops tr) (val' := valM κ ops tr m) (L := fun j => decide (j < i)) (L' := L) t ops.size (by
    intro j hj hdj
    have hoj : ops[j]? = some ops[j] := by simp [hj]
    have hdj' : ops[j].dst = some t := by simpa [dstOf, hoj] using hdj
    rcases Nat.lt_trichotomy j i with hji | hji | hji
    · have hb : before ops j i = true := drawB_spec hB hoj ho hji (by
        unfold conflict Oper.apart
        simp [hdj', htl])
      have hLj := before_ok hb hc hd'
      refine ⟨by rw [hLj]; simpa using hji, fun _ => ?_⟩
      unfold valM
      split
      · exfalso
        rename_i hh
        have hmay := late_of hB hc hN hh.2 hh.1 hLj
        have hsole := drawB_sole hB hmay
        have hg := (soleB_dst hsole hdj ho (by omega)).2 htl
        rcases hN with hN | ⟨h1, h2⟩
        · omega
        · have hmj : m ≠ j := fun e => by rw [e, hLj] at h2; cases h2
          have := before_ok (gB_spec hh.2 hg h1 hh.1 (by omega)) hc hd'
          rw [h2] at this; cases this
      · rfl
    · subst hji; rw [hi]; simp
    · have : before ops i j = true := drawB_spec hB ho hoj hji (by
        unfold conflict Oper.apart
        cases o.dst <;> simp [hdj', htl])
      have hLj : L j = false := by
        cases hq : L j with
        | false => rfl
        | true => rw [before_in this hc hq] at hi; cases hi
      rw [hLj]
      have hq : decide (j < i) = false := by simp; omega
      simp [hq])
  rw [List.getD_eq_getElem?_getD, List.getD_eq_getElem?_getD, ← e1, e2]
theorem dst_free (hB : drawB κ ops = true) {L : Nat → Bool} (hc : ClosedL ops L) {i : Nat} (hi : L i = false) : ∀ j, i < j → j < ops.size → L j = true → ∀ d, dstOf ops i = some d → dstOf ops j ≠ some d := by
  intro j hij hj hL d hd hdj
  have hoj : ops[j]? = some ops[j] := by simp
  have hoi : ops[i]? = some (ops[i]'(by omega)) := by simp
  have hdj' : ops[j].dst = some d := by simpa [dstOf, hoj] using hdj
  have hdi' : (ops[i]'(by omega)).dst = some d := by simpa [dstOf, hoi] using hd
  have : before ops i j = true := drawB_spec hB hoi hoj hij (by
    unfold conflict Oper.apart
    simp [hdi', hdj'])
  rw [before_in this hc hL] at hi; cases hi
theorem Trace.pureAt (ht : Trace P E κ ops tr) {L : Nat → Bool} (hc : ClosedL ops L) {i : Nat} {o : Oper} (ho : ops[i]? = some o) (hi : L i = false) (hd' : DepsIn ops L i) (hp : hopB κ o.op = false)
    {m : Nat} (hm : m ≤ ops.size) (hlo : ∀ h, h < m → heapAt κ ops h = true → L h = true) (hN : NormAt κ ops L m) :
    opStep P E ops ⟨(tr i).T, (tr m).H, (tr m).cnt⟩ o = some ⟨(tr (i + 1)).T, (tr m).H, (tr m).cnt⟩ := by
  have hin : i < ops.size := (Array.getElem?_eq_some_iff.1 ho).1
  have lex : opStep P E ops ⟨(tr i).T, (tr i).H, (tr i).cnt⟩ o = some ⟨(tr (i + 1)).T, (tr i).H, (tr i).cnt⟩ := by
    have h0 := ht.step i o ho
    obtain ⟨g1, g2⟩ := ht.keep i o ho hp
    rw [h0, ← g1, ← g2]
  rcases Nat.lt_or_ge i m with him | him
  ·
    have up : ∀ d, i + 1 + d ≤ m → opStep P E ops ⟨(tr i).T, (tr (i + 1 + d)).H, (tr (i + 1 + d)).cnt⟩ o = some ⟨(tr (i + 1)).T, (tr (i + 1 + d)).H, (tr (i + 1 + d)).cnt⟩ := by
      intro d
      induction d with
      | zero =>
        intro _
        obtain ⟨g1, g2⟩ := ht.keep i o ho hp
        rw [Nat.add_zero, g1, g2]; exact lex
      | succ d ih =>
        intro hle
        cases hh : heapAt κ ops (i + 1 + d) with
        | true =>
          have hLh : L (i + 1 + d) = true := hlo _ (by omega) hh
          have hb : before ops i (i + 1 + d) = false := by
            cases hq : before ops i (i + 1 + d) with
            | false => rfl
            | true => rw [before_in hq hc hLh] at hi; cases hi
          have := ht.fut i o (i + 1 + d) ho hp (by omega) (hd_iff.2 hh) hb
          rw [show i + 1 + (d + 1) = i + 1 + d + 1 by omega]
          exact this
        | false =>
          obtain ⟨g1, g2⟩ := ht.same 1 (i + 1 + d) (by omega) (fun j h1 h2 => by rwa [show j = i + 1 + d by omega])
          rw [show i + 1 + (d + 1) = i + 1 + d + 1 by omega, g1, g2]
          exact ih (by omega)
    have := up (m - (i + 1)) (by omega)
    rwa [show i + 1 + (m - (i + 1)) = m by omega] at this
  ·
    have down : ∀ d, d ≤ i - m → opStep P E ops ⟨(tr i).T, (tr (i - d)).H, (tr (i - d)).cnt⟩ o = some ⟨(tr (i + 1)).T, (tr (i - d)).H, (tr (i - d)).cnt⟩ := by
      intro d
      induction d with
      | zero => intro _; exact lex
      | succ d ih =>
        intro hle
        cases hh : heapAt κ ops (i - (d + 1)) with
        | true =>
          have hb : gB κ ops (i - (d + 1)) i = false := by
            cases hq : gB κ ops (i - (d + 1)) i with
            | false => rfl
            | true =>
              rcases hN with hN | ⟨h1, h2⟩
              · omega
              · have := before_ok (gB_spec hh hq h1 (by omega) (by omega)) hc hd'
                rw [h2] at this; cases this
          exact ht.past i o (i - (d + 1)) ho hp (by omega) (hd_iff.2 hh) hb
        | false =>
          obtain ⟨g1, g2⟩ := ht.same 1 (i - (d + 1)) (by omega) (fun j h1 h2 => by rwa [show j = i - (d + 1) by omega])
          rw [show i - (d + 1) + 1 = i - d by omega] at g1 g2
          rw [← g1, ← g2]
          exact ih (by omega)
    have := down (i - m) (Nat.le_refl _)
    rwa [show i - (i - m) = m by omega] at this
end
def openN (listed : Array Bool) (n : Nat) : Nat := ((List.range n).filter fun i => !listed.getD i true).length
theorem filter_lt {α : Type} {p q : α → Bool} : ∀ (l : List α), (∀ x ∈ l, q x = true → p x = true) → (∃ x ∈ l, p x = true ∧ q x = false) → (l.filter q).length < (l.filter p).length
  | [], _, h => by obtain ⟨x, hx, _⟩ := h; cases hx
  | y :: l, h1, h2 => by
    have hle : ∀ l : List α, (∀ x ∈ l, q x = true → p x = true) → (l.filter q).length ≤ (l.filter p).length := by
      intro l
      induction l with
      | nil => intro _; exact Nat.le_refl _
      | cons z l ih =>
        intro h
        have := ih (fun x hx => h x (List.mem_cons_of_mem _ hx))
        have hz := h z List.mem_cons_self
        simp only [List.filter_cons]
        cases hq : q z <;> cases hp : p z <;> simp <;> first | omega | (rw [hz hq] at hp; cases hp)
    have hl := hle l (fun x hx => h1 x (List.mem_cons_of_mem _ hx))
    have hy := h1 y List.mem_cons_self
    by_cases hex : ∃ x ∈ l, p x = true ∧ q x = false
    · have ih := filter_lt l (fun x hx => h1 x (List.mem_cons_of_mem _ hx)) hex
      simp only [List.filter_cons]
      cases hq : q y <;> cases hp : p y <;> simp <;> first | omega | (rw [hy hq] at hp; cases hp)
    · obtain ⟨x, hx, hpx, hqx⟩ := h2
      rcases List.mem_cons.1 hx with rfl | hx
      · simp only [List.filter_cons, hpx, hqx]
        simp; omega
      · exact absurd ⟨x, hx, hpx, hqx⟩ hex
section
variable {P : Program} {E : Env} {w : World} {X : Nat → Prop} {loc : Nat → Option (Nat × Nat)} {a : Act} {ops : Array Oper} {tr : Nat → St}
theorem ready_spec {listed : Array Bool} {i : Nat} (h : i ∈ Region.ready .any ops listed) : ∃ o, ops[i]? = some o ∧ listed.getD i true = false ∧ ∀ e ∈ o.after, Region.binds .any e = true → listed.getD e.on false = true := by
  unfold Region.ready at h
  simp only [List.mem_filter, List.mem_range, Bool.and_eq_true, Bool.not_eq_true'] at h
  obtain ⟨h1, h2, h3⟩ := h
  have ho : ops[i]? = some ops[i] := by simp [h1]
  rw [ho] at h3
  simp only [Option.map_some, Option.getD_some] at h3
  refine ⟨_, ho, h2, fun e he hb => ?_⟩
  have := Array.all_eq_true_iff_forall_mem.1 h3 e he
  simpa [hb] using this
theorem ready_of {listed : Array Bool} {i : Nat} {o : Oper} (ho : ops[i]? = some o) (h1 : listed.getD i true = false) (h2 : ∀ e ∈ o.after, Region.binds .any e = true → listed.getD e.on false = true) : i ∈ Region.ready .any ops listed := by
  unfold Region.ready
  simp only [List.mem_filter, List.mem_range, Bool.and_eq_true, Bool.not_eq_true']
  refine ⟨(Array.getElem?_eq_some_iff.1 ho).1, h1, ?_⟩
  rw [ho]
  simp only [Option.map_some, Option.getD_some]
  refine Array.all_eq_true_iff_forall_mem.2 fun e he => ?_
  cases hb : Region.binds .any e with
  | false => rfl
  | true => simp [h2 e he hb]
theorem getD_tf {listed : Array Bool} {i : Nat} (h : i < listed.size) : listed.getD i true = listed.getD i false := by simp [h]
theorem putT_eq {T T' : List AV} {d : Option Nat} {v v' : AV} (h : putT T d v = putT T d v') (hl : T'.length = T.length) : putT T' d v = putT T' d v' := by
  cases d with
  | none => rfl
  | some d =>
    simp only [putT] at h ⊢
    by_cases hlt : d < T.length
    · have h1 := congrArg (fun l => l[d]?) h
      simp only [List.getElem?_set_self hlt, Option.some.injEq] at h1
      rw [h1]
    · rw [List.set_eq_of_length_le (by omega), List.set_eq_of_length_le (by omega)]
def Pend (κ : Nat → Bool) (ops : Array Oper) (tr : Nat → St) (w0 w1 : World) (X1 : Nat → Prop) (hc1 : HC) (a1 : Act) (k b : Nat) : Prop :=
  w0.heap.size ≤ b ∧ mayB κ ops k = true ∧ ∃ o rv ty esz els tmp, ops[k]? = some o ∧
    tr (k + 1) = ⟨putT (tr k).T o.dst (rvOf rv (tr k).H.length (tr k).cnt), (tr k).H ++ [⟨true, (tr k).cnt, ty, esz, els, tmp⟩], (tr k).cnt + 1⟩ ∧
    Born w1 X1 hc1 b ty esz els ∧ ∀ d, o.dst = some d → d < (tr 0).T.length → ∃ v, a1.tmps.toList[d]? = some v ∧ RvV w1 rv ty esz els.length b v
theorem Pend.mono {w0 w1 w2 : World} {X1 X2 : Nat → Prop} {hc1 hc2 : HC} {a1 : Act} {k b i : Nat} {oi : Oper} {c : Value} (h : Pend κ ops tr w0 w1 X1 hc1 a1 k b) (hB : drawB κ ops = true) (hoi : ops[i]? = some oi) (hne : i ≠ k)
    (ev : Evo w1 X1 hc1 w2 X2 hc2) (hr : HR w1 X1 hc1) : Pend κ ops tr w0 w2 X2 hc2 (a1.put oi.dst c) k b := by
  obtain ⟨h1, h2, o, rv, ty, esz, els, tmp, h3, h4, h5, h6⟩ := h
  refine ⟨h1, h2, o, rv, ty, esz, els, tmp, h3, h4, h5.mono ev hr, fun d hd hlt => ?_⟩
  obtain ⟨v, g1, g2⟩ := h6 d hd hlt
  have hs := (soleB_dst (drawB_sole hB h2) (show dstOf ops k = some d by simp [dstOf, h3, hd]) hoi hne).1
  refine ⟨v, ?_, g2.mono ev⟩
  cases hq : oi.dst with
  | none => exact g1
  | some x =>
    have hx : x ≠ d := fun e => hs (by rw [hq, e])
    simp only [Act.put, Array.toList_setIfInBounds]
    rw [List.getElem?_set_ne hx]
    exact g1
structure DI (w : World) (X : Nat → Prop) (loc : Nat → Option (Nat × Nat)) (κ : Nat → Bool) (ops : Array Oper) (tr : Nat → St) (L : Nat → Bool) (m : Nat) (a1 : Act) (w1 : World) (X1 : Nat → Prop) (loc1 : Nat → Option (Nat × Nat)) : Prop where
  cl : ClosedL ops L
  ml : m ≤ ops.size
  lo : ∀ h, h < m → heapAt κ ops h = true → L h = true
  sr : SR w1 X1 loc1 ⟨TofV ops (tr 0).T (valM κ ops tr m) ops.size L, (tr m).H, (tr m).cnt⟩ a1
  ev : Evo w X ((tr 0).hc loc) w1 X1 ⟨loc1, (tr m).H, (tr m).cnt⟩
  pe : ∃ bf : Nat → Nat, (∀ k, heapAt κ ops k = true → m ≤ k → L k = true → Pend κ ops tr w w1 X1 ⟨loc1, (tr m).H, (tr m).cnt⟩ a1 k (bf k)) ∧
    ∀ k k', heapAt κ ops k = true → m ≤ k → L k = true → heapAt κ ops k' = true → m ≤ k' → L k' = true → bf k = bf k' → k = k'
theorem DI.norm (hB : drawB κ ops = true) (ht : Trace P E κ ops tr) {L : Nat → Bool} {a1 : Act} {w1 : World} {X1 : Nat → Prop} : ∀ (n : Nat) {m : Nat} {loc1 : Nat → Option (Nat × Nat)}, ops.size - m ≤ n → DI w X loc κ ops tr L m a1 w1 X1 loc1 →
    ∃ m' loc', DI w X loc κ ops tr L m' a1 w1 X1 loc' ∧ NormAt κ ops L m'
  | 0, m, loc1, hn, h => ⟨m, loc1, h, .inl (by have := h.ml; omega)⟩
  | n + 1, m, loc1, hn, h => by
    by_cases hm : m = ops.size
    · exact ⟨m, loc1, h, .inl hm⟩
    have hml := h.ml
    have hlt : m < ops.size := by omega
    cases hh : heapAt κ ops m with
    | false =>
      obtain ⟨g1, g2⟩ := ht.same 1 m (by omega) (fun j h1 h2 => by rwa [show j = m by omega])
      have hval : valM κ ops tr (m + 1) = valM κ ops tr m := by
        funext j
        unfold valM
        by_cases hj : j = m
        · subst hj; simp [hh]
        · have : (m + 1 ≤ j) ↔ (m ≤ j) := by omega
          simp only [this]
      refine DI.norm hB ht n (m := m + 1) (loc1 := loc1) (by omega) ⟨h.cl, by omega, ?_, ?_, ?_, ?_⟩
      · intro k hk hp
        by_cases hkm : k = m
        · rw [hkm, hh] at hp; cases hp
        · exact h.lo k (by omega) hp
      · rw [hval, g1, g2]; exact h.sr
      · rw [g1, g2]; exact h.ev
      · rw [g1, g2]
        obtain ⟨bf, p1, p2⟩ := h.pe
        exact ⟨bf, fun k a b c => p1 k a (by omega) c, fun k k' a b c a' b' c' => p2 k k' a (by omega) c a' (by omega) c'⟩
    | true =>
      cases hL : L m with
      | false => exact ⟨m, loc1, h, .inr ⟨hh, hL⟩⟩
      | true =>
        obtain ⟨bf, p1, p2⟩ := h.pe
        obtain ⟨q1, q2, o, rv, ty, esz, els, tmp, ho, htr, hb, hv⟩ := p1 m hh (Nat.le_refl _) hL
        have hdo : dstOf ops m = o.dst := by simp [dstOf, ho]
        have hreg := reg_ok (dst := o.dst) (rv := rv) (tmp := tmp) h.sr hb (fun d hd hl => hv d hd (by rwa [TofV_len] at hl))
        have hT : TofV ops (tr 0).T (valM κ ops tr (m + 1)) ops.size L = putT (TofV ops (tr 0).T (valM κ ops tr m) ops.size L) o.dst (rvOf rv (tr m).H.length (tr m).cnt) := by
          rw [TofV_chg (val := valM κ ops tr m) (val' := valM κ ops tr (m + 1)) hL (fun j hj => ?_) ops.size hlt (fun j h1 h2 h3 d hd => ?_)]
          · have hvm : valM κ ops tr (m + 1) m = valOf ops tr m := by unfold valM; rw [if_neg (by omega)]
            rw [hvm, hdo]
            refine putT_eq (T := (tr m).T) ?_ (by rw [TofV_len]; exact (ht.len h.ml).symm)
            rw [← hdo, ← ht.put ho, htr, hdo]
          · unfold valM
            have : (m + 1 ≤ j) ↔ (m ≤ j) := by omega
            simp only [this]
          · have hoj : ops[j]? = some ops[j] := by simp
            have := (soleB_dst (drawB_sole hB q2) hd hoj (by omega)).1
            simpa [dstOf, hoj] using this
        refine DI.norm hB ht n (m := m + 1) (loc1 := fun k => if k = (tr m).H.length then some (bf m, 0) else loc1 k) (by omega) ⟨h.cl, by omega, ?_, ?_, ?_, bf, ?_, ?_⟩
        · intro k hk hp
          by_cases hkm : k = m
          · rw [hkm]; exact hL
          · exact h.lo k (by omega) hp
        · rw [hT, htr]; exact hreg
        · rw [htr]; exact reg_evo _ rfl h.ev q1
        · intro k k1 k2 k3
          obtain ⟨r1, r2, o', rv', ty', esz', els', tmp', r3, r4, r5, r6⟩ := p1 k k1 (by omega) k3
          refine ⟨r1, r2, o', rv', ty', esz', els', tmp', r3, r4, ?_, r6⟩
          rw [htr]
          refine reg_other _ r5 fun e => ?_
          have := p2 k m k1 (by omega) k3 hh (Nat.le_refl _) hL e
          omega
        · exact fun k k' a b c a' b' c' => p2 k k' a (by omega) c a' (by omega) c'
theorem draw_any (hE : EnvOk P E) (hB : drawB κ ops = true) (ht : Trace P E κ ops tr) {Q : Exit → Act → World → Prop}
    (hQ : ∀ a' w' X' loc', SR w' X' loc' (tr ops.size) a' → Evo w X ((tr 0).hc loc) w' X' ((tr ops.size).hc loc') → Q .normal a' w') :
    ∀ (fuel : Nat) (listed : Array Bool) (a1 : Act) (w1 : World) (X1 : Nat → Prop) (loc1 : Nat → Option (Nat × Nat)) (m : Nat), listed.size = ops.size →
      DI w X loc κ ops tr (fun j => listed.getD j false) m a1 w1 X1 loc1 → openN listed ops.size ≤ fuel →
      wpAny P .any ops Q fuel listed a1 w1 := by
  intro fuel
  have done : ∀ (listed : Array Bool) (a1 : Act) (w1 : World) (X1 : Nat → Prop) (loc1 : Nat → Option (Nat × Nat)) (m : Nat), listed.size = ops.size → DI w X loc κ ops tr (fun j => listed.getD j false) m a1 w1 X1 loc1 →
      Region.ready .any ops listed = [] → Q .normal a1 w1 := by
    intro listed a1 w1 X1 loc1 m hsz hd hnil
    have hall : ∀ k, k < ops.size → listed.getD k false = true := by
      intro k
      induction k using Nat.strongRecOn with
      | _ k ih =>
        intro hk
        cases hq : listed.getD k false with
        | true => rfl
        | false =>
          have ho : ops[k]? = some ops[k] := by simp [hk]
          have := ready_of (listed := listed) ho (by rw [getD_tf (by omega)]; exact hq) (fun e he hb => ih e.on (drawB_edge hB ho he hb) (by have := drawB_edge hB ho he hb; omega))
          rw [hnil] at this; cases this
    obtain ⟨m', loc', hd', hN⟩ := hd.norm hB ht (ops.size - m) (Nat.le_refl _)
    have hm' : m' = ops.size := by
      rcases hN with hN | ⟨h1, h2⟩
      · exact hN
      · have hlt : m' < ops.size := by
          rcases Nat.lt_or_ge m' ops.size with h | h
          · exact h
          · unfold heapAt at h1; rw [Array.getElem?_eq_none h] at h1; cases h1
        have h3 := hall m' hlt
        simp only at h2
        rw [h3] at h2; cases h2
    subst hm'
    have hT : TofV ops (tr 0).T (valM κ ops tr ops.size) ops.size (fun j => listed.getD j false) = (tr ops.size).T := by
      rw [← ht.slots ops.size (Nat.le_refl _) (fun j => listed.getD j false) hall]
      refine TofV_ext _ fun j hj => ⟨rfl, fun _ => ?_⟩
      unfold valM; rw [if_neg (by omega)]
    have hs := hd'.sr
    rw [hT] at hs
    exact hQ a1 w1 X1 loc' hs hd'.ev
  induction fuel with
  | zero =>
    intro listed a1 w1 X1 loc1 m hsz hd hop
    have hnil : Region.ready .any ops listed = [] := by
      cases hr : Region.ready .any ops listed with
      | nil => rfl
      | cons i r =>
        exfalso
        obtain ⟨o, ho, h1, h2⟩ := ready_spec (ops := ops) (listed := listed) (i := i) (by rw [hr]; exact List.mem_cons_self)
        have : i ∈ (List.range ops.size).filter fun i => !listed.getD i true := by
          simp only [List.mem_filter, List.mem_range]
          exact ⟨(Array.getElem?_eq_some_iff.1 ho).1, by rw [h1]; rfl⟩
        have := List.length_pos_of_mem this
        unfold openN at hop
        omega
    exact ⟨hnil, done listed a1 w1 X1 loc1 m hsz hd hnil⟩
  | succ fuel ih =>
    intro listed a1 w1 X1 loc0 m0 hsz hd0 hop
    refine ⟨done listed a1 w1 X1 loc0 m0 hsz hd0, fun i hi => ?_⟩
    obtain ⟨m, loc1, hd, hN⟩ := hd0.norm hB ht (ops.size - m0) (Nat.le_refl _)
    clear hd0
    obtain ⟨o, ho, h1, h2⟩ := ready_spec hi
    have hin : i < ops.size := (Array.getElem?_eq_some_iff.1 ho).1
    have hdo : dstOf ops i = o.dst := by simp [dstOf, ho]
    have hif : listed.getD i false = false := by rw [← getD_tf (by omega)]; exact h1
    have hdeps : DepsIn ops (fun j => listed.getD j false) i := fun o' ho' e he hb => by rw [ho] at ho'; cases ho'; exact h2 e he hb
    have hset : ∀ j, (listed.setIfInBounds i true).getD j false = (listed.getD j false || j == i) := by
      intro j
      by_cases hji : j = i
      · subst hji
        have : j < listed.size := by omega
        simp [this]
      · have : (j == i) = false := by simpa using hji
        rw [this, Bool.or_false]
        have hne : i ≠ j := fun e => hji e.symm
        simp [Array.getD_eq_getD_getElem?, Array.getElem?_setIfInBounds_ne hne]
    have hfun : (fun j => (listed.setIfInBounds i true).getD j false) = fun j => listed.getD j false || j == i := funext hset
    have hcl' : ClosedL ops (fun j => listed.getD j false || j == i) := by
      intro j oj hoj hLj e he hb
      simp only [Bool.or_eq_true, beq_iff_eq] at hLj ⊢
      rcases hLj with hLj | hLj
      · exact .inl (hd.cl j oj hoj hLj e he hb)
      · subst hLj
        rw [ho] at hoj; cases hoj
        exact .inl (h2 e he hb)
    have hop' : openN (listed.setIfInBounds i true) ops.size ≤ fuel := by
      have : openN (listed.setIfInBounds i true) ops.size < openN listed ops.size := by
        unfold openN
        refine filter_lt _ (fun j hj hq => ?_) ⟨i, List.mem_range.2 hin, by rw [h1]; rfl, ?_⟩
        · have hj' : j < ops.size := List.mem_range.1 hj
          rw [getD_tf (by simp; omega), hset, Bool.not_or, Bool.and_eq_true] at hq
          rw [getD_tf (by omega)]
          exact hq.1
        · rw [getD_tf (by simp; omega), hset]; simp
      omega
    have hK : ∀ a' w' X' loc' m', DI w X loc κ ops tr (fun j => listed.getD j false || j == i) m' a' w' X' loc' → wpAny P .any ops Q fuel (listed.setIfInBounds i true) a' w' := by
      intro a' w' X' loc' m' hd'
      exact ih (listed.setIfInBounds i true) a' w' X' loc' m' (by simp [hsz]) (by rw [hfun]; exact hd') hop'
    have hlook := ht.looks hB hd.cl ho hif hdeps hN
    have hfree := dst_free (ops := ops) hB hd.cl hif
    obtain ⟨bf, p1, p2⟩ := hd.pe

    have go : ∀ (s' : St) (m' : Nat), opStep P E ops ⟨TofV ops (tr 0).T (valM κ ops tr m) ops.size (fun j => listed.getD j false), (tr m).H, (tr m).cnt⟩ o = some s' →
        s' = ⟨TofV ops (tr 0).T (valM κ ops tr m') ops.size (fun j => listed.getD j false || j == i), (tr m').H, (tr m').cnt⟩ → m' ≤ ops.size → (∀ h, h < m' → heapAt κ ops h = true → (listed.getD h false || h == i) = true) →
        (heapAt κ ops i = true → i < m') → m ≤ m' → wpOp P ops Q i (wpAny P .any ops Q fuel (listed.setIfInBounds i true)) a1 w1 := by
      intro s' m' hop hs' hm' hlo' him hmm
      have hst := opStep_ok hE hd.sr hop
      have := hst (wpAny P .any ops Q fuel (listed.setIfInBounds i true)) Q (fun c w' X' loc' g1 g2 => by
        subst hs'
        refine hK _ w' X' loc' m' ⟨hcl', hm', hlo', g1, hd.ev.trans g2, bf, ?_, ?_⟩
        · intro k hk hmk hLk
          have hki : i ≠ k := fun e => by subst e; have := him hk; omega
          have hq : (k == i) = false := by simp; exact fun e => hki e.symm
          simp only [hq, Bool.or_false] at hLk
          exact (p1 k hk (by omega) hLk).mono hB ho hki g2 hd.sr.hr
        · intro k k' c1 c2 c3 d1 d2 d3
          have hki : i ≠ k := fun e => by subst e; have := him c1; omega
          have hki' : i ≠ k' := fun e => by subst e; have := him d1; omega
          have hq : (k == i) = false := by simp; exact fun e => hki e.symm
          have hq' : (k' == i) = false := by simp; exact fun e => hki' e.symm
          simp only [hq, hq', Bool.or_false] at c3 d3
          exact p2 k k' c1 (by omega) c3 d1 (by omega) d3)
      unfold wpOp
      rw [ho]
      simp only
      split
      · rename_i hw
        rw [if_pos hw] at this
        exact .inl this
      · rename_i hw
        rw [if_neg hw] at this
        exact this
    cases hp : hopB κ o.op with
    | false =>
      have hh : heapAt κ ops i = false := by unfold heapAt; rw [ho]; exact hp
      have good := ht.pureAt hd.cl ho hif hdeps hp hd.ml hd.lo hN
      obtain ⟨v, g1, g2⟩ := opStep_congr hlook good
      injection g1 with g1 _
      refine go _ m g2 ?_ hd.ml (fun h hh hp => by rw [hd.lo h hh hp]; rfl) (fun h => by rw [hh] at h; cases h) (Nat.le_refl _)
      rw [TofV_add hif ops.size hin hfree]
      have hvm : valM κ ops tr m i = valOf ops tr i := by unfold valM; rw [if_neg (by rw [hh]; simp)]
      rw [hvm, hdo]
      congr 1
      refine putT_eq (T := (tr i).T) ?_ (by rw [TofV_len]; exact (ht.len (by omega)).symm)
      rw [← g1, ← hdo, ← ht.put ho]
    | true =>
      have hh : heapAt κ ops i = true := by unfold heapAt; rw [ho]; exact hp
      have hmi : m ≤ i := by
        rcases Nat.lt_or_ge i m with h | h
        · have := hd.lo i h hh
          rw [hif] at this; cases this
        · exact h
      cases hmay : mayB κ ops i with
      | false =>

        have hbelow : ∀ h, h < i → heapAt κ ops h = true → listed.getD h false = true := by
          intro h hlt hhh
          have hoh : ops[h]? = some (ops[h]'(by omega)) := by simp
          have hph : hopB κ (ops[h]'(by omega)).op = true := by simpa [heapAt, hoh] using hhh
          have hb : before ops h i = true := by
            cases hl : lateB o with
            | false => exact drawB_spec hB hoh ho hlt (by unfold conflict; rw [hph, hp, hl]; simp)
            | true =>
              have : gB κ ops i i = true := by
                unfold mayB at hmay
                rw [ho] at hmay
                simpa [hl] using hmay
              exact gB_spec hh this hhh (by omega) (by omega)
          exact before_ok hb hd.cl hdeps
        have hmi' : m = i := by
          rcases hN with hN | ⟨h1, h2⟩
          · omega
          · rcases Nat.lt_or_ge m i with h | h
            · have := hbelow m h h1
              simp only at h2
              rw [this] at h2; cases h2
            · omega
        subst hmi'
        obtain ⟨v, g1, g2⟩ := opStep_congr (T := (tr m).T) (H := (tr m).H) (c := (tr m).cnt) hlook (ht.step m o ho)
        refine go _ (m + 1) g2 ?_ (by omega) (fun h hlt hp => ?_) (fun _ => by omega) (by omega)
        · rw [TofV_add hif ops.size hin hfree]
          have hvm : valM κ ops tr (m + 1) m = valOf ops tr m := by unfold valM; rw [if_neg (by omega)]
          rw [hvm, hdo, TofV_ext (val := valM κ ops tr (m + 1)) (val' := valM κ ops tr m) (L' := fun j => listed.getD j false) ops.size (fun j hj => ⟨rfl, fun hLj => ?_⟩)]
          · congr 1
            refine putT_eq (T := (tr m).T) ?_ (by rw [TofV_len]; exact (ht.len (by omega)).symm)
            have e1 := congrArg St.T g1
            simp only at e1
            rw [← e1, ← hdo, ← ht.put ho]
          · have hjm : j ≠ m := fun e => by subst e; rw [hif] at hLj; cases hLj
            unfold valM
            have : (m + 1 ≤ j) ↔ (m ≤ j) := by omega
            simp only [this]
        · by_cases hhm : h = m
          · subst hhm; simp
          · rw [hbelow h (by omega) hp]; rfl
      | true =>

        have hl : lateB o = true := by
          unfold mayB at hmay
          rw [ho] at hmay
          simp only [Bool.and_eq_true] at hmay
          exact hmay.1
        have hg : gB κ ops i i = false := by
          unfold mayB at hmay
          rw [ho] at hmay
          simpa [hl] using hmay
        obtain ⟨_, rv, ty, esz, els, tmp, e1, e2, _⟩ := late_shape (T := (tr i).T) (H := (tr i).H) (c := (tr i).cnt) hl (ht.step i o ho)
        have hnr : norefs els = true := by
          have := ht.born i o ho hl hg
          rw [e1, lastEls_append] at this
          exact this
        obtain ⟨v, g1, g2⟩ := opStep_congr hlook (e2 (tr m).H (tr m).cnt)
        injection g1 with g1 _
        have hTv := putT_eq (T' := TofV ops (tr 0).T (valM κ ops tr m) ops.size (fun j => listed.getD j false)) g1 (by rw [TofV_len]; exact (ht.len (by omega)).symm)
        rw [← hTv] at g2
        have hst := (late_shape hl g2).1
        have hlo : lateOp o.op = true := by
          simp only [lateB, Bool.and_eq_true] at hl; exact hl.2
        obtain ⟨n, c', w', r1, r2, r3, r4, r5, r6⟩ := born_new hd.sr (hstep_new hlo hd.sr hst) hnr
        have hfin : wpAny P .any ops Q fuel (listed.setIfInBounds i true) (a1.put o.dst c') w' := by
          refine hK _ w' _ loc1 m ⟨hcl', hd.ml, fun h hlt hp => by rw [hd.lo h hlt hp]; rfl, ?_, hd.ev.trans r4, fun k => if k = i then w1.heap.size else bf k, ?_, ?_⟩
          · rw [TofV_add hif ops.size hin hfree]
            have hvm : valM κ ops tr m i = .jk := by unfold valM; rw [if_pos ⟨hmi, hh⟩]
            rw [hvm, hdo]
            exact r3
          · intro k hk hmk hLk
            by_cases hki : k = i
            · subst hki
              simp only [if_true]
              refine ⟨hd.ev.size, hmay, o, rv, ty, esz, els, tmp, ho, e1, r5, fun d hdd hlt => r6 d hdd (by rw [TofV_len]; exact hlt)⟩
            · have hq : (k == i) = false := by simpa using hki
              simp only [hq, Bool.or_false] at hLk
              simp only [hki, if_false]
              exact (p1 k hk hmk hLk).mono hB ho (fun e => hki e.symm) r4 hd.sr.hr
          · intro k k' c1 c2 c3 d1 d2 d3 he
            by_cases hki : k = i <;> by_cases hki' : k' = i
            · rw [hki, hki']
            · exfalso
              have hq : (k' == i) = false := by simpa using hki'
              simp only [hq, Bool.or_false] at d3
              simp only [hki, hki', if_true, if_false] at he
              obtain ⟨_, _, _, _, _, _, _, _, _, _, hbn, _⟩ := p1 k' d1 d2 d3
              have := hbn.lt
              omega
            · exfalso
              have hq : (k == i) = false := by simpa using hki
              simp only [hq, Bool.or_false] at c3
              simp only [hki, hki', if_true, if_false] at he
              obtain ⟨_, _, _, _, _, _, _, _, _, _, hbn, _⟩ := p1 k c1 c2 c3
              have := hbn.lt
              omega
            · have hq : (k == i) = false := by simpa using hki
              have hq' : (k' == i) = false := by simpa using hki'
              simp only [hq, hq', Bool.or_false] at c3 d3
              simp only [hki, hki', if_false] at he
              exact p2 k k' c1 c2 c3 d1 d2 d3 he
        have hw : Region.wanted o (yielded ops a1.tmps) = true := by
          simp only [lateB, Bool.and_eq_true, Option.isNone_iff_eq_none] at hl
          unfold Region.wanted; rw [hl.1]
        unfold wpOp
        rw [ho]
        simp only [hw, if_true]
        refine .inl ?_
        unfold Oper.wp
        rw [r1]
        rcases r2 with r2 | ⟨r2, r2'⟩
        · rw [r2]; exact hfin
        · rw [r2]; subst r2'; exact hfin
theorem region_drawH_ok (hE : EnvOk P E) (hm : P.follows .mixedOrders = true) {id : Nat} (hB : drawB κ ops = true) (ht : Trace P E κ ops tr) (hs : SR w X loc (tr 0) a) {Q : Exit → Act → World → Prop}
    (hQ : ∀ a' w' X' loc', SR w' X' loc' (tr ops.size) a' → Evo w X ((tr 0).hc loc) w' X' ((tr ops.size).hc loc') → Q .normal a' w') : (Code.region id ops true).wp P Q a w := by
  refine wp_region_any hm ?_
  have hb : Below w.heap.size w { w with drawn := w.drawn + 1 } := ⟨rfl, rfl, rfl, Nat.le_refl _, fun _ _ => rfl⟩
  have hf : ∀ j, (Array.replicate ops.size false).getD j false = false := by
    intro j
    rcases Nat.lt_or_ge j ops.size with h | h
    · simp [h]
    · simp [h]
  refine draw_any (w := w) (X := X) (loc := loc) hE hB ht hQ ops.size (Array.replicate ops.size false) a _ X loc 0 (by simp) ⟨?_, Nat.zero_le _, fun h hh => by omega, ?_, evo_below hb X _, fun _ => 0, ?_, ?_⟩ ?_
  · intro j oj hoj hLj
    have hLj' : (Array.replicate ops.size false).getD j false = true := hLj
    rw [hf] at hLj'; cases hLj'
  · have e : TofV ops (tr 0).T (valM κ ops tr 0) ops.size (fun j => (Array.replicate ops.size false).getD j false) = (tr 0).T := by
      have := TofV_pre (ops := ops) (T0 := (tr 0).T) (val := valM κ ops tr 0) (L := fun j => (Array.replicate ops.size false).getD j false) (i := 0) (fun j _ => hf j) ops.size
      rw [Nat.zero_add] at this
      rw [this]; rfl
    rw [e]
    exact hs.below hb
  · intro k _ _ hL
    rw [hf] at hL; cases hL
  · intro k k' _ _ hL
    rw [hf] at hL; cases hL
  · unfold openN
    refine Nat.le_trans (List.length_filter_le _ _) ?_
    simp
end
def invN : List Nat → Nat → Nat
  | [], _ => 0
  | i :: r, j => if (i == j) = true then 0 else invN r j + 1
def renE (π : List Nat) (af : Array Edge) : Array Edge := af.map fun e => { e with on := invN π e.on }
def renG (π : List Nat) : Option (Nat × Bool) → Option (Nat × Bool)
  | none => none
  | some g => some (invN π g.1, g.2)
def renO (π : List Nat) (o : Oper) : Oper := ⟨o.dst, o.op, o.type, o.pos, renE π o.after, renG π o.guard⟩
def consO (π : List Nat) : Option Oper → List Oper → List Oper
  | some o, r => renO π o :: r
  | none, r => r
def permL (ops : Array Oper) (π : List Nat) : List Nat → List Oper
  | [] => []
  | i :: r => consO π ops[i]? (permL ops π r)
def permA (ops : Array Oper) (π : List Nat) : Array Oper := (permL ops π π).toArray
def okPerm (π : List Nat) (n : Nat) : Bool := π.length == n && ((List.range n).all fun p => match π[p]? with | some i => decide (i < n) && invN π i == p | none => false) &&
  (List.range n).all fun i => decide (invN π i < n) && π[invN π i]? == some i
theorem permL_len {ops : Array Oper} {π : List Nat} : ∀ {l : List Nat}, (∀ i ∈ l, i < ops.size) → (permL ops π l).length = l.length ∧ ∀ p : Nat, (permL ops π l)[p]? = (l[p]?).bind fun i => (ops[i]?).map (renO π)
  | [], _ => ⟨rfl, fun p => by simp [permL]⟩
  | i :: r, h => by
    obtain ⟨h1, h2⟩ := permL_len (ops := ops) (π := π) (l := r) (fun j hj => h j (List.mem_cons_of_mem _ hj))
    have hi := h i List.mem_cons_self
    have ho : ops[i]? = some ops[i] := by simp [hi]
    rw [permL, ho]
    refine ⟨by simp [consO, h1], fun p => ?_⟩
    cases p with
    | zero => simp [consO, ho]
    | succ p => simp only [consO, List.getElem?_cons_succ, h2 p]
section
variable {P : Program} {ops : Array Oper} {π : List Nat} {Q : Exit → Act → World → Prop}
theorem okPerm_spec (h : okPerm π ops.size = true) : π.length = ops.size ∧ (∀ p i, p < ops.size → π[p]? = some i → i < ops.size ∧ invN π i = p) ∧ (∀ p, p < ops.size → ∃ i, π[p]? = some i) ∧ ∀ i, i < ops.size → invN π i < ops.size ∧ π[invN π i]? = some i := by
  simp only [okPerm, Bool.and_eq_true, beq_iff_eq] at h
  obtain ⟨⟨h1, h2⟩, h3⟩ := h
  refine ⟨h1, fun p i hp hi => ?_, fun p hp => ⟨π[p]'(by omega), by simp⟩, fun i hi => ?_⟩
  · have := List.all_eq_true.1 h2 p (List.mem_range.2 hp)
    simp only [hi, Bool.and_eq_true, decide_eq_true_eq, beq_iff_eq] at this
    exact this
  · have := List.all_eq_true.1 h3 i (List.mem_range.2 hi)
    simp only [Bool.and_eq_true, decide_eq_true_eq, beq_iff_eq] at this
    exact this
theorem invN_ge : ∀ {π : List Nat} {j : Nat}, (∀ i ∈ π, i ≠ j) → invN π j = π.length
  | [], j, _ => rfl
  | i :: r, j, h => by
    have hi : (i == j) = false := by simpa using h i List.mem_cons_self
    rw [invN, hi, if_neg (by decide), invN_ge (fun x hx => h x (List.mem_cons_of_mem _ hx))]; rfl
theorem permA_get (h : okPerm π ops.size = true) : (permA ops π).size = ops.size ∧ (∀ i, (permA ops π)[invN π i]? = (ops[i]?).map (renO π)) ∧ ∀ p, p < ops.size → ∃ i, i < ops.size ∧ invN π i = p := by
  obtain ⟨h1, h2, h3, h4⟩ := okPerm_spec h
  have hm : ∀ i ∈ π, i < ops.size := by
    intro i hi
    obtain ⟨p, hp⟩ := List.mem_iff_getElem?.1 hi
    have hlt := (List.getElem?_eq_some_iff.1 hp).1
    exact (h2 p i (by omega) hp).1
  obtain ⟨g1, g2⟩ := permL_len (ops := ops) (π := π) hm
  refine ⟨by simp [permA, g1, h1], fun i => ?_, fun p hp => ?_⟩
  · simp only [permA, List.getElem?_toArray]
    rw [g2]
    by_cases hi : i < ops.size
    · rw [(h4 i hi).2]; rfl
    · have hge : invN π i = π.length := invN_ge (fun j hj e => hi (by rw [← e]; exact hm j hj))
      rw [hge, List.getElem?_eq_none (Nat.le_refl _), Array.getElem?_eq_none (by omega)]; rfl
  · obtain ⟨i, hi⟩ := h3 p hp
    exact ⟨i, (h2 p i hp hi).1, (h2 p i hp hi).2⟩
def RelL (π : List Nat) (n : Nat) (l l' : Array Bool) : Prop := l.size = n ∧ l'.size = n ∧ ∀ i, i < n → l.getD i false = l'.getD (invN π i) false
theorem RelL.get (h : okPerm π ops.size = true) {l l' : Array Bool} (hr : RelL π ops.size l l') (j : Nat) : l.getD j false = l'.getD (invN π j) false := by
  by_cases hj : j < ops.size
  · exact hr.2.2 j hj
  · obtain ⟨h1, h2, h3, h4⟩ := okPerm_spec h
    have hge : invN π j = π.length := invN_ge (fun i hi e => by
      obtain ⟨p, hp⟩ := List.mem_iff_getElem?.1 hi
      have hlt := (List.getElem?_eq_some_iff.1 hp).1
      have := (h2 p i (by omega) hp).1
      omega)
    rw [hge, h1]
    have e1 := hr.1
    have e2 := hr.2.1
    simp [Array.getD, e1, e2, hj]
theorem ready_perm (h : okPerm π ops.size = true) {l l' : Array Bool} (hr : RelL π ops.size l l') {i : Nat} (hi : i < ops.size) : i ∈ Region.ready .any ops l ↔ invN π i ∈ Region.ready .any (permA ops π) l' := by
  obtain ⟨g1, g2, g3⟩ := permA_get h
  obtain ⟨h1, h2, h3, h4⟩ := okPerm_spec h
  have hlt := (h4 i hi).1
  have hge := hr.get h
  have e1 := hr.1
  have e2 := hr.2.1
  have ht : ∀ (o : Oper), (∀ e ∈ o.after, Region.binds .any e = true → l.getD e.on false = true) ↔ ∀ e ∈ (renO π o).after, Region.binds .any e = true → l'.getD e.on false = true := by
    intro o
    constructor
    · intro hh e he hb
      simp only [renO, renE, Array.mem_map] at he
      obtain ⟨e0, q1, rfl⟩ := he
      rw [← hge e0.on]
      exact hh e0 q1 hb
    · intro hh e he hb
      have := hh { e with on := invN π e.on } (by simp only [renO, renE, Array.mem_map]; exact ⟨e, he, rfl⟩) hb
      rw [hge e.on]; exact this
  constructor
  · intro hh
    obtain ⟨o, ho, k1, k2⟩ := ready_spec hh
    refine ready_of (o := renO π o) (by rw [g2, ho]; rfl) ?_ ((ht o).1 k2)
    rw [getD_tf (by omega), ← hge, ← getD_tf (by omega)]; exact k1
  · intro hh
    obtain ⟨o', ho', k1, k2⟩ := ready_spec hh
    have ho : ops[i]? = some ops[i] := by simp [hi]
    rw [g2, ho] at ho'
    simp only [Option.map_some, Option.some.injEq] at ho'
    subst ho'
    refine ready_of ho ?_ ((ht _).2 k2)
    rw [getD_tf (by omega), hge, ← getD_tf (by omega)]; exact k1
theorem yielded_perm (h : okPerm π ops.size = true) (T : Array Value) (g : Nat) : yielded (permA ops π) T (invN π g) = yielded ops T g := by
  obtain ⟨g1, g2, g3⟩ := permA_get h
  unfold yielded
  rw [g2]
  cases ops[g]? <;> rfl
theorem wanted_perm (h : okPerm π ops.size = true) (T : Array Value) (o : Oper) : Region.wanted (renO π o) (yielded (permA ops π) T) = Region.wanted o (yielded ops T) := by
  unfold Region.wanted renO renG
  cases hg : o.guard with
  | none => rfl
  | some g => simp only [yielded_perm h]
theorem wpOp_perm (h : okPerm π ops.size = true) {i : Nat} {K : Act → World → Prop} {a : Act} {w : World} (hh : wpOp P (permA ops π) Q (invN π i) K a w) : wpOp P ops Q i K a w := by
  obtain ⟨g1, g2, g3⟩ := permA_get h
  unfold wpOp at hh ⊢
  rw [g2] at hh
  cases ho : ops[i]? with
  | none => rw [ho] at hh; exact hh
  | some o =>
    rw [ho] at hh
    simp only [Option.map_some] at hh ⊢
    rw [wanted_perm h] at hh
    exact hh
theorem wpAny_perm (h : okPerm π ops.size = true) : ∀ (fuel : Nat) (l l' : Array Bool) (a : Act) (w : World), RelL π ops.size l l' → wpAny P .any (permA ops π) Q fuel l' a w → wpAny P .any ops Q fuel l a w := by
  obtain ⟨g1, g2, g3⟩ := permA_get h
  obtain ⟨h1, h2, h3, h4⟩ := okPerm_spec h
  have hnil : ∀ l l', RelL π ops.size l l' → (Region.ready .any ops l = [] ↔ Region.ready .any (permA ops π) l' = []) := by
    intro l l' hr
    constructor
    · intro hh
      cases hq : Region.ready .any (permA ops π) l' with
      | nil => rfl
      | cons p r =>
        exfalso
        have hp : p ∈ Region.ready .any (permA ops π) l' := by rw [hq]; exact List.mem_cons_self
        obtain ⟨o, ho, _⟩ := ready_spec hp
        have hlt := (Array.getElem?_eq_some_iff.1 ho).1
        obtain ⟨i, hi, rfl⟩ := g3 p (by omega)
        have := (ready_perm h hr hi).2 hp
        rw [hh] at this; cases this
    · intro hh
      cases hq : Region.ready .any ops l with
      | nil => rfl
      | cons i r =>
        exfalso
        have hp : i ∈ Region.ready .any ops l := by rw [hq]; exact List.mem_cons_self
        obtain ⟨o, ho, _⟩ := ready_spec hp
        have := (ready_perm h hr (Array.getElem?_eq_some_iff.1 ho).1).1 hp
        rw [hh] at this; cases this
  intro fuel
  induction fuel with
  | zero => intro l l' a w hr hh; exact ⟨(hnil l l' hr).2 hh.1, hh.2⟩
  | succ fuel ih =>
    intro l l' a w hr hh
    refine ⟨fun hq => hh.1 ((hnil l l' hr).1 hq), fun i hi => ?_⟩
    obtain ⟨o, ho, _⟩ := ready_spec hi
    have hlt := (Array.getElem?_eq_some_iff.1 ho).1
    refine wpOp_perm h (wpOp_mono (fun a w hw => ih _ _ a w ?_ hw) (hh.2 _ ((ready_perm h hr hlt).1 hi)))
    refine ⟨by simp [hr.1], by simp [hr.2.1], fun j hj => ?_⟩
    have e1 := hr.1
    have e2 := hr.2.1
    have hlj := (h4 j hj).1
    have hli := (h4 i hlt).1
    by_cases hij : j = i
    · subst hij
      have a1 : j < l.size := by omega
      have a2 : invN π j < l'.size := by omega
      simp [a1, a2]
    · have hne : invN π i ≠ invN π j := fun e => by
        have q1 := (h4 i hlt).2
        rw [e, (h4 j hj).2] at q1
        injection q1 with q1
        exact hij q1
      have := hr.2.2 j hj
      simpa [Array.getD_eq_getD_getElem?, Array.getElem?_setIfInBounds_ne hne, Array.getElem?_setIfInBounds_ne (fun e : i = j => hij e.symm)] using this
end
section
variable {P : Program} {E : Env} {w : World} {X : Nat → Prop} {loc : Nat → Option (Nat × Nat)} {a : Act} {ops : Array Oper} {tr : Nat → St} {π : List Nat}
theorem region_drawP_ok (hE : EnvOk P E) (hm : P.follows .mixedOrders = true) {id : Nat} (hp : okPerm π ops.size = true) (hB : drawB κ (permA ops π) = true) (ht : Trace P E κ (permA ops π) tr) (hs : SR w X loc (tr 0) a) {Q : Exit → Act → World → Prop}
    (hQ : ∀ a' w' X' loc', SR w' X' loc' (tr (permA ops π).size) a' → Evo w X ((tr 0).hc loc) w' X' ((tr (permA ops π).size).hc loc') → Q .normal a' w') : (Code.region id ops true).wp P Q a w := by
  refine wp_region_any hm ?_
  have hb : Below w.heap.size w { w with drawn := w.drawn + 1 } := ⟨rfl, rfl, rfl, Nat.le_refl _, fun _ _ => rfl⟩
  have hf : ∀ n j, (Array.replicate n false).getD j false = false := by
    intro n j
    rcases Nat.lt_or_ge j n with h | h
    · simp [h]
    · simp [h]
  obtain ⟨g1, _, _⟩ := permA_get hp
  refine wpAny_perm hp ops.size (Array.replicate ops.size false) (Array.replicate (permA ops π).size false) a _ ⟨by simp, by simp [g1], fun i hi => by rw [hf, hf]⟩ ?_
  rw [← g1]
  refine draw_any (w := w) (X := X) (loc := loc) hE hB ht hQ (permA ops π).size (Array.replicate (permA ops π).size false) a _ X loc 0 (by simp) ⟨?_, Nat.zero_le _, fun h hh => by omega, ?_, evo_below hb X _, fun _ => 0, ?_, ?_⟩ ?_
  · intro j oj hoj hLj
    have hLj' : (Array.replicate (permA ops π).size false).getD j false = true := hLj
    rw [hf] at hLj'; cases hLj'
  · have e : TofV (permA ops π) (tr 0).T (valM κ (permA ops π) tr 0) (permA ops π).size (fun j => (Array.replicate (permA ops π).size false).getD j false) = (tr 0).T := by
      have := TofV_pre (ops := permA ops π) (T0 := (tr 0).T) (val := valM κ (permA ops π) tr 0) (L := fun j => (Array.replicate (permA ops π).size false).getD j false) (i := 0) (fun j _ => hf _ j) (permA ops π).size
      rw [Nat.zero_add] at this
      rw [this]; rfl
    rw [e]
    exact hs.below hb
  · intro k _ _ hL
    rw [hf] at hL; cases hL
  · intro k k' _ _ hL
    rw [hf] at hL; cases hL
  · unfold openN
    refine Nat.le_trans (List.length_filter_le _ _) ?_
    simp
end
def nilY : Operand → Bool
  | .const (.slice none 0 0) => true
  | _ => false
def noHeapB : Op → Bool
  | .binOp _ _ _ y _ => !nilY y
  | .move _ | .assign _ | .pick .. | .unOp .. | .convert .. | .field .. | .extract .. | .build .. | .index .. | .makeFunc .. => true
  | .call { callee := .builtin .min, .. } | .call { callee := .builtin .max, .. } => true
  | _ => false
section
variable {P : Program} {E : Env} {ops : Array Oper}
theorem noHeap_rval {op : Op} (h : noHeapB op = true) (T : List AV) (H H2 : List Blk) (c c2 : Nat) : rval P ⟨T, H, c⟩ op = rval P ⟨T, H2, c2⟩ op := by
  cases op with
  | call cl =>
    obtain ⟨cal, args, ats⟩ := cl
    cases cal with
    | builtin b => cases b <;> first | (simp [noHeapB] at h; done) | rfl
    | _ => simp [noHeapB] at h
  | makeFunc f first caps => cases f <;> rfl
  | binOp op t x y t' =>
    simp only [noHeapB, Bool.not_eq_true'] at h
    have hn : ∀ u, nilB P op t u y = none := by
      intro u
      unfold nilB
      split
      · simp [nilY] at h
      · rfl
    simp only [rval, conc_nilV, hn]
  | _ => first | (simp [noHeapB] at h; done) | rfl
theorem noHeap_isCall {op : Op} (h : noHeapB op = true) : isCall op = false ∧ hopB κ op = false := by
  cases op with
  | call cl =>
    obtain ⟨cal, args, ats⟩ := cl
    cases cal with
    | builtin b => cases b <;> first | (simp [noHeapB] at h; done) | exact ⟨rfl, rfl⟩
    | _ => simp [noHeapB] at h
  | _ => first | (simp [noHeapB] at h; done) | exact ⟨rfl, rfl⟩
theorem noHeap_step {o : Oper} (h : noHeapB o.op = true) {T T' : List AV} {H H1 H2 : List Blk} {c c1 c2 : Nat} (hs : opStep P E ops ⟨T, H, c⟩ o = some ⟨T', H1, c1⟩) : opStep P E ops ⟨T, H2, c2⟩ o = some ⟨T', H2, c2⟩ := by
  obtain ⟨k1, k2⟩ := noHeap_isCall (κ := fun _ => false) h
  have k2 := hopB_no k2
  have p1 : ∀ H c, isPure E ⟨T, H, c⟩ o.op = true := fun H c => by simp [isPure, k1, k2]
  have p2 : ∀ H c, pval P E ⟨T, H, c⟩ o.op = rval P ⟨T, H, c⟩ o.op := fun H c => by simp [pval, k1]
  have r := noHeap_rval (P := P) h T H H2 c c2
  have hg : ∀ j, guardV ops ⟨T, H, c⟩ j = guardV ops ⟨T, H2, c2⟩ j := fun j => rfl
  unfold opStep at hs ⊢
  simp only [p1, p2, if_true] at hs ⊢
  rw [← r]
  split at hs
  · simp only [Option.map_eq_some_iff] at hs
    obtain ⟨v, hv, hs⟩ := hs
    rw [put_eq] at hs
    cases hs
    rw [hv]; simp [put_eq]
  · rename_i j want hgd
    rw [← hg j]
    split at hs
    · rename_i b hb
      simp only [Option.map_eq_some_iff] at hs ⊢
      obtain ⟨v, hv, hs⟩ := hs
      rw [put_eq] at hs
      cases hs
      exact ⟨v, hv, by rw [put_eq]⟩
    · rw [put_eq] at hs
      cases hs
      rw [put_eq]
    · cases hs
structure Past where
  at_ : Nat
  H : List Blk
  c : Nat
structure Did where
  at_ : Nat
  o : Oper
  T : List AV
  T' : List AV
def Chk (κ : Nat → Bool) (ops : Array Oper) (i k : Nat) (p : Prop) : Prop := gB κ ops i k = false → p
def bornC (κ : Nat → Bool) (ops : Array Oper) (i : Nat) (H' : List Blk) : Op → Prop
  | .buildSlice .. => Chk κ ops i i (norefs (lastEls H') = true)
  | _ => True
def chkP (P : Program) (E : Env) (ops : Array Oper) (i : Nat) (o : Oper) (T T' : List AV) : List Past → Prop
  | [] => True
  | h :: r => Chk E.hb ops h.at_ i (opStep P E ops ⟨T, h.H, h.c⟩ o = some ⟨T', h.H, h.c⟩) ∧ chkP P E ops i o T T' r
def chkF (P : Program) (E : Env) (ops : Array Oper) (k : Nat) (H : List Blk) (c : Nat) : List Did → Prop
  | [] => True
  | d :: r => Chk E.hb ops d.at_ k (opStep P E ops ⟨d.T, H, c⟩ d.o = some ⟨d.T', H, c⟩) ∧ chkF P E ops k H c r
theorem chkP_mem {i o T T'} : ∀ {hs : List Past}, chkP P E ops i o T T' hs → ∀ h ∈ hs, Chk E.hb ops h.at_ i (opStep P E ops ⟨T, h.H, h.c⟩ o = some ⟨T', h.H, h.c⟩)
  | [], _, h, hm => by cases hm
  | x :: r, hc, h, hm => by
    rcases List.mem_cons.1 hm with rfl | hm
    · exact hc.1
    · exact chkP_mem hc.2 h hm
theorem chkF_mem {k H c} : ∀ {ds : List Did}, chkF P E ops k H c ds → ∀ d ∈ ds, Chk E.hb ops d.at_ k (opStep P E ops ⟨d.T, H, c⟩ d.o = some ⟨d.T', H, c⟩)
  | [], _, h, hm => by cases hm
  | x :: r, hc, h, hm => by
    rcases List.mem_cons.1 hm with rfl | hm
    · exact hc.1
    · exact chkF_mem hc.2 h hm
def runDP (P : Program) (E : Env) (ops : Array Oper) (K : St → Prop) : List Oper → Nat → St → List Past → List Did → Prop
  | [], _, s, _, _ => K s
  | o :: r, i, s, hs, ds => ∃ s', opStep P E ops s o = some s' ∧
      if hopB E.hb o.op = false then
        if noHeapB o.op = true then runDP P E ops K r (i + 1) s' hs ds
        else (s'.H = s.H ∧ s'.cnt = s.cnt) ∧ chkP P E ops i o s.T s'.T hs ∧ runDP P E ops K r (i + 1) s' hs (⟨i, o, s.T, s'.T⟩ :: ds)
      else chkF P E ops i s'.H s'.cnt ds ∧ bornC E.hb ops i s'.H o.op ∧ runDP P E ops K r (i + 1) s' (⟨i, s.H, s.cnt⟩ :: hs) ds
def trF (P : Program) (E : Env) (ops : Array Oper) (s : St) : Nat → St
  | 0 => s
  | i + 1 => match ops[i]? with
    | some o => (opStep P E ops (trF P E ops s i) o).getD (trF P E ops s i)
    | none => trF P E ops s i
theorem trace_of {s0 s1 : St} : ∀ (l : List Oper) (i : Nat) (hs : List Past) (ds : List Did), ops.toList.drop i = l → i ≤ ops.size →
    (∀ j o, j < i → ops[j]? = some o → opStep P E ops (trF P E ops s0 j) o = some (trF P E ops s0 (j + 1))) →
    (∀ j, j < i → hd E.hb ops (trF P E ops s0) j → ⟨j, (trF P E ops s0 j).H, (trF P E ops s0 j).cnt⟩ ∈ hs) →
    (∀ j o, j < i → ops[j]? = some o → hopB E.hb o.op = false → (trF P E ops s0 (j + 1)).H = (trF P E ops s0 j).H ∧ (trF P E ops s0 (j + 1)).cnt = (trF P E ops s0 j).cnt) →
    (∀ j o, j < i → ops[j]? = some o → hopB E.hb o.op = false → noHeapB o.op = false → ⟨j, o, (trF P E ops s0 j).T, (trF P E ops s0 (j + 1)).T⟩ ∈ ds) →
    (∀ j o h, j < i → ops[j]? = some o → hopB E.hb o.op = false → h < j → hd E.hb ops (trF P E ops s0) h → gB E.hb ops h j = false →
      opStep P E ops ⟨(trF P E ops s0 j).T, (trF P E ops s0 h).H, (trF P E ops s0 h).cnt⟩ o = some ⟨(trF P E ops s0 (j + 1)).T, (trF P E ops s0 h).H, (trF P E ops s0 h).cnt⟩) →
    (∀ j o h, h < i → ops[j]? = some o → hopB E.hb o.op = false → j < h → hd E.hb ops (trF P E ops s0) h → before ops j h = false →
      opStep P E ops ⟨(trF P E ops s0 j).T, (trF P E ops s0 (h + 1)).H, (trF P E ops s0 (h + 1)).cnt⟩ o = some ⟨(trF P E ops s0 (j + 1)).T, (trF P E ops s0 (h + 1)).H, (trF P E ops s0 (h + 1)).cnt⟩) →
    (∀ j o, j < i → ops[j]? = some o → lateB o = true → gB E.hb ops j j = false → norefs (lastEls (trF P E ops s0 (j + 1)).H) = true) →
    runDP P E ops (· = s1) l i (trF P E ops s0 i) hs ds → Trace P E E.hb ops (trF P E ops s0) ∧ trF P E ops s0 ops.size = s1
  | [], i, hs, ds, hl, hi, h1, h2, hk, h3, h4, h5, h6, h => by
    have hin : i = ops.size := by
      rcases Nat.lt_or_ge i ops.size with hlt | hge
      · have : i < ops.toList.length := by simpa using hlt
        rw [List.drop_eq_getElem_cons this] at hl; cases hl
      · omega
    subst hin
    refine ⟨⟨fun j o ho => h1 j o (Array.getElem?_eq_some_iff.1 ho).1 ho, fun j o ho => hk j o (Array.getElem?_eq_some_iff.1 ho).1 ho, fun j o k ho hp hk hh hb => h4 j o k (Array.getElem?_eq_some_iff.1 ho).1 ho hp hk hh hb,
      fun j o k ho hp hk hh hb => h5 j o k ?_ ho hp hk hh hb, fun j o ho hl hg => h6 j o (Array.getElem?_eq_some_iff.1 ho).1 ho hl hg⟩, h⟩
    obtain ⟨ok, hok, _⟩ := hh
    exact (Array.getElem?_eq_some_iff.1 hok).1
  | o :: r, i, hs, ds, hl, hi, h1, h2, hk, h3, h4, h5, h6, h => by
    have hlt : i < ops.toList.length := by
      rcases Nat.lt_or_ge i ops.toList.length with h | h
      · exact h
      · rw [List.drop_eq_nil_of_le h] at hl; cases hl
    have hlt' : i < ops.size := by simpa using hlt
    rw [List.drop_eq_getElem_cons hlt] at hl
    injection hl with ho0 hr
    have ho : ops[i]? = some o := by rw [← ho0]; simp [hlt']
    obtain ⟨s', hstep, hrest⟩ := h
    have hs' : trF P E ops s0 (i + 1) = s' := by simp only [trF, ho, hstep, Option.getD_some]
    have n1 : ∀ j o', j < i + 1 → ops[j]? = some o' → opStep P E ops (trF P E ops s0 j) o' = some (trF P E ops s0 (j + 1)) := by
      intro j o' hj hoj
      rcases Nat.lt_or_ge j i with hji | hji
      · exact h1 j o' hji hoj
      · have : j = i := by omega
        subst this
        rw [ho] at hoj; cases hoj
        rw [hs']; exact hstep
    rw [← hs'] at hrest
    cases hp : hopB E.hb o.op with
    | false =>
      rw [hp, if_pos rfl] at hrest
      have nh : ¬ hd E.hb ops (trF P E ops s0) i := by
        rintro ⟨o', ho', hq⟩
        rw [ho] at ho'; cases ho'
        rw [hp] at hq; cases hq
      have n2 : ∀ j, j < i + 1 → hd E.hb ops (trF P E ops s0) j → ⟨j, (trF P E ops s0 j).H, (trF P E ops s0 j).cnt⟩ ∈ hs := by
        intro j hj hh
        rcases Nat.lt_or_ge j i with hji | hji
        · exact h2 j hji hh
        · have : j = i := by omega
          subst this; exact absurd hh nh
      have n5 : ∀ j o' h, h < i + 1 → ops[j]? = some o' → hopB E.hb o'.op = false → j < h → hd E.hb ops (trF P E ops s0) h → before ops j h = false →
          opStep P E ops ⟨(trF P E ops s0 j).T, (trF P E ops s0 (h + 1)).H, (trF P E ops s0 (h + 1)).cnt⟩ o' = some ⟨(trF P E ops s0 (j + 1)).T, (trF P E ops s0 (h + 1)).H, (trF P E ops s0 (h + 1)).cnt⟩ := by
        intro j o' k hk hoj hpj hjk hh hb
        rcases Nat.lt_or_ge k i with hki | hki
        · exact h5 j o' k hki hoj hpj hjk hh hb
        · have : k = i := by omega
          subst this; exact absurd hh nh
      have n6 : ∀ j o', j < i + 1 → ops[j]? = some o' → lateB o' = true → gB E.hb ops j j = false → norefs (lastEls (trF P E ops s0 (j + 1)).H) = true := by
        intro j o' hj hoj hl hg
        rcases Nat.lt_or_ge j i with hji | hji
        · exact h6 j o' hji hoj hl hg
        · have : j = i := by omega
          subst this
          rw [ho] at hoj; cases hoj
          simp only [lateB, Bool.and_eq_true] at hl
          rw [hopB_of (late_heapop hl.2).1] at hp; cases hp
      have nk : ((trF P E ops s0 (i + 1)).H = (trF P E ops s0 i).H ∧ (trF P E ops s0 (i + 1)).cnt = (trF P E ops s0 i).cnt) → ∀ j o', j < i + 1 → ops[j]? = some o' → hopB E.hb o'.op = false →
          (trF P E ops s0 (j + 1)).H = (trF P E ops s0 j).H ∧ (trF P E ops s0 (j + 1)).cnt = (trF P E ops s0 j).cnt := by
        intro hki j o' hj hoj hpj
        rcases Nat.lt_or_ge j i with hji | hji
        · exact hk j o' hji hoj hpj
        · have : j = i := by omega
          subst this; exact hki
      cases hn : noHeapB o.op with
      | true =>
        rw [hn, if_pos rfl] at hrest
        have hki := pure_heap (s := trF P E ops s0 i) (by
          obtain ⟨k1, k2⟩ := noHeap_isCall (κ := E.hb) hn
          simp [isPure, k1, hopB_no k2]) (n1 i o (by omega) ho)
        refine trace_of r (i + 1) hs ds hr (by omega) n1 n2 (nk hki) ?_ ?_ n5 n6 hrest
        · intro j o' hj hoj hpj hnj
          rcases Nat.lt_or_ge j i with hji | hji
          · exact h3 j o' hji hoj hpj hnj
          · have : j = i := by omega
            subst this
            rw [ho] at hoj; cases hoj
            rw [hn] at hnj; cases hnj
        · intro j o' k hj hoj hpj hkj hh hb
          rcases Nat.lt_or_ge j i with hji | hji
          · exact h4 j o' k hji hoj hpj hkj hh hb
          · have : j = i := by omega
            subst this
            rw [ho] at hoj; cases hoj
            exact noHeap_step hn (n1 j o (by omega) ho)
      | false =>
        rw [hn, if_neg (by decide)] at hrest
        refine trace_of r (i + 1) hs _ hr (by omega) n1 n2 (nk hrest.1) ?_ ?_ n5 n6 hrest.2.2
        · intro j o' hj hoj hpj hnj
          rcases Nat.lt_or_ge j i with hji | hji
          · exact List.mem_cons_of_mem _ (h3 j o' hji hoj hpj hnj)
          · have : j = i := by omega
            subst this
            rw [ho] at hoj; cases hoj
            exact List.mem_cons_self
        · intro j o' k hj hoj hpj hkj hh hb
          rcases Nat.lt_or_ge j i with hji | hji
          · exact h4 j o' k hji hoj hpj hkj hh hb
          · have : j = i := by omega
            subst this
            rw [ho] at hoj; cases hoj
            exact chkP_mem hrest.2.1 _ (h2 k hkj hh) hb
    | true =>
      rw [hp, if_neg (by decide)] at hrest
      refine trace_of r (i + 1) _ ds hr (by omega) n1 ?_ ?_ ?_ ?_ ?_ ?_ hrest.2.2
      · intro j hj hh
        rcases Nat.lt_or_ge j i with hji | hji
        · exact List.mem_cons_of_mem _ (h2 j hji hh)
        · have : j = i := by omega
          subst this; exact List.mem_cons_self
      · intro j o' hj hoj hpj
        rcases Nat.lt_or_ge j i with hji | hji
        · exact hk j o' hji hoj hpj
        · have : j = i := by omega
          subst this
          rw [ho] at hoj; cases hoj
          rw [hp] at hpj; cases hpj
      · intro j o' hj hoj hpj hnj
        rcases Nat.lt_or_ge j i with hji | hji
        · exact h3 j o' hji hoj hpj hnj
        · have : j = i := by omega
          subst this
          rw [ho] at hoj; cases hoj
          rw [hp] at hpj; cases hpj
      · intro j o' k hj hoj hpj hkj hh hb
        rcases Nat.lt_or_ge j i with hji | hji
        · exact h4 j o' k hji hoj hpj hkj hh hb
        · have : j = i := by omega
          subst this
          rw [ho] at hoj; cases hoj
          rw [hp] at hpj; cases hpj
      · intro j o' k hk hoj hpj hjk hh hb
        rcases Nat.lt_or_ge k i with hki | hki
        · exact h5 j o' k hki hoj hpj hjk hh hb
        · have : k = i := by omega
          subst this
          cases hnj : noHeapB o'.op with
          | true => exact noHeap_step hnj (n1 j o' (by omega) hoj)
          | false => exact chkF_mem hrest.1 _ (h3 j o' hjk hoj hpj hnj) (by rw [gB_of (by unfold heapAt; rw [hoj]; exact hpj)]; exact hb)
      · intro j o' hj hoj hl hg
        rcases Nat.lt_or_ge j i with hji | hji
        · exact h6 j o' hji hoj hl hg
        · have : j = i := by omega
          subst this
          rw [ho] at hoj; cases hoj
          have hst := n1 j o (by omega) ho
          obtain ⟨_, rv, ty, esz, els, tmp, e1, _, e3⟩ := late_shape (T := (trF P E ops s0 j).T) (H := (trF P E ops s0 j).H) (c := (trF P E ops s0 j).cnt) hl hst
          by_cases hb : ∃ t n parts, o.op = .buildSlice t n parts
          · obtain ⟨t, n, parts, hb⟩ := hb
            have := hrest.2.1
            rw [hb] at this
            exact this hg
          · rw [e1, lastEls_append]
            exact e3 fun t n parts e => hb ⟨t, n, parts, e⟩
theorem trace_of_run {s0 s1 : St} (h : runDP P E ops (· = s1) ops.toList 0 s0 [] []) : ∃ tr, Trace P E E.hb ops tr ∧ tr 0 = s0 ∧ tr ops.size = s1 := by
  obtain ⟨h1, h2⟩ := trace_of (s0 := s0) (s1 := s1) ops.toList 0 [] [] rfl (Nat.zero_le _) (fun j o hj => by omega) (fun j hj => by omega) (fun j o hj => by omega) (fun j o hj => by omega) (fun j o k hj => by omega) (fun j o k hk => by omega) (fun j o hj => by omega) h
  exact ⟨_, h1, rfl, h2⟩
theorem hopB_nc {op : Op} (h1 : isCall op = false) (h2 : isHeapOp op = false) : hopB κ op = false := by
  unfold hopB
  split <;> first | rfl | (simp [isCall] at h1; done) | (simp [isHeapOp] at h2; done)
theorem pure_hop {s : St} {op : Op} (hp : isPure E s op = true) : hopB E.hb op = false := by
  cases hc : isCall op with
  | false =>
    refine hopB_nc hc ?_
    unfold isPure at hp
    rw [hc] at hp
    simpa using hp
  | true =>
    unfold hopB
    split
    all_goals first | rfl | (simp [isCall] at hc; done) | skip
    rename_i g as ts
    unfold isPure at hp
    rw [hc, if_pos rfl] at hp
    have ht : ∃ l, target s (.call ⟨.value (.func g), as, ts⟩) = some (g, l) := ⟨_, rfl⟩
    obtain ⟨l, ht⟩ := ht
    rw [ht] at hp
    simp only at hp
    simp [Env.hb, hp]
theorem trace_of_pure {s1 : St} : ∀ (l : List Oper) (i : Nat) (s : St) (ds : List Did), runPure P E ops l s = some s1 → runDP P E ops (· = s1) l i s [] ds
  | [], i, s, ds, h => by simp only [runPure, Option.some.injEq] at h; exact h
  | o :: r, i, s, ds, h => by
    simp only [runPure] at h
    split at h
    · rename_i hp
      split at h
      · rename_i s' hs'
        refine ⟨s', hs', ?_⟩
        have hh : hopB E.hb o.op = false := pure_hop hp
        rw [if_pos hh]
        split
        · exact trace_of_pure r _ _ _ h
        · exact ⟨pure_heap hp hs', trivial, trace_of_pure r _ _ _ h⟩
      · cases h
    · cases h
theorem pure_of_trace {s1 : St} : ∀ (l : List Oper) (i : Nat) (s : St) (ds : List Did), l.any heapish = false → runDP P E ops (· = s1) l i s [] ds → runPure P E ops l s = some s1
  | [], i, s, ds, _, h => by simp only [runPure]; exact congrArg some h
  | o :: r, i, s, ds, hh, h => by
    simp only [List.any_cons, Bool.or_eq_false_iff] at hh
    have hp : isPure E s o.op = true := by
      cases hq : isPure E s o.op with
      | true => rfl
      | false => rw [notpure_heapish hq] at hh; simp at hh
    obtain ⟨s', h1, h2⟩ := h
    have hq : hopB E.hb o.op = false := by
      have := hh.1
      simp only [heapish, Bool.or_eq_false_iff] at this
      exact hopB_nc this.1 this.2
    rw [if_pos hq] at h2
    simp only [runPure, hp, if_true, h1]
    split at h2
    · exact pure_of_trace r _ _ _ hh.2 h2
    · exact pure_of_trace r _ _ _ hh.2 h2.2.2
variable {K : St → Prop} {o : Oper} {r : List Oper} {i : Nat} {s : St} {hs : List Past} {ds : List Did}
theorem lastEls_one (B : Blk) : lastEls [B] = B.els := rfl
theorem lastEls_cons (A B : Blk) (r : List Blk) : lastEls (A :: B :: r) = lastEls (B :: r) := rfl
theorem chk_no {j k : Nat} {p : Prop} (h : gB E.hb ops j k = true) : Chk E.hb ops j k p := fun h' => by rw [h] at h'; cases h'
end
end Go.SX
