/-
  Lemmas towards ModesBegins (joined texts: SXA, SXB, SXC).
  Conditions: none.
-/
import Derived.Test.YtdjpkhjaibdogaaGreatL07
namespace Go.SX
set_option linter.unusedSimpArgs false
set_option linter.unusedVariables false
open Go.RowKit (Below)
def retVal (P : Program) (s : St) : List ResultVar → Option (List AV)
  | [] => some []
  | .tmp t :: r => (retVal P s r).map (s.T.getD t .un :: ·)
  | .cell t ty :: r => match rval P s (.load ty (.tmp t)) with
    | some v => (retVal P s r).map (v :: ·)
    | none => none
def retOne : List AV → AV
  | [v] => v
  | vs => .tu vs
inductive Go (P : Program) (E : Env) (n0 : Nat) (rs : List ResultVar) (R : AV → St → Prop) : List Item → St → Prop
  | ret {k s vs} (h : retVal P s rs = some vs) (hR : R (retOne vs) s) : Go P E n0 rs R (.code .ret :: k) s
  | fin {s vs} (h : retVal P s rs = some vs) (hR : R (retOne vs) s) : Go P E n0 rs R [] s
  | skip {k s} (h : Go P E n0 rs R k s) : Go P E n0 rs R (.code .skip :: k) s
  | seq {k s x y} (h : Go P E n0 rs R (.code x :: .code y :: k) s) : Go P E n0 rs R (.code (.seq x y) :: k) s
  | cond {k s c x y} (t : Bool) (hc : ev s.T c = .sc (.bool t)) (h : Go P E n0 rs R (.code (if t = true then x else y) :: k) s) : Go P E n0 rs R (.code (.cond c x y) :: k) s
  | block {k s id c} (h : Go P E n0 rs R (.code c :: .inBlock id :: k) s) : Go P E n0 rs R (.code (.block id c) :: k) s
  | inBlock {k s id} (h : Go P E n0 rs R k s) : Go P E n0 rs R (.inBlock id :: k) s
  | loop {k s c} (h : Go P E n0 rs R (.code c :: .inLoop c :: k) s) : Go P E n0 rs R (.code (.loop c) :: k) s
  | inLoop {k s c} (h : Go P E n0 rs R (.code c :: .inLoop c :: k) s) : Go P E n0 rs R (.inLoop c :: k) s
  | exit {k k' s id} (he : exitTo id k = some k') (h : Go P E n0 rs R k' s) : Go P E n0 rs R (.code (.exit id) :: k) s
  | region {k s s' id ops} (hr : runOps P E ops ops.toList s = some s') (h : Go P E n0 rs R k s') : Go P E n0 rs R (.code (.region id ops false) :: k) s
  | draw {k s s' id ops} (hpm : E.perm id = none) (hr : runPure P E ops ops.toList s = some s') (h : Go P E n0 rs R k s') : Go P E n0 rs R (.code (.region id ops true) :: k) s
  | drawH {k s s' id ops} (hpm : E.perm id = none) (hp : ops.toList.any heapish = true) (hr : runDP P E ops (· = s') ops.toList 0 s [] []) (h : Go P E n0 rs R k s') : Go P E n0 rs R (.code (.region id ops true) :: k) s
  | drawP {k s s' id ops i π} (hpm : E.perm id = some (i :: π)) (hr : runDP P E (permA ops (i :: π)) (· = s') (permA ops (i :: π)).toList 0 s [] []) (h : Go P E n0 rs R k s') : Go P E n0 rs R (.code (.region id ops true) :: k) s
  | sem {k s id ops dr} {Q : St → Prop} (hg : EnvOk P E → P.follows .mixedOrders = true → ∀ w X loc a, SR w X loc s a → (Code.region id ops dr).wp P (fun e a' w' => e = .normal ∧ ∃ s' X' loc', Q s' ∧ SR w' X' loc' s' a' ∧ Evo w X (s.hc loc) w' X' (s'.hc loc')) a w)
      (h : ∀ s', Q s' → Go P E n0 rs R k s') : Go P E n0 rs R (.code (.region id ops dr) :: k) s
  | ghost {k s s'} (hg : ∀ w X loc a, SR w X loc s a → ∃ X' loc', SR w X' loc' s' a ∧ ∀ w0 X0 hc0, hc0.H.length = n0 → Evo w0 X0 hc0 w X (s.hc loc) → Evo w0 X0 hc0 w X' (s'.hc loc'))
      (h : Go P E n0 rs R k s') : Go P E n0 rs R k s
  | alt {k s} {Q : St → Prop} (hg : ∀ w X loc a, SR w X loc s a → ∃ s', Q s' ∧ SR w X loc s' a ∧ s'.H = s.H ∧ s'.cnt = s.cnt) (h : ∀ s', Q s' → Go P E n0 rs R k s') : Go P E n0 rs R k s
  | know {k s} {p : Prop} (hp : ∀ w X loc a, SR w X loc s a → p) (h : p → Go P E n0 rs R k s) : Go P E n0 rs R k s
def lexR (hc : Nat → Bool) (ops : Array Oper) : Option (List Nat) → Bool
  | none => drawB hc ops || (Region.lexB .any ops && !ops.toList.any heapish)
  | some [] => true
  | some (i :: π) => okPerm (i :: π) ops.size && drawB hc (permA ops (i :: π))
def lexAll (hc : Nat → Bool) (pm : Nat → Option (List Nat)) : Code → Bool
  | .region id ops true => lexR hc ops (pm id)
  | .seq x y => lexAll hc pm x && lexAll hc pm y
  | .cond _ x y => lexAll hc pm x && lexAll hc pm y
  | .block _ c | .loop c => lexAll hc pm c
  | _ => true
def lexItem (hc : Nat → Bool) (pm : Nat → Option (List Nat)) : Item → Bool
  | .code c | .inLoop c => lexAll hc pm c
  | _ => true
theorem exitTo_lex {hc : Nat → Bool} {pm : Nat → Option (List Nat)} {id : Nat} : ∀ {k k' : List Item}, exitTo id k = some k' → (∀ x ∈ k, lexItem hc pm x = true) → ∀ x ∈ k', lexItem hc pm x = true
  | [], k', h, _ => by simp [exitTo] at h
  | x :: k, k', h, hk => by
    have ih := exitTo_lex (hc := hc) (pm := pm) (id := id) (k := k) (k' := k')
    cases x with
    | inBlock i =>
      simp only [exitTo] at h
      split at h
      · cases h; exact fun y hy => hk y (List.mem_cons_of_mem _ hy)
      · exact ih h (fun y hy => hk y (List.mem_cons_of_mem _ hy))
    | _ => simp only [exitTo] at h; exact ih h (fun y hy => hk y (List.mem_cons_of_mem _ hy))
theorem rd_results {P : Program} {w : World} {X loc} {s : St} {a : Act} (hs : SR w X loc s a) : ∀ {rs : List ResultVar} {vs : List AV}, retVal P s rs = some vs →
    ∃ cs : List Value, rd P (rs.mapM fun (r : ResultVar) => match r with
      | .tmp t => (pure (a.tmps.getD t undef) : Sem Value)
      | .cell b t => do loadVar t (← asAddr (a.tmps.getD b undef))) w = some cs ∧ VL w X (some (s.hc loc)) vs cs
  | [], vs, h => by
    simp only [retVal, Option.some.injEq] at h
    subst h
    exact ⟨[], by simp [rd_pure], .nil⟩
  | .tmp t :: r, vs, h => by
    simp only [retVal, Option.map_eq_some_iff] at h
    obtain ⟨vs', h1, rfl⟩ := h
    obtain ⟨cs, g1, g2⟩ := rd_results hs h1
    refine ⟨a.tmps.getD t undef :: cs, ?_, .cons (ev_ok hs.tm (.tmp t)) g2⟩
    simp only [List.mapM_cons, rd_bind, rd_pure, Option.bind_some, g1]
  | .cell b t :: r, vs, h => by
    simp only [retVal] at h
    split at h
    · rename_i v hv
      simp only [Option.map_eq_some_iff] at h
      obtain ⟨vs', h1, rfl⟩ := h
      obtain ⟨cs, g1, g2⟩ := rd_results hs h1
      obtain ⟨c, k1, k2⟩ := rv_load (o := ⟨none, .load t (.tmp b), 0, "", #[], none⟩) rfl hs hv
      have k3 : rd P (do loadVar t (← asAddr (a.tmps.getD b undef))) w = some c := by
        unfold execOp at k1
        simp only [Instr.loadAt, Act.eval, rd_bind] at k1
        generalize a.tmps.getD b undef = q at *
        cases q with
        | pointer p =>
          cases p with
          | none => simp [Instr.sureAddr, rd_stuck] at k1
          | some ad =>
            simp only [Instr.sureAddr, rd_pure, Option.bind_some] at k1
            simp only [rd_bind, asAddr, rd_pure, Option.bind_some]
            cases hq : rd P (loadVar t ad) w with
            | none => rw [hq] at k1; simp at k1
            | some c' => rw [hq] at k1; simp only [Option.bind_some, Option.some.injEq, Next.value.injEq] at k1; rw [k1]
        | _ => simp [Instr.sureAddr, rd_stuck] at k1
      refine ⟨c :: cs, ?_, .cons k2 g2⟩
      simp only [List.mapM_cons, rd_bind, Option.bind_some, g1, rd_pure] at k3 ⊢
      rw [k3]
      rfl
    · cases h
theorem run_results {P : Program} {w : World} {X loc} {s : St} {a : Act} (hs : SR w X loc s a) {fn : Func} {vs : List AV} (h : retVal P s fn.results.toList = some vs) :
    ∃ c, (results fn a.tmps).run P w = .ok c w ∧ VR w X (some (s.hc loc)) (retOne vs) c := by
  obtain ⟨cs, g1, g2⟩ := rd_results hs h
  have hm : rd P (fn.results.mapM fun (r : ResultVar) => match r with
      | .tmp t => (pure (a.tmps.getD t undef) : Sem Value)
      | .cell b t => do loadVar t (← asAddr (a.tmps.getD b undef))) w = some cs.toArray := by
    rw [Array.mapM_eq_mapM_toList, rd_map, g1]; rfl
  refine ⟨if h : cs.toArray.size = 1 then cs.toArray[0] else .tuple cs.toArray, ?_, ?_⟩
  · apply rd_run
    unfold results
    rw [rd_bind]
    exact (congrArg (fun q : Option (Array Value) => q.bind fun a => rd P (pure (if h : a.size = 1 then a[0] else .tuple a) : Sem Value) w) hm)
  · cases vs with
    | nil =>
      have := g2.unnil
      subst this
      simp only [retOne]
      exact .tu rfl (fun i a v h => by simp at h)
    | cons v r =>
      cases r with
      | nil =>
        obtain ⟨c, cs', rfl, k1, k2⟩ := g2.uncons
        have := k2.unnil
        subst this
        simpa [retOne] using k1
      | cons v2 r =>
        have hl := g2.1
        simp only [List.length_cons] at hl
        have hne : ¬ cs.toArray.size = 1 := by simp; omega
        rw [dif_neg hne]
        exact .tu g2.1 g2.2
theorem steps_of_wp {P : Program} {c : Code} {a : Act} {w : World} {Q : Act → World → Prop} (h : c.wp P (fun e a' w' => e = .normal ∧ Q a' w') a w) (b : Frame) (k : List Item) (cs : List Frame) :
    ∃ a' w', Q a' w' ∧ Steps P (lone (b.at a (.code c :: k)) cs w) (lone (b.at a' k) cs w') := by
  obtain ⟨e, a', w', ⟨rfl, hq⟩, harr⟩ := h b k cs
  exact ⟨a', w', hq, harr⟩
theorem go_sound {P : Program} {E : Env} (hE : EnvOk P E) (hm : P.follows .mixedOrders = true) {n0 : Nat} {fn : Func} {R : AV → St → Prop} {k : List Item} {s : St}
    (h : Go P E n0 fn.results.toList R k s) : (∀ x ∈ k, lexItem E.hb E.perm x = true) → ∀ (b : Frame) (cs : List Frame) (a : Act) (w : World) (X : Nat → Prop) (loc : Nat → Option (Nat × Nat)),
    b.kind = .normal → P.funcs[b.fn]? = some fn → SR w X loc s a → ∀ w0 X0 hc0, hc0.H.length = n0 → Evo w0 X0 hc0 w X (s.hc loc) →
    ∃ w' fr s' X' loc' r c, Steps P (lone (b.at a k) cs w) (lone fr cs w') ∧ fr.fn = b.fn ∧ fr.leaving P w' (.returned c) ∧ R r s' ∧ HR w' X' (s'.hc loc') ∧ VR w' X' (some (s'.hc loc')) r c ∧ Evo w0 X0 hc0 w' X' (s'.hc loc') := by
  induction h with
  | @ret k s vs h hR =>
    intro hlex b cs a w X loc hb hf hs w0 X0 hc0 hn hev
    obtain ⟨c, g1, g2⟩ := run_results hs h
    exact ⟨w, _, s, X, loc, _, c, .one step_ret, rfl, ⟨rfl, hs.df, hb, fn, hf, g1⟩, hR, hs.hr, g2, hev⟩
  | @fin s vs h hR =>
    intro hlex b cs a w X loc hb hf hs w0 X0 hc0 hn hev
    obtain ⟨c, g1, g2⟩ := run_results hs h
    exact ⟨w, _, s, X, loc, _, c, .one step_end, rfl, ⟨rfl, hs.df, hb, fn, hf, g1⟩, hR, hs.hr, g2, hev⟩
  | skip h ih =>
    intro hlex b cs a w X loc hb hf hs w0 X0 hc0 hn hev
    obtain ⟨w', fr, s', X', loc', r, c, g1, g2⟩ := ih (fun x hx => hlex x (List.mem_cons_of_mem _ hx)) b cs a w X loc hb hf hs w0 X0 hc0 hn hev
    exact ⟨w', fr, s', X', loc', r, c, .head step_skip g1, g2⟩
  | @seq k s x y h ih =>
    intro hlex b cs a w X loc hb hf hs w0 X0 hc0 hn hev
    have h0 := hlex _ List.mem_cons_self
    simp only [lexItem, lexAll, Bool.and_eq_true] at h0
    obtain ⟨w', fr, s', X', loc', r, c, g1, g2⟩ := ih (fun z hz => by
      rcases List.mem_cons.1 hz with rfl | hz
      · exact h0.1
      · rcases List.mem_cons.1 hz with rfl | hz
        · exact h0.2
        · exact hlex z (List.mem_cons_of_mem _ hz)) b cs a w X loc hb hf hs w0 X0 hc0 hn hev
    exact ⟨w', fr, s', X', loc', r, c, .head step_seq g1, g2⟩
  | @cond k s c x y t hc h ih =>
    intro hlex b cs a w X loc hb hf hs w0 X0 hc0 hn hev
    have h0 := hlex _ List.mem_cons_self
    simp only [lexItem, lexAll, Bool.and_eq_true] at h0
    have hev' := ev_ok hs.tm c
    rw [hc] at hev'
    generalize hq : a.eval c = q at hev'
    cases hev'
    obtain ⟨w', fr, s', X', loc', r, c, g1, g2⟩ := ih (fun z hz => by
      rcases List.mem_cons.1 hz with rfl | hz
      · cases t
        · exact h0.2
        · exact h0.1
      · exact hlex z (List.mem_cons_of_mem _ hz)) b cs a w X loc hb hf hs w0 X0 hc0 hn hev
    exact ⟨w', fr, s', X', loc', r, c, .head (step_cond hq) g1, g2⟩
  | @block k s id c h ih =>
    intro hlex b cs a w X loc hb hf hs w0 X0 hc0 hn hev
    have h0 := hlex _ List.mem_cons_self
    obtain ⟨w', fr, s', X', loc', r, c, g1, g2⟩ := ih (fun z hz => by
      rcases List.mem_cons.1 hz with rfl | hz
      · exact h0
      · rcases List.mem_cons.1 hz with rfl | hz
        · rfl
        · exact hlex z (List.mem_cons_of_mem _ hz)) b cs a w X loc hb hf hs w0 X0 hc0 hn hev
    exact ⟨w', fr, s', X', loc', r, c, .head step_block g1, g2⟩
  | @inBlock k s id h ih =>
    intro hlex b cs a w X loc hb hf hs w0 X0 hc0 hn hev
    obtain ⟨w', fr, s', X', loc', r, c, g1, g2⟩ := ih (fun x hx => hlex x (List.mem_cons_of_mem _ hx)) b cs a w X loc hb hf hs w0 X0 hc0 hn hev
    exact ⟨w', fr, s', X', loc', r, c, .head step_inBlock g1, g2⟩
  | @loop k s c h ih =>
    intro hlex b cs a w X loc hb hf hs w0 X0 hc0 hn hev
    have h0 := hlex _ List.mem_cons_self
    obtain ⟨w', fr, s', X', loc', r, c, g1, g2⟩ := ih (fun z hz => by
      rcases List.mem_cons.1 hz with rfl | hz
      · exact h0
      · rcases List.mem_cons.1 hz with rfl | hz
        · exact h0
        · exact hlex z (List.mem_cons_of_mem _ hz)) b cs a w X loc hb hf hs w0 X0 hc0 hn hev
    exact ⟨w', fr, s', X', loc', r, c, .head step_loop g1, g2⟩
  | @inLoop k s c h ih =>
    intro hlex b cs a w X loc hb hf hs w0 X0 hc0 hn hev
    have h0 := hlex _ List.mem_cons_self
    obtain ⟨w', fr, s', X', loc', r, c, g1, g2⟩ := ih (fun z hz => by
      rcases List.mem_cons.1 hz with rfl | hz
      · exact h0
      · rcases List.mem_cons.1 hz with rfl | hz
        · exact h0
        · exact hlex z (List.mem_cons_of_mem _ hz)) b cs a w X loc hb hf hs w0 X0 hc0 hn hev
    exact ⟨w', fr, s', X', loc', r, c, .head step_inLoop g1, g2⟩
  | @exit k k' s id he h ih =>
    intro hlex b cs a w X loc hb hf hs w0 X0 hc0 hn hev
    obtain ⟨w', fr, s', X', loc', r, c, g1, g2⟩ := ih (exitTo_lex he (fun x hx => hlex x (List.mem_cons_of_mem _ hx))) b cs a w X loc hb hf hs w0 X0 hc0 hn hev
    exact ⟨w', fr, s', X', loc', r, c, .head (step_exit he) g1, g2⟩
  | @region k s s1 id ops hr h ih =>
    intro hlex b cs a w X loc hb hf hs w0 X0 hc0 hn hev
    obtain ⟨a1, w1, ⟨X1, loc1, q1, q2⟩, q3⟩ := steps_of_wp (Q := fun a' w' => ∃ X' loc', SR w' X' loc' s1 a' ∧ Evo w X (s.hc loc) w' X' (s1.hc loc'))
      (region_ok hE (id := id) hr hs (fun a' w' X' loc' k1 k2 => ⟨rfl, X', loc', k1, k2⟩)) b k cs
    obtain ⟨w', fr, s', X', loc', r, c, g1, g2⟩ := ih (fun x hx => hlex x (List.mem_cons_of_mem _ hx)) b cs a1 w1 X1 loc1 hb hf q1 w0 X0 hc0 hn (hev.trans q2)
    exact ⟨w', fr, s', X', loc', r, c, q3.trans g1, g2⟩
  | @draw k s s1 id ops hpm hr h ih =>
    intro hlex b cs a w X loc hb hf hs w0 X0 hc0 hn hev
    have h0 : (drawB E.hb ops || (Region.lexB .any ops && !ops.toList.any heapish)) = true := by
      have := hlex _ List.mem_cons_self
      simp only [lexItem, lexAll, hpm, lexR] at this
      exact this
    cases hD : drawB E.hb ops with
    | true =>
      obtain ⟨tr, t1, t2, t3⟩ := trace_of_run (trace_of_pure (P := P) (E := E) (ops := ops) ops.toList 0 s [] hr)
      subst t2
      obtain ⟨a1, w1, ⟨X1, loc1, q1, q2⟩, q3⟩ := steps_of_wp (Q := fun a' w' => ∃ X' loc', SR w' X' loc' s1 a' ∧ Evo w X ((tr 0).hc loc) w' X' (s1.hc loc'))
        (region_drawH_ok hE hm (id := id) hD t1 hs (fun a' w' X' loc' k1 k2 => ⟨rfl, X', loc', by rw [← t3]; exact k1, by rw [← t3]; exact k2⟩)) b k cs
      obtain ⟨w', fr, s', X', loc', r, c, g1, g2⟩ := ih (fun x hx => hlex x (List.mem_cons_of_mem _ hx)) b cs a1 w1 X1 loc1 hb hf q1 w0 X0 hc0 hn (hev.trans q2)
      exact ⟨w', fr, s', X', loc', r, c, q3.trans g1, g2⟩
    | false =>
    rw [hD, Bool.false_or, Bool.and_eq_true] at h0
    obtain ⟨a1, w1, ⟨q1, q2⟩, q3⟩ := steps_of_wp (Q := fun a' w' => SR w' X loc s1 a' ∧ Below w.heap.size w w')
      (region_draw_ok hE hm (id := id) h0.1 hr hs (fun a' w' k1 k2 => ⟨rfl, k1, k2⟩)) b k cs

    have hpure : ∀ (l : List Oper) (s s1 : St), runPure P E ops l s = some s1 → s1.H = s.H ∧ s1.cnt = s.cnt := by
      intro l
      induction l with
      | nil => intro s s1 h; simp only [runPure, Option.some.injEq] at h; subst h; exact ⟨rfl, rfl⟩
      | cons o l ihl =>
        intro s s1 h
        simp only [runPure] at h
        split at h
        · rename_i hp
          split at h
          · rename_i s2 h2
            obtain ⟨e1, e2⟩ := ihl s2 s1 h
            have : s2.H = s.H ∧ s2.cnt = s.cnt := by
              unfold opStep at h2
              split at h2
              · simp only [hp, if_true, Option.map_eq_some_iff] at h2
                obtain ⟨v, _, rfl⟩ := h2
                cases o.dst <;> exact ⟨rfl, rfl⟩
              · split at h2
                · simp only [hp, if_true, Option.map_eq_some_iff] at h2
                  obtain ⟨v, _, rfl⟩ := h2
                  cases o.dst <;> exact ⟨rfl, rfl⟩
                · cases h2
                  cases o.dst <;> exact ⟨rfl, rfl⟩
                · cases h2
            exact ⟨e1.trans this.1, e2.trans this.2⟩
          · cases h
        · cases h
    obtain ⟨p1, p2⟩ := hpure _ _ _ hr
    have hhc : s1.hc loc = s.hc loc := by unfold St.hc; rw [p1, p2]
    obtain ⟨w', fr, s', X', loc', r, c, g1, g2⟩ := ih (fun x hx => hlex x (List.mem_cons_of_mem _ hx)) b cs a1 w1 X loc hb hf q1 w0 X0 hc0 hn (by rw [hhc]; exact hev.trans (evo_below q2 X _))
    exact ⟨w', fr, s', X', loc', r, c, q3.trans g1, g2⟩
  | @drawH k s s1 id ops hpm hp hr h ih =>
    intro hlex b cs a w X loc hb hf hs w0 X0 hc0 hn hev
    have h0 : (drawB E.hb ops || (Region.lexB .any ops && !ops.toList.any heapish)) = true := by
      have := hlex _ List.mem_cons_self
      simp only [lexItem, lexAll, hpm, lexR] at this
      exact this
    rw [hp] at h0
    have hD : drawB E.hb ops = true := by simpa using h0
    obtain ⟨tr, t1, t2, t3⟩ := trace_of_run hr
    subst t2
    obtain ⟨a1, w1, ⟨X1, loc1, q1, q2⟩, q3⟩ := steps_of_wp (Q := fun a' w' => ∃ X' loc', SR w' X' loc' s1 a' ∧ Evo w X ((tr 0).hc loc) w' X' (s1.hc loc'))
      (region_drawH_ok hE hm (id := id) hD t1 hs (fun a' w' X' loc' k1 k2 => ⟨rfl, X', loc', by rw [← t3]; exact k1, by rw [← t3]; exact k2⟩)) b k cs
    obtain ⟨w', fr, s', X', loc', r, c, g1, g2⟩ := ih (fun x hx => hlex x (List.mem_cons_of_mem _ hx)) b cs a1 w1 X1 loc1 hb hf q1 w0 X0 hc0 hn (hev.trans q2)
    exact ⟨w', fr, s', X', loc', r, c, q3.trans g1, g2⟩
  | @know k s p hp h ih =>
    intro hlex b cs a w X loc hb hf hs w0 X0 hc0 hn hev
    exact ih (hp w X loc a hs) hlex b cs a w X loc hb hf hs w0 X0 hc0 hn hev
  | @sem k s id ops dr Q hg h ih =>
    intro hlex b cs a w X loc hb hf hs w0 X0 hc0 hn hev
    obtain ⟨a1, w1, ⟨s1, X1, loc1, q0, q1, q2⟩, q3⟩ := steps_of_wp (Q := fun a' w' => ∃ s' X' loc', Q s' ∧ SR w' X' loc' s' a' ∧ Evo w X (s.hc loc) w' X' (s'.hc loc')) (hg hE hm w X loc a hs) b k cs
    obtain ⟨w', fr, s', X', loc', r, c, g1, g2⟩ := ih s1 q0 (fun x hx => hlex x (List.mem_cons_of_mem _ hx)) b cs a1 w1 X1 loc1 hb hf q1 w0 X0 hc0 hn (hev.trans q2)
    exact ⟨w', fr, s', X', loc', r, c, q3.trans g1, g2⟩
  | @drawP k s s1 id ops i π hpm hr h ih =>
    intro hlex b cs a w X loc hb hf hs w0 X0 hc0 hn hev
    have h0 : okPerm (i :: π) ops.size = true ∧ drawB E.hb (permA ops (i :: π)) = true := by
      have := hlex _ List.mem_cons_self
      simp only [lexItem, lexAll, hpm, lexR, Bool.and_eq_true] at this
      exact this
    obtain ⟨tr, t1, t2, t3⟩ := trace_of_run hr
    subst t2
    obtain ⟨a1, w1, ⟨X1, loc1, q1, q2⟩, q3⟩ := steps_of_wp (Q := fun a' w' => ∃ X' loc', SR w' X' loc' s1 a' ∧ Evo w X ((tr 0).hc loc) w' X' (s1.hc loc'))
      (region_drawP_ok hE hm (id := id) h0.1 h0.2 t1 hs (fun a' w' X' loc' k1 k2 => ⟨rfl, X', loc', by rw [← t3]; exact k1, by rw [← t3]; exact k2⟩)) b k cs
    obtain ⟨w', fr, s', X', loc', r, c, g1, g2⟩ := ih (fun x hx => hlex x (List.mem_cons_of_mem _ hx)) b cs a1 w1 X1 loc1 hb hf q1 w0 X0 hc0 hn (hev.trans q2)
    exact ⟨w', fr, s', X', loc', r, c, q3.trans g1, g2⟩
  | @alt k s Q hg h ih =>
    intro hlex b cs a w X loc hb hf hs w0 X0 hc0 hn hev
    obtain ⟨s1, q0, q1, q2, q3⟩ := hg w X loc a hs
    have hhc : s1.hc loc = s.hc loc := by unfold St.hc; rw [q2, q3]
    exact ih s1 q0 hlex b cs a w X loc hb hf q1 w0 X0 hc0 hn (by rw [hhc]; exact hev)
  | @ghost k s s1 hg h ih =>
    intro hlex b cs a w X loc hb hf hs w0 X0 hc0 hn hev
    obtain ⟨X1, loc1, q1, q2⟩ := hg w X loc a hs
    exact ih hlex b cs a w X1 loc1 hb hf q1 w0 X0 hc0 hn (q2 w0 X0 hc0 hn hev)
def initSt (fn : Func) (args : List AV) (H : List Blk) (cnt : Nat) : St := ⟨args ++ List.replicate (fn.ntmps - args.length) .un, H, cnt⟩
theorem calls_of_go {P : Program} {E : Env} (hE : EnvOk P E) (hm : P.follows .mixedOrders = true) {f : FuncId} {fn : Func} {c : Code} {args : List AV} {H : List Blk} {cnt : Nat} {R : AV → St → Prop}
    (hf : P.funcs[f]? = some fn) (hb : fn.body = some c) (hlex : lexAll E.hb E.perm c = true) (h : Go P E H.length fn.results.toList R [.code c] (initSt fn args H cnt))
    (w : World) (X : Nat → Prop) (loc : Nat → Option (Nat × Nat)) (cargs : Array Value) (hr : HR w X ⟨loc, H, cnt⟩) (hv : VL w X (some ⟨loc, H, cnt⟩) args cargs.toList) :
    Calls P f cargs w fun e w' => ∃ r s' X' loc' c, e = .returned c ∧ R r s' ∧ HR w' X' (s'.hc loc') ∧ VR w' X' (some (s'.hc loc')) r c ∧ Evo w X ⟨loc, H, cnt⟩ w' X' (s'.hc loc') := by
  intro cs
  let b : Frame := { (default : Frame) with fn := f, kind := .normal }
  have henter : Frame.enter P f cargs .normal = b.at { tmps := cargs ++ Array.replicate (fn.ntmps - cargs.size) undef, defers := [] } [.code c] := by
    simp [Frame.enter, Frame.at, hf, hb, b]
  have hsz : cargs.size = args.length := by rw [hv.1]; simp
  have hsr : SR w X loc (initSt fn args H cnt) { tmps := cargs ++ Array.replicate (fn.ntmps - cargs.size) undef, defers := [] } := by
    refine ⟨hr, ?_, rfl⟩
    have := hv.append (VL.map_av (w := w) (X := X) (o := some ⟨loc, H, cnt⟩) (l := List.replicate (fn.ntmps - args.length) ()) (f := fun _ => .un) (g := fun _ => undef) (fun _ _ => .un))
    simpa [initSt, hsz, St.hc] using this
  obtain ⟨w', fr, s', X', loc', r, c', g1, g2, g3, g4, g5, g6, g7⟩ := go_sound hE hm h (fun x hx => by simp at hx; subst hx; exact hlex) b cs _ w X loc rfl hf hsr w X ⟨loc, H, cnt⟩ rfl (Evo.refl _ _ _)
  rw [← henter] at g1
  exact ⟨.returned c', w', fr, ⟨r, s', X', loc', c', rfl, g4, g5, g6, g7⟩, g1, g2, g3⟩
mutual
def okc : AV → Bool
  | .sc v => v.oneCell'
  | .ag cs => okas cs
  | .tu cs => okcs cs
  | _ => false
def okas : List AV → Bool
  | [] => true
  | .sc v :: r => v.oneCell' && okas r
  | _ :: _ => false
def okcs : List AV → Bool
  | [] => true
  | a :: r => okc a && okcs r
end
theorem okas_ok : ∀ (as : List AV), okas as = true → ∃ vs, concs as = some vs ∧ (∀ w X o, VL w X o as vs) ∧ ∀ v ∈ vs, v.oneCell' = true
  | [], _ => ⟨[], rfl, fun _ _ _ => .nil, fun v h => by simp at h⟩
  | .sc v :: r, h => by
    simp only [okas, Bool.and_eq_true] at h
    obtain ⟨vs, h1, h2, h3⟩ := okas_ok r h.2
    refine ⟨v :: vs, by simp [concs, conc, h1], fun w X o => .cons (.sc h.1) (h2 w X o), fun u hu => ?_⟩
    rcases List.mem_cons.1 hu with rfl | hu
    · exact h.1
    · exact h3 u hu
mutual
theorem okc_ok : ∀ (a : AV), okc a = true → ∃ v, conc a = some v ∧ ∀ w X o, VR w X o a v
  | .sc v, h => ⟨v, rfl, fun _ _ _ => .sc h⟩
  | .ag cs, h => by
    obtain ⟨vs, h1, h2, h3⟩ := okas_ok cs h
    exact ⟨.agg vs.toArray, by simp [conc, h1], fun w X o => .ag (h2 w X o).1 (h2 w X o).2 h3⟩
  | .tu cs, h => by
    obtain ⟨vs, h1, h2⟩ := okcs_ok cs h
    exact ⟨.tuple vs.toArray, by simp [conc, h1], fun w X o => .tu (h2 w X o).1 (h2 w X o).2⟩
  | .pt .., h => by simp [okc] at h
  | .sl .., h => by simp [okc] at h
  | .vw .., h => by simp [okc] at h
  | .vp .., h => by simp [okc] at h
  | .fn .., h => by simp [okc] at h
  | .un, h => by simp [okc] at h
  | .jk, h => by simp [okc] at h
theorem okcs_ok : ∀ (as : List AV), okcs as = true → ∃ vs, concs as = some vs ∧ ∀ w X o, VL w X o as vs
  | [], _ => ⟨[], rfl, fun _ _ _ => .nil⟩
  | a :: r, h => by
    simp only [okcs, Bool.and_eq_true] at h
    obtain ⟨v, h1, h2⟩ := okc_ok a h.1
    obtain ⟨vs, h3, h4⟩ := okcs_ok r h.2
    exact ⟨v :: vs, by simp [concs, h1, h3], fun w X o => .cons (h2 w X o) (h4 w X o)⟩
end
theorem pspec_of_go {P : Program} {E : Env} (hE : EnvOk P E) (hm : P.follows .mixedOrders = true) {f : FuncId} {fn : Func} {c : Code} {args : List AV} {r : AV}
    (hf : P.funcs[f]? = some fn) (hb : fn.body = some c) (hn : (fn.name == "runtime.NumGoroutine") = false) (hlex : lexAll E.hb E.perm c = true) (hr : okc r = true)
    (h : Go P E 0 fn.results.toList (fun r' _ => r' = r) [.code c] (initSt fn args [] 0)) : PSpec P f args r := by
  obtain ⟨v, hv1, hv2⟩ := okc_ok r hr
  refine ⟨⟨fn, hf, hn, by rw [hb]; rfl⟩, v, hv2, fun w cargs hv => ?_⟩
  refine (calls_of_go hE hm hf hb hlex (H := []) (cnt := 0) (R := fun r' _ => r' = r) h w noX (fun _ => none) cargs (hr0 w) hv).mono ?_
  rintro e w' ⟨r', s', X', loc', c', rfl, rfl, g1, g2, g3⟩
  have hcv := conc_eq _ hv1 g2
  subst hcv
  refine ⟨rfl, g3.os, g3.tape, g3.output, g3.size, fun k hk => g3.keep k hk ?_⟩
  rintro ⟨id, B, o, h1, _⟩
  simp at h1
theorem hspec_of_go {P : Program} {E : Env} (hE : EnvOk P E) (hm : P.follows .mixedOrders = true) {f : FuncId} {fn : Func} {c : Code} {args : List AV} {H H' : List Blk} {cnt cnt' : Nat} {r : AV}
    (hf : P.funcs[f]? = some fn) (hb : fn.body = some c) (hn : (fn.name == "runtime.NumGoroutine") = false) (hlex : lexAll E.hb E.perm c = true)
    (h : Go P E H.length fn.results.toList (fun r' s' => r' = r ∧ s'.H = H' ∧ s'.cnt = cnt') [.code c] (initSt fn args H cnt)) : HSpec P f args H cnt r H' cnt' := by
  refine ⟨⟨fn, hf, hn, by rw [hb]; rfl⟩, fun w X loc cargs hr hv => ?_⟩
  refine (calls_of_go hE hm hf hb hlex h w X loc cargs hr hv).mono ?_
  rintro e w' ⟨r', s', X', loc', c', rfl, ⟨rfl, h1, h2⟩, g1, g2, g3⟩
  have hhc : s'.hc loc' = ⟨loc', H', cnt'⟩ := by unfold St.hc; rw [h1, h2]
  rw [hhc] at g1 g2 g3
  exact ⟨X', loc', c', rfl, g1, g2, g3⟩
section
variable {P : Program} {E : Env} {n0 : Nat} {rs : List ResultVar} {R : AV → St → Prop} {k : List Item} {s : St}
end
end Go.SX

namespace Go.SX
set_option linter.unusedSimpArgs false
set_option linter.unusedVariables false
open Go.RowKit (Below)
inductive Vc (P : Program) (E : Env) (n0 : Nat) (rs : List ResultVar) (R : AV → St → Prop) : List Item → St → Prop
  | ret {k s vs} (h : retVal P s rs = some vs) (hR : R (retOne vs) s) : Vc P E n0 rs R (.code .ret :: k) s
  | fin {s vs} (h : retVal P s rs = some vs) (hR : R (retOne vs) s) : Vc P E n0 rs R [] s
  | skip {k s} (h : Vc P E n0 rs R k s) : Vc P E n0 rs R (.code .skip :: k) s
  | seq {k s x y} (h : Vc P E n0 rs R (.code x :: .code y :: k) s) : Vc P E n0 rs R (.code (.seq x y) :: k) s
  | cond {k s c x y} (t : Bool) (hc : ev s.T c = .sc (.bool t)) (h : Vc P E n0 rs R (.code (if t = true then x else y) :: k) s) : Vc P E n0 rs R (.code (.cond c x y) :: k) s
  | block {k s id c} (h : Vc P E n0 rs R (.code c :: .inBlock id :: k) s) : Vc P E n0 rs R (.code (.block id c) :: k) s
  | inBlock {k s id} (h : Vc P E n0 rs R k s) : Vc P E n0 rs R (.inBlock id :: k) s
  | loop {k s c} (h : Go P E n0 rs R (.code (.loop c) :: k) s) : Vc P E n0 rs R (.code (.loop c) :: k) s
  | inLoop {k s c} (h : Go P E n0 rs R (.inLoop c :: k) s) : Vc P E n0 rs R (.inLoop c :: k) s
  | exit {k k' s id} (he : exitTo id k = some k') (h : Vc P E n0 rs R k' s) : Vc P E n0 rs R (.code (.exit id) :: k) s
  | region {k s s' id ops} (hr : runOps P E ops ops.toList s = some s') (h : Vc P E n0 rs R k s') : Vc P E n0 rs R (.code (.region id ops false) :: k) s
  | draw {k s s' id ops} (hpm : E.perm id = none) (hr : runDP P E ops (· = s') ops.toList 0 s [] []) (h : Vc P E n0 rs R k s') : Vc P E n0 rs R (.code (.region id ops true) :: k) s
  | drawP {k s s' id ops i π} (hpm : E.perm id = some (i :: π)) (hr : runDP P E (permA ops (i :: π)) (· = s') (permA ops (i :: π)).toList 0 s [] []) (h : Vc P E n0 rs R k s') : Vc P E n0 rs R (.code (.region id ops true) :: k) s
  | sem {k s id ops} (hpm : E.perm id = some []) (h : Go P E n0 rs R (.code (.region id ops true) :: k) s) : Vc P E n0 rs R (.code (.region id ops true) :: k) s
section
variable {P : Program} {E : Env} {n0 : Nat} {rs : List ResultVar} {R : AV → St → Prop}
theorem vc_go {k s} (h : Vc P E n0 rs R k s) : Go P E n0 rs R k s := by
  induction h with
  | ret h hR => exact .ret h hR
  | fin h hR => exact .fin h hR
  | skip _ ih => exact .skip ih
  | seq _ ih => exact .seq ih
  | cond t hc _ ih => exact .cond t hc ih
  | block _ ih => exact .block ih
  | inBlock _ ih => exact .inBlock ih
  | loop h => exact h
  | inLoop h => exact h
  | exit he _ ih => exact .exit he ih
  | region hr _ ih => exact .region hr ih
  | @draw k s s' id ops hpm hr _ ih =>
    cases hb : ops.toList.any heapish with
    | true => exact .drawH hpm hb hr ih
    | false => exact .draw hpm (pure_of_trace _ _ _ _ hb hr) ih
  | drawP hpm hr _ ih => exact .drawP hpm hr ih
  | sem _ h => exact h
theorem go_loop1 {c k s} (h : Vc P E n0 rs R (.code c :: .inLoop c :: k) s) : Go P E n0 rs R (.code (.loop c) :: k) s := .loop (vc_go h)
theorem go_inLoop1 {c k s} (h : Vc P E n0 rs R (.code c :: .inLoop c :: k) s) : Go P E n0 rs R (.inLoop c :: k) s := .inLoop (vc_go h)
def VcE (P : Program) (E : Env) (n0 : Nat) (rs : List ResultVar) (R : AV → St → Prop) (s : St) : Option (List Item) → Prop
  | some k => Vc P E n0 rs R k s
  | none => False
def VcC (P : Program) (E : Env) (n0 : Nat) (rs : List ResultVar) (R : AV → St → Prop) (x y : Code) (k : List Item) (s : St) : AV → Prop
  | .sc (.bool t) => if t = true then Vc P E n0 rs R (.code x :: k) s else Vc P E n0 rs R (.code y :: k) s
  | _ => False
def VcO (P : Program) (E : Env) (n0 : Nat) (rs : List ResultVar) (R : AV → St → Prop) (all : Array Oper) (r : List Oper) (k : List Item) (s : St) : Prop :=
  ∃ s', runOps P E all r s = some s' ∧ Vc P E n0 rs R k s'
def VcS (P : Program) (E : Env) (n0 : Nat) (rs : List ResultVar) (R : AV → St → Prop) (all : Array Oper) (r : List Oper) (k : List Item) (s : Option St) : Prop :=
  ∃ s1, s = some s1 ∧ VcO P E n0 rs R all r k s1
def VcR (R : AV → St → Prop) (s : St) : Option (List AV) → Prop
  | some vs => R (retOne vs) s
  | none => False
variable {k : List Item} {s : St} {id : Nat}
theorem vc_ret : Vc P E n0 rs R (.code .ret :: k) s = VcR R s (retVal P s rs) := by
  apply propext; constructor
  · intro h; cases h with | ret h hR => rw [h]; exact hR
  · intro h
    cases hv : retVal P s rs with
    | none => rw [hv] at h; exact h.elim
    | some vs => rw [hv] at h; exact .ret hv h
theorem vc_nil : Vc P E n0 rs R [] s = VcR R s (retVal P s rs) := by
  apply propext; constructor
  · intro h; cases h with | fin h hR => rw [h]; exact hR
  · intro h
    cases hv : retVal P s rs with
    | none => rw [hv] at h; exact h.elim
    | some vs => rw [hv] at h; exact .fin hv h
theorem vcR_some (vs : List AV) : VcR R s (some vs) = R (retOne vs) s := rfl
theorem vc_skip : Vc P E n0 rs R (.code .skip :: k) s = Vc P E n0 rs R k s := propext ⟨fun h => by cases h; assumption, .skip⟩
theorem vc_seq (x y : Code) : Vc P E n0 rs R (.code (.seq x y) :: k) s = Vc P E n0 rs R (.code x :: .code y :: k) s := propext ⟨fun h => by cases h; assumption, .seq⟩
theorem vc_block (id : Nat) (c : Code) : Vc P E n0 rs R (.code (.block id c) :: k) s = Vc P E n0 rs R (.code c :: .inBlock id :: k) s := propext ⟨fun h => by cases h; assumption, .block⟩
theorem vc_inBlock (id : Nat) : Vc P E n0 rs R (.inBlock id :: k) s = Vc P E n0 rs R k s := propext ⟨fun h => by cases h; assumption, .inBlock⟩
theorem vc_loop (c : Code) : Vc P E n0 rs R (.code (.loop c) :: k) s = Go P E n0 rs R (.code (.loop c) :: k) s := propext ⟨fun h => by cases h; assumption, .loop⟩
theorem vc_inLoop (c : Code) : Vc P E n0 rs R (.inLoop c :: k) s = Go P E n0 rs R (.inLoop c :: k) s := propext ⟨fun h => by cases h; assumption, .inLoop⟩
theorem vc_exit (id : Nat) : Vc P E n0 rs R (.code (.exit id) :: k) s = VcE P E n0 rs R s (exitTo id k) := by
  apply propext; constructor
  · intro h; cases h with | exit he h => rw [he]; exact h
  · intro h
    cases hv : exitTo id k with
    | none => rw [hv] at h; exact h.elim
    | some k' => rw [hv] at h; exact .exit hv h
theorem vcE_some (k : List Item) : VcE P E n0 rs R s (some k) = Vc P E n0 rs R k s := rfl
theorem exitTo_hit (id : Nat) (k : List Item) : exitTo id (.inBlock id :: k) = some k := by simp [exitTo]
theorem exitTo_code (id : Nat) (c : Code) (k : List Item) : exitTo id (.code c :: k) = exitTo id k := rfl
theorem exitTo_inLoop (id : Nat) (c : Code) (k : List Item) : exitTo id (.inLoop c :: k) = exitTo id k := rfl
theorem vc_cond (c : Operand) (x y : Code) : Vc P E n0 rs R (.code (.cond c x y) :: k) s = VcC P E n0 rs R x y k s (ev s.T c) := by
  apply propext; constructor
  · intro h
    cases h with
    | cond t hc h =>
      rw [hc]
      cases t
      · exact h
      · exact h
  · intro h
    generalize hv : ev s.T c = v at h
    cases v with
    | sc u =>
      cases u with
      | bool t =>
        refine .cond t hv ?_
        cases t
        · exact h
        · exact h
      | _ => exact h.elim
    | _ => exact h.elim
theorem vcC_bool (x y : Code) (t : Bool) : VcC P E n0 rs R x y k s (.sc (.bool t)) = if t = true then Vc P E n0 rs R (.code x :: k) s else Vc P E n0 rs R (.code y :: k) s := rfl
theorem vc_region (id : Nat) (ops : Array Oper) : Vc P E n0 rs R (.code (.region id ops false) :: k) s = VcO P E n0 rs R ops ops.toList k s := by
  apply propext; constructor
  · intro h; cases h with | region hr h => exact ⟨_, hr, h⟩
  · rintro ⟨s', hr, h⟩; exact .region hr h
theorem vcO_nil (all : Array Oper) : VcO P E n0 rs R all [] k s = Vc P E n0 rs R k s := by
  apply propext; constructor
  · rintro ⟨s', h, h2⟩; simp only [runOps, Option.some.injEq] at h; subst h; exact h2
  · intro h; exact ⟨s, rfl, h⟩
theorem vcO_cons' (all : Array Oper) (o : Oper) (r : List Oper) : VcO P E n0 rs R all (o :: r) k s = VcS P E n0 rs R all r k (opM E.lit o (opStep P E all s o) (litStep P s o.op o.dst)) := by
  apply propext; constructor
  · rintro ⟨s', h, h2⟩
    simp only [runOps] at h
    split at h
    · rename_i s1 h1; exact ⟨s1, h1, s', h, h2⟩
    · cases h
  · rintro ⟨s1, h1, s', h, h2⟩
    have h1' : opStepM P E all s o = some s1 := h1
    exact ⟨s', by simp only [runOps, h1']; exact h, h2⟩
theorem vcO_cons (hl : E.lit = false) (all : Array Oper) (o : Oper) (r : List Oper) : VcO P E n0 rs R all (o :: r) k s = VcS P E n0 rs R all r k (opStep P E all s o) := by
  rw [vcO_cons', hl]; rfl
theorem vcO_consL (hl : E.lit = true) (all : Array Oper) (o : Oper) (r : List Oper) : VcO P E n0 rs R all (o :: r) k s = VcS P E n0 rs R all r k (opM true o (opStep P E all s o) (litStep P s o.op o.dst)) := by
  rw [vcO_cons', hl]
theorem opM_g (d : Option Nat) (op : Op) (ty : TypeId) (pos : String) (af : Array Edge) (g : Nat × Bool) (x y : Option St) : opM true ⟨d, op, ty, pos, af, some g⟩ x y = x := by simp [opM]
theorem opM_b (d : Option Nat) (t : TypeId) (n : Nat) (ps : Array (Nat × Operand)) (ty : TypeId) (pos : String) (af : Array Edge) (x y : Option St) : opM true ⟨d, .buildSlice t n ps, ty, pos, af, none⟩ x y = y := by simp [opM, litOp]
theorem litStep_eq (P : Program) (s : St) (op : Op) (d : Option Nat) : litStep P s op d = litR s d (hstep P s op d) := rfl
theorem litR_some (T T' : List AV) (H H' : List Blk) (c c' : Nat) (d : Option Nat) (h : norefs (lastEls H') = true) : litR ⟨T, H, c⟩ d (some ⟨T', H', c'⟩) = some (St.put ⟨T, H, c + 1⟩ d (.vw false (lastEls H'))) := by simp [litR, h]
theorem vcS_some (all : Array Oper) (r : List Oper) (s : St) : VcS P E n0 rs R all r k (some s) = VcO P E n0 rs R all r k s := by
  apply propext; constructor
  · rintro ⟨s1, h, h2⟩; cases h; exact h2
  · intro h; exact ⟨s, rfl, h⟩
end
theorem retVal_nil (P : Program) (s : St) : retVal P s [] = some [] := rfl
theorem retVal_tmp (P : Program) (s : St) (t : Nat) (r : List ResultVar) : retVal P s (.tmp t :: r) = (retVal P s r).map (s.T.getD t .un :: ·) := rfl
theorem retOne_one (v : AV) : retOne [v] = v := rfl
section
variable {P : Program} {E : Env} {all : Array Oper} {s : St} {d : Option Nat} {ty : TypeId} {pos : String} {af : Array Edge}
def gP (s : St) (d : Option Nat) (want : Bool) (v : Option AV) : AV → Option St
  | .sc (.bool b) => (if b = want then v else some .un).map (s.put d)
  | .un => some (s.put d .un)
  | _ => none
def gH (s : St) (d : Option Nat) (want : Bool) (v : Option St) : AV → Option St
  | .sc (.bool b) => if b = want then v else some (s.put d .un)
  | .un => some (s.put d .un)
  | _ => none
def oV (s : St) (d : Option Nat) (v : Option AV) : Option St := v.map (s.put d)
theorem oV_some (v : AV) : oV s d (some v) = some (s.put d v) := rfl
theorem gP_bool (want : Bool) (v : Option AV) (b : Bool) : gP s d want v (.sc (.bool b)) = oV s d (if b = want then v else some .un) := rfl
theorem gH_bool (want : Bool) (v : Option St) (b : Bool) : gH s d want v (.sc (.bool b)) = if b = want then v else some (s.put d .un) := rfl
theorem os_pure (op : Op) (h1 : isCall op = false) (h2 : isHeapOp op = false) : opStep P E all s ⟨d, op, ty, pos, af, none⟩ = oV s d (rval P s op) := by
  simp [opStep, isPure, h1, h2, pval, oV]
theorem os_pureG (op : Op) (h1 : isCall op = false) (h2 : isHeapOp op = false) (j : Nat) (want : Bool) : opStep P E all s ⟨d, op, ty, pos, af, some (j, want)⟩ = gP s d want (rval P s op) (guardV all s j) := by
  simp only [opStep, isPure, h1, h2, pval, gP]
  simp only [Bool.false_eq_true, if_false, Bool.not_false, if_true]
  generalize guardV all s j = g
  cases g with
  | sc v => cases v <;> rfl
  | _ => rfl
theorem os_heap (op : Op) (h1 : isCall op = false) (h2 : isHeapOp op = true) : opStep P E all s ⟨d, op, ty, pos, af, none⟩ = hstep P s op d := by
  simp [opStep, isPure, h1, h2, hval]
def callP (E : Env) (s : St) (d : Option Nat) (b : Bool) (g : Nat) (args : List AV) : Option St :=
  if b = true then oV s d (E.pcall g (borrows s.H args)) else
    match E.hcall g args s.H s.cnt with
    | some (r, H', cnt') => some (St.put { s with H := H', cnt := cnt' } d r)
    | none => none
def callA (E : Env) (s : St) (d : Option Nat) (args : List AV) : AV → Option St
  | .fn g caps => callP E s d (E.isP g) g (args ++ caps)
  | _ => none
theorem callA_fn (args : List AV) (g : Nat) (caps : List AV) : callA E s d args (.fn g caps) = callP E s d (E.isP g) g (args ++ caps) := rfl
theorem callP_t (g : Nat) (args : List AV) : callP E s d true g args = oV s d (E.pcall g (borrows s.H args)) := by simp [callP]
def hres (s : St) (d : Option Nat) : Option (AV × List Blk × Nat) → Option St
  | some (r, H', cnt') => some (St.put { s with H := H', cnt := cnt' } d r)
  | none => none
theorem callP_f (g : Nat) (args : List AV) : callP E s d false g args = hres s d (E.hcall g args s.H s.cnt) := by
  simp only [callP, hres, Bool.false_eq_true, if_false]
theorem hres_some (T : List AV) (H H' : List Blk) (c c' : Nat) (r : AV) : hres ⟨T, H, c⟩ d (some (r, H', c')) = some (St.put ⟨T, H', c'⟩ d r) := rfl
theorem os_call (f : Operand) (args : Array Operand) (ats : Array TypeId) : opStep P E all s ⟨d, .call ⟨.value f, args, ats⟩, ty, pos, af, none⟩ = callA E s d (args.toList.map (ev s.T)) (ev s.T f) := by
  simp only [opStep, isPure, isCall, if_true, pval, hval, target]
  generalize ev s.T f = v
  cases v with
  | fn g caps =>
    simp only [callA, callP, borrows_map]
    cases E.isP g
    · simp only [Bool.false_eq_true, if_false]
      generalize E.hcall g (List.map (ev s.T) args.toList ++ caps) s.H s.cnt = hh
      cases hh with
      | none => rfl
      | some p => rfl
    · rfl
  | _ => rfl
def callGA (E : Env) (s : St) (d : Option Nat) (want : Bool) (args : List AV) (g : AV) : AV → Option St
  | .fn f caps => if E.isP f = true then gP s d want (E.pcall f (borrows s.H (args ++ caps))) g else gH s d want (callP E s d false f (args ++ caps)) g
  | _ => gP s d want none g
theorem callGA_fn (want : Bool) (args : List AV) (g : AV) (f : Nat) (caps : List AV) :
    callGA E s d want args g (.fn f caps) = if E.isP f = true then gP s d want (E.pcall f (borrows s.H (args ++ caps))) g else gH s d want (callP E s d false f (args ++ caps)) g := rfl
theorem os_callG (f : Operand) (args : Array Operand) (ats : Array TypeId) (j : Nat) (want : Bool) :
    opStep P E all s ⟨d, .call ⟨.value f, args, ats⟩, ty, pos, af, some (j, want)⟩ = callGA E s d want (args.toList.map (ev s.T)) (guardV all s j) (ev s.T f) := by
  simp only [opStep, isPure, isCall, if_true, pval, hval, target]
  generalize ev s.T f = v
  generalize guardV all s j = g
  cases v with
  | fn h caps =>
    simp only [callGA, callP, borrows_map]
    cases E.isP h
    · simp only [Bool.false_eq_true, if_false, gH]
      generalize E.hcall h (List.map (ev s.T) args.toList ++ caps) s.H s.cnt = hh
      cases g with
      | sc v =>
        cases v with
        | bool b => cases hh <;> rfl
        | _ => rfl
      | _ => rfl
    · simp only [if_true, gP]
      cases g with
      | sc v => cases v <;> rfl
      | _ => rfl
  | _ =>
    simp only [callGA, gP]
    cases g with
    | sc v => cases v <;> rfl
    | _ => rfl
theorem os_move (x : Operand) : opStep P E all s ⟨d, .move x, ty, pos, af, none⟩ = oV s d (rval P s (.move x)) := os_pure _ rfl rfl
theorem os_move_g (x : Operand) (j : Nat) (want : Bool) : opStep P E all s ⟨d, .move x, ty, pos, af, some (j, want)⟩ = gP s d want (rval P s (.move x)) (guardV all s j) := os_pureG _ rfl rfl j want
theorem os_assign (x : Operand) : opStep P E all s ⟨d, .assign x, ty, pos, af, none⟩ = oV s d (rval P s (.assign x)) := os_pure _ rfl rfl
theorem os_pick (c a b : Operand) : opStep P E all s ⟨d, .pick c a b, ty, pos, af, none⟩ = oV s d (rval P s (.pick c a b)) := os_pure _ rfl rfl
theorem os_pick_g (c a b : Operand) (j : Nat) (want : Bool) : opStep P E all s ⟨d, .pick c a b, ty, pos, af, some (j, want)⟩ = gP s d want (rval P s (.pick c a b)) (guardV all s j) := os_pureG _ rfl rfl j want
theorem os_load (t : TypeId) (x : Operand) : opStep P E all s ⟨d, .load t x, ty, pos, af, none⟩ = oV s d (rval P s (.load t x)) := os_pure _ rfl rfl
theorem os_load_g (t : TypeId) (x : Operand) (j : Nat) (want : Bool) : opStep P E all s ⟨d, .load t x, ty, pos, af, some (j, want)⟩ = gP s d want (rval P s (.load t x)) (guardV all s j) := os_pureG _ rfl rfl j want
theorem os_binOp (op : BinOp) (t : TypeId) (x y : Operand) (t' : TypeId) : opStep P E all s ⟨d, .binOp op t x y t', ty, pos, af, none⟩ = oV s d (rval P s (.binOp op t x y t')) := os_pure _ rfl rfl
theorem os_binOp_g (op : BinOp) (t : TypeId) (x y : Operand) (t' : TypeId) (j : Nat) (want : Bool) : opStep P E all s ⟨d, .binOp op t x y t', ty, pos, af, some (j, want)⟩ = gP s d want (rval P s (.binOp op t x y t')) (guardV all s j) := os_pureG _ rfl rfl j want
theorem os_unOp_g (op : UnOp) (t : TypeId) (x : Operand) (j : Nat) (want : Bool) : opStep P E all s ⟨d, .unOp op t x, ty, pos, af, some (j, want)⟩ = gP s d want (rval P s (.unOp op t x)) (guardV all s j) := os_pureG _ rfl rfl j want
theorem os_convert (t t' : TypeId) (x : Operand) : opStep P E all s ⟨d, .convert t t' x, ty, pos, af, none⟩ = oV s d (rval P s (.convert t t' x)) := os_pure _ rfl rfl
theorem os_convert_g (t t' : TypeId) (x : Operand) (j : Nat) (want : Bool) : opStep P E all s ⟨d, .convert t t' x, ty, pos, af, some (j, want)⟩ = gP s d want (rval P s (.convert t t' x)) (guardV all s j) := os_pureG _ rfl rfl j want
theorem os_fieldAddr (t : TypeId) (x : Operand) (f : Nat) : opStep P E all s ⟨d, .fieldAddr t x f, ty, pos, af, none⟩ = oV s d (rval P s (.fieldAddr t x f)) := os_pure _ rfl rfl
theorem os_fieldAddr_g (t : TypeId) (x : Operand) (f : Nat) (j : Nat) (want : Bool) : opStep P E all s ⟨d, .fieldAddr t x f, ty, pos, af, some (j, want)⟩ = gP s d want (rval P s (.fieldAddr t x f)) (guardV all s j) := os_pureG _ rfl rfl j want
theorem os_indexAddr_g (t : TypeId) (x y : Operand) (j : Nat) (want : Bool) : opStep P E all s ⟨d, .indexAddr t x y, ty, pos, af, some (j, want)⟩ = gP s d want (rval P s (.indexAddr t x y)) (guardV all s j) := os_pureG _ rfl rfl j want
theorem os_extract (x : Operand) (i : Nat) : opStep P E all s ⟨d, .extract x i, ty, pos, af, none⟩ = oV s d (rval P s (.extract x i)) := os_pure _ rfl rfl
theorem os_build (t : TypeId) (ps : Array (Nat × Operand)) : opStep P E all s ⟨d, .build t ps, ty, pos, af, none⟩ = oV s d (rval P s (.build t ps)) := os_pure _ rfl rfl
theorem os_build_g (t : TypeId) (ps : Array (Nat × Operand)) (j : Nat) (want : Bool) : opStep P E all s ⟨d, .build t ps, ty, pos, af, some (j, want)⟩ = gP s d want (rval P s (.build t ps)) (guardV all s j) := os_pureG _ rfl rfl j want
theorem os_len (a : Array Operand) (b : Array TypeId) : opStep P E all s ⟨d, .call ⟨.builtin .len, a, b⟩, ty, pos, af, none⟩ = oV s d (rval P s (.call ⟨.builtin .len, a, b⟩)) := os_pure _ rfl rfl
theorem os_len_g (a : Array Operand) (b : Array TypeId) (j : Nat) (want : Bool) : opStep P E all s ⟨d, .call ⟨.builtin .len, a, b⟩, ty, pos, af, some (j, want)⟩ = gP s d want (rval P s (.call ⟨.builtin .len, a, b⟩)) (guardV all s j) := os_pureG _ rfl rfl j want
theorem os_min (a : Array Operand) (b : Array TypeId) : opStep P E all s ⟨d, .call ⟨.builtin .min, a, b⟩, ty, pos, af, none⟩ = oV s d (rval P s (.call ⟨.builtin .min, a, b⟩)) := os_pure _ rfl rfl
theorem os_min_g (a : Array Operand) (b : Array TypeId) (j : Nat) (want : Bool) : opStep P E all s ⟨d, .call ⟨.builtin .min, a, b⟩, ty, pos, af, some (j, want)⟩ = gP s d want (rval P s (.call ⟨.builtin .min, a, b⟩)) (guardV all s j) := os_pureG _ rfl rfl j want
theorem os_max (a : Array Operand) (b : Array TypeId) : opStep P E all s ⟨d, .call ⟨.builtin .max, a, b⟩, ty, pos, af, none⟩ = oV s d (rval P s (.call ⟨.builtin .max, a, b⟩)) := os_pure _ rfl rfl
theorem os_alloc (t : TypeId) : opStep P E all s ⟨d, .alloc t, ty, pos, af, none⟩ = hstep P s (.alloc t) d := os_heap _ rfl rfl
theorem os_box (t : TypeId) (x : Operand) : opStep P E all s ⟨d, .box t x, ty, pos, af, none⟩ = hstep P s (.box t x) d := os_heap _ rfl rfl
theorem os_buildSlice (t : TypeId) (n : Nat) (ps : Array (Nat × Operand)) : opStep P E all s ⟨d, .buildSlice t n ps, ty, pos, af, none⟩ = hstep P s (.buildSlice t n ps) d := os_heap _ rfl rfl
theorem os_store (t : TypeId) (x y : Operand) : opStep P E all s ⟨d, .store t x y, ty, pos, af, none⟩ = hstep P s (.store t x y) d := os_heap _ rfl rfl
theorem os_append (a : Array Operand) (b : Array TypeId) : opStep P E all s ⟨d, .call ⟨.builtin .append, a, b⟩, ty, pos, af, none⟩ = hstep P s (.call ⟨.builtin .append, a, b⟩) d := os_heap _ rfl rfl
theorem ev_tmp (T : List AV) (t : Nat) : ev T (.tmp t) = T.getD t .un := rfl
theorem ev_func (T : List AV) (f : Nat) : ev T (.func f) = .fn f [] := rfl
theorem ev_int (T : List AV) (k : IntKind) (n : Int) : ev T (.const (.int k n)) = .sc (.int k n) := rfl
theorem ev_bool (T : List AV) (b : Bool) : ev T (.const (.bool b)) = .sc (.bool b) := rfl
theorem ev_str (T : List AV) (b : ByteArray) : ev T (.const (.string b)) = .sc (.string b) := rfl
theorem ev_nil (T : List AV) : ev T (.const (.slice none 0 0)) = .vw true [] := rfl
theorem rval_move (x : Operand) : rval P s (.move x) = some (ev s.T x) := rfl
theorem rval_assign (x : Operand) : rval P s (.assign x) = some (ev s.T x) := rfl
def pickA (a b : AV) : AV → Option AV
  | .sc (.bool t) => some (if t = true then a else b)
  | _ => none
theorem rval_pick (c a b : Operand) : rval P s (.pick c a b) = pickA (ev s.T a) (ev s.T b) (ev s.T c) := by
  simp only [rval, pickA]
  generalize ev s.T c = v
  cases v with
  | sc v => cases v <;> rfl
  | _ => rfl
theorem pickA_bool (a b : AV) (t : Bool) : pickA a b (.sc (.bool t)) = some (if t = true then a else b) := rfl
def ldE (d : TyD) (off : Nat) : Option AV → Option AV
  | some e => takeT d e.cells off
  | none => none
def ldB (d : TyD) (i off : Nat) : Option Blk → Option AV
  | some B => ldE d off B.els[i]?
  | none => none
def ldV (d : TyD) (off : Nat) : Option AV → Option AV
  | some e => match takeT d e.cells off with
    | some v => if v.noref = true then some v else none
    | none => none
  | none => none
def loadA (H : List Blk) : Option TyD → AV → Option AV
  | some d, .pt id ver i off => ldB d i off (liveB H id ver)
  | some d, .vp es i off => ldV d off es[i]?
  | _, _ => none
theorem rval_load (t : TypeId) (x : Operand) : rval P s (.load t x) = loadA s.H (tyD P t) (ev s.T x) := by
  simp only [rval, loadA, ldB, ldE, ldV]
  generalize ev s.T x = v
  generalize tyD P t = d
  cases d with
  | none => rfl
  | some d => cases v <;> rfl
theorem loadA_pt (H : List Blk) (d : TyD) (id ver i off : Nat) : loadA H (some d) (.pt id ver i off) = ldB d i off (liveB H id ver) := rfl
theorem loadA_vp (H : List Blk) (d : TyD) (es : List AV) (i off : Nat) : loadA H (some d) (.vp es i off) = ldV d off es[i]? := rfl
theorem ldB_some (d : TyD) (i off : Nat) (B : Blk) : ldB d i off (some B) = ldE d off B.els[i]? := rfl
theorem ldE_some (d : TyD) (off : Nat) (e : AV) : ldE d off (some e) = takeT d e.cells off := rfl
def ldW : Option AV → Option AV
  | some v => if v.noref = true then some v else none
  | none => none
theorem ldV_some (d : TyD) (off : Nat) (e : AV) : ldV d off (some e) = ldW (takeT d e.cells off) := rfl
theorem ldW_some (v : AV) : ldW (some v) = if v.noref = true then some v else none := rfl
theorem takeT_agg (sz bytes : Nat) (zero el len fl) (cs : List AV) (off : Nat) : takeT ⟨true, sz, bytes, zero, el, len, fl⟩ cs off = if off + sz ≤ cs.length then some (.ag ((cs.drop off).take sz)) else none := rfl
theorem takeT_one (sz bytes : Nat) (zero el len fl) (cs : List AV) (off : Nat) : takeT ⟨false, sz, bytes, zero, el, len, fl⟩ cs off = cs[off]? := rfl
theorem cells_ag (cs : List AV) : AV.cells (.ag cs) = cs := rfl
theorem cells_sc (v : Value) : AV.cells (.sc v) = [.sc v] := rfl
theorem norefs_cons (a : AV) (r : List AV) : norefs (a :: r) = (a.noref && norefs r) := by simp [norefs]
def binA (P : Program) (op : BinOp) (t : TypeId) (x y : Operand) (u v : AV) : Option AV :=
  match conc u, conc v with
  | some a, some b => match spure P (do eqGuard op t x y a b; binOp op t a b) with
    | some v => some (ofV v)
    | none => none
  | _, _ => nilB P op t u y
theorem rval_binOp (op : BinOp) (t t' : TypeId) (x y : Operand) : rval P s (.binOp op t x y t') = binA P op t x y (nilV s.H (ev s.T x)) (ev s.T y) := rfl
theorem nilV_sc (H : List Blk) (v : Value) : nilV H (.sc v) = .sc v := rfl
theorem nilV_ag (H : List Blk) (l : List AV) : nilV H (.ag l) = .ag l := rfl
theorem bin_nil_eql (t : TypeId) (x : Operand) (u : AV) : binA P .eql t x (.const (.slice none 0 0)) u (.vw true []) = nilR .eql (isSlT P t) (isNilA u) := by
  unfold binA
  cases conc u <;> rfl
theorem nilR_eql (b : Bool) : nilR .eql true (some b) = some (.sc (.bool b)) := rfl
theorem isNil_no (l c : Nat) : isNilA (.sc (.slice none l c)) = some true := rfl
theorem isNil_so (a : Addr) (l c : Nat) : isNilA (.sc (.slice (some a) l c)) = some false := rfl
theorem spure_bin {op : BinOp} {t : TypeId} {x y : Operand} {k k' : IntKind} {a b : Int} {v : Value} (h : rd P (binOp op t (.int k a) (.int k' b)) default = some v) :
    spure P (do eqGuard op t x y (.int k a) (.int k' b); binOp op t (.int k a) (.int k' b)) = some v := by
  unfold spure
  rw [rd_bind]
  have : rd P (eqGuard op t x y (.int k a) (.int k' b)) default = some () := by
    unfold eqGuard
    split <;> rfl
  rw [this]
  exact h
section
variable (t : TypeId) (x y : Operand) (k : IntKind) (a b : Int)
theorem bin_of {op : BinOp} {k k' : IntKind} {v : Value} (h : rd P (binOp op t (.int k a) (.int k' b)) default = some v) : binA P op t x y (.sc (.int k a)) (.sc (.int k' b)) = some (ofV v) := by
  simp only [binA, conc, spure_bin h]
theorem bin_add : binA P .add t x y (.sc (.int k a)) (.sc (.int k b)) = some (.sc (.int k (k.wrap (a + b)))) := bin_of _ _ _ _ _ (v := .int k (k.wrap (a + b))) (by simp [binOp, Op.intArith, rd_pure])
theorem bin_sub : binA P .sub t x y (.sc (.int k a)) (.sc (.int k b)) = some (.sc (.int k (k.wrap (a - b)))) := bin_of _ _ _ _ _ (v := .int k (k.wrap (a - b))) (by simp [binOp, Op.intArith, rd_pure])
theorem bin_eql : binA P .eql t x y (.sc (.int k a)) (.sc (.int k b)) = some (.sc (.bool (a == b))) := bin_of _ _ _ _ _ (v := .bool (a == b)) (by simp [binOp, Op.intCmp, rd_pure])
theorem bin_neq : binA P .neq t x y (.sc (.int k a)) (.sc (.int k b)) = some (.sc (.bool (a != b))) := bin_of _ _ _ _ _ (v := .bool (a != b)) (by simp [binOp, Op.intCmp, rd_pure])
theorem bin_lss : binA P .lss t x y (.sc (.int k a)) (.sc (.int k b)) = some (.sc (.bool (decide (a < b)))) := bin_of _ _ _ _ _ (v := .bool (decide (a < b))) (by simp [binOp, Op.intCmp, rd_pure])
theorem bin_leq : binA P .leq t x y (.sc (.int k a)) (.sc (.int k b)) = some (.sc (.bool (decide (a ≤ b)))) := bin_of _ _ _ _ _ (v := .bool (decide (a ≤ b))) (by simp [binOp, Op.intCmp, rd_pure])
theorem bin_gtr : binA P .gtr t x y (.sc (.int k a)) (.sc (.int k b)) = some (.sc (.bool (decide (b < a)))) := bin_of _ _ _ _ _ (v := .bool (decide (b < a))) (by simp [binOp, Op.intCmp, rd_pure])
theorem bin_geq : binA P .geq t x y (.sc (.int k a)) (.sc (.int k b)) = some (.sc (.bool (decide (b ≤ a)))) := bin_of _ _ _ _ _ (v := .bool (decide (b ≤ a))) (by simp [binOp, Op.intCmp, rd_pure])
theorem bin_quo (h : b ≠ 0) : binA P .quo t x y (.sc (.int k a)) (.sc (.int k b)) = some (.sc (.int k (k.wrap (a.tdiv b)))) := bin_of _ _ _ _ _ (v := .int k (k.wrap (a.tdiv b))) (by simp [binOp, Op.intDiv, rd_pure, h])
theorem bin_rem (h : b ≠ 0) : binA P .rem t x y (.sc (.int k a)) (.sc (.int k b)) = some (.sc (.int k (a.tmod b))) := bin_of _ _ _ _ _ (v := .int k (a.tmod b)) (by simp [binOp, Op.intDiv, rd_pure, h])
end
def unA (P : Program) (op : UnOp) (u : AV) : Option AV :=
  match conc u with
  | some a => match spure P (Op.unary op a) with
    | some v => some (ofV v)
    | none => none
  | none => none
theorem rval_unOp (op : UnOp) (t : TypeId) (x : Operand) : rval P s (.unOp op t x) = unA P op (ev s.T x) := rfl
theorem un_not (b : Bool) : unA P .not (.sc (.bool b)) = some (.sc (.bool (!b))) := rfl
def cvA (P : Program) (src dst : TypeId) (u : AV) : Option AV :=
  match conc u with
  | some a => match spure P (convert src dst a) with
    | some v => some (ofV v)
    | none => none
  | none => none
theorem rval_convert0 (src dst : TypeId) (x : Operand) : rval P s (.convert src dst x) = cvA P src dst (ev s.T x) := rfl
theorem cv_int {src dst : TypeId} {ks kd : IntKind} (h1 : P.underlying src = some (.int ks)) (h2 : P.underlying dst = some (.int kd)) (k : IntKind) (n : Int) :
    cvA P src dst (.sc (.int k n)) = some (.sc (.int kd (kd.wrap n))) := by
  have : spure P (convert src dst (.int k n)) = some (.int kd (kd.wrap n)) := by
    unfold spure convert
    simp only [rd_bind, rd_underlying, h1, h2, Option.bind_some]
    rfl
  simp only [cvA, conc, this]; rfl
def cvX (P : Program) (src dst : TypeId) (u : AV) : Option TypeDesc → Option TypeDesc → Option AV
  | some (.int _), some (.int kd) => match u with
    | .sc (.int _ n) => some (.sc (.int kd (kd.wrap n)))
    | _ => cvA P src dst u
  | _, _ => cvA P src dst u
theorem rval_convert (src dst : TypeId) (x : Operand) : rval P s (.convert src dst x) = cvX P src dst (ev s.T x) (P.underlying src) (P.underlying dst) := by
  rw [rval_convert0]
  generalize ev s.T x = u
  unfold cvX
  split
  · rename_i h1 h2
    split
    · exact cv_int h1 h2 _ _
    · rfl
  · rfl
theorem cvX_int (src dst : TypeId) (ks kd k : IntKind) (n : Int) : cvX P src dst (.sc (.int k n)) (some (.int ks)) (some (.int kd)) = some (.sc (.int kd (kd.wrap n))) := rfl
def faA (H : List Blk) (off : Nat) : AV → Option AV
  | .pt id ver i o => match liveB H id ver with
    | some _ => some (.pt id ver i (o + off))
    | none => none
  | .vp es i o => some (.vp es i (o + off))
  | _ => none
def faD (P : Program) (H : List Blk) (v : AV) : Option (Nat × Nat) → Option AV
  | some (off, ft) => match tyD P ft with
    | some df => if df.sz = 0 then none else faA H off v
    | none => none
  | none => none
def faT (P : Program) (H : List Blk) (f : Nat) (v : AV) : Option TyD → Option AV
  | some d => faD P H v d.flds[f]?
  | none => none
theorem rval_fieldAddr (t : TypeId) (x : Operand) (f : Nat) : rval P s (.fieldAddr t x f) = faT P s.H f (ev s.T x) (tyD P t) := by
  simp only [rval, faT, faD, faA]
  cases tyD P t with
  | none => rfl
  | some d =>
    simp only
    cases d.flds[f]? with
    | none => rfl
    | some p =>
      obtain ⟨off, ft⟩ := p
      simp only
      cases tyD P ft with
      | none => rfl
      | some df =>
        simp only
        split
        · rfl
        · cases ev s.T x <;> rfl
theorem faT_some (H : List Blk) (f : Nat) (v : AV) (d : TyD) : faT P H f v (some d) = faD P H v d.flds[f]? := rfl
def faS (H : List Blk) (off : Nat) (v : AV) : Option TyD → Option AV
  | some df => if df.sz = 0 then none else faA H off v
  | none => none
theorem faD_some (H : List Blk) (v : AV) (off ft : Nat) : faD P H v (some (off, ft)) = faS H off v (tyD P ft) := rfl
theorem faS_some (H : List Blk) (off : Nat) (v : AV) (d : TyD) : faS H off v (some d) = if d.sz = 0 then none else faA H off v := rfl
def faL (o : Option Blk) (v : AV) : Option AV := match o with | some _ => some v | none => none
theorem faA_pt (H : List Blk) (off id ver i o : Nat) : faA H off (.pt id ver i o) = faL (liveB H id ver) (.pt id ver i (o + off)) := rfl
theorem faA_vp (H : List Blk) (off i o : Nat) (es : List AV) : faA H off (.vp es i o) = some (.vp es i (o + off)) := rfl
theorem faL_some (B : Blk) (v : AV) : faL (some B) v = some v := rfl
theorem rval_extract (x : Operand) (i : Nat) : rval P s (.extract x i) = (match ev s.T x with | .tu vs => vs[i]? | _ => none) := rfl
end
section
variable {E : Env} {s : St}
end
def pin : List (Nat × (List AV → Option AV)) → Nat → Bool
  | [], _ => false
  | (g, _) :: r, f => if f = g then true else pin r f
def pl : List (Nat × (List AV → Option AV)) → Nat → List AV → Option AV
  | [], _, _ => none
  | (g, F) :: r, f, a => if f = g then F a else pl r f a
def pEnv (l : List (Nat × (List AV → Option AV))) : Env := ⟨pin l, pl l, fun _ _ _ _ => none, false, fun _ => none, fun _ => false⟩
theorem lit_pEnv (l : List (Nat × (List AV → Option AV))) : (pEnv l).lit = false := rfl
theorem isP_pEnv (l : List (Nat × (List AV → Option AV))) (f : Nat) : (pEnv l).isP f = pin l f := rfl
theorem pcall_pEnv (l : List (Nat × (List AV → Option AV))) (f : Nat) (a : List AV) : (pEnv l).pcall f a = pl l f a := rfl
def POk (P : Program) (g : Nat) (F : List AV → Option AV) : Prop := ∀ args r, F args = some r → PSpec P g args r
inductive POks (P : Program) : List (Nat × (List AV → Option AV)) → Prop
  | nil : POks P []
  | cons {g F r} (h : POk P g F) (t : POks P r) : POks P ((g, F) :: r)
theorem pEnv_ok {P : Program} {l : List (Nat × (List AV → Option AV))} (h : POks P l) : EnvOk P (pEnv l) where
  p f args r he := by
    simp only [pEnv] at he
    induction h with
    | nil => simp [pl] at he
    | @cons g F l h t ih =>
      simp only [pl] at he
      split at he
      · rename_i hh; subst hh; exact h args r he
      · exact ih he
  h f args H cnt r H' cnt' he := by simp [pEnv] at he
end Go.SX

namespace Go.SX
set_option linter.unusedSimpArgs false
set_option linter.unusedVariables false
section
variable {P : Program} {E : Env} {n0 : Nat} {rs : List ResultVar} {R : AV → St → Prop}
end
end Go.SX
