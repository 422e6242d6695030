/-
  Lemmas towards ModesBegins (joined texts: SXY, SYA).
  Conditions: none.
-/
import Derived.Test.YtdjpkhjaibdogaaGreatL10
import Derived.Laws.Strings
namespace Go.SX
set_option linter.unusedSimpArgs false
set_option linter.unusedVariables false
def vlE : Value → Value → Bool
  | .bool a, .bool b => a == b
  | .int k n, .int k' n' => (k == k') && (n == n')
  | .string a, .string b => a.data.toList == b.data.toList
  | .slice none 0 0, .slice none 0 0 => true
  | .pointer none, .pointer none => true
  | .nilFunc, .nilFunc => true
  | _, _ => false
theorem vlE_ok : ∀ {a b : Value}, vlE a b = true → a = b := by
  intro a b h
  unfold vlE at h
  split at h
  · rw [eq_of_beq h]
  · simp only [Bool.and_eq_true] at h
    obtain ⟨h1, h2⟩ := h
    rw [eq_of_beq h1, eq_of_beq h2]
  · rename_i a b
    have := eq_of_beq h
    obtain ⟨⟨a⟩⟩ := a
    obtain ⟨⟨b⟩⟩ := b
    simp only at this
    rw [this]
  · rfl
  · rfl
  · rfl
  · cases h
mutual
def avE : AV → AV → Bool
  | .sc a, .sc b => vlE a b
  | .ag a, .ag b => avEs a b
  | .tu a, .tu b => avEs a b
  | .pt a b c d, .pt a' b' c' d' => a == a' && b == b' && c == c' && d == d'
  | .sl a b c d, .sl a' b' c' d' => a == a' && b == b' && c == c' && d == d'
  | .vw z a, .vw z' a' => z == z' && avEs a a'
  | .vp a i o, .vp a' i' o' => i == i' && o == o' && avEs a a'
  | .fn f a, .fn f' a' => f == f' && avEs a a'
  | .un, .un => true
  | .jk, .jk => true
  | _, _ => false
def avEs : List AV → List AV → Bool
  | [], [] => true
  | a :: r, a' :: r' => avE a a' && avEs r r'
  | _, _ => false
end
mutual
theorem avE_ok : ∀ (a b : AV), avE a b = true → a = b
  | .sc a, b, h => by
    cases b <;> first | (simp [avE] at h; done) | skip
    simp only [avE] at h
    rw [vlE_ok h]
  | .ag a, b, h => by
    cases b <;> first | (simp [avE] at h; done) | skip
    simp only [avE] at h
    rw [avEs_ok _ _ h]
  | .tu a, b, h => by
    cases b <;> first | (simp [avE] at h; done) | skip
    simp only [avE] at h
    rw [avEs_ok _ _ h]
  | .pt a b c d, x, h => by
    cases x <;> first | (simp [avE] at h; done) | skip
    simp only [avE, Bool.and_eq_true, beq_iff_eq] at h
    obtain ⟨⟨⟨rfl, rfl⟩, rfl⟩, rfl⟩ := h
    rfl
  | .sl a b c d, x, h => by
    cases x <;> first | (simp [avE] at h; done) | skip
    simp only [avE, Bool.and_eq_true, beq_iff_eq] at h
    obtain ⟨⟨⟨rfl, rfl⟩, rfl⟩, rfl⟩ := h
    rfl
  | .vw z a, x, h => by
    cases x <;> first | (simp [avE] at h; done) | skip
    simp only [avE, Bool.and_eq_true, beq_iff_eq] at h
    obtain ⟨rfl, h2⟩ := h
    rw [avEs_ok _ _ h2]
  | .vp a i o, x, h => by
    cases x <;> first | (simp [avE] at h; done) | skip
    simp only [avE, Bool.and_eq_true, beq_iff_eq] at h
    obtain ⟨⟨rfl, rfl⟩, h2⟩ := h
    rw [avEs_ok _ _ h2]
  | .fn f a, x, h => by
    cases x <;> first | (simp [avE] at h; done) | skip
    simp only [avE, Bool.and_eq_true, beq_iff_eq] at h
    obtain ⟨rfl, h2⟩ := h
    rw [avEs_ok _ _ h2]
  | .un, x, h => by
    cases x <;> first | (simp [avE] at h; done) | rfl
  | .jk, x, h => by
    cases x <;> first | (simp [avE] at h; done) | rfl
theorem avEs_ok : ∀ (a b : List AV), avEs a b = true → a = b
  | [], b, h => by
    cases b <;> first | (simp [avEs] at h; done) | rfl
  | a :: r, b, h => by
    cases b <;> first | (simp [avEs] at h; done) | skip
    simp only [avEs, Bool.and_eq_true] at h
    rw [avE_ok _ _ h.1, avEs_ok _ _ h.2]
end
def dB : Nat → List Blk → AV → AV
  | 0, _, a => match a with
    | .ag cs => .ag (cs.map fun _ => .jk)
    | _ => .jk
  | n + 1, H, a => match a with
    | .pt id ver i off => match liveB H id ver with
      | some B => .vp (B.els.map (dB n H)) i off
      | none => .jk
    | .sl id ver lo len => match liveB H id ver with
      | some B => .vw false (((B.els.drop lo).take len).map (dB n H))
      | none => .jk
    | .ag cs => .ag (cs.map (dB n H))
    | .tu cs => .tu (cs.map (dB n H))
    | .fn f cs => .fn f (cs.map (dB n H))
    | a => a
theorem dB_cells (n : Nat) (H : List Blk) (e : AV) : (dB n H e).cells.length = e.cells.length ∧
    ∀ (j : Nat) (a : AV), (dB n H e).cells[j]? = some a → (∃ (c : AV) (m : Nat), e.cells[j]? = some c ∧ m ≤ n ∧ a = dB m H c) ∨ a = .jk := by
  cases n with
  | zero =>
    cases e <;> refine ⟨by simp [dB, AV.cells], fun j a h => .inr ?_⟩ <;> simp only [dB, AV.cells] at h
    case ag cs =>
      rw [List.getElem?_map] at h
      cases hq : cs[j]? with
      | none => rw [hq] at h; cases h
      | some c => rw [hq] at h; cases h; rfl
    all_goals
      cases j with
      | zero => cases h; rfl
      | succ j => simp at h
  | succ n =>
    have one : ∀ b : AV, (dB (n + 1) H b).cells = [dB (n + 1) H b] → b.cells = [b] → (dB (n + 1) H b).cells.length = b.cells.length ∧
        ∀ (j : Nat) (a : AV), (dB (n + 1) H b).cells[j]? = some a → (∃ (c : AV) (m : Nat), b.cells[j]? = some c ∧ m ≤ n + 1 ∧ a = dB m H c) ∨ a = .jk := by
      intro b h1 h2
      refine ⟨by rw [h1, h2]; rfl, fun j a h => .inl ⟨b, n + 1, ?_⟩⟩
      rw [h1] at h
      rw [h2]
      cases j with
      | zero => simp at h; exact ⟨rfl, Nat.le_refl _, h.symm⟩
      | succ j => simp at h
    cases e with
    | ag cs =>
      refine ⟨by simp [dB, AV.cells], fun j a h => ?_⟩
      simp only [dB, AV.cells] at h ⊢
      rw [List.getElem?_map] at h
      cases hq : cs[j]? with
      | none => rw [hq] at h; cases h
      | some c => rw [hq] at h; cases h; exact .inl ⟨c, n, rfl, Nat.le_succ n, rfl⟩
    | pt id ver i off => refine one _ ?_ rfl; simp only [dB]; cases liveB H id ver <;> rfl
    | sl id ver lo len => refine one _ ?_ rfl; simp only [dB]; cases liveB H id ver <;> rfl
    | _ => exact one _ rfl rfl
theorem dB_ok {w X X0 hc} (hr : HR w X hc) (hx : ∀ b, X0 b → X b) (ho : ∀ b, Own hc b → ¬ X0 b) : ∀ (n : Nat) (a : AV) {v : Value}, VR w X (some hc) a v → VR w X0 (some hc0) (dB n hc.H a) v := by
  intro n
  induction n using Nat.strongRecOn with
  | ind n IH =>
  intro a v h
  cases n with
  | zero =>
    cases a with
    | ag cs =>
      cases h with
      | ag hl h1 h2 =>
        refine .ag (by simpa using hl) (fun i c u e1 e2 => ?_) h2
        simp only [List.getElem?_map] at e1
        cases hq : cs[i]? with
        | none => rw [hq] at e1; cases e1
        | some x => rw [hq] at e1; cases e1; exact .jk
    | _ => exact .jk
  | succ n =>
    have ih := IH n (Nat.lt_succ_self n)
    have lst : ∀ {cs : List AV} {vs : List Value}, (∀ (i : Nat) (a : AV) (v : Value), cs[i]? = some a → vs[i]? = some v → VR w X (some hc) a v) →
        ∀ (i : Nat) (a : AV) (v : Value), (cs.map (dB n hc.H))[i]? = some a → vs[i]? = some v → VR w X0 (some hc0) a v := by
      intro cs vs h1 i c u e1 e2
      simp only [List.getElem?_map] at e1
      cases hq : cs[i]? with
      | none => rw [hq] at e1; cases e1
      | some x => rw [hq] at e1; cases e1; exact ih x (h1 i x u hq e2)
    cases a with
    | sc x => cases h with | sc h => exact .sc h
    | un => cases h; exact .un
    | jk => exact .jk
    | vw z es =>
      cases h with
      | vw0 hz hm => exact .vw0 hz hm
      | vw1 f hne hX hb hcap hz hmax hsz hcl hv => exact .vw1 f hne (fun h => hX (hx _ h)) hb hcap hz hmax hsz hcl (fun i e j a h1 h2 => (hv i e j a h1 h2).antiX hx)
    | vp es i off =>
      cases h with
      | vp f hX hb hsz hcl hv => exact .vp f (fun h => hX (hx _ h)) hb hsz hcl (fun i e j a h1 h2 => (hv i e j a h1 h2).antiX hx)
    | ag cs =>
      cases h with
      | ag hl h1 h2 => exact .ag (by simpa using hl) (lst h1) h2
    | tu cs =>
      cases h with
      | tu hl h1 => exact .tu (by simpa using hl) (lst h1)
    | fn f cs =>
      cases h with
      | fn hl h1 => exact .fn (by simpa using hl) (lst h1)
    | pt id ver i off =>
      simp only [dB]
      split
      · rename_i B hl
        obtain ⟨b, base, h1, h2, h3, ⟨cs, h4⟩, h5⟩ := pt_live hr h hl
        obtain ⟨g1, g2, g3⟩ := liveB_some hl
        subst h2
        refine .vp (fun i j => (w.cell? ⟨b, base + i * B.esz + j, none⟩).getD undef) (ho b ⟨id, B, base, g1, g2, h1⟩) (hr.lt b h3) ?_ ?_ ?_
        · intro e he
          obtain ⟨i, hi⟩ := List.mem_iff_getElem?.1 he
          rw [List.getElem?_map] at hi
          cases hq : B.els[i]? with
          | none => rw [hq] at hi; cases hi
          | some x => rw [hq] at hi; cases hi; rw [(dB_cells n hc.H x).1]; exact (h5 i x hq).1
        · intro i j hi hj
          have hi : i < B.els.length := by simpa using hi
          obtain ⟨q1, q2⟩ := h5 i B.els[i] (by simp [hi])
          obtain ⟨c, e1, e2, e3⟩ := q2 j (B.els[i].cells[j]'(by omega)) (by simp)
          rw [e1]
          exact ⟨rfl, e2⟩
        · intro i e j a he ha
          rw [List.getElem?_map] at he
          cases hq : B.els[i]? with
          | none => rw [hq] at he; cases he
          | some x =>
            rw [hq] at he
            cases he
            obtain ⟨q1, q2⟩ := h5 i x hq
            rcases (dB_cells n hc.H x).2 j a ha with ⟨y, m, e1, hm, rfl⟩ | rfl
            · obtain ⟨c, k1, k2, k3⟩ := q2 j y e1
              rw [k1]
              exact (IH m (Nat.lt_succ_of_le hm) y k3).close
            · exact .jk
      · exact .jk
    | sl id ver lo len =>
      simp only [dB]
      split
      · rename_i B hl
        obtain ⟨g1, g2, g3⟩ := liveB_some hl
        cases h with
        | sl q1 q2 =>
          obtain ⟨r1, r2⟩ := q2 _ rfl
          obtain ⟨r3, r4⟩ := r2 B g1 g2 g3
          have hlen : (((B.els.drop lo).take len).map (dB n hc.H)).length = len := by simp; omega
          have hB := hr.blk id B g1 g2
          rcases r4 with ⟨r4, p, hp⟩ | ⟨b, base, cap, nn, hloc, k1, k2, k3, k4, k5⟩
          · subst r4; subst hp
            rw [List.take_zero]
            exact .vw0 (fun h => by cases h) (Nat.zero_le _)
          · have hB2 := hB.2.2
            rw [hloc] at hB2
            obtain ⟨m1, ⟨cs, m2⟩, m3⟩ := hB2
            subst k1
            by_cases h0 : len = 0
            · subst h0
              rw [List.take_zero]
              exact .vw0 (fun h => by cases h) k3
            · have hne : ((B.els.drop lo).take len).map (dB n hc.H) ≠ [] := by intro e; rw [e] at hlen; simp at hlen; omega
              have hget : ∀ i e, (((B.els.drop lo).take len).map (dB n hc.H))[i]? = some e → ∃ x, B.els[lo + i]? = some x ∧ e = dB n hc.H x := by
                intro i e he
                rw [List.getElem?_map, List.getElem?_take] at he
                split at he
                · rw [List.getElem?_drop] at he
                  cases hq : B.els[lo + i]? with
                  | none => rw [hq] at he; cases he
                  | some x => rw [hq] at he; cases he; exact ⟨x, rfl, rfl⟩
                · cases he
              have := VR.vw1 (w := w) (X := X0) (o := some hc0) (z := false) (es := ((B.els.drop lo).take len).map (dB n hc.H)) (b := b) (base := base + lo * B.esz) (cap := cap) (esz := B.esz)
                (fun i j => (w.cell? ⟨b, base + lo * B.esz + i * B.esz + j, none⟩).getD undef) hne (ho b ⟨id, B, base, g1, g2, hloc⟩) (hr.lt b m1) (by rw [hlen]; exact k2) (fun h => by cases h) k3
                (fun e he => by
                  obtain ⟨i, hi⟩ := List.mem_iff_getElem?.1 he
                  obtain ⟨x, hx1, rfl⟩ := hget i e hi
                  rw [(dB_cells n hc.H x).1]
                  exact (m3 _ x hx1).1)
                (fun i j hi hj => by
                  have he : (((B.els.drop lo).take len).map (dB n hc.H))[i]? = some (((B.els.drop lo).take len).map (dB n hc.H))[i] := List.getElem?_eq_getElem hi
                  obtain ⟨x, hx1, _⟩ := hget i _ he
                  obtain ⟨q1, q2⟩ := m3 _ _ hx1
                  obtain ⟨c, e1, e2, e3⟩ := q2 j (x.cells[j]'(by omega)) (by simp)
                  rw [Nat.add_mul, ← Nat.add_assoc] at e1
                  rw [e1]
                  exact ⟨rfl, e2⟩)
                (fun i e j a he ha => by
                  obtain ⟨x, hx1, rfl⟩ := hget i e he
                  obtain ⟨q1, q2⟩ := m3 _ x hx1
                  rcases (dB_cells n hc.H x).2 j a ha with ⟨y, m, e1, hm, rfl⟩ | rfl
                  · obtain ⟨c, k1, k2, k3⟩ := q2 j y e1
                    rw [Nat.add_mul, ← Nat.add_assoc] at k1
                    rw [k1]
                    exact (IH m (Nat.lt_succ_of_le hm) y k3).close
                  · exact .jk)
              rw [hlen] at this
              exact this
      · exact .jk
theorem vspecD_of_go {P : Program} {E : Env} (hE : EnvOk P E) (hm : P.follows .mixedOrders = true) {f : FuncId} {fn : Func} {c : Code} {args : List AV} {r : AV} (n : Nat)
    (hf : P.funcs[f]? = some fn) (hb : fn.body = some c) (hn : (fn.name == "runtime.NumGoroutine") = false) (hlex : lexAll E.hb E.perm c = true) (hr : r.noref = true)
    (h : Go P E 0 fn.results.toList (fun r' s' => dB n s'.H r' = r) [.code c] (initSt fn args [] 0)) : VSpec P f args r := by
  refine ⟨⟨fn, hf, hn, by rw [hb]; rfl⟩, hr, fun w X0 cargs hx hv => ?_⟩
  have hr0 : HR w X0 ⟨fun _ => none, [], 0⟩ := ⟨fun id B h1 _ => by simp at h1, fun id id' B B' b o o' h1 => by simp at h1, hx⟩
  refine (calls_of_go hE hm hf hb hlex (H := []) (cnt := 0) (R := fun r' s' => dB n s'.H r' = r) h w X0 (fun _ => none) cargs hr0 hv).mono ?_
  rintro e w' ⟨r', s', X', loc', c', rfl, rfl, g1, g2, g3⟩
  have hown : ∀ b, Own (s'.hc loc') b → ¬ X0 b := by
    rintro b ⟨id, B, o, e1, e2, e3⟩ hb0
    obtain ⟨B1, o1, k1, _⟩ := g3.fresh id B b o e1 e2 e3 (hx b hb0)
    simp at k1
  refine ⟨c', rfl, dB_ok g1 (fun b hb0 => (g3.xs b (hx b hb0)).2 hb0) hown n _ g2, g3.os, g3.tape, g3.output, g3.size, fun k hk => g3.keep k hk ?_⟩
  rintro ⟨id, B, o, h1, _⟩
  simp at h1
def VEnv (E : Env) (isV : Nat → Bool) : Prop := ∀ g, isV g = true → E.isP g = false ∧ ∃ F : List AV → Option AV, ∀ args H cnt, E.hcall g args H cnt = (F args).map fun r => (r, H, cnt)
def isVop (isV : Nat → Bool) (s : St) (o : Op) : Bool := isCall o && match target s o with
  | some (g, _) => isV g
  | none => false
theorem vop_any {P : Program} {E : Env} {isV : Nat → Bool} (hV : VEnv E isV) {ops : Array Oper} {T : List AV} {H : List Blk} {c : Nat} {o : Oper} {s' : St} (hv : isVop isV ⟨T, H, c⟩ o.op = true) (h : opStep P E ops ⟨T, H, c⟩ o = some s') :
    s'.H = H ∧ s'.cnt = c ∧ ∀ H2 c2, opStep P E ops ⟨T, H2, c2⟩ o = some ⟨s'.T, H2, c2⟩ := by
  unfold isVop at hv
  simp only [Bool.and_eq_true] at hv
  obtain ⟨hc, hv⟩ := hv
  split at hv
  · rename_i g args ht
    obtain ⟨hp, F, hF⟩ := hV g hv
    have ht2 : ∀ H2 c2, target ⟨T, H2, c2⟩ o.op = some (g, args) := fun H2 c2 => ht
    have pure : ∀ H2 c2, ¬ isPure E ⟨T, H2, c2⟩ o.op = true := by
      intro H2 c2
      unfold isPure
      rw [hc, if_pos rfl, ht2]
      simp only
      rw [hp]; decide
    have hval : ∀ H2 c2, hval P E ⟨T, H2, c2⟩ o = (F args).map fun r => St.put ⟨T, H2, c2⟩ o.dst r := by
      intro H2 c2
      unfold hval
      rw [hc, if_pos rfl, ht2]
      simp only [hF]
      cases F args <;> rfl
    have put : ∀ (d : Option Nat) (v : AV) (H2 : List Blk) (c2 : Nat), St.put ⟨T, H2, c2⟩ d v = ⟨(St.put ⟨T, H, c⟩ d v).T, H2, c2⟩ := by
      intro d v H2 c2
      cases d <;> rfl
    unfold opStep at h ⊢
    cases hg : o.guard with
    | none =>
      rw [hg] at h
      simp only [if_neg (pure _ _), hval] at h ⊢
      cases hq : F args with
      | none => rw [hq] at h; cases h
      | some r =>
        rw [hq] at h
        cases h
        refine ⟨by cases o.dst <;> rfl, by cases o.dst <;> rfl, fun H2 c2 => ?_⟩
        rw [Option.map_some, put o.dst r H2 c2]
    | some jw =>
      obtain ⟨j, want⟩ := jw
      rw [hg] at h
      have gv : ∀ H2 c2, guardV ops ⟨T, H2, c2⟩ j = guardV ops ⟨T, H, c⟩ j := fun _ _ => rfl
      simp only [gv, if_neg (pure _ _), hval] at h ⊢
      split at h
      · split at h
        · rename_i hw
          cases hq : F args with
          | none => rw [hq] at h; cases h
          | some r =>
            rw [hq] at h
            cases h
            refine ⟨by cases o.dst <;> rfl, by cases o.dst <;> rfl, fun H2 c2 => ?_⟩
            rw [if_pos hw, Option.map_some, put o.dst r H2 c2]
        · rename_i hw
          cases h
          refine ⟨by cases o.dst <;> rfl, by cases o.dst <;> rfl, fun H2 c2 => ?_⟩
          rw [if_neg hw, put o.dst .un H2 c2]
      · cases h
        refine ⟨by cases o.dst <;> rfl, by cases o.dst <;> rfl, fun H2 c2 => ?_⟩
        rw [put o.dst .un H2 c2]
      · cases h
  · cases hv
def sameB (P : Program) (E : Env) (ops : Array Oper) (o : Oper) (T T' : List AV) (H : List Blk) (c : Nat) : Bool :=
  isPure E ⟨T, H, c⟩ o.op && match opStep P E ops ⟨T, H, c⟩ o, o.dst with
    | some s1, some d => avE (s1.T.getD d .un) (T'.getD d .un)
    | some _, none => true
    | none, _ => false
theorem opStep_put {P : Program} {E : Env} {ops : Array Oper} {s s' : St} {o : Oper} (hp : isPure E s o.op = true) (h : opStep P E ops s o = some s') : ∃ v, s' = s.put o.dst v := by
  unfold opStep at h
  simp only [hp, if_true] at h
  split at h
  · simp only [Option.map_eq_some_iff] at h
    obtain ⟨v, _, h⟩ := h
    exact ⟨v, h.symm⟩
  · split at h
    · simp only [Option.map_eq_some_iff] at h
      obtain ⟨v, _, h⟩ := h
      exact ⟨v, h.symm⟩
    · cases h; exact ⟨_, rfl⟩
    · cases h
theorem sameB_ok {P : Program} {E : Env} {ops : Array Oper} {o : Oper} {T T' : List AV} {H H0 : List Blk} {c c0 : Nat} (hT : ∃ v, T' = (St.put ⟨T, H0, c0⟩ o.dst v).T) (h : sameB P E ops o T T' H c = true) :
    opStep P E ops ⟨T, H, c⟩ o = some ⟨T', H, c⟩ := by
  unfold sameB at h
  simp only [Bool.and_eq_true] at h
  obtain ⟨hp, h⟩ := h
  obtain ⟨v, hT⟩ := hT
  split at h
  · rename_i s1 d h1 hd
    obtain ⟨v1, rfl⟩ := opStep_put hp h1
    have := avE_ok _ _ h
    rw [h1]
    rw [hd] at hT this ⊢
    simp only [St.put] at hT this ⊢
    rw [hT] at this ⊢
    by_cases hl : d < T.length
    · simp [List.getD_eq_getElem?_getD, hl] at this
      rw [this]
    · have hl' : T.length ≤ d := Nat.le_of_not_lt hl
      rw [List.set_eq_of_length_le hl', List.set_eq_of_length_le hl']
  · rename_i s1 h1 hd
    obtain ⟨v1, rfl⟩ := opStep_put hp h1
    rw [h1, hT, hd]
    rfl
  · cases h
def chkPb (P : Program) (E : Env) (isV : Nat → Bool) (ops : Array Oper) (i : Nat) (o : Oper) (T T' : List AV) : List Past → Bool
  | [] => true
  | h :: r => (gB E.hb ops h.at_ i || (isVop isV ⟨T, [], 0⟩ o.op || sameB P E ops o T T' h.H h.c)) && chkPb P E isV ops i o T T' r
def chkFb (P : Program) (E : Env) (isV : Nat → Bool) (ops : Array Oper) (k : Nat) (H : List Blk) (c : Nat) : List Did → Bool
  | [] => true
  | d :: r => (gB E.hb ops d.at_ k || (isVop isV ⟨d.T, [], 0⟩ d.o.op || sameB P E ops d.o d.T d.T' H c)) && chkFb P E isV ops k H c r
def bornB (κ : Nat → Bool) (ops : Array Oper) (i : Nat) (H' : List Blk) : Op → Bool
  | .buildSlice .. => gB κ ops i i || norefs (lastEls H')
  | _ => true
def runDPb (P : Program) (E : Env) (isV : Nat → Bool) (ops : Array Oper) : List Oper → Nat → St → List Past → List Did → Option St
  | [], _, s, _, _ => some s
  | o :: r, i, s, hs, ds => match opStep P E ops s o with
    | none => none
    | some s' =>
      match hopB E.hb o.op with
      | false =>
        match noHeapB o.op with
        | true => runDPb P E isV ops r (i + 1) s' hs ds
        | false => match (isPure E s o.op || isVop isV s o.op) && chkPb P E isV ops i o s.T s'.T hs with
          | true => runDPb P E isV ops r (i + 1) s' hs (⟨i, o, s.T, s'.T⟩ :: ds)
          | false => none
      | true => match chkFb P E isV ops i s'.H s'.cnt ds && bornB E.hb ops i s'.H o.op with
        | true => runDPb P E isV ops r (i + 1) s' (⟨i, s.H, s.cnt⟩ :: hs) ds
        | false => none
theorem chk_or {κ : Nat → Bool} {ops : Array Oper} {i k : Nat} {p : Prop} {b : Bool} (hb : b = true → p) (h : (gB κ ops i k || b) = true) : Chk κ ops i k p := by
  intro hg
  rw [hg, Bool.false_or] at h
  exact hb h
def DidIt (P : Program) (E : Env) (isV : Nat → Bool) (ops : Array Oper) (o : Oper) (T T' : List AV) : Prop :=
  (isVop isV ⟨T, [], 0⟩ o.op = true → ∀ H c, opStep P E ops ⟨T, H, c⟩ o = some ⟨T', H, c⟩) ∧ (isVop isV ⟨T, [], 0⟩ o.op = false → ∃ H0 c0 v, T' = (St.put ⟨T, H0, c0⟩ o.dst v).T)
theorem didIt_ok {P : Program} {E : Env} {isV : Nat → Bool} {ops : Array Oper} {o : Oper} {T T' : List AV} {H : List Blk} {c : Nat} (hd : DidIt P E isV ops o T T') (h : (isVop isV ⟨T, [], 0⟩ o.op || sameB P E ops o T T' H c) = true) :
    opStep P E ops ⟨T, H, c⟩ o = some ⟨T', H, c⟩ := by
  cases hv : isVop isV ⟨T, [], 0⟩ o.op with
  | true => exact hd.1 hv H c
  | false =>
    obtain ⟨H0, c0, hT⟩ := hd.2 hv
    rw [hv, Bool.false_or] at h
    exact sameB_ok (H0 := H0) (c0 := c0) hT h
theorem chkPb_ok {P : Program} {E : Env} {isV : Nat → Bool} {ops : Array Oper} {i : Nat} {o : Oper} {T T' : List AV} (hT : DidIt P E isV ops o T T') : ∀ {hs : List Past}, chkPb P E isV ops i o T T' hs = true → chkP P E ops i o T T' hs
  | [], _ => trivial
  | h :: r, hb => by
    simp only [chkPb, Bool.and_eq_true] at hb
    exact ⟨chk_or (didIt_ok hT) hb.1, chkPb_ok hT hb.2⟩
def DidOk (P : Program) (E : Env) (isV : Nat → Bool) (ops : Array Oper) (ds : List Did) : Prop := ∀ d ∈ ds, DidIt P E isV ops d.o d.T d.T'
theorem chkFb_ok {P : Program} {E : Env} {isV : Nat → Bool} {ops : Array Oper} {k : Nat} {H : List Blk} {c : Nat} : ∀ {ds : List Did}, DidOk P E isV ops ds → chkFb P E isV ops k H c ds = true → chkF P E ops k H c ds
  | [], _, _ => trivial
  | d :: r, hd, hb => by
    simp only [chkFb, Bool.and_eq_true] at hb
    exact ⟨chk_or (didIt_ok (hd d List.mem_cons_self)) hb.1, chkFb_ok (fun x hx => hd x (List.mem_cons_of_mem _ hx)) hb.2⟩
theorem bornB_ok {E : Env} {ops : Array Oper} {i : Nat} {H : List Blk} {o : Op} (h : bornB E.hb ops i H o = true) : bornC E.hb ops i H o := by
  cases o <;> first | trivial | exact chk_or id h
theorem runDPb_ok {P : Program} {E : Env} {isV : Nat → Bool} (hV : VEnv E isV) {ops : Array Oper} {s1 : St} : ∀ {l : List Oper} {i : Nat} {s : St} {hs : List Past} {ds : List Did}, DidOk P E isV ops ds → runDPb P E isV ops l i s hs ds = some s1 → runDP P E ops (· = s1) l i s hs ds
  | [], i, s, hs, ds, hd, h => by simp only [runDPb, Option.some.injEq] at h; exact h
  | o :: r, i, s, hs, ds, hd, h => by
    simp only [runDPb] at h
    split at h
    · cases h
    · rename_i s' hs'
      refine ⟨s', hs', ?_⟩
      split at h
      · rename_i hh
        rw [if_pos hh]
        split at h
        · rename_i hn
          rw [if_pos hn]
          exact runDPb_ok hV hd h
        · rename_i hn
          rw [if_neg (by rw [hn]; decide)]
          split at h
          · rename_i hc
            simp only [Bool.and_eq_true, Bool.or_eq_true] at hc
            have key : (s'.H = s.H ∧ s'.cnt = s.cnt) ∧ DidIt P E isV ops o s.T s'.T := by
              cases hv : isVop isV s o.op with
              | true =>
                obtain ⟨k1, k2, k3⟩ := vop_any hV hv hs'
                exact ⟨⟨k1, k2⟩, ⟨fun _ => k3, fun h' => by rw [show isVop isV ⟨s.T, [], 0⟩ o.op = isVop isV s o.op from rfl, hv] at h'; cases h'⟩⟩
              | false =>
                have hp : isPure E s o.op = true := by
                  rcases hc.1 with h' | h'
                  · exact h'
                  · rw [hv] at h'; cases h'
                obtain ⟨v, hv'⟩ := opStep_put hp hs'
                exact ⟨pure_heap hp hs', ⟨fun h' => (by rw [show isVop isV ⟨s.T, [], 0⟩ o.op = isVop isV s o.op from rfl, hv] at h'; cases h'), fun _ => ⟨s.H, s.cnt, v, by rw [hv']⟩⟩⟩
            exact ⟨key.1, chkPb_ok key.2 hc.2, runDPb_ok hV (fun d hm => by
              rcases List.mem_cons.1 hm with rfl | hm
              · exact key.2
              · exact hd d hm) h⟩
          · cases h
      · rename_i hh
        rw [if_neg (by rw [hh]; decide)]
        split at h
        · rename_i hc
          simp only [Bool.and_eq_true] at hc
          exact ⟨chkFb_ok hd hc.1, bornB_ok hc.2, runDPb_ok hV hd h⟩
        · cases h
def isRet : Item → Bool
  | .code .ret => true
  | _ => false
theorem go_mono {P : Program} {E : Env} {n0 : Nat} {rs : List ResultVar} {R R' : AV → St → Prop} {k : List Item} {s : St} (h : Go P E n0 rs R k s) (hR : ∀ r s, R r s → R' r s) : Go P E n0 rs R' k s := by
  induction h with
  | ret h h1 => exact .ret h (hR _ _ h1)
  | fin h h1 => exact .fin h (hR _ _ h1)
  | skip _ ih => exact .skip ih
  | seq _ ih => exact .seq ih
  | cond t hc _ ih => exact .cond t hc ih
  | block _ ih => exact .block ih
  | inBlock _ ih => exact .inBlock ih
  | loop _ ih => exact .loop ih
  | inLoop _ ih => exact .inLoop ih
  | exit he _ ih => exact .exit he ih
  | region hr _ ih => exact .region hr ih
  | draw hp hr _ ih => exact .draw hp hr ih
  | drawH hp hh hr _ ih => exact .drawH hp hh hr ih
  | drawP hp hr _ ih => exact .drawP hp hr ih
  | ghost hg _ ih => exact .ghost hg ih
  | alt hg _ ih => exact .alt hg ih
  | know hp _ ih => exact .know hp ih
  | sem hg _ ih => exact .sem hg ih
structure Giv where
  p : Nat → List AV → Option AV
  v : Nat → List AV → Option AV
  h : Nat → List AV → List Blk → Nat → Option (AV × List Blk × Nat)
  f : Nat → List AV → Option AV
structure GivOk (P : Program) (G : Giv) : Prop where
  p : ∀ f args r, G.p f args = some r → PSpec P f args r
  v : ∀ f args r, G.v f args = some r → VSpec P f args r
  h : ∀ f args H cnt r H' cnt', G.h f args H cnt = some (r, H', cnt') → HSpec P f args H cnt r H' cnt'
  f : ∀ f args r, G.f f args = some r → FSpec P f args r
def fuelI : Nat := 1000000
end Go.SX

namespace Go.SX
set_option linter.unusedSimpArgs false
set_option linter.unusedVariables false
inductive Tr (α : Type) where
  | nil
  | node (v : α) (l r : Tr α)
namespace Tr
variable {α : Type}
def get (d : α) : Tr α → Nat → α
  | .nil, _ => d
  | .node v l r, i => match i with
    | 0 => v
    | k + 1 => match k % 2 with
      | 0 => l.get d (k / 2)
      | _ => r.get d (k / 2)
def set (t : Tr α) (i : Nat) (x : α) : Option (Tr α) :=
  match t with
  | .nil => none
  | .node v l r => match i with
    | 0 => some (.node x l r)
    | k + 1 => match k % 2 with
      | 0 => match l.set (k / 2) x with
        | some l' => some (.node v l' r)
        | none => none
      | _ => match r.set (k / 2) x with
        | some r' => some (.node v l r')
        | none => none
def push (t : Tr α) (n : Nat) (x : α) : Option (Tr α) :=
  match t with
  | .nil => some (.node x .nil .nil)
  | .node v l r => match n with
    | 0 => none
    | k + 1 => match k % 2 with
      | 0 => match l.push (k / 2) x with
        | some l' => some (.node v l' r)
        | none => none
      | _ => match r.push (k / 2) x with
        | some r' => some (.node v l r')
        | none => none
def pop (t : Tr α) (n : Nat) : Option (Tr α) :=
  match t with
  | .nil => none
  | .node v l r => match n with
    | 0 => some .nil
    | k + 1 => match k % 2 with
      | 0 => match l.pop (k / 2) with
        | some l' => some (.node v l' r)
        | none => none
      | _ => match r.pop (k / 2) with
        | some r' => some (.node v l r')
        | none => none
def Fit : Tr α → Nat → Prop
  | .nil, n => n = 0
  | .node _ l r, n => 0 < n ∧ Fit l (n / 2) ∧ Fit r ((n - 1) / 2)
theorem get_odd (d v : α) (l r : Tr α) (j : Nat) : (Tr.node v l r).get d (2 * j + 1) = l.get d j := by
  have h1 : 2 * j % 2 = 0 := by omega
  have h2 : 2 * j / 2 = j := by omega
  simp only [get, h1, h2]
theorem get_even (d v : α) (l r : Tr α) (j : Nat) : (Tr.node v l r).get d (2 * j + 2) = r.get d j := by
  have h1 : (2 * j + 1) % 2 = 1 := by omega
  have h2 : (2 * j + 1) / 2 = j := by omega
  show (match (2 * j + 1) % 2 with | 0 => l.get d ((2 * j + 1) / 2) | _ => r.get d ((2 * j + 1) / 2)) = _
  rw [h1, h2]
  rfl
theorem idx (i : Nat) : i = 0 ∨ (∃ j, i = 2 * j + 1) ∨ ∃ j, i = 2 * j + 2 := by
  rcases Nat.eq_zero_or_pos i with h | h
  · exact .inl h
  · rcases Nat.mod_two_eq_zero_or_one i with h2 | h2
    · exact .inr (.inr ⟨i / 2 - 1, by omega⟩)
    · exact .inr (.inl ⟨i / 2, by omega⟩)
theorem get_ext (d : α) : ∀ {t t' : Tr α} {n : Nat}, Fit t n → Fit t' n → (∀ i, i < n → t.get d i = t'.get d i) → t = t'
  | .nil, .nil, n, _, _, _ => rfl
  | .nil, .node .., n, h, h', _ => by
    have : n = 0 := h
    have := h'.1
    omega
  | .node .., .nil, n, h, h', _ => by
    have : n = 0 := h'
    have := h.1
    omega
  | .node v l r, .node v' l' r', n, h, h', hg => by
    obtain ⟨h1, h2, h3⟩ := h
    obtain ⟨k1, k2, k3⟩ := h'
    have e0 : v = v' := hg 0 h1
    have e1 : l = l' := get_ext d h2 k2 fun j hj => by
      have := hg (2 * j + 1) (by omega)
      rwa [get_odd, get_odd] at this
    have e2 : r = r' := get_ext d h3 k3 fun j hj => by
      have := hg (2 * j + 2) (by omega)
      rwa [get_even, get_even] at this
    rw [e0, e1, e2]
theorem set_ok (d x : α) : ∀ {t t' : Tr α} {i : Nat}, t.set i x = some t' → (∀ j, t'.get d j = if j = i then x else t.get d j) ∧ ∀ n, Fit t n → Fit t' n
  | .nil, t', i, h => by simp [set] at h
  | .node v l r, t', i, h => by
    rcases idx i with rfl | ⟨k, rfl⟩ | ⟨k, rfl⟩
    · simp only [set, Option.some.injEq] at h
      subst h
      refine ⟨fun j => ?_, fun n h => h⟩
      rcases idx j with rfl | ⟨j, rfl⟩ | ⟨j, rfl⟩
      · rfl
      · rw [get_odd, get_odd, if_neg (by omega)]
      · rw [get_even, get_even, if_neg (by omega)]
    · have h1 : 2 * k % 2 = 0 := by omega
      have h2 : 2 * k / 2 = k := by omega
      simp only [set, h1, h2] at h
      split at h
      · rename_i l' hl
        cases h
        obtain ⟨g1, g2⟩ := set_ok d x hl
        refine ⟨fun j => ?_, fun n h => ⟨h.1, g2 _ h.2.1, h.2.2⟩⟩
        rcases idx j with rfl | ⟨j, rfl⟩ | ⟨j, rfl⟩
        · rw [if_neg (by omega)]; rfl
        · rw [get_odd, get_odd, g1]
          by_cases hj : j = k
          · subst hj; simp
          · rw [if_neg hj, if_neg (by omega)]
        · rw [get_even, get_even, if_neg (by omega)]
      · cases h
    · have h : (match (2 * k + 1) % 2 with | 0 => (match l.set ((2 * k + 1) / 2) x with | some l' => some (Tr.node v l' r) | none => none) | _ => (match r.set ((2 * k + 1) / 2) x with | some r' => some (Tr.node v l r') | none => none)) = some t' := h
      have h1 : (2 * k + 1) % 2 = 1 := by omega
      have h2 : (2 * k + 1) / 2 = k := by omega
      rw [h1, h2] at h
      simp only at h
      split at h
      · rename_i r' hr
        cases h
        obtain ⟨g1, g2⟩ := set_ok d x hr
        refine ⟨fun j => ?_, fun n h => ⟨h.1, h.2.1, g2 _ h.2.2⟩⟩
        rcases idx j with rfl | ⟨j, rfl⟩ | ⟨j, rfl⟩
        · rw [if_neg (by omega)]; rfl
        · rw [get_odd, get_odd, if_neg (by omega)]
        · rw [get_even, get_even, g1]
          by_cases hj : j = k
          · subst hj; simp
          · rw [if_neg hj, if_neg (by omega)]
      · cases h
theorem push_ok (d x : α) : ∀ {t t' : Tr α} {n : Nat}, Fit t n → t.push n x = some t' → (∀ j, t'.get d j = if j = n then x else t.get d j) ∧ Fit t' (n + 1)
  | .nil, t', n, hf, h => by
    have hn : n = 0 := hf
    subst hn
    simp only [push, Option.some.injEq] at h
    subst h
    refine ⟨fun j => ?_, ⟨by omega, by show (0 + 1) / 2 = 0; omega, by show (0 + 1 - 1) / 2 = 0; omega⟩⟩
    rcases idx j with rfl | ⟨j, rfl⟩ | ⟨j, rfl⟩
    · rfl
    · rw [get_odd, if_neg (by omega)]; rfl
    · rw [get_even, if_neg (by omega)]; rfl
  | .node v l r, t', n, hf, h => by
    obtain ⟨f1, f2, f3⟩ := hf
    rcases idx n with rfl | ⟨k, rfl⟩ | ⟨k, rfl⟩
    · omega
    · have h1 : 2 * k % 2 = 0 := by omega
      have h2 : 2 * k / 2 = k := by omega
      simp only [push, h1, h2] at h
      split at h
      · rename_i l' hl
        cases h
        rw [show (2 * k + 1) / 2 = k by omega] at f2
        obtain ⟨g1, g2⟩ := push_ok d x f2 hl
        refine ⟨fun j => ?_, ⟨by omega, by rw [show (2 * k + 1 + 1) / 2 = k + 1 by omega]; exact g2, by rw [show (2 * k + 1 + 1 - 1) / 2 = (2 * k + 1 - 1) / 2 by omega]; exact f3⟩⟩
        rcases idx j with rfl | ⟨j, rfl⟩ | ⟨j, rfl⟩
        · rw [if_neg (by omega)]; rfl
        · rw [get_odd, get_odd, g1]
          by_cases hj : j = k
          · subst hj; simp
          · rw [if_neg hj, if_neg (by omega)]
        · rw [get_even, get_even, if_neg (by omega)]
      · cases h
    · have h : (match (2 * k + 1) % 2 with | 0 => (match l.push ((2 * k + 1) / 2) x with | some l' => some (Tr.node v l' r) | none => none) | _ => (match r.push ((2 * k + 1) / 2) x with | some r' => some (Tr.node v l r') | none => none)) = some t' := h
      have h1 : (2 * k + 1) % 2 = 1 := by omega
      have h2 : (2 * k + 1) / 2 = k := by omega
      rw [h1, h2] at h
      simp only at h
      split at h
      · rename_i r' hr
        cases h
        rw [show (2 * k + 2 - 1) / 2 = k by omega] at f3
        obtain ⟨g1, g2⟩ := push_ok d x f3 hr
        refine ⟨fun j => ?_, ⟨by omega, by rw [show (2 * k + 2 + 1) / 2 = (2 * k + 2) / 2 by omega]; exact f2, by rw [show (2 * k + 2 + 1 - 1) / 2 = k + 1 by omega]; exact g2⟩⟩
        rcases idx j with rfl | ⟨j, rfl⟩ | ⟨j, rfl⟩
        · rw [if_neg (by omega)]; rfl
        · rw [get_odd, get_odd, if_neg (by omega)]
        · rw [get_even, get_even, g1]
          by_cases hj : j = k
          · subst hj; simp
          · rw [if_neg hj, if_neg (by omega)]
      · cases h
theorem pop_ok (d : α) : ∀ {t t' : Tr α} {n : Nat}, Fit t (n + 1) → t.pop n = some t' → (∀ j, j < n → t'.get d j = t.get d j) ∧ Fit t' n
  | .nil, t', n, hf, h => by simp [pop] at h
  | .node v l r, t', n, hf, h => by
    obtain ⟨f1, f2, f3⟩ := hf
    rcases idx n with rfl | ⟨k, rfl⟩ | ⟨k, rfl⟩
    · simp only [pop, Option.some.injEq] at h
      subst h
      exact ⟨fun j hj => by omega, rfl⟩
    · have h1 : 2 * k % 2 = 0 := by omega
      have h2 : 2 * k / 2 = k := by omega
      simp only [pop, h1, h2] at h
      split at h
      · rename_i l' hl
        cases h
        rw [show (2 * k + 1 + 1) / 2 = k + 1 by omega] at f2
        obtain ⟨g1, g2⟩ := pop_ok d f2 hl
        refine ⟨fun j hj => ?_, ⟨by omega, by rw [show (2 * k + 1) / 2 = k by omega]; exact g2, by rw [show (2 * k + 1 - 1) / 2 = (2 * k + 1 + 1 - 1) / 2 by omega]; exact f3⟩⟩
        rcases idx j with rfl | ⟨j, rfl⟩ | ⟨j, rfl⟩
        · rfl
        · rw [get_odd, get_odd, g1 j (by omega)]
        · rw [get_even, get_even]
      · cases h
    · have h : (match (2 * k + 1) % 2 with | 0 => (match l.pop ((2 * k + 1) / 2) with | some l' => some (Tr.node v l' r) | none => none) | _ => (match r.pop ((2 * k + 1) / 2) with | some r' => some (Tr.node v l r') | none => none)) = some t' := h
      have h1 : (2 * k + 1) % 2 = 1 := by omega
      have h2 : (2 * k + 1) / 2 = k := by omega
      rw [h1, h2] at h
      simp only at h
      split at h
      · rename_i r' hr
        cases h
        rw [show (2 * k + 2 + 1 - 1) / 2 = k + 1 by omega] at f3
        obtain ⟨g1, g2⟩ := pop_ok d f3 hr
        refine ⟨fun j hj => ?_, ⟨by omega, by rw [show (2 * k + 2) / 2 = (2 * k + 2 + 1) / 2 by omega]; exact f2, by rw [show (2 * k + 2 - 1) / 2 = k by omega]; exact g2⟩⟩
        rcases idx j with rfl | ⟨j, rfl⟩ | ⟨j, rfl⟩
        · rfl
        · rw [get_odd, get_odd]
        · rw [get_even, get_even, g1 j (by omega)]
      · cases h
theorem push_some (x : α) : ∀ {t : Tr α} {n : Nat}, Fit t n → ∃ t', t.push n x = some t'
  | .nil, n, _ => ⟨_, rfl⟩
  | .node v l r, n, hf => by
    obtain ⟨f1, f2, f3⟩ := hf
    rcases idx n with rfl | ⟨k, rfl⟩ | ⟨k, rfl⟩
    · omega
    · rw [show (2 * k + 1) / 2 = k by omega] at f2
      obtain ⟨l', hl⟩ := push_some x f2
      have h1 : 2 * k % 2 = 0 := by omega
      have h2 : 2 * k / 2 = k := by omega
      exact ⟨.node v l' r, by simp only [push, h1, h2, hl]⟩
    · rw [show (2 * k + 2 - 1) / 2 = k by omega] at f3
      obtain ⟨r', hr⟩ := push_some x f3
      have h1 : (2 * k + 1) % 2 = 1 := by omega
      have h2 : (2 * k + 1) / 2 = k := by omega
      refine ⟨.node v l r', ?_⟩
      show (match (2 * k + 1) % 2 with | 0 => (match l.push ((2 * k + 1) / 2) x with | some l' => some (Tr.node v l' r) | none => none) | _ => (match r.push ((2 * k + 1) / 2) x with | some r' => some (Tr.node v l r') | none => none)) = _
      rw [h1, h2, hr]
      rfl
def toL (d : α) (t : Tr α) (n : Nat) : List α := (List.range n).map (t.get d)
theorem toL_len (d : α) (t : Tr α) (n : Nat) : (t.toL d n).length = n := by simp [toL]
theorem toL_get (d : α) (t : Tr α) (n i : Nat) : (t.toL d n)[i]? = if i < n then some (t.get d i) else none := by
  unfold toL
  rw [List.getElem?_map]
  by_cases h : i < n
  · rw [List.getElem?_range h, if_pos h]; rfl
  · rw [List.getElem?_eq_none (by simp; omega), if_neg h]; rfl
theorem toL_set {d x : α} {t t' : Tr α} {i : Nat} (h : t.set i x = some t') (n : Nat) : t'.toL d n = (t.toL d n).set i x := by
  refine List.ext_getElem? fun j => ?_
  rw [toL_get, List.getElem?_set, toL_get, (set_ok d x h).1, toL_len]
  by_cases hj : j < n
  · by_cases hi : i = j
    · subst hi; simp [hj]
    · rw [if_pos hj, if_neg (fun e => hi e.symm), if_neg hi, if_pos hj]
  · rw [if_neg hj]
    by_cases hi : i = j
    · subst hi; simp [hj]
    · rw [if_neg hi, if_neg hj]
theorem toL_push {d x : α} {t t' : Tr α} {n : Nat} (hf : Fit t n) (h : t.push n x = some t') : t'.toL d (n + 1) = t.toL d n ++ [x] := by
  refine List.ext_getElem? fun j => ?_
  rw [toL_get, (push_ok d x hf h).1, List.getElem?_append, toL_len, toL_get]
  by_cases hj : j < n
  · rw [if_pos (by omega), if_neg (by omega), if_pos hj, if_pos hj]
  · by_cases hi : j = n
    · subst hi; simp
    · rw [if_neg (by omega), if_neg hj, List.getElem?_eq_none (by simp; omega)]
theorem toL_pop {d : α} {t t' : Tr α} {n : Nat} (hf : Fit t (n + 1)) (h : t.pop n = some t') : t'.toL d n = (t.toL d (n + 1)).take n := by
  refine List.ext_getElem? fun j => ?_
  rw [toL_get, List.getElem?_take, toL_get]
  by_cases hj : j < n
  · rw [if_pos hj, if_pos hj, if_pos (by omega), (pop_ok d hf h).1 j hj]
  · rw [if_neg hj, if_neg hj]
def ofF (d : α) (f : Nat → α) : Nat → Tr α
  | 0 => .nil
  | n + 1 => ((ofF d f n).push n (f n)).getD .nil
theorem ofF_ok (d : α) (f : Nat → α) : ∀ n, Fit (ofF d f n) n ∧ ∀ i, i < n → (ofF d f n).get d i = f i
  | 0 => ⟨rfl, fun i hi => by omega⟩
  | n + 1 => by
    obtain ⟨h1, h2⟩ := ofF_ok d f n
    obtain ⟨t', ht⟩ := push_some (f n) h1
    obtain ⟨g1, g2⟩ := push_ok d (f n) h1 ht
    have e : ofF d f (n + 1) = t' := by simp only [ofF, ht, Option.getD_some]
    rw [e]
    refine ⟨g2, fun i hi => ?_⟩
    rw [g1]
    by_cases h : i = n
    · subst h; simp
    · rw [if_neg h]; exact h2 i (by omega)
def ofL (d : α) (l : List α) : Tr α := ofF d (fun i => l.getD i d) l.length
theorem ofL_fit (d : α) (l : List α) : Fit (ofL d l) l.length := (ofF_ok d _ _).1
theorem toL_ofL (d : α) (l : List α) : (ofL d l).toL d l.length = l := by
  refine List.ext_getElem? fun i => ?_
  rw [toL_get]
  by_cases h : i < l.length
  · rw [if_pos h]
    unfold ofL
    rw [(ofF_ok d _ _).2 i h]
    simp [h]
  · rw [if_neg h, List.getElem?_eq_none (by omega)]
theorem ofL_toL (d : α) {t : Tr α} {n : Nat} (hf : Fit t n) : ofL d (t.toL d n) = t := by
  refine get_ext d (n := n) (by have := ofL_fit d (t.toL d n); rwa [toL_len] at this) hf fun i hi => ?_
  unfold ofL
  rw [toL_len, (ofF_ok d _ _).2 i hi]
  rw [List.getD_eq_getElem?_getD, toL_get, if_pos hi, Option.getD_some]
def rep (x : α) : Nat → Nat → Tr α
  | 0, _ => .nil
  | f + 1, n => match n with
    | 0 => .nil
    | k + 1 => .node x (rep x f ((k + 1) / 2)) (rep x f (k / 2))
theorem rep_get (x : α) : ∀ (f n i : Nat), (rep x f n).get x i = x
  | 0, n, i => rfl
  | f + 1, 0, i => rfl
  | f + 1, n + 1, i => by
    rcases idx i with rfl | ⟨j, rfl⟩ | ⟨j, rfl⟩
    · rfl
    · rw [rep, get_odd, rep_get]
    · rw [rep, get_even, rep_get]
def setAll (t : Tr α) (i : Nat) : List α → Option (Tr α)
  | [] => some t
  | x :: r => match t.set i x with
    | some t' => setAll t' (i + 1) r
    | none => none
theorem setAll_ok (d : α) : ∀ {l : List α} {t t' : Tr α} {i : Nat}, setAll t i l = some t' → ∀ j, t'.get d j = if i ≤ j ∧ j < i + l.length then l.getD (j - i) d else t.get d j
  | [], t, t', i, h, j => by
    simp only [setAll, Option.some.injEq] at h
    subst h
    rw [if_neg (by simp)]
  | x :: r, t, t', i, h, j => by
    simp only [setAll] at h
    split at h
    · rename_i t1 h1
      rw [setAll_ok d h j, (set_ok d x h1).1]
      by_cases c1 : i + 1 ≤ j ∧ j < i + 1 + r.length
      · rw [if_pos c1, if_pos (by simp; omega), show j - i = (j - (i + 1)) + 1 by omega]
        simp
      · rw [if_neg c1]
        by_cases c2 : j = i
        · subst c2; simp
        · rw [if_neg c2, if_neg (by simp; omega)]
    · cases h
end Tr
inductive Pth where
  | z
  | o (p : Pth)
  | e (p : Pth)
def pthF : Nat → Nat → Pth
  | 0, _ => .z
  | f + 1, i => match i with
    | 0 => .z
    | k + 1 => match k % 2 with
      | 0 => .o (pthF f (k / 2))
      | _ => .e (pthF f (k / 2))
def pth (i : Nat) : Pth := pthF i i
namespace Tr
variable {α : Type}
noncomputable def getP (d : α) (p : Pth) : Tr α → α :=
  Pth.rec (motive := fun _ => Tr α → α) (fun t => Tr.rec (motive := fun _ => α) d (fun v _ _ _ _ => v) t)
    (fun _ ih t => Tr.rec (motive := fun _ => α) d (fun _ l _ _ _ => ih l) t) (fun _ ih t => Tr.rec (motive := fun _ => α) d (fun _ _ r _ _ => ih r) t) p
noncomputable def setP (x : α) (p : Pth) : Tr α → Option (Tr α) :=
  Pth.rec (motive := fun _ => Tr α → Option (Tr α)) (fun t => Tr.rec (motive := fun _ => Option (Tr α)) none (fun _ l r _ _ => some (.node x l r)) t)
    (fun _ ih t => Tr.rec (motive := fun _ => Option (Tr α)) none (fun v l r _ _ => Option.rec (motive := fun _ => Option (Tr α)) none (fun l' => some (.node v l' r)) (ih l)) t)
    (fun _ ih t => Tr.rec (motive := fun _ => Option (Tr α)) none (fun v l r _ _ => Option.rec (motive := fun _ => Option (Tr α)) none (fun r' => some (.node v l r')) (ih r)) t) p
theorem getP_F (d : α) : ∀ (f i : Nat) (t : Tr α), i ≤ f → getP d (pthF f i) t = t.get d i
  | 0, i, t, h => by
    have : i = 0 := by omega
    subst this
    cases t <;> rfl
  | f + 1, 0, t, h => by cases t <;> rfl
  | f + 1, k + 1, t, h => by
    rcases Nat.mod_two_eq_zero_or_one k with h2 | h2
    · have e : pthF (f + 1) (k + 1) = .o (pthF f (k / 2)) := by simp only [pthF, h2]
      rw [e]
      cases t with
      | nil => rfl
      | node v l r =>
        have := getP_F d f (k / 2) l (by omega)
        show getP d (pthF f (k / 2)) l = _
        rw [this]
        simp only [get, h2]
    · have e : pthF (f + 1) (k + 1) = .e (pthF f (k / 2)) := by
        show (match k % 2 with | 0 => Pth.o (pthF f (k / 2)) | _ => Pth.e (pthF f (k / 2))) = _
        rw [h2]
        rfl
      rw [e]
      cases t with
      | nil => rfl
      | node v l r =>
        have := getP_F d f (k / 2) r (by omega)
        show getP d (pthF f (k / 2)) r = _
        rw [this]
        show _ = (match k % 2 with | 0 => l.get d (k / 2) | _ => r.get d (k / 2))
        rw [h2]
        rfl
theorem getP_eq (d : α) (i : Nat) (t : Tr α) : getP d (pth i) t = t.get d i := getP_F d i i t (Nat.le_refl _)
theorem setP_F (x : α) : ∀ (f i : Nat) (t : Tr α), i ≤ f → setP x (pthF f i) t = t.set i x
  | 0, i, t, h => by
    have : i = 0 := by omega
    subst this
    cases t <;> rfl
  | f + 1, 0, t, h => by cases t <;> rfl
  | f + 1, k + 1, t, h => by
    rcases Nat.mod_two_eq_zero_or_one k with h2 | h2
    · have e : pthF (f + 1) (k + 1) = .o (pthF f (k / 2)) := by simp only [pthF, h2]
      rw [e]
      cases t with
      | nil => rfl
      | node v l r =>
        have := setP_F x f (k / 2) l (by omega)
        show Option.rec (motive := fun _ => Option (Tr α)) none (fun l' => some (.node v l' r)) (setP x (pthF f (k / 2)) l) = _
        rw [this]
        simp only [set, h2]
        cases l.set (k / 2) x <;> rfl
    · have e : pthF (f + 1) (k + 1) = .e (pthF f (k / 2)) := by
        show (match k % 2 with | 0 => Pth.o (pthF f (k / 2)) | _ => Pth.e (pthF f (k / 2))) = _
        rw [h2]
        rfl
      rw [e]
      cases t with
      | nil => rfl
      | node v l r =>
        have := setP_F x f (k / 2) r (by omega)
        show Option.rec (motive := fun _ => Option (Tr α)) none (fun r' => some (.node v l r')) (setP x (pthF f (k / 2)) r) = _
        rw [this]
        show _ = (match k % 2 with | 0 => (match l.set (k / 2) x with | some l' => some (Tr.node v l' r) | none => none) | _ => (match r.set (k / 2) x with | some r' => some (Tr.node v l r') | none => none))
        rw [h2]
        cases r.set (k / 2) x <;> rfl
theorem setP_eq (x : α) (i : Nat) (t : Tr α) : setP x (pth i) t = t.set i x := setP_F x i i t (Nat.le_refl _)
noncomputable def getN (d : α) (t : Tr α) : Nat → α :=
  Tr.rec (motive := fun _ => Nat → α) (fun _ => d)
    (fun v _ _ ihl ihr i => Nat.rec (motive := fun _ => α) v (fun k _ => Nat.rec (motive := fun _ => α) (ihl (Nat.div k 2)) (fun _ _ => ihr (Nat.div k 2)) (Nat.mod k 2)) i) t
theorem getN_eq (d : α) : ∀ (t : Tr α) (i : Nat), getN d t i = t.get d i
  | .nil, i => rfl
  | .node v l r, 0 => rfl
  | .node v l r, k + 1 => by
    show Nat.rec (motive := fun _ => α) (getN d l (k / 2)) (fun _ _ => getN d r (k / 2)) (k % 2) = (match k % 2 with | 0 => l.get d (k / 2) | _ => r.get d (k / 2))
    rw [getN_eq d l, getN_eq d r]
    generalize k % 2 = m
    cases m <;> rfl
noncomputable def setN (x : α) (t : Tr α) : Nat → Option (Tr α) :=
  Tr.rec (motive := fun _ => Nat → Option (Tr α)) (fun _ => none)
    (fun v l r ihl ihr i => Nat.rec (motive := fun _ => Option (Tr α)) (some (.node x l r))
      (fun k _ => Nat.rec (motive := fun _ => Option (Tr α)) (Option.rec (motive := fun _ => Option (Tr α)) none (fun l' => some (.node v l' r)) (ihl (Nat.div k 2)))
        (fun _ _ => Option.rec (motive := fun _ => Option (Tr α)) none (fun r' => some (.node v l r')) (ihr (Nat.div k 2))) (Nat.mod k 2)) i) t
theorem setN_eq (x : α) : ∀ (t : Tr α) (i : Nat), setN x t i = t.set i x
  | .nil, i => rfl
  | .node v l r, 0 => rfl
  | .node v l r, k + 1 => by
    show Nat.rec (motive := fun _ => Option (Tr α)) (Option.rec (motive := fun _ => Option (Tr α)) none (fun l' => some (.node v l' r)) (setN x l (k / 2)))
        (fun _ _ => Option.rec (motive := fun _ => Option (Tr α)) none (fun r' => some (.node v l r')) (setN x r (k / 2))) (k % 2) =
      (match k % 2 with | 0 => (match l.set (k / 2) x with | some l' => some (Tr.node v l' r) | none => none) | _ => (match r.set (k / 2) x with | some r' => some (Tr.node v l r') | none => none))
    rw [setN_eq x l, setN_eq x r]
    generalize k % 2 = m
    cases m with
    | zero => cases l.set (k / 2) x <;> rfl
    | succ m => cases r.set (k / 2) x <;> rfl
end Tr
end Go.SX
