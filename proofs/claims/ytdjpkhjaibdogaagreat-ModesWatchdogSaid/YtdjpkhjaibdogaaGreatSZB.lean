/-
  Joined texts: SYC, SYD, SYE, SYF, SYG, SYH.
  Conditions: none.
-/
import Derived.Test.YtdjpkhjaibdogaaGreatSZA
import Derived.Test.YtdjpkhjaibdogaaGreatSXS
namespace Go.SX
set_option linter.unusedSimpArgs false
set_option linter.unusedVariables false

structure ES where
  T : Tr AV
  n : Nat
  H : Tr Blk
  hn : Nat
  cnt : Nat
def ES.toS (σ : ES) : St := ⟨σ.T.toL .un σ.n, σ.H.toL dead σ.hn, σ.cnt⟩
def ES.Inv (σ : ES) : Prop := Tr.Fit σ.H σ.hn

noncomputable def evE (σ : ES) : Operand → AV
  | .tmp t => match Nat.blt t σ.n with
    | true => Tr.getP .un (pth t) σ.T
    | false => .un
  | .const v => ofV v
  | .global _ => .jk
  | .func f => .fn f []
noncomputable def gE (σ : ES) (id : Nat) : Option Blk :=
  match Nat.blt id σ.hn with
  | true => some (Tr.getN dead σ.H id)
  | false => none
/-- A value in a form that can be read at once. -/
def frc : AV → Option AV
  | .sc v => match v with
    | .int k n => match n with
      | .ofNat m => match m with
        | 0 => some (.sc (.int k (.ofNat 0)))
        | m + 1 => some (.sc (.int k (.ofNat (m + 1))))
      | .negSucc m => match m with
        | 0 => some (.sc (.int k (.negSucc 0)))
        | m + 1 => some (.sc (.int k (.negSucc (m + 1))))
    | .bool b => match b with
      | true => some (.sc (.bool true))
      | false => some (.sc (.bool false))
    | v => some (.sc v)
  | a => some a
theorem frc_eq {a b : AV} (h : frc a = some b) : b = a := by
  unfold frc at h
  repeat' split at h
  all_goals (cases h; rfl)
noncomputable def putE (σ : ES) (d : Option Nat) (v : AV) : Option ES :=
  match d with
  | none => some σ
  | some d => match frc v with
    | some v => match Tr.setP v (pth d) σ.T with
      | some T' => some ⟨T', σ.n, σ.H, σ.hn, σ.cnt⟩
      | none => none
    | none => none

theorem blt_eq (a b : Nat) : Nat.blt a b = decide (a < b) := by
  cases h : Nat.blt a b with
  | true => rw [Nat.blt_eq] at h; simp [h]
  | false =>
    symm
    rw [decide_eq_false_iff_not]
    intro h'
    rw [← Nat.blt_eq] at h'
    rw [h'] at h; cases h
theorem evE_eq (σ : ES) : evE σ = ev σ.toS.T := by
  funext x
  cases x with
  | tmp t =>
    simp only [evE, ev, Tr.getP_eq, ES.toS, List.getD_eq_getElem?_getD, Tr.toL_get, blt_eq]
    by_cases h : t < σ.n
    · simp [h]
    · simp [h]
  | _ => rfl
theorem gE_eq (σ : ES) : gE σ = fun i => σ.toS.H[i]? := by
  funext i
  simp only [gE, Tr.getN_eq, ES.toS, Tr.toL_get, blt_eq]
  by_cases h : i < σ.hn
  · simp [h]
  · simp [h]
theorem liveE_eq (σ : ES) : liveG (gE σ) = liveB σ.toS.H := by
  funext id ver
  rw [gE_eq, liveG_eq]
theorem hn_eq (σ : ES) : σ.toS.H.length = σ.hn := Tr.toL_len _ _ _
theorem putE_ok {σ σ' : ES} {d : Option Nat} {v : AV} (hi : σ.Inv) (h : putE σ d v = some σ') : σ'.Inv ∧ σ.toS.put d v = σ'.toS ∧ σ'.n = σ.n ∧ σ'.H = σ.H ∧ σ'.hn = σ.hn := by
  unfold putE at h
  split at h
  · cases h; exact ⟨hi, rfl, rfl, rfl, rfl⟩
  · split at h
    · rename_i d v' hv
      have hv := frc_eq hv
      subst hv
      split at h
      · rename_i T' hT
        rw [Tr.setP_eq] at hT
        cases h
        refine ⟨hi, ?_, rfl, rfl, rfl⟩
        simp only [St.put, ES.toS, Tr.toL_set hT]
      · cases h
    · cases h

/-! ### Operations -/
structure EE where
  isP : Nat → Bool
  isV : Nat → Bool
  pc : Nat → List AV → Option AV
  vc : Nat → List AV → Option AV
  hc : Nat → List AV → Tr Blk → Nat → Nat → Option (AV × Tr Blk × Nat × Nat)
  lit : Bool
  perm : Nat → Option (List Nat)
  hcl : Nat → Bool
def EE.hb (E : EE) (g : Nat) : Bool := E.hcl g && !E.isP g
def hcL (hc : Nat → List AV → Tr Blk → Nat → Nat → Option (AV × Tr Blk × Nat × Nat)) (f : Nat) (args : List AV) (H : List Blk) (cnt : Nat) : Option (AV × List Blk × Nat) :=
  match hc f args (Tr.ofL dead H) H.length cnt with
  | some (r, H', n', c') => some (r, H'.toL dead n', c')
  | none => none
/-- A function that returns views. -/
def EE.vb (E : EE) (g : Nat) : Bool := E.isV g && !E.isP g
def EE.hcall (E : EE) (g : Nat) (args : List AV) (H : List Blk) (cnt : Nat) : Option (AV × List Blk × Nat) :=
  match E.isV g with
  | true => hcV H cnt (norefs args) (E.vc g args)
  | false => hcL E.hc g args H cnt
def EE.env (E : EE) : Env := ⟨E.isP, E.pc, E.hcall, E.lit, E.perm, E.hcl⟩
theorem vEnvE (E : EE) : VEnv E.env E.vb := by
  intro g hg
  simp only [EE.vb, Bool.and_eq_true] at hg
  refine ⟨by simpa [EE.env] using hg.2, fun args => match norefs args with | true => E.vc g args | false => none, fun args H cnt => ?_⟩
  show EE.hcall E g args H cnt = _
  unfold EE.hcall
  rw [hg.1]
  simp only
  cases norefs args with
  | true => cases E.vc g args <;> rfl
  | false => cases E.vc g args <;> rfl
def EE.Ok (E : EE) : Prop := ∀ f args H n c r H' n' c', Tr.Fit H n → E.hc f args H n c = some (r, H', n', c') → Tr.Fit H' n'

def targetE (φ : Operand → AV) (o : Op) : Option (Nat × List AV) :=
  match o with
  | .call { callee := .value f, args, .. } => match φ f with
    | .fn g caps => some (g, args.toList.map φ ++ caps)
    | _ => none
  | _ => none
theorem targetE_eq (s : St) (o : Op) : targetE (ev s.T) o = target s o := rfl
def popT (p : Bool) (H : Tr Blk) (n : Nat) : Option (Tr Blk) :=
  match p with
  | false => some H
  | true => match n with
    | 0 => none
    | k + 1 => H.pop k
noncomputable def heapE (P : Program) (σ : ES) (o : Op) (dst : Option Nat) : Option ES :=
  match hactE P (evE σ) (gE σ) σ.hn σ.cnt o with
  | some (v, p, a, c) => match popT p σ.H σ.hn with
    | some H1 => match a with
      | .push b => match H1.push (popN p σ.hn) b with
        | some H2 => putE ⟨σ.T, σ.n, H2, popN p σ.hn + 1, c⟩ dst v
        | none => none
      | .put id b => match Tr.setN b H1 id with
        | some H2 => putE ⟨σ.T, σ.n, H2, popN p σ.hn, c⟩ dst v
        | none => none
    | none => none
  | none => none
noncomputable def litE (P : Program) (σ : ES) (o : Op) (dst : Option Nat) : Option ES :=
  match hactE P (evE σ) (gE σ) σ.hn σ.cnt o with
  | some (v, false, .push b, c) => match norefs b.els with
    | true => putE ⟨σ.T, σ.n, σ.H, σ.hn, σ.cnt + 1⟩ dst (.vw false b.els)
    | false => none
  | _ => none
noncomputable def callE (E : EE) (σ : ES) (g : Nat) (args : List AV) (dst : Option Nat) : Option ES :=
  match E.isP g with
  | true => match E.pc g (borGs (gE σ) args) with
    | some r => putE σ dst r
    | none => none
  | false => match E.isV g with
    | true => match norefs args with
      | true => match E.vc g args with
        | some r => putE σ dst r
        | none => none
      | false => none
    | false => match E.hc g args σ.H σ.hn σ.cnt with
      | some (r, H', n', c') => putE ⟨σ.T, σ.n, H', n', c'⟩ dst r
      | none => none
noncomputable def coreE (P : Program) (E : EE) (σ : ES) (o : Oper) (lt : Bool) : Option ES :=
  match isCall o.op with
  | true => match targetE (evE σ) o.op with
    | some (g, args) => callE E σ g args o.dst
    | none => none
  | false => match isHeapOp o.op with
    | true => match lt && litOp o.op with
      | true => litE P σ o.op o.dst
      | false => heapE P σ o.op o.dst
    | false => match rvalF P (evE σ) (liveG (gE σ)) o.op with
      | some v => putE σ o.dst v
      | none => none
noncomputable def gvE (all : Array Oper) (σ : ES) (j : Nat) : AV :=
  match (all[j]?).bind (·.dst) with
  | some d => evE σ (.tmp d)
  | none => .un
noncomputable def opE (P : Program) (E : EE) (all : Array Oper) (σ : ES) (o : Oper) (lt : Bool) : Option ES :=
  match o.guard with
  | none => coreE P E σ o lt
  | some (j, want) => match gvE all σ j with
    | .sc (.bool b) => match b == want with
      | true => coreE P E σ o false
      | false => putE σ o.dst .un
    | .un => putE σ o.dst .un
    | _ => none

mutual
theorem borrow_id (H : List Blk) : ∀ a : AV, a.noref = true → borrow H a = a
  | .sc v, _ => rfl
  | .ag cs, h => by simp only [AV.noref] at h; simp only [borrow, borrows_id H cs h]
  | .tu cs, h => by simp only [AV.noref] at h; simp only [borrow, borrows_id H cs h]
  | .fn f cs, h => by simp only [AV.noref] at h; simp only [borrow, borrows_id H cs h]
  | .pt .., h => by simp [AV.noref] at h
  | .sl .., h => by simp [AV.noref] at h
  | .vw .., _ => rfl
  | .vp .., _ => rfl
  | .un, _ => rfl
  | .jk, _ => rfl
theorem borrows_id (H : List Blk) : ∀ l : List AV, norefs l = true → borrows H l = l
  | [], _ => rfl
  | a :: r, h => by
    simp only [norefs, Bool.and_eq_true] at h
    simp only [borrows, borrow_id H a h.1, borrows_id H r h.2]
end

theorem popT_ok {p : Bool} {H H1 : Tr Blk} {n : Nat} (hf : Tr.Fit H n) (h : popT p H n = some H1) : Tr.Fit H1 (popN p n) ∧ H1.toL dead (popN p n) = popH p (H.toL dead n) := by
  cases p with
  | false => simp only [popT, Option.some.injEq] at h; subst h; exact ⟨hf, rfl⟩
  | true =>
    cases n with
    | zero => simp [popT] at h
    | succ k =>
      simp only [popT] at h
      refine ⟨(Tr.pop_ok dead hf h).2, ?_⟩
      show H1.toL dead k = (H.toL dead (k + 1)).dropLast
      rw [Tr.toL_pop hf h, List.dropLast_eq_take, Tr.toL_len]
      rfl
theorem heapE_ok {P : Program} {σ σ' : ES} {o : Op} {dst : Option Nat} (hi : σ.Inv) (h : heapE P σ o dst = some σ') : σ'.Inv ∧ hstep P σ.toS o dst = some σ'.toS ∧ σ'.n = σ.n := by
  unfold heapE at h
  split at h
  · rename_i v p a c hr
    rw [evE_eq, gE_eq, ← hn_eq] at hr
    have hs := hact_eq P σ.toS o dst hr
    split at h
    · rename_i H1 h1
      obtain ⟨f1, f2⟩ := popT_ok hi h1
      split at h
      · rename_i b
        split at h
        · rename_i H2 h2
          obtain ⟨q1, q2, q3, _⟩ := putE_ok (σ := ⟨σ.T, σ.n, H2, popN p σ.hn + 1, c⟩) (Tr.push_ok dead b f1 h2).2 h
          refine ⟨q1, ?_, q3⟩
          rw [hs, ← q2]
          simp only [putR, appH]
          congr 2
          show _ = (ES.toS _)
          simp only [ES.toS, Tr.toL_push f1 h2, f2]
        · cases h
      · rename_i id b
        split at h
        · rename_i H2 h2
          rw [Tr.setN_eq] at h2
          obtain ⟨q1, q2, q3, _⟩ := putE_ok (σ := ⟨σ.T, σ.n, H2, popN p σ.hn, c⟩) ((Tr.set_ok dead b h2).2 _ f1) h
          refine ⟨q1, ?_, q3⟩
          rw [hs, ← q2]
          simp only [putR, appH]
          congr 2
          show _ = (ES.toS _)
          simp only [ES.toS, Tr.toL_set h2, f2]
        · cases h
    · cases h
  · cases h
theorem litE_ok {P : Program} {σ σ' : ES} {o : Op} {dst : Option Nat} (hi : σ.Inv) (h : litE P σ o dst = some σ') : σ'.Inv ∧ litStep P σ.toS o dst = some σ'.toS ∧ σ'.n = σ.n := by
  unfold litE at h
  split at h
  · rename_i v b c hr
    rw [evE_eq, gE_eq, ← hn_eq] at hr
    have hs := hact_eq P σ.toS o dst hr
    split at h
    · rename_i hnr
      obtain ⟨q1, q2, q3, _⟩ := putE_ok (σ := ⟨σ.T, σ.n, σ.H, σ.hn, σ.cnt + 1⟩) hi h
      refine ⟨q1, ?_, q3⟩
      unfold litStep
      rw [hs]
      have e : (St.put ⟨σ.toS.T, appH σ.toS.H false (.push b), c⟩ dst v).H = σ.toS.H ++ [b] := by cases dst <;> rfl
      simp only [putR, litR, e, lastEls_append, hnr, if_true]
      rw [← q2]
      rfl
    · cases h
  · cases h
def coreS (P : Program) (E : Env) (s : St) (o : Oper) (lt : Bool) : Option St :=
  if (lt && litOp o.op) = true then litStep P s o.op o.dst else if isPure E s o.op = true then (pval P E s o.op).map (s.put o.dst) else hval P E s o
theorem lit_heap {o : Op} (h : litOp o = true) : isHeapOp o = true ∧ isCall o = false := by
  cases o <;> simp_all [litOp, isHeapOp, isCall]
theorem call_lit {o : Op} (h : isCall o = true) : litOp o = false := by
  cases hq : litOp o with
  | false => rfl
  | true => rw [(lit_heap hq).2] at h; cases h
theorem coreE_ok {P : Program} {E : EE} (hE : E.Ok) {σ σ' : ES} {o : Oper} {lt : Bool} (hi : σ.Inv) (h : coreE P E σ o lt = some σ') : σ'.Inv ∧ coreS P E.env σ.toS o lt = some σ'.toS ∧ σ'.n = σ.n := by
  unfold coreE at h
  unfold coreS
  split at h
  · rename_i hcall
    rw [call_lit hcall, Bool.and_false, if_neg (by decide)]
    split at h
    · rename_i g args ht
      rw [evE_eq, targetE_eq] at ht
      unfold callE at h
      split at h
      · rename_i hp
        have hpure : isPure E.env σ.toS o.op = true := by
          unfold isPure
          rw [hcall, if_pos rfl, ht]
          exact hp
        rw [if_pos hpure]
        split at h
        · rename_i r hr
          obtain ⟨q1, q2, q3, _⟩ := putE_ok hi h
          refine ⟨q1, ?_, q3⟩
          unfold pval
          rw [hcall, if_pos rfl, ht]
          simp only
          rw [gE_eq, borGs_eq] at hr
          rw [← borrows_map]
          show Option.map _ (E.pc g (borrows σ.toS.H args)) = _
          rw [hr, Option.map_some, q2]
        · cases h
      · rename_i hp
        have hpure : ¬ isPure E.env σ.toS o.op = true := by
          unfold isPure
          rw [hcall, if_pos rfl, ht]
          show ¬ E.isP g = true
          rw [hp]; decide
        rw [if_neg hpure]
        split at h
        · rename_i hv
          split at h
          · rename_i hnr
            split at h
            · rename_i r hr
              obtain ⟨q1, q2, q3, _⟩ := putE_ok hi h
              refine ⟨q1, ?_, q3⟩
              unfold hval
              rw [hcall, if_pos rfl, ht]
              simp only
              have e : E.env.hcall g args σ.toS.H σ.toS.cnt = some (r, σ.toS.H, σ.toS.cnt) := by
                show EE.hcall E g args σ.toS.H σ.toS.cnt = _
                unfold EE.hcall
                rw [hv, hnr, hr]
                rfl
              rw [e]
              simp only
              rw [← q2]
            · cases h
          · cases h
        · rename_i hv
          split at h
          · rename_i r H' n' c' hr
            have hf' : Tr.Fit H' n' := hE _ _ _ _ _ _ _ _ _ hi hr
            obtain ⟨q1, q2, q3, _⟩ := putE_ok (σ := ⟨σ.T, σ.n, H', n', c'⟩) hf' h
            refine ⟨q1, ?_, q3⟩
            unfold hval
            rw [hcall, if_pos rfl, ht]
            simp only
            have e : E.env.hcall g args σ.toS.H σ.toS.cnt = some (r, H'.toL dead n', c') := by
              show EE.hcall E g args σ.toS.H σ.toS.cnt = _
              unfold EE.hcall
              rw [hv]
              simp only
              unfold hcL
              rw [hn_eq]
              show (match E.hc g args (Tr.ofL dead (σ.H.toL dead σ.hn)) σ.hn σ.cnt with | some (r, H', n', c') => some (r, H'.toL dead n', c') | none => none) = _
              rw [Tr.ofL_toL dead hi, hr]
            rw [e]
            simp only
            rw [← q2]
            rfl
          · cases h
    · cases h
  · rename_i hcall
    split at h
    · rename_i hheap
      have hpure : ¬ isPure E.env σ.toS o.op = true := by
        unfold isPure
        rw [hcall, if_neg (by decide), hheap]; decide
      split at h
      · rename_i hl
        rw [if_pos hl]
        exact litE_ok hi h
      · rename_i hl
        rw [if_neg (by rw [hl]; decide), if_neg hpure]
        obtain ⟨q1, q2, q3⟩ := heapE_ok hi h
        refine ⟨q1, ?_, q3⟩
        unfold hval
        rw [hcall, if_neg (by decide)]
        exact q2
    · rename_i hheap
      have hl : (lt && litOp o.op) = false := by
        cases hq : litOp o.op with
        | false => rw [Bool.and_false]
        | true => rw [(lit_heap hq).1] at hheap; cases hheap
      have hpure : isPure E.env σ.toS o.op = true := by
        unfold isPure
        rw [hcall, if_neg (by decide), hheap]; rfl
      rw [if_neg (by rw [hl]; decide), if_pos hpure]
      split at h
      · rename_i v hv
        rw [evE_eq, liveE_eq] at hv
        have hv := rvalF_ok hv
        obtain ⟨q1, q2, q3, _⟩ := putE_ok hi h
        refine ⟨q1, ?_, q3⟩
        unfold pval
        rw [hcall, if_neg (by decide), hv, Option.map_some, q2]
      · cases h
theorem gvE_eq (all : Array Oper) (σ : ES) (j : Nat) : gvE all σ j = guardV all σ.toS j := by
  unfold gvE guardV
  rw [evE_eq]
  rfl
theorem opE_ok {P : Program} {E : EE} (hE : E.Ok) {all : Array Oper} {σ σ' : ES} {o : Oper} {lt : Bool} (hi : σ.Inv) (h : opE P E all σ o lt = some σ') :
    σ'.Inv ∧ opM lt o (opStep P E.env all σ.toS o) (litStep P σ.toS o.op o.dst) = some σ'.toS ∧ σ'.n = σ.n := by
  unfold opE at h
  unfold opM
  split at h
  · rename_i hg
    obtain ⟨q1, q2, q3⟩ := coreE_ok hE hi h
    refine ⟨q1, ?_, q3⟩
    rw [← q2]
    unfold coreS opStep
    simp only [hg, Option.isNone_none, Bool.and_true]
  · rename_i j want hg
    have hn : (lt && litOp o.op && o.guard.isNone) = false := by rw [hg]; simp
    rw [hn, if_neg (by decide)]
    rw [gvE_eq] at h
    unfold opStep
    simp only [hg]
    split at h
    · rename_i b hb
      rw [hb]
      simp only
      split at h
      · rename_i hbw
        have hbw : b = want := eq_of_beq hbw
        obtain ⟨q1, q2, q3⟩ := coreE_ok hE hi h
        refine ⟨q1, ?_, q3⟩
        rw [← q2]
        unfold coreS
        simp only [Bool.false_and, if_pos hbw]
        rfl
      · rename_i hbw
        have hbw : ¬ b = want := fun e => by rw [e] at hbw; simp at hbw
        obtain ⟨q1, q2, q3, _⟩ := putE_ok hi h
        refine ⟨q1, ?_, q3⟩
        simp only [if_neg hbw, Option.map_some, q2]
        split <;> rfl
    · rename_i hb
      rw [hb]
      obtain ⟨q1, q2, q3, _⟩ := putE_ok hi h
      exact ⟨q1, by simp only [q2], q3⟩
    · cases h

noncomputable def runOpsE (P : Program) (E : EE) (all : Array Oper) : List Oper → ES → Option ES
  | [], σ => some σ
  | o :: r, σ => match opE P E all σ o E.lit with
    | some σ' => runOpsE P E all r σ'
    | none => none
theorem runOpsE_ok {P : Program} {E : EE} (hE : E.Ok) {all : Array Oper} : ∀ {l : List Oper} {σ σ' : ES}, σ.Inv → runOpsE P E all l σ = some σ' → σ'.Inv ∧ runOps P E.env all l σ.toS = some σ'.toS
  | [], σ, σ', hi, h => by simp only [runOpsE, Option.some.injEq] at h; subst h; exact ⟨hi, rfl⟩
  | o :: r, σ, σ', hi, h => by
    simp only [runOpsE] at h
    split at h
    · rename_i σ1 h1
      obtain ⟨q1, q2, _⟩ := opE_ok hE hi h1
      obtain ⟨k1, k2⟩ := runOpsE_ok hE q1 h
      refine ⟨k1, ?_⟩
      simp only [runOps, opStepM]
      rw [show E.env.lit = E.lit from rfl, q2]
      exact k2
    · cases h
end Go.SX

namespace Go.SX
set_option linter.unusedSimpArgs false
set_option linter.unusedVariables false

/-! ### Regions that draw their order -/
structure PastE where
  at_ : Nat
  σ : ES
structure DidE where
  at_ : Nat
  o : Oper
  σ : ES
  T' : Tr AV
def PastE.toP (p : PastE) : Past := ⟨p.at_, p.σ.toS.H, p.σ.cnt⟩
def DidE.toD (d : DidE) : Did := ⟨d.at_, d.o, d.σ.toS.T, d.T'.toL .un d.σ.n⟩
def isPureE (isP : Nat → Bool) (φ : Operand → AV) (o : Op) : Bool :=
  match isCall o with
  | true => match targetE φ o with
    | some (g, _) => isP g
    | none => true
  | false => !isHeapOp o
theorem isPureE_eq (E : EE) (s : St) (o : Op) : isPureE E.isP (ev s.T) o = isPure E.env s o := by
  unfold isPureE isPure
  rw [targetE_eq]
  cases isCall o <;> rfl
def isVE (E : EE) (φ : Operand → AV) (o : Op) : Bool :=
  isCall o && match targetE φ o with
  | some (g, _) => E.vb g
  | none => false
theorem isVE_eq (E : EE) (s : St) (o : Op) : isVE E (ev s.T) o = isVop E.vb s o := by
  unfold isVE isVop
  rw [targetE_eq]
  rfl
noncomputable def sameE (P : Program) (E : EE) (all : Array Oper) (o : Oper) (T : Tr AV) (n : Nat) (T' : Tr AV) (H : Tr Blk) (hn c : Nat) : Bool :=
  match isPureE E.isP (evE ⟨T, n, H, hn, c⟩) o.op with
  | true => match opE P E all ⟨T, n, H, hn, c⟩ o false, o.dst with
    | some σ1, some d => match Nat.blt d n with
      | true => avE (σ1.T.get .un d) (T'.get .un d)
      | false => false
    | some _, none => true
    | none, _ => false
  | false => false
theorem sameE_ok {P : Program} {E : EE} (hE : E.Ok) {all : Array Oper} {o : Oper} {T T' : Tr AV} {n : Nat} {H : Tr Blk} {hn c : Nat} (hf : Tr.Fit H hn) (h : sameE P E all o T n T' H hn c = true) :
    sameB P E.env all o (T.toL .un n) (T'.toL .un n) (H.toL dead hn) c = true := by
  unfold sameE at h
  unfold sameB
  split at h
  · rename_i hp
    rw [evE_eq, isPureE_eq] at hp
    have hp : isPure E.env ⟨T.toL .un n, H.toL dead hn, c⟩ o.op = true := hp
    rw [hp, Bool.true_and]
    split at h
    · rename_i σ1 d h1 hd
      obtain ⟨q1, q2, q3⟩ := opE_ok hE (σ := ⟨T, n, H, hn, c⟩) hf h1
      have q2 : opStep P E.env all ⟨T.toL .un n, H.toL dead hn, c⟩ o = some σ1.toS := q2
      have q3 : σ1.n = n := q3
      rw [q2, hd]
      simp only
      split at h
      · rename_i hb
        rw [blt_eq] at hb
        have hb : d < n := by simpa using hb
        have e1 : σ1.toS.T.getD d .un = σ1.T.get .un d := by
          simp only [ES.toS, q3, List.getD_eq_getElem?_getD, Tr.toL_get, if_pos hb, Option.getD_some]
        have e2 : (T'.toL .un n).getD d .un = T'.get .un d := by
          simp only [List.getD_eq_getElem?_getD, Tr.toL_get, if_pos hb, Option.getD_some]
        rw [e1, e2]
        exact h
      · cases h
    · rename_i σ1 h1 hd
      obtain ⟨q1, q2, q3⟩ := opE_ok hE (σ := ⟨T, n, H, hn, c⟩) hf h1
      have q2 : opStep P E.env all ⟨T.toL .un n, H.toL dead hn, c⟩ o = some σ1.toS := q2
      rw [q2, hd]
    · cases h
  · cases h
noncomputable def chkPe (P : Program) (E : EE) (ops : Array Oper) (i : Nat) (o : Oper) (T : Tr AV) (n : Nat) (T' : Tr AV) : List PastE → Bool
  | [] => true
  | h :: r => (gB E.hb ops h.at_ i || (isVE E (evE ⟨T, n, .nil, 0, 0⟩) o.op || sameE P E ops o T n T' h.σ.H h.σ.hn h.σ.cnt)) && chkPe P E ops i o T n T' r
noncomputable def chkFe (P : Program) (E : EE) (ops : Array Oper) (k : Nat) (H : Tr Blk) (hn c : Nat) : List DidE → Bool
  | [] => true
  | d :: r => (gB E.hb ops d.at_ k || (isVE E (evE ⟨d.σ.T, d.σ.n, .nil, 0, 0⟩) d.o.op || sameE P E ops d.o d.σ.T d.σ.n d.T' H hn c)) && chkFe P E ops k H hn c r
noncomputable def bornE (κ : Nat → Bool) (ops : Array Oper) (i : Nat) (σ : ES) : Op → Bool
  | .buildSlice .. => gB κ ops i i || norefs (σ.H.get dead (σ.hn - 1)).els
  | _ => true
theorem chkPe_ok {P : Program} {E : EE} (hE : E.Ok) {ops : Array Oper} {i : Nat} {o : Oper} {T T' : Tr AV} {n : Nat} : ∀ {hs : List PastE}, (∀ h ∈ hs, h.σ.Inv) → chkPe P E ops i o T n T' hs = true →
    chkPb P E.env E.vb ops i o (T.toL .un n) (T'.toL .un n) (hs.map PastE.toP) = true
  | [], _, _ => rfl
  | h :: r, hi, hb => by
    simp only [chkPe, Bool.and_eq_true, Bool.or_eq_true] at hb
    simp only [List.map_cons, chkPb, Bool.and_eq_true, Bool.or_eq_true]
    refine ⟨hb.1.imp id fun q => q.imp (fun q => ?_) fun q => ?_, chkPe_ok hE (fun x hx => hi x (List.mem_cons_of_mem _ hx)) hb.2⟩
    · rw [evE_eq, isVE_eq] at q
      exact q
    · exact sameE_ok hE (hi h List.mem_cons_self) q
theorem chkFe_ok {P : Program} {E : EE} (hE : E.Ok) {ops : Array Oper} {k : Nat} {σ : ES} (hi : σ.Inv) : ∀ {ds : List DidE}, chkFe P E ops k σ.H σ.hn σ.cnt ds = true →
    chkFb P E.env E.vb ops k σ.toS.H σ.toS.cnt (ds.map DidE.toD) = true
  | [], _ => rfl
  | d :: r, hb => by
    simp only [chkFe, Bool.and_eq_true, Bool.or_eq_true] at hb
    simp only [List.map_cons, chkFb, Bool.and_eq_true, Bool.or_eq_true]
    refine ⟨hb.1.imp id fun q => q.imp (fun q => ?_) fun q => ?_, chkFe_ok hE hi hb.2⟩
    · rw [evE_eq, isVE_eq] at q
      exact q
    · exact sameE_ok hE hi q
theorem lastEls_get (H : Tr Blk) : ∀ {n : Nat}, 0 < n → lastEls (H.toL dead n) = (H.get dead (n - 1)).els
  | n + 1, _ => by
    have : H.toL dead (n + 1) = H.toL dead n ++ [H.get dead n] := by
      simp only [Tr.toL, List.range_succ, List.map_append, List.map_cons, List.map_nil]
    rw [this, lastEls_append]
    rfl

noncomputable def retE (P : Program) (σ : ES) : List ResultVar → Option (List AV)
  | [] => some []
  | .tmp t :: r => match retE P σ r with
    | some l => some (evE σ (.tmp t) :: l)
    | none => none
  | .cell t ty :: r => match rvalF P (evE σ) (liveG (gE σ)) (.load ty (.tmp t)) with
    | some v => match retE P σ r with
      | some l => some (v :: l)
      | none => none
    | none => none
theorem retE_eq {P : Program} {σ : ES} : ∀ {rs : List ResultVar} {vs : List AV}, retE P σ rs = some vs → retVal P σ.toS rs = some vs
  | [], vs, h => h
  | .tmp t :: r, vs, h => by
    simp only [retE] at h
    split at h
    · rename_i l hl
      cases h
      simp only [retVal, retE_eq hl, Option.map_some, evE_eq]
      rfl
    · cases h
  | .cell t ty :: r, vs, h => by
    simp only [retE] at h
    split at h
    · rename_i v hv
      rw [evE_eq, liveE_eq] at hv
      have hv := rvalF_ok hv
      split at h
      · rename_i l hl
        cases h
        simp only [retVal, hv, retE_eq hl, Option.map_some]
      · cases h
    · cases h
/-! ### Functions -/
structure TabE where
  ok : Nat → Bool
  isP : Nat → Bool
  hcl : Nat → Bool
  lit : Nat → Bool
  perm : Nat → Nat → Option (List Nat)
  keep : Nat → Bool
  isV : Nat → Bool
  givP : Nat → Bool
  givV : Nat → Bool
  givH : Nat → Bool
  givF : Nat → Bool

noncomputable def truncE : Nat → Tr Blk → Nat → Option (Tr Blk × Nat)
  | 0, H, n => some (H, n)
  | k + 1, H, n => match n with
    | 0 => none
    | m + 1 => match H.pop m with
      | some H' => truncE k H' m
      | none => none
noncomputable def outE (keep : Bool) (n : Nat) : Option (AV × ES) → Option (AV × Tr Blk × Nat × Nat)
  | some (r, σ) => match keep with
    | true => some (r, σ.H, σ.hn, σ.cnt)
    | false => match truncE (σ.hn - n) σ.H σ.hn with
      | some (H', n') => some (r, H', n', σ.cnt)
      | none => none
  | none => none
noncomputable def outPE : Option (AV × ES) → Option AV
  | some (r, _) => match okc r with
    | true => some r
    | false => none
  | none => none
noncomputable def givT (G : Giv) (f : Nat) (args : List AV) (H : Tr Blk) (hn cnt : Nat) : Option (AV × Tr Blk × Nat × Nat) :=
  match G.h f args (H.toL dead hn) cnt with
  | some (r, H', c') => some (r, Tr.ofL dead H', H'.length, c')
  | none => none
def eeOf (t : TabE) (p v : Nat → List AV → Option AV) (h : Nat → List AV → Tr Blk → Nat → Nat → Option (AV × Tr Blk × Nat × Nat)) (f : Nat) : EE := ⟨t.isP, t.isV, p, v, h, t.lit f, t.perm f, t.hcl⟩
noncomputable def outVE : Option (AV × ES) → Option AV
  | some (r, σ) => match (dB 60 (σ.H.toL dead σ.hn) r).noref with
    | true => some (dB 60 (σ.H.toL dead σ.hn) r)
    | false => none
  | none => none
def TabEOk (P : Program) (t : TabE) : Prop := ∀ f fn c, t.ok f = true → P.funcs[f]? = some fn → fn.body = some c →
  (fn.name == "runtime.NumGoroutine") = false ∧ lexAll (fun g => t.hcl g && !t.isP g) (t.perm f) c = true

theorem truncE_ok : ∀ {k : Nat} {H H' : Tr Blk} {n n' : Nat}, Tr.Fit H n → truncE k H n = some (H', n') → Tr.Fit H' n' ∧ n' + k = n ∧ H'.toL dead n' = (H.toL dead n).take n'
  | 0, H, H', n, n', hf, h => by
    simp only [truncE, Option.some.injEq, Prod.mk.injEq] at h
    obtain ⟨rfl, rfl⟩ := h
    exact ⟨hf, rfl, by rw [List.take_of_length_le (by rw [Tr.toL_len]; exact Nat.le_refl _)]⟩
  | k + 1, H, H', n, n', hf, h => by
    cases n with
    | zero => simp [truncE] at h
    | succ m =>
      simp only [truncE] at h
      split at h
      · rename_i H1 h1
        obtain ⟨f1, f2, f3⟩ := truncE_ok (Tr.pop_ok dead hf h1).2 h
        refine ⟨f1, by omega, ?_⟩
        rw [f3, Tr.toL_pop hf h1, List.take_take, Nat.min_eq_left (by omega)]
      · cases h

end Go.SX

namespace Go.SX
set_option linter.unusedSimpArgs false
set_option linter.unusedVariables false

noncomputable def el {α : Type} {β : Type} (x : Option α) (z : β) (f : α → β) : β := Option.rec (motive := fun _ => β) z f x
noncomputable def bB {β : Type} (b : Bool) (f t : β) : β := Bool.rec (motive := fun _ => β) f t b
theorem el_none {α β : Type} (z : β) (f : α → β) : el none z f = z := rfl
theorem el_some {α β : Type} (a : α) (z : β) (f : α → β) : el (some a) z f = f a := rfl
theorem bB_true {β : Type} (f t : β) : bB true f t = t := rfl
theorem bB_false {β : Type} (f t : β) : bB false f t = f := rfl

/-! ### Slots -/
namespace Tr
noncomputable def setK {α R : Type} (x : α) (z : R) (p : Pth) : Tr α → (Tr α → R) → R :=
  Pth.rec (motive := fun _ => Tr α → (Tr α → R) → R) (fun t c => Tr.rec (motive := fun _ => R) z (fun _ l r _ _ => c (.node x l r)) t)
    (fun _ ih t c => Tr.rec (motive := fun _ => R) z (fun v l r _ _ => ih l (fun l' => c (.node v l' r))) t)
    (fun _ ih t c => Tr.rec (motive := fun _ => R) z (fun v l r _ _ => ih r (fun r' => c (.node v l r'))) t) p
theorem setK_eq {α R : Type} (x : α) (z : R) : ∀ (p : Pth) (t : Tr α) (c : Tr α → R), setK x z p t c = el (setP x p t) z c
  | .z, t, c => by cases t <;> rfl
  | .o p, .nil, c => rfl
  | .e p, .nil, c => rfl
  | .o p, .node v l r, c => by
    show setK x z p l (fun l' => c (.node v l' r)) = _
    rw [setK_eq x z p l]
    show _ = el (Option.rec (motive := fun _ => Option (Tr α)) none (fun l' => some (.node v l' r)) (setP x p l)) z c
    cases setP x p l <;> rfl
  | .e p, .node v l r, c => by
    show setK x z p r (fun r' => c (.node v l r')) = _
    rw [setK_eq x z p r]
    show _ = el (Option.rec (motive := fun _ => Option (Tr α)) none (fun r' => some (.node v l r')) (setP x p r)) z c
    cases setP x p r <;> rfl
end Tr
structure VFn where
  get : ES → AV
noncomputable def evC (x : Operand) : VFn :=
  match x with
  | .tmp t => ⟨fun σ => bB (Nat.blt t σ.n) .un (Tr.getP .un (pth t) σ.T)⟩
  | .const v => ⟨fun _ => ofV v⟩
  | .global _ => ⟨fun _ => .jk⟩
  | .func f => ⟨fun _ => .fn f []⟩
theorem evC_eq (x : Operand) (σ : ES) : (evC x).get σ = evE σ x := by
  cases x with
  | tmp t => simp only [evC, evE]; cases Nat.blt t σ.n <;> rfl
  | _ => rfl
noncomputable def evK (σ : ES) (x : Operand) : AV := (evC x).get σ
theorem evK_eq (σ : ES) : evK σ = evE σ := funext fun x => evC_eq x σ
noncomputable def gK (σ : ES) (id : Nat) : Option Blk := bB (Nat.blt id σ.hn) none (some (Tr.getN dead σ.H id))
theorem gK_eq (σ : ES) : gK σ = gE σ := by
  funext id
  simp only [gK, gE]
  cases Nat.blt id σ.hn <;> rfl
noncomputable def lbK (σ : ES) (id ver : Nat) : Option Blk :=
  el (gK σ id) none (fun B => bB (B.live && Nat.beq B.ver ver) none (some B))
theorem lbK_eq (σ : ES) : lbK σ = liveG (gE σ) := by
  funext id ver
  simp only [lbK, liveG, gK_eq]
  cases gE σ id with
  | none => rfl
  | some B =>
    simp only [el_some]
    cases B.live && Nat.beq B.ver ver <;> rfl

structure PFn where
  put : {R : Type} → AV → ES → R → (ES → R) → R
noncomputable def putC (d : Option Nat) : PFn :=
  match d with
  | none => ⟨fun _ σ _ c => c σ⟩
  | some d => ⟨fun {R} v σ z c => ES.rec (motive := fun _ => R) (fun T n H hn cnt => Tr.setK v z (pth d) T (fun T' => c ⟨T', n, H, hn, cnt⟩)) σ⟩
/-- Numbers and trees that are read before what comes next. -/
noncomputable def fN {R : Type} (n : Nat) (c : Nat → R) : R := Nat.rec (motive := fun _ => R) (c 0) (fun k _ => c (Nat.succ k)) n
theorem fN_eq {R : Type} (n : Nat) (c : Nat → R) : fN n c = c n := by cases n <;> rfl
noncomputable def fT {α R : Type} (t : Tr α) (c : Tr α → R) : R := Tr.rec (motive := fun _ => R) (c .nil) (fun v l r _ _ => c (.node v l r)) t
theorem fT_eq {α R : Type} (t : Tr α) (c : Tr α → R) : fT t c = c t := by cases t <;> rfl
def putF (σ : ES) (d : Option Nat) (v : AV) : Option ES :=
  match d with
  | none => some σ
  | some d => match σ.T.set d v with
    | some T' => some ⟨T', σ.n, σ.H, σ.hn, σ.cnt⟩
    | none => none
theorem frc_some (a : AV) : frc a = some a := by
  unfold frc
  repeat' split
  all_goals first | rfl | simp_all
theorem putF_eq (σ : ES) (d : Option Nat) (v : AV) : putE σ d v = putF σ d v := by
  unfold putE putF
  cases d with
  | none => rfl
  | some d => simp only [frc_some, Tr.setP_eq] <;> rfl
theorem putC_eq {R : Type} (d : Option Nat) (v : AV) (σ : ES) (z : R) (c : ES → R) : (putC d).put v σ z c = el (putE σ d v) z c := by
  rw [putF_eq]
  cases d with
  | none => rfl
  | some d =>
    simp only [putC, putF, Tr.setK_eq, Tr.setP_eq]
    cases σ.T.set d v <;> rfl

/-! ### Sums and comparisons -/
def asI (u : AV) : Option Int :=
  match u with
  | .sc (.int .i64 n) => some n
  | _ => none
def asB (u : AV) : Option Int :=
  match u with
  | .sc (.int .u8 n) => some n
  | _ => none
def asS (u : AV) : Option (List UInt8) :=
  match u with
  | .sc (.string b) => some b.data.toList
  | _ => none
def asN (n : Int) : Option Nat :=
  match n with
  | .ofNat m => some m
  | _ => none
noncomputable def mkN (m : Nat) : Option AV :=
  Nat.rec (motive := fun _ => Option AV) (some (.sc (.int .i64 (.ofNat 0)))) (fun k _ => some (.sc (.int .i64 (.ofNat (Nat.succ k))))) m
theorem mkN_eq (m : Nat) : mkN m = some (.sc (.int .i64 (.ofNat m))) := by cases m <;> rfl
structure BFn where
  run : AV → AV → Option AV
noncomputable def cmpK (f : Int → Int → Bool) : BFn :=
  ⟨fun u v => el (asI u) (el (asB u) none (fun a => el (asB v) none (fun b => some (.sc (.bool (f a b)))))) (fun a => el (asI v) none (fun b => some (.sc (.bool (f a b)))))⟩
noncomputable def strK (f : List UInt8 → List UInt8 → Bool) (g : BFn) : BFn :=
  ⟨fun u v => el (asS u) (g.run u v) (fun a => el (asS v) none (fun b => some (.sc (.bool (f a b)))))⟩
noncomputable def qC (op : BinOp) : BFn :=
  match op with
  | .lss => cmpK fun a b => not (leI b a)
  | .leq => cmpK fun a b => leI a b
  | .gtr => cmpK fun a b => not (leI a b)
  | .geq => cmpK fun a b => leI b a
  | .eql => strK eqBy (cmpK eqI)
  | .neq => strK (fun a b => not (eqBy a b)) (cmpK fun a b => not (eqI a b))
  | .add => ⟨fun u v => el (asI u) none (fun a => el (asI v) none (fun b => el (asN a) none (fun m => el (asN b) none (fun n => bB (Nat.blt (Nat.add m n) 9223372036854775808) none (mkN (Nat.add m n))))))⟩
  | .sub => ⟨fun u v => el (asI u) none (fun a => el (asI v) none (fun b => el (asN a) none (fun m => el (asN b) none (fun n => bB (Nat.blt m 9223372036854775808 && Nat.ble n m) none (mkN (Nat.sub m n))))))⟩
  | _ => ⟨fun _ _ => none⟩
theorem asI_eq {u : AV} {n : Int} (h : asI u = some n) : u = .sc (.int .i64 n) := by
  unfold asI at h
  split at h
  · cases h; rfl
  · cases h
theorem asB_eq {u : AV} {n : Int} (h : asB u = some n) : u = .sc (.int .u8 n) := by
  unfold asB at h
  split at h
  · cases h; rfl
  · cases h
theorem asS_eq {u : AV} {l : List UInt8} (h : asS u = some l) : ∃ b : ByteArray, u = .sc (.string b) ∧ b.data.toList = l := by
  unfold asS at h
  split at h
  · rename_i b; cases h; exact ⟨b, rfl, rfl⟩
  · cases h
theorem asN_eq {n : Int} {m : Nat} (h : asN n = some m) : n = .ofNat m := by
  unfold asN at h
  split at h
  · cases h; rfl
  · cases h
theorem el_cases {α β : Type} {x : Option α} {z : Option β} {f : α → Option β} {r : β} (h : el x z f = some r) : (x = none ∧ z = some r) ∨ ∃ a, x = some a ∧ f a = some r := by
  cases x with
  | none => exact .inl ⟨rfl, h⟩
  | some a => exact .inr ⟨a, rfl, h⟩
theorem el_no {α β : Type} {x : Option α} {f : α → Option β} {r : β} (h : el x none f = some r) : ∃ a, x = some a ∧ f a = some r := by
  cases x with
  | none => cases h
  | some a => exact ⟨a, rfl, h⟩
theorem bB_no {β : Type} {b : Bool} {t : Option β} {r : β} (h : bB b none t = some r) : b = true ∧ t = some r := by
  cases b with
  | false => cases h
  | true => exact ⟨rfl, h⟩
theorem cmpK_ok {f : Int → Int → Bool} {op : BinOp} (hf : ∀ k a b, qI op k a b = some (.sc (.bool (f a b)))) {u v r : AV} (h : (cmpK f).run u v = some r) : qBin op u v = some r := by
  rcases el_cases h with ⟨_, h⟩ | ⟨a, ha, h⟩
  · obtain ⟨a, ha, h⟩ := el_no h
    obtain ⟨b, hb, h⟩ := el_no h
    rw [asB_eq ha, asB_eq hb, ← h]
    exact hf .u8 a b
  · obtain ⟨b, hb, h⟩ := el_no h
    rw [asI_eq ha, asI_eq hb, ← h]
    exact hf .i64 a b
theorem qC_ok {op : BinOp} {u v r : AV} (h : (qC op).run u v = some r) : qBin op u v = some r := by
  cases op
  case lss => exact cmpK_ok (op := .lss) (fun k a b => rfl) h
  case leq => exact cmpK_ok (op := .leq) (fun k a b => rfl) h
  case gtr => exact cmpK_ok (op := .gtr) (fun k a b => rfl) h
  case geq => exact cmpK_ok (op := .geq) (fun k a b => rfl) h
  case eql =>
    rcases el_cases h with ⟨_, h⟩ | ⟨a, ha, h⟩
    · exact cmpK_ok (op := .eql) (fun k a b => rfl) h
    · obtain ⟨b, hb, h⟩ := el_no h
      obtain ⟨a', rfl, rfl⟩ := asS_eq ha
      obtain ⟨b', rfl, rfl⟩ := asS_eq hb
      rw [← h]; rfl
  case neq =>
    rcases el_cases h with ⟨_, h⟩ | ⟨a, ha, h⟩
    · exact cmpK_ok (op := .neq) (fun k a b => rfl) h
    · obtain ⟨b, hb, h⟩ := el_no h
      obtain ⟨a', rfl, rfl⟩ := asS_eq ha
      obtain ⟨b', rfl, rfl⟩ := asS_eq hb
      rw [← h]; rfl
  case add =>
    obtain ⟨a, ha, h⟩ := el_no h
    obtain ⟨b, hb, h⟩ := el_no h
    obtain ⟨m, hm, h⟩ := el_no h
    obtain ⟨n, hn, h⟩ := el_no h
    obtain ⟨hc, h5⟩ := bB_no h
    rw [mkN_eq] at h5
    have e1 := asN_eq hm
    have e2 := asN_eq hn
    subst e1 e2
    cases h5
    rw [asI_eq ha, asI_eq hb]
    show (match Nat.blt (Nat.add m n) 9223372036854775808 with | true => _ | false => none) = _
    rw [hc]
  case sub =>
    obtain ⟨a, ha, h⟩ := el_no h
    obtain ⟨b, hb, h⟩ := el_no h
    obtain ⟨m, hm, h⟩ := el_no h
    obtain ⟨n, hn, h⟩ := el_no h
    obtain ⟨hc, h5⟩ := bB_no h
    rw [mkN_eq] at h5
    have e1 := asN_eq hm
    have e2 := asN_eq hn
    subst e1 e2
    cases h5
    rw [asI_eq ha, asI_eq hb]
    show (match Nat.blt m 9223372036854775808 && Nat.ble n m with | true => _ | false => none) = _
    rw [hc]
  all_goals cases h

/-! ### Strings -/
def isStrT (P : Program) (t : TypeId) : Bool :=
  match P.underlying t with
  | some .string => match tyD P t with
    | some d => d.el.isNone && d.len.isNone
    | none => false
  | _ => false
theorem isStrT_ok {P : Program} {t : TypeId} (h : isStrT P t = true) : P.underlying t = some .string ∧ ∃ d, tyD P t = some d ∧ d.el = none ∧ d.len = none := by
  unfold isStrT at h
  split at h
  · rename_i hu
    split at h
    · rename_i d hd
      simp only [Bool.and_eq_true, Option.isNone_iff_eq_none] at h
      exact ⟨hu, d, hd, h.1, h.2⟩
    · cases h
  · cases h
noncomputable def nthB (l : List UInt8) : Nat → Option UInt8 :=
  List.rec (motive := fun _ => Nat → Option UInt8) (fun _ => none) (fun b _ ih n => Nat.rec (motive := fun _ => Option UInt8) (some b) (fun k _ => ih k) n) l
theorem nthB_eq : ∀ (l : List UInt8) (n : Nat), nthB l n = l[n]?
  | [], n => by cases n <;> rfl
  | b :: l, 0 => rfl
  | b :: l, n + 1 => by
    show nthB l n = _
    rw [nthB_eq l n]
    simp
noncomputable def mkU (m : Nat) : Option AV :=
  Nat.rec (motive := fun _ => Option AV) (some (.sc (.int .u8 (.ofNat 0)))) (fun k _ => some (.sc (.int .u8 (.ofNat (Nat.succ k))))) m
theorem mkU_eq (m : Nat) : mkU m = some (.sc (.int .u8 (.ofNat m))) := by cases m <;> rfl
noncomputable def idxS (u v : AV) : Option AV :=
  el (asS u) none fun l => el (asI v) none fun n => el (asN n) none fun m => el (nthB l m) none fun b => mkU b.toNat
theorem idxS_ok {P : Program} {s : St} {t : TypeId} {x i : Operand} {r : AV} (ht : isStrT P t = true) (h : idxS (ev s.T x) (ev s.T i) = some r) : rval P s (.index t x i) = some r := by
  obtain ⟨l, hl, g1⟩ := el_no h
  obtain ⟨n, hn, g2⟩ := el_no g1
  obtain ⟨m, hm, g3⟩ := el_no g2
  obtain ⟨b, hb, g4⟩ := el_no g3
  rw [mkU_eq] at g4
  rw [nthB_eq] at hb
  obtain ⟨bs, hbs, rfl⟩ := asS_eq hl
  have hi := asI_eq hn
  have e := asN_eq hm
  subst e
  obtain ⟨hu, d, hd, h1, h2⟩ := isStrT_ok ht
  have key : spure P (Instr.index t (.string bs) (.int .i64 (.ofNat m))) = some (.int .u8 b.toNat) := by
    unfold spure Instr.index
    simp only [rd_bind, asIntOf, rd_pure, Option.bind_some, rd_underlying, hu]
    have h0 : (0 : Int) ≤ Int.ofNat m := Int.natCast_nonneg m
    rw [if_pos h0]
    have e2 : (Int.ofNat m).toNat = m := rfl
    rw [e2]
    have e3 : bs[m]? = some b := by
      have hlt : m < bs.data.toList.length := (List.getElem?_eq_some_iff.1 hb).1
      have hlt' : m < bs.size := hlt
      have h5 := (List.getElem?_eq_some_iff.1 hb).2
      rw [getElem?_pos bs m hlt']
      rw [← h5]
      rfl
    rw [e3]
    rfl
  simp only [rval, hd, h1, h2, hbs, hi, conc, key]
  rw [← g4]
  rfl
noncomputable def bndS (φ : Operand → AV) (x : Option Operand) (dflt : Nat) : Option Nat :=
  match x with
  | none => some dflt
  | some x => el (asI (φ x)) none asN
noncomputable def sliS (φ : Operand → AV) (u : AV) (lo hi : Option Operand) : Option AV :=
  el (asS u) none fun l => el (bndS φ hi l.length) none fun b => el (bndS φ lo 0) none fun a =>
    bB (Nat.ble b l.length && Nat.ble a b) none (some (.sc (.string ⟨⟨(l.drop a).take (Nat.sub b a)⟩⟩)))
theorem bndS_none {φ : Operand → AV} {d a : Nat} (h : bndS φ none d = some a) : a = d := by cases h; rfl
theorem bndS_some {φ : Operand → AV} {x : Operand} {d a : Nat} (h : bndS φ (some x) d = some a) : φ x = .sc (.int .i64 (.ofNat a)) := by
  obtain ⟨n, hn, g1⟩ := el_no h
  rw [asI_eq hn, asN_eq g1]
theorem sliS_ok {P : Program} {s : St} {t : TypeId} {x : Operand} {lo hi : Option Operand} {r : AV} (ht : isStrT P t = true) (h : sliS (ev s.T) (ev s.T x) lo hi = some r) : rval P s (.slice t x lo hi none) = some r := by
  obtain ⟨l, hl, g1⟩ := el_no h
  obtain ⟨b, hb, g2⟩ := el_no g1
  obtain ⟨a, ha, g3⟩ := el_no g2
  obtain ⟨hc, g4⟩ := bB_no g3
  simp only [Bool.and_eq_true] at hc
  have c1 := Nat.le_of_ble_eq_true hc.1
  have c2 := Nat.le_of_ble_eq_true hc.2
  obtain ⟨bs, hbs, rfl⟩ := asS_eq hl
  obtain ⟨hu, d, hd, h1, h2⟩ := isStrT_ok ht
  have c1 : b ≤ bs.size := c1
  have concs : ∀ {y : Option Operand} {dflt c : Nat}, bndS (ev s.T) y dflt = some c → ∃ v, concO s.T y = some v ∧ ((y = none ∧ v = none ∧ c = dflt) ∨ v = some (.int .i64 (.ofNat c))) := by
    intro y dflt c hy
    cases y with
    | none => exact ⟨none, rfl, .inl ⟨rfl, rfl, bndS_none hy⟩⟩
    | some y => exact ⟨some (.int .i64 (.ofNat c)), by simp only [concO, bndS_some hy, conc], .inr rfl⟩
  obtain ⟨vh, kh, kh2⟩ := concs hb
  obtain ⟨vl, kl, kl2⟩ := concs ha
  have bnd : ∀ (c n : Nat) (code : BoundsCode), c ≤ n → rd P (Instr.sliceBound (.int .i64 (c : Int)) n code) default = some c := by
    intro c n code hcn
    have := (bound_ok (P := P) (w := default) (n := Int.ofNat c) (hi := n) (hi' := n) (r := c) (by
      unfold bound
      have h0 : (0 : Int) ≤ Int.ofNat c := Int.natCast_nonneg c
      have h1 : Int.ofNat c ≤ (n : Int) := Int.ofNat_le.2 hcn
      rw [if_pos ⟨h0, h1⟩]; rfl) (Nat.le_refl n) .i64 code).1
    exact this
  have key : spure P (Instr.sliceAt t (.string bs) vl vh none) = some (.string (bs.extract a b)) := by
    unfold spure Instr.sliceAt
    simp only [rd_bind, rd_underlying, hu, Option.bind_some]
    unfold Instr.slice
    simp only [rd_bind, rd_underlying, hu, Option.bind_some]
    have hb2 : rd P (Instr.sliceBounds false bs.size bs.size vl vh none) default = some (a, b, bs.size) := by
      unfold Instr.sliceBounds
      rcases kh2 with ⟨_, rfl, hbd⟩ | rfl
      · have hbd : b = bs.size := hbd
        subst hbd
        rcases kl2 with ⟨_, rfl, rfl⟩ | rfl
        · simp [rd_bind, rd_pure]
        · simp [rd_bind, rd_pure, rd_map, bnd a _ .sliceB c2]
      · rcases kl2 with ⟨_, rfl, rfl⟩ | rfl
        · simp [rd_bind, rd_pure, rd_map, bnd b _ .sliceAlen c1]
        · simp [rd_bind, rd_pure, rd_map, bnd b _ .sliceAlen c1, bnd a _ .sliceB c2]
    simp only [Option.isSome_none, Bool.false_eq_true, if_false, rd_bind, hb2, Option.bind_some, rd_pure]
  simp only [rval, hd, h1, h2, hbs, conc, kl, kh, key, show concO s.T none = some none from rfl]
  rw [← g4]
  have e : bs.extract a b = ⟨⟨(bs.data.toList.drop a).take (Nat.sub b a)⟩⟩ := by
    have e1 : (bs.extract a b).data = bs.data.extract a b := by simp
    have e2 : (bs.data.extract a b).toList = (bs.data.toList.drop a).take (b - a) := by simp
    cases hx : bs.extract a b with
    | mk dd =>
      rw [hx] at e1
      simp only at e1
      subst e1
      cases hy : bs.data.extract a b with
      | mk ll =>
        rw [hy] at e2
        simp only at e2
        rw [e2]
        rfl
  rw [e]
  rfl
def asC (u : AV) : Option Int :=
  match u with
  | .sc (.int _ n) => some n
  | _ => none
noncomputable def cnv64 (u : AV) : Option AV := el (asC u) none fun n => el (asN n) none fun m => bB (Nat.blt m 9223372036854775808) none (mkN m)
noncomputable def cnv8 (u : AV) : Option AV := el (asC u) none fun n => el (asN n) none fun m => bB (Nat.blt m 256) none (mkU m)
theorem asC_eq {u : AV} {n : Int} (h : asC u = some n) : ∃ k, u = .sc (.int k n) := by
  unfold asC at h
  split at h
  · rename_i k n; cases h; exact ⟨k, rfl⟩
  · cases h
theorem wrap_u8 {n : Int} (h : 0 ≤ n ∧ n ≤ 255) : IntKind.u8.wrap n = n := by
  simp only [IntKind.wrap, IntKind.bits, IntKind.signed]
  simp
  omega
theorem cnv64_ok {P : Program} {src dst : TypeId} {ks : IntKind} {u r : AV} (h1 : P.underlying src = some (.int ks)) (h2 : P.underlying dst = some (.int .i64)) (h : cnv64 u = some r) : cvX P src dst u (P.underlying src) (P.underlying dst) = some r := by
  obtain ⟨n, hn, g1⟩ := el_no h
  obtain ⟨m, hm, g2⟩ := el_no g1
  obtain ⟨hc, g3⟩ := bB_no g2
  obtain ⟨k, rfl⟩ := asC_eq hn
  have e := asN_eq hm
  subst e
  rw [mkN_eq] at g3
  rw [h1, h2, cvX_int, ← g3, wrap_in]
  rw [Nat.blt_eq] at hc
  have : Int.ofNat m = (m : Int) := rfl
  rw [this]; omega
theorem cnv8_ok {P : Program} {src dst : TypeId} {ks : IntKind} {u r : AV} (h1 : P.underlying src = some (.int ks)) (h2 : P.underlying dst = some (.int .u8)) (h : cnv8 u = some r) : cvX P src dst u (P.underlying src) (P.underlying dst) = some r := by
  obtain ⟨n, hn, g1⟩ := el_no h
  obtain ⟨m, hm, g2⟩ := el_no g1
  obtain ⟨hc, g3⟩ := bB_no g2
  obtain ⟨k, rfl⟩ := asC_eq hn
  have e := asN_eq hm
  subst e
  rw [mkU_eq] at g3
  rw [h1, h2, cvX_int, ← g3, wrap_u8]
  rw [Nat.blt_eq] at hc
  have : Int.ofNat m = (m : Int) := rfl
  rw [this]; omega
noncomputable def lenS (u : AV) : Option AV := el (asS u) none fun l => mkN l.length
theorem lenS_ok {P : Program} {s : St} {t : TypeId} {x : Operand} {args : Array Operand} {ats : Array TypeId} {r : AV} (ha : args = #[x]) (hat : ats = #[t]) (ht : isStrT P t = true) (h : lenS (ev s.T x) = some r) :
    rval P s (.call ⟨.builtin .len, args, ats⟩) = some r := by
  subst ha hat
  obtain ⟨l, hl, g1⟩ := el_no h
  rw [mkN_eq] at g1
  obtain ⟨bs, hbs, rfl⟩ := asS_eq hl
  obtain ⟨hu, d, hd, h1, h2⟩ := isStrT_ok ht
  have key : spure P (Builtin.len_ #[t] 0 #[.string bs]) = some (.int .i64 (bs.size : Int)) := by
    unfold spure Builtin.len_
    simp only [List.getElem?_toArray, List.getElem?_cons_zero, rd_bind, rd_underlying, hu, Option.bind_some]
    rfl
  simp only [rval, hd, h1, h2, hbs, conc, key]
  rw [← g1]
  rfl
def asVw (u : AV) : Option (List AV) :=
  match u with
  | .vw _ es => some es
  | _ => none

/-- An operation's value: the quick way, or the long one. -/
structure WFn where
  run : ES → Option AV
noncomputable def genC (P : Program) (o : Op) : WFn := ⟨fun σ => (rvalC P o).run (evK σ) (lbK σ)⟩
noncomputable def valC (P : Program) (o : Op) : WFn :=
  match o with
  | .binOp op t x y ty => ⟨fun σ => el ((qC op).run (evK σ x) (evK σ y)) ((genC P o).run σ) some⟩
  | .move x => ⟨fun σ => some (evK σ x)⟩
  | .assign x => ⟨fun σ => some (evK σ x)⟩
  | .index t x i => match isStrT P t with
    | true => ⟨fun σ => el (idxS (evK σ x) (evK σ i)) ((genC P o).run σ) some⟩
    | false => genC P o
  | .slice t x lo hi none => match isStrT P t with
    | true => ⟨fun σ => el (sliS (evK σ) (evK σ x) lo hi) ((genC P o).run σ) some⟩
    | false => genC P o
  | .convert src dst x => match P.underlying src with
    | some (.int ks) => match P.underlying dst with
      | some (.int .i64) => ⟨fun σ => el (cnv64 (evK σ x)) ((genC P o).run σ) some⟩
      | some (.int .u8) => ⟨fun σ => el (cnv8 (evK σ x)) ((genC P o).run σ) some⟩
      | _ => genC P o
    | _ => genC P o
  | .call ⟨.builtin .len, ⟨[x]⟩, ⟨[t]⟩⟩ => match isStrT P t with
    | true => ⟨fun σ => el (lenS (evK σ x)) ((genC P o).run σ) some⟩
    | false => genC P o
  | _ => genC P o
theorem valC_ok {P : Program} {o : Op} {σ : ES} {v : AV} (h : (valC P o).run σ = some v) : rval P σ.toS o = some v := by
  have hall : (genC P o).run σ = some v → rval P σ.toS o = some v := by
    intro h
    have h : (rvalC P o).run (evK σ) (lbK σ) = some v := h
    rw [rvalC_eq, evK_eq, lbK_eq, evE_eq, liveE_eq] at h
    exact rvalF_ok h
  unfold valC at h
  split at h
  · rename_i op t x y ty
    rcases el_cases h with ⟨_, h⟩ | ⟨r, hr, h⟩
    · exact hall h
    · cases h
      have := qBin_ok (P := P) t x y (qC_ok hr)
      rw [evK_eq, evE_eq] at this
      rw [rval_binOp, qBin_nilV _ (by have := qC_ok hr; rw [evK_eq, evE_eq] at this; exact this)]
      exact this
  · refine hall ?_; exact h
  · refine hall ?_; exact h
  · split at h
    · rename_i ht
      rcases el_cases h with ⟨_, h⟩ | ⟨r, hr, h⟩
      · exact hall h
      · cases h
        rw [evK_eq, evE_eq] at hr
        exact idxS_ok ht hr
    · exact hall h
  · split at h
    · rename_i ht
      rcases el_cases h with ⟨_, h⟩ | ⟨r, hr, h⟩
      · exact hall h
      · cases h
        rw [evK_eq, evE_eq] at hr
        exact sliS_ok ht hr
    · exact hall h
  · split at h
    · rename_i h1
      split at h
      · rename_i h2
        rcases el_cases h with ⟨_, h⟩ | ⟨r, hr, h⟩
        · exact hall h
        · cases h
          rw [evK_eq, evE_eq] at hr
          rw [rval_convert]
          exact cnv64_ok h1 h2 hr
      · rename_i h2
        rcases el_cases h with ⟨_, h⟩ | ⟨r, hr, h⟩
        · exact hall h
        · cases h
          rw [evK_eq, evE_eq] at hr
          rw [rval_convert]
          exact cnv8_ok h1 h2 hr
      · exact hall h
    · exact hall h
  · split at h
    · rename_i ht
      rcases el_cases h with ⟨_, h⟩ | ⟨r, hr, h⟩
      · exact hall h
      · cases h
        rw [evK_eq, evE_eq] at hr
        exact lenS_ok rfl rfl ht hr
    · exact hall h
  · exact hall h

/-! ### Operations -/
structure OFn where
  run : {R : Type} → Bool → EE → ES → R → (ES → R) → R
/-- What the closure finds the machine finds. -/
def OFn.Ok (P : Program) (f : OFn) (s : Bool → Env → St → Option St) : Prop :=
  ∀ (R : Type) (lt : Bool) (E : EE) (σ : ES) (z r : R) (c : ES → R), E.Ok → σ.Inv → f.run lt E σ z c = r → r = z ∨ ∃ σ', σ'.Inv ∧ σ'.n = σ.n ∧ s lt E.env σ.toS = some σ'.toS ∧ c σ' = r
noncomputable def hpK {R : Type} (P : Program) (o : Op) (p : PFn) (σ : ES) (z : R) (c : ES → R) : R :=
  el ((hactC P o).run (evK σ) (gK σ) σ.hn σ.cnt) z fun q => ES.rec (motive := fun _ => R) (fun T n H hn _ =>
    el (popT q.2.1 H hn) z fun H1 =>
      HA.rec (motive := fun _ => R)
        (fun b => el (H1.push (popN q.2.1 hn) b) z fun H2 => fN (popN q.2.1 hn + 1) fun m => fN q.2.2.2 fun cnt => fT H2 fun H2 => p.put q.1 ⟨T, n, H2, m, cnt⟩ z c)
        (fun id b => el (Tr.setN b H1 id) z fun H2 => fN (popN q.2.1 hn) fun m => fN q.2.2.2 fun cnt => fT H2 fun H2 => p.put q.1 ⟨T, n, H2, m, cnt⟩ z c) q.2.2.1) σ
theorem hpK_eq {R : Type} (P : Program) (o : Op) (dst : Option Nat) (σ : ES) (z : R) (c : ES → R) : hpK P o (putC dst) σ z c = el (heapE P σ o dst) z c := by
  unfold hpK heapE
  rw [hactC_eq, evK_eq, gK_eq]
  cases hactE P (evE σ) (gE σ) σ.hn σ.cnt o with
  | none => rfl
  | some q =>
    obtain ⟨v, p, a, k⟩ := q
    obtain ⟨T, n, H, hn, cnt⟩ := σ
    simp only [el_some, fN_eq, fT_eq]
    cases popT p H hn with
    | none => rfl
    | some H1 =>
      simp only [el_some]
      cases a with
      | push b =>
        simp only
        cases H1.push (popN p hn) b with
        | none => rfl
        | some H2 => simp only [el_some, putC_eq]
      | put id b =>
        simp only
        cases Tr.setN b H1 id with
        | none => rfl
        | some H2 => simp only [el_some, putC_eq]
noncomputable def lpK {R : Type} (P : Program) (o : Op) (p : PFn) (σ : ES) (z : R) (c : ES → R) : R :=
  el ((hactC P o).run (evK σ) (gK σ) σ.hn σ.cnt) z fun q =>
    bB q.2.1 (HA.rec (motive := fun _ => R) (fun b => bB (norefs b.els) z (ES.rec (motive := fun _ => R) (fun T n H hn cnt => fN (cnt + 1) fun m => p.put (.vw false b.els) ⟨T, n, H, hn, m⟩ z c) σ)) (fun _ _ => z) q.2.2.1) z
theorem lpK_eq {R : Type} (P : Program) (o : Op) (dst : Option Nat) (σ : ES) (z : R) (c : ES → R) : lpK P o (putC dst) σ z c = el (litE P σ o dst) z c := by
  unfold lpK litE
  rw [hactC_eq, evK_eq, gK_eq]
  cases hactE P (evE σ) (gE σ) σ.hn σ.cnt o with
  | none => rfl
  | some q =>
    obtain ⟨v, p, a, k⟩ := q
    simp only [el_some]
    cases p with
    | true => rfl
    | false =>
      cases a with
      | put id b => rfl
      | push b =>
        simp only [bB_false]
        cases norefs b.els with
        | false => rfl
        | true => simp only [bB_true, fN_eq, putC_eq]
noncomputable def callC (args : List Operand) (f : Operand) (p : PFn) {R : Type} (E : EE) (σ : ES) (z : R) (c : ES → R) : R :=
  match evK σ f with
  | .fn g caps => bB (E.isP g)
      (bB (E.isV g)
        (el (E.hc g (args.map (evK σ) ++ caps) σ.H σ.hn σ.cnt) z fun q => ES.rec (motive := fun _ => R) (fun T n _ _ _ => fT q.2.1 fun H => fN q.2.2.1 fun hn => fN q.2.2.2 fun cnt => p.put q.1 ⟨T, n, H, hn, cnt⟩ z c) σ)
        (bB (norefs (args.map (evK σ) ++ caps)) z (el (E.vc g (args.map (evK σ) ++ caps)) z fun r => p.put r σ z c)))
      (el (E.pc g (borGs (gK σ) (args.map (evK σ) ++ caps))) z fun r => p.put r σ z c)
  | _ => z
noncomputable def coreK (P : Program) (o : Oper) : OFn :=
  match o.op with
  | .call { callee := .value f, args, .. } => ⟨fun _ E σ z c => callC args.toList f (putC o.dst) E σ z c⟩
  | _ => match isHeapOp o.op with
    | true => match litOp o.op with
      | true => ⟨fun lt _ σ z c => bB lt (hpK P o.op (putC o.dst) σ z c) (lpK P o.op (putC o.dst) σ z c)⟩
      | false => ⟨fun _ _ σ z c => hpK P o.op (putC o.dst) σ z c⟩
    | false => ⟨fun _ _ σ z c => el ((valC P o.op).run σ) z fun v => (putC o.dst).put v σ z c⟩
theorem el_el {α R : Type} {x : Option α} {z r : R} {c : α → R} (h : el x z c = r) : r = z ∨ ∃ a, x = some a ∧ c a = r := by
  cases x with
  | none => exact .inl h.symm
  | some a => exact .inr ⟨a, rfl, h⟩
theorem bB_el {R : Type} {b : Bool} {f t r : R} (h : bB b f t = r) : (b = false ∧ f = r) ∨ (b = true ∧ t = r) := by
  cases b with
  | false => exact .inl ⟨rfl, h⟩
  | true => exact .inr ⟨rfl, h⟩
theorem callC_eq {R : Type} (op : Op) (f : Operand) (args : Array Operand) (ats : Array TypeId) (ho : op = .call ⟨.value f, args, ats⟩) (dst : Option Nat) (E : EE) (σ : ES) (z : R) (c : ES → R) :
    callC args.toList f (putC dst) E σ z c = el (match targetE (evE σ) op with | some (g, as) => callE E σ g as dst | none => none) z c := by
  subst ho
  unfold callC targetE
  rw [evK_eq, gK_eq]
  simp only
  cases evE σ f <;> try rfl
  rename_i g caps
  simp only
  unfold callE
  cases E.isP g with
  | true =>
    simp only [bB_true]
    cases E.pc g (borGs (gE σ) (List.map (evE σ) args.toList ++ caps)) with
    | none => rfl
    | some r => simp only [el_some, putC_eq]
  | false =>
    simp only [bB_false]
    cases E.isV g with
    | true =>
      simp only [bB_true]
      cases norefs (List.map (evE σ) args.toList ++ caps) with
      | false => rfl
      | true =>
        simp only [bB_true]
        cases E.vc g (List.map (evE σ) args.toList ++ caps) with
        | none => rfl
        | some r => simp only [el_some, putC_eq]
    | false =>
      simp only [bB_false]
      cases E.hc g (List.map (evE σ) args.toList ++ caps) σ.H σ.hn σ.cnt with
      | none => rfl
      | some q => simp only [el_some, fT_eq, fN_eq, putC_eq]
theorem coreK_ok (P : Program) (o : Oper) : (coreK P o).Ok P (fun lt E s => coreS P E s o lt) := by
  intro R lt E σ z r c hE hi h
  have viaE : ∀ lt, el (coreE P E σ o lt) z c = r → r = z ∨ ∃ σ', σ'.Inv ∧ σ'.n = σ.n ∧ coreS P E.env σ.toS o lt = some σ'.toS ∧ c σ' = r := by
    intro lt h
    rcases el_el h with h | ⟨σ', h1, h2⟩
    · exact .inl h
    · obtain ⟨q1, q2, q3⟩ := coreE_ok hE hi h1
      exact .inr ⟨σ', q1, q3, q2, h2⟩
  have rest : isCall o.op = false → (match isHeapOp o.op with
      | true => match litOp o.op with
        | true => (⟨fun lt _ σ z c => bB lt (hpK P o.op (putC o.dst) σ z c) (lpK P o.op (putC o.dst) σ z c)⟩ : OFn)
        | false => ⟨fun _ _ σ z c => hpK P o.op (putC o.dst) σ z c⟩
      | false => ⟨fun _ _ σ z c => el ((valC P o.op).run σ) z fun v => (putC o.dst).put v σ z c⟩).run lt E σ z c = r →
      r = z ∨ ∃ σ', σ'.Inv ∧ σ'.n = σ.n ∧ coreS P E.env σ.toS o lt = some σ'.toS ∧ c σ' = r := by
    intro hcall h
    cases hh : isHeapOp o.op with
    | true =>
      rw [hh] at h
      simp only at h
      cases hl : litOp o.op with
      | true =>
        rw [hl] at h
        simp only at h
        refine viaE lt ?_
        unfold coreE
        rw [hcall, hh, hl]
        simp only [Bool.and_true]
        cases lt with
        | true => rw [bB_true, lpK_eq] at h; exact h
        | false => rw [bB_false, hpK_eq] at h; exact h
      | false =>
        rw [hl] at h
        simp only at h
        refine viaE lt ?_
        unfold coreE
        rw [hcall, hh, hl]
        simp only [Bool.and_false]
        rw [hpK_eq] at h
        exact h
    | false =>
      rw [hh] at h
      simp only at h
      rcases el_el h with h | ⟨v, hv, h⟩
      · exact .inl h
      · have hv := valC_ok hv
        rw [putC_eq] at h
        rcases el_el h with h | ⟨σ', h1, h2⟩
        · exact .inl h
        · obtain ⟨q1, q2, q3, _⟩ := putE_ok hi h1
          refine .inr ⟨σ', q1, q3, ?_, h2⟩
          have hl : (lt && litOp o.op) = false := by
            cases hq : litOp o.op with
            | false => rw [Bool.and_false]
            | true => rw [(lit_heap hq).1] at hh; cases hh
          have hpure : isPure E.env σ.toS o.op = true := by
            unfold isPure
            rw [hcall, if_neg (by decide), hh]; rfl
          unfold coreS
          rw [if_neg (by rw [hl]; decide), if_pos hpure]
          unfold pval
          rw [hcall, if_neg (by decide), hv, Option.map_some, q2]
  unfold coreK at h
  split at h
  · rename_i f args ats ho
    have h : callC args.toList f (putC o.dst) E σ z c = r := h
    rw [callC_eq o.op f args ats ho] at h
    refine viaE lt ?_
    unfold coreE
    rw [show isCall o.op = true by rw [ho]; rfl]
    exact h
  · rename_i hno
    refine rest ?_ h
    cases hq : isCall o.op with
    | false => rfl
    | true =>
      exfalso
      unfold isCall at hq
      split at hq
      · rename_i f args ats ho
        exact hno _ _ _ ho
      · cases hq
noncomputable def opK (P : Program) (all : Array Oper) (o : Oper) : OFn :=
  match o.guard with
  | none => coreK P o
  | some (j, want) => match (all[j]?).bind (·.dst) with
    | some d => ⟨fun _ E σ z c => match evK σ (.tmp d) with
      | .sc (.bool b) => bB (b == want) ((putC o.dst).put .un σ z c) ((coreK P o).run false E σ z c)
      | .un => (putC o.dst).put .un σ z c
      | _ => z⟩
    | none => ⟨fun _ _ σ z c => (putC o.dst).put .un σ z c⟩
def opS (P : Program) (all : Array Oper) (o : Oper) (lt : Bool) (E : Env) (s : St) : Option St := opM lt o (opStep P E all s o) (litStep P s o.op o.dst)
theorem opK_ok (P : Program) (all : Array Oper) (o : Oper) : (opK P all o).Ok P (opS P all o) := by
  intro R lt E σ z r c hE hi h
  unfold opK at h
  unfold opS opM
  cases hg : o.guard with
  | none =>
    rw [hg] at h
    simp only at h
    rcases coreK_ok P o R lt E σ z r c hE hi h with h | ⟨σ', q1, q2, q3, q4⟩
    · exact .inl h
    · refine .inr ⟨σ', q1, q2, ?_, q4⟩
      rw [← q3]
      unfold coreS opStep
      simp only [hg, Option.isNone_none, Bool.and_true]
  | some jw =>
    obtain ⟨j, want⟩ := jw
    have hn : (lt && litOp o.op && (some (j, want)).isNone) = false := by simp
    rw [hn, if_neg (by decide)]
    rw [hg] at h
    simp only at h
    have put : (putC o.dst).put .un σ z c = r → (guardV all σ.toS j = .un ∨ ∃ b, guardV all σ.toS j = .sc (.bool b) ∧ ¬ b = want) → r = z ∨ ∃ σ', σ'.Inv ∧ σ'.n = σ.n ∧ opStep P E.env all σ.toS o = some σ'.toS ∧ c σ' = r := by
      intro h hb
      rw [putC_eq] at h
      rcases el_el h with h | ⟨σ', h1, h2⟩
      · exact .inl h
      · obtain ⟨q1, q2, q3, _⟩ := putE_ok hi h1
        refine .inr ⟨σ', q1, q3, ?_, h2⟩
        unfold opStep
        simp only [hg]
        rcases hb with hb | ⟨b, hb, hne⟩
        · rw [hb]; simp only [q2]
        · rw [hb]
          simp only [if_neg hne, Option.map_some, q2]
          split <;> rfl
    have gv : guardV all σ.toS j = gvE all σ j := (gvE_eq all σ j).symm
    cases hd : (all[j]?).bind (·.dst) with
    | none =>
      rw [hd] at h
      simp only at h
      refine put h (.inl ?_)
      rw [gv]
      unfold gvE
      rw [hd]
    | some d =>
      rw [hd] at h
      simp only [evK_eq] at h
      have gv : guardV all σ.toS j = evE σ (.tmp d) := by
        rw [gv]
        unfold gvE
        rw [hd]
      split at h
      · rename_i b hb
        rcases bB_el h with ⟨hw, h⟩ | ⟨hw, h⟩
        · exact put h (.inr ⟨b, by rw [gv, hb], fun e => by rw [e] at hw; simp at hw⟩)
        · have hw : b = want := eq_of_beq hw
          rcases coreK_ok P o R false E σ z r c hE hi h with h | ⟨σ', q1, q2, q3, q4⟩
          · exact .inl h
          · refine .inr ⟨σ', q1, q2, ?_, q4⟩
            rw [← q3]
            unfold coreS opStep
            simp only [hg, gv, hb, Bool.false_and, if_pos hw]
            rfl
      · rename_i hb
        exact put h (.inl (by rw [gv, hb]))
      · exact .inl h.symm
noncomputable def seqK (P : Program) (all : Array Oper) (l : List Oper) : OFn :=
  match l with
  | [] => ⟨fun _ _ σ _ c => c σ⟩
  | o :: r => ⟨fun lt E σ z c => (opK P all o).run lt E σ z fun σ' => (seqK P all r).run lt E σ' z c⟩
def seqS (P : Program) (all : Array Oper) : List Oper → Bool → Env → St → Option St
  | [], _, _, s => some s
  | o :: r, lt, E, s => match opS P all o lt E s with
    | some s' => seqS P all r lt E s'
    | none => none
theorem seqS_eq (P : Program) (all : Array Oper) (E : Env) : ∀ (l : List Oper) (s : St), seqS P all l E.lit E s = runOps P E all l s
  | [], s => rfl
  | o :: r, s => by
    simp only [seqS, runOps, opS, opStepM]
    cases opM E.lit o (opStep P E all s o) (litStep P s o.op o.dst) with
    | none => rfl
    | some s' => exact seqS_eq P all E r s'
theorem seqK_ok (P : Program) (all : Array Oper) : ∀ l, (seqK P all l).Ok P (seqS P all l)
  | [] => fun R lt E σ z r c hE hi h => .inr ⟨σ, hi, rfl, rfl, h⟩
  | o :: l => fun R lt E σ z r c hE hi h => by
    have h : (opK P all o).run lt E σ z (fun σ' => (seqK P all l).run lt E σ' z c) = r := by
      rw [← h]
      simp only [seqK]
    rcases opK_ok P all o R lt E σ z r _ hE hi h with h | ⟨σ', q1, q2, q3, q4⟩
    · exact .inl h
    · rcases seqK_ok P all l R lt E σ' z r c hE q1 q4 with h | ⟨σ2, k1, k2, k3, k4⟩
      · exact .inl h
      · exact .inr ⟨σ2, k1, k2.trans q2, by simp only [seqS, q3]; exact k3, k4⟩
end Go.SX

namespace Go.SX
set_option linter.unusedSimpArgs false
set_option linter.unusedVariables false

noncomputable def opX (P : Program) (E : EE) (ops : Array Oper) (σ : ES) (o : Oper) : Option ES := (opK P ops o).run false E σ none some
theorem opX_ok {P : Program} {E : EE} (hE : E.Ok) {ops : Array Oper} {σ σ' : ES} {o : Oper} (hi : σ.Inv) (h : opX P E ops σ o = some σ') : σ'.Inv ∧ opStep P E.env ops σ.toS o = some σ'.toS ∧ σ'.n = σ.n := by
  rcases opK_ok P ops o (Option ES) false E σ none (some σ') some hE hi h with h | ⟨σ2, q1, q2, q3, q4⟩
  · cases h
  · cases q4
    exact ⟨q1, q3, q2⟩
noncomputable def runDPK (P : Program) (E : EE) (ops : Array Oper) : List Oper → Nat → ES → List PastE → List DidE → Option ES
  | [], _, σ, _, _ => some σ
  | o :: r, i, σ, hs, ds => el (opX P E ops σ o) none fun σ' =>
    bB (hopB E.hb o.op)
      (bB (noHeapB o.op)
        (bB ((isPureE E.isP (evK σ) o.op || isVE E (evK σ) o.op) && chkPe P E ops i o σ.T σ.n σ'.T hs) none (runDPK P E ops r (i + 1) σ' hs (⟨i, o, σ, σ'.T⟩ :: ds)))
        (runDPK P E ops r (i + 1) σ' hs ds))
      (bB (chkFe P E ops i σ'.H σ'.hn σ'.cnt ds && bornE E.hb ops i σ' o.op && Nat.blt 0 σ'.hn) none (runDPK P E ops r (i + 1) σ' (⟨i, σ⟩ :: hs) ds))
theorem runDPK_ok {P : Program} {E : EE} (hE : E.Ok) {ops : Array Oper} : ∀ {l : List Oper} {i : Nat} {σ σ1 : ES} {hs : List PastE} {ds : List DidE}, σ.Inv → (∀ h ∈ hs, h.σ.Inv) →
    runDPK P E ops l i σ hs ds = some σ1 → σ1.Inv ∧ runDPb P E.env E.vb ops l i σ.toS (hs.map PastE.toP) (ds.map DidE.toD) = some σ1.toS
  | [], i, σ, σ1, hs, ds, hi, hp, h => by simp only [runDPK, Option.some.injEq] at h; subst h; exact ⟨hi, rfl⟩
  | o :: r, i, σ, σ1, hs, ds, hi, hp, h => by
    simp only [runDPK] at h
    obtain ⟨σ', hst, h⟩ := el_no h
    obtain ⟨q1, q2, q3⟩ := opX_ok hE hi hst
    simp only [runDPb, q2]
    rcases bB_el h with ⟨hh, h⟩ | ⟨hh, h⟩
    · rw [show E.env.hb = E.hb from rfl, hh]
      simp only
      rcases bB_el h with ⟨hn, h⟩ | ⟨hn, h⟩
      · rw [hn]
        simp only
        obtain ⟨hc, h⟩ := bB_no h
        simp only [Bool.and_eq_true] at hc
        obtain ⟨c1, c2⟩ := hc
        rw [evK_eq, evE_eq, isPureE_eq, isVE_eq] at c1
        have c2 := chkPe_ok hE hp c2
        have e : ((isPure E.env σ.toS o.op || isVop E.vb σ.toS o.op) && chkPb P E.env E.vb ops i o σ.toS.T σ'.toS.T (hs.map PastE.toP)) = true := by
          rw [c1, Bool.true_and]
          simp only [ES.toS, q3]
          exact c2
        rw [e]
        simp only
        have := runDPK_ok hE q1 hp h
        have e2 : (DidE.toD ⟨i, o, σ, σ'.T⟩) = ⟨i, o, σ.toS.T, σ'.toS.T⟩ := by simp only [DidE.toD, ES.toS, q3]
        rw [List.map_cons, e2] at this
        exact this
      · rw [hn]
        exact runDPK_ok hE q1 hp h
    · rw [show E.env.hb = E.hb from rfl, hh]
      simp only
      obtain ⟨hc, h⟩ := bB_no h
      simp only [Bool.and_eq_true] at hc
      obtain ⟨⟨c1, c2⟩, c3⟩ := hc
      have c1 := chkFe_ok hE q1 c1
      have c3 : 0 < σ'.hn := by rw [blt_eq] at c3; simpa using c3
      have e : (chkFb P E.env E.vb ops i σ'.toS.H σ'.toS.cnt (ds.map DidE.toD) && bornB E.hb ops i σ'.toS.H o.op) = true := by
        rw [c1, Bool.true_and]
        cases ho : o.op <;> rw [ho] at c2 <;> try rfl
        simp only [bornE, Bool.or_eq_true] at c2
        simp only [bornB, Bool.or_eq_true]
        refine c2.imp id fun q => ?_
        simp only [ES.toS]
        rw [lastEls_get _ c3]
        exact q
      rw [e]
      simp only
      have := runDPK_ok hE q1 (hs := ⟨i, σ⟩ :: hs) (by
        intro x hx
        rcases List.mem_cons.1 hx with rfl | hx
        · exact hi
        · exact hp x hx) h
      exact this

/-! ### Code -/
structure GFn where
  run : {R : Type} → EE → ES → R → (ES → R) → R
noncomputable def regK (P : Program) (id : Nat) (ops : Array Oper) (dr : Bool) : GFn :=
  match dr with
  | false => ⟨fun E σ z c => (seqK P ops ops.toList).run E.lit E σ z c⟩
  | true => ⟨fun E σ z c => el (match E.perm id with
    | none => runDPK P E ops ops.toList 0 σ [] []
    | some π => runDPK P E (permA ops π) (permA ops π).toList 0 σ [] []) z c⟩
theorem regK_go {P : Program} {E : EE} (hE : E.Ok) {n0 : Nat} {rs : List ResultVar} {Q : AV → St → Prop} {id : Nat} {ops : Array Oper} {dr : Bool} {σ : ES} {k : List Item} (hi : σ.Inv) {R : Type} {z r : R} {c : ES → R} (h : (regK P id ops dr).run E σ z c = r) :
    r = z ∨ ∃ σ', σ'.Inv ∧ (Go P E.env n0 rs Q k σ'.toS → Go P E.env n0 rs Q (.code (.region id ops dr) :: k) σ.toS) ∧ c σ' = r := by
  unfold regK at h
  cases dr with
  | false =>
    rcases seqK_ok P ops ops.toList R E.lit E σ z r c hE hi h with h | ⟨σ', q1, q2, q3, q4⟩
    · exact .inl h
    · refine .inr ⟨σ', q1, fun ih => .region ?_ ih, q4⟩
      have := seqS_eq P ops E.env ops.toList σ.toS
      rw [← this]
      exact q3
  | true =>
    rcases el_el h with h | ⟨σ', hr, h⟩
    · exact .inl h
    · refine .inr ⟨σ', ?_⟩
      split at hr
      · rename_i hp
        obtain ⟨q1, q2⟩ := runDPK_ok hE hi (by intro h hh; cases hh) hr
        have q3 := runDPb_ok (vEnvE E) (fun _ h => by cases h) q2
        refine ⟨q1, fun ih => ?_, h⟩
        cases hh : ops.toList.any heapish with
        | true => exact .drawH hp hh q3 ih
        | false => exact .draw hp (pure_of_trace _ _ _ _ hh q3) ih
      · rename_i hp
        obtain ⟨q1, q2⟩ := runDPK_ok hE hi (by intro h hh; cases hh) hr
        exact ⟨q1, fun ih => .drawP hp (runDPb_ok (vEnvE E) (fun _ h => by cases h) q2) ih, h⟩

structure SFn where
  run : EE → List Item → ES → (List Item → ES → Option (AV × ES)) → Option (AV × ES)
noncomputable def stepK (P : Program) (x : Item) : SFn :=
  match x with
  | .code .skip => ⟨fun _ k σ c => c k σ⟩
  | .code (.seq x y) => ⟨fun _ k σ c => c (.code x :: .code y :: k) σ⟩
  | .code (.cond b x y) => ⟨fun _ k σ c => match evK σ b with
    | .sc (.bool t) => bB t (c (.code y :: k) σ) (c (.code x :: k) σ)
    | _ => none⟩
  | .code (.block id a) => ⟨fun _ k σ c => c (.code a :: .inBlock id :: k) σ⟩
  | .inBlock _ => ⟨fun _ k σ c => c k σ⟩
  | .code (.loop a) => ⟨fun _ k σ c => c (.code a :: .inLoop a :: k) σ⟩
  | .inLoop a => ⟨fun _ k σ c => c (.code a :: .inLoop a :: k) σ⟩
  | .code (.exit id) => ⟨fun _ k σ c => el (exitTo id k) none fun k' => c k' σ⟩
  | .code (.region id ops dr) => ⟨fun E k σ c => (regK P id ops dr).run E σ none fun σ' => c k σ'⟩
  | _ => ⟨fun _ _ _ _ => none⟩
noncomputable def finK (P : Program) (rs : List ResultVar) (σ : ES) : Option (AV × ES) := el (retE P σ rs) none fun vs => some (retOne vs, σ)
noncomputable def runK (P : Program) (E : EE) (rs : List ResultVar) (n : Nat) : List Item → ES → Option (AV × ES) :=
  Nat.rec (motive := fun _ => List Item → ES → Option (AV × ES)) (fun _ _ => none)
    (fun _ ih k σ => List.rec (motive := fun _ => Option (AV × ES)) (finK P rs σ) (fun x k' _ => bB (isRet x) ((stepK P x).run E k' σ ih) (finK P rs σ)) k) n
theorem go_ofK {P : Program} {E : EE} (hE : E.Ok) {n0 : Nat} {rs : List ResultVar} {r : AV} {σ1 : ES} : ∀ {n : Nat} {k : List Item} {σ : ES}, σ.Inv → runK P E rs n k σ = some (r, σ1) →
    σ1.Inv ∧ Go P E.env n0 rs (fun r' s' => r' = r ∧ s' = σ1.toS) k σ.toS
  | 0, k, σ, hi, h => by cases h
  | n + 1, [], σ, hi, h => by
    have h : finK P rs σ = some (r, σ1) := h
    obtain ⟨vs, hv, h⟩ := el_no h
    cases h
    exact ⟨hi, .fin (retE_eq hv) ⟨rfl, rfl⟩⟩
  | n + 1, x :: k, σ, hi, h => by
    have h : bB (isRet x) ((stepK P x).run E k σ (runK P E rs n)) (finK P rs σ) = some (r, σ1) := h
    rcases bB_el h with ⟨hx, h⟩ | ⟨hx, h⟩
    · have ih : ∀ {k : List Item} {σ : ES}, σ.Inv → runK P E rs n k σ = some (r, σ1) → σ1.Inv ∧ Go P E.env n0 rs (fun r' s' => r' = r ∧ s' = σ1.toS) k σ.toS := fun hi h => go_ofK hE hi h
      unfold stepK at h
      split at h
      · exact (ih hi h).imp id .skip
      · exact (ih hi h).imp id .seq
      · simp only at h
        split at h
        · rename_i t ht
          rw [evK_eq, evE_eq] at ht
          rcases bB_el h with ⟨rfl, h⟩ | ⟨rfl, h⟩
          · exact (ih hi h).imp id fun q => .cond false ht q
          · exact (ih hi h).imp id fun q => .cond true ht q
        · cases h
      · exact (ih hi h).imp id .block
      · exact (ih hi h).imp id .inBlock
      · exact (ih hi h).imp id .loop
      · exact (ih hi h).imp id .inLoop
      · obtain ⟨k', he, h⟩ := el_no h
        exact (ih hi h).imp id fun q => .exit he q
      · rcases regK_go hE (n0 := n0) (rs := rs) (Q := fun r' s' => r' = r ∧ s' = σ1.toS) (k := k) hi h with h | ⟨σ', q1, q2, q3⟩
        · cases h
        · exact (ih q1 q3).imp id q2
      · cases h
    · have hx : x = .code .ret := by
        unfold isRet at hx
        split at hx
        · rfl
        · cases hx
      subst hx
      obtain ⟨vs, hv, h⟩ := el_no h
      cases h
      exact ⟨hi, .ret (retE_eq hv) ⟨rfl, rfl⟩⟩

/-! ### Functions -/
noncomputable def callK (P : Program) (t : TabE) (E : EE) (f : Nat) (args : List AV) (H : Tr Blk) (hn cnt : Nat) : Option (AV × ES) :=
  match t.ok f with
  | true => match P.funcs[f]? with
    | some fn => match fn.body with
      | some c => match Nat.ble args.length fn.ntmps with
        | true => match Tr.setAll (Tr.rep .un 12 fn.ntmps) 0 args with
          | some T => runK P E fn.results.toList fuelI [.code c] ⟨T, fn.ntmps, H, hn, cnt⟩
          | none => none
        | false => none
      | none => none
    | none => none
  | false => none
theorem callK_ok {P : Program} {t : TabE} {E : EE} (hE : E.Ok) {f : Nat} {args : List AV} {H : Tr Blk} {hn cnt : Nat} {r : AV} {σ1 : ES} (hf : Tr.Fit H hn) (h : callK P t E f args H hn cnt = some (r, σ1)) :
    σ1.Inv ∧ t.ok f = true ∧ ∃ fn c, P.funcs[f]? = some fn ∧ fn.body = some c ∧ ∀ n0, Go P E.env n0 fn.results.toList (fun r' s' => r' = r ∧ s' = σ1.toS) [.code c] (initSt fn args (H.toL dead hn) cnt) := by
  unfold callK at h
  split at h
  · rename_i hok
    split at h
    · rename_i fn hfn
      split at h
      · rename_i c hc
        split at h
        · rename_i hlen
          split at h
          · rename_i T hT
            have hle : args.length ≤ fn.ntmps := Nat.le_of_ble_eq_true hlen
            have e : (ES.toS ⟨T, fn.ntmps, H, hn, cnt⟩) = initSt fn args (H.toL dead hn) cnt := by
              unfold ES.toS initSt
              congr 1
              refine List.ext_getElem? fun j => ?_
              rw [Tr.toL_get, List.getElem?_append, List.getElem?_replicate]
              simp only [Tr.setAll_ok AV.un hT j, Nat.zero_le, true_and, Nat.zero_add, Nat.sub_zero, Tr.rep_get]
              by_cases h1 : j < args.length
              · rw [if_pos (by omega), if_pos h1, if_pos h1, List.getD_eq_getElem?_getD, List.getElem?_eq_getElem h1]; rfl
              · rw [if_neg h1, if_neg h1]
                by_cases h2 : j < fn.ntmps
                · rw [if_pos h2, if_pos (by omega)]
                · rw [if_neg h2, if_neg (by omega)]
            have hi : (ES.Inv ⟨T, fn.ntmps, H, hn, cnt⟩) := hf
            refine ⟨(go_ofK hE (n0 := 0) hi h).1, hok, fn, c, hfn, hc, fun n0 => ?_⟩
            rw [← e]
            exact (go_ofK hE hi h).2
          · cases h
        · cases h
      · cases h
    · cases h
  · cases h

def gvn {α : Type} (b : Bool) (x : Option α) : Option α :=
  match b with
  | true => x
  | false => none
theorem gvn_ok {α : Type} {b : Bool} {x : Option α} {r : α} (h : gvn b x = some r) : x = some r := by
  cases b with
  | true => exact h
  | false => cases h
noncomputable def gT (H : Tr Blk) (hn : Nat) (id : Nat) : Option Blk := bB (Nat.blt id hn) none (some (Tr.getN dead H id))
theorem gT_eq (H : Tr Blk) (hn : Nat) : gT H hn = fun i => (H.toL dead hn)[i]? := by
  funext id
  simp only [gT, Tr.getN_eq, Tr.toL_get, blt_eq]
  by_cases h : id < hn
  · simp [h, bB_true]
  · simp [h, bB_false]
mutual
noncomputable def pK (P : Program) (t : TabE) (G : Giv) : Nat → Nat → List AV → Option AV
  | 0, _, _ => none
  | n + 1, f, args => match gvn (t.givP f) (G.p f args) with
    | some r => some r
    | none => outPE (callK P t (eeOf t (pK P t G n) (vK P t G n) (hK P t G n) f) f args .nil 0 0)
noncomputable def vK (P : Program) (t : TabE) (G : Giv) : Nat → Nat → List AV → Option AV
  | 0, _, _ => none
  | n + 1, f, args => match gvn (t.givV f) (G.v f args) with
    | some r => some r
    | none => outVE (callK P t (eeOf t (pK P t G n) (vK P t G n) (hK P t G n) f) f args .nil 0 0)
noncomputable def hK (P : Program) (t : TabE) (G : Giv) : Nat → Nat → List AV → Tr Blk → Nat → Nat → Option (AV × Tr Blk × Nat × Nat)
  | 0, _, _, _, _, _ => none
  | n + 1, f, args, H, hn, cnt => match gvn (t.givH f) (givT G f args H hn cnt) with
    | some r => some r
    | none => match gvn (t.givF f) (G.f f (borGs (gT H hn) args)) with
    | some r => some (r, H, hn, cnt)
    | none => outE (t.keep f) hn (callK P t (eeOf t (pK P t G n) (vK P t G n) (hK P t G n) f) f args H hn cnt)
end
noncomputable def eK (P : Program) (t : TabE) (G : Giv) (n f : Nat) : EE := eeOf t (pK P t G n) (vK P t G n) (hK P t G n) f
theorem hK_fit {P : Program} {t : TabE} {G : Giv} : ∀ n f, (eK P t G n f).Ok
  | 0, f => by
    intro g args H hn c r H' n' c' hf h
    simp [eK, eeOf, hK] at h
  | n + 1, f => by
    intro g args H hn c r H' n' c' hf h
    have h : hK P t G (n + 1) g args H hn c = some (r, H', n', c') := h
    simp only [hK] at h
    split at h
    · rename_i q hq
      cases h
      have h := gvn_ok hq
      unfold givT at h
      split at h
      · cases h
        exact Tr.ofL_fit dead _
      · cases h
    · split at h
      · cases h
        exact hf
      · unfold outE at h
        split at h
        · rename_i r1 σ1 hc
          have hi := (callK_ok (hK_fit n g) hf hc).1
          split at h
          · cases h; exact hi
          · split at h
            · rename_i ht
              cases h
              exact (truncE_ok hi ht).1
            · cases h
        · cases h

theorem envK_ok {P : Program} {t : TabE} {G : Giv} (hm : P.follows .mixedOrders = true) (ht : TabEOk P t) (hG : GivOk P G) : ∀ n, (∀ f, EnvOk P (eK P t G n f).env) ∧ (∀ f args r, vK P t G n f args = some r → VSpec P f args r)
  | 0 => ⟨fun f => ⟨fun g args r h => by simp [eK, eeOf, EE.env, pK] at h, fun g args H cnt r H' cnt' h => by
      have h : EE.hcall (eK P t G 0 f) g args H cnt = some (r, H', cnt') := h
      unfold EE.hcall at h
      split at h
      · have e : (eK P t G 0 f).vc g args = none := by simp [eK, eeOf, vK]
        rw [e] at h
        cases hq : norefs args <;> rw [hq] at h <;> cases h
      · unfold hcL at h
        simp [eK, eeOf, hK] at h⟩, fun f args r h => by simp [vK] at h⟩
  | n + 1 => by
    obtain ⟨ih, ihv⟩ := envK_ok hm ht hG n
    have hv : ∀ f args r, vK P t G (n + 1) f args = some r → VSpec P f args r := by
      intro g args r h
      simp only [vK] at h
      split at h
      · rename_i q hq
        cases h
        exact hG.v g args r (gvn_ok hq)
      · unfold outVE at h
        split at h
        · rename_i r' σ' hc
          split at h
          · rename_i hnr
            cases h
            obtain ⟨_, hk, fn, c, hfn, hb, hgo⟩ := callK_ok (hK_fit n g) (H := .nil) (hn := 0) rfl hc
            obtain ⟨q1, q2⟩ := ht g fn c hk hfn hb
            exact vspecD_of_go (ih g) hm 60 hfn hb q1 q2 hnr (go_mono (hgo 0) fun r' s'' hh => by obtain ⟨rfl, rfl⟩ := hh; rfl)
          · cases h
        · cases h
    refine ⟨fun f => ⟨fun g args r h => ?_, fun g args H cnt r H' cnt' h => ?_⟩, hv⟩
    · have h : pK P t G (n + 1) g args = some r := h
      simp only [pK] at h
      split at h
      · rename_i q hq
        cases h
        exact hG.p g args r (gvn_ok hq)
      · unfold outPE at h
        split at h
        · rename_i r' σ' hc
          split at h
          · rename_i hok
            cases h
            obtain ⟨_, hk, fn, c, hfn, hb, hgo⟩ := callK_ok (hK_fit n g) (H := .nil) (hn := 0) rfl hc
            obtain ⟨q1, q2⟩ := ht g fn c hk hfn hb
            exact pspec_of_go (ih g) hm hfn hb q1 q2 hok (go_mono (hgo 0) fun r' s'' hh => hh.1)
          · cases h
        · cases h
    · have h : EE.hcall (eK P t G (n + 1) f) g args H cnt = some (r, H', cnt') := h
      unfold EE.hcall at h
      split at h
      · cases hnr : norefs args with
        | false => rw [hnr] at h; cases h
        | true =>
          cases hq : (eK P t G (n + 1) f).vc g args with
          | none => rw [hnr, hq] at h; cases h
          | some q =>
            rw [hnr, hq] at h
            cases h
            exact hspec_of_v (hv g args _ hq) hnr H cnt
      · have h : hcL (hK P t G (n + 1)) g args H cnt = some (r, H', cnt') := h
        unfold hcL at h
        split at h
        · rename_i r1 H1 n1 c1 hh
          cases h
          simp only [hK] at hh
          split at hh
          · rename_i q hq
            cases hh
            have hh := gvn_ok hq
            unfold givT at hh
            split at hh
            · rename_i r2 H2 c2 hg
              cases hh
              rw [Tr.toL_ofL] at hg
              rw [Tr.toL_ofL]
              exact hG.h g args H cnt _ _ _ hg
            · cases hh
          · split at hh
            · rename_i q hq
              cases hh
              have hq := gvn_ok hq
              rw [gT_eq, borGs_eq, Tr.toL_ofL] at hq
              rw [Tr.toL_ofL]
              exact hspec_of_f (hG.f g _ _ hq)
            · unfold outE at hh
              split at hh
              · rename_i r2 σ2 hc
                obtain ⟨hi, hk, fn, c, hfn, hb, hgo⟩ := callK_ok (hK_fit n g) (Tr.ofL_fit dead H) hc
                obtain ⟨q1, q2⟩ := ht g fn c hk hfn hb
                rw [Tr.toL_ofL] at hgo
                split at hh
                · cases hh
                  exact hspec_of_go (ih g) hm hfn hb q1 q2 (go_mono (hgo H.length) fun r' s'' hh => by obtain ⟨rfl, rfl⟩ := hh; exact ⟨rfl, rfl, rfl⟩)
                · split at hh
                  · rename_i H3 n3 htr
                    cases hh
                    obtain ⟨_, _, t3⟩ := truncE_ok hi htr
                    refine hspecW_of_go (ih g) hm hfn hb q1 q2 (go_mono (hgo H.length) fun r' s'' hh => ?_)
                    obtain ⟨rfl, rfl⟩ := hh
                    refine ⟨.refl _, ?_, Nat.le_refl _⟩
                    rw [t3]
                    have := wkH_app (σ2.toS.H) (σ2.toS.H.drop n1) (σ2.toS.H.take n1)
                    rw [List.take_append_drop] at this
                    exact this
                  · cases hh
              · cases hh
        · cases h

/-- A function whose views are its own. -/
noncomputable def outFE : Option (AV × ES) → Option AV
  | some (r, σ) => match r.freshIn (σ.H.toL dead σ.hn) && (borrow (σ.H.toL dead σ.hn) r).noref with
    | true => some (borrow (σ.H.toL dead σ.hn) r)
    | false => none
  | none => none
noncomputable def fK (P : Program) (t : TabE) (G : Giv) (n f : Nat) (args : List AV) : Option AV := outFE (callK P t (eK P t G n f) f args .nil 0 0)
/-! ### What the quick machine finds holds of the program -/
theorem pspec_ofK {P : Program} {t : TabE} {G : Giv} (hm : P.follows .mixedOrders = true) (ht : TabEOk P t) (hG : GivOk P G) {n f : Nat} {args : List AV} {r : AV} (h : pK P t G n f args = some r) : PSpec P f args r :=
  ((envK_ok hm ht hG n).1 0).p f args r h
theorem vspec_ofK {P : Program} {t : TabE} {G : Giv} (hm : P.follows .mixedOrders = true) (ht : TabEOk P t) (hG : GivOk P G) {n f : Nat} {args : List AV} {r : AV} (h : vK P t G n f args = some r) : VSpec P f args r :=
  (envK_ok hm ht hG n).2 f args r h
theorem fspec_ofK {P : Program} {t : TabE} {G : Giv} (hm : P.follows .mixedOrders = true) (ht : TabEOk P t) (hG : GivOk P G) {n f : Nat} {args : List AV} {r : AV} (h : fK P t G n f args = some r) : FSpec P f args r := by
  unfold fK outFE at h
  split at h
  · rename_i r' σ' hc
    split at h
    · rename_i hnr
      cases h
      simp only [Bool.and_eq_true] at hnr
      obtain ⟨_, hk, fn, c, hfn, hb, hgo⟩ := callK_ok (hK_fit n f) (H := .nil) (hn := 0) rfl hc
      obtain ⟨q1, q2⟩ := ht f fn c hk hfn hb
      exact fspec_of_go ((envK_ok hm ht hG n).1 f) hm hfn hb q1 q2 hnr.2 (go_mono (hgo 0) fun r' s'' hh => by obtain ⟨rfl, rfl⟩ := hh; exact ⟨rfl, hnr.1⟩)
    · cases h
  · cases h
end Go.SX

namespace Go.SX
set_option linter.unusedSimpArgs false
set_option linter.unusedVariables false

theorem set_last' (H : List Blk) (a b : Blk) : (H ++ [a]).set H.length b = H ++ [b] := by
  rw [List.set_append_right _ _ (Nat.le_refl _), Nat.sub_self]; rfl
/-- An empty slice without memory, as one of its own. -/
theorem own0 {P : Program} {f : FuncId} {args : List AV} {H H' : List Blk} {cnt cnt1 : Nat} (h : HSpec P f args H cnt (.vw true []) H' cnt1) (ver ty esz cnt' : Nat) (hv : cnt1 ≤ ver) (hv' : ver < cnt') :
    HSpec P f args H cnt (.sl H'.length ver 0 0) (H' ++ [⟨true, ver, ty, esz, [], false⟩]) cnt' := by
  obtain ⟨hc, h⟩ := h
  refine ⟨hc, fun w X loc cargs hr hvl => (h w X loc cargs hr hvl).mono ?_⟩
  rintro e w' ⟨X', loc', c, he, hr', hvr, hev⟩
  have hlt : ∀ k (B : Blk), H'[k]? = some B → k < H'.length := fun k B hk => (List.getElem?_eq_some_iff.1 hk).1
  have hnew : ∀ k (B : Blk), (H' ++ [(⟨true, ver, ty, esz, [], false⟩ : Blk)])[k]? = some B → (k < H'.length ∧ H'[k]? = some B) ∨ (k = H'.length ∧ B = ⟨true, ver, ty, esz, [], false⟩) := by
    intro k B hk
    rw [List.getElem?_append] at hk
    split at hk
    · rename_i hl; exact .inl ⟨hl, hk⟩
    · rename_i hl
      have hk0 : k - H'.length = 0 := by
        have := (List.getElem?_eq_some_iff.1 hk).1
        simp at this; omega
      rw [hk0] at hk
      simp at hk
      exact .inr ⟨by omega, hk.symm⟩
  have hevo : Evo w' X' ⟨loc', H', cnt1⟩ w' X' ⟨fun k => if k = H'.length then none else loc' k, H' ++ [⟨true, ver, ty, esz, [], false⟩], cnt'⟩ := by
    refine ⟨rfl, rfl, rfl, Nat.le_refl _, fun _ _ _ => rfl, fun _ _ hs => hs, fun _ _ => Iff.rfl, by simp only; omega, ?_, ?_⟩
    · intro id B' h1 h2 h3
      simp only at h1 h3 ⊢
      rcases hnew id B' h1 with ⟨hl, h1⟩ | ⟨rfl, rfl⟩
      · exact ⟨B', h1, h2, rfl, by rw [if_neg (by omega)], rfl, rfl, rfl⟩
      · simp only at h3; omega
    · intro id B' b o h1 h2 h3 h4
      simp only at h1 h3 ⊢
      rcases hnew id B' h1 with ⟨hl, h1⟩ | ⟨rfl, rfl⟩
      · rw [if_neg (by omega)] at h3
        exact ⟨B', o, h1, h2, h3⟩
      · rw [if_pos rfl] at h3; cases h3
  refine ⟨X', _, c, he, ?_, ?_, hev.trans hevo⟩
  · refine ⟨?_, ?_, hr'.lt⟩
    · intro id B h1 h2
      rcases hnew id B h1 with ⟨hl, h1⟩ | ⟨rfl, rfl⟩
      · obtain ⟨g1, g2, g3⟩ := hr'.blk id B h1 h2
        simp only at g1 g3 ⊢
        refine ⟨by omega, g2, ?_⟩
        rw [if_neg (by omega)]
        split at g3
        · exact g3
        · rename_i b base hn
          obtain ⟨k1, k2, k3⟩ := g3
          refine ⟨k1, k2, fun i e he => ?_⟩
          obtain ⟨q1, q2⟩ := k3 i e he
          refine ⟨q1, fun j a ha => ?_⟩
          obtain ⟨c, e1, e2, e3⟩ := q2 j a ha
          exact ⟨c, e1, e2, e3.mono hevo hr'⟩
      · refine ⟨hv', by simp [lenMax], ?_⟩
        simp only [if_true]
    · intro id id' B B' b o o' h1 h2 h3 h4 h5 h6
      simp only at h1 h2 h5 h6
      rcases hnew id B h1 with ⟨hl, h1⟩ | ⟨rfl, rfl⟩
      · rcases hnew id' B' h2 with ⟨hl', h2⟩ | ⟨rfl, rfl⟩
        · rw [if_neg (by omega)] at h5 h6
          exact hr'.inj id id' B B' b o o' h1 h2 h3 h4 h5 h6
        · rw [if_pos rfl] at h6; cases h6
      · rw [if_pos rfl] at h5; cases h5
  · cases hvr with
    | vw0 hz hm =>
      rename_i a cap
      obtain rfl := hz rfl
      refine .sl rfl fun hc1 h1 => ?_
      cases h1
      refine ⟨hv', fun B h1 _ _ => ?_⟩
      simp only at h1
      rcases hnew _ B h1 with ⟨hl, _⟩ | ⟨_, rfl⟩
      · omega
      · exact ⟨by simp, .inl ⟨rfl, _, rfl⟩⟩
    | vw1 f hne => exact absurd rfl hne

/-- An empty slice is nil or not. -/
theorem nilcase {P : Program} {f : FuncId} {z : Bool} {H H' : List Blk} {cnt cnt' : Nat} {r : AV} (h1 : ∀ cap, HSpec P f [.sc (.slice none 0 cap)] H cnt r H' cnt') (h2 : ∀ a cap, HSpec P f [.sc (.slice (some a) 0 cap)] H cnt r H' cnt') :
    HSpec P f [.vw z []] H cnt r H' cnt' := by
  refine ⟨(h1 0).1, fun w X loc cargs hr hvl => ?_⟩
  obtain ⟨hl, hv⟩ := hvl
  obtain ⟨v, hcv⟩ : ∃ v, cargs.toList = [v] := by
    match hm : cargs.toList, hl with
    | [v], _ => exact ⟨v, rfl⟩
  have h0 := hv 0 (.vw z []) v rfl (by rw [hcv]; rfl)
  have key : ∀ a cap, v = .slice a 0 cap → VL w X (some ⟨loc, H, cnt⟩) [.sc (.slice a 0 cap)] cargs.toList := by
    intro a cap hva
    rw [hcv, hva]
    refine ⟨rfl, fun i x y hx hy => ?_⟩
    cases i with
    | zero => cases hx; cases hy; exact .sc rfl
    | succ i => simp at hx
  cases h0 with
  | vw0 hz hm =>
    rename_i a cap
    cases a with
    | none => exact (h1 cap).2 w X loc cargs hr (key none cap rfl)
    | some a => exact (h2 a cap).2 w X loc cargs hr (key (some a) cap rfl)
  | vw1 f hne => exact absurd rfl hne

/-- An empty slice of its own is nil or not. -/
theorem nilcaseS {P : Program} {f : FuncId} {id ver lo : Nat} {H H' : List Blk} {cnt cnt' : Nat} {r : AV} (hlv : (liveB H id ver).isSome = true) (h1 : ∀ cap, HSpec P f [.sc (.slice none 0 cap)] H cnt r H' cnt') (h2 : ∀ a cap, HSpec P f [.sc (.slice (some a) 0 cap)] H cnt r H' cnt') :
    HSpec P f [.sl id ver lo 0] H cnt r H' cnt' := by
  refine ⟨(h1 0).1, fun w X loc cargs hr hvl => ?_⟩
  obtain ⟨hl, hv⟩ := hvl
  obtain ⟨v, hcv⟩ : ∃ v, cargs.toList = [v] := by
    match hm : cargs.toList, hl with
    | [v], _ => exact ⟨v, rfl⟩
  have h0 := hv 0 (.sl id ver lo 0) v rfl (by rw [hcv]; rfl)
  have key : ∀ a cap, v = .slice a 0 cap → VL w X (some ⟨loc, H, cnt⟩) [.sc (.slice a 0 cap)] cargs.toList := by
    intro a cap hva
    rw [hcv, hva]
    refine ⟨rfl, fun i x y hx hy => ?_⟩
    cases i with
    | zero => cases hx; cases hy; exact .sc rfl
    | succ i => simp at hx
  obtain ⟨B, hB⟩ := Option.isSome_iff_exists.1 hlv
  obtain ⟨g1, g2, g3⟩ := liveB_some hB
  cases h0 with
  | sl q1 q2 =>
    obtain ⟨_, r2⟩ := q2 _ rfl
    obtain ⟨_, r4⟩ := r2 B g1 g2 g3
    rcases r4 with ⟨_, a, rfl⟩ | ⟨b, base, cap, n, _, rfl, _⟩
    · cases a with
      | none => exact (h1 0).2 w X loc cargs hr (key none 0 rfl)
      | some a => exact (h2 a 0).2 w X loc cargs hr (key (some a) 0 rfl)
    · exact (h2 _ cap).2 w X loc cargs hr (key _ cap rfl)
end Go.SX

namespace Go.SX
set_option linter.unusedSimpArgs false
set_option linter.unusedVariables false

structure TFn where
  run : {R : Type} → EE → List Item → ES → R → (List Item → ES → R) → R
noncomputable def stepT (P : Program) (x : Item) : TFn :=
  match x with
  | .code .skip => ⟨fun _ k σ _ c => c k σ⟩
  | .code (.seq x y) => ⟨fun _ k σ _ c => c (.code x :: .code y :: k) σ⟩
  | .code (.cond b x y) => ⟨fun _ k σ z c => match evK σ b with
    | .sc (.bool t) => bB t (c (.code y :: k) σ) (c (.code x :: k) σ)
    | _ => z⟩
  | .code (.block id a) => ⟨fun _ k σ _ c => c (.code a :: .inBlock id :: k) σ⟩
  | .inBlock _ => ⟨fun _ k σ _ c => c k σ⟩
  | .code (.loop a) => ⟨fun _ k σ _ c => c (.code a :: .inLoop a :: k) σ⟩
  | .inLoop a => ⟨fun _ k σ _ c => c (.code a :: .inLoop a :: k) σ⟩
  | .code (.exit id) => ⟨fun _ k σ z c => el (exitTo id k) z fun k' => c k' σ⟩
  | .code (.region id ops dr) => ⟨fun E k σ z c => (regK P id ops dr).run E σ z fun σ' => c k σ'⟩
  | _ => ⟨fun _ _ _ z _ => z⟩
section
variable {P : Program} {E : EE} {n0 : Nat} {rs : List ResultVar} {Q : AV → St → Prop}
theorem stepT_go (hE : E.Ok) {x : Item} {k : List Item} {σ : ES} (hi : σ.Inv) {R : Type} {z r : R} {c : List Item → ES → R} (h : (stepT P x).run E k σ z c = r) :
    r = z ∨ ∃ k' σ', σ'.Inv ∧ (Go P E.env n0 rs Q k' σ'.toS → Go P E.env n0 rs Q (x :: k) σ.toS) ∧ c k' σ' = r := by
  unfold stepT at h
  split at h
  · exact .inr ⟨_, _, hi, .skip, h⟩
  · exact .inr ⟨_, _, hi, .seq, h⟩
  · simp only at h
    split at h
    · rename_i t ht
      rw [evK_eq, evE_eq] at ht
      rcases bB_el h with ⟨rfl, h⟩ | ⟨rfl, h⟩
      · exact .inr ⟨_, _, hi, fun q => .cond false ht q, h⟩
      · exact .inr ⟨_, _, hi, fun q => .cond true ht q, h⟩
    · exact .inl h.symm
  · exact .inr ⟨_, _, hi, .block, h⟩
  · exact .inr ⟨_, _, hi, .inBlock, h⟩
  · exact .inr ⟨_, _, hi, .loop, h⟩
  · exact .inr ⟨_, _, hi, .inLoop, h⟩
  · rcases el_el h with h | ⟨k', he, h⟩
    · exact .inl h
    · exact .inr ⟨_, _, hi, fun q => .exit he q, h⟩
  · rcases regK_go hE (n0 := n0) (rs := rs) (Q := Q) (k := k) hi h with h | ⟨σ', q1, q2, q3⟩
    · exact .inl h
    · exact .inr ⟨_, _, q1, q2, q3⟩
  · exact .inl h.symm
/-- Some steps, and where they lead. -/
noncomputable def runTo (P : Program) (E : EE) (n : Nat) : List Item → ES → Option (List Item × ES) :=
  Nat.rec (motive := fun _ => List Item → ES → Option (List Item × ES)) (fun k σ => some (k, σ))
    (fun _ ih k σ => List.rec (motive := fun _ => Option (List Item × ES)) none (fun x k' _ => (stepT P x).run E k' σ none ih) k) n
theorem go_to (hE : E.Ok) : ∀ {n : Nat} {k k' : List Item} {σ σ' : ES}, σ.Inv → runTo P E n k σ = some (k', σ') → σ'.Inv ∧ (Go P E.env n0 rs Q k' σ'.toS → Go P E.env n0 rs Q k σ.toS)
  | 0, k, k', σ, σ', hi, h => by cases h; exact ⟨hi, id⟩
  | n + 1, [], k', σ, σ', hi, h => by cases h
  | n + 1, x :: k, k', σ, σ', hi, h => by
    have h : (stepT P x).run E k σ none (runTo P E n) = some (k', σ') := h
    rcases stepT_go (n0 := n0) (rs := rs) (Q := Q) hE hi h with h | ⟨k2, σ2, q1, q2, q3⟩
    · cases h
    · obtain ⟨r1, r2⟩ := go_to hE q1 q3
      exact ⟨r1, fun h => q2 (r2 h)⟩
end
/-- Where code stands in a function's body. -/
def subC : List Nat → Code → Code
  | [], c => c
  | i :: p, c => match c with
    | .seq a b => match i with | 0 => subC p a | _ => subC p b
    | .cond _ a b => match i with | 0 => subC p a | _ => subC p b
    | .block _ a => subC p a
    | .loop a => subC p a
    | c => c
inductive PI where
  | c (p : List Nat)
  | b (id : Nat)
  | l (p : List Nat)
def PI.item (c : Code) : PI → Item
  | .c p => .code (subC p c)
  | .b id => .inBlock id
  | .l p => .inLoop (subC p c)
def pis (c : Code) : List PI → List Item
  | [] => []
  | x :: r => x.item c :: pis c r

/-! ### A function in stages -/
def bodyOf (fn : Func) : Code := match fn.body with | some c => c | none => .skip
noncomputable def startE (fn : Func) (args : List AV) : ES := match Tr.setAll (Tr.rep .un 12 fn.ntmps) 0 args with
  | some T => ⟨T, fn.ntmps, .nil, 0, 0⟩
  | none => ⟨.nil, 0, .nil, 0, 0⟩
def okStart (fn : Func) (args : List AV) : Bool := Nat.ble args.length fn.ntmps && (Tr.setAll (Tr.rep AV.un 12 fn.ntmps) 0 args).isSome
theorem startE_ok {fn : Func} {args : List AV} (h : okStart fn args = true) : (startE fn args).Inv ∧ (startE fn args).toS = initSt fn args [] 0 := by
  unfold okStart at h
  simp only [Bool.and_eq_true] at h
  obtain ⟨T, hT⟩ := Option.isSome_iff_exists.1 h.2
  have hle : args.length ≤ fn.ntmps := Nat.le_of_ble_eq_true h.1
  unfold startE
  rw [hT]
  refine ⟨rfl, ?_⟩
  unfold ES.toS initSt
  congr 1
  refine List.ext_getElem? fun j => ?_
  simp only
  rw [Tr.toL_get, List.getElem?_append, List.getElem?_replicate]
  simp only [Tr.setAll_ok AV.un hT j, Nat.zero_le, true_and, Nat.zero_add, Nat.sub_zero, Tr.rep_get]
  by_cases h1 : j < args.length
  · rw [if_pos (by omega), if_pos h1, if_pos h1, List.getD_eq_getElem?_getD, List.getElem?_eq_getElem h1]; rfl
  · rw [if_neg h1, if_neg h1]
    by_cases h2 : j < fn.ntmps
    · rw [if_pos h2, if_pos (by omega)]
    · rw [if_neg h2, if_neg (by omega)]
/-- The end of a function whose views are its own. -/
theorem fspec_stages {P : Program} {t : TabE} {G : Giv} (hm : P.follows .mixedOrders = true) (ht : TabEOk P t) (hG : GivOk P G) {n f : Nat} {fn : Func} {c : Code} {args : List AV} {r : AV}
    (hok : t.ok f = true) (hf : P.funcs[f]? = some fn) (hb : fn.body = some c) (hs : okStart fn args = true) (hr : r.noref = true)
    (h : Go P (eK P t G n f).env 0 fn.results.toList (fun r' s' => borrow s'.H r' = r ∧ r'.freshIn s'.H = true) [.code c] (startE fn args).toS) : FSpec P f args r := by
  obtain ⟨q1, q2⟩ := ht f fn c hok hf hb
  rw [(startE_ok hs).2] at h
  exact fspec_of_go ((envK_ok hm ht hG n).1 f) hm hf hb q1 q2 hr h
theorem go_last {P : Program} {E : EE} (hE : E.Ok) {n0 : Nat} {rs : List ResultVar} {n : Nat} {k : List Item} {σ : ES} {r : AV} (hi : σ.Inv) (h : outFE (runK P E rs n k σ) = some r) :
    Go P E.env n0 rs (fun r' s' => borrow s'.H r' = r ∧ r'.freshIn s'.H = true) k σ.toS := by
  unfold outFE at h
  split at h
  · rename_i r' σ' hc
    split at h
    · rename_i hnr
      cases h
      simp only [Bool.and_eq_true] at hnr
      exact go_mono (go_ofK hE hi hc).2 fun r' s'' hh => by obtain ⟨rfl, rfl⟩ := hh; exact ⟨rfl, hnr.1⟩
    · cases h
  · cases h
end Go.SX
