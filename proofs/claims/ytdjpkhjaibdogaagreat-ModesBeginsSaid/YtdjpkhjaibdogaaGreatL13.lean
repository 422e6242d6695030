/-
  Lemmas towards ModesBegins (joined texts: SYD, SYE).
  Conditions: none.
-/
import Derived.Test.YtdjpkhjaibdogaaGreatL12
namespace Go.SX
set_option linter.unusedSimpArgs false
set_option linter.unusedVariables false
structure PastE where
  at_ : Nat
  σ : ES
structure DidE where
  at_ : Nat
  o : Oper
  σ : ES
  T' : Tr AV
def PastE.toP (p : PastE) : Past := ⟨p.at_, p.σ.toS.H, p.σ.cnt⟩
def DidE.toD (d : DidE) : Did := ⟨d.at_, d.o, d.σ.toS.T, d.T'.toL .un d.σ.n⟩
def isPureE (isP : Nat → Bool) (φ : Operand → AV) (o : Op) : Bool :=
  match isCall o with
  | true => match targetE φ o with
    | some (g, _) => isP g
    | none => true
  | false => !isHeapOp o
theorem isPureE_eq (E : EE) (s : St) (o : Op) : isPureE E.isP (ev s.T) o = isPure E.env s o := by
  unfold isPureE isPure
  rw [targetE_eq]
  cases isCall o <;> rfl
def isVE (E : EE) (φ : Operand → AV) (o : Op) : Bool :=
  isCall o && match targetE φ o with
  | some (g, _) => E.vb g
  | none => false
theorem isVE_eq (E : EE) (s : St) (o : Op) : isVE E (ev s.T) o = isVop E.vb s o := by
  unfold isVE isVop
  rw [targetE_eq]
  rfl
noncomputable def sameE (P : Program) (E : EE) (all : Array Oper) (o : Oper) (T : Tr AV) (n : Nat) (T' : Tr AV) (H : Tr Blk) (hn c : Nat) : Bool :=
  match isPureE E.isP (evE ⟨T, n, H, hn, c⟩) o.op with
  | true => match opE P E all ⟨T, n, H, hn, c⟩ o false, o.dst with
    | some σ1, some d => match Nat.blt d n with
      | true => avE (σ1.T.get .un d) (T'.get .un d)
      | false => false
    | some _, none => true
    | none, _ => false
  | false => false
theorem sameE_ok {P : Program} {E : EE} (hE : E.Ok) {all : Array Oper} {o : Oper} {T T' : Tr AV} {n : Nat} {H : Tr Blk} {hn c : Nat} (hf : Tr.Fit H hn) (h : sameE P E all o T n T' H hn c = true) :
    sameB P E.env all o (T.toL .un n) (T'.toL .un n) (H.toL dead hn) c = true := by
  unfold sameE at h
  unfold sameB
  split at h
  · rename_i hp
    rw [evE_eq, isPureE_eq] at hp
    have hp : isPure E.env ⟨T.toL .un n, H.toL dead hn, c⟩ o.op = true := hp
    rw [hp, Bool.true_and]
    split at h
    · rename_i σ1 d h1 hd
      obtain ⟨q1, q2, q3⟩ := opE_ok hE (σ := ⟨T, n, H, hn, c⟩) hf h1
      have q2 : opStep P E.env all ⟨T.toL .un n, H.toL dead hn, c⟩ o = some σ1.toS := q2
      have q3 : σ1.n = n := q3
      rw [q2, hd]
      simp only
      split at h
      · rename_i hb
        rw [blt_eq] at hb
        have hb : d < n := by simpa using hb
        have e1 : σ1.toS.T.getD d .un = σ1.T.get .un d := by
          simp only [ES.toS, q3, List.getD_eq_getElem?_getD, Tr.toL_get, if_pos hb, Option.getD_some]
        have e2 : (T'.toL .un n).getD d .un = T'.get .un d := by
          simp only [List.getD_eq_getElem?_getD, Tr.toL_get, if_pos hb, Option.getD_some]
        rw [e1, e2]
        exact h
      · cases h
    · rename_i σ1 h1 hd
      obtain ⟨q1, q2, q3⟩ := opE_ok hE (σ := ⟨T, n, H, hn, c⟩) hf h1
      have q2 : opStep P E.env all ⟨T.toL .un n, H.toL dead hn, c⟩ o = some σ1.toS := q2
      rw [q2, hd]
    · cases h
  · cases h
noncomputable def chkPe (P : Program) (E : EE) (ops : Array Oper) (i : Nat) (o : Oper) (T : Tr AV) (n : Nat) (T' : Tr AV) : List PastE → Bool
  | [] => true
  | h :: r => (gB E.hb ops h.at_ i || (isVE E (evE ⟨T, n, .nil, 0, 0⟩) o.op || sameE P E ops o T n T' h.σ.H h.σ.hn h.σ.cnt)) && chkPe P E ops i o T n T' r
noncomputable def chkFe (P : Program) (E : EE) (ops : Array Oper) (k : Nat) (H : Tr Blk) (hn c : Nat) : List DidE → Bool
  | [] => true
  | d :: r => (gB E.hb ops d.at_ k || (isVE E (evE ⟨d.σ.T, d.σ.n, .nil, 0, 0⟩) d.o.op || sameE P E ops d.o d.σ.T d.σ.n d.T' H hn c)) && chkFe P E ops k H hn c r
noncomputable def bornE (κ : Nat → Bool) (ops : Array Oper) (i : Nat) (σ : ES) : Op → Bool
  | .buildSlice .. => gB κ ops i i || norefs (σ.H.get dead (σ.hn - 1)).els
  | _ => true
theorem chkPe_ok {P : Program} {E : EE} (hE : E.Ok) {ops : Array Oper} {i : Nat} {o : Oper} {T T' : Tr AV} {n : Nat} : ∀ {hs : List PastE}, (∀ h ∈ hs, h.σ.Inv) → chkPe P E ops i o T n T' hs = true →
    chkPb P E.env E.vb ops i o (T.toL .un n) (T'.toL .un n) (hs.map PastE.toP) = true
  | [], _, _ => rfl
  | h :: r, hi, hb => by
    simp only [chkPe, Bool.and_eq_true, Bool.or_eq_true] at hb
    simp only [List.map_cons, chkPb, Bool.and_eq_true, Bool.or_eq_true]
    refine ⟨hb.1.imp id fun q => q.imp (fun q => ?_) fun q => ?_, chkPe_ok hE (fun x hx => hi x (List.mem_cons_of_mem _ hx)) hb.2⟩
    · rw [evE_eq, isVE_eq] at q
      exact q
    · exact sameE_ok hE (hi h List.mem_cons_self) q
theorem chkFe_ok {P : Program} {E : EE} (hE : E.Ok) {ops : Array Oper} {k : Nat} {σ : ES} (hi : σ.Inv) : ∀ {ds : List DidE}, chkFe P E ops k σ.H σ.hn σ.cnt ds = true →
    chkFb P E.env E.vb ops k σ.toS.H σ.toS.cnt (ds.map DidE.toD) = true
  | [], _ => rfl
  | d :: r, hb => by
    simp only [chkFe, Bool.and_eq_true, Bool.or_eq_true] at hb
    simp only [List.map_cons, chkFb, Bool.and_eq_true, Bool.or_eq_true]
    refine ⟨hb.1.imp id fun q => q.imp (fun q => ?_) fun q => ?_, chkFe_ok hE hi hb.2⟩
    · rw [evE_eq, isVE_eq] at q
      exact q
    · exact sameE_ok hE hi q
theorem lastEls_get (H : Tr Blk) : ∀ {n : Nat}, 0 < n → lastEls (H.toL dead n) = (H.get dead (n - 1)).els
  | n + 1, _ => by
    have : H.toL dead (n + 1) = H.toL dead n ++ [H.get dead n] := by
      simp only [Tr.toL, List.range_succ, List.map_append, List.map_cons, List.map_nil]
    rw [this, lastEls_append]
    rfl
noncomputable def retE (P : Program) (σ : ES) : List ResultVar → Option (List AV)
  | [] => some []
  | .tmp t :: r => match retE P σ r with
    | some l => some (evE σ (.tmp t) :: l)
    | none => none
  | .cell t ty :: r => match rvalF P (evE σ) (liveG (gE σ)) (.load ty (.tmp t)) with
    | some v => match retE P σ r with
      | some l => some (v :: l)
      | none => none
    | none => none
theorem retE_eq {P : Program} {σ : ES} : ∀ {rs : List ResultVar} {vs : List AV}, retE P σ rs = some vs → retVal P σ.toS rs = some vs
  | [], vs, h => h
  | .tmp t :: r, vs, h => by
    simp only [retE] at h
    split at h
    · rename_i l hl
      cases h
      simp only [retVal, retE_eq hl, Option.map_some, evE_eq]
      rfl
    · cases h
  | .cell t ty :: r, vs, h => by
    simp only [retE] at h
    split at h
    · rename_i v hv
      rw [evE_eq, liveE_eq] at hv
      have hv := rvalF_ok hv
      split at h
      · rename_i l hl
        cases h
        simp only [retVal, hv, retE_eq hl, Option.map_some]
      · cases h
    · cases h
structure TabE where
  ok : Nat → Bool
  isP : Nat → Bool
  hcl : Nat → Bool
  lit : Nat → Bool
  perm : Nat → Nat → Option (List Nat)
  keep : Nat → Bool
  isV : Nat → Bool
  givP : Nat → Bool
  givV : Nat → Bool
  givH : Nat → Bool
  givF : Nat → Bool
noncomputable def truncE : Nat → Tr Blk → Nat → Option (Tr Blk × Nat)
  | 0, H, n => some (H, n)
  | k + 1, H, n => match n with
    | 0 => none
    | m + 1 => match H.pop m with
      | some H' => truncE k H' m
      | none => none
noncomputable def outE (keep : Bool) (n : Nat) : Option (AV × ES) → Option (AV × Tr Blk × Nat × Nat)
  | some (r, σ) => match keep with
    | true => some (r, σ.H, σ.hn, σ.cnt)
    | false => match truncE (σ.hn - n) σ.H σ.hn with
      | some (H', n') => some (r, H', n', σ.cnt)
      | none => none
  | none => none
noncomputable def outPE : Option (AV × ES) → Option AV
  | some (r, _) => match okc r with
    | true => some r
    | false => none
  | none => none
noncomputable def givT (G : Giv) (f : Nat) (args : List AV) (H : Tr Blk) (hn cnt : Nat) : Option (AV × Tr Blk × Nat × Nat) :=
  match G.h f args (H.toL dead hn) cnt with
  | some (r, H', c') => some (r, Tr.ofL dead H', H'.length, c')
  | none => none
def eeOf (t : TabE) (p v : Nat → List AV → Option AV) (h : Nat → List AV → Tr Blk → Nat → Nat → Option (AV × Tr Blk × Nat × Nat)) (f : Nat) : EE := ⟨t.isP, t.isV, p, v, h, t.lit f, t.perm f, t.hcl⟩
noncomputable def outVE : Option (AV × ES) → Option AV
  | some (r, σ) => match (dB 60 (σ.H.toL dead σ.hn) r).noref with
    | true => some (dB 60 (σ.H.toL dead σ.hn) r)
    | false => none
  | none => none
def TabEOk (P : Program) (t : TabE) : Prop := ∀ f fn c, t.ok f = true → P.funcs[f]? = some fn → fn.body = some c →
  (fn.name == "runtime.NumGoroutine") = false ∧ lexAll (fun g => t.hcl g && !t.isP g) (t.perm f) c = true
theorem truncE_ok : ∀ {k : Nat} {H H' : Tr Blk} {n n' : Nat}, Tr.Fit H n → truncE k H n = some (H', n') → Tr.Fit H' n' ∧ n' + k = n ∧ H'.toL dead n' = (H.toL dead n).take n'
  | 0, H, H', n, n', hf, h => by
    simp only [truncE, Option.some.injEq, Prod.mk.injEq] at h
    obtain ⟨rfl, rfl⟩ := h
    exact ⟨hf, rfl, by rw [List.take_of_length_le (by rw [Tr.toL_len]; exact Nat.le_refl _)]⟩
  | k + 1, H, H', n, n', hf, h => by
    cases n with
    | zero => simp [truncE] at h
    | succ m =>
      simp only [truncE] at h
      split at h
      · rename_i H1 h1
        obtain ⟨f1, f2, f3⟩ := truncE_ok (Tr.pop_ok dead hf h1).2 h
        refine ⟨f1, by omega, ?_⟩
        rw [f3, Tr.toL_pop hf h1, List.take_take, Nat.min_eq_left (by omega)]
      · cases h
end Go.SX

namespace Go.SX
set_option linter.unusedSimpArgs false
set_option linter.unusedVariables false
noncomputable def el {α : Type} {β : Type} (x : Option α) (z : β) (f : α → β) : β := Option.rec (motive := fun _ => β) z f x
noncomputable def bB {β : Type} (b : Bool) (f t : β) : β := Bool.rec (motive := fun _ => β) f t b
theorem el_none {α β : Type} (z : β) (f : α → β) : el none z f = z := rfl
theorem el_some {α β : Type} (a : α) (z : β) (f : α → β) : el (some a) z f = f a := rfl
theorem bB_true {β : Type} (f t : β) : bB true f t = t := rfl
theorem bB_false {β : Type} (f t : β) : bB false f t = f := rfl
namespace Tr
noncomputable def setK {α R : Type} (x : α) (z : R) (p : Pth) : Tr α → (Tr α → R) → R :=
  Pth.rec (motive := fun _ => Tr α → (Tr α → R) → R) (fun t c => Tr.rec (motive := fun _ => R) z (fun _ l r _ _ => c (.node x l r)) t)
    (fun _ ih t c => Tr.rec (motive := fun _ => R) z (fun v l r _ _ => ih l (fun l' => c (.node v l' r))) t)
    (fun _ ih t c => Tr.rec (motive := fun _ => R) z (fun v l r _ _ => ih r (fun r' => c (.node v l r'))) t) p
theorem setK_eq {α R : Type} (x : α) (z : R) : ∀ (p : Pth) (t : Tr α) (c : Tr α → R), setK x z p t c = el (setP x p t) z c
  | .z, t, c => by cases t <;> rfl
  | .o p, .nil, c => rfl
  | .e p, .nil, c => rfl
  | .o p, .node v l r, c => by
    show setK x z p l (fun l' => c (.node v l' r)) = _
    rw [setK_eq x z p l]
    show _ = el (Option.rec (motive := fun _ => Option (Tr α)) none (fun l' => some (.node v l' r)) (setP x p l)) z c
    cases setP x p l <;> rfl
  | .e p, .node v l r, c => by
    show setK x z p r (fun r' => c (.node v l r')) = _
    rw [setK_eq x z p r]
    show _ = el (Option.rec (motive := fun _ => Option (Tr α)) none (fun r' => some (.node v l r')) (setP x p r)) z c
    cases setP x p r <;> rfl
end Tr
structure VFn where
  get : ES → AV
noncomputable def evC (x : Operand) : VFn :=
  match x with
  | .tmp t => ⟨fun σ => bB (Nat.blt t σ.n) .un (Tr.getP .un (pth t) σ.T)⟩
  | .const v => ⟨fun _ => ofV v⟩
  | .global _ => ⟨fun _ => .jk⟩
  | .func f => ⟨fun _ => .fn f []⟩
theorem evC_eq (x : Operand) (σ : ES) : (evC x).get σ = evE σ x := by
  cases x with
  | tmp t => simp only [evC, evE]; cases Nat.blt t σ.n <;> rfl
  | _ => rfl
noncomputable def evK (σ : ES) (x : Operand) : AV := (evC x).get σ
theorem evK_eq (σ : ES) : evK σ = evE σ := funext fun x => evC_eq x σ
noncomputable def gK (σ : ES) (id : Nat) : Option Blk := bB (Nat.blt id σ.hn) none (some (Tr.getN dead σ.H id))
theorem gK_eq (σ : ES) : gK σ = gE σ := by
  funext id
  simp only [gK, gE]
  cases Nat.blt id σ.hn <;> rfl
noncomputable def lbK (σ : ES) (id ver : Nat) : Option Blk :=
  el (gK σ id) none (fun B => bB (B.live && Nat.beq B.ver ver) none (some B))
theorem lbK_eq (σ : ES) : lbK σ = liveG (gE σ) := by
  funext id ver
  simp only [lbK, liveG, gK_eq]
  cases gE σ id with
  | none => rfl
  | some B =>
    simp only [el_some]
    cases B.live && Nat.beq B.ver ver <;> rfl
structure PFn where
  put : {R : Type} → AV → ES → R → (ES → R) → R
noncomputable def putC (d : Option Nat) : PFn :=
  match d with
  | none => ⟨fun _ σ _ c => c σ⟩
  | some d => ⟨fun {R} v σ z c => ES.rec (motive := fun _ => R) (fun T n H hn cnt => Tr.setK v z (pth d) T (fun T' => c ⟨T', n, H, hn, cnt⟩)) σ⟩
noncomputable def fN {R : Type} (n : Nat) (c : Nat → R) : R := Nat.rec (motive := fun _ => R) (c 0) (fun k _ => c (Nat.succ k)) n
theorem fN_eq {R : Type} (n : Nat) (c : Nat → R) : fN n c = c n := by cases n <;> rfl
noncomputable def fT {α R : Type} (t : Tr α) (c : Tr α → R) : R := Tr.rec (motive := fun _ => R) (c .nil) (fun v l r _ _ => c (.node v l r)) t
theorem fT_eq {α R : Type} (t : Tr α) (c : Tr α → R) : fT t c = c t := by cases t <;> rfl
def putF (σ : ES) (d : Option Nat) (v : AV) : Option ES :=
  match d with
  | none => some σ
  | some d => match σ.T.set d v with
    | some T' => some ⟨T', σ.n, σ.H, σ.hn, σ.cnt⟩
    | none => none
theorem frc_some (a : AV) : frc a = some a := by
  unfold frc
  repeat' split
  all_goals first | rfl | simp_all
theorem putF_eq (σ : ES) (d : Option Nat) (v : AV) : putE σ d v = putF σ d v := by
  unfold putE putF
  cases d with
  | none => rfl
  | some d => simp only [frc_some, Tr.setP_eq] <;> rfl
theorem putC_eq {R : Type} (d : Option Nat) (v : AV) (σ : ES) (z : R) (c : ES → R) : (putC d).put v σ z c = el (putE σ d v) z c := by
  rw [putF_eq]
  cases d with
  | none => rfl
  | some d =>
    simp only [putC, putF, Tr.setK_eq, Tr.setP_eq]
    cases σ.T.set d v <;> rfl
def asI (u : AV) : Option Int :=
  match u with
  | .sc (.int .i64 n) => some n
  | _ => none
def asB (u : AV) : Option Int :=
  match u with
  | .sc (.int .u8 n) => some n
  | _ => none
def asS (u : AV) : Option (List UInt8) :=
  match u with
  | .sc (.string b) => some b.data.toList
  | _ => none
def asN (n : Int) : Option Nat :=
  match n with
  | .ofNat m => some m
  | _ => none
noncomputable def mkN (m : Nat) : Option AV :=
  Nat.rec (motive := fun _ => Option AV) (some (.sc (.int .i64 (.ofNat 0)))) (fun k _ => some (.sc (.int .i64 (.ofNat (Nat.succ k))))) m
theorem mkN_eq (m : Nat) : mkN m = some (.sc (.int .i64 (.ofNat m))) := by cases m <;> rfl
structure BFn where
  run : AV → AV → Option AV
noncomputable def cmpK (f : Int → Int → Bool) : BFn :=
  ⟨fun u v => el (asI u) (el (asB u) none (fun a => el (asB v) none (fun b => some (.sc (.bool (f a b)))))) (fun a => el (asI v) none (fun b => some (.sc (.bool (f a b)))))⟩
noncomputable def strK (f : List UInt8 → List UInt8 → Bool) (g : BFn) : BFn :=
  ⟨fun u v => el (asS u) (g.run u v) (fun a => el (asS v) none (fun b => some (.sc (.bool (f a b)))))⟩
noncomputable def qC (op : BinOp) : BFn :=
  match op with
  | .lss => cmpK fun a b => not (leI b a)
  | .leq => cmpK fun a b => leI a b
  | .gtr => cmpK fun a b => not (leI a b)
  | .geq => cmpK fun a b => leI b a
  | .eql => strK eqBy (cmpK eqI)
  | .neq => strK (fun a b => not (eqBy a b)) (cmpK fun a b => not (eqI a b))
  | .add => ⟨fun u v => el (asI u) none (fun a => el (asI v) none (fun b => el (asN a) none (fun m => el (asN b) none (fun n => bB (Nat.blt (Nat.add m n) 9223372036854775808) none (mkN (Nat.add m n))))))⟩
  | .sub => ⟨fun u v => el (asI u) none (fun a => el (asI v) none (fun b => el (asN a) none (fun m => el (asN b) none (fun n => bB (Nat.blt m 9223372036854775808 && Nat.ble n m) none (mkN (Nat.sub m n))))))⟩
  | _ => ⟨fun _ _ => none⟩
theorem asI_eq {u : AV} {n : Int} (h : asI u = some n) : u = .sc (.int .i64 n) := by
  unfold asI at h
  split at h
  · cases h; rfl
  · cases h
theorem asB_eq {u : AV} {n : Int} (h : asB u = some n) : u = .sc (.int .u8 n) := by
  unfold asB at h
  split at h
  · cases h; rfl
  · cases h
theorem asS_eq {u : AV} {l : List UInt8} (h : asS u = some l) : ∃ b : ByteArray, u = .sc (.string b) ∧ b.data.toList = l := by
  unfold asS at h
  split at h
  · rename_i b; cases h; exact ⟨b, rfl, rfl⟩
  · cases h
theorem asN_eq {n : Int} {m : Nat} (h : asN n = some m) : n = .ofNat m := by
  unfold asN at h
  split at h
  · cases h; rfl
  · cases h
theorem el_cases {α β : Type} {x : Option α} {z : Option β} {f : α → Option β} {r : β} (h : el x z f = some r) : (x = none ∧ z = some r) ∨ ∃ a, x = some a ∧ f a = some r := by
  cases x with
  | none => exact .inl ⟨rfl, h⟩
  | some a => exact .inr ⟨a, rfl, h⟩
theorem el_no {α β : Type} {x : Option α} {f : α → Option β} {r : β} (h : el x none f = some r) : ∃ a, x = some a ∧ f a = some r := by
  cases x with
  | none => cases h
  | some a => exact ⟨a, rfl, h⟩
theorem bB_no {β : Type} {b : Bool} {t : Option β} {r : β} (h : bB b none t = some r) : b = true ∧ t = some r := by
  cases b with
  | false => cases h
  | true => exact ⟨rfl, h⟩
theorem cmpK_ok {f : Int → Int → Bool} {op : BinOp} (hf : ∀ k a b, qI op k a b = some (.sc (.bool (f a b)))) {u v r : AV} (h : (cmpK f).run u v = some r) : qBin op u v = some r := by
  rcases el_cases h with ⟨_, h⟩ | ⟨a, ha, h⟩
  · obtain ⟨a, ha, h⟩ := el_no h
    obtain ⟨b, hb, h⟩ := el_no h
    rw [asB_eq ha, asB_eq hb, ← h]
    exact hf .u8 a b
  · obtain ⟨b, hb, h⟩ := el_no h
    rw [asI_eq ha, asI_eq hb, ← h]
    exact hf .i64 a b
theorem qC_ok {op : BinOp} {u v r : AV} (h : (qC op).run u v = some r) : qBin op u v = some r := by
  cases op
  case lss => exact cmpK_ok (op := .lss) (fun k a b => rfl) h
  case leq => exact cmpK_ok (op := .leq) (fun k a b => rfl) h
  case gtr => exact cmpK_ok (op := .gtr) (fun k a b => rfl) h
  case geq => exact cmpK_ok (op := .geq) (fun k a b => rfl) h
  case eql =>
    rcases el_cases h with ⟨_, h⟩ | ⟨a, ha, h⟩
    · exact cmpK_ok (op := .eql) (fun k a b => rfl) h
    · obtain ⟨b, hb, h⟩ := el_no h
      obtain ⟨a', rfl, rfl⟩ := asS_eq ha
      obtain ⟨b', rfl, rfl⟩ := asS_eq hb
      rw [← h]; rfl
  case neq =>
    rcases el_cases h with ⟨_, h⟩ | ⟨a, ha, h⟩
    · exact cmpK_ok (op := .neq) (fun k a b => rfl) h
    · obtain ⟨b, hb, h⟩ := el_no h
      obtain ⟨a', rfl, rfl⟩ := asS_eq ha
      obtain ⟨b', rfl, rfl⟩ := asS_eq hb
      rw [← h]; rfl
  case add =>
    obtain ⟨a, ha, h⟩ := el_no h
    obtain ⟨b, hb, h⟩ := el_no h
    obtain ⟨m, hm, h⟩ := el_no h
    obtain ⟨n, hn, h⟩ := el_no h
    obtain ⟨hc, h5⟩ := bB_no h
    rw [mkN_eq] at h5
    have e1 := asN_eq hm
    have e2 := asN_eq hn
    subst e1 e2
    cases h5
    rw [asI_eq ha, asI_eq hb]
    show (match Nat.blt (Nat.add m n) 9223372036854775808 with | true => _ | false => none) = _
    rw [hc]
  case sub =>
    obtain ⟨a, ha, h⟩ := el_no h
    obtain ⟨b, hb, h⟩ := el_no h
    obtain ⟨m, hm, h⟩ := el_no h
    obtain ⟨n, hn, h⟩ := el_no h
    obtain ⟨hc, h5⟩ := bB_no h
    rw [mkN_eq] at h5
    have e1 := asN_eq hm
    have e2 := asN_eq hn
    subst e1 e2
    cases h5
    rw [asI_eq ha, asI_eq hb]
    show (match Nat.blt m 9223372036854775808 && Nat.ble n m with | true => _ | false => none) = _
    rw [hc]
  all_goals cases h
def isStrT (P : Program) (t : TypeId) : Bool :=
  match P.underlying t with
  | some .string => match tyD P t with
    | some d => d.el.isNone && d.len.isNone
    | none => false
  | _ => false
theorem isStrT_ok {P : Program} {t : TypeId} (h : isStrT P t = true) : P.underlying t = some .string ∧ ∃ d, tyD P t = some d ∧ d.el = none ∧ d.len = none := by
  unfold isStrT at h
  split at h
  · rename_i hu
    split at h
    · rename_i d hd
      simp only [Bool.and_eq_true, Option.isNone_iff_eq_none] at h
      exact ⟨hu, d, hd, h.1, h.2⟩
    · cases h
  · cases h
noncomputable def nthB (l : List UInt8) : Nat → Option UInt8 :=
  List.rec (motive := fun _ => Nat → Option UInt8) (fun _ => none) (fun b _ ih n => Nat.rec (motive := fun _ => Option UInt8) (some b) (fun k _ => ih k) n) l
theorem nthB_eq : ∀ (l : List UInt8) (n : Nat), nthB l n = l[n]?
  | [], n => by cases n <;> rfl
  | b :: l, 0 => rfl
  | b :: l, n + 1 => by
    show nthB l n = _
    rw [nthB_eq l n]
    simp
noncomputable def mkU (m : Nat) : Option AV :=
  Nat.rec (motive := fun _ => Option AV) (some (.sc (.int .u8 (.ofNat 0)))) (fun k _ => some (.sc (.int .u8 (.ofNat (Nat.succ k))))) m
theorem mkU_eq (m : Nat) : mkU m = some (.sc (.int .u8 (.ofNat m))) := by cases m <;> rfl
noncomputable def idxS (u v : AV) : Option AV :=
  el (asS u) none fun l => el (asI v) none fun n => el (asN n) none fun m => el (nthB l m) none fun b => mkU b.toNat
theorem idxS_ok {P : Program} {s : St} {t : TypeId} {x i : Operand} {r : AV} (ht : isStrT P t = true) (h : idxS (ev s.T x) (ev s.T i) = some r) : rval P s (.index t x i) = some r := by
  obtain ⟨l, hl, g1⟩ := el_no h
  obtain ⟨n, hn, g2⟩ := el_no g1
  obtain ⟨m, hm, g3⟩ := el_no g2
  obtain ⟨b, hb, g4⟩ := el_no g3
  rw [mkU_eq] at g4
  rw [nthB_eq] at hb
  obtain ⟨bs, hbs, rfl⟩ := asS_eq hl
  have hi := asI_eq hn
  have e := asN_eq hm
  subst e
  obtain ⟨hu, d, hd, h1, h2⟩ := isStrT_ok ht
  have key : spure P (Instr.index t (.string bs) (.int .i64 (.ofNat m))) = some (.int .u8 b.toNat) := by
    unfold spure Instr.index
    simp only [rd_bind, asIntOf, rd_pure, Option.bind_some, rd_underlying, hu]
    have h0 : (0 : Int) ≤ Int.ofNat m := Int.natCast_nonneg m
    rw [if_pos h0]
    have e2 : (Int.ofNat m).toNat = m := rfl
    rw [e2]
    have e3 : bs[m]? = some b := by
      have hlt : m < bs.data.toList.length := (List.getElem?_eq_some_iff.1 hb).1
      have hlt' : m < bs.size := hlt
      have h5 := (List.getElem?_eq_some_iff.1 hb).2
      rw [getElem?_pos bs m hlt']
      rw [← h5]
      rfl
    rw [e3]
    rfl
  simp only [rval, hd, h1, h2, hbs, hi, conc, key]
  rw [← g4]
  rfl
noncomputable def bndS (φ : Operand → AV) (x : Option Operand) (dflt : Nat) : Option Nat :=
  match x with
  | none => some dflt
  | some x => el (asI (φ x)) none asN
noncomputable def sliS (φ : Operand → AV) (u : AV) (lo hi : Option Operand) : Option AV :=
  el (asS u) none fun l => el (bndS φ hi l.length) none fun b => el (bndS φ lo 0) none fun a =>
    bB (Nat.ble b l.length && Nat.ble a b) none (some (.sc (.string ⟨⟨(l.drop a).take (Nat.sub b a)⟩⟩)))
theorem bndS_none {φ : Operand → AV} {d a : Nat} (h : bndS φ none d = some a) : a = d := by cases h; rfl
theorem bndS_some {φ : Operand → AV} {x : Operand} {d a : Nat} (h : bndS φ (some x) d = some a) : φ x = .sc (.int .i64 (.ofNat a)) := by
  obtain ⟨n, hn, g1⟩ := el_no h
  rw [asI_eq hn, asN_eq g1]
theorem sliS_ok {P : Program} {s : St} {t : TypeId} {x : Operand} {lo hi : Option Operand} {r : AV} (ht : isStrT P t = true) (h : sliS (ev s.T) (ev s.T x) lo hi = some r) : rval P s (.slice t x lo hi none) = some r := by
  obtain ⟨l, hl, g1⟩ := el_no h
  obtain ⟨b, hb, g2⟩ := el_no g1
  obtain ⟨a, ha, g3⟩ := el_no g2
  obtain ⟨hc, g4⟩ := bB_no g3
  simp only [Bool.and_eq_true] at hc
  have c1 := Nat.le_of_ble_eq_true hc.1
  have c2 := Nat.le_of_ble_eq_true hc.2
  obtain ⟨bs, hbs, rfl⟩ := asS_eq hl
  obtain ⟨hu, d, hd, h1, h2⟩ := isStrT_ok ht
  have c1 : b ≤ bs.size := c1
  have concs : ∀ {y : Option Operand} {dflt c : Nat}, bndS (ev s.T) y dflt = some c → ∃ v, concO s.T y = some v ∧ ((y = none ∧ v = none ∧ c = dflt) ∨ v = some (.int .i64 (.ofNat c))) := by
    intro y dflt c hy
    cases y with
    | none => exact ⟨none, rfl, .inl ⟨rfl, rfl, bndS_none hy⟩⟩
    | some y => exact ⟨some (.int .i64 (.ofNat c)), by simp only [concO, bndS_some hy, conc], .inr rfl⟩
  obtain ⟨vh, kh, kh2⟩ := concs hb
  obtain ⟨vl, kl, kl2⟩ := concs ha
  have bnd : ∀ (c n : Nat) (code : BoundsCode), c ≤ n → rd P (Instr.sliceBound (.int .i64 (c : Int)) n code) default = some c := by
    intro c n code hcn
    have := (bound_ok (P := P) (w := default) (n := Int.ofNat c) (hi := n) (hi' := n) (r := c) (by
      unfold bound
      have h0 : (0 : Int) ≤ Int.ofNat c := Int.natCast_nonneg c
      have h1 : Int.ofNat c ≤ (n : Int) := Int.ofNat_le.2 hcn
      rw [if_pos ⟨h0, h1⟩]; rfl) (Nat.le_refl n) .i64 code).1
    exact this
  have key : spure P (Instr.sliceAt t (.string bs) vl vh none) = some (.string (bs.extract a b)) := by
    unfold spure Instr.sliceAt
    simp only [rd_bind, rd_underlying, hu, Option.bind_some]
    unfold Instr.slice
    simp only [rd_bind, rd_underlying, hu, Option.bind_some]
    have hb2 : rd P (Instr.sliceBounds false bs.size bs.size vl vh none) default = some (a, b, bs.size) := by
      unfold Instr.sliceBounds
      rcases kh2 with ⟨_, rfl, hbd⟩ | rfl
      · have hbd : b = bs.size := hbd
        subst hbd
        rcases kl2 with ⟨_, rfl, rfl⟩ | rfl
        · simp [rd_bind, rd_pure]
        · simp [rd_bind, rd_pure, rd_map, bnd a _ .sliceB c2]
      · rcases kl2 with ⟨_, rfl, rfl⟩ | rfl
        · simp [rd_bind, rd_pure, rd_map, bnd b _ .sliceAlen c1]
        · simp [rd_bind, rd_pure, rd_map, bnd b _ .sliceAlen c1, bnd a _ .sliceB c2]
    simp only [Option.isSome_none, Bool.false_eq_true, if_false, rd_bind, hb2, Option.bind_some, rd_pure]
  simp only [rval, hd, h1, h2, hbs, conc, kl, kh, key, show concO s.T none = some none from rfl]
  rw [← g4]
  have e : bs.extract a b = ⟨⟨(bs.data.toList.drop a).take (Nat.sub b a)⟩⟩ := by
    have e1 : (bs.extract a b).data = bs.data.extract a b := by simp
    have e2 : (bs.data.extract a b).toList = (bs.data.toList.drop a).take (b - a) := by simp
    cases hx : bs.extract a b with
    | mk dd =>
      rw [hx] at e1
      simp only at e1
      subst e1
      cases hy : bs.data.extract a b with
      | mk ll =>
        rw [hy] at e2
        simp only at e2
        rw [e2]
        rfl
  rw [e]
  rfl
def asC (u : AV) : Option Int :=
  match u with
  | .sc (.int _ n) => some n
  | _ => none
noncomputable def cnv64 (u : AV) : Option AV := el (asC u) none fun n => el (asN n) none fun m => bB (Nat.blt m 9223372036854775808) none (mkN m)
noncomputable def cnv8 (u : AV) : Option AV := el (asC u) none fun n => el (asN n) none fun m => bB (Nat.blt m 256) none (mkU m)
theorem asC_eq {u : AV} {n : Int} (h : asC u = some n) : ∃ k, u = .sc (.int k n) := by
  unfold asC at h
  split at h
  · rename_i k n; cases h; exact ⟨k, rfl⟩
  · cases h
theorem wrap_u8 {n : Int} (h : 0 ≤ n ∧ n ≤ 255) : IntKind.u8.wrap n = n := by
  simp only [IntKind.wrap, IntKind.bits, IntKind.signed]
  simp
  omega
theorem cnv64_ok {P : Program} {src dst : TypeId} {ks : IntKind} {u r : AV} (h1 : P.underlying src = some (.int ks)) (h2 : P.underlying dst = some (.int .i64)) (h : cnv64 u = some r) : cvX P src dst u (P.underlying src) (P.underlying dst) = some r := by
  obtain ⟨n, hn, g1⟩ := el_no h
  obtain ⟨m, hm, g2⟩ := el_no g1
  obtain ⟨hc, g3⟩ := bB_no g2
  obtain ⟨k, rfl⟩ := asC_eq hn
  have e := asN_eq hm
  subst e
  rw [mkN_eq] at g3
  rw [h1, h2, cvX_int, ← g3, wrap_in]
  rw [Nat.blt_eq] at hc
  have : Int.ofNat m = (m : Int) := rfl
  rw [this]; omega
theorem cnv8_ok {P : Program} {src dst : TypeId} {ks : IntKind} {u r : AV} (h1 : P.underlying src = some (.int ks)) (h2 : P.underlying dst = some (.int .u8)) (h : cnv8 u = some r) : cvX P src dst u (P.underlying src) (P.underlying dst) = some r := by
  obtain ⟨n, hn, g1⟩ := el_no h
  obtain ⟨m, hm, g2⟩ := el_no g1
  obtain ⟨hc, g3⟩ := bB_no g2
  obtain ⟨k, rfl⟩ := asC_eq hn
  have e := asN_eq hm
  subst e
  rw [mkU_eq] at g3
  rw [h1, h2, cvX_int, ← g3, wrap_u8]
  rw [Nat.blt_eq] at hc
  have : Int.ofNat m = (m : Int) := rfl
  rw [this]; omega
noncomputable def lenS (u : AV) : Option AV := el (asS u) none fun l => mkN l.length
theorem lenS_ok {P : Program} {s : St} {t : TypeId} {x : Operand} {args : Array Operand} {ats : Array TypeId} {r : AV} (ha : args = #[x]) (hat : ats = #[t]) (ht : isStrT P t = true) (h : lenS (ev s.T x) = some r) :
    rval P s (.call ⟨.builtin .len, args, ats⟩) = some r := by
  subst ha hat
  obtain ⟨l, hl, g1⟩ := el_no h
  rw [mkN_eq] at g1
  obtain ⟨bs, hbs, rfl⟩ := asS_eq hl
  obtain ⟨hu, d, hd, h1, h2⟩ := isStrT_ok ht
  have key : spure P (Builtin.len_ #[t] 0 #[.string bs]) = some (.int .i64 (bs.size : Int)) := by
    unfold spure Builtin.len_
    simp only [List.getElem?_toArray, List.getElem?_cons_zero, rd_bind, rd_underlying, hu, Option.bind_some]
    rfl
  simp only [rval, hd, h1, h2, hbs, conc, key]
  rw [← g1]
  rfl
structure WFn where
  run : ES → Option AV
noncomputable def genC (P : Program) (o : Op) : WFn := ⟨fun σ => (rvalC P o).run (evK σ) (lbK σ)⟩
noncomputable def valC (P : Program) (o : Op) : WFn :=
  match o with
  | .binOp op t x y ty => ⟨fun σ => el ((qC op).run (evK σ x) (evK σ y)) ((genC P o).run σ) some⟩
  | .move x => ⟨fun σ => some (evK σ x)⟩
  | .assign x => ⟨fun σ => some (evK σ x)⟩
  | .index t x i => match isStrT P t with
    | true => ⟨fun σ => el (idxS (evK σ x) (evK σ i)) ((genC P o).run σ) some⟩
    | false => genC P o
  | .slice t x lo hi none => match isStrT P t with
    | true => ⟨fun σ => el (sliS (evK σ) (evK σ x) lo hi) ((genC P o).run σ) some⟩
    | false => genC P o
  | .convert src dst x => match P.underlying src with
    | some (.int ks) => match P.underlying dst with
      | some (.int .i64) => ⟨fun σ => el (cnv64 (evK σ x)) ((genC P o).run σ) some⟩
      | some (.int .u8) => ⟨fun σ => el (cnv8 (evK σ x)) ((genC P o).run σ) some⟩
      | _ => genC P o
    | _ => genC P o
  | .call ⟨.builtin .len, ⟨[x]⟩, ⟨[t]⟩⟩ => match isStrT P t with
    | true => ⟨fun σ => el (lenS (evK σ x)) ((genC P o).run σ) some⟩
    | false => genC P o
  | _ => genC P o
theorem valC_ok {P : Program} {o : Op} {σ : ES} {v : AV} (h : (valC P o).run σ = some v) : rval P σ.toS o = some v := by
  have hall : (genC P o).run σ = some v → rval P σ.toS o = some v := by
    intro h
    have h : (rvalC P o).run (evK σ) (lbK σ) = some v := h
    rw [rvalC_eq, evK_eq, lbK_eq, evE_eq, liveE_eq] at h
    exact rvalF_ok h
  unfold valC at h
  split at h
  · rename_i op t x y ty
    rcases el_cases h with ⟨_, h⟩ | ⟨r, hr, h⟩
    · exact hall h
    · cases h
      have := qBin_ok (P := P) t x y (qC_ok hr)
      rw [evK_eq, evE_eq] at this
      rw [rval_binOp, qBin_nilV _ (by have := qC_ok hr; rw [evK_eq, evE_eq] at this; exact this)]
      exact this
  · refine hall ?_; exact h
  · refine hall ?_; exact h
  · split at h
    · rename_i ht
      rcases el_cases h with ⟨_, h⟩ | ⟨r, hr, h⟩
      · exact hall h
      · cases h
        rw [evK_eq, evE_eq] at hr
        exact idxS_ok ht hr
    · exact hall h
  · split at h
    · rename_i ht
      rcases el_cases h with ⟨_, h⟩ | ⟨r, hr, h⟩
      · exact hall h
      · cases h
        rw [evK_eq, evE_eq] at hr
        exact sliS_ok ht hr
    · exact hall h
  · split at h
    · rename_i h1
      split at h
      · rename_i h2
        rcases el_cases h with ⟨_, h⟩ | ⟨r, hr, h⟩
        · exact hall h
        · cases h
          rw [evK_eq, evE_eq] at hr
          rw [rval_convert]
          exact cnv64_ok h1 h2 hr
      · rename_i h2
        rcases el_cases h with ⟨_, h⟩ | ⟨r, hr, h⟩
        · exact hall h
        · cases h
          rw [evK_eq, evE_eq] at hr
          rw [rval_convert]
          exact cnv8_ok h1 h2 hr
      · exact hall h
    · exact hall h
  · split at h
    · rename_i ht
      rcases el_cases h with ⟨_, h⟩ | ⟨r, hr, h⟩
      · exact hall h
      · cases h
        rw [evK_eq, evE_eq] at hr
        exact lenS_ok rfl rfl ht hr
    · exact hall h
  · exact hall h
structure OFn where
  run : {R : Type} → Bool → EE → ES → R → (ES → R) → R
def OFn.Ok (P : Program) (f : OFn) (s : Bool → Env → St → Option St) : Prop :=
  ∀ (R : Type) (lt : Bool) (E : EE) (σ : ES) (z r : R) (c : ES → R), E.Ok → σ.Inv → f.run lt E σ z c = r → r = z ∨ ∃ σ', σ'.Inv ∧ σ'.n = σ.n ∧ s lt E.env σ.toS = some σ'.toS ∧ c σ' = r
noncomputable def hpK {R : Type} (P : Program) (o : Op) (p : PFn) (σ : ES) (z : R) (c : ES → R) : R :=
  el ((hactC P o).run (evK σ) (gK σ) σ.hn σ.cnt) z fun q => ES.rec (motive := fun _ => R) (fun T n H hn _ =>
    el (popT q.2.1 H hn) z fun H1 =>
      HA.rec (motive := fun _ => R)
        (fun b => el (H1.push (popN q.2.1 hn) b) z fun H2 => fN (popN q.2.1 hn + 1) fun m => fN q.2.2.2 fun cnt => fT H2 fun H2 => p.put q.1 ⟨T, n, H2, m, cnt⟩ z c)
        (fun id b => el (Tr.setN b H1 id) z fun H2 => fN (popN q.2.1 hn) fun m => fN q.2.2.2 fun cnt => fT H2 fun H2 => p.put q.1 ⟨T, n, H2, m, cnt⟩ z c) q.2.2.1) σ
theorem hpK_eq {R : Type} (P : Program) (o : Op) (dst : Option Nat) (σ : ES) (z : R) (c : ES → R) : hpK P o (putC dst) σ z c = el (heapE P σ o dst) z c := by
  unfold hpK heapE
  rw [hactC_eq, evK_eq, gK_eq]
  cases hactE P (evE σ) (gE σ) σ.hn σ.cnt o with
  | none => rfl
  | some q =>
    obtain ⟨v, p, a, k⟩ := q
    obtain ⟨T, n, H, hn, cnt⟩ := σ
    simp only [el_some, fN_eq, fT_eq]
    cases popT p H hn with
    | none => rfl
    | some H1 =>
      simp only [el_some]
      cases a with
      | push b =>
        simp only
        cases H1.push (popN p hn) b with
        | none => rfl
        | some H2 => simp only [el_some, putC_eq]
      | put id b =>
        simp only
        cases Tr.setN b H1 id with
        | none => rfl
        | some H2 => simp only [el_some, putC_eq]
noncomputable def lpK {R : Type} (P : Program) (o : Op) (p : PFn) (σ : ES) (z : R) (c : ES → R) : R :=
  el ((hactC P o).run (evK σ) (gK σ) σ.hn σ.cnt) z fun q =>
    bB q.2.1 (HA.rec (motive := fun _ => R) (fun b => bB (norefs b.els) z (ES.rec (motive := fun _ => R) (fun T n H hn cnt => fN (cnt + 1) fun m => p.put (.vw false b.els) ⟨T, n, H, hn, m⟩ z c) σ)) (fun _ _ => z) q.2.2.1) z
theorem lpK_eq {R : Type} (P : Program) (o : Op) (dst : Option Nat) (σ : ES) (z : R) (c : ES → R) : lpK P o (putC dst) σ z c = el (litE P σ o dst) z c := by
  unfold lpK litE
  rw [hactC_eq, evK_eq, gK_eq]
  cases hactE P (evE σ) (gE σ) σ.hn σ.cnt o with
  | none => rfl
  | some q =>
    obtain ⟨v, p, a, k⟩ := q
    simp only [el_some]
    cases p with
    | true => rfl
    | false =>
      cases a with
      | put id b => rfl
      | push b =>
        simp only [bB_false]
        cases norefs b.els with
        | false => rfl
        | true => simp only [bB_true, fN_eq, putC_eq]
noncomputable def callC (args : List Operand) (f : Operand) (p : PFn) {R : Type} (E : EE) (σ : ES) (z : R) (c : ES → R) : R :=
  match evK σ f with
  | .fn g caps => bB (E.isP g)
      (bB (E.isV g)
        (el (E.hc g (args.map (evK σ) ++ caps) σ.H σ.hn σ.cnt) z fun q => ES.rec (motive := fun _ => R) (fun T n _ _ _ => fT q.2.1 fun H => fN q.2.2.1 fun hn => fN q.2.2.2 fun cnt => p.put q.1 ⟨T, n, H, hn, cnt⟩ z c) σ)
        (bB (norefs (args.map (evK σ) ++ caps)) z (el (E.vc g (args.map (evK σ) ++ caps)) z fun r => p.put r σ z c)))
      (el (E.pc g (borGs (gK σ) (args.map (evK σ) ++ caps))) z fun r => p.put r σ z c)
  | _ => z
noncomputable def coreK (P : Program) (o : Oper) : OFn :=
  match o.op with
  | .call { callee := .value f, args, .. } => ⟨fun _ E σ z c => callC args.toList f (putC o.dst) E σ z c⟩
  | _ => match isHeapOp o.op with
    | true => match litOp o.op with
      | true => ⟨fun lt _ σ z c => bB lt (hpK P o.op (putC o.dst) σ z c) (lpK P o.op (putC o.dst) σ z c)⟩
      | false => ⟨fun _ _ σ z c => hpK P o.op (putC o.dst) σ z c⟩
    | false => ⟨fun _ _ σ z c => el ((valC P o.op).run σ) z fun v => (putC o.dst).put v σ z c⟩
theorem el_el {α R : Type} {x : Option α} {z r : R} {c : α → R} (h : el x z c = r) : r = z ∨ ∃ a, x = some a ∧ c a = r := by
  cases x with
  | none => exact .inl h.symm
  | some a => exact .inr ⟨a, rfl, h⟩
theorem bB_el {R : Type} {b : Bool} {f t r : R} (h : bB b f t = r) : (b = false ∧ f = r) ∨ (b = true ∧ t = r) := by
  cases b with
  | false => exact .inl ⟨rfl, h⟩
  | true => exact .inr ⟨rfl, h⟩
theorem callC_eq {R : Type} (op : Op) (f : Operand) (args : Array Operand) (ats : Array TypeId) (ho : op = .call ⟨.value f, args, ats⟩) (dst : Option Nat) (E : EE) (σ : ES) (z : R) (c : ES → R) :
    callC args.toList f (putC dst) E σ z c = el (match targetE (evE σ) op with | some (g, as) => callE E σ g as dst | none => none) z c := by
  subst ho
  unfold callC targetE
  rw [evK_eq, gK_eq]
  simp only
  cases evE σ f <;> try rfl
  rename_i g caps
  simp only
  unfold callE
  cases E.isP g with
  | true =>
    simp only [bB_true]
    cases E.pc g (borGs (gE σ) (List.map (evE σ) args.toList ++ caps)) with
    | none => rfl
    | some r => simp only [el_some, putC_eq]
  | false =>
    simp only [bB_false]
    cases E.isV g with
    | true =>
      simp only [bB_true]
      cases norefs (List.map (evE σ) args.toList ++ caps) with
      | false => rfl
      | true =>
        simp only [bB_true]
        cases E.vc g (List.map (evE σ) args.toList ++ caps) with
        | none => rfl
        | some r => simp only [el_some, putC_eq]
    | false =>
      simp only [bB_false]
      cases E.hc g (List.map (evE σ) args.toList ++ caps) σ.H σ.hn σ.cnt with
      | none => rfl
      | some q => simp only [el_some, fT_eq, fN_eq, putC_eq]
theorem coreK_ok (P : Program) (o : Oper) : (coreK P o).Ok P (fun lt E s => coreS P E s o lt) := by
  intro R lt E σ z r c hE hi h
  have viaE : ∀ lt, el (coreE P E σ o lt) z c = r → r = z ∨ ∃ σ', σ'.Inv ∧ σ'.n = σ.n ∧ coreS P E.env σ.toS o lt = some σ'.toS ∧ c σ' = r := by
    intro lt h
    rcases el_el h with h | ⟨σ', h1, h2⟩
    · exact .inl h
    · obtain ⟨q1, q2, q3⟩ := coreE_ok hE hi h1
      exact .inr ⟨σ', q1, q3, q2, h2⟩
  have rest : isCall o.op = false → (match isHeapOp o.op with
      | true => match litOp o.op with
        | true => (⟨fun lt _ σ z c => bB lt (hpK P o.op (putC o.dst) σ z c) (lpK P o.op (putC o.dst) σ z c)⟩ : OFn)
        | false => ⟨fun _ _ σ z c => hpK P o.op (putC o.dst) σ z c⟩
      | false => ⟨fun _ _ σ z c => el ((valC P o.op).run σ) z fun v => (putC o.dst).put v σ z c⟩).run lt E σ z c = r →
      r = z ∨ ∃ σ', σ'.Inv ∧ σ'.n = σ.n ∧ coreS P E.env σ.toS o lt = some σ'.toS ∧ c σ' = r := by
    intro hcall h
    cases hh : isHeapOp o.op with
    | true =>
      rw [hh] at h
      simp only at h
      cases hl : litOp o.op with
      | true =>
        rw [hl] at h
        simp only at h
        refine viaE lt ?_
        unfold coreE
        rw [hcall, hh, hl]
        simp only [Bool.and_true]
        cases lt with
        | true => rw [bB_true, lpK_eq] at h; exact h
        | false => rw [bB_false, hpK_eq] at h; exact h
      | false =>
        rw [hl] at h
        simp only at h
        refine viaE lt ?_
        unfold coreE
        rw [hcall, hh, hl]
        simp only [Bool.and_false]
        rw [hpK_eq] at h
        exact h
    | false =>
      rw [hh] at h
      simp only at h
      rcases el_el h with h | ⟨v, hv, h⟩
      · exact .inl h
      · have hv := valC_ok hv
        rw [putC_eq] at h
        rcases el_el h with h | ⟨σ', h1, h2⟩
        · exact .inl h
        · obtain ⟨q1, q2, q3, _⟩ := putE_ok hi h1
          refine .inr ⟨σ', q1, q3, ?_, h2⟩
          have hl : (lt && litOp o.op) = false := by
            cases hq : litOp o.op with
            | false => rw [Bool.and_false]
            | true => rw [(lit_heap hq).1] at hh; cases hh
          have hpure : isPure E.env σ.toS o.op = true := by
            unfold isPure
            rw [hcall, if_neg (by decide), hh]; rfl
          unfold coreS
          rw [if_neg (by rw [hl]; decide), if_pos hpure]
          unfold pval
          rw [hcall, if_neg (by decide), hv, Option.map_some, q2]
  unfold coreK at h
  split at h
  · rename_i f args ats ho
    have h : callC args.toList f (putC o.dst) E σ z c = r := h
    rw [callC_eq o.op f args ats ho] at h
    refine viaE lt ?_
    unfold coreE
    rw [show isCall o.op = true by rw [ho]; rfl]
    exact h
  · rename_i hno
    refine rest ?_ h
    cases hq : isCall o.op with
    | false => rfl
    | true =>
      exfalso
      unfold isCall at hq
      split at hq
      · rename_i f args ats ho
        exact hno _ _ _ ho
      · cases hq
noncomputable def opK (P : Program) (all : Array Oper) (o : Oper) : OFn :=
  match o.guard with
  | none => coreK P o
  | some (j, want) => match (all[j]?).bind (·.dst) with
    | some d => ⟨fun _ E σ z c => match evK σ (.tmp d) with
      | .sc (.bool b) => bB (b == want) ((putC o.dst).put .un σ z c) ((coreK P o).run false E σ z c)
      | .un => (putC o.dst).put .un σ z c
      | _ => z⟩
    | none => ⟨fun _ _ σ z c => (putC o.dst).put .un σ z c⟩
def opS (P : Program) (all : Array Oper) (o : Oper) (lt : Bool) (E : Env) (s : St) : Option St := opM lt o (opStep P E all s o) (litStep P s o.op o.dst)
theorem opK_ok (P : Program) (all : Array Oper) (o : Oper) : (opK P all o).Ok P (opS P all o) := by
  intro R lt E σ z r c hE hi h
  unfold opK at h
  unfold opS opM
  cases hg : o.guard with
  | none =>
    rw [hg] at h
    simp only at h
    rcases coreK_ok P o R lt E σ z r c hE hi h with h | ⟨σ', q1, q2, q3, q4⟩
    · exact .inl h
    · refine .inr ⟨σ', q1, q2, ?_, q4⟩
      rw [← q3]
      unfold coreS opStep
      simp only [hg, Option.isNone_none, Bool.and_true]
  | some jw =>
    obtain ⟨j, want⟩ := jw
    have hn : (lt && litOp o.op && (some (j, want)).isNone) = false := by simp
    rw [hn, if_neg (by decide)]
    rw [hg] at h
    simp only at h
    have put : (putC o.dst).put .un σ z c = r → (guardV all σ.toS j = .un ∨ ∃ b, guardV all σ.toS j = .sc (.bool b) ∧ ¬ b = want) → r = z ∨ ∃ σ', σ'.Inv ∧ σ'.n = σ.n ∧ opStep P E.env all σ.toS o = some σ'.toS ∧ c σ' = r := by
      intro h hb
      rw [putC_eq] at h
      rcases el_el h with h | ⟨σ', h1, h2⟩
      · exact .inl h
      · obtain ⟨q1, q2, q3, _⟩ := putE_ok hi h1
        refine .inr ⟨σ', q1, q3, ?_, h2⟩
        unfold opStep
        simp only [hg]
        rcases hb with hb | ⟨b, hb, hne⟩
        · rw [hb]; simp only [q2]
        · rw [hb]
          simp only [if_neg hne, Option.map_some, q2]
          split <;> rfl
    have gv : guardV all σ.toS j = gvE all σ j := (gvE_eq all σ j).symm
    cases hd : (all[j]?).bind (·.dst) with
    | none =>
      rw [hd] at h
      simp only at h
      refine put h (.inl ?_)
      rw [gv]
      unfold gvE
      rw [hd]
    | some d =>
      rw [hd] at h
      simp only [evK_eq] at h
      have gv : guardV all σ.toS j = evE σ (.tmp d) := by
        rw [gv]
        unfold gvE
        rw [hd]
      split at h
      · rename_i b hb
        rcases bB_el h with ⟨hw, h⟩ | ⟨hw, h⟩
        · exact put h (.inr ⟨b, by rw [gv, hb], fun e => by rw [e] at hw; simp at hw⟩)
        · have hw : b = want := eq_of_beq hw
          rcases coreK_ok P o R false E σ z r c hE hi h with h | ⟨σ', q1, q2, q3, q4⟩
          · exact .inl h
          · refine .inr ⟨σ', q1, q2, ?_, q4⟩
            rw [← q3]
            unfold coreS opStep
            simp only [hg, gv, hb, Bool.false_and, if_pos hw]
            rfl
      · rename_i hb
        exact put h (.inl (by rw [gv, hb]))
      · exact .inl h.symm
noncomputable def seqK (P : Program) (all : Array Oper) (l : List Oper) : OFn :=
  match l with
  | [] => ⟨fun _ _ σ _ c => c σ⟩
  | o :: r => ⟨fun lt E σ z c => (opK P all o).run lt E σ z fun σ' => (seqK P all r).run lt E σ' z c⟩
def seqS (P : Program) (all : Array Oper) : List Oper → Bool → Env → St → Option St
  | [], _, _, s => some s
  | o :: r, lt, E, s => match opS P all o lt E s with
    | some s' => seqS P all r lt E s'
    | none => none
theorem seqS_eq (P : Program) (all : Array Oper) (E : Env) : ∀ (l : List Oper) (s : St), seqS P all l E.lit E s = runOps P E all l s
  | [], s => rfl
  | o :: r, s => by
    simp only [seqS, runOps, opS, opStepM]
    cases opM E.lit o (opStep P E all s o) (litStep P s o.op o.dst) with
    | none => rfl
    | some s' => exact seqS_eq P all E r s'
theorem seqK_ok (P : Program) (all : Array Oper) : ∀ l, (seqK P all l).Ok P (seqS P all l)
  | [] => fun R lt E σ z r c hE hi h => .inr ⟨σ, hi, rfl, rfl, h⟩
  | o :: l => fun R lt E σ z r c hE hi h => by
    have h : (opK P all o).run lt E σ z (fun σ' => (seqK P all l).run lt E σ' z c) = r := by
      rw [← h]
      simp only [seqK]
    rcases opK_ok P all o R lt E σ z r _ hE hi h with h | ⟨σ', q1, q2, q3, q4⟩
    · exact .inl h
    · rcases seqK_ok P all l R lt E σ' z r c hE q1 q4 with h | ⟨σ2, k1, k2, k3, k4⟩
      · exact .inl h
      · exact .inr ⟨σ2, k1, k2.trans q2, by simp only [seqS, q3]; exact k3, k4⟩
end Go.SX
