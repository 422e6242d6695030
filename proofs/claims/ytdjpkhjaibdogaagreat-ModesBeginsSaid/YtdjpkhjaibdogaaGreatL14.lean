/-
  Lemmas towards ModesBegins (joined texts: SYF, SYH, SYN).
  Conditions: none.
-/
import Derived.Test.YtdjpkhjaibdogaaGreatL13
namespace Go.SX
set_option linter.unusedSimpArgs false
set_option linter.unusedVariables false
noncomputable def opX (P : Program) (E : EE) (ops : Array Oper) (σ : ES) (o : Oper) : Option ES := (opK P ops o).run false E σ none some
theorem opX_ok {P : Program} {E : EE} (hE : E.Ok) {ops : Array Oper} {σ σ' : ES} {o : Oper} (hi : σ.Inv) (h : opX P E ops σ o = some σ') : σ'.Inv ∧ opStep P E.env ops σ.toS o = some σ'.toS ∧ σ'.n = σ.n := by
  rcases opK_ok P ops o (Option ES) false E σ none (some σ') some hE hi h with h | ⟨σ2, q1, q2, q3, q4⟩
  · cases h
  · cases q4
    exact ⟨q1, q3, q2⟩
noncomputable def runDPK (P : Program) (E : EE) (ops : Array Oper) : List Oper → Nat → ES → List PastE → List DidE → Option ES
  | [], _, σ, _, _ => some σ
  | o :: r, i, σ, hs, ds => el (opX P E ops σ o) none fun σ' =>
    bB (hopB E.hb o.op)
      (bB (noHeapB o.op)
        (bB ((isPureE E.isP (evK σ) o.op || isVE E (evK σ) o.op) && chkPe P E ops i o σ.T σ.n σ'.T hs) none (runDPK P E ops r (i + 1) σ' hs (⟨i, o, σ, σ'.T⟩ :: ds)))
        (runDPK P E ops r (i + 1) σ' hs ds))
      (bB (chkFe P E ops i σ'.H σ'.hn σ'.cnt ds && bornE E.hb ops i σ' o.op && Nat.blt 0 σ'.hn) none (runDPK P E ops r (i + 1) σ' (⟨i, σ⟩ :: hs) ds))
theorem runDPK_ok {P : Program} {E : EE} (hE : E.Ok) {ops : Array Oper} : ∀ {l : List Oper} {i : Nat} {σ σ1 : ES} {hs : List PastE} {ds : List DidE}, σ.Inv → (∀ h ∈ hs, h.σ.Inv) →
    runDPK P E ops l i σ hs ds = some σ1 → σ1.Inv ∧ runDPb P E.env E.vb ops l i σ.toS (hs.map PastE.toP) (ds.map DidE.toD) = some σ1.toS
  | [], i, σ, σ1, hs, ds, hi, hp, h => by simp only [runDPK, Option.some.injEq] at h; subst h; exact ⟨hi, rfl⟩
  | o :: r, i, σ, σ1, hs, ds, hi, hp, h => by
    simp only [runDPK] at h
    obtain ⟨σ', hst, h⟩ := el_no h
    obtain ⟨q1, q2, q3⟩ := opX_ok hE hi hst
    simp only [runDPb, q2]
    rcases bB_el h with ⟨hh, h⟩ | ⟨hh, h⟩
    · rw [show E.env.hb = E.hb from rfl, hh]
      simp only
      rcases bB_el h with ⟨hn, h⟩ | ⟨hn, h⟩
      · rw [hn]
        simp only
        obtain ⟨hc, h⟩ := bB_no h
        simp only [Bool.and_eq_true] at hc
        obtain ⟨c1, c2⟩ := hc
        rw [evK_eq, evE_eq, isPureE_eq, isVE_eq] at c1
        have c2 := chkPe_ok hE hp c2
        have e : ((isPure E.env σ.toS o.op || isVop E.vb σ.toS o.op) && chkPb P E.env E.vb ops i o σ.toS.T σ'.toS.T (hs.map PastE.toP)) = true := by
          rw [c1, Bool.true_and]
          simp only [ES.toS, q3]
          exact c2
        rw [e]
        simp only
        have := runDPK_ok hE q1 hp h
        have e2 : (DidE.toD ⟨i, o, σ, σ'.T⟩) = ⟨i, o, σ.toS.T, σ'.toS.T⟩ := by simp only [DidE.toD, ES.toS, q3]
        rw [List.map_cons, e2] at this
        exact this
      · rw [hn]
        exact runDPK_ok hE q1 hp h
    · rw [show E.env.hb = E.hb from rfl, hh]
      simp only
      obtain ⟨hc, h⟩ := bB_no h
      simp only [Bool.and_eq_true] at hc
      obtain ⟨⟨c1, c2⟩, c3⟩ := hc
      have c1 := chkFe_ok hE q1 c1
      have c3 : 0 < σ'.hn := by rw [blt_eq] at c3; simpa using c3
      have e : (chkFb P E.env E.vb ops i σ'.toS.H σ'.toS.cnt (ds.map DidE.toD) && bornB E.hb ops i σ'.toS.H o.op) = true := by
        rw [c1, Bool.true_and]
        cases ho : o.op <;> rw [ho] at c2 <;> try rfl
        simp only [bornE, Bool.or_eq_true] at c2
        simp only [bornB, Bool.or_eq_true]
        refine c2.imp id fun q => ?_
        simp only [ES.toS]
        rw [lastEls_get _ c3]
        exact q
      rw [e]
      simp only
      have := runDPK_ok hE q1 (hs := ⟨i, σ⟩ :: hs) (by
        intro x hx
        rcases List.mem_cons.1 hx with rfl | hx
        · exact hi
        · exact hp x hx) h
      exact this
structure GFn where
  run : {R : Type} → EE → ES → R → (ES → R) → R
noncomputable def regK (P : Program) (id : Nat) (ops : Array Oper) (dr : Bool) : GFn :=
  match dr with
  | false => ⟨fun E σ z c => (seqK P ops ops.toList).run E.lit E σ z c⟩
  | true => ⟨fun E σ z c => el (match E.perm id with
    | none => runDPK P E ops ops.toList 0 σ [] []
    | some [] => none
    | some (i :: π) => runDPK P E (permA ops (i :: π)) (permA ops (i :: π)).toList 0 σ [] []) z c⟩
theorem regK_go {P : Program} {E : EE} (hE : E.Ok) {n0 : Nat} {rs : List ResultVar} {Q : AV → St → Prop} {id : Nat} {ops : Array Oper} {dr : Bool} {σ : ES} {k : List Item} (hi : σ.Inv) {R : Type} {z r : R} {c : ES → R} (h : (regK P id ops dr).run E σ z c = r) :
    r = z ∨ ∃ σ', σ'.Inv ∧ (Go P E.env n0 rs Q k σ'.toS → Go P E.env n0 rs Q (.code (.region id ops dr) :: k) σ.toS) ∧ c σ' = r := by
  unfold regK at h
  cases dr with
  | false =>
    rcases seqK_ok P ops ops.toList R E.lit E σ z r c hE hi h with h | ⟨σ', q1, q2, q3, q4⟩
    · exact .inl h
    · refine .inr ⟨σ', q1, fun ih => .region ?_ ih, q4⟩
      have := seqS_eq P ops E.env ops.toList σ.toS
      rw [← this]
      exact q3
  | true =>
    rcases el_el h with h | ⟨σ', hr, h⟩
    · exact .inl h
    · refine .inr ⟨σ', ?_⟩
      split at hr
      · rename_i hp
        obtain ⟨q1, q2⟩ := runDPK_ok hE hi (by intro h hh; cases hh) hr
        have q3 := runDPb_ok (vEnvE E) (fun _ h => by cases h) q2
        refine ⟨q1, fun ih => ?_, h⟩
        cases hh : ops.toList.any heapish with
        | true => exact .drawH hp hh q3 ih
        | false => exact .draw hp (pure_of_trace _ _ _ _ hh q3) ih
      · cases hr
      · rename_i hp
        obtain ⟨q1, q2⟩ := runDPK_ok hE hi (by intro h hh; cases hh) hr
        exact ⟨q1, fun ih => .drawP hp (runDPb_ok (vEnvE E) (fun _ h => by cases h) q2) ih, h⟩
structure SFn where
  run : EE → List Item → ES → (List Item → ES → Option (AV × ES)) → Option (AV × ES)
noncomputable def stepK (P : Program) (x : Item) : SFn :=
  match x with
  | .code .skip => ⟨fun _ k σ c => c k σ⟩
  | .code (.seq x y) => ⟨fun _ k σ c => c (.code x :: .code y :: k) σ⟩
  | .code (.cond b x y) => ⟨fun _ k σ c => match evK σ b with
    | .sc (.bool t) => bB t (c (.code y :: k) σ) (c (.code x :: k) σ)
    | _ => none⟩
  | .code (.block id a) => ⟨fun _ k σ c => c (.code a :: .inBlock id :: k) σ⟩
  | .inBlock _ => ⟨fun _ k σ c => c k σ⟩
  | .code (.loop a) => ⟨fun _ k σ c => c (.code a :: .inLoop a :: k) σ⟩
  | .inLoop a => ⟨fun _ k σ c => c (.code a :: .inLoop a :: k) σ⟩
  | .code (.exit id) => ⟨fun _ k σ c => el (exitTo id k) none fun k' => c k' σ⟩
  | .code (.region id ops dr) => ⟨fun E k σ c => (regK P id ops dr).run E σ none fun σ' => c k σ'⟩
  | _ => ⟨fun _ _ _ _ => none⟩
noncomputable def finK (P : Program) (rs : List ResultVar) (σ : ES) : Option (AV × ES) := el (retE P σ rs) none fun vs => some (retOne vs, σ)
noncomputable def runK (P : Program) (E : EE) (rs : List ResultVar) (n : Nat) : List Item → ES → Option (AV × ES) :=
  Nat.rec (motive := fun _ => List Item → ES → Option (AV × ES)) (fun _ _ => none)
    (fun _ ih k σ => List.rec (motive := fun _ => Option (AV × ES)) (finK P rs σ) (fun x k' _ => bB (isRet x) ((stepK P x).run E k' σ ih) (finK P rs σ)) k) n
theorem go_ofK {P : Program} {E : EE} (hE : E.Ok) {n0 : Nat} {rs : List ResultVar} {r : AV} {σ1 : ES} : ∀ {n : Nat} {k : List Item} {σ : ES}, σ.Inv → runK P E rs n k σ = some (r, σ1) →
    σ1.Inv ∧ Go P E.env n0 rs (fun r' s' => r' = r ∧ s' = σ1.toS) k σ.toS
  | 0, k, σ, hi, h => by cases h
  | n + 1, [], σ, hi, h => by
    have h : finK P rs σ = some (r, σ1) := h
    obtain ⟨vs, hv, h⟩ := el_no h
    cases h
    exact ⟨hi, .fin (retE_eq hv) ⟨rfl, rfl⟩⟩
  | n + 1, x :: k, σ, hi, h => by
    have h : bB (isRet x) ((stepK P x).run E k σ (runK P E rs n)) (finK P rs σ) = some (r, σ1) := h
    rcases bB_el h with ⟨hx, h⟩ | ⟨hx, h⟩
    · have ih : ∀ {k : List Item} {σ : ES}, σ.Inv → runK P E rs n k σ = some (r, σ1) → σ1.Inv ∧ Go P E.env n0 rs (fun r' s' => r' = r ∧ s' = σ1.toS) k σ.toS := fun hi h => go_ofK hE hi h
      unfold stepK at h
      split at h
      · exact (ih hi h).imp id .skip
      · exact (ih hi h).imp id .seq
      · simp only at h
        split at h
        · rename_i t ht
          rw [evK_eq, evE_eq] at ht
          rcases bB_el h with ⟨rfl, h⟩ | ⟨rfl, h⟩
          · exact (ih hi h).imp id fun q => .cond false ht q
          · exact (ih hi h).imp id fun q => .cond true ht q
        · cases h
      · exact (ih hi h).imp id .block
      · exact (ih hi h).imp id .inBlock
      · exact (ih hi h).imp id .loop
      · exact (ih hi h).imp id .inLoop
      · obtain ⟨k', he, h⟩ := el_no h
        exact (ih hi h).imp id fun q => .exit he q
      · rcases regK_go hE (n0 := n0) (rs := rs) (Q := fun r' s' => r' = r ∧ s' = σ1.toS) (k := k) hi h with h | ⟨σ', q1, q2, q3⟩
        · cases h
        · exact (ih q1 q3).imp id q2
      · cases h
    · have hx : x = .code .ret := by
        unfold isRet at hx
        split at hx
        · rfl
        · cases hx
      subst hx
      obtain ⟨vs, hv, h⟩ := el_no h
      cases h
      exact ⟨hi, .ret (retE_eq hv) ⟨rfl, rfl⟩⟩
noncomputable def callK (P : Program) (t : TabE) (E : EE) (f : Nat) (args : List AV) (H : Tr Blk) (hn cnt : Nat) : Option (AV × ES) :=
  match t.ok f with
  | true => match P.funcs[f]? with
    | some fn => match fn.body with
      | some c => match Nat.ble args.length fn.ntmps with
        | true => match Tr.setAll (Tr.rep .un 12 fn.ntmps) 0 args with
          | some T => runK P E fn.results.toList fuelI [.code c] ⟨T, fn.ntmps, H, hn, cnt⟩
          | none => none
        | false => none
      | none => none
    | none => none
  | false => none
theorem callK_ok {P : Program} {t : TabE} {E : EE} (hE : E.Ok) {f : Nat} {args : List AV} {H : Tr Blk} {hn cnt : Nat} {r : AV} {σ1 : ES} (hf : Tr.Fit H hn) (h : callK P t E f args H hn cnt = some (r, σ1)) :
    σ1.Inv ∧ t.ok f = true ∧ ∃ fn c, P.funcs[f]? = some fn ∧ fn.body = some c ∧ ∀ n0, Go P E.env n0 fn.results.toList (fun r' s' => r' = r ∧ s' = σ1.toS) [.code c] (initSt fn args (H.toL dead hn) cnt) := by
  unfold callK at h
  split at h
  · rename_i hok
    split at h
    · rename_i fn hfn
      split at h
      · rename_i c hc
        split at h
        · rename_i hlen
          split at h
          · rename_i T hT
            have hle : args.length ≤ fn.ntmps := Nat.le_of_ble_eq_true hlen
            have e : (ES.toS ⟨T, fn.ntmps, H, hn, cnt⟩) = initSt fn args (H.toL dead hn) cnt := by
              unfold ES.toS initSt
              congr 1
              refine List.ext_getElem? fun j => ?_
              rw [Tr.toL_get, List.getElem?_append, List.getElem?_replicate]
              simp only [Tr.setAll_ok AV.un hT j, Nat.zero_le, true_and, Nat.zero_add, Nat.sub_zero, Tr.rep_get]
              by_cases h1 : j < args.length
              · rw [if_pos (by omega), if_pos h1, if_pos h1, List.getD_eq_getElem?_getD, List.getElem?_eq_getElem h1]; rfl
              · rw [if_neg h1, if_neg h1]
                by_cases h2 : j < fn.ntmps
                · rw [if_pos h2, if_pos (by omega)]
                · rw [if_neg h2, if_neg (by omega)]
            have hi : (ES.Inv ⟨T, fn.ntmps, H, hn, cnt⟩) := hf
            refine ⟨(go_ofK hE (n0 := 0) hi h).1, hok, fn, c, hfn, hc, fun n0 => ?_⟩
            rw [← e]
            exact (go_ofK hE hi h).2
          · cases h
        · cases h
      · cases h
    · cases h
  · cases h
def gvn {α : Type} (b : Bool) (x : Option α) : Option α :=
  match b with
  | true => x
  | false => none
theorem gvn_ok {α : Type} {b : Bool} {x : Option α} {r : α} (h : gvn b x = some r) : x = some r := by
  cases b with
  | true => exact h
  | false => cases h
noncomputable def gT (H : Tr Blk) (hn : Nat) (id : Nat) : Option Blk := bB (Nat.blt id hn) none (some (Tr.getN dead H id))
theorem gT_eq (H : Tr Blk) (hn : Nat) : gT H hn = fun i => (H.toL dead hn)[i]? := by
  funext id
  simp only [gT, Tr.getN_eq, Tr.toL_get, blt_eq]
  by_cases h : id < hn
  · simp [h, bB_true]
  · simp [h, bB_false]
mutual
noncomputable def pK (P : Program) (t : TabE) (G : Giv) : Nat → Nat → List AV → Option AV
  | 0, _, _ => none
  | n + 1, f, args => match gvn (t.givP f) (G.p f args) with
    | some r => some r
    | none => outPE (callK P t (eeOf t (pK P t G n) (vK P t G n) (hK P t G n) f) f args .nil 0 0)
noncomputable def vK (P : Program) (t : TabE) (G : Giv) : Nat → Nat → List AV → Option AV
  | 0, _, _ => none
  | n + 1, f, args => match gvn (t.givV f) (G.v f args) with
    | some r => some r
    | none => outVE (callK P t (eeOf t (pK P t G n) (vK P t G n) (hK P t G n) f) f args .nil 0 0)
noncomputable def hK (P : Program) (t : TabE) (G : Giv) : Nat → Nat → List AV → Tr Blk → Nat → Nat → Option (AV × Tr Blk × Nat × Nat)
  | 0, _, _, _, _, _ => none
  | n + 1, f, args, H, hn, cnt => match gvn (t.givH f) (givT G f args H hn cnt) with
    | some r => some r
    | none => match gvn (t.givF f) (G.f f (borGs (gT H hn) args)) with
    | some r => some (r, H, hn, cnt)
    | none => outE (t.keep f) hn (callK P t (eeOf t (pK P t G n) (vK P t G n) (hK P t G n) f) f args H hn cnt)
end
noncomputable def eK (P : Program) (t : TabE) (G : Giv) (n f : Nat) : EE := eeOf t (pK P t G n) (vK P t G n) (hK P t G n) f
theorem hK_fit {P : Program} {t : TabE} {G : Giv} : ∀ n f, (eK P t G n f).Ok
  | 0, f => by
    intro g args H hn c r H' n' c' hf h
    simp [eK, eeOf, hK] at h
  | n + 1, f => by
    intro g args H hn c r H' n' c' hf h
    have h : hK P t G (n + 1) g args H hn c = some (r, H', n', c') := h
    simp only [hK] at h
    split at h
    · rename_i q hq
      cases h
      have h := gvn_ok hq
      unfold givT at h
      split at h
      · cases h
        exact Tr.ofL_fit dead _
      · cases h
    · split at h
      · cases h
        exact hf
      · unfold outE at h
        split at h
        · rename_i r1 σ1 hc
          have hi := (callK_ok (hK_fit n g) hf hc).1
          split at h
          · cases h; exact hi
          · split at h
            · rename_i ht
              cases h
              exact (truncE_ok hi ht).1
            · cases h
        · cases h
theorem envK_ok {P : Program} {t : TabE} {G : Giv} (hm : P.follows .mixedOrders = true) (ht : TabEOk P t) (hG : GivOk P G) : ∀ n, (∀ f, EnvOk P (eK P t G n f).env) ∧ (∀ f args r, vK P t G n f args = some r → VSpec P f args r)
  | 0 => ⟨fun f => ⟨fun g args r h => by simp [eK, eeOf, EE.env, pK] at h, fun g args H cnt r H' cnt' h => by
      have h : EE.hcall (eK P t G 0 f) g args H cnt = some (r, H', cnt') := h
      unfold EE.hcall at h
      split at h
      · have e : (eK P t G 0 f).vc g args = none := by simp [eK, eeOf, vK]
        rw [e] at h
        cases hq : norefs args <;> rw [hq] at h <;> cases h
      · unfold hcL at h
        simp [eK, eeOf, hK] at h⟩, fun f args r h => by simp [vK] at h⟩
  | n + 1 => by
    obtain ⟨ih, ihv⟩ := envK_ok hm ht hG n
    have hv : ∀ f args r, vK P t G (n + 1) f args = some r → VSpec P f args r := by
      intro g args r h
      simp only [vK] at h
      split at h
      · rename_i q hq
        cases h
        exact hG.v g args r (gvn_ok hq)
      · unfold outVE at h
        split at h
        · rename_i r' σ' hc
          split at h
          · rename_i hnr
            cases h
            obtain ⟨_, hk, fn, c, hfn, hb, hgo⟩ := callK_ok (hK_fit n g) (H := .nil) (hn := 0) rfl hc
            obtain ⟨q1, q2⟩ := ht g fn c hk hfn hb
            exact vspecD_of_go (ih g) hm 60 hfn hb q1 q2 hnr (go_mono (hgo 0) fun r' s'' hh => by obtain ⟨rfl, rfl⟩ := hh; rfl)
          · cases h
        · cases h
    refine ⟨fun f => ⟨fun g args r h => ?_, fun g args H cnt r H' cnt' h => ?_⟩, hv⟩
    · have h : pK P t G (n + 1) g args = some r := h
      simp only [pK] at h
      split at h
      · rename_i q hq
        cases h
        exact hG.p g args r (gvn_ok hq)
      · unfold outPE at h
        split at h
        · rename_i r' σ' hc
          split at h
          · rename_i hok
            cases h
            obtain ⟨_, hk, fn, c, hfn, hb, hgo⟩ := callK_ok (hK_fit n g) (H := .nil) (hn := 0) rfl hc
            obtain ⟨q1, q2⟩ := ht g fn c hk hfn hb
            exact pspec_of_go (ih g) hm hfn hb q1 q2 hok (go_mono (hgo 0) fun r' s'' hh => hh.1)
          · cases h
        · cases h
    · have h : EE.hcall (eK P t G (n + 1) f) g args H cnt = some (r, H', cnt') := h
      unfold EE.hcall at h
      split at h
      · cases hnr : norefs args with
        | false => rw [hnr] at h; cases h
        | true =>
          cases hq : (eK P t G (n + 1) f).vc g args with
          | none => rw [hnr, hq] at h; cases h
          | some q =>
            rw [hnr, hq] at h
            cases h
            exact hspec_of_v (hv g args _ hq) hnr H cnt
      · have h : hcL (hK P t G (n + 1)) g args H cnt = some (r, H', cnt') := h
        unfold hcL at h
        split at h
        · rename_i r1 H1 n1 c1 hh
          cases h
          simp only [hK] at hh
          split at hh
          · rename_i q hq
            cases hh
            have hh := gvn_ok hq
            unfold givT at hh
            split at hh
            · rename_i r2 H2 c2 hg
              cases hh
              rw [Tr.toL_ofL] at hg
              rw [Tr.toL_ofL]
              exact hG.h g args H cnt _ _ _ hg
            · cases hh
          · split at hh
            · rename_i q hq
              cases hh
              have hq := gvn_ok hq
              rw [gT_eq, borGs_eq, Tr.toL_ofL] at hq
              rw [Tr.toL_ofL]
              exact hspec_of_f (hG.f g _ _ hq)
            · unfold outE at hh
              split at hh
              · rename_i r2 σ2 hc
                obtain ⟨hi, hk, fn, c, hfn, hb, hgo⟩ := callK_ok (hK_fit n g) (Tr.ofL_fit dead H) hc
                obtain ⟨q1, q2⟩ := ht g fn c hk hfn hb
                rw [Tr.toL_ofL] at hgo
                split at hh
                · cases hh
                  exact hspec_of_go (ih g) hm hfn hb q1 q2 (go_mono (hgo H.length) fun r' s'' hh => by obtain ⟨rfl, rfl⟩ := hh; exact ⟨rfl, rfl, rfl⟩)
                · split at hh
                  · rename_i H3 n3 htr
                    cases hh
                    obtain ⟨_, _, t3⟩ := truncE_ok hi htr
                    refine hspecW_of_go (ih g) hm hfn hb q1 q2 (go_mono (hgo H.length) fun r' s'' hh => ?_)
                    obtain ⟨rfl, rfl⟩ := hh
                    refine ⟨.refl _, ?_, Nat.le_refl _⟩
                    rw [t3]
                    have := wkH_app (σ2.toS.H) (σ2.toS.H.drop n1) (σ2.toS.H.take n1)
                    rw [List.take_append_drop] at this
                    exact this
                  · cases hh
              · cases hh
        · cases h
theorem pspec_ofK {P : Program} {t : TabE} {G : Giv} (hm : P.follows .mixedOrders = true) (ht : TabEOk P t) (hG : GivOk P G) {n f : Nat} {args : List AV} {r : AV} (h : pK P t G n f args = some r) : PSpec P f args r :=
  ((envK_ok hm ht hG n).1 0).p f args r h
theorem vspec_ofK {P : Program} {t : TabE} {G : Giv} (hm : P.follows .mixedOrders = true) (ht : TabEOk P t) (hG : GivOk P G) {n f : Nat} {args : List AV} {r : AV} (h : vK P t G n f args = some r) : VSpec P f args r :=
  (envK_ok hm ht hG n).2 f args r h
end Go.SX

namespace Go.SX
set_option linter.unusedSimpArgs false
set_option linter.unusedVariables false
structure TFn where
  run : {R : Type} → EE → List Item → ES → R → (List Item → ES → R) → R
noncomputable def stepT (P : Program) (x : Item) : TFn :=
  match x with
  | .code .skip => ⟨fun _ k σ _ c => c k σ⟩
  | .code (.seq x y) => ⟨fun _ k σ _ c => c (.code x :: .code y :: k) σ⟩
  | .code (.cond b x y) => ⟨fun _ k σ z c => match evK σ b with
    | .sc (.bool t) => bB t (c (.code y :: k) σ) (c (.code x :: k) σ)
    | _ => z⟩
  | .code (.block id a) => ⟨fun _ k σ _ c => c (.code a :: .inBlock id :: k) σ⟩
  | .inBlock _ => ⟨fun _ k σ _ c => c k σ⟩
  | .code (.loop a) => ⟨fun _ k σ _ c => c (.code a :: .inLoop a :: k) σ⟩
  | .inLoop a => ⟨fun _ k σ _ c => c (.code a :: .inLoop a :: k) σ⟩
  | .code (.exit id) => ⟨fun _ k σ z c => el (exitTo id k) z fun k' => c k' σ⟩
  | .code (.region id ops dr) => ⟨fun E k σ z c => (regK P id ops dr).run E σ z fun σ' => c k σ'⟩
  | _ => ⟨fun _ _ _ z _ => z⟩
section
variable {P : Program} {E : EE} {n0 : Nat} {rs : List ResultVar} {Q : AV → St → Prop}
end
inductive PI where
  | c (p : List Nat)
  | b (id : Nat)
  | l (p : List Nat)
end Go.SX

namespace Go.SX
set_option linter.unusedSimpArgs false
set_option linter.unusedVariables false
theorem el_id {α R : Type} (x : Option α) (z : R) (c : α → R) : el (el x none some) z c = el x z c := by cases x <;> rfl
theorem coreK_el (P : Program) (o : Oper) {R : Type} (lt : Bool) (E : EE) (σ : ES) (z : R) (c : ES → R) : (coreK P o).run lt E σ z c = el ((coreK P o).run lt E σ none some) z c := by
  have rest : ∀ h : OFn, h = (match isHeapOp o.op with
      | true => match litOp o.op with
        | true => (⟨fun lt _ σ z c => bB lt (hpK P o.op (putC o.dst) σ z c) (lpK P o.op (putC o.dst) σ z c)⟩ : OFn)
        | false => ⟨fun _ _ σ z c => hpK P o.op (putC o.dst) σ z c⟩
      | false => ⟨fun _ _ σ z c => el ((valC P o.op).run σ) z fun v => (putC o.dst).put v σ z c⟩) → h.run lt E σ z c = el (h.run lt E σ none some) z c := by
    intro h e
    subst e
    cases isHeapOp o.op with
    | true =>
      cases litOp o.op with
      | true =>
        cases lt with
        | true => simp only [bB_true, lpK_eq, el_id]
        | false => simp only [bB_false, hpK_eq, el_id]
      | false => simp only [hpK_eq, el_id]
    | false =>
      simp only
      cases (valC P o.op).run σ with
      | none => rfl
      | some v => simp only [el_some, putC_eq, el_id]
  unfold coreK
  split
  · rename_i f args ats ho
    show callC args.toList f (putC o.dst) E σ z c = el (callC args.toList f (putC o.dst) E σ none some) z c
    rw [callC_eq o.op f args ats ho, callC_eq o.op f args ats ho, el_id]
  · exact rest _ rfl
theorem opK_el (P : Program) (all : Array Oper) (o : Oper) {R : Type} (lt : Bool) (E : EE) (σ : ES) (z : R) (c : ES → R) : (opK P all o).run lt E σ z c = el ((opK P all o).run lt E σ none some) z c := by
  unfold opK
  cases o.guard with
  | none => exact coreK_el P o lt E σ z c
  | some jw =>
    obtain ⟨j, want⟩ := jw
    simp only
    cases (all[j]?).bind (·.dst) with
    | none => simp only [putC_eq, el_id]
    | some d =>
      simp only
      split
      · rename_i b hb
        cases b == want with
        | false => simp only [bB_false, putC_eq, el_id]
        | true => simp only [bB_true]; exact coreK_el P o false E σ z c
      · simp only [putC_eq, el_id]
      · rfl
inductive Ob1 where
  | eq (a b : AV)
  | pr (p : Prop)
def Ob1.ok : Ob1 → Prop
  | .eq a b => a = b
  | .pr p => p
def AllP (l : List Ob1) : Prop := ∀ p ∈ l, p.ok
theorem allP_app {a b : List Ob1} : AllP (a ++ b) ↔ AllP a ∧ AllP b := by
  unfold AllP
  constructor
  · exact fun h => ⟨fun p hp => h p (List.mem_append_left _ hp), fun p hp => h p (List.mem_append_right _ hp)⟩
  · rintro ⟨h1, h2⟩ p hp
    rcases List.mem_append.1 hp with hp | hp
    · exact h1 p hp
    · exact h2 p hp
structure OB where
  p : Nat → List AV → List Ob1
  v : Nat → List AV → List Ob1
  h : Nat → List AV → Tr Blk → Nat → Nat → List Ob1
structure Agr (ob : OB) (A B : EE) : Prop where
  isP : B.isP = A.isP
  isV : B.isV = A.isV
  lit : B.lit = A.lit
  perm : B.perm = A.perm
  hcl : B.hcl = A.hcl
  p : ∀ g a, AllP (ob.p g a) → B.pc g a = A.pc g a
  v : ∀ g a, AllP (ob.v g a) → B.vc g a = A.vc g a
  h : ∀ g a H n c, AllP (ob.h g a H n c) → B.hc g a H n c = A.hc g a H n c
noncomputable def callOb (ob : OB) (args : List Operand) (f : Operand) (E : EE) (σ : ES) : List Ob1 :=
  match evK σ f with
  | .fn g caps => bB (E.isP g) (bB (E.isV g) (ob.h g (args.map (evK σ) ++ caps) σ.H σ.hn σ.cnt) (ob.v g (args.map (evK σ) ++ caps))) (ob.p g (borGs (gK σ) (args.map (evK σ) ++ caps)))
  | _ => []
theorem callOb_eq {ob : OB} {A B : EE} (hA : Agr ob A B) {args : List Operand} {f : Operand} {p : PFn} {R : Type} {σ : ES} {z : R} {c : ES → R} (h : AllP (callOb ob args f A σ)) : callC args f p B σ z c = callC args f p A σ z c := by
  unfold callOb at h
  unfold callC
  rw [hA.isP, hA.isV]
  split at h
  · rename_i g caps hg
    rw [hg]
    simp only
    cases hp : A.isP g with
    | true =>
      rw [hp, bB_true] at h
      simp only [bB_true]
      rw [hA.p _ _ h]
    | false =>
      rw [hp, bB_false] at h
      simp only [bB_false]
      cases hv : A.isV g with
      | true =>
        rw [hv, bB_true] at h
        simp only [bB_true]
        rw [hA.v _ _ h]
      | false =>
        rw [hv, bB_false] at h
        simp only [bB_false]
        rw [hA.h _ _ _ _ _ h]
  · rename_i hno
    split
    · rename_i g caps hg
      exact absurd hg (hno _ _)
    · rfl
noncomputable def coreOb (ob : OB) (E : EE) (o : Oper) (σ : ES) : List Ob1 :=
  match o.op with
  | .call { callee := .value f, args, .. } => callOb ob args.toList f E σ
  | _ => []
theorem coreOb_eq {ob : OB} {A B : EE} (hA : Agr ob A B) {P : Program} {o : Oper} {R : Type} {lt : Bool} {σ : ES} {z : R} {c : ES → R} (h : AllP (coreOb ob A o σ)) : (coreK P o).run lt B σ z c = (coreK P o).run lt A σ z c := by
  unfold coreOb at h
  unfold coreK
  split at h
  · rename_i f args ats ho
    rw [ho]
    exact callOb_eq hA h
  · rename_i hno
    split
    · rename_i f args ats ho
      exact absurd ho (hno _ _ _)
    · cases isHeapOp o.op with
      | true => cases litOp o.op <;> rfl
      | false => rfl
noncomputable def opOb (ob : OB) (all : Array Oper) (E : EE) (o : Oper) (σ : ES) : List Ob1 :=
  match o.guard with
  | none => coreOb ob E o σ
  | some (j, want) => match (all[j]?).bind (·.dst) with
    | some d => match evK σ (.tmp d) with
      | .sc (.bool b) => bB (b == want) [] (coreOb ob E o σ)
      | _ => []
    | none => []
theorem opOb_eq {ob : OB} {A B : EE} (hA : Agr ob A B) {P : Program} {all : Array Oper} {o : Oper} {R : Type} {lt : Bool} {σ : ES} {z : R} {c : ES → R} (h : AllP (opOb ob all A o σ)) : (opK P all o).run lt B σ z c = (opK P all o).run lt A σ z c := by
  unfold opOb at h
  unfold opK
  cases hg : o.guard with
  | none =>
    rw [hg] at h
    exact coreOb_eq hA h
  | some jw =>
    obtain ⟨j, want⟩ := jw
    rw [hg] at h
    simp only at h ⊢
    cases hd : (all[j]?).bind (·.dst) with
    | none => rfl
    | some d =>
      rw [hd] at h
      simp only at h ⊢
      split
      · rename_i b hb
        rw [hb] at h
        simp only at h
        cases hw : b == want with
        | false => rfl
        | true =>
          rw [hw, bB_true] at h
          simp only [bB_true]
          exact coreOb_eq hA h
      · rfl
      · rfl
noncomputable def seqOb (ob : OB) (P : Program) (all : Array Oper) (lt : Bool) (E : EE) (l : List Oper) : ES → List Ob1 :=
  match l with
  | [] => fun _ => []
  | o :: r => fun σ => opOb ob all E o σ ++ (opK P all o).run lt E σ [] (seqOb ob P all lt E r)
theorem seqOb_eq {ob : OB} {A B : EE} (hA : Agr ob A B) {P : Program} {all : Array Oper} {lt : Bool} : ∀ {l : List Oper} {R : Type} {σ : ES} {z : R} {c : ES → R}, AllP (seqOb ob P all lt A l σ) → (seqK P all l).run lt B σ z c = (seqK P all l).run lt A σ z c
  | [], R, σ, z, c, h => rfl
  | o :: r, R, σ, z, c, h => by
    have h : AllP (opOb ob all A o σ ++ (opK P all o).run lt A σ [] (seqOb ob P all lt A r)) := h
    obtain ⟨h1, h2⟩ := allP_app.1 h
    simp only [seqK]
    rw [opOb_eq hA h1, opK_el, opK_el (c := fun σ' => (seqK P all r).run lt A σ' z c)]
    rw [opK_el] at h2
    cases hx : (opK P all o).run lt A σ (none : Option ES) some with
    | none => rfl
    | some σ' =>
      rw [hx] at h2
      exact seqOb_eq hA h2
theorem seqK_el (P : Program) (all : Array Oper) : ∀ (l : List Oper) {R : Type} (lt : Bool) (E : EE) (σ : ES) (z : R) (c : ES → R), (seqK P all l).run lt E σ z c = el ((seqK P all l).run lt E σ none some) z c
  | [], R, lt, E, σ, z, c => rfl
  | o :: r, R, lt, E, σ, z, c => by
    simp only [seqK]
    rw [opK_el, opK_el (c := fun σ' => (seqK P all r).run lt E σ' none some)]
    cases (opK P all o).run lt E σ (none : Option ES) some with
    | none => rfl
    | some σ' => exact seqK_el P all r lt E σ' z c
theorem Agr.hb {ob : OB} {A B : EE} (h : Agr ob A B) : B.hb = A.hb := by funext g; unfold EE.hb; rw [h.isP, h.hcl]
theorem Agr.vb {ob : OB} {A B : EE} (h : Agr ob A B) : B.vb = A.vb := by funext g; unfold EE.vb; rw [h.isP, h.isV]
theorem opE_ob {ob : OB} {A B : EE} (hA : Agr ob A B) {P : Program} {all : Array Oper} {o : Oper} {lt : Bool} {σ : ES} (h : AllP (opOb ob all A o σ)) : opE P B all σ o lt = opE P A all σ o lt := by
  have core : ∀ lt, AllP (coreOb ob A o σ) → coreE P B σ o lt = coreE P A σ o lt := by
    intro lt h
    unfold coreE
    cases hc : isCall o.op with
    | false => rfl
    | true =>
      simp only
      unfold isCall at hc
      split at hc
      · rename_i f args ats ho
        unfold coreOb at h
        rw [ho] at h
        simp only at h
        unfold callOb at h
        rw [evK_eq, gK_eq] at h
        rw [ho]
        simp only [targetE]
        split at h
        · rename_i g caps hg
          rw [hg]
          simp only
          unfold callE
          rw [hA.isP, hA.isV]
          cases hp : A.isP g with
          | true =>
            rw [hp, bB_true] at h
            simp only
            rw [hA.p _ _ h]
          | false =>
            rw [hp, bB_false] at h
            simp only
            cases hv : A.isV g with
            | true =>
              rw [hv, bB_true] at h
              simp only
              rw [hA.v _ _ h]
            | false =>
              rw [hv, bB_false] at h
              simp only
              rw [hA.h _ _ _ _ _ h]
        · rename_i hno
          split
          · rename_i g as hg
            exfalso
            split at hg
            · rename_i g' caps he
              exact hno _ _ he
            · cases hg
          · rfl
      · cases hc
  unfold opE
  unfold opOb at h
  cases hg : o.guard with
  | none => rw [hg] at h; exact core _ h
  | some jw =>
    obtain ⟨j, want⟩ := jw
    rw [hg] at h
    simp only at h ⊢
    unfold gvE
    cases hd : (all[j]?).bind (·.dst) with
    | none => rfl
    | some d =>
      rw [hd] at h
      simp only [evK_eq] at h ⊢
      split
      · rename_i b hb
        rw [hb] at h
        simp only at h
        cases hw : b == want with
        | false => rfl
        | true => rw [hw, bB_true] at h; exact core _ h
      · rfl
      · rfl
def vlR : Value → Bool
  | .bool _ | .int _ _ | .string _ | .slice none 0 0 => true
  | _ => false
mutual
def avR : AV → Bool
  | .sc a => vlR a
  | .ag a | .tu a | .vw _ a | .vp a _ _ | .fn _ a => avRs a
  | .pt .. | .sl .. | .un | .jk => true
def avRs : List AV → Bool
  | [] => true
  | a :: r => avR a && avRs r
end
theorem vlE_refl {v : Value} (h : vlR v = true) : vlE v v = true := by
  unfold vlR at h
  split at h <;> first | (simp [vlE]; done) | cases h
mutual
theorem avE_refl : ∀ a : AV, avR a = true → avE a a = true
  | .sc a, h => by simp only [avR] at h; simp only [avE]; exact vlE_refl h
  | .ag a, h => by simp only [avR] at h; simp only [avE]; exact avEs_refl a h
  | .tu a, h => by simp only [avR] at h; simp only [avE]; exact avEs_refl a h
  | .pt .., _ => by simp [avE]
  | .sl .., _ => by simp [avE]
  | .vw z a, h => by simp only [avR] at h; simp [avE, avEs_refl a h]
  | .vp a i o, h => by simp only [avR] at h; simp [avE, avEs_refl a h]
  | .fn f a, h => by simp only [avR] at h; simp [avE, avEs_refl a h]
  | .un, _ => rfl
  | .jk, _ => rfl
theorem avEs_refl : ∀ l : List AV, avRs l = true → avEs l l = true
  | [], _ => rfl
  | a :: r, h => by
    simp only [avRs, Bool.and_eq_true] at h
    simp only [avEs, avE_refl a h.1, avEs_refl r h.2, Bool.and_self]
end
noncomputable def sameOb (P : Program) (E : EE) (all : Array Oper) (o : Oper) (T : Tr AV) (n : Nat) (T' : Tr AV) (H : Tr Blk) (hn c : Nat) : List Ob1 :=
  bB (isPureE E.isP (evE ⟨T, n, H, hn, c⟩) o.op) [.pr False] (el (opE P E all ⟨T, n, H, hn, c⟩ o false) [.pr False] fun σ1 => match o.dst with
    | some d => bB (Nat.blt d n && avR (T'.get .un d)) [.pr False] [.eq (σ1.T.get .un d) (T'.get .un d)]
    | none => [])
theorem sameE_ob {ob : OB} {A B : EE} (hA : Agr ob A B) {P : Program} {all : Array Oper} {o : Oper} {T T' : Tr AV} {n : Nat} {H : Tr Blk} {hn c : Nat} (h : AllP (opOb ob all A o ⟨T, n, H, hn, c⟩)) (hs : AllP (sameOb P A all o T n T' H hn c)) :
    sameE P B all o T n T' H hn c = true := by
  have no : ¬ AllP [Ob1.pr False] := fun h => h (.pr False) (by simp)
  unfold sameE
  unfold sameOb at hs
  rw [hA.isP, opE_ob hA h]
  cases hp : isPureE A.isP (evE ⟨T, n, H, hn, c⟩) o.op with
  | false => rw [hp, bB_false] at hs; exact absurd hs no
  | true =>
    rw [hp, bB_true] at hs
    simp only
    cases hq : opE P A all ⟨T, n, H, hn, c⟩ o false with
    | none => rw [hq, el_none] at hs; exact absurd hs no
    | some σ1 =>
      rw [hq, el_some] at hs
      cases hd : o.dst with
      | none => rfl
      | some d =>
        rw [hd] at hs
        simp only at hs ⊢
        cases hb : Nat.blt d n && avR (T'.get .un d) with
        | false => rw [hb, bB_false] at hs; exact absurd hs no
        | true =>
          rw [hb, bB_true] at hs
          simp only [Bool.and_eq_true] at hb
          have : σ1.T.get .un d = T'.get .un d := hs (.eq _ _) (List.mem_singleton.2 rfl)
          rw [hb.1]
          simp only
          rw [this]
          exact avE_refl _ hb.2
theorem isVE_ob {ob : OB} {A B : EE} (hA : Agr ob A B) (φ : Operand → AV) (o : Op) : isVE B φ o = isVE A φ o := by unfold isVE; rw [hA.vb]
noncomputable def chkPOb (ob : OB) (P : Program) (A : EE) (ops : Array Oper) (i : Nat) (o : Oper) (T : Tr AV) (n : Nat) (T' : Tr AV) : List PastE → List Ob1
  | [] => []
  | h :: r => bB (gB A.hb ops h.at_ i || isVE A (evE ⟨T, n, .nil, 0, 0⟩) o.op) (opOb ob ops A o ⟨T, n, h.σ.H, h.σ.hn, h.σ.cnt⟩ ++ sameOb P A ops o T n T' h.σ.H h.σ.hn h.σ.cnt) [] ++ chkPOb ob P A ops i o T n T' r
noncomputable def chkFOb (ob : OB) (P : Program) (A : EE) (ops : Array Oper) (k : Nat) (H : Tr Blk) (hn c : Nat) : List DidE → List Ob1
  | [] => []
  | d :: r => bB (gB A.hb ops d.at_ k || isVE A (evE ⟨d.σ.T, d.σ.n, .nil, 0, 0⟩) d.o.op) (opOb ob ops A d.o ⟨d.σ.T, d.σ.n, H, hn, c⟩ ++ sameOb P A ops d.o d.σ.T d.σ.n d.T' H hn c) [] ++ chkFOb ob P A ops k H hn c r
theorem chkPe_ob {ob : OB} {A B : EE} (hA : Agr ob A B) {P : Program} {ops : Array Oper} {i : Nat} {o : Oper} {T T' : Tr AV} {n : Nat} : ∀ {hs : List PastE}, AllP (chkPOb ob P A ops i o T n T' hs) → chkPe P B ops i o T n T' hs = true
  | [], _ => rfl
  | h :: r, hc => by
    obtain ⟨h1, h2⟩ := allP_app.1 hc
    simp only [chkPe]
    rw [chkPe_ob hA h2, hA.hb, isVE_ob hA]
    cases hg : gB A.hb ops h.at_ i with
    | true => simp only [Bool.true_or, Bool.and_self]
    | false =>
      cases hv : isVE A (evE ⟨T, n, .nil, 0, 0⟩) o.op with
      | true => simp only [Bool.true_or, Bool.or_true, Bool.and_self]
      | false =>
        rw [hg, hv] at h1
        obtain ⟨k1, k2⟩ := allP_app.1 h1
        rw [sameE_ob hA k1 k2]
        rfl
theorem chkFe_ob {ob : OB} {A B : EE} (hA : Agr ob A B) {P : Program} {ops : Array Oper} {k : Nat} {H : Tr Blk} {hn c : Nat} : ∀ {ds : List DidE}, AllP (chkFOb ob P A ops k H hn c ds) → chkFe P B ops k H hn c ds = true
  | [], _ => rfl
  | d :: r, hc => by
    obtain ⟨h1, h2⟩ := allP_app.1 hc
    simp only [chkFe]
    rw [chkFe_ob hA h2, hA.hb, isVE_ob hA]
    cases hg : gB A.hb ops d.at_ k with
    | true => simp only [Bool.true_or, Bool.and_self]
    | false =>
      cases hv : isVE A (evE ⟨d.σ.T, d.σ.n, .nil, 0, 0⟩) d.o.op with
      | true => simp only [Bool.true_or, Bool.or_true, Bool.and_self]
      | false =>
        rw [hg, hv] at h1
        obtain ⟨k1, k2⟩ := allP_app.1 h1
        rw [sameE_ob hA k1 k2]
        rfl
noncomputable def runDPL (P : Program) (E : EE) (ops : Array Oper) : List Oper → Nat → ES → Nat → Option ES
  | [], _, σ, _ => some σ
  | o :: r, i, σ, u => el (opX P E ops σ o) none fun σ' =>
    bB (hopB E.hb o.op)
      (bB (noHeapB o.op)
        (bB (isPureE E.isP (evK σ) o.op || isVE E (evK σ) o.op) none (runDPL P E ops r (i + 1) σ' u))
        (runDPL P E ops r (i + 1) σ' u))
      (bB (bornE E.hb ops i σ' o.op && Nat.blt 0 σ'.hn) none (runDPL P E ops r (i + 1) σ' u))
noncomputable def runDPOb (ob : OB) (P : Program) (A : EE) (ops : Array Oper) : List Oper → Nat → ES → List PastE → List DidE → List Ob1
  | [], _, _, _, _ => []
  | o :: r, i, σ, hs, ds => opOb ob ops A o σ ++ el (opX P A ops σ o) [] fun σ' =>
    bB (hopB A.hb o.op)
      (bB (noHeapB o.op) (chkPOb ob P A ops i o σ.T σ.n σ'.T hs ++ runDPOb ob P A ops r (i + 1) σ' hs (⟨i, o, σ, σ'.T⟩ :: ds)) (runDPOb ob P A ops r (i + 1) σ' hs ds))
      (chkFOb ob P A ops i σ'.H σ'.hn σ'.cnt ds ++ runDPOb ob P A ops r (i + 1) σ' (⟨i, σ⟩ :: hs) ds)
theorem runDPK_ob {ob : OB} {A B : EE} (hA : Agr ob A B) {P : Program} {ops : Array Oper} : ∀ {l : List Oper} {i : Nat} {σ : ES} {hs : List PastE} {ds : List DidE}, AllP (runDPOb ob P A ops l i σ hs ds) → runDPK P B ops l i σ hs ds = runDPL P A ops l i σ 0
  | [], i, σ, hs, ds, h => rfl
  | o :: r, i, σ, hs, ds, h => by
    obtain ⟨h1, h2⟩ := allP_app.1 h
    simp only [runDPK, runDPL]
    have hx : opX P B ops σ o = opX P A ops σ o := opOb_eq hA h1
    rw [hx]
    cases hq : opX P A ops σ o with
    | none => rfl
    | some σ' =>
      rw [hq, el_some] at h2
      simp only [el_some]
      rw [hA.hb, hA.isP, isVE_ob hA]
      cases hh : hopB A.hb o.op with
      | true =>
        rw [hh, bB_true] at h2
        simp only [bB_true]
        rw [chkFe_ob hA (allP_app.1 h2).1, runDPK_ob hA (allP_app.1 h2).2, Bool.true_and]
      | false =>
        rw [hh, bB_false] at h2
        simp only [bB_false]
        cases hn : noHeapB o.op with
        | true =>
          rw [hn, bB_true] at h2
          simp only [bB_true]
          rw [runDPK_ob hA h2]
        | false =>
          rw [hn, bB_false] at h2
          simp only [bB_false]
          rw [chkPe_ob hA (allP_app.1 h2).1, runDPK_ob hA (allP_app.1 h2).2, Bool.and_true]
theorem coreOb_no {ob : OB} {A : EE} {o : Oper} {σ : ES} (h : isCall o.op = false) : coreOb ob A o σ = [] := by
  unfold coreOb
  split
  · rename_i f args ats ho
    rw [ho] at h
    cases h
  · rfl
theorem opOb_no {ob : OB} {all : Array Oper} {A : EE} {o : Oper} {σ : ES} (h : isCall o.op = false) : opOb ob all A o σ = [] := by
  unfold opOb
  rw [coreOb_no h]
  split
  · rfl
  · split
    · split
      · rename_i b _
        cases b == _ <;> rfl
      · rfl
    · rfl
theorem seqOb_no {ob : OB} {P : Program} {all : Array Oper} {lt : Bool} {A : EE} : ∀ {l : List Oper} {σ : ES}, l.any (fun o => isCall o.op) = false → AllP (seqOb ob P all lt A l σ)
  | [], σ, _ => fun p hp => by cases hp
  | o :: r, σ, h => by
    simp only [List.any_cons, Bool.or_eq_false_iff] at h
    show AllP (opOb ob all A o σ ++ (opK P all o).run lt A σ [] (seqOb ob P all lt A r))
    rw [opOb_no h.1, List.nil_append, opK_el]
    cases hx : (opK P all o).run lt A σ (none : Option ES) some with
    | none => exact fun p hp => by cases hp
    | some σ' => exact seqOb_no h.2
noncomputable def regOb (ob : OB) (P : Program) (A : EE) (id : Nat) (ops : Array Oper) (dr : Bool) (σ : ES) : List Ob1 :=
  match dr with
  | false => bB (ops.toList.any fun o => isCall o.op) [] (seqOb ob P ops A.lit A ops.toList σ)
  | true => match A.perm id with
    | none => runDPOb ob P A ops ops.toList 0 σ [] []
    | some [] => []
    | some (i :: π) => runDPOb ob P A (permA ops (i :: π)) (permA ops (i :: π)).toList 0 σ [] []
noncomputable def regL (P : Program) (id : Nat) (ops : Array Oper) (dr : Bool) : GFn :=
  match dr with
  | false => ⟨fun E σ z c => (seqK P ops ops.toList).run E.lit E σ z c⟩
  | true => ⟨fun E σ z c => el (match E.perm id with
    | none => runDPL P E ops ops.toList 0 σ 0
    | some [] => none
    | some (i :: π) => runDPL P E (permA ops (i :: π)) (permA ops (i :: π)).toList 0 σ 0) z c⟩
theorem regK_ob {ob : OB} {A B : EE} (hA : Agr ob A B) {P : Program} {id : Nat} {ops : Array Oper} {dr : Bool} {σ : ES} {R : Type} {z : R} {c : ES → R} (h : AllP (regOb ob P A id ops dr σ)) : (regK P id ops dr).run B σ z c = (regL P id ops dr).run A σ z c := by
  unfold regOb at h
  unfold regK regL
  cases dr with
  | false =>
    simp only
    rw [hA.lit]
    refine seqOb_eq hA ?_
    simp only at h
    cases hc : ops.toList.any fun o => isCall o.op with
    | false => exact seqOb_no hc
    | true => rw [hc, bB_true] at h; exact h
  | true =>
    simp only at h ⊢
    rw [hA.perm]
    cases hp : A.perm id with
    | none => rw [hp] at h; simp only at h ⊢; rw [runDPK_ob hA h]
    | some π =>
      cases π with
      | nil => rfl
      | cons i π => rw [hp] at h; simp only at h ⊢; rw [runDPK_ob hA h]
theorem regL_el (P : Program) (id : Nat) (ops : Array Oper) (dr : Bool) {R : Type} (E : EE) (σ : ES) (z : R) (c : ES → R) : (regL P id ops dr).run E σ z c = el ((regL P id ops dr).run E σ none some) z c := by
  unfold regL
  cases dr with
  | false => exact seqK_el P ops ops.toList E.lit E σ z c
  | true => simp only [el_id]
noncomputable def stepL (P : Program) (x : Item) : TFn :=
  match x with
  | .code (.region id ops dr) => ⟨fun E k σ z c => (regL P id ops dr).run E σ z fun σ' => c k σ'⟩
  | x => stepT P x
noncomputable def stepOb (ob : OB) (P : Program) (A : EE) (x : Item) (σ : ES) : List Ob1 :=
  match x with
  | .code (.region id ops dr) => regOb ob P A id ops dr σ
  | _ => []
theorem stepT_ob {ob : OB} {A B : EE} (hA : Agr ob A B) {P : Program} {x : Item} {k : List Item} {σ : ES} {R : Type} {z : R} {c : List Item → ES → R} (h : AllP (stepOb ob P A x σ)) : (stepT P x).run B k σ z c = (stepL P x).run A k σ z c := by
  unfold stepOb at h
  unfold stepL
  split at h
  · exact regK_ob hA h
  · rename_i hno
    cases x with
    | code c0 => cases c0 <;> first | rfl | exact absurd rfl (hno _ _ _)
    | _ => rfl
theorem stepK_T (P : Program) (x : Item) (E : EE) (k : List Item) (σ : ES) (c : List Item → ES → Option (AV × ES)) : (stepK P x).run E k σ c = (stepT P x).run E k σ none c := by
  cases x with
  | code c0 => cases c0 <;> rfl
  | _ => rfl
theorem stepL_el (P : Program) (x : Item) {R : Type} (E : EE) (k : List Item) (σ : ES) (z : R) (c : List Item → ES → R) :
    (stepL P x).run E k σ z c = el ((stepL P x).run E k σ none fun k σ => some (k, σ)) z fun q => c q.1 q.2 := by
  unfold stepL
  split
  · simp only
    rw [regL_el, regL_el (c := fun σ' => some (k, σ'))]
    cases (regL P _ _ _).run E σ (none : Option ES) some <;> rfl
  · rename_i hno
    cases x with
    | code c0 =>
      cases c0 with
      | region id ops dr => exact absurd rfl (hno id ops dr)
      | cond b a1 a2 =>
        simp only [stepT]
        split
        · rename_i t ht
          cases t <;> rfl
        · rfl
      | exit id =>
        simp only [stepT]
        cases exitTo id k <;> rfl
      | _ => rfl
    | _ => rfl
noncomputable def runL (P : Program) (E : EE) (rs : List ResultVar) (n : Nat) : List Item → ES → Option (AV × ES) :=
  Nat.rec (motive := fun _ => List Item → ES → Option (AV × ES)) (fun _ _ => none)
    (fun _ ih k σ => List.rec (motive := fun _ => Option (AV × ES)) (finK P rs σ) (fun x k' _ => bB (isRet x) ((stepL P x).run E k' σ none ih) (finK P rs σ)) k) n
noncomputable def runOb (ob : OB) (P : Program) (A : EE) (n : Nat) : List Item → ES → List Ob1 :=
  Nat.rec (motive := fun _ => List Item → ES → List Ob1) (fun _ _ => [])
    (fun _ ih k σ => List.rec (motive := fun _ => List Ob1) [] (fun x k' _ => bB (isRet x) (stepOb ob P A x σ ++ (stepL P x).run A k' σ [] ih) []) k) n
theorem runK_ob {ob : OB} {A B : EE} (hA : Agr ob A B) {P : Program} {rs : List ResultVar} : ∀ {n : Nat} {k : List Item} {σ : ES}, AllP (runOb ob P A n k σ) → runK P B rs n k σ = runL P A rs n k σ
  | 0, k, σ, h => rfl
  | n + 1, [], σ, h => rfl
  | n + 1, x :: k, σ, h => by
    have h : AllP (bB (isRet x) (stepOb ob P A x σ ++ (stepL P x).run A k σ [] (runOb ob P A n)) []) := h
    show bB (isRet x) ((stepK P x).run B k σ (runK P B rs n)) (finK P rs σ) = bB (isRet x) ((stepL P x).run A k σ none (runL P A rs n)) (finK P rs σ)
    cases hx : isRet x with
    | true => rfl
    | false =>
      rw [hx, bB_false] at h
      simp only [bB_false]
      rw [stepK_T, stepT_ob hA (allP_app.1 h).1, stepL_el, stepL_el (c := runL P A rs n)]
      have h2 := (allP_app.1 h).2
      rw [stepL_el] at h2
      cases hq : (stepL P x).run A k σ (none : Option (List Item × ES)) fun k σ => some (k, σ) with
      | none => rfl
      | some q =>
        rw [hq] at h2
        exact runK_ob hA h2
noncomputable def callL (P : Program) (t : TabE) (E : EE) (f : Nat) (args : List AV) (H : Tr Blk) (hn cnt : Nat) : Option (AV × ES) :=
  match t.ok f with
  | true => match P.funcs[f]? with
    | some fn => match fn.body with
      | some c => match Nat.ble args.length fn.ntmps with
        | true => match Tr.setAll (Tr.rep .un 12 fn.ntmps) 0 args with
          | some T => runL P E fn.results.toList fuelI [.code c] ⟨T, fn.ntmps, H, hn, cnt⟩
          | none => none
        | false => none
      | none => none
    | none => none
  | false => none
noncomputable def callKOb (ob : OB) (P : Program) (t : TabE) (A : EE) (f : Nat) (args : List AV) (H : Tr Blk) (hn cnt : Nat) : List Ob1 :=
  match t.ok f with
  | true => match P.funcs[f]? with
    | some fn => match fn.body with
      | some c => match Nat.ble args.length fn.ntmps with
        | true => match Tr.setAll (Tr.rep .un 12 fn.ntmps) 0 args with
          | some T => runOb ob P A fuelI [.code c] ⟨T, fn.ntmps, H, hn, cnt⟩
          | none => []
        | false => []
      | none => []
    | none => []
  | false => []
theorem callK_ob {ob : OB} {A B : EE} (hA : Agr ob A B) {P : Program} {t : TabE} {f : Nat} {args : List AV} {H : Tr Blk} {hn cnt : Nat} (h : AllP (callKOb ob P t A f args H hn cnt)) : callK P t B f args H hn cnt = callL P t A f args H hn cnt := by
  unfold callKOb at h
  unfold callK callL
  cases h1 : t.ok f with
  | false => rfl
  | true =>
    rw [h1] at h
    simp only at h ⊢
    cases h2 : P.funcs[f]? with
    | none => rfl
    | some fn =>
      rw [h2] at h
      simp only at h ⊢
      cases h3 : fn.body with
      | none => rfl
      | some c =>
        rw [h3] at h
        simp only at h ⊢
        cases h4 : Nat.ble args.length fn.ntmps with
        | false => rfl
        | true =>
          rw [h4] at h
          simp only at h ⊢
          cases h5 : Tr.setAll (Tr.rep AV.un 12 fn.ntmps) 0 args with
          | none => rfl
          | some T =>
            rw [h5] at h
            exact runK_ob hA h
end Go.SX
