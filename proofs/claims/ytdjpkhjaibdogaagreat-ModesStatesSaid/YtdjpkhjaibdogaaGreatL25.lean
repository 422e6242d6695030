/-
  Joined texts: SYF, SXF, SXG.
  Conditions: none.
-/
import Derived.Test.YtdjpkhjaibdogaaGreatL24
import Derived.Test.YtdjpkhjaibdogaaGreatL13
import Derived.ProofKit
import Derived.ChangeOld
import Derived.OpenShut
import Derived.ShutString
namespace Go.SX
set_option linter.unusedSimpArgs false
set_option linter.unusedVariables false
noncomputable def opX (P:Program) (E:EE) (ops:Array Oper) (σ:ES) (o:Oper):Option ES:=(opK P ops o).run false E σ none some
theorem opX_ok {P:Program} {E:EE} (hE:E.Ok) {ops:Array Oper} {σ σ':ES} {o:Oper} (hi:σ.Inv) (h:opX P E ops σ o=some σ'):σ'.Inv∧opStep P E.env ops σ.toS o=some σ'.toS∧σ'.n=σ.n:=by
 rcases opK_ok P ops o (Option ES) false E σ none (some σ') some hE hi h with h | ⟨σ2,q1,q2,q3,q4⟩
 ·cases h
 ·cases q4
  exact ⟨q1,q3,q2⟩
noncomputable def runDPK (P:Program) (E:EE) (ops:Array Oper):List Oper→Nat→ES→List PastE→List DidE→Option ES
 | [],_,σ,_,_=>some σ
 | o::r,i,σ,hs,ds=>el (opX P E ops σ o) none fun σ'=>
  bB (hopB E.hb o.op)
   (bB (noHeapB o.op)
    (bB ((isPureE E.isP (evK σ) o.op || isVE E (evK σ) o.op) && chkPe P E ops i o σ.T σ.n σ'.T hs) none (runDPK P E ops r (i+1) σ' hs (⟨i,o,σ,σ'.T⟩::ds)))
    (runDPK P E ops r (i+1) σ' hs ds))
   (bB (chkFe P E ops i σ'.H σ'.hn σ'.cnt ds && bornE E.hb ops i σ' o.op && Nat.blt 0 σ'.hn) none (runDPK P E ops r (i+1) σ' (⟨i,σ⟩::hs) ds))
theorem runDPK_ok {P:Program} {E:EE} (hE:E.Ok) {ops:Array Oper}:∀ {l:List Oper} {i:Nat} {σ σ1:ES} {hs:List PastE} {ds:List DidE},σ.Inv→(∀ h ∈ hs,h.σ.Inv)→
  runDPK P E ops l i σ hs ds=some σ1→σ1.Inv∧runDPb P E.env E.vb ops l i σ.toS (hs.map PastE.toP) (ds.map DidE.toD)=some σ1.toS
 | [],i,σ,σ1,hs,ds,hi,hp,h=>by simp only [runDPK,Option.some.injEq] at h; subst h; exact ⟨hi,rfl⟩
 | o::r,i,σ,σ1,hs,ds,hi,hp,h=>by
  simp only [runDPK] at h
  obtain ⟨σ',hst,h⟩:=el_no h
  obtain ⟨q1,q2,q3⟩:=opX_ok hE hi hst
  simp only [runDPb,q2]
  rcases bB_el h with ⟨hh,h⟩ | ⟨hh,h⟩
  ·rw [show E.env.hb=E.hb from rfl,hh]
   simp only
   rcases bB_el h with ⟨hn,h⟩ | ⟨hn,h⟩
   ·rw [hn]
    simp only
    obtain ⟨hc,h⟩:=bB_no h
    simp only [Bool.and_eq_true] at hc
    obtain ⟨c1,c2⟩:=hc
    rw [evK_eq,evE_eq,isPureE_eq,isVE_eq] at c1
    have c2:=chkPe_ok hE hp c2
    have e:((isPure E.env σ.toS o.op || isVop E.vb σ.toS o.op) && chkPb P E.env E.vb ops i o σ.toS.T σ'.toS.T (hs.map PastE.toP))=true:=by
     rw [c1,Bool.true_and]
     simp only [ES.toS,q3]
     exact c2
    rw [e]
    simp only
    have:=runDPK_ok hE q1 hp h
    have e2:(DidE.toD ⟨i,o,σ,σ'.T⟩)=⟨i,o,σ.toS.T,σ'.toS.T⟩:=by simp only [DidE.toD,ES.toS,q3]
    rw [List.map_cons,e2] at this
    exact this
   ·rw [hn]
    exact runDPK_ok hE q1 hp h
  ·rw [show E.env.hb=E.hb from rfl,hh]
   simp only
   obtain ⟨hc,h⟩:=bB_no h
   simp only [Bool.and_eq_true] at hc
   obtain ⟨⟨c1,c2⟩,c3⟩:=hc
   have c1:=chkFe_ok hE q1 c1
   have c3:0 < σ'.hn:=by rw [blt_eq] at c3; simpa using c3
   have e:(chkFb P E.env E.vb ops i σ'.toS.H σ'.toS.cnt (ds.map DidE.toD) && bornB E.hb ops i σ'.toS.H o.op)=true:=by
    rw [c1,Bool.true_and]
    cases ho:o.op <;> rw [ho] at c2 <;> try rfl
    simp only [bornE,Bool.or_eq_true] at c2
    simp only [bornB,Bool.or_eq_true]
    refine c2.imp id fun q=>?_
    simp only [ES.toS]
    rw [lastEls_get _ c3]
    exact q
   rw [e]
   simp only
   have:=runDPK_ok hE q1 (hs:=⟨i,σ⟩::hs) (by
    intro x hx
    rcases List.mem_cons.1 hx with rfl | hx
    ·exact hi
    ·exact hp x hx) h
   exact this
structure GFn where
 run:{R:Type}→EE→ES→R→(ES→R)→R
noncomputable def regK (P:Program) (id:Nat) (ops:Array Oper) (dr:Bool):GFn:=
 match dr with
 | false=>⟨fun E σ z c=>(seqK P ops ops.toList).run E.lit E σ z c⟩
 | true=>⟨fun E σ z c=>el (match E.perm id with
  | none=>runDPK P E ops ops.toList 0 σ [] []
  | some []=>none
  | some (i::π)=>runDPK P E (permA ops (i::π)) (permA ops (i::π)).toList 0 σ [] []) z c⟩
theorem regK_go {P:Program} {E:EE} (hE:E.Ok) {n0:Nat} {rs:List ResultVar} {Q:AV→St→Prop} {id:Nat} {ops:Array Oper} {dr:Bool} {σ:ES} {k:List Item} (hi:σ.Inv) {R:Type} {z r:R} {c:ES→R} (h:(regK P id ops dr).run E σ z c=r):
  r=z∨∃ σ',σ'.Inv∧(Go P E.env n0 rs Q k σ'.toS→Go P E.env n0 rs Q (.code (.region id ops dr)::k) σ.toS)∧c σ'=r:=by
 unfold regK at h
 cases dr with
 | false=>
  rcases seqK_ok P ops ops.toList R E.lit E σ z r c hE hi h with h | ⟨σ',q1,q2,q3,q4⟩
  ·exact .inl h
  ·refine .inr ⟨σ',q1,fun ih=>.region ?_ ih,q4⟩
   have:=seqS_eq P ops E.env ops.toList σ.toS
   rw [←this]
   exact q3
 | true=>
  rcases el_el h with h | ⟨σ',hr,h⟩
  ·exact .inl h
  ·refine .inr ⟨σ',?_⟩
   split at hr
   ·rename_i hp
    obtain ⟨q1,q2⟩:=runDPK_ok hE hi (by intro h hh; cases hh) hr
    have q3:=runDPb_ok (vEnvE E) (fun _ h=>by cases h) q2
    refine ⟨q1,fun ih=>?_,h⟩
    cases hh:ops.toList.any heapish with
    | true=>exact .drawH hp hh q3 ih
    | false=>exact .draw hp (pure_of_trace _ _ _ _ hh q3) ih
   ·cases hr
   ·rename_i hp
    obtain ⟨q1,q2⟩:=runDPK_ok hE hi (by intro h hh; cases hh) hr
    exact ⟨q1,fun ih=>.drawP hp (runDPb_ok (vEnvE E) (fun _ h=>by cases h) q2) ih,h⟩
structure SFn where
 run:EE→List Item→ES→(List Item→ES→Option (AV × ES))→Option (AV × ES)
noncomputable def stepK (P:Program) (x:Item):SFn:=
 match x with
 | .code .skip=>⟨fun _ k σ c=>c k σ⟩
 | .code (.seq x y)=>⟨fun _ k σ c=>c (.code x::.code y::k) σ⟩
 | .code (.cond b x y)=>⟨fun _ k σ c=>match evK σ b with
  | .sc (.bool t)=>bB t (c (.code y::k) σ) (c (.code x::k) σ)
  | _=>none⟩
 | .code (.block id a)=>⟨fun _ k σ c=>c (.code a::.inBlock id::k) σ⟩
 | .inBlock _=>⟨fun _ k σ c=>c k σ⟩
 | .code (.loop a)=>⟨fun _ k σ c=>c (.code a::.inLoop a::k) σ⟩
 | .inLoop a=>⟨fun _ k σ c=>c (.code a::.inLoop a::k) σ⟩
 | .code (.exit id)=>⟨fun _ k σ c=>el (exitTo id k) none fun k'=>c k' σ⟩
 | .code (.region id ops dr)=>⟨fun E k σ c=>(regK P id ops dr).run E σ none fun σ'=>c k σ'⟩
 | _=>⟨fun _ _ _ _=>none⟩
noncomputable def finK (P:Program) (rs:List ResultVar) (σ:ES):Option (AV × ES):=el (retE P σ rs) none fun vs=>some (retOne vs,σ)
noncomputable def runK (P:Program) (E:EE) (rs:List ResultVar) (n:Nat):List Item→ES→Option (AV × ES):=
 Nat.rec (motive:=fun _=>List Item→ES→Option (AV × ES)) (fun _ _=>none)
  (fun _ ih k σ=>List.rec (motive:=fun _=>Option (AV × ES)) (finK P rs σ) (fun x k' _=>bB (isRet x) ((stepK P x).run E k' σ ih) (finK P rs σ)) k) n
theorem go_ofK {P:Program} {E:EE} (hE:E.Ok) {n0:Nat} {rs:List ResultVar} {r:AV} {σ1:ES}:∀ {n:Nat} {k:List Item} {σ:ES},σ.Inv→runK P E rs n k σ=some (r,σ1)→
  σ1.Inv∧Go P E.env n0 rs (fun r' s'=>r'=r∧s'=σ1.toS) k σ.toS
 | 0,k,σ,hi,h=>by cases h
 | n+1,[],σ,hi,h=>by
  have h:finK P rs σ=some (r,σ1):=h
  obtain ⟨vs,hv,h⟩:=el_no h
  cases h
  exact ⟨hi,.fin (retE_eq hv) ⟨rfl,rfl⟩⟩
 | n+1,x::k,σ,hi,h=>by
  have h:bB (isRet x) ((stepK P x).run E k σ (runK P E rs n)) (finK P rs σ)=some (r,σ1):=h
  rcases bB_el h with ⟨hx,h⟩ | ⟨hx,h⟩
  ·have ih:∀ {k:List Item} {σ:ES},σ.Inv→runK P E rs n k σ=some (r,σ1)→σ1.Inv∧Go P E.env n0 rs (fun r' s'=>r'=r∧s'=σ1.toS) k σ.toS:=fun hi h=>go_ofK hE hi h
   unfold stepK at h
   split at h
   ·exact (ih hi h).imp id .skip
   ·exact (ih hi h).imp id .seq
   ·simp only at h
    split at h
    ·rename_i t ht
     rw [evK_eq,evE_eq] at ht
     rcases bB_el h with ⟨rfl,h⟩ | ⟨rfl,h⟩
     ·exact (ih hi h).imp id fun q=>.cond false ht q
     ·exact (ih hi h).imp id fun q=>.cond true ht q
    ·cases h
   ·exact (ih hi h).imp id .block
   ·exact (ih hi h).imp id .inBlock
   ·exact (ih hi h).imp id .loop
   ·exact (ih hi h).imp id .inLoop
   ·obtain ⟨k',he,h⟩:=el_no h
    exact (ih hi h).imp id fun q=>.exit he q
   ·rcases regK_go hE (n0:=n0) (rs:=rs) (Q:=fun r' s'=>r'=r∧s'=σ1.toS) (k:=k) hi h with h | ⟨σ',q1,q2,q3⟩
    ·cases h
    ·exact (ih q1 q3).imp id q2
   ·cases h
  ·have hx:x=.code .ret:=by
    unfold isRet at hx
    split at hx
    ·rfl
    ·cases hx
   subst hx
   obtain ⟨vs,hv,h⟩:=el_no h
   cases h
   exact ⟨hi,.ret (retE_eq hv) ⟨rfl,rfl⟩⟩
noncomputable def callK (P:Program) (t:TabE) (E:EE) (f:Nat) (args:List AV) (H:Tr Blk) (hn cnt:Nat):Option (AV × ES):=
 match t.ok f with
 | true=>match P.funcs[f]? with
  | some fn=>match fn.body with
   | some c=>match Nat.ble args.length fn.ntmps with
    | true=>match Tr.setAll (Tr.rep .un 12 fn.ntmps) 0 args with
     | some T=>runK P E fn.results.toList fuelI [.code c] ⟨T,fn.ntmps,H,hn,cnt⟩
     | none=>none
    | false=>none
   | none=>none
  | none=>none
 | false=>none
theorem callK_ok {P:Program} {t:TabE} {E:EE} (hE:E.Ok) {f:Nat} {args:List AV} {H:Tr Blk} {hn cnt:Nat} {r:AV} {σ1:ES} (hf:Tr.Fit H hn) (h:callK P t E f args H hn cnt=some (r,σ1)):
  σ1.Inv∧t.ok f=true∧∃ fn c,P.funcs[f]?=some fn∧fn.body=some c∧∀ n0,Go P E.env n0 fn.results.toList (fun r' s'=>r'=r∧s'=σ1.toS) [.code c] (initSt fn args (H.toL dead hn) cnt):=by
 unfold callK at h
 split at h
 ·rename_i hok
  split at h
  ·rename_i fn hfn
   split at h
   ·rename_i c hc
    split at h
    ·rename_i hlen
     split at h
     ·rename_i T hT
      have hle:args.length≤fn.ntmps:=Nat.le_of_ble_eq_true hlen
      have e:(ES.toS ⟨T,fn.ntmps,H,hn,cnt⟩)=initSt fn args (H.toL dead hn) cnt:=by
       unfold ES.toS initSt
       congr 1
       refine List.ext_getElem? fun j=>?_
       rw [Tr.toL_get,List.getElem?_append,List.getElem?_replicate]
       simp only [Tr.setAll_ok AV.un hT j,Nat.zero_le,true_and,Nat.zero_add,Nat.sub_zero,Tr.rep_get]
       by_cases h1:j < args.length
       ·rw [if_pos (by omega),if_pos h1,if_pos h1,List.getD_eq_getElem?_getD,List.getElem?_eq_getElem h1]; rfl
       ·rw [if_neg h1,if_neg h1]
        by_cases h2:j < fn.ntmps
        ·rw [if_pos h2,if_pos (by omega)]
        ·rw [if_neg h2,if_neg (by omega)]
      have hi:(ES.Inv ⟨T,fn.ntmps,H,hn,cnt⟩):=hf
      refine ⟨(go_ofK hE (n0:=0) hi h).1,hok,fn,c,hfn,hc,fun n0=>?_⟩
      rw [←e]
      exact (go_ofK hE hi h).2
     ·cases h
    ·cases h
   ·cases h
  ·cases h
 ·cases h
def gvn {α:Type} (b:Bool) (x:Option α):Option α:=
 match b with
 | true=>x
 | false=>none
theorem gvn_ok {α:Type} {b:Bool} {x:Option α} {r:α} (h:gvn b x=some r):x=some r:=by
 cases b with
 | true=>exact h
 | false=>cases h
noncomputable def gT (H:Tr Blk) (hn:Nat) (id:Nat):Option Blk:=bB (Nat.blt id hn) none (some (Tr.getN dead H id))
theorem gT_eq (H:Tr Blk) (hn:Nat):gT H hn=fun i=>(H.toL dead hn)[i]?:=by
 funext id
 simp only [gT,Tr.getN_eq,Tr.toL_get,blt_eq]
 by_cases h:id < hn
 ·simp [h,bB_true]
 ·simp [h,bB_false]
mutual
noncomputable def pK (P:Program) (t:TabE) (G:Giv):Nat→Nat→List AV→Option AV
 | 0,_,_=>none
 | n+1,f,args=>match gvn (t.givP f) (G.p f args) with
  | some r=>some r
  | none=>outPE (callK P t (eeOf t (pK P t G n) (vK P t G n) (hK P t G n) f) f args .nil 0 0)
noncomputable def vK (P:Program) (t:TabE) (G:Giv):Nat→Nat→List AV→Option AV
 | 0,_,_=>none
 | n+1,f,args=>match gvn (t.givV f) (G.v f args) with
  | some r=>some r
  | none=>outVE (callK P t (eeOf t (pK P t G n) (vK P t G n) (hK P t G n) f) f args .nil 0 0)
noncomputable def hK (P:Program) (t:TabE) (G:Giv):Nat→Nat→List AV→Tr Blk→Nat→Nat→Option (AV × Tr Blk × Nat × Nat)
 | 0,_,_,_,_,_=>none
 | n+1,f,args,H,hn,cnt=>match gvn (t.givH f) (givT G f args H hn cnt) with
  | some r=>some r
  | none=>match gvn (t.givF f) (G.f f (borGs (gT H hn) args)) with
  | some r=>some (r,H,hn,cnt)
  | none=>outE (t.keep f) hn (callK P t (eeOf t (pK P t G n) (vK P t G n) (hK P t G n) f) f args H hn cnt)
end
noncomputable def eK (P:Program) (t:TabE) (G:Giv) (n f:Nat):EE:=eeOf t (pK P t G n) (vK P t G n) (hK P t G n) f
theorem hK_fit {P:Program} {t:TabE} {G:Giv}:∀ n f,(eK P t G n f).Ok
 | 0,f=>by
  intro g args H hn c r H' n' c' hf h
  simp [eK,eeOf,hK] at h
 | n+1,f=>by
  intro g args H hn c r H' n' c' hf h
  have h:hK P t G (n+1) g args H hn c=some (r,H',n',c'):=h
  simp only [hK] at h
  split at h
  ·rename_i q hq
   cases h
   have h:=gvn_ok hq
   unfold givT at h
   split at h
   ·cases h
    exact Tr.ofL_fit dead _
   ·cases h
  ·split at h
   ·cases h
    exact hf
   ·unfold outE at h
    split at h
    ·rename_i r1 σ1 hc
     have hi:=(callK_ok (hK_fit n g) hf hc).1
     split at h
     ·cases h; exact hi
     ·split at h
      ·rename_i ht
       cases h
       exact (truncE_ok hi ht).1
      ·cases h
    ·cases h
theorem envK_ok {P:Program} {t:TabE} {G:Giv} (hm:P.follows .mixedOrders=true) (ht:TabEOk P t) (hG:GivOk P G):∀ n,(∀ f,EnvOk P (eK P t G n f).env)∧(∀ f args r,vK P t G n f args=some r→VSpec P f args r)
 | 0=>⟨fun f=>⟨fun g args r h=>by simp [eK,eeOf,EE.env,pK] at h,fun g args H cnt r H' cnt' h=>by
   have h:EE.hcall (eK P t G 0 f) g args H cnt=some (r,H',cnt'):=h
   unfold EE.hcall at h
   split at h
   ·have e:(eK P t G 0 f).vc g args=none:=by simp [eK,eeOf,vK]
    rw [e] at h
    cases hq:norefs args <;> rw [hq] at h <;> cases h
   ·unfold hcL at h
    simp [eK,eeOf,hK] at h⟩,fun f args r h=>by simp [vK] at h⟩
 | n+1=>by
  obtain ⟨ih,ihv⟩:=envK_ok hm ht hG n
  have hv:∀ f args r,vK P t G (n+1) f args=some r→VSpec P f args r:=by
   intro g args r h
   simp only [vK] at h
   split at h
   ·rename_i q hq
    cases h
    exact hG.v g args r (gvn_ok hq)
   ·unfold outVE at h
    split at h
    ·rename_i r' σ' hc
     split at h
     ·rename_i hnr
      cases h
      obtain ⟨_,hk,fn,c,hfn,hb,hgo⟩:=callK_ok (hK_fit n g) (H:=.nil) (hn:=0) rfl hc
      obtain ⟨q1,q2⟩:=ht g fn c hk hfn hb
      exact vspecD_of_go (ih g) hm 60 hfn hb q1 q2 hnr (go_mono (hgo 0) fun r' s'' hh=>by obtain ⟨rfl,rfl⟩:=hh; rfl)
     ·cases h
    ·cases h
  refine ⟨fun f=>⟨fun g args r h=>?_,fun g args H cnt r H' cnt' h=>?_⟩,hv⟩
  ·have h:pK P t G (n+1) g args=some r:=h
   simp only [pK] at h
   split at h
   ·rename_i q hq
    cases h
    exact hG.p g args r (gvn_ok hq)
   ·unfold outPE at h
    split at h
    ·rename_i r' σ' hc
     split at h
     ·rename_i hok
      cases h
      obtain ⟨_,hk,fn,c,hfn,hb,hgo⟩:=callK_ok (hK_fit n g) (H:=.nil) (hn:=0) rfl hc
      obtain ⟨q1,q2⟩:=ht g fn c hk hfn hb
      exact pspec_of_go (ih g) hm hfn hb q1 q2 hok (go_mono (hgo 0) fun r' s'' hh=>hh.1)
     ·cases h
    ·cases h
  ·have h:EE.hcall (eK P t G (n+1) f) g args H cnt=some (r,H',cnt'):=h
   unfold EE.hcall at h
   split at h
   ·cases hnr:norefs args with
    | false=>rw [hnr] at h; cases h
    | true=>
     cases hq:(eK P t G (n+1) f).vc g args with
     | none=>rw [hnr,hq] at h; cases h
     | some q=>
      rw [hnr,hq] at h
      cases h
      exact hspec_of_v (hv g args _ hq) hnr H cnt
   ·have h:hcL (hK P t G (n+1)) g args H cnt=some (r,H',cnt'):=h
    unfold hcL at h
    split at h
    ·rename_i r1 H1 n1 c1 hh
     cases h
     simp only [hK] at hh
     split at hh
     ·rename_i q hq
      cases hh
      have hh:=gvn_ok hq
      unfold givT at hh
      split at hh
      ·rename_i r2 H2 c2 hg
       cases hh
       rw [Tr.toL_ofL] at hg
       rw [Tr.toL_ofL]
       exact hG.h g args H cnt _ _ _ hg
      ·cases hh
     ·split at hh
      ·rename_i q hq
       cases hh
       have hq:=gvn_ok hq
       rw [gT_eq,borGs_eq,Tr.toL_ofL] at hq
       rw [Tr.toL_ofL]
       exact hspec_of_f (hG.f g _ _ hq)
      ·unfold outE at hh
       split at hh
       ·rename_i r2 σ2 hc
        obtain ⟨hi,hk,fn,c,hfn,hb,hgo⟩:=callK_ok (hK_fit n g) (Tr.ofL_fit dead H) hc
        obtain ⟨q1,q2⟩:=ht g fn c hk hfn hb
        rw [Tr.toL_ofL] at hgo
        split at hh
        ·cases hh
         exact hspec_of_go (ih g) hm hfn hb q1 q2 (go_mono (hgo H.length) fun r' s'' hh=>by obtain ⟨rfl,rfl⟩:=hh; exact ⟨rfl,rfl,rfl⟩)
        ·split at hh
         ·rename_i H3 n3 htr
          cases hh
          obtain ⟨_,_,t3⟩:=truncE_ok hi htr
          refine hspecW_of_go (ih g) hm hfn hb q1 q2 (go_mono (hgo H.length) fun r' s'' hh=>?_)
          obtain ⟨rfl,rfl⟩:=hh
          refine ⟨.refl _,?_,Nat.le_refl _⟩
          rw [t3]
          have:=wkH_app (σ2.toS.H) (σ2.toS.H.drop n1) (σ2.toS.H.take n1)
          rw [List.take_append_drop] at this
          exact this
         ·cases hh
       ·cases hh
    ·cases h
theorem pspec_ofK {P:Program} {t:TabE} {G:Giv} (hm:P.follows .mixedOrders=true) (ht:TabEOk P t) (hG:GivOk P G) {n f:Nat} {args:List AV} {r:AV} (h:pK P t G n f args=some r):PSpec P f args r:=
 ((envK_ok hm ht hG n).1 0).p f args r h
theorem vspec_ofK {P:Program} {t:TabE} {G:Giv} (hm:P.follows .mixedOrders=true) (ht:TabEOk P t) (hG:GivOk P G) {n f:Nat} {args:List AV} {r:AV} (h:vK P t G n f args=some r):VSpec P f args r:=
 (envK_ok hm ht hG n).2 f args r h
end Go.SX

namespace Go.SX
set_option linter.unusedSimpArgs false
set_option linter.unusedVariables false
open Go.RowKit (Below)
def asV (P:Program) (t:TypeId) (c:List AV):AV:=
 match P.underlying t with
 | some (.struct _) | some (.array _ _)=>.ag c
 | _=>c.headD .un
mutual
inductive HasC (P:Program):TypeId→List AV→Prop
 | bool {t b} (h:P.underlying t=some .bool):HasC P t [.sc (.bool b)]
 | int {t k n} (h:P.underlying t=some (.int k)) (hw:(Lit.int k n).wf=true):HasC P t [.sc (.int k n)]
 | str {t s} (h:P.underlying t=some .string) (hs:s.size≤maxLen):HasC P t [.sc (.string s)]
 | slice {t e} (h:P.underlying t=some (.slice e)) (z:Bool) (ess:List (List AV)) (hs:∀ c ∈ ess,HasC P e c):HasC P t [.vw z (ess.map (asV P e))]
 | struct {t fs cs} (h:P.underlying t=some (.struct fs)) (hf:HasFs P (fs.toList.map (·.type)) cs):HasC P t cs
 | array {t n e cs} (h:P.underlying t=some (.array n e)) (hf:HasFs P (List.replicate n e) cs):HasC P t cs
inductive HasFs (P:Program):List TypeId→List AV→Prop
 | nil:HasFs P [] []
 | cons {t ts c cs} (h:HasC P t c) (hs:HasFs P ts cs):HasFs P (t::ts) (c++cs)
end
def HasV (P:Program) (t:TypeId) (a:AV):Prop:=∃ c,HasC P t c∧a=asV P t c
theorem asV_cells {P:Program} {t:TypeId} {c:List AV} (h:HasC P t c):(asV P t c).cells=c:=by
 cases h with
 | bool h=>simp [asV,h,AV.cells]
 | int h hw=>simp [asV,h,AV.cells]
 | str h hs=>simp [asV,h,AV.cells]
 | slice h z ess hs=>simp [asV,h,AV.cells]
 | struct h hf=>simp [asV,h,AV.cells]
 | array h hf=>simp [asV,h,AV.cells]
def ctg (P:Program):List (Nat × TypeId)→Nat→Nat→Bool
 | [],off,tot=>off == tot
 | (o,t)::r,off,tot=>o == off && ctg P r (off+P.cellsOf t) tot
def okT (P:Program):Nat→TypeId→Bool
 | 0,_=>false
 | d+1,t=>match P.underlying t with
  | some .bool | some (.int _) | some .string=>true
  | some (.slice e)=>okT P d e && decide (0 < P.cellsOf e)
  | some (.struct fs)=>fs.toList.all (fun f=>okT P d f.type) && ctg P (fs.toList.map fun f=>(f.offset,f.type)) 0 (P.cellsOf t)
  | some (.array n e)=>okT P d e && ctg P ((List.range n).map fun i=>(i * P.cellsOf e,e)) 0 (P.cellsOf t)
  | _=>false
def Rel (w:World) (cs:List AV) (vs:List Value):Prop:=
 cs.length=vs.length∧∀ (j:Nat) (a:AV) (v:Value),cs[j]?=some a→vs[j]?=some v→(∀ o,VR w noX o a v)∧v.oneCell'=true
theorem Rel.one {w:World} {a:AV} {v:Value} (h:∀ o,VR w noX o a v) (h1:v.oneCell'=true):Rel w [a] [v]:=by
 refine ⟨rfl,fun j b u hb hu=>?_⟩
 cases j with
 | zero=>simp at hb hu; subst hb; subst hu; exact ⟨h,h1⟩
 | succ j=>simp at hb
theorem Rel.append {w:World} {cs cs':List AV} {vs vs':List Value} (h:Rel w cs vs) (h':Rel w cs' vs'):Rel w (cs++cs') (vs++vs'):=by
 refine ⟨by simp [h.1,h'.1],fun j b u hb hu=>?_⟩
 rw [List.getElem?_append] at hb hu
 rw [h.1] at hb
 split at hb
 ·rename_i hi; rw [if_pos hi] at hu; exact h.2 j b u hb hu
 ·rename_i hi; rw [if_neg hi] at hu; exact h'.2 _ b u hb hu
section
variable {H:Type} {enc:TypeId × Value→H} {P:Program} {w:World}
theorem add_none (b off n:Nat):(⟨b,off,none⟩:Addr).add n=⟨b,off+n,none⟩:=by
 unfold Addr.add
 split
 ·rename_i h; subst h; rfl
 ·rfl
theorem parts_has {fuel D:Nat} {vcs:List Value} (ih:∀ t cs d ps,okT P D t=true→DataW.trod enc P w 0 (fun _=>true) true fuel t cs=some (d,ps)→∃ c,HasC P t c∧Rel w c cs):
  ∀ (l:List (Nat × TypeId)) (off:Nat) (xs:List (DataW H × List MemPlace)),ctg P l off vcs.length=true→(∀ p ∈ l,okT P D p.2=true)→
   l.mapM (fun p=>DataW.trod enc P w 0 (fun _=>true) true fuel p.2 ((vcs.drop p.1).take (P.cellsOf p.2)))=some xs→∃ cs,HasFs P (l.map (·.2)) cs∧Rel w cs (vcs.drop off)
 | [],off,xs,hc,_,_=>by
  simp only [ctg,beq_iff_eq] at hc
  refine ⟨[],.nil,?_⟩
  rw [List.drop_eq_nil_of_le (by omega)]
  exact ⟨rfl,fun j a v h=>by simp at h⟩
 | (o,t)::r,off,xs,hc,hk,hm=>by
  simp only [ctg,Bool.and_eq_true,beq_iff_eq] at hc
  obtain ⟨rfl,hc⟩:=hc
  rw [List.mapM_cons] at hm
  simp only [Option.bind_eq_bind,Option.bind_eq_some_iff] at hm
  obtain ⟨x,hx,ys,hys,_⟩:=hm
  obtain ⟨c,h1,h2⟩:=ih t _ x.1 x.2 (hk _ List.mem_cons_self) hx
  obtain ⟨cs,h3,h4⟩:=parts_has ih r (o+P.cellsOf t) ys hc (fun p hp=>hk p (List.mem_cons_of_mem _ hp)) hys
  refine ⟨c++cs,.cons h1 h3,?_⟩
  have:vcs.drop o=(vcs.drop o).take (P.cellsOf t)++vcs.drop (o+P.cellsOf t):=by
   rw [←List.drop_drop,List.take_append_drop]
  rw [this]
  exact h2.append h4
theorem mapM_map' {α β γ:Type} (f:β→Option γ) (g:α→β):∀ l:List α,(l.map g).mapM f=l.mapM (fun x=>f (g x))
 | []=>rfl
 | x::l=>by rw [List.map_cons,List.mapM_cons,List.mapM_cons,mapM_map' f g l]
theorem slice_has {fuel D:Nat} {t e:TypeId} {ad:Addr} {len cap:Nat} {xs:List (DataW H × List MemPlace)} (ih:∀ t cs d ps,okT P D t=true→DataW.trod enc P w 0 (fun _=>true) true fuel t cs=some (d,ps)→∃ c,HasC P t c∧Rel w c cs)
  (hu:P.underlying t=some (.slice e)) (hk:okT P D e=true) (hpos:0 < P.cellsOf e) (hl:len≤cap) (hm:cap≤maxLen)
  (hxs:(List.range len).mapM (fun i=>(w.cells? 0 (ad.add (i * P.cellsOf e)) (P.cellsOf e)).bind (DataW.trod enc P w 0 (fun _=>true) true fuel e))=some xs):
  ∃ c,HasC P t c∧Rel w c [.slice (some ad) len cap]:=by
 by_cases h0:len=0
 ·subst h0
  exact ⟨_,.slice hu false [] (by simp),.one (fun o=>.vw0 (fun h=>by cases h) hm) rfl⟩
 have hel:∀ i,i < len→∃ c vs,HasC P e c∧Rel w c vs∧w.cells? 0 (ad.add (i * P.cellsOf e)) (P.cellsOf e)=some vs:=by
  intro i hi
  have:=mapM_some_get hxs i i (by simp [hi])
  have hlen:=mapM_some_length hxs
  simp only [List.length_range] at hlen
  have hx:xs[i]?=some xs[i]:=List.getElem?_eq_getElem (by omega)
  rw [hx] at this
  simp only [Option.bind_eq_some_iff] at this
  obtain ⟨vs,h1,h2⟩:=this
  obtain ⟨c,h3,h4⟩:=ih e vs _ _ hk h2
  exact ⟨c,vs,h3,h4,h1⟩

 obtain ⟨b,off,sp⟩:=ad
 have hsp:sp=none:=by
  obtain ⟨c,vs,_,_,h⟩:=hel 0 (by omega)
  obtain ⟨_,h2,h3⟩:=World.cells?_some h
  have h4:=h3 0 hpos
  have:vs[0]?=some vs[0]:=List.getElem?_eq_getElem (by omega)
  rw [this] at h4
  simpa [Addr.add] using World.cell?_spot h4
 subst hsp
 have hel2:∀ i,∃ c,i < len→HasC P e c∧c.length=P.cellsOf e∧∀ j,j < P.cellsOf e→∃ v,w.cell? ⟨b,off+i * P.cellsOf e+j,none⟩=some v∧v.oneCell'=true∧∀ a,c[j]?=some a→∀ o,VR w noX o a v:=by
  intro i
  by_cases hi:i < len
  ·obtain ⟨c,vs,h1,h2,h3⟩:=hel i hi
   obtain ⟨_,h4,h5⟩:=World.cells?_some h3
   refine ⟨c,fun _=>⟨h1,h2.1.trans h4,fun j hj=>?_⟩⟩
   have h6:=h5 j hj
   rw [add_none,add_none] at h6
   have hv:vs[j]?=some vs[j]:=List.getElem?_eq_getElem (by omega)
   have hc:c[j]?=some (c[j]'(by rw [h2.1]; omega)):=List.getElem?_eq_getElem _
   rw [hv] at h6
   exact ⟨_,h6,(h2.2 j _ _ hc hv).2,fun a ha=>(h2.2 j _ _ ha hv).1⟩
  ·exact ⟨[],fun h=>absurd h hi⟩
 let g:Nat→List AV:=fun i=>Classical.choose (hel2 i)
 have hg:∀ i,i < len→HasC P e (g i)∧(g i).length=P.cellsOf e∧∀ j,j < P.cellsOf e→∃ v,w.cell? ⟨b,off+i * P.cellsOf e+j,none⟩=some v∧v.oneCell'=true∧∀ a,(g i)[j]?=some a→∀ o,VR w noX o a v:=
  fun i hi=>Classical.choose_spec (hel2 i) hi
 let ess:=(List.range len).map g
 have hess:∀ i,i < len→ess[i]?=some (g i):=fun i hi=>by simp [ess,hi]
 have hlen:ess.length=len:=by simp [ess]
 have hmem:∀ c ∈ ess,∃ i,i < len∧c=g i:=fun c hc=>by
  obtain ⟨i,hi,rfl⟩:=List.mem_map.1 hc
  exact ⟨i,by simpa using hi,rfl⟩
 refine ⟨_,.slice hu false ess (fun c hc=>by obtain ⟨i,hi,rfl⟩:=hmem c hc; exact (hg i hi).1),.one (fun o=>?_) rfl⟩
 have hcell:∀ i j,i < len→j < P.cellsOf e→w.cell? ⟨b,off+i * P.cellsOf e+j,none⟩=some ((w.cell? ⟨b,off+i * P.cellsOf e+j,none⟩).getD undef)∧((w.cell? ⟨b,off+i * P.cellsOf e+j,none⟩).getD undef).oneCell'=true:=by
  intro i j hi hj
  obtain ⟨v,h1,h2,_⟩:=(hg i hi).2.2 j hj
  rw [h1]; exact ⟨rfl,h2⟩
 have hget:∀ i x,(ess.map (asV P e))[i]?=some x→i < len∧x=asV P e (g i):=by
  intro i x hx
  have hi:i < len:=by
   have:=(List.getElem?_eq_some_iff.1 hx).1
   simpa [hlen] using this
  refine ⟨hi,?_⟩
  rw [List.getElem?_map,hess i hi] at hx
  simpa using hx.symm
 have:=VR.vw1 (w:=w) (X:=noX) (o:=o) (z:=false) (es:=ess.map (asV P e)) (b:=b) (base:=off) (cap:=cap) (esz:=P.cellsOf e)
  (fun i j=>(w.cell? ⟨b,off+i * P.cellsOf e+j,none⟩).getD undef)
  (by intro h; have:=congrArg List.length h; simp [hlen] at this; omega) (fun h=>h.elim)
  (World.block_lt_of_cell? w ⟨b,off+0 * P.cellsOf e+0,none⟩ (hcell 0 0 (by omega) hpos).1) (by simpa [hlen] using hl) (fun h=>by cases h) hm
  (fun x hx=>by
   obtain ⟨c,hc,rfl⟩:=List.mem_map.1 hx
   obtain ⟨i,hi,rfl⟩:=hmem c hc
   rw [asV_cells (hg i hi).1]; exact (hg i hi).2.1)
  (fun i j hi hj=>hcell i j (by simpa [hlen] using hi) hj)
  (fun i x j a hx ha=>by
   obtain ⟨hi,rfl⟩:=hget i x hx
   rw [asV_cells (hg i hi).1] at ha
   have hj:j < P.cellsOf e:=by
    have:=(List.getElem?_eq_some_iff.1 ha).1
    rw [(hg i hi).2.1] at this
    exact this
   obtain ⟨v,h1,h2,h3⟩:=(hg i hi).2.2 j hj
   simp only [h1,Option.getD_some]
   exact h3 a ha none)
 simpa [hlen] using this
theorem trod_has:∀ (fuel D:Nat) (t:TypeId) (vcs:List Value) (d:DataW H) (ps:List MemPlace),okT P D t=true→
  DataW.trod enc P w 0 (fun _=>true) true fuel t vcs=some (d,ps)→∃ c,HasC P t c∧Rel w c vcs
 | 0,D,t,vcs,d,ps,hk,h=>by simp [DataW.trod] at h
 | fuel+1,0,t,vcs,d,ps,hk,h=>by simp [okT] at hk
 | fuel+1,D+1,t,vcs,d,ps,hk,h=>by
  have ih:=trod_has fuel D
  unfold DataW.trod at h
  unfold okT at hk
  split at hk
  ·rename_i hu
   rw [hu] at h
   split at h <;> simp_all
   exact ⟨_,.bool hu,.one (fun o=>.sc rfl) rfl⟩
  ·rename_i k hu
   rw [hu] at h
   split at h <;> simp_all
   obtain ⟨⟨rfl,hw⟩,_⟩:=h
   exact ⟨_,.int hu hw,.one (fun o=>.sc rfl) rfl⟩
  ·rename_i hu
   rw [hu] at h
   split at h <;> simp_all
   exact ⟨_,.str hu h.1,.one (fun o=>.sc rfl) rfl⟩
  ·rename_i e hu
   rw [hu] at h
   simp only [Bool.and_eq_true,decide_eq_true_eq] at hk
   obtain ⟨hk,hpos⟩:=hk
   split at h
   all_goals first | (rename_i hq; cases hq; done) | skip
   ·simp only [Option.some.injEq,Prod.mk.injEq] at h
    exact ⟨_,.slice hu true [] (by simp),.one (fun o=>.vw0 (fun _=>rfl) (by simp [maxLen])) rfl⟩
   ·rename_i e' ad len cap h1
    cases h1
    simp only at h
    split at h
    rotate_left
    ·cases h
    rename_i hh
    obtain ⟨_,hl,hm⟩:=hh
    simp only [Option.bind_eq_some_iff] at h
    obtain ⟨xs,hxs,_⟩:=h
    exact slice_has ih hu hk hpos hl hm hxs
   ·cases h
  ·rename_i fs hu
   rw [hu] at h
   simp only [Bool.and_eq_true,List.all_eq_true] at hk
   obtain ⟨hk,hc⟩:=hk
   split at h
   all_goals first | (rename_i hq; cases hq; done) | skip
   ·rename_i fs' h1
    cases h1
    split at h
    rotate_left
    ·cases h
    rename_i hl
    simp only [Option.map_eq_some_iff] at h
    obtain ⟨xs,hxs,_⟩:=h
    have:=parts_has (w:=w) ih (fs.toList.map fun f=>(f.offset,f.type)) 0 xs (by rw [hl]; exact hc) (by
     intro p hp
     obtain ⟨f,hf,rfl⟩:=List.mem_map.1 hp
     exact hk f hf) (by rw [mapM_map']; exact hxs)
    obtain ⟨cs,g1,g2⟩:=this
    rw [List.map_map] at g1
    exact ⟨cs,.struct hu g1,by simpa using g2⟩
   ·exact absurd rfl (‹∀ (gs:Array Field),some (TypeDesc.struct fs)=some (TypeDesc.struct gs)→False› fs)
  ·rename_i n e hu
   rw [hu] at h
   simp only [Bool.and_eq_true] at hk
   obtain ⟨hk,hc⟩:=hk
   split at h
   all_goals first | (rename_i hq; cases hq; done) | skip
   ·rename_i n' e' h1
    cases h1
    split at h
    rotate_left
    ·cases h
    rename_i hl
    simp only [Option.map_eq_some_iff] at h
    obtain ⟨xs,hxs,_⟩:=h
    have:=parts_has (w:=w) ih ((List.range n).map fun i=>(i * P.cellsOf e,e)) 0 xs (by rw [hl]; exact hc) (by
     intro p hp
     obtain ⟨f,hf,rfl⟩:=List.mem_map.1 hp
     exact hk) (by rw [mapM_map']; exact hxs)
    obtain ⟨cs,g1,g2⟩:=this
    have e1:List.map (fun x:Nat × TypeId=>x.2) (List.map (fun i=>(i * P.cellsOf e,e)) (List.range n))=List.replicate n e:=by
     rw [List.map_map]
     exact List.eq_replicate_iff.2 ⟨by simp,by simp⟩
    rw [e1] at g1
    exact ⟨cs,.array hu g1,by simpa using g2⟩
   ·exact absurd rfl (‹∀ (m:Nat) (u:TypeId),some (TypeDesc.array n e)=some (TypeDesc.array m u)→False› n e)
  ·cases hk
end
end Go.SX

namespace Go.SX
set_option linter.unusedSimpArgs false
set_option linter.unusedVariables false
open Go.RowKit (Below)
open Go.ChangeShapes Go.WideShapes Go.ChangeAt Go.RowKit
open Go.ChangeMaps (open_string shut_string)
section
variable {H:Type} {enc:TypeId × Value→H} {P:Program} {w:World} {base D:Nat} {t:TypeId} {v:Value} {d:DataW H} {p:List MemPlace}
theorem rel_one {c:List AV} (h:Rel w c [v]) (o:Option HC):VR w noX o (c.headD .un) v:=by
 obtain ⟨h1,h2⟩:=h
 match c,h1 with
 | [a],_=>exact (h2 0 a v rfl rfl).1 o
theorem rel_ag {c:List AV} {cs:Array Value} (h:Rel w c cs.toList) (o:Option HC):VR w noX o (.ag c) (.agg cs):=by
 have:=VR.ag (w:=w) (X:=noX) (o:=o) (cs:=c) (vs:=cs.toList) h.1 (fun i a v ha hv=>(h.2 i a v ha hv).1 o) (fun v hv=>by
  obtain ⟨i,hi⟩:=List.mem_iff_getElem?.1 hv
  have hi':i < c.length:=by rw [h.1]; exact (List.getElem?_eq_some_iff.1 hi).1
  exact (h.2 i _ v (List.getElem?_eq_getElem hi') hi).2)
 simpa using this
theorem arg_ok (hk:okT P D t=true) (hok:Value.okWide P w .any base t v) (h:DataW.Trod enc P w 0 (fun _=>true) true t v d p):∃ a,HasV P t a∧∀ o,VR w noX o a v:=by
 have h0:=h
 obtain ⟨fuel,hf⟩:=h
 obtain ⟨c,h1,h2⟩:=trod_has fuel D t _ d p hk hf
 refine ⟨asV P t c,⟨c,h1,rfl⟩,fun o=>?_⟩
 cases D with
 | zero=>simp [okT] at hk
 | succ D=>
  unfold okT at hk
  split at hk
  ·rename_i hu
   obtain ⟨a,rfl,rfl,rfl⟩:=open_bool hu hok h0
   simp only [asV,hu]
   exact rel_one h2 o
  ·rename_i k hu
   obtain ⟨a,rfl,rfl,rfl,_⟩:=open_int hu hok h0
   simp only [asV,hu]
   exact rel_one h2 o
  ·rename_i hu
   obtain ⟨a,rfl,rfl,rfl,_⟩:=open_string hu hok h0
   simp only [asV,hu]
   exact rel_one h2 o
  ·rename_i e hu
   obtain ⟨a,len,cap,rfl⟩:=okWide_slice hu hok
   simp only [asV,hu]
   exact rel_one h2 o
  ·rename_i fs hu
   unfold Value.okWide at hok
   rw [hu] at hok
   obtain ⟨cs,rfl,_⟩:=hok
   simp only [asV,hu]
   exact rel_ag h2 o
  ·rename_i n e hu
   unfold Value.okWide at hok
   rw [hu] at hok
   obtain ⟨cs,rfl,_⟩:=hok
   simp only [asV,hu]
   exact rel_ag h2 o
  ·cases hk
end
section
variable {P:Program} {t:TypeId} {c:List AV}
theorem HasC.inv_int {k:IntKind} (hu:P.underlying t=some (.int k)) (h:HasC P t c):∃ n,c=[.sc (.int k n)]∧(Lit.int k n).wf=true:=by
 cases h with
 | int h hw=>rw [hu] at h; cases h; exact ⟨_,rfl,hw⟩
 | bool h=>rw [hu] at h; cases h
 | str h hs=>rw [hu] at h; cases h
 | slice h z ess hs=>rw [hu] at h; cases h
 | struct h hf=>rw [hu] at h; cases h
 | array h hf=>rw [hu] at h; cases h
theorem HasC.inv_slice {e:TypeId} (hu:P.underlying t=some (.slice e)) (h:HasC P t c):∃ z es,c=[.vw z es]∧∀ a ∈ es,HasV P e a:=by
 cases h with
 | slice h z ess hs=>
  rw [hu] at h; cases h
  refine ⟨z,_,rfl,fun a ha=>?_⟩
  obtain ⟨c,hc,rfl⟩:=List.mem_map.1 ha
  exact ⟨c,hs c hc,rfl⟩
 | bool h=>rw [hu] at h; cases h
 | int h hw=>rw [hu] at h; cases h
 | str h hs=>rw [hu] at h; cases h
 | struct h hf=>rw [hu] at h; cases h
 | array h hf=>rw [hu] at h; cases h
theorem HasC.inv_struct {fs:Array Field} (hu:P.underlying t=some (.struct fs)) (h:HasC P t c):HasFs P (fs.toList.map (·.type)) c:=by
 cases h with
 | struct h hf=>rw [hu] at h; cases h; exact hf
 | bool h=>rw [hu] at h; cases h
 | int h hw=>rw [hu] at h; cases h
 | str h hs=>rw [hu] at h; cases h
 | slice h z ess hs=>rw [hu] at h; cases h
 | array h hf=>rw [hu] at h; cases h
theorem HasFs.inv_cons {ts:List TypeId} {cs:List AV} (h:HasFs P (t::ts) cs):∃ c r,cs=c++r∧HasC P t c∧HasFs P ts r:=by
 cases h with
 | cons h hs=>exact ⟨_,_,rfl,h,hs⟩
theorem HasFs.inv_nil {cs:List AV} (h:HasFs P [] cs):cs=[]:=by
 cases h; rfl
theorem HasV.list {α:Type} {f:α→AV} {e:TypeId} (hf:∀ a,HasV P e a→∃ x,a=f x):∀ {es:List AV},(∀ a ∈ es,HasV P e a)→∃ l:List α,es=l.map f
 | [],_=>⟨[],rfl⟩
 | a::es,h=>by
  obtain ⟨x,rfl⟩:=hf a (h a List.mem_cons_self)
  obtain ⟨l,rfl⟩:=HasV.list hf (es:=es) (fun b hb=>h b (List.mem_cons_of_mem _ hb))
  exact ⟨x::l,rfl⟩
end
theorem calls_true {P:Program} {g:Nat} {F:List AV→Option AV} (hg:POk P g F) {args:List AV} (hF:F args=some (.sc (.bool true))) {w:World} {cargs:Array Value} (hv:VL w noX (some hc0) args cargs.toList):
  Calls P g cargs w fun e w'=>e=.returned (.bool true)∧Below w.heap.size w w':=by
 obtain ⟨_,c,h1,h2⟩:=hg args _ hF
 have:=h1 w noX none
 cases this
 exact h2 w cargs hv
end Go.SX
