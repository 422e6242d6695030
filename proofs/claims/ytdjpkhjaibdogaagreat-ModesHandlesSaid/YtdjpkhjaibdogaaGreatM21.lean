/-
  Lemmas towards ModesHandles (joined texts: SYF).
  Conditions: none.
-/
import Derived.Test.YtdjpkhjaibdogaaGreatM01
import Derived.Test.YtdjpkhjaibdogaaGreatM20
set_option linter.unusedSimpArgs false
set_option linter.unusedVariables false
set_option maxRecDepth 100000
namespace Go.SX
noncomputable def opX (P:Program) (E:EE) (ops:Array Oper) (σ:ES) (o:Oper):Option ES:=(opK P ops o).run false E σ none some
theorem Atp {P:Program} {E:EE} (hE:E.Ok) {ops:Array Oper} {σ σ':ES} {o:Oper} (hi:σ.Inv) (h:opX P E ops σ o=some σ'):σ'.Inv∧Ah P E.env ops σ.toS o=some σ'.toS∧σ'.n=σ.n:=by
 rcases Ai9 P ops o (Option ES) false E σ none (some σ') some hE hi h with h | ⟨σ2,q1,q2,q3,q4⟩
 ·cases h
 ·cases q4
  exact ⟨q1,q3,q2⟩
noncomputable def Kg (P:Program) (E:EE) (ops:Array Oper):List Oper→Nat→ES→List PastE→List DidE→Option ES
 | [],_,σ,_,_=>some σ
 | o::r,i,σ,hs,ds=>el (opX P E ops σ o) none fun σ'=>
  bB (Cy E.hb o.op)
   (bB (AU o.op)
    (bB ((OG E.isP (Oj σ) o.op || isVE E (Oj σ) o.op) && Aaw P E ops i o σ.T σ.n σ'.T hs) none (Kg P E ops r (i+1) σ' hs (⟨i,o,σ,σ'.T⟩::ds)))
    (Kg P E ops r (i+1) σ' hs ds))
   (bB (Aax P E ops i σ'.H σ'.hn σ'.cnt ds && Aqk E.hb ops i σ' o.op && Nat.blt 0 σ'.hn) none (Kg P E ops r (i+1) σ' (⟨i,σ⟩::hs) ds))
theorem IL {P:Program} {E:EE} (hE:E.Ok) {ops:Array Oper}:∀ {l:List Oper} {i:Nat} {σ σ1:ES} {hs:List PastE} {ds:List DidE},σ.Inv→(∀ h ∈ hs,h.σ.Inv)→
  Kg P E ops l i σ hs ds=some σ1→σ1.Inv∧Ka P E.env E.vb ops l i σ.toS (hs.map PastE.toP) (ds.map DidE.toD)=some σ1.toS
 | [],i,σ,σ1,hs,ds,hi,hp,h=>by simp only [Kg,lx16] at h; subst h; exact ⟨hi,rfl⟩
 | o::r,i,σ,σ1,hs,ds,hi,hp,h=>by
  simp only [Kg] at h
  obtain ⟨σ',hst,h⟩:=Ds h
  obtain ⟨q1,q2,q3⟩:=Atp hE hi hst
  simp only [Ka,q2]
  rcases WY h with ⟨hh,h⟩ | ⟨hh,h⟩
  ·rw [show E.env.hb=E.hb from rfl,hh]
   simp only
   rcases WY h with ⟨hn,h⟩ | ⟨hn,h⟩
   ·rw [hn]
    simp only
    obtain ⟨hc,h⟩:=Qv h
    simp only [AT] at hc
    obtain ⟨c1,c2⟩:=hc
    rw [Fs,DE,Qs,TQ] at c1
    have c2:=WT hE hp c2
    have e:((AZ E.env σ.toS o.op || isVop E.vb σ.toS o.op) && Qk P E.env E.vb ops i o σ.toS.T σ'.toS.T (hs.map PastE.toP))=true:=by
     rw [c1,Gs]
     simp only [ES.toS,q3]
     exact c2
    rw [e]
    simp only
    have:=IL hE q1 hp h
    have e2:(DidE.toD ⟨i,o,σ,σ'.T⟩)=⟨i,o,σ.toS.T,σ'.toS.T⟩:=by simp only [DidE.toD,ES.toS,q3]
    rw [lx32,e2] at this
    exact this
   ·rw [hn]
    exact IL hE q1 hp h
  ·rw [show E.env.hb=E.hb from rfl,hh]
   simp only
   obtain ⟨hc,h⟩:=Qv h
   simp only [AT] at hc
   obtain ⟨⟨c1,c2⟩,c3⟩:=hc
   have c1:=WU hE q1 c1
   have c3:0 < σ'.hn:=by rw [blt_eq] at c3; simpa using c3
   have e:(Ql P E.env E.vb ops i σ'.toS.H σ'.toS.cnt (ds.map DidE.toD) && Aaf E.hb ops i σ'.toS.H o.op)=true:=by
    rw [c1,Gs]
    cases ho:o.op <;> rw [ho] at c2 <;> try rfl
    simp only [Aqk,Iu] at c2
    simp only [Aaf,Iu]
    refine c2.imp id fun q=>?_
    simp only [ES.toS]
    rw [WV _ c3]
    exact q
   rw [e]
   simp only
   have:=IL hE q1 (hs:=⟨i,σ⟩::hs) (by
    intro x hx
    rcases lx59.1 hx with rfl | hx
    ·exact hi
    ·exact hp x hx) h
   exact this
structure GFn where
 run:{R:Type}→EE→ES→R→(ES→R)→R
noncomputable def Atq (P:Program) (id:Nat) (ops:Array Oper) (dr:Bool):GFn:=
 match dr with
 | false=>⟨fun E σ z c=>(Aia P ops ops.toList).run E.lit E σ z c⟩
 | true=>⟨fun E σ z c=>el (match E.perm id with
  | none=>Kg P E ops ops.toList 0 σ [] []
  | some []=>none
  | some (i::π)=>Kg P E (CL ops (i::π)) (CL ops (i::π)).toList 0 σ [] []) z c⟩
theorem Am3 {P:Program} {E:EE} (hE:E.Ok) {n0:Nat} {rs:List ResultVar} {Q:AV→St→Prop} {id:Nat} {ops:Array Oper} {dr:Bool} {σ:ES} {k:List Item} (hi:σ.Inv) {R:Type} {z r:R} {c:ES→R} (h:(Atq P id ops dr).run E σ z c=r):
  r=z∨∃ σ',σ'.Inv∧(Go P E.env n0 rs Q k σ'.toS→Go P E.env n0 rs Q (.code (.region id ops dr)::k) σ.toS)∧c σ'=r:=by
 unfold Atq at h
 cases dr with
 | false=>
  rcases Ab3 P ops ops.toList R E.lit E σ z r c hE hi h with h | ⟨σ',q1,q2,q3,q4⟩
  ·exact .inl h
  ·refine .inr ⟨σ',q1,fun ih=>.region ?_ ih,q4⟩
   have:=Ab2 P ops E.env ops.toList σ.toS
   rw [←this]
   exact q3
 | true=>
  rcases WX h with h | ⟨σ',hr,h⟩
  ·exact .inl h
  ·refine .inr ⟨σ',?_⟩
   split at hr
   ·rename_i hp
    obtain ⟨q1,q2⟩:=IL hE hi (by intro h hh; cases hh) hr
    have q3:=II (Aqj E) (fun _ h=>by cases h) q2
    refine ⟨q1,fun ih=>?_,h⟩
    cases hh:ops.toList.any Fl with
    | true=>exact .drawH hp hh q3 ih
    | false=>exact .draw hp (EU _ _ _ _ hh q3) ih
   ·cases hr
   ·rename_i hp
    obtain ⟨q1,q2⟩:=IL hE hi (by intro h hh; cases hh) hr
    exact ⟨q1,fun ih=>.drawP hp (II (Aqj E) (fun _ h=>by cases h) q2) ih,h⟩
structure SFn where
 run:EE→List Item→ES→(List Item→ES→Option (AV × ES))→Option (AV × ES)
noncomputable def Aic (P:Program) (x:Item):SFn:=
 match x with
 | .code .skip=>⟨fun _ k σ c=>c k σ⟩
 | .code (.seq x y)=>⟨fun _ k σ c=>c (.code x::.code y::k) σ⟩
 | .code (.cond b x y)=>⟨fun _ k σ c=>match Oj σ b with
  | .sc (.bool t)=>bB t (c (.code y::k) σ) (c (.code x::k) σ)
  | _=>none⟩
 | .code (.block id a)=>⟨fun _ k σ c=>c (.code a::.inBlock id::k) σ⟩
 | .inBlock _=>⟨fun _ k σ c=>c k σ⟩
 | .code (.loop a)=>⟨fun _ k σ c=>c (.code a::.inLoop a::k) σ⟩
 | .inLoop a=>⟨fun _ k σ c=>c (.code a::.inLoop a::k) σ⟩
 | .code (.exit id)=>⟨fun _ k σ c=>el (exitTo id k) none fun k'=>c k' σ⟩
 | .code (.region id ops dr)=>⟨fun E k σ c=>(Atq P id ops dr).run E σ none fun σ'=>c k σ'⟩
 | _=>⟨fun _ _ _ _=>none⟩
noncomputable def finK (P:Program) (rs:List ResultVar) (σ:ES):Option (AV × ES):=el (Ad2 P σ rs) none fun vs=>some (G4 vs,σ)
noncomputable def Am4 (P:Program) (E:EE) (rs:List ResultVar) (n:Nat):List Item→ES→Option (AV × ES):=
 Nat.rec (motive:=fun _=>List Item→ES→Option (AV × ES)) (fun _ _=>none)
  (fun _ ih k σ=>List.rec (motive:=fun _=>Option (AV × ES)) (finK P rs σ) (fun x k' _=>bB (Ahg x) ((Aic P x).run E k' σ ih) (finK P rs σ)) k) n
theorem Ye {P:Program} {E:EE} (hE:E.Ok) {n0:Nat} {rs:List ResultVar} {r:AV} {σ1:ES}:∀ {n:Nat} {k:List Item} {σ:ES},σ.Inv→Am4 P E rs n k σ=some (r,σ1)→
  σ1.Inv∧Go P E.env n0 rs (fun r' s'=>r'=r∧s'=σ1.toS) k σ.toS
 | 0,k,σ,hi,h=>by cases h
 | n+1,[],σ,hi,h=>by
  have h:finK P rs σ=some (r,σ1):=h
  obtain ⟨vs,hv,h⟩:=Ds h
  cases h
  exact ⟨hi,.fin (OH hv) ⟨rfl,rfl⟩⟩
 | n+1,x::k,σ,hi,h=>by
  have h:bB (Ahg x) ((Aic P x).run E k σ (Am4 P E rs n)) (finK P rs σ)=some (r,σ1):=h
  rcases WY h with ⟨hx,h⟩ | ⟨hx,h⟩
  ·have ih:∀ {k:List Item} {σ:ES},σ.Inv→Am4 P E rs n k σ=some (r,σ1)→σ1.Inv∧Go P E.env n0 rs (fun r' s'=>r'=r∧s'=σ1.toS) k σ.toS:=fun hi h=>Ye hE hi h
   unfold Aic at h
   split at h
   ·exact (ih hi h).imp id .skip
   ·exact (ih hi h).imp id .seq
   ·simp only at h
    split at h
    ·rename_i t ht
     rw [Fs,DE] at ht
     rcases WY h with ⟨rfl,h⟩ | ⟨rfl,h⟩
     ·exact (ih hi h).imp id fun q=>.cond false ht q
     ·exact (ih hi h).imp id fun q=>.cond true ht q
    ·cases h
   ·exact (ih hi h).imp id .block
   ·exact (ih hi h).imp id .inBlock
   ·exact (ih hi h).imp id .loop
   ·exact (ih hi h).imp id .inLoop
   ·obtain ⟨k',he,h⟩:=Ds h
    exact (ih hi h).imp id fun q=>.exit he q
   ·rcases Am3 hE (n0:=n0) (rs:=rs) (Q:=fun r' s'=>r'=r∧s'=σ1.toS) (k:=k) hi h with h | ⟨σ',q1,q2,q3⟩
    ·cases h
    ·exact (ih q1 q3).imp id q2
   ·cases h
  ·have hx:x=.code .ret:=by
    unfold Ahg at hx
    split at hx
    ·rfl
    ·cases hx
   subst hx
   obtain ⟨vs,hv,h⟩:=Ds h
   cases h
   exact ⟨hi,.ret (OH hv) ⟨rfl,rfl⟩⟩
noncomputable def W0 (P:Program) (t:TabE) (E:EE) (f:Nat) (args:List AV) (H:Tr Blk) (hn cnt:Nat):Option (AV × ES):=
 match t.ok f with
 | true=>match P.funcs[f]? with
  | some fn=>match fn.body with
   | some c=>match Nat.ble args.length fn.ntmps with
    | true=>match Tr.setAll (Tr.rep .un 12 fn.ntmps) 0 args with
     | some T=>Am4 P E fn.results.toList Ayn [.code c] ⟨T,fn.ntmps,H,hn,cnt⟩
     | none=>none
    | false=>none
   | none=>none
  | none=>none
 | false=>none
theorem Mz {P:Program} {t:TabE} {E:EE} (hE:E.Ok) {f:Nat} {args:List AV} {H:Tr Blk} {hn cnt:Nat} {r:AV} {σ1:ES} (hf:Tr.Fit H hn) (h:W0 P t E f args H hn cnt=some (r,σ1)):
  σ1.Inv∧t.ok f=true∧∃ fn c,P.funcs[f]?=some fn∧fn.body=some c∧∀ n0,Go P E.env n0 fn.results.toList (fun r' s'=>r'=r∧s'=σ1.toS) [.code c] (Af fn args (H.toL dead hn) cnt):=by
 unfold W0 at h
 split at h
 ·rename_i hok
  split at h
  ·rename_i fn hfn
   split at h
   ·rename_i c hc
    split at h
    ·rename_i hlen
     split at h
     ·rename_i T hT
      have hle:args.length≤fn.ntmps:=Nat.le_of_ble_eq_true hlen
      have e:(ES.toS ⟨T,fn.ntmps,H,hn,cnt⟩)=Af fn args (H.toL dead hn) cnt:=by
       unfold ES.toS Af
       congr 1
       refine lx65 fun j=>?_
       rw [Tr.toL_get,lx18,List.getElem?_replicate]
       simp only [Tr.setAll_ok AV.un hT j,BT,Du,B4,Nat.sub_zero,Tr.rep_get]
       by_cases h1:j < args.length
       ·rw [if_pos (by omega),if_pos h1,if_pos h1,lx80,lx51 h1]; rfl
       ·rw [if_neg h1,if_neg h1]
        by_cases h2:j < fn.ntmps
        ·rw [if_pos h2,if_pos (by omega)]
        ·rw [if_neg h2,if_neg (by omega)]
      have hi:(ES.Inv ⟨T,fn.ntmps,H,hn,cnt⟩):=hf
      refine ⟨(Ye hE (n0:=0) hi h).1,hok,fn,c,hfn,hc,fun n0=>?_⟩
      rw [←e]
      exact (Ye hE hi h).2
     ·cases h
    ·cases h
   ·cases h
  ·cases h
 ·cases h
def gvn {α:Type} (b:Bool) (x:Option α):Option α:=
 match b with
 | true=>x
 | false=>none
theorem Qw {α:Type} {b:Bool} {x:Option α} {r:α} (h:gvn b x=some r):x=some r:=by
 cases b with
 | true=>exact h
 | false=>cases h
noncomputable def gT (H:Tr Blk) (hn:Nat) (id:Nat):Option Blk:=bB (Nat.blt id hn) none (some (Tr.getN dead H id))
theorem Az3 (H:Tr Blk) (hn:Nat):gT H hn=fun i=>(H.toL dead hn)[i]?:=by
 funext id
 simp only [gT,Tr.getN_eq,Tr.toL_get,blt_eq]
 by_cases h:id < hn
 ·simp [h,KE]
 ·simp [h,Kb]
mutual
noncomputable def pK (P:Program) (t:TabE) (G:Giv):Nat→Nat→List AV→Option AV
 | 0,_,_=>none
 | n+1,f,args=>match gvn (t.givP f) (G.p f args) with
  | some r=>some r
  | none=>Aql (W0 P t (WW t (pK P t G n) (vK P t G n) (hK P t G n) f) f args .nil 0 0)
noncomputable def vK (P:Program) (t:TabE) (G:Giv):Nat→Nat→List AV→Option AV
 | 0,_,_=>none
 | n+1,f,args=>match gvn (t.givV f) (G.v f args) with
  | some r=>some r
  | none=>Aqm (W0 P t (WW t (pK P t G n) (vK P t G n) (hK P t G n) f) f args .nil 0 0)
noncomputable def hK (P:Program) (t:TabE) (G:Giv):Nat→Nat→List AV→Tr Blk→Nat→Nat→Option (AV × Tr Blk × Nat × Nat)
 | 0,_,_,_,_,_=>none
 | n+1,f,args,H,hn,cnt=>match gvn (t.givH f) (givT G f args H hn cnt) with
  | some r=>some r
  | none=>match gvn (t.givF f) (G.f f (K9 (gT H hn) args)) with
  | some r=>some (r,H,hn,cnt)
  | none=>Ati (t.keep f) hn (W0 P t (WW t (pK P t G n) (vK P t G n) (hK P t G n) f) f args H hn cnt)
end
noncomputable def eK (P:Program) (t:TabE) (G:Giv) (n f:Nat):EE:=WW t (pK P t G n) (vK P t G n) (hK P t G n) f
theorem TS {P:Program} {t:TabE} {G:Giv}:∀ n f,(eK P t G n f).Ok
 | 0,f=>by
  intro g args H hn c r H' n' c' hf h
  simp [eK,WW,hK] at h
 | n+1,f=>by
  intro g args H hn c r H' n' c' hf h
  have h:hK P t G (n+1) g args H hn c=some (r,H',n',c'):=h
  simp only [hK] at h
  split at h
  ·rename_i q hq
   cases h
   have h:=Qw hq
   unfold givT at h
   split at h
   ·cases h
    exact Tr.ofL_fit dead _
   ·cases h
  ·split at h
   ·cases h
    exact hf
   ·unfold Ati at h
    split at h
    ·rename_i r1 σ1 hc
     have hi:=(Mz (TS n g) hf hc).1
     split at h
     ·cases h; exact hi
     ·split at h
      ·rename_i ht
       cases h
       exact (Nh hi ht).1
      ·cases h
    ·cases h
theorem TT {P:Program} {t:TabE} {G:Giv} (hm:P.follows .mixedOrders=true) (ht:Qt P t) (hG:GivOk P G):∀ n,(∀ f,EnvOk P (eK P t G n f).env)∧(∀ f args r,vK P t G n f args=some r→C1 P f args r)
 | 0=>⟨fun f=>⟨fun g args r h=>by simp [eK,WW,EE.env,pK] at h,fun g args H cnt r H' cnt' h=>by
   have h:EE.hcall (eK P t G 0 f) g args H cnt=some (r,H',cnt'):=h
   unfold EE.hcall at h
   split at h
   ·have e:(eK P t G 0 f).vc g args=none:=by simp [eK,WW,vK]
    rw [e] at h
    cases hq:norefs args <;> rw [hq] at h <;> cases h
   ·unfold hcL at h
    simp [eK,WW,hK] at h⟩,fun f args r h=>by simp [vK] at h⟩
 | n+1=>by
  obtain ⟨ih,ihv⟩:=TT hm ht hG n
  have hv:∀ f args r,vK P t G (n+1) f args=some r→C1 P f args r:=by
   intro g args r h
   simp only [vK] at h
   split at h
   ·rename_i q hq
    cases h
    exact hG.v g args r (Qw hq)
   ·unfold Aqm at h
    split at h
    ·rename_i r' σ' hc
     split at h
     ·rename_i hnr
      cases h
      obtain ⟨_,hk,fn,c,hfn,hb,hgo⟩:=Mz (TS n g) (H:=.nil) (hn:=0) rfl hc
      obtain ⟨q1,q2⟩:=ht g fn c hk hfn hb
      exact TC (ih g) hm 60 hfn hb q1 q2 hnr (Ox (hgo 0) fun r' s'' hh=>by obtain ⟨rfl,rfl⟩:=hh; rfl)
     ·cases h
    ·cases h
  refine ⟨fun f=>⟨fun g args r h=>?_,fun g args H cnt r H' cnt' h=>?_⟩,hv⟩
  ·have h:pK P t G (n+1) g args=some r:=h
   simp only [pK] at h
   split at h
   ·rename_i q hq
    cases h
    exact hG.p g args r (Qw hq)
   ·unfold Aql at h
    split at h
    ·rename_i r' σ' hc
     split at h
     ·rename_i hok
      cases h
      obtain ⟨_,hk,fn,c,hfn,hb,hgo⟩:=Mz (TS n g) (H:=.nil) (hn:=0) rfl hc
      obtain ⟨q1,q2⟩:=ht g fn c hk hfn hb
      exact Ad (ih g) hm hfn hb q1 q2 hok (Ox (hgo 0) fun r' s'' hh=>hh.1)
     ·cases h
    ·cases h
  ·have h:EE.hcall (eK P t G (n+1) f) g args H cnt=some (r,H',cnt'):=h
   unfold EE.hcall at h
   split at h
   ·cases hnr:norefs args with
    | false=>rw [hnr] at h; cases h
    | true=>
     cases hq:(eK P t G (n+1) f).vc g args with
     | none=>rw [hnr,hq] at h; cases h
     | some q=>
      rw [hnr,hq] at h
      cases h
      exact PV (hv g args _ hq) hnr H cnt
   ·have h:hcL (hK P t G (n+1)) g args H cnt=some (r,H',cnt'):=h
    unfold hcL at h
    split at h
    ·rename_i r1 H1 n1 c1 hh
     cases h
     simp only [hK] at hh
     split at hh
     ·rename_i q hq
      cases hh
      have hh:=Qw hq
      unfold givT at hh
      split at hh
      ·rename_i r2 H2 c2 hg
       cases hh
       rw [Tr.toL_ofL] at hg
       rw [Tr.toL_ofL]
       exact hG.h g args H cnt _ _ _ hg
      ·cases hh
     ·split at hh
      ·rename_i q hq
       cases hh
       have hq:=Qw hq
       rw [Az3,IK,Tr.toL_ofL] at hq
       rw [Tr.toL_ofL]
       exact P0 (hG.f g _ _ hq)
      ·unfold Ati at hh
       split at hh
       ·rename_i r2 σ2 hc
        obtain ⟨hi,hk,fn,c,hfn,hb,hgo⟩:=Mz (TS n g) (Tr.ofL_fit dead H) hc
        obtain ⟨q1,q2⟩:=ht g fn c hk hfn hb
        rw [Tr.toL_ofL] at hgo
        split at hh
        ·cases hh
         exact UU (ih g) hm hfn hb q1 q2 (Ox (hgo H.length) fun r' s'' hh=>by obtain ⟨rfl,rfl⟩:=hh; exact ⟨rfl,rfl,rfl⟩)
        ·split at hh
         ·rename_i H3 n3 htr
          cases hh
          obtain ⟨_,_,t3⟩:=Nh hi htr
          refine Ag (ih g) hm hfn hb q1 q2 (Ox (hgo H.length) fun r' s'' hh=>?_)
          obtain ⟨rfl,rfl⟩:=hh
          refine ⟨.refl _,?_,Aw _⟩
          rw [t3]
          have:=C8 (σ2.toS.H) (σ2.toS.H.drop n1) (σ2.toS.H.take n1)
          rw [lx67] at this
          exact this
         ·cases hh
       ·cases hh
    ·cases h
theorem Ad5 {P:Program} {t:TabE} {G:Giv} (hm:P.follows .mixedOrders=true) (ht:Qt P t) (hG:GivOk P G) {n f:Nat} {args:List AV} {r:AV} (h:pK P t G n f args=some r):Di P f args r:=
 ((TT hm ht hG n).1 0).p f args r h
theorem Ad6 {P:Program} {t:TabE} {G:Giv} (hm:P.follows .mixedOrders=true) (ht:Qt P t) (hG:GivOk P G) {n f:Nat} {args:List AV} {r:AV} (h:vK P t G n f args=some r):C1 P f args r:=
 (TT hm ht hG n).2 f args r h
end Go.SX
