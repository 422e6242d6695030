/-
  Lemmas towards ModesFaults (joined texts: SYF).
  Conditions: none.
-/
import Derived.Test.YtdjpkhjaibdogaaGreatK01
import Derived.Test.YtdjpkhjaibdogaaGreatK20
set_option linter.unusedSimpArgs false
set_option linter.unusedVariables false
set_option maxRecDepth 100000
namespace Go.SX
noncomputable def opX (P:Program) (E:EE) (ops:Array Oper) (σ:ES) (o:Oper):Option ES:=(opK P ops o).run false E σ none some
theorem As2 {P:Program} {E:EE} (hE:E.Ok) {ops:Array Oper} {σ σ':ES} {o:Oper} (hi:σ.Inv) (h:opX P E ops σ o=some σ'):σ'.Inv∧Ad P E.env ops σ.toS o=some σ'.toS∧σ'.n=σ.n:=by
 rcases Ah9 P ops o (Option ES) false E σ none (some σ') some hE hi h with h | ⟨σ2,q1,q2,q3,q4⟩
 ·cases h
 ·cases q4
  exact ⟨q1,q3,q2⟩
noncomputable def Jw (P:Program) (E:EE) (ops:Array Oper):List Oper→Nat→ES→List PastE→List DidE→Option ES
 | [],_,σ,_,_=>some σ
 | o::r,i,σ,hs,ds=>el (opX P E ops σ o) none fun σ'=>
  bB (Ce E.hb o.op)
   (bB (AI o.op)
    (bB ((N3 E.isP (NC σ) o.op || isVE E (NC σ) o.op) && Z2 P E ops i o σ.T σ.n σ'.T hs) none (Jw P E ops r (i+1) σ' hs (⟨i,o,σ,σ'.T⟩::ds)))
    (Jw P E ops r (i+1) σ' hs ds))
   (bB (Z3 P E ops i σ'.H σ'.hn σ'.cnt ds && Apa E.hb ops i σ' o.op && Nat.blt 0 σ'.hn) none (Jw P E ops r (i+1) σ' (⟨i,σ⟩::hs) ds))
theorem HY {P:Program} {E:EE} (hE:E.Ok) {ops:Array Oper}:∀ {l:List Oper} {i:Nat} {σ σ1:ES} {hs:List PastE} {ds:List DidE},σ.Inv→(∀ h ∈ hs,h.σ.Inv)→
  Jw P E ops l i σ hs ds=some σ1→σ1.Inv∧Jq P E.env E.vb ops l i σ.toS (hs.map PastE.toP) (ds.map DidE.toD)=some σ1.toS
 | [],i,σ,σ1,hs,ds,hi,hp,h=>by simp only [Jw,lx16] at h; subst h; exact ⟨hi,rfl⟩
 | o::r,i,σ,σ1,hs,ds,hi,hp,h=>by
  simp only [Jw] at h
  obtain ⟨σ',hst,h⟩:=C4 h
  obtain ⟨q1,q2,q3⟩:=As2 hE hi hst
  simp only [Jq,q2]
  rcases Wk h with ⟨hh,h⟩ | ⟨hh,h⟩
  ·rw [show E.env.hb=E.hb from rfl,hh]
   simp only
   rcases Wk h with ⟨hn,h⟩ | ⟨hn,h⟩
   ·rw [hn]
    simp only
    obtain ⟨hc,h⟩:=PJ h
    simp only [AH] at hc
    obtain ⟨c1,c2⟩:=hc
    rw [Fg,Dj,PG,Ta] at c1
    have c2:=Wf hE hp c2
    have e:((AP E.env σ.toS o.op || isVop E.vb σ.toS o.op) && Pz P E.env E.vb ops i o σ.toS.T σ'.toS.T (hs.map PastE.toP))=true:=by
     rw [c1,Kw]
     simp only [ES.toS,q3]
     exact c2
    rw [e]
    simp only
    have:=HY hE q1 hp h
    have e2:(DidE.toD ⟨i,o,σ,σ'.T⟩)=⟨i,o,σ.toS.T,σ'.toS.T⟩:=by simp only [DidE.toD,ES.toS,q3]
    rw [lx32,e2] at this
    exact this
   ·rw [hn]
    exact HY hE q1 hp h
  ·rw [show E.env.hb=E.hb from rfl,hh]
   simp only
   obtain ⟨hc,h⟩:=PJ h
   simp only [AH] at hc
   obtain ⟨⟨c1,c2⟩,c3⟩:=hc
   have c1:=Wg hE q1 c1
   have c3:0 < σ'.hn:=by rw [blt_eq] at c3; simpa using c3
   have e:(PA P E.env E.vb ops i σ'.toS.H σ'.toS.cnt (ds.map DidE.toD) && ZH E.hb ops i σ'.toS.H o.op)=true:=by
    rw [c1,Kw]
    cases ho:o.op <;> rw [ho] at c2 <;> try rfl
    simp only [Apa,IX] at c2
    simp only [ZH,IX]
    refine c2.imp id fun q=>?_
    simp only [ES.toS]
    rw [Wh _ c3]
    exact q
   rw [e]
   simp only
   have:=HY hE q1 (hs:=⟨i,σ⟩::hs) (by
    intro x hx
    rcases lx59.1 hx with rfl | hx
    ·exact hi
    ·exact hp x hx) h
   exact this
structure GFn where
 run:{R:Type}→EE→ES→R→(ES→R)→R
noncomputable def As3 (P:Program) (id:Nat) (ops:Array Oper) (dr:Bool):GFn:=
 match dr with
 | false=>⟨fun E σ z c=>(Aha P ops ops.toList).run E.lit E σ z c⟩
 | true=>⟨fun E σ z c=>el (match E.perm id with
  | none=>Jw P E ops ops.toList 0 σ [] []
  | some []=>none
  | some (i::π)=>Jw P E (Cq ops (i::π)) (Cq ops (i::π)).toList 0 σ [] []) z c⟩
theorem Ali {P:Program} {E:EE} (hE:E.Ok) {n0:Nat} {rs:List ResultVar} {Q:AV→St→Prop} {id:Nat} {ops:Array Oper} {dr:Bool} {σ:ES} {k:List Item} (hi:σ.Inv) {R:Type} {z r:R} {c:ES→R} (h:(As3 P id ops dr).run E σ z c=r):
  r=z∨∃ σ',σ'.Inv∧(Go P E.env n0 rs Q k σ'.toS→Go P E.env n0 rs Q (.code (.region id ops dr)::k) σ.toS)∧c σ'=r:=by
 unfold As3 at h
 cases dr with
 | false=>
  rcases Z9 P ops ops.toList R E.lit E σ z r c hE hi h with h | ⟨σ',q1,q2,q3,q4⟩
  ·exact .inl h
  ·refine .inr ⟨σ',q1,fun ih=>.region ?_ ih,q4⟩
   have:=Z8 P ops E.env ops.toList σ.toS
   rw [←this]
   exact q3
 | true=>
  rcases Wj h with h | ⟨σ',hr,h⟩
  ·exact .inl h
  ·refine .inr ⟨σ',?_⟩
   split at hr
   ·rename_i hp
    obtain ⟨q1,q2⟩:=HY hE hi (by intro h hh; cases hh) hr
    have q3:=HV (Ap9 E) (fun _ h=>by cases h) q2
    refine ⟨q1,fun ih=>?_,h⟩
    cases hh:ops.toList.any Fb with
    | true=>exact .drawH hp hh q3 ih
    | false=>exact .draw hp (Ea _ _ _ _ hh q3) ih
   ·cases hr
   ·rename_i hp
    obtain ⟨q1,q2⟩:=HY hE hi (by intro h hh; cases hh) hr
    exact ⟨q1,fun ih=>.drawP hp (HV (Ap9 E) (fun _ h=>by cases h) q2) ih,h⟩
structure SFn where
 run:EE→List Item→ES→(List Item→ES→Option (AV × ES))→Option (AV × ES)
noncomputable def Ahc (P:Program) (x:Item):SFn:=
 match x with
 | .code .skip=>⟨fun _ k σ c=>c k σ⟩
 | .code (.seq x y)=>⟨fun _ k σ c=>c (.code x::.code y::k) σ⟩
 | .code (.cond b x y)=>⟨fun _ k σ c=>match NC σ b with
  | .sc (.bool t)=>bB t (c (.code y::k) σ) (c (.code x::k) σ)
  | _=>none⟩
 | .code (.block id a)=>⟨fun _ k σ c=>c (.code a::.inBlock id::k) σ⟩
 | .inBlock _=>⟨fun _ k σ c=>c k σ⟩
 | .code (.loop a)=>⟨fun _ k σ c=>c (.code a::.inLoop a::k) σ⟩
 | .inLoop a=>⟨fun _ k σ c=>c (.code a::.inLoop a::k) σ⟩
 | .code (.exit id)=>⟨fun _ k σ c=>el (exitTo id k) none fun k'=>c k' σ⟩
 | .code (.region id ops dr)=>⟨fun E k σ c=>(As3 P id ops dr).run E σ none fun σ'=>c k σ'⟩
 | _=>⟨fun _ _ _ _=>none⟩
noncomputable def finK (P:Program) (rs:List ResultVar) (σ:ES):Option (AV × ES):=el (Abu P σ rs) none fun vs=>some (Gp vs,σ)
noncomputable def Alj (P:Program) (E:EE) (rs:List ResultVar) (n:Nat):List Item→ES→Option (AV × ES):=
 Nat.rec (motive:=fun _=>List Item→ES→Option (AV × ES)) (fun _ _=>none)
  (fun _ ih k σ=>List.rec (motive:=fun _=>Option (AV × ES)) (finK P rs σ) (fun x k' _=>bB (Agi x) ((Ahc P x).run E k' σ ih) (finK P rs σ)) k) n
theorem XB {P:Program} {E:EE} (hE:E.Ok) {n0:Nat} {rs:List ResultVar} {r:AV} {σ1:ES}:∀ {n:Nat} {k:List Item} {σ:ES},σ.Inv→Alj P E rs n k σ=some (r,σ1)→
  σ1.Inv∧Go P E.env n0 rs (fun r' s'=>r'=r∧s'=σ1.toS) k σ.toS
 | 0,k,σ,hi,h=>by cases h
 | n+1,[],σ,hi,h=>by
  have h:finK P rs σ=some (r,σ1):=h
  obtain ⟨vs,hv,h⟩:=C4 h
  cases h
  exact ⟨hi,.fin (N4 hv) ⟨rfl,rfl⟩⟩
 | n+1,x::k,σ,hi,h=>by
  have h:bB (Agi x) ((Ahc P x).run E k σ (Alj P E rs n)) (finK P rs σ)=some (r,σ1):=h
  rcases Wk h with ⟨hx,h⟩ | ⟨hx,h⟩
  ·have ih:∀ {k:List Item} {σ:ES},σ.Inv→Alj P E rs n k σ=some (r,σ1)→σ1.Inv∧Go P E.env n0 rs (fun r' s'=>r'=r∧s'=σ1.toS) k σ.toS:=fun hi h=>XB hE hi h
   unfold Ahc at h
   split at h
   ·exact (ih hi h).imp id .skip
   ·exact (ih hi h).imp id .seq
   ·simp only at h
    split at h
    ·rename_i t ht
     rw [Fg,Dj] at ht
     rcases Wk h with ⟨rfl,h⟩ | ⟨rfl,h⟩
     ·exact (ih hi h).imp id fun q=>.cond false ht q
     ·exact (ih hi h).imp id fun q=>.cond true ht q
    ·cases h
   ·exact (ih hi h).imp id .block
   ·exact (ih hi h).imp id .inBlock
   ·exact (ih hi h).imp id .loop
   ·exact (ih hi h).imp id .inLoop
   ·obtain ⟨k',he,h⟩:=C4 h
    exact (ih hi h).imp id fun q=>.exit he q
   ·rcases Ali hE (n0:=n0) (rs:=rs) (Q:=fun r' s'=>r'=r∧s'=σ1.toS) (k:=k) hi h with h | ⟨σ',q1,q2,q3⟩
    ·cases h
    ·exact (ih q1 q3).imp id q2
   ·cases h
  ·have hx:x=.code .ret:=by
    unfold Agi at hx
    split at hx
    ·rfl
    ·cases hx
   subst hx
   obtain ⟨vs,hv,h⟩:=C4 h
   cases h
   exact ⟨hi,.ret (N4 hv) ⟨rfl,rfl⟩⟩
noncomputable def Wm (P:Program) (t:TabE) (E:EE) (f:Nat) (args:List AV) (H:Tr Blk) (hn cnt:Nat):Option (AV × ES):=
 match t.ok f with
 | true=>match P.funcs[f]? with
  | some fn=>match fn.body with
   | some c=>match Nat.ble args.length fn.ntmps with
    | true=>match Tr.setAll (Tr.rep .un 12 fn.ntmps) 0 args with
     | some T=>Alj P E fn.results.toList Ax0 [.code c] ⟨T,fn.ntmps,H,hn,cnt⟩
     | none=>none
    | false=>none
   | none=>none
  | none=>none
 | false=>none
theorem LM {P:Program} {t:TabE} {E:EE} (hE:E.Ok) {f:Nat} {args:List AV} {H:Tr Blk} {hn cnt:Nat} {r:AV} {σ1:ES} (hf:Tr.Fit H hn) (h:Wm P t E f args H hn cnt=some (r,σ1)):
  σ1.Inv∧t.ok f=true∧∃ fn c,P.funcs[f]?=some fn∧fn.body=some c∧∀ n0,Go P E.env n0 fn.results.toList (fun r' s'=>r'=r∧s'=σ1.toS) [.code c] (Af fn args (H.toL dead hn) cnt):=by
 unfold Wm at h
 split at h
 ·rename_i hok
  split at h
  ·rename_i fn hfn
   split at h
   ·rename_i c hc
    split at h
    ·rename_i hlen
     split at h
     ·rename_i T hT
      have hle:args.length≤fn.ntmps:=Nat.le_of_ble_eq_true hlen
      have e:(ES.toS ⟨T,fn.ntmps,H,hn,cnt⟩)=Af fn args (H.toL dead hn) cnt:=by
       unfold ES.toS Af
       congr 1
       refine lx65 fun j=>?_
       rw [Tr.toL_get,lx18,List.getElem?_replicate]
       simp only [Tr.setAll_ok AV.un hT j,BX,D3,BO,Nat.sub_zero,Tr.rep_get]
       by_cases h1:j < args.length
       ·rw [if_pos (by omega),if_pos h1,if_pos h1,lx80,lx51 h1]; rfl
       ·rw [if_neg h1,if_neg h1]
        by_cases h2:j < fn.ntmps
        ·rw [if_pos h2,if_pos (by omega)]
        ·rw [if_neg h2,if_neg (by omega)]
      have hi:(ES.Inv ⟨T,fn.ntmps,H,hn,cnt⟩):=hf
      refine ⟨(XB hE (n0:=0) hi h).1,hok,fn,c,hfn,hc,fun n0=>?_⟩
      rw [←e]
      exact (XB hE hi h).2
     ·cases h
    ·cases h
   ·cases h
  ·cases h
 ·cases h
def gvn {α:Type} (b:Bool) (x:Option α):Option α:=
 match b with
 | true=>x
 | false=>none
theorem PK {α:Type} {b:Bool} {x:Option α} {r:α} (h:gvn b x=some r):x=some r:=by
 cases b with
 | true=>exact h
 | false=>cases h
noncomputable def gT (H:Tr Blk) (hn:Nat) (id:Nat):Option Blk:=bB (Nat.blt id hn) none (some (Tr.getN dead H id))
theorem Axi (H:Tr Blk) (hn:Nat):gT H hn=fun i=>(H.toL dead hn)[i]?:=by
 funext id
 simp only [gT,Tr.getN_eq,Tr.toL_get,blt_eq]
 by_cases h:id < hn
 ·simp [h,JW]
 ·simp [h,Js]
mutual
noncomputable def pK (P:Program) (t:TabE) (G:Giv):Nat→Nat→List AV→Option AV
 | 0,_,_=>none
 | n+1,f,args=>match gvn (t.givP f) (G.p f args) with
  | some r=>some r
  | none=>Apb (Wm P t (Wi t (pK P t G n) (vK P t G n) (hK P t G n) f) f args .nil 0 0)
noncomputable def vK (P:Program) (t:TabE) (G:Giv):Nat→Nat→List AV→Option AV
 | 0,_,_=>none
 | n+1,f,args=>match gvn (t.givV f) (G.v f args) with
  | some r=>some r
  | none=>Apc (Wm P t (Wi t (pK P t G n) (vK P t G n) (hK P t G n) f) f args .nil 0 0)
noncomputable def hK (P:Program) (t:TabE) (G:Giv):Nat→Nat→List AV→Tr Blk→Nat→Nat→Option (AV × Tr Blk × Nat × Nat)
 | 0,_,_,_,_,_=>none
 | n+1,f,args,H,hn,cnt=>match gvn (t.givH f) (givT G f args H hn cnt) with
  | some r=>some r
  | none=>match gvn (t.givF f) (G.f f (Kt (gT H hn) args)) with
  | some r=>some (r,H,hn,cnt)
  | none=>Arv (t.keep f) hn (Wm P t (Wi t (pK P t G n) (vK P t G n) (hK P t G n) f) f args H hn cnt)
end
noncomputable def eK (P:Program) (t:TabE) (G:Giv) (n f:Nat):EE:=Wi t (pK P t G n) (vK P t G n) (hK P t G n) f
theorem Tc {P:Program} {t:TabE} {G:Giv}:∀ n f,(eK P t G n f).Ok
 | 0,f=>by
  intro g args H hn c r H' n' c' hf h
  simp [eK,Wi,hK] at h
 | n+1,f=>by
  intro g args H hn c r H' n' c' hf h
  have h:hK P t G (n+1) g args H hn c=some (r,H',n',c'):=h
  simp only [hK] at h
  split at h
  ·rename_i q hq
   cases h
   have h:=PK hq
   unfold givT at h
   split at h
   ·cases h
    exact Tr.ofL_fit dead _
   ·cases h
  ·split at h
   ·cases h
    exact hf
   ·unfold Arv at h
    split at h
    ·rename_i r1 σ1 hc
     have hi:=(LM (Tc n g) hf hc).1
     split at h
     ·cases h; exact hi
     ·split at h
      ·rename_i ht
       cases h
       exact (Mz hi ht).1
      ·cases h
    ·cases h
theorem Td {P:Program} {t:TabE} {G:Giv} (hm:P.follows .mixedOrders=true) (ht:PH P t) (hG:GivOk P G):∀ n,(∀ f,EnvOk P (eK P t G n f).env)∧(∀ f args r,vK P t G n f args=some r→Db P f args r)
 | 0=>⟨fun f=>⟨fun g args r h=>by simp [eK,Wi,EE.env,pK] at h,fun g args H cnt r H' cnt' h=>by
   have h:EE.hcall (eK P t G 0 f) g args H cnt=some (r,H',cnt'):=h
   unfold EE.hcall at h
   split at h
   ·have e:(eK P t G 0 f).vc g args=none:=by simp [eK,Wi,vK]
    rw [e] at h
    cases hq:norefs args <;> rw [hq] at h <;> cases h
   ·unfold hcL at h
    simp [eK,Wi,hK] at h⟩,fun f args r h=>by simp [vK] at h⟩
 | n+1=>by
  obtain ⟨ih,ihv⟩:=Td hm ht hG n
  have hv:∀ f args r,vK P t G (n+1) f args=some r→Db P f args r:=by
   intro g args r h
   simp only [vK] at h
   split at h
   ·rename_i q hq
    cases h
    exact hG.v g args r (PK hq)
   ·unfold Apc at h
    split at h
    ·rename_i r' σ' hc
     split at h
     ·rename_i hnr
      cases h
      obtain ⟨_,hk,fn,c,hfn,hb,hgo⟩:=LM (Tc n g) (H:=.nil) (hn:=0) rfl hc
      obtain ⟨q1,q2⟩:=ht g fn c hk hfn hb
      exact SV (ih g) hm 60 hfn hb q1 q2 hnr (NT (hgo 0) fun r' s'' hh=>by obtain ⟨rfl,rfl⟩:=hh; rfl)
     ·cases h
    ·cases h
  refine ⟨fun f=>⟨fun g args r h=>?_,fun g args H cnt r H' cnt' h=>?_⟩,hv⟩
  ·have h:pK P t G (n+1) g args=some r:=h
   simp only [pK] at h
   split at h
   ·rename_i q hq
    cases h
    exact hG.p g args r (PK hq)
   ·unfold Apb at h
    split at h
    ·rename_i r' σ' hc
     split at h
     ·rename_i hok
      cases h
      obtain ⟨_,hk,fn,c,hfn,hb,hgo⟩:=LM (Tc n g) (H:=.nil) (hn:=0) rfl hc
      obtain ⟨q1,q2⟩:=ht g fn c hk hfn hb
      exact Ab (ih g) hm hfn hb q1 q2 hok (NT (hgo 0) fun r' s'' hh=>hh.1)
     ·cases h
    ·cases h
  ·have h:EE.hcall (eK P t G (n+1) f) g args H cnt=some (r,H',cnt'):=h
   unfold EE.hcall at h
   split at h
   ·cases hnr:norefs args with
    | false=>rw [hnr] at h; cases h
    | true=>
     cases hq:(eK P t G (n+1) f).vc g args with
     | none=>rw [hnr,hq] at h; cases h
     | some q=>
      rw [hnr,hq] at h
      cases h
      exact Pl (hv g args _ hq) hnr H cnt
   ·have h:hcL (hK P t G (n+1)) g args H cnt=some (r,H',cnt'):=h
    unfold hcL at h
    split at h
    ·rename_i r1 H1 n1 c1 hh
     cases h
     simp only [hK] at hh
     split at hh
     ·rename_i q hq
      cases hh
      have hh:=PK hq
      unfold givT at hh
      split at hh
      ·rename_i r2 H2 c2 hg
       cases hh
       rw [Tr.toL_ofL] at hg
       rw [Tr.toL_ofL]
       exact hG.h g args H cnt _ _ _ hg
      ·cases hh
     ·split at hh
      ·rename_i q hq
       cases hh
       have hq:=PK hq
       rw [Axi,HX,Tr.toL_ofL] at hq
       rw [Tr.toL_ofL]
       exact Pp (hG.f g _ _ hq)
      ·unfold Arv at hh
       split at hh
       ·rename_i r2 σ2 hc
        obtain ⟨hi,hk,fn,c,hfn,hb,hgo⟩:=LM (Tc n g) (Tr.ofL_fit dead H) hc
        obtain ⟨q1,q2⟩:=ht g fn c hk hfn hb
        rw [Tr.toL_ofL] at hgo
        split at hh
        ·cases hh
         exact Uf (ih g) hm hfn hb q1 q2 (NT (hgo H.length) fun r' s'' hh=>by obtain ⟨rfl,rfl⟩:=hh; exact ⟨rfl,rfl,rfl⟩)
        ·split at hh
         ·rename_i H3 n3 htr
          cases hh
          obtain ⟨_,_,t3⟩:=Mz hi htr
          refine Ag (ih g) hm hfn hb q1 q2 (NT (hgo H.length) fun r' s'' hh=>?_)
          obtain ⟨rfl,rfl⟩:=hh
          refine ⟨.refl _,?_,Ax _⟩
          rw [t3]
          have:=DY (σ2.toS.H) (σ2.toS.H.drop n1) (σ2.toS.H.take n1)
          rw [lx67] at this
          exact this
         ·cases hh
       ·cases hh
    ·cases h
theorem Abx {P:Program} {t:TabE} {G:Giv} (hm:P.follows .mixedOrders=true) (ht:PH P t) (hG:GivOk P G) {n f:Nat} {args:List AV} {r:AV} (h:pK P t G n f args=some r):CO P f args r:=
 ((Td hm ht hG n).1 0).p f args r h
theorem Aby {P:Program} {t:TabE} {G:Giv} (hm:P.follows .mixedOrders=true) (ht:PH P t) (hG:GivOk P G) {n f:Nat} {args:List AV} {r:AV} (h:vK P t G n f args=some r):Db P f args r:=
 (Td hm ht hG n).2 f args r h
end Go.SX
