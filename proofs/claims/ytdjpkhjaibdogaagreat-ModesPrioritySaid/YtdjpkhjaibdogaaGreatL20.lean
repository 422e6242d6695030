/-
  Lemmas towards ModesPriority (joined texts: SYF, SZA, SYI, SXI, SXT, SXU, SXV).
  Conditions: none.
-/
import Derived.Test.YtdjpkhjaibdogaaGreatL01
import Derived.Test.YtdjpkhjaibdogaaGreatL19
import Derived.Test.YtdjpkhjaibdogaaGreatL17
import Derived.Test.YtdjpkhjaibdogaaGreatL14
import Derived.Test.YtdjpkhjaibdogaaGreatL12
import Derived.Test.YtdjpkhjaibdogaaGreatL15
set_option linter.unusedSimpArgs false
set_option linter.unusedVariables false
set_option maxRecDepth 100000
namespace Go.SX
noncomputable def opX (P:Program) (E:EE) (ops:Array Oper) (σ:ES) (o:Oper):Option ES:=(Zj P ops o).run false E σ none some
theorem Azz {P:Program} {E:EE} (hE:E.Ok) {ops:Array Oper} {σ σ':ES} {o:Oper} (hi:σ.Inv) (h:opX P E ops σ o=some σ'):σ'.Inv∧Ag P E.env ops σ.toS o=some σ'.toS∧σ'.n=σ.n:=by
 rcases An8 P ops o (Option ES) false E σ none (some σ') some hE hi h with h | ⟨σ2,q1,q2,q3,q4⟩
 ·cases h
 ·cases q4
  exact ⟨q1,q3,q2⟩
noncomputable def HW (P:Program) (E:EE) (ops:Array Oper):List Oper→Nat→ES→List PastE→List DidE→Option ES
 | [],_,σ,_,_=>some σ
 | o::r,i,σ,hs,ds=>el (opX P E ops σ o) none fun σ'=>
  bB (BY E.hb o.op)
   (bB (AE o.op)
    (bB ((I4 E.isP (KR σ) o.op || isVE E (KR σ) o.op) && Uw P E ops i o σ.T σ.n σ'.T hs) none (HW P E ops r (i+1) σ' hs (⟨i,o,σ,σ'.T⟩::ds)))
    (HW P E ops r (i+1) σ' hs ds))
   (bB (Ux P E ops i σ'.H σ'.hn σ'.cnt ds && Amz E.hb ops i σ' o.op && Nat.blt 0 σ'.hn) none (HW P E ops r (i+1) σ' (⟨i,σ⟩::hs) ds))
theorem Ir {P:Program} {E:EE} (hE:E.Ok) {ops:Array Oper}:∀ {l:List Oper} {i:Nat} {σ σ1:ES} {hs:List PastE} {ds:List DidE},σ.Inv→(∀ h ∈ hs,h.σ.Inv)→
  HW P E ops l i σ hs ds=some σ1→σ1.Inv∧J3 P E.env E.vb ops l i σ.toS (hs.map PastE.toP) (ds.map DidE.toD)=some σ1.toS
 | [],i,σ,σ1,hs,ds,hi,hp,h=>by simp only [HW,lx16] at h; subst h; exact ⟨hi,rfl⟩
 | o::r,i,σ,σ1,hs,ds,hi,hp,h=>by
  simp only [HW] at h
  obtain ⟨σ',hst,h⟩:=CQ h
  obtain ⟨q1,q2,q3⟩:=Azz hE hi hst
  simp only [J3,q2]
  rcases M4 h with ⟨hh,h⟩ | ⟨hh,h⟩
  ·rw [show E.env.hb=E.hb from rfl,hh]
   simp only
   rcases M4 h with ⟨hn,h⟩ | ⟨hn,h⟩
   ·rw [hn]
    simp only
    obtain ⟨hc,h⟩:=O3 h
    simp only [AH] at hc
    obtain ⟨c1,c2⟩:=hc
    rw [D4,Dc,R7,VY] at c1
    have c2:=Zc hE hp c2
    have e:((AQ E.env σ.toS o.op || isVop E.vb σ.toS o.op) && RY P E.env E.vb ops i o σ.toS.T σ'.toS.T (hs.map PastE.toP))=true:=by
     rw [c1,KP]
     simp only [ES.toS,q3]
     exact c2
    rw [e]
    simp only
    have:=Ir hE q1 hp h
    have e2:(DidE.toD ⟨i,o,σ,σ'.T⟩)=⟨i,o,σ.toS.T,σ'.toS.T⟩:=by simp only [DidE.toD,ES.toS,q3]
    rw [lx31,e2] at this
    exact this
   ·rw [hn]
    exact Ir hE q1 hp h
  ·rw [show E.env.hb=E.hb from rfl,hh]
   simp only
   obtain ⟨hc,h⟩:=O3 h
   simp only [AH] at hc
   obtain ⟨⟨c1,c2⟩,c3⟩:=hc
   have c1:=Zd hE q1 c1
   have c3:0 < σ'.hn:=by rw [blt_eq] at c3; simpa using c3
   have e:(RZ P E.env E.vb ops i σ'.toS.H σ'.toS.cnt (ds.map DidE.toD) && Af0 E.hb ops i σ'.toS.H o.op)=true:=by
    rw [c1,KP]
    cases ho:o.op <;> rw [ho] at c2 <;> try rfl
    simp only [Amz,ID] at c2
    simp only [Af0,ID]
    refine c2.imp id fun q=>?_
    simp only [ES.toS]
    rw [Ze _ c3]
    exact q
   rw [e]
   simp only
   have:=Ir hE q1 (hs:=⟨i,σ⟩::hs) (by
    intro x hx
    rcases lx59.1 hx with rfl | hx
    ·exact hi
    ·exact hp x hx) h
   exact this
structure GFn where
 run:{R:Type}→EE→ES→R→(ES→R)→R
noncomputable def Ai2 (P:Program) (id:Nat) (ops:Array Oper) (dr:Bool):GFn:=
 match dr with
 | false=>⟨fun E σ z c=>(M5 P ops ops.toList).run E.lit E σ z c⟩
 | true=>⟨fun E σ z c=>el (match E.perm id with
  | none=>HW P E ops ops.toList 0 σ [] []
  | some []=>none
  | some (i::π)=>HW P E (BW ops (i::π)) (BW ops (i::π)).toList 0 σ [] []) z c⟩
theorem Arz {P:Program} {E:EE} (hE:E.Ok) {n0:Nat} {rs:List ResultVar} {Q:AV→St→Prop} {id:Nat} {ops:Array Oper} {dr:Bool} {σ:ES} {k:List Item} (hi:σ.Inv) {R:Type} {z r:R} {c:ES→R} (h:(Ai2 P id ops dr).run E σ z c=r):
  r=z∨∃ σ',σ'.Inv∧(Go P E.env n0 rs Q k σ'.toS→Go P E.env n0 rs Q (.code (.region id ops dr)::k) σ.toS)∧c σ'=r:=by
 unfold Ai2 at h
 cases dr with
 | false=>
  rcases Afc P ops ops.toList R E.lit E σ z r c hE hi h with h | ⟨σ',q1,q2,q3,q4⟩
  ·exact .inl h
  ·refine .inr ⟨σ',q1,fun ih=>.region ?_ ih,q4⟩
   have:=Afb P ops E.env ops.toList σ.toS
   rw [←this]
   exact q3
 | true=>
  rcases Zh h with h | ⟨σ',hr,h⟩
  ·exact .inl h
  ·refine .inr ⟨σ',?_⟩
   split at hr
   ·rename_i hp
    obtain ⟨q1,q2⟩:=Ir hE hi (by intro h hh; cases hh) hr
    have q3:=Im (Avn E) (fun _ h=>by cases h) q2
    refine ⟨q1,fun ih=>?_,h⟩
    cases hh:ops.toList.any EP with
    | true=>exact .drawH hp hh q3 ih
    | false=>exact .draw hp (Ea _ _ _ _ hh q3) ih
   ·cases hr
   ·rename_i hp
    obtain ⟨q1,q2⟩:=Ir hE hi (by intro h hh; cases hh) hr
    exact ⟨q1,fun ih=>.drawP hp (Im (Avn E) (fun _ h=>by cases h) q2) ih,h⟩
structure SFn where
 run:EE→List Item→ES→(List Item→ES→Option (AV × ES))→Option (AV × ES)
noncomputable def Zk (P:Program) (x:Item):SFn:=
 match x with
 | .code .skip=>⟨fun _ k σ c=>c k σ⟩
 | .code (.seq x y)=>⟨fun _ k σ c=>c (.code x::.code y::k) σ⟩
 | .code (.cond b x y)=>⟨fun _ k σ c=>match KR σ b with
  | .sc (.bool t)=>bB t (c (.code y::k) σ) (c (.code x::k) σ)
  | _=>none⟩
 | .code (.block id a)=>⟨fun _ k σ c=>c (.code a::.inBlock id::k) σ⟩
 | .inBlock _=>⟨fun _ k σ c=>c k σ⟩
 | .code (.loop a)=>⟨fun _ k σ c=>c (.code a::.inLoop a::k) σ⟩
 | .inLoop a=>⟨fun _ k σ c=>c (.code a::.inLoop a::k) σ⟩
 | .code (.exit id)=>⟨fun _ k σ c=>el (exitTo id k) none fun k'=>c k' σ⟩
 | .code (.region id ops dr)=>⟨fun E k σ c=>(Ai2 P id ops dr).run E σ none fun σ'=>c k σ'⟩
 | _=>⟨fun _ _ _ _=>none⟩
noncomputable def finK (P:Program) (rs:List ResultVar) (σ:ES):Option (AV × ES):=el (Ahy P σ rs) none fun vs=>some (Gp vs,σ)
noncomputable def Ai3 (P:Program) (E:EE) (rs:List ResultVar) (n:Nat):List Item→ES→Option (AV × ES):=
 Nat.rec (motive:=fun _=>List Item→ES→Option (AV × ES)) (fun _ _=>none)
  (fun _ ih k σ=>List.rec (motive:=fun _=>Option (AV × ES)) (finK P rs σ) (fun x k' _=>bB (MX x) ((Zk P x).run E k' σ ih) (finK P rs σ)) k) n
theorem Abe {P:Program} {E:EE} (hE:E.Ok) {n0:Nat} {rs:List ResultVar} {r:AV} {σ1:ES}:∀ {n:Nat} {k:List Item} {σ:ES},σ.Inv→Ai3 P E rs n k σ=some (r,σ1)→
  σ1.Inv∧Go P E.env n0 rs (fun r' s'=>r'=r∧s'=σ1.toS) k σ.toS
 | 0,k,σ,hi,h=>by cases h
 | n+1,[],σ,hi,h=>by
  have h:finK P rs σ=some (r,σ1):=h
  obtain ⟨vs,hv,h⟩:=CQ h
  cases h
  exact ⟨hi,.fin (Qf hv) ⟨rfl,rfl⟩⟩
 | n+1,x::k,σ,hi,h=>by
  have h:bB (MX x) ((Zk P x).run E k σ (Ai3 P E rs n)) (finK P rs σ)=some (r,σ1):=h
  rcases M4 h with ⟨hx,h⟩ | ⟨hx,h⟩
  ·have ih:∀ {k:List Item} {σ:ES},σ.Inv→Ai3 P E rs n k σ=some (r,σ1)→σ1.Inv∧Go P E.env n0 rs (fun r' s'=>r'=r∧s'=σ1.toS) k σ.toS:=fun hi h=>Abe hE hi h
   unfold Zk at h
   split at h
   ·exact (ih hi h).imp id .skip
   ·exact (ih hi h).imp id .seq
   ·simp only at h
    split at h
    ·rename_i t ht
     rw [D4,Dc] at ht
     rcases M4 h with ⟨rfl,h⟩ | ⟨rfl,h⟩
     ·exact (ih hi h).imp id fun q=>.cond false ht q
     ·exact (ih hi h).imp id fun q=>.cond true ht q
    ·cases h
   ·exact (ih hi h).imp id .block
   ·exact (ih hi h).imp id .inBlock
   ·exact (ih hi h).imp id .loop
   ·exact (ih hi h).imp id .inLoop
   ·obtain ⟨k',he,h⟩:=CQ h
    exact (ih hi h).imp id fun q=>.exit he q
   ·rcases Arz hE (n0:=n0) (rs:=rs) (Q:=fun r' s'=>r'=r∧s'=σ1.toS) (k:=k) hi h with h | ⟨σ',q1,q2,q3⟩
    ·cases h
    ·exact (ih q1 q3).imp id q2
   ·cases h
  ·have hx:x=.code .ret:=by
    unfold MX at hx
    split at hx
    ·rfl
    ·cases hx
   subst hx
   obtain ⟨vs,hv,h⟩:=CQ h
   cases h
   exact ⟨hi,.ret (Qf hv) ⟨rfl,rfl⟩⟩
noncomputable def J9 (P:Program) (t:TabE) (E:EE) (f:Nat) (args:List AV) (H:Tr Blk) (hn cnt:Nat):Option (AV × ES):=
 match t.ok f with
 | true=>match P.funcs[f]? with
  | some fn=>match fn.body with
   | some c=>match Nat.ble args.length fn.ntmps with
    | true=>match Tr.setAll (Tr.rep .un 12 fn.ntmps) 0 args with
     | some T=>Ai3 P E fn.results.toList Amk [.code c] ⟨T,fn.ntmps,H,hn,cnt⟩
     | none=>none
    | false=>none
   | none=>none
  | none=>none
 | false=>none
theorem EW {P:Program} {t:TabE} {E:EE} (hE:E.Ok) {f:Nat} {args:List AV} {H:Tr Blk} {hn cnt:Nat} {r:AV} {σ1:ES} (hf:Tr.Fit H hn) (h:J9 P t E f args H hn cnt=some (r,σ1)):
  σ1.Inv∧t.ok f=true∧∃ fn c,P.funcs[f]?=some fn∧fn.body=some c∧∀ n0,Go P E.env n0 fn.results.toList (fun r' s'=>r'=r∧s'=σ1.toS) [.code c] (Ae fn args (H.toL dead hn) cnt):=by
 unfold J9 at h
 split at h
 ·rename_i hok
  split at h
  ·rename_i fn hfn
   split at h
   ·rename_i c hc
    split at h
    ·rename_i hlen
     split at h
     ·rename_i T hT
      have hle:args.length≤fn.ntmps:=Nat.le_of_ble_eq_true hlen
      have e:(ES.toS ⟨T,fn.ntmps,H,hn,cnt⟩)=Ae fn args (H.toL dead hn) cnt:=by
       unfold ES.toS Ae
       congr 1
       refine lx65 fun j=>?_
       rw [Tr.toL_get,lx18,List.getElem?_replicate]
       simp only [Tr.setAll_ok AV.un hT j,Bq,C5,CL,Nat.sub_zero,Tr.rep_get]
       by_cases h1:j < args.length
       ·rw [if_pos (by omega),if_pos h1,if_pos h1,lx81,lx50 h1]; rfl
       ·rw [if_neg h1,if_neg h1]
        by_cases h2:j < fn.ntmps
        ·rw [if_pos h2,if_pos (by omega)]
        ·rw [if_neg h2,if_neg (by omega)]
      have hi:(ES.Inv ⟨T,fn.ntmps,H,hn,cnt⟩):=hf
      refine ⟨(Abe hE (n0:=0) hi h).1,hok,fn,c,hfn,hc,fun n0=>?_⟩
      rw [←e]
      exact (Abe hE hi h).2
     ·cases h
    ·cases h
   ·cases h
  ·cases h
 ·cases h
def gvn {α:Type} (b:Bool) (x:Option α):Option α:=
 match b with
 | true=>x
 | false=>none
theorem Sa {α:Type} {b:Bool} {x:Option α} {r:α} (h:gvn b x=some r):x=some r:=by
 cases b with
 | true=>exact h
 | false=>cases h
noncomputable def gT (H:Tr Blk) (hn:Nat) (id:Nat):Option Blk:=bB (Nat.blt id hn) none (some (Tr.getN dead H id))
theorem Bfe (H:Tr Blk) (hn:Nat):gT H hn=fun i=>(H.toL dead hn)[i]?:=by
 funext id
 simp only [gT,Tr.getN_eq,Tr.toL_get,blt_eq]
 by_cases h:id < hn
 ·simp [h,Br]
 ·simp [h,Bz]
mutual
noncomputable def pK (P:Program) (t:TabE) (G:Giv):Nat→Nat→List AV→Option AV
 | 0,_,_=>none
 | n+1,f,args=>match gvn (t.givP f) (G.p f args) with
  | some r=>some r
  | none=>Uy (J9 P t (Iq t (pK P t G n) (vK P t G n) (hK P t G n) f) f args .nil 0 0)
noncomputable def vK (P:Program) (t:TabE) (G:Giv):Nat→Nat→List AV→Option AV
 | 0,_,_=>none
 | n+1,f,args=>match gvn (t.givV f) (G.v f args) with
  | some r=>some r
  | none=>Uz (J9 P t (Iq t (pK P t G n) (vK P t G n) (hK P t G n) f) f args .nil 0 0)
noncomputable def hK (P:Program) (t:TabE) (G:Giv):Nat→Nat→List AV→Tr Blk→Nat→Nat→Option (AV × Tr Blk × Nat × Nat)
 | 0,_,_,_,_,_=>none
 | n+1,f,args,H,hn,cnt=>match gvn (t.givH f) (givT G f args H hn cnt) with
  | some r=>some r
  | none=>match gvn (t.givF f) (G.f f (J4 (gT H hn) args)) with
  | some r=>some (r,H,hn,cnt)
  | none=>Zf (t.keep f) hn (J9 P t (Iq t (pK P t G n) (vK P t G n) (hK P t G n) f) f args H hn cnt)
end
noncomputable def eK (P:Program) (t:TabE) (G:Giv) (n f:Nat):EE:=Iq t (pK P t G n) (vK P t G n) (hK P t G n) f
theorem N2 {P:Program} {t:TabE} {G:Giv}:∀ n f,(eK P t G n f).Ok
 | 0,f=>by
  intro g args H hn c r H' n' c' hf h
  simp [eK,Iq,hK] at h
 | n+1,f=>by
  intro g args H hn c r H' n' c' hf h
  have h:hK P t G (n+1) g args H hn c=some (r,H',n',c'):=h
  simp only [hK] at h
  split at h
  ·rename_i q hq
   cases h
   have h:=Sa hq
   unfold givT at h
   split at h
   ·cases h
    exact Tr.ofL_fit dead _
   ·cases h
  ·split at h
   ·cases h
    exact hf
   ·unfold Zf at h
    split at h
    ·rename_i r1 σ1 hc
     have hi:=(EW (N2 n g) hf hc).1
     exact Bdt
    ·cases h
theorem M6 {P:Program} {t:TabE} {G:Giv} (hm:P.follows .mixedOrders=true) (ht:Hi P t) (hG:GivOk P G):∀ n,(∀ f,EnvOk P (eK P t G n f).env)∧(∀ f args r,vK P t G n f args=some r→Ba P f args r)
 | 0=>⟨fun f=>⟨fun g args r h=>by simp [eK,Iq,EE.env,pK] at h,fun g args H cnt r H' cnt' h=>by
   have h:EE.hcall (eK P t G 0 f) g args H cnt=some (r,H',cnt'):=h
   unfold EE.hcall at h
   split at h
   ·have e:(eK P t G 0 f).vc g args=none:=by simp [eK,Iq,vK]
    rw [e] at h
    cases hq:norefs args <;> rw [hq] at h <;> cases h
   ·unfold hcL at h
    simp [eK,Iq,hK] at h⟩,fun f args r h=>by simp [vK] at h⟩
 | n+1=>by
  obtain ⟨ih,ihv⟩:=M6 hm ht hG n
  have hv:∀ f args r,vK P t G (n+1) f args=some r→Ba P f args r:=by
   intro g args r h
   simp only [vK] at h
   split at h
   ·rename_i q hq
    cases h
    exact hG.v g args r (Sa hq)
   ·unfold Uz at h
    split at h
    ·rename_i r' σ' hc
     split at h
     ·rename_i hnr
      cases h
      obtain ⟨_,hk,fn,c,hfn,hb,hgo⟩:=EW (N2 n g) (H:=.nil) (hn:=0) rfl hc
      exact Bd6
     ·cases h
    ·cases h
  refine ⟨fun f=>⟨fun g args r h=>?_,fun g args H cnt r H' cnt' h=>?_⟩,hv⟩
  ·have h:pK P t G (n+1) g args=some r:=h
   simp only [pK] at h
   split at h
   ·rename_i q hq
    cases h
    exact hG.p g args r (Sa hq)
   ·unfold Uy at h
    split at h
    ·rename_i r' σ' hc
     split at h
     ·rename_i hok
      cases h
      obtain ⟨_,hk,fn,c,hfn,hb,hgo⟩:=EW (N2 n g) (H:=.nil) (hn:=0) rfl hc
      exact Bdn
     ·cases h
    ·cases h
  ·have h:EE.hcall (eK P t G (n+1) f) g args H cnt=some (r,H',cnt'):=h
   unfold EE.hcall at h
   split at h
   ·cases hnr:norefs args with
    | false=>rw [hnr] at h; cases h
    | true=>
     cases hq:(eK P t G (n+1) f).vc g args with
     | none=>rw [hnr,hq] at h; cases h
     | some q=>
      rw [hnr,hq] at h
      cases h
      exact Lt (hv g args _ hq) hnr H cnt
   ·have h:hcL (hK P t G (n+1)) g args H cnt=some (r,H',cnt'):=h
    unfold hcL at h
    split at h
    ·rename_i r1 H1 n1 c1 hh
     cases h
     simp only [hK] at hh
     split at hh
     ·rename_i q hq
      cases hh
      have hh:=Sa hq
      unfold givT at hh
      split at hh
      ·rename_i r2 H2 c2 hg
       cases hh
       rw [Tr.toL_ofL] at hg
       rw [Tr.toL_ofL]
       exact hG.h g args H cnt _ _ _ hg
      ·cases hh
     ·split at hh
      ·rename_i q hq
       cases hh
       have hq:=Sa hq
       rw [Bfe,Ip,Tr.toL_ofL] at hq
       rw [Tr.toL_ofL]
       exact RP (hG.f g _ _ hq)
      ·unfold Zf at hh
       split at hh
       ·rename_i r2 σ2 hc
        obtain ⟨hi,hk,fn,c,hfn,hb,hgo⟩:=EW (N2 n g) (Tr.ofL_fit dead H) hc
        exact Av3
       ·cases hh
    ·cases h
noncomputable def Avt:Option (AV × ES)→Option AV
 | some (r,σ)=>match r.freshIn (σ.H.toL dead σ.hn) && (Am (σ.H.toL dead σ.hn) r).noref with
  | true=>some (Am (σ.H.toL dead σ.hn) r)
  | false=>none
 | none=>none
noncomputable def fK (P:Program) (t:TabE) (G:Giv) (n f:Nat) (args:List AV):Option AV:=Avt (J9 P t (eK P t G n f) f args .nil 0 0)
theorem Fk {P:Program} {t:TabE} {G:Giv} (hm:P.follows .mixedOrders=true) (ht:Hi P t) (hG:GivOk P G) {n f:Nat} {args:List AV} {r:AV} (h:pK P t G n f args=some r):Ap P f args r:=
 ((M6 hm ht hG n).1 0).p f args r h
theorem UA {P:Program} {t:TabE} {G:Giv} (hm:P.follows .mixedOrders=true) (ht:Hi P t) (hG:GivOk P G) {n f:Nat} {args:List AV} {r:AV} (h:vK P t G n f args=some r):Ba P f args r:=
 (M6 hm ht hG n).2 f args r h
theorem N3 {P:Program} {t:TabE} {G:Giv} (hm:P.follows .mixedOrders=true) (ht:Hi P t) (hG:GivOk P G) {n f:Nat} {args:List AV} {r:AV} (h:fK P t G n f args=some r):C4 P f args r:=by
 unfold fK Avt at h
 split at h
 ·rename_i r' σ' hc
  split at h
  ·rename_i hnr
   cases h
   simp only [AH] at hnr
   obtain ⟨_,hk,fn,c,hfn,hb,hgo⟩:=EW (N2 n f) (H:=.nil) (hn:=0) rfl hc
   obtain ⟨q1,q2⟩:=ht f fn c hk hfn hb
   exact YU ((M6 hm ht hG n).1 f) hm hfn hb q1 q2 hnr.2 (MY (hgo 0) fun r' s'' hh=>by obtain ⟨rfl,rfl⟩:=hh; exact ⟨rfl,hnr.1⟩)
  ·cases h
 ·cases h
end Go.SX
namespace Go.SX
open Go.RowKit (Below)
inductive NwV (id ver:Nat):AV→AV→Prop
 | refl (v:AV):NwV id ver v v
 | nil:NwV id ver (.vw true []) (.sl id ver 0 0)
 | nil0:NwV id ver (.sc (.slice none 0 0)) (.sl id ver 0 0)
 | ag {cs ds:List AV} (hl:cs.length=ds.length) (h:∀ (i:Nat) (c d:AV),cs[i]?=some c→ds[i]?=some d→NwV id ver c d):NwV id ver (.ag cs) (.ag ds)
def NwL (id ver:Nat):List AV→List AV→Prop
 | [],[]=>True
 | x::l,y::m=>NwV id ver x y∧NwL id ver l m
 | _,_=>False
theorem Fv {id ver:Nat}:∀ {l m:List AV},NwL id ver l m→l.length=m.length∧∀ (i:Nat) (c d:AV),l[i]?=some c→m[i]?=some d→NwV id ver c d
 | [],[],_=>⟨rfl,fun i c d h=>by simp at h⟩
 | x::l,y::m,h=>by
  obtain ⟨h1,h2⟩:=Fv h.2
  refine ⟨by simp [h1],fun i c d hc hd=>?_⟩
  cases i with
  | zero=>simp at hc hd; subst hc; subst hd; exact h.1
  | succ i=>simp at hc hd; exact h2 i c d hc hd
 | [],_::_,h=>h.elim
 | _::_,[],h=>h.elim
theorem Cr (id ver:Nat):∀ l:List AV,NwL id ver l l
 | []=>trivial
 | x::l=>⟨.refl x,Cr id ver l⟩
theorem I6 {id ver:Nat} {cs ds:List AV} (h:NwL id ver cs ds):NwV id ver (.ag cs) (.ag ds):=.ag (Fv h).1 (Fv h).2
def NwB (id ver:Nat) (a b:Blk):Prop:=a=b∨b.live=false∨(a.live=b.live∧a.ver=b.ver∧a.ty=b.ty∧a.esz=b.esz∧NwL id ver a.els b.els)
def NwH (id ver:Nat):List Blk→List Blk→Prop
 | [],[]=>True
 | a::l,b::m=>NwB id ver a b∧NwH id ver l m
 | _,_=>False
theorem V1 {id ver:Nat}:∀ {l m:List Blk},NwH id ver l m→l.length=m.length∧∀ (i:Nat) (c d:Blk),l[i]?=some c→m[i]?=some d→NwB id ver c d
 | [],[],_=>⟨rfl,fun i c d h=>by simp at h⟩
 | x::l,y::m,h=>by
  obtain ⟨h1,h2⟩:=V1 h.2
  refine ⟨by simp [h1],fun i c d hc hd=>?_⟩
  cases i with
  | zero=>simp at hc hd; subst hc; subst hd; exact h.1
  | succ i=>simp at hc hd; exact h2 i c d hc hd
 | [],_::_,h=>h.elim
 | _::_,[],h=>h.elim
theorem M7 (id ver:Nat):∀ l:List Blk,NwH id ver l l
 | []=>trivial
 | x::l=>⟨.inl rfl,M7 id ver l⟩
theorem Ana {id ver:Nat} {x y:AV} (h:NwV id ver x y):x.cells.length=y.cells.length∧∀ (i:Nat) (c d:AV),x.cells[i]?=some c→y.cells[i]?=some d→NwV id ver c d:=by
 cases h with
 | refl=>exact ⟨rfl,fun i c d hc hd=>by rw [hc] at hd; cases hd; exact .refl _⟩
 | nil=>
  refine ⟨rfl,fun i c d hc hd=>?_⟩
  cases i with
  | zero=>simp [AV.cells] at hc hd; subst hc; subst hd; exact .nil
  | succ i=>simp [AV.cells] at hc
 | nil0=>
  refine ⟨rfl,fun i c d hc hd=>?_⟩
  cases i with
  | zero=>simp [AV.cells] at hc hd; subst hc; subst hd; exact .nil0
  | succ i=>simp [AV.cells] at hc
 | ag hl h=>exact ⟨hl,h⟩
theorem Avu {w:World} {X:Nat→Prop} {hc hc':HC} {id ver ty esz:Nat} (ev:Evo w X hc w X hc') (hr:HR w X hc) (hv':ver < hc'.cnt) (hid:hc'.H[id]?=some ⟨true,ver,ty,esz,[],false⟩)
  {x y:AV} {v:Value} (h:NwV id ver x y) (hv:VR w X (some hc) x v):VR w X (some hc') y v:=by
 induction h generalizing v with
 | refl=>exact hv.mono ev hr
 | nil=>
  cases hv with
  | vw0 hz hm=>
   rename_i a cap
   obtain rfl:=hz rfl
   exact Bd8
  | vw1 f hne=>exact absurd rfl hne
 | nil0=>
  cases hv with
  | sc h=>
   exact Bd8
 | ag hl h ih=>
  cases hv with
  | ag hl' h1 h2=>
   exact Bd2
theorem Bfg {w:World} {X:Nat→Prop} {loc:Nat→Option (Nat × Nat)} {act:Act} {T T':List AV} {H H':List Blk} {c c' ver ty esz:Nat} (hs:SR w X loc ⟨T,H,c⟩ act) (hv:c≤ver) (hv':ver < c')
  (hT:NwL H.length ver T T') (hH:NwH H.length ver H H'):
  ∃ X' loc',SR w X' loc' ⟨T',H'++[⟨true,ver,ty,esz,[],false⟩],c'⟩ act∧∀ w0 X0 Cc,Evo w0 X0 Cc w X ((⟨T,H,c⟩:St).hc loc)→Evo w0 X0 Cc w X' ((⟨T',H'++[⟨true,ver,ty,esz,[],false⟩],c'⟩:St).hc loc'):=by
 obtain ⟨h1,h2,h3⟩:=hs
 obtain ⟨hl,hg⟩:=V1 hH
 have hnew:∀ k (B:Blk),(H'++[(⟨true,ver,ty,esz,[],false⟩:Blk)])[k]?=some B→(k < H'.length∧H'[k]?=some B)∨(k=H'.length∧B=⟨true,ver,ty,esz,[],false⟩):=by
  intro k B hk
  rw [lx18] at hk
  split at hk
  ·rename_i hl; exact .inl ⟨hl,hk⟩
  ·rename_i hl
   exact Bd5
 have key:∀ (k:Nat) (B:Blk),H'[k]?=some B→B.live=true→∃ A,H[k]?=some A∧A.live=true∧A.ver=B.ver∧A.ty=B.ty∧A.esz=B.esz∧NwL H.length ver A.els B.els:=by
  exact Bck
 have ev:Evo w X ⟨loc,H,c⟩ w X ⟨fun k=>if k=H'.length then none else loc k,H'++[⟨true,ver,ty,esz,[],false⟩],c'⟩:=by
  refine ⟨rfl,rfl,rfl,Av _,fun _ _ _=>rfl,fun _ _ hs=>hs,fun _ _=>Iff.rfl,by simp only; omega,?_,?_⟩
  ·intro id B' e1 e2 e3
   simp only at e1 e3 ⊢
   rcases hnew id B' e1 with ⟨hl',e1⟩ | ⟨rfl,rfl⟩
   ·obtain ⟨A,g1,g2,g3,g4,g5,g6⟩:=key id B' e1 e2
    exact ⟨A,g1,g2,g3,by rw [if_neg (by omega)],g5,g4,(Fv g6).1⟩
   ·simp only at e3; omega
  ·intro id B' b o e1 e2 e3 e4
   simp only at e1 e3 ⊢
   rcases hnew id B' e1 with ⟨hl',e1⟩ | ⟨rfl,rfl⟩
   ·rw [if_neg (by omega)] at e3
    obtain ⟨A,g1,g2,_⟩:=key id B' e1 e2
    exact ⟨A,o,g1,g2,e3⟩
   ·rw [if_pos rfl] at e3; cases e3
 have hid:(H'++[(⟨true,ver,ty,esz,[],false⟩:Blk)])[H.length]?=some ⟨true,ver,ty,esz,[],false⟩:=by rw [hl,lx62 (Av _)]; simp
 have hvr:∀ {x y:AV} {v:Value},NwV H.length ver x y→VR w X (some ⟨loc,H,c⟩) x v→VR w X (some ⟨fun k=>if k=H'.length then none else loc k,H'++[⟨true,ver,ty,esz,[],false⟩],c'⟩) y v:=
  fun h hv=>Avu ev h1 (by exact hv') hid h hv
 refine ⟨X,fun k=>if k=H'.length then none else loc k,⟨⟨?_,?_,h1.lt⟩,?_,h3⟩,fun w0 X0 Cc he=>he.trans ev⟩
 ·intro id B e1 e2
  rcases hnew id B e1 with ⟨hl',e1⟩ | ⟨rfl,rfl⟩
  ·obtain ⟨A,k1,k2,k3,k4,k5,k6⟩:=key id B e1 e2
   obtain ⟨g1,g2,g3⟩:=h1.blk id A k1 k2
   have g1':A.ver < c:=g1
   have hlen:=(Fv k6).1
   refine ⟨by simp only [St.hc]; omega,by rw [←hlen]; exact g2,?_⟩
   show match (if id=H'.length then none else loc id) with
    | none=>B.els=[]
    | some (b,base)=>X b∧(∃ cs,w.heap[b]?=some (.cells cs B.ty (0,0)))∧ElsOk w X ⟨fun k=>if k=H'.length then none else loc k,H'++[⟨true,ver,ty,esz,[],false⟩],c'⟩ b base B
   rw [if_neg (by omega)]
   have g3':match loc id with
    | none=>A.els=[]
    | some (b,base)=>X b∧(∃ cs,w.heap[b]?=some (.cells cs A.ty (0,0)))∧ElsOk w X ⟨loc,H,c⟩ b base A:=g3
   cases hlc:loc id with
   | none=>
    rw [hlc] at g3'
    exact Ayn
   | some p=>
    exact Bcf
  ·refine ⟨hv',by simp [Dl],?_⟩
   simp only [St.hc,lx8]
 ·intro j j' B1 B2 b' o o' e1 e2 e3 e4 e5 e6
  simp only [St.hc] at e1 e2 e5 e6
  rcases hnew j B1 e1 with ⟨hl1,e1⟩ | ⟨rfl,rfl⟩
  ·rcases hnew j' B2 e2 with ⟨hl2,e2⟩ | ⟨rfl,rfl⟩
   ·rw [if_neg (by omega)] at e5 e6
    exact Bdf
   ·rw [if_pos rfl] at e6; cases e6
  ·rw [if_pos rfl] at e5; cases e5
 ·obtain ⟨e1,e2⟩:=Fv hT
  exact Ay9
theorem HX {P:Program} {E:Env} {n0:Nat} {rs:List ResultVar} {R:AV→St→Prop} {k:List Item} {T T':List AV} {H H':List Blk} {c:Nat} (ver ty esz c':Nat) (hv:c≤ver) (hv':ver < c')
  (hT:NwL H.length ver T T') (hH:NwH H.length ver H H') (h:Go P E n0 rs R k ⟨T',H'++[⟨true,ver,ty,esz,[],false⟩],c'⟩):Go P E n0 rs R k ⟨T,H,c⟩:=
 .ghost (s':=⟨T',H'++[⟨true,ver,ty,esz,[],false⟩],c'⟩) (fun w X loc act hs=>by
  obtain ⟨X',loc',h1,h2⟩:=Bfg (ty:=ty) (esz:=esz) hs hv hv' hT hH
  exact ⟨X',loc',h1,fun w0 X0 Cc _ he=>h2 w0 X0 Cc he⟩) h
theorem Afd (id ver:Nat):NwL id ver [] []=True:=rfl
theorem Zl (id ver:Nat) (x y:AV) (l m:List AV):NwL id ver (x::l) (y::m)=(NwV id ver x y∧NwL id ver l m):=rfl
theorem M8 (id ver:Nat):NwH id ver [] []=True:=rfl
theorem It (id ver:Nat) (x y:Blk) (l m:List Blk):NwH id ver (x::l) (y::m)=(NwB id ver x y∧NwH id ver l m):=rfl
theorem Zm (id ver:Nat) (v:AV):NwV id ver v v=True:=eq_true (.refl v)
theorem Afe (id ver:Nat):NwV id ver (.vw true []) (.sl id ver 0 0)=True:=eq_true .nil
theorem Anb (id ver:Nat) (b:Blk):NwB id ver b b=True:=eq_true (.inl rfl)
theorem Ka (id ver v t e:Nat) (l p q:Bool) (es es':List AV) (h:NwL id ver es es'):NwB id ver ⟨l,v,t,e,es,p⟩ ⟨l,v,t,e,es',q⟩:=.inr (.inr ⟨rfl,rfl,rfl,rfl,h⟩)
end Go.SX
namespace Go.SX
theorem V2 (n a:Nat) (h:a < 2 ^ n):(BitVec.ofInt n (a:Int)).toNat=a:=by
 rw [BitVec.ofInt_natCast,BitVec.toNat_ofNat,Nat.mod_eq_of_lt h]
def Srt (K:Nat→Int) (t:List Nat) (a b:Nat):Prop:=∀ i j,a≤i→i < j→j < b→K (t.getD j default)≤K (t.getD i default)
def Stb (K:Nat→Int) (t:List Nat):Prop:=∀ i j,i < j→j < t.length→K (t.getD i default)=K (t.getD j default)→t.getD i default < t.getD j default
structure Seg (t u:List Nat) (a b:Nat):Prop where
 len:u.length=t.length
 out:∀ i,i < a∨b≤i→u.getD i default=t.getD i default
 frm:∀ i,a≤i→i < b→∃ j,a≤j∧j < b∧u.getD i default=t.getD j default
 to:∀ i,a≤i→i < b→∃ j,a≤j∧j < b∧t.getD i default=u.getD j default
theorem Seg.refl (t:List Nat) (a b:Nat):Seg t t a b:=⟨rfl,fun _ _=>rfl,fun i h1 h2=>⟨i,h1,h2,rfl⟩,fun i h1 h2=>⟨i,h1,h2,rfl⟩⟩
theorem Seg.trans {t u v:List Nat} {a b:Nat} (h:Seg t u a b) (k:Seg u v a b):Seg t v a b where
 len:=k.len.trans h.len
 out i hi:=(k.out i hi).trans (h.out i hi)
 frm i h1 h2:=by
  obtain ⟨j,j1,j2,e⟩:=k.frm i h1 h2
  obtain ⟨l,l1,l2,e'⟩:=h.frm j j1 j2
  exact ⟨l,l1,l2,e.trans e'⟩
 to i h1 h2:=by
  obtain ⟨j,j1,j2,e⟩:=h.to i h1 h2
  obtain ⟨l,l1,l2,e'⟩:=k.to j j1 j2
  exact ⟨l,l1,l2,e.trans e'⟩
theorem Seg.wide {t u:List Nat} {a b a' b':Nat} (h:Seg t u a b) (ha:a'≤a) (hb:b≤b'):Seg t u a' b' where
 len:=h.len
 out i hi:=h.out i (by omega)
 frm i h1 h2:=by
  by_cases hi:a≤i∧i < b
  ·obtain ⟨j,j1,j2,e⟩:=h.frm i hi.1 hi.2
   exact ⟨j,by omega,by omega,e⟩
  ·exact ⟨i,h1,h2,h.out i (by omega)⟩
 to i h1 h2:=by
  by_cases hi:a≤i∧i < b
  ·obtain ⟨j,j1,j2,e⟩:=h.to i hi.1 hi.2
   exact ⟨j,by omega,by omega,e⟩
  ·exact ⟨i,h1,h2,(h.out i (by omega)).symm⟩
theorem Srt.sub {K:Nat→Int} {t:List Nat} {a b a' b':Nat} (h:Srt K t a b) (ha:a≤a') (hb:b'≤b):Srt K t a' b':=fun i j h1 h2 h3=>h i j (by omega) h2 (by omega)
theorem Srt.seg {K:Nat→Int} {t u:List Nat} {a b c d:Nat} (h:Srt K t c d) (hs:Seg t u a b) (hd:d≤a∨b≤c):Srt K u c d:=fun i j h1 h2 h3=>by
 rw [hs.out i (by omega),hs.out j (by omega)]
 exact h i j h1 h2 h3
theorem Srt.one (K:Nat→Int) (t:List Nat) {a b:Nat} (h:b≤a+1):Srt K t a b:=fun i j h1 h2 h3=>by omega
theorem UB {α:Type} [Inhabited α] {l:List α} {i j:Nat} {v:α}:(l.set i v).getD j default=if i=j∧i < l.length then v else l.getD j default:=by
 rw [lx81,lx21,lx81]
 by_cases h:i=j
 ·subst h
  by_cases h2:i < l.length
  ·simp [h2]
  ·rw [if_pos rfl,if_neg h2,if_neg (by simp [h2]),lx30 (by omega)]
 ·simp [h]
def WH (t:List Nat) (i j:Nat):List Nat:=(t.set i (t.getD j default)).set j (t.getD i default)
theorem V3 (t:List Nat) (i j:Nat):(WH t i j).length=t.length:=by simp [WH]
theorem GG {t:List Nat} {i j:Nat} (hi:i < t.length) (hj:j < t.length) (k:Nat):
  (WH t i j).getD k default=if k=j then t.getD i default else if k=i then t.getD j default else t.getD k default:=by
 unfold WH
 rw [UB,UB,lx1]
 by_cases h1:k=j
 ·rw [if_pos ⟨h1.symm,hj⟩,if_pos h1]
 ·rw [if_neg (fun h=>h1 h.1.symm),if_neg h1]
  by_cases h2:k=i
  ·rw [if_pos ⟨h2.symm,hi⟩,if_pos h2]
  ·rw [if_neg (fun h=>h2 h.1.symm),if_neg h2]
theorem Aff {t:List Nat} {i j a b:Nat} (h1:a≤i) (h2:i < b) (h3:a≤j) (h4:j < b) (hb:b≤t.length):Seg t (WH t i j) a b where
 len:=V3 t i j
 out k hk:=by rw [GG (by omega) (by omega),if_neg (by omega),if_neg (by omega)]
 frm k hk hk':=by
  rw [GG (by omega) (by omega)]
  split
  ·exact ⟨i,h1,h2,rfl⟩
  ·split
   ·exact ⟨j,h3,h4,rfl⟩
   ·exact ⟨k,hk,hk',rfl⟩
 to k hk hk':=by
  by_cases c1:k=i
  ·refine ⟨j,h3,h4,?_⟩
   rw [GG (by omega) (by omega),if_pos rfl,c1]
  ·by_cases c2:k=j
   ·refine ⟨i,h1,h2,?_⟩
    rw [GG (by omega) (by omega)]
    by_cases c3:i=j
    ·rw [if_pos c3,c2,c3]
    ·rw [if_neg c3,if_pos rfl,c2]
   ·exact ⟨k,hk,hk',by rw [GG (by omega) (by omega),if_neg c2,if_neg c1]⟩
theorem Stb.swap {K:Nat→Int} {t:List Nat} {i j:Nat} (h:Stb K t) (hij:i=j+1∨j=i+1) (hi:i < t.length) (hj:j < t.length) (hk:K (t.getD i default)≠K (t.getD j default)):Stb K (WH t i j):=by
 intro p q hpq hq
 rw [V3] at hq
 rw [GG hi hj,GG hi hj]
 by_cases p1:p=j
 ·rw [if_pos p1]
  by_cases q1:q=j
  ·omega
  ·rw [if_neg q1]
   by_cases q2:q=i
   ·rw [if_pos q2]
    exact fun h=>absurd h hk
   ·rw [if_neg q2]
    exact fun hh=>h i q (by omega) hq hh
 ·rw [if_neg p1]
  by_cases p2:p=i
  ·rw [if_pos p2]
   by_cases q1:q=j
   ·rw [if_pos q1]
    exact fun h=>absurd h.symm hk
   ·rw [if_neg q1,if_neg (by omega)]
    exact fun hh=>h j q (by omega) hq hh
  ·rw [if_neg p2]
   by_cases q1:q=j
   ·rw [if_pos q1]
    exact fun hh=>h p i (by omega) hi hh
   ·rw [if_neg q1]
    by_cases q2:q=i
    ·rw [if_pos q2]
     exact fun hh=>h p j (by omega) hj hh
    ·rw [if_neg q2]
     exact fun hh=>h p q hpq hq hh
def But (K:Nat→Int) (t:List Nat) (a b k:Nat):Prop:=∀ p q,a≤p→p < q→q < b→p≠k→q≠k→K (t.getD q default)≤K (t.getD p default)
theorem But.of_srt {K:Nat→Int} {t:List Nat} {a k:Nat} (h:Srt K t a k):But K t a (k+1) k:=fun p q h1 h2 h3 h4 h5=>h p q h1 h2 (by omega)
theorem But.left {K:Nat→Int} {t:List Nat} {a b j:Nat} (h:But K t a b j) (h1:∀ q,j < q→q < b→K (t.getD q default)≤K (t.getD j default)) (hj:a < j) (hjb:j < b) (hb:b≤t.length)
  (hlt:K (t.getD (j - 1) default) < K (t.getD j default)):But K (WH t j (j - 1)) a b (j - 1)∧∀ q,j - 1 < q→q < b→K ((WH t j (j - 1)).getD q default)≤K ((WH t j (j - 1)).getD (j - 1) default):=by
 have hg:=GG (t:=t) (i:=j) (j:=j - 1) (by omega) (by omega)
 constructor
 ·intro p q p1 p2 p3 p4 p5
  rw [hg,hg,if_neg p5,if_neg p4]
  by_cases q1:q=j
  ·rw [if_pos q1,if_neg (by omega)]
   exact h p (j - 1) p1 (by omega) (by omega) (by omega) (by omega)
  ·rw [if_neg q1]
   by_cases p6:p=j
   ·rw [if_pos p6]
    exact h (j - 1) q (by omega) (by omega) p3 (by omega) q1
   ·rw [if_neg p6]
    exact h p q p1 p2 p3 p6 q1
 ·intro q q1 q2
  rw [hg,hg (j - 1),if_pos rfl,if_neg (by omega)]
  by_cases q3:q=j
  ·rw [if_pos q3]; omega
  ·rw [if_neg q3]
   exact h1 q (by omega) q2
theorem But.done {K:Nat→Int} {t:List Nat} {a b j:Nat} (h:But K t a b j) (h1:∀ q,j < q→q < b→K (t.getD q default)≤K (t.getD j default)) (h2:∀ p,a≤p→p < j→j < b→K (t.getD j default)≤K (t.getD p default)):Srt K t a b:=by
 intro p q p1 p2 p3
 by_cases c1:p=j
 ·subst c1; exact h1 q p2 p3
 ·by_cases c2:q=j
  ·subst c2; exact h2 p p1 p2 p3
  ·exact h p q p1 p2 p3 c1 c2
theorem But.right {K:Nat→Int} {t:List Nat} {a b j:Nat} (h:But K t a b j) (h1:∀ p,a≤p→p < j→K (t.getD j default)≤K (t.getD p default)) (hj:a≤j) (hjb:j+1 < b) (hb:b≤t.length)
  (hlt:K (t.getD j default) < K (t.getD (j+1) default)):But K (WH t j (j+1)) a b (j+1)∧∀ p,a≤p→p < j+1→K ((WH t j (j+1)).getD (j+1) default)≤K ((WH t j (j+1)).getD p default):=by
 have hg:=GG (t:=t) (i:=j) (j:=j+1) (by omega) (by omega)
 constructor
 ·intro p q p1 p2 p3 p4 p5
  rw [hg,hg,if_neg p5,if_neg p4]
  by_cases q1:q=j
  ·rw [if_pos q1,if_neg (by omega)]
   exact h p (j+1) p1 (by omega) (by omega) (by omega) (by omega)
  ·rw [if_neg q1]
   by_cases p6:p=j
   ·rw [if_pos p6]
    exact h (j+1) q (by omega) (by omega) p3 (by omega) q1
   ·rw [if_neg p6]
    exact h p q p1 p2 p3 p6 q1
 ·intro p p1 p2
  rw [hg p,hg (j+1),if_pos rfl,if_neg (by omega)]
  by_cases q3:p=j
  ·rw [if_pos q3]; omega
  ·rw [if_neg q3]
   exact h1 p p1 (by omega)
def Rot (t u:List Nat) (a m b:Nat):Prop:=u.length=t.length∧∀ i,u.getD i default=if i < a∨b≤i then t.getD i default else if i < a+(b - m) then t.getD (i+(m - a)) default else t.getD (i - (b - m)) default
theorem Rot.seg {t u:List Nat} {a m b:Nat} (h:Rot t u a m b) (h1:a≤m) (h2:m≤b):Seg t u a b where
 len:=h.1
 out i hi:=by rw [h.2,if_pos hi]
 frm i hi hi':=by
  rw [h.2,if_neg (by omega)]
  split
  ·exact ⟨_,by omega,by omega,rfl⟩
  ·exact ⟨_,by omega,by omega,rfl⟩
 to i hi hi':=by
  by_cases c:i < m
  ·refine ⟨i+(b - m),by omega,by omega,?_⟩
   rw [h.2,if_neg (by omega),if_neg (by omega)]
   congr 1; omega
  ·refine ⟨i - (m - a),by omega,by omega,?_⟩
   rw [h.2,if_neg (by omega),if_pos (by omega)]
   congr 1; omega
def M9 (K:Nat→Int) (a:Nat):Nat→List Nat→List Nat
 | 0,t=>t
 | j+1,t=>if a < j+1∧K (t.getD j default) < K (t.getD (j+1) default) then M9 K a j (WH t (j+1) j) else t
def S9 (K:Nat→Int) (a:Nat) (t:List Nat):Nat→List Nat
 | 0=>t
 | m+1=>M9 K a (a+m+1) (S9 K a t m)
def LG (K:Nat→Int) (t:List Nat) (a b:Nat):List Nat:=S9 K a t (b - a - 1)
theorem Afg {K:Nat→Int} {a b:Nat}:∀ (j:Nat) (t:List Nat),a≤j→j < b→b≤t.length→But K t a b j→(∀ q,j < q→q < b→K (t.getD q default)≤K (t.getD j default))→Stb K t→
  Seg t (M9 K a j t) a b∧Srt K (M9 K a j t) a b∧Stb K (M9 K a j t)
 | 0,t,h1,h2,h3,h4,h5,h6=>by
  rw [M9]
  exact ⟨.refl _ _ _,h4.done h5 (fun p h7 h8=>by omega),h6⟩
 | j+1,t,h1,h2,h3,h4,h5,h6=>by
  rw [M9]
  by_cases hc:a < j+1∧K (t.getD j default) < K (t.getD (j+1) default)
  ·rw [if_pos hc]
   obtain ⟨g1,g2⟩:=h4.left h5 hc.1 h2 h3 (by simpa using hc.2)
   simp only [Nat.add_sub_cancel] at g1 g2
   obtain ⟨k1,k2,k3⟩:=Afg j (WH t (j+1) j) (by omega) (by omega) (by rw [V3]; exact h3) g1 g2 (h6.swap (.inl rfl) (by omega) (by omega) (by omega))
   exact ⟨(Aff (by omega) h2 (by omega) (by omega) h3).trans k1,k2,k3⟩
  ·rw [if_neg hc]
   refine ⟨.refl _ _ _,h4.done h5 (fun p h7 h8 h9=>?_),h6⟩
   have hlt:a < j+1:=An
   have hk:¬ K (t.getD j default) < K (t.getD (j+1) default):=fun h=>hc ⟨hlt,h⟩
   by_cases hp:p=j
   ·rw [hp]; omega
   ·have:=h4 p j h7 (by omega) (by omega) (by omega) (by omega)
    omega
theorem Afh {K:Nat→Int} {a:Nat} {t:List Nat} (hs:Stb K t):∀ m,a+m+1≤t.length→Seg t (S9 K a t m) a (a+m+1)∧Srt K (S9 K a t m) a (a+m+1)∧Stb K (S9 K a t m)
 | 0,_=>⟨.refl _ _ _,.one _ _ (by omega),hs⟩
 | m+1,h=>by
  obtain ⟨h1,h2,h3⟩:=Afh (K:=K) (a:=a) hs m (by omega)
  rw [S9]
  obtain ⟨k1,k2,k3⟩:=Afg (K:=K) (a:=a) (b:=a+m+1+1) (a+m+1) (S9 K a t m) (by omega) (by omega) (by rw [h1.len]; omega) (.of_srt h2) (fun q q1 q2=>by omega) h3
  exact ⟨(h1.wide (Av _) (by omega)).trans k1,k2,k3⟩
theorem Afi {K:Nat→Int} {a b:Nat} {t:List Nat} (hs:Stb K t) (hb:b≤t.length):Seg t (LG K t a b) a b∧Srt K (LG K t a b) a b∧Stb K (LG K t a b):=by
 unfold LG
 by_cases h:a+1≤b
 ·have:=Afh (K:=K) (a:=a) hs (b - a - 1) (by omega)
  rwa [show a+(b - a - 1)+1=b by omega] at this
 ·rw [show b - a - 1=0 by omega]
  exact ⟨.refl _ _ _,.one _ _ (by omega),hs⟩
end Go.SX
