/-
  Lemmas towards ModesPriority (joined texts: SYO, SYK, SYP, SYL, SYM, SXF).
  Conditions: none.
-/
import Derived.Test.YtdjpkhjaibdogaaGreatL01
import Derived.Test.YtdjpkhjaibdogaaGreatL21
import Derived.Laws.BytesString
import Derived.Laws.Cells
import Derived.Test.YtdjpkhjaibdogaaGreatL20
import Derived.Test.YtdjpkhjaibdogaaGreatL12
import Derived.ProofKit
import Derived.ChangeOld
set_option linter.unusedSimpArgs false
set_option linter.unusedVariables false
set_option maxRecDepth 100000
namespace Go.SX
structure SpO where
 p:Nat→List AV→Option AV
 v:Nat→List AV→Option AV
 h:Nat→List AV→Tr Blk→Nat→Nat→Option (AV × Tr Blk × Nat × Nat)
structure SpC where
 p:Nat→List AV→Option (Ob1 × AV)
 v:Nat→List AV→Option (Ob1 × AV)
 h:Nat→List AV→Tr Blk→Nat→Nat→Option (Ob1 × AV × Tr Blk × Nat × Nat)
def snO {α:Type}:Option (Ob1 × α)→Option α
 | some (_,a)=>some a
 | none=>none
open Classical in
noncomputable def ssO {α:Type}:Option (Ob1 × α)→Option α
 | some (p,a)=>if p.ok then some a else none
 | none=>none
def SpC.u (C:SpC):SpO:=⟨fun f a=>snO (C.p f a),fun f a=>snO (C.v f a),fun f a H n c=>snO (C.h f a H n c)⟩
noncomputable def SpC.s (C:SpC):SpO:=⟨fun f a=>ssO (C.p f a),fun f a=>ssO (C.v f a),fun f a H n c=>ssO (C.h f a H n c)⟩
def obO {α:Type} (l:List Ob1):Option (Ob1 × α)→List Ob1
 | some (p,_)=>[p]
 | none=>l
section
variable (P:Program) (t:TabE) (G:Giv) (need:Nat→Bool)
mutual
noncomputable def pM (S:SpO):Nat→Nat→List AV→Option AV
 | 0,_,_=>none
 | n+1,f,args=>match S.p f args with
  | some r=>some r
  | none=>match need f with
   | true=>Uy (J9 P t (Iq t (pM S n) (vM S n) (hM S n) f) f args .nil 0 0)
   | false=>pK P t G n f args
noncomputable def vM (S:SpO):Nat→Nat→List AV→Option AV
 | 0,_,_=>none
 | n+1,f,args=>match S.v f args with
  | some r=>some r
  | none=>match need f with
   | true=>Uz (J9 P t (Iq t (pM S n) (vM S n) (hM S n) f) f args .nil 0 0)
   | false=>vK P t G n f args
noncomputable def hM (S:SpO):Nat→Nat→List AV→Tr Blk→Nat→Nat→Option (AV × Tr Blk × Nat × Nat)
 | 0,_,_,_,_,_=>none
 | n+1,f,args,H,hn,cnt=>match S.h f args H hn cnt with
  | some r=>some r
  | none=>match need f with
   | true=>Zf (t.keep f) hn (J9 P t (Iq t (pM S n) (vM S n) (hM S n) f) f args H hn cnt)
   | false=>hK P t G n f args H hn cnt
end
noncomputable def eM (S:SpO) (n f:Nat):EE:=Iq t (pM P t G need S n) (vM P t G need S n) (hM P t G need S n) f
mutual
noncomputable def pL (S:SpO):Nat→Nat→List AV→Option AV
 | 0,_,_=>none
 | n+1,f,args=>match S.p f args with
  | some r=>some r
  | none=>match need f with
   | true=>Uy (Zv P t (Iq t (pL S n) (vL S n) (hL S n) f) f args .nil 0 0)
   | false=>pK P t G n f args
noncomputable def vL (S:SpO):Nat→Nat→List AV→Option AV
 | 0,_,_=>none
 | n+1,f,args=>match S.v f args with
  | some r=>some r
  | none=>match need f with
   | true=>Uz (Zv P t (Iq t (pL S n) (vL S n) (hL S n) f) f args .nil 0 0)
   | false=>vK P t G n f args
noncomputable def hL (S:SpO):Nat→Nat→List AV→Tr Blk→Nat→Nat→Option (AV × Tr Blk × Nat × Nat)
 | 0,_,_,_,_,_=>none
 | n+1,f,args,H,hn,cnt=>match S.h f args H hn cnt with
  | some r=>some r
  | none=>match need f with
   | true=>Zf (t.keep f) hn (Zv P t (Iq t (pL S n) (vL S n) (hL S n) f) f args H hn cnt)
   | false=>hK P t G n f args H hn cnt
end
noncomputable def eL (S:SpO) (n f:Nat):EE:=Iq t (pL P t G need S n) (vL P t G need S n) (hL P t G need S n) f
mutual
noncomputable def pO (C:SpC):Nat→Nat→List AV→List Ob1
 | 0,_,_=>[]
 | n+1,f,args=>obO (bB (need f) [] (Nb ⟨pO C n,vO C n,hO C n⟩ P t (eL P t G need C.u n f) f args .nil 0 0)) (C.p f args)
noncomputable def vO (C:SpC):Nat→Nat→List AV→List Ob1
 | 0,_,_=>[]
 | n+1,f,args=>obO (bB (need f) [] (Nb ⟨pO C n,vO C n,hO C n⟩ P t (eL P t G need C.u n f) f args .nil 0 0)) (C.v f args)
noncomputable def hO (C:SpC):Nat→Nat→List AV→Tr Blk→Nat→Nat→List Ob1
 | 0,_,_,_,_,_=>[]
 | n+1,f,args,H,hn,cnt=>obO (bB (need f) [] (Nb ⟨pO C n,vO C n,hO C n⟩ P t (eL P t G need C.u n f) f args H hn cnt)) (C.h f args H hn cnt)
end
end
section
variable {P:Program} {t:TabE} {G:Giv} {need:Nat→Bool}
theorem Abk {α:Type} {x:Option (Ob1 × α)} {l:List Ob1} (h:DA (obO l x)):ssO x=snO x:=by
 cases x with
 | none=>rfl
 | some q=>
  obtain ⟨p,a⟩:=q
  have hp:p.ok:=h p (by simp [obO])
  simp only [ssO,snO,if_pos hp]
theorem Abl {α:Type} {x:Option (Ob1 × α)} {l:List Ob1} (h:DA (obO l x)) (hx:snO x=none):DA l:=by
 cases x with
 | none=>exact h
 | some q=>cases hx
theorem Ba2 {C:SpC}:∀ n,(∀ f args,DA (pO P t G need C n f args)→pM P t G need C.s n f args=pL P t G need C.u n f args)∧
  (∀ f args,DA (vO P t G need C n f args)→vM P t G need C.s n f args=vL P t G need C.u n f args)∧
  (∀ f args H hn cnt,DA (hO P t G need C n f args H hn cnt)→hM P t G need C.s n f args H hn cnt=hL P t G need C.u n f args H hn cnt)
 | 0=>⟨fun _ _ _=>by simp [pM,pL],fun _ _ _=>by simp [vM,vL],fun _ _ _ _ _ _=>by simp [hM,hL]⟩
 | n+1=>by
  obtain ⟨ip,iv,ih⟩:=Ba2 (C:=C) n
  have agr:∀ f,Agr ⟨pO P t G need C n,vO P t G need C n,hO P t G need C n⟩ (eL P t G need C.u n f) (eM P t G need C.s n f):=fun f=>⟨rfl,rfl,rfl,rfl,rfl,ip,iv,ih⟩
  refine ⟨fun f args h=>?_,fun f args h=>?_,fun f args H hn cnt h=>?_⟩
  ·simp only [pO] at h
   simp only [pM,pL]
   have e:C.s.p f args=C.u.p f args:=Abk h
   rw [e]
   cases hq:C.u.p f args with
   | some r=>rfl
   | none=>
    have h:=Abl h hq
    simp only
    cases hn:need f with
    | false=>rfl
    | true=>
     rw [hn,Br] at h
     exact congrArg Uy (Sc (agr f) h)
  ·simp only [vO] at h
   simp only [vM,vL]
   have e:C.s.v f args=C.u.v f args:=Abk h
   rw [e]
   cases hq:C.u.v f args with
   | some r=>rfl
   | none=>
    have h:=Abl h hq
    simp only
    cases hn:need f with
    | false=>rfl
    | true=>
     rw [hn,Br] at h
     exact congrArg Uz (Sc (agr f) h)
  ·simp only [hO] at h
   simp only [hM,hL]
   have e:C.s.h f args H hn cnt=C.u.h f args H hn cnt:=Abk h
   rw [e]
   cases hq:C.u.h f args H hn cnt with
   | some r=>rfl
   | none=>
    have h:=Abl h hq
    simp only
    cases hk:need f with
    | false=>rfl
    | true=>
     rw [hk,Br] at h
     exact congrArg (Zf (t.keep f) hn) (Sc (agr f) h)
structure SpOk (P:Program) (S:SpO):Prop where
 p:∀ f args r,S.p f args=some r→Ap P f args r
 v:∀ f args r,S.v f args=some r→Ba P f args r
 h:∀ f args H hn cnt r H' hn' cnt',Tr.Fit H hn→S.h f args H hn cnt=some (r,H',hn',cnt')→Tr.Fit H' hn'∧HSpec P f args (H.toL dead hn) cnt r (H'.toL dead hn') cnt'
theorem V8 {S:SpO} (hS:SpOk P S):∀ n f,(eM P t G need S n f).Ok
 | 0,f=>by
  intro g args H hn c r H' n' c' hf h
  simp [eM,Iq,hM] at h
 | n+1,f=>by
  intro g args H hn c r H' n' c' hf h
  have h:hM P t G need S (n+1) g args H hn c=some (r,H',n',c'):=h
  simp only [hM] at h
  split at h
  ·rename_i q hq
   cases h
   exact (hS.h _ _ _ _ _ _ _ _ _ hf hq).1
  ·split at h
   ·unfold Zf at h
    split at h
    ·rename_i r1 σ1 hc
     have hi:=(EW (V8 hS n g) hf hc).1
     exact Bdt
    ·cases h
   ·exact N2 n 0 g args H hn c r H' n' c' hf h
theorem V9 (hm:P.follows .mixedOrders=true) (ht:Hi P t) (hG:GivOk P G) {S:SpO} (hS:SpOk P S):∀ n,(∀ f,EnvOk P (eM P t G need S n f).env)∧(∀ f args r,vM P t G need S n f args=some r→Ba P f args r)
 | 0=>⟨fun f=>⟨fun g args r h=>by simp [eM,Iq,EE.env,pM] at h,fun g args H cnt r H' cnt' h=>by
   have h:EE.hcall (eM P t G need S 0 f) g args H cnt=some (r,H',cnt'):=h
   unfold EE.hcall at h
   split at h
   ·have e:(eM P t G need S 0 f).vc g args=none:=by simp [eM,Iq,vM]
    rw [e] at h
    cases hq:norefs args <;> rw [hq] at h <;> cases h
   ·unfold hcL at h
    simp [eM,Iq,hM] at h⟩,fun f args r h=>by simp [vM] at h⟩
 | n+1=>by
  obtain ⟨ih,ihv⟩:=V9 hm ht hG hS n
  have hv:∀ f args r,vM P t G need S (n+1) f args=some r→Ba P f args r:=by
   intro g args r h
   simp only [vM] at h
   split at h
   ·rename_i q hq
    cases h
    exact hS.v g args r hq
   ·split at h
    ·unfold Uz at h
     split at h
     ·rename_i r' σ' hc
      split at h
      ·rename_i hnr
       cases h
       obtain ⟨_,hk,fn,c,hfn,hb,hgo⟩:=EW (V8 hS n g) (H:=.nil) (hn:=0) rfl hc
       exact Bd6
      ·cases h
     ·cases h
    ·exact UA hm ht hG h
  refine ⟨fun f=>⟨fun g args r h=>?_,fun g args H cnt r H' cnt' h=>?_⟩,hv⟩
  ·have h:pM P t G need S (n+1) g args=some r:=h
   simp only [pM] at h
   split at h
   ·rename_i q hq
    cases h
    exact hS.p g args r hq
   ·split at h
    ·unfold Uy at h
     split at h
     ·rename_i r' σ' hc
      split at h
      ·rename_i hok
       cases h
       obtain ⟨_,hk,fn,c,hfn,hb,hgo⟩:=EW (V8 hS n g) (H:=.nil) (hn:=0) rfl hc
       exact Bdn
      ·cases h
     ·cases h
    ·exact Fk hm ht hG h
  ·have h:EE.hcall (eM P t G need S (n+1) f) g args H cnt=some (r,H',cnt'):=h
   unfold EE.hcall at h
   split at h
   ·cases hnr:norefs args with
    | false=>rw [hnr] at h; cases h
    | true=>
     cases hq:(eM P t G need S (n+1) f).vc g args with
     | none=>rw [hnr,hq] at h; cases h
     | some q=>
      rw [hnr,hq] at h
      cases h
      exact Lt (hv g args _ hq) hnr H cnt
   ·rename_i hiv
    have h:hcL (hM P t G need S (n+1)) g args H cnt=some (r,H',cnt'):=h
    unfold hcL at h
    split at h
    ·rename_i r1 H1 n1 c1 hh
     cases h
     simp only [hM] at hh
     split at hh
     ·rename_i q hq
      cases hh
      have:=(hS.h _ _ _ _ _ _ _ _ _ (Tr.ofL_fit dead H) hq).2
      rwa [Tr.toL_ofL] at this
     ·split at hh
      ·unfold Zf at hh
       split at hh
       ·rename_i r2 σ2 hc
        obtain ⟨hi,hk,fn,c,hfn,hb,hgo⟩:=EW (V8 hS n g) (Tr.ofL_fit dead H) hc
        exact Av3
       ·cases hh
      ·refine ((M6 hm ht hG n).1 0).h g args H cnt _ _ _ ?_
       show EE.hcall (eK P t G n 0) g args H cnt=_
       unfold EE.hcall
       have:(eK P t G n 0).isV g=false:=hiv
       rw [this]
       show hcL (hK P t G n) g args H cnt=_
       unfold hcL
       rw [hh]
    ·cases h
structure CondOk (P:Program) (C:SpC):Prop where
 p:∀ f args p r,C.p f args=some (p,r)→p.ok→Ap P f args r
 v:∀ f args p r,C.v f args=some (p,r)→p.ok→Ba P f args r
 h:∀ f args H hn cnt p r H' hn' cnt',Tr.Fit H hn→C.h f args H hn cnt=some (p,r,H',hn',cnt')→p.ok→Tr.Fit H' hn'∧HSpec P f args (H.toL dead hn) cnt r (H'.toL dead hn') cnt'
theorem Sd {α:Type} {x:Option (Ob1 × α)} {a:α} (h:ssO x=some a):∃ p:Ob1,x=some (p,a)∧p.ok:=by
 cases x with
 | none=>cases h
 | some q=>
  obtain ⟨p,b⟩:=q
  simp only [ssO] at h
  split at h
  ·rename_i hp; cases h; exact ⟨p,rfl,hp⟩
  ·cases h
theorem CondOk.s {C:SpC} (h:CondOk P C):SpOk P C.s:=
 ⟨fun f args r hr=>by obtain ⟨p,h1,h2⟩:=Sd hr; exact h.p _ _ _ _ h1 h2,
  fun f args r hr=>by obtain ⟨p,h1,h2⟩:=Sd hr; exact h.v _ _ _ _ h1 h2,
  fun f args H hn cnt r H' hn' cnt' hf hr=>by obtain ⟨p,h1,h2⟩:=Sd hr; exact h.h _ _ _ _ _ _ _ _ _ _ hf h1 h2⟩
theorem Ai6 (hm:P.follows .mixedOrders=true) (ht:Hi P t) (hG:GivOk P G) {C:SpC} (hC:CondOk P C) {n f:Nat} {args:List AV} {r:AV} (h:pL P t G need C.u n f args=some r) {l:List Ob1} (hl:pO P t G need C n f args=l) (ha:DA l):Ap P f args r:=by
 subst hl
 rw [←(Ba2 n).1 f args ha] at h
 exact ((V9 hm ht hG hC.s n).1 0).p f args r h
theorem Ai7 (hm:P.follows .mixedOrders=true) (ht:Hi P t) (hG:GivOk P G) {C:SpC} (hC:CondOk P C) {n f:Nat} {args:List AV} {r:AV} (h:vL P t G need C.u n f args=some r) {l:List Ob1} (hl:vO P t G need C n f args=l) (ha:DA l):Ba P f args r:=by
 subst hl
 rw [←(Ba2 n).2.1 f args ha] at h
 exact (V9 hm ht hG hC.s n).2 f args r h
end
def EX:List Ob1→List (AV × AV)
 | []=>[]
 | .eq a b::r=>(a,b)::EX r
 | .pr _::r=>EX r
def Kc:List Ob1→List Prop
 | []=>[]
 | .eq _ _::r=>Kc r
 | .pr p::r=>p::Kc r
theorem Qh:∀ {l:List Ob1},EX l=(EX l).map (fun q=>(q.1,q.1))→(∀ p ∈ Kc l,p)→DA l
 | [],_,_=>fun p hp=>by cases hp
 | .eq a b::r,h1,h2=>by
  simp only [EX,lx31,lx94,lx40,C5] at h1
  intro p hp
  rcases lx59.1 hp with rfl | hp
  ·exact h1.1.symm
  ·exact Qh h1.2 h2 p hp
 | .pr q::r,h1,h2=>by
  intro p hp
  rcases lx59.1 hp with rfl | hp
  ·exact h2 q (by simp [Kc])
  ·exact Qh (l:=r) h1 (fun x hx=>h2 x (by simp [Kc,hx])) p hp
end Go.SX
namespace Go.SX
open Go.RowKit (Below)
def Ani (E:Env):Env:={ E with lit:=true }
theorem Anj {P:Program} {E:Env} (h:EnvOk P E):EnvOk P (Ani E):=⟨h.p,h.h⟩
def Ke (ns:List Int):ByteArray:=ns.foldl (fun r n=>r.push (UInt8.ofNat n.toNat)) ByteArray.empty
theorem As5 {P:Program} {w:World} {X:Nat→Prop} {loc:Nat→Option (Nat × Nat)} {s:St} {a:Act} (hs:SR w X loc s a) {all:Array Oper} {o:Oper} {src dst:TypeId} {x:Operand} (ho:o.op=.convert src dst x) (hg:o.guard=none) {e:TypeId}
  (h1:P.underlying src=some (.slice e)) (h2:P.underlying e=some (.int .u8)) (h3:P.underlying dst=some .string) {z:Bool} {ns:List Int} (hne:ns≠[]) (hx:ev s.T x=.vw z (ns.map fun n=>.sc (.int .u8 n))):
  Pr P w X loc s a all o (s.put o.dst (.sc (.string (Ke ns)))):=by
 intro K Q hK
 have hw:Region.wanted o (yielded all a.tmps)=true:=by unfold Region.wanted; rw [hg]
 rw [if_pos hw]
 have hv:=BV hs.tm x
 rw [hx] at hv
 generalize hq:a.eval x=c at hv
 generalize hes:(ns.map fun n=>AV.sc (.int .u8 n))=es at hv
 have key:∃ b base cap,c=.slice (some ⟨b,base,none⟩) ns.length cap∧(loadCells ⟨b,base,none⟩ ns.length).run P w=.ok (ns.map (Value.int .u8)).toArray w:=by
  have hne':es≠[]:=by rw [←hes]; simpa using hne
  cases hv with
  | vw0=>exact absurd rfl hne'
  | @vw1 _ _ _ b base cap esz f hne hX hb hcap hz hmax hsz hc hcv=>
   have hl:es.length=ns.length:=by rw [←hes,lx57]
   have he1:esz=1:=by
    cases es with
    | nil=>exact absurd rfl hne'
    | cons e0 r=>
     have:=hsz e0 lx47
     have hm:e0 ∈ ns.map fun n=>AV.sc (.int .u8 n):=by rw [hes]; exact lx47
     obtain ⟨n,_,rfl⟩:=lx35.1 hm
     simpa [AV.cells] using this.symm
   subst he1
   refine ⟨b,base,cap,by rw [hl],?_⟩
   have hf:∀ j,j < ns.length→f j 0=.int .u8 (ns.getD j 0):=fun j hj=>by
    have hget:es[j]?=some (.sc (.int .u8 (ns.getD j 0))):=by
     rw [←hes,lx23,lx81,lx50 hj]; rfl
    have:=hcv j _ 0 (.sc (.int .u8 (ns.getD j 0))) hget rfl
    generalize hfj:f j 0=u at this
    cases this with
    | sc h=>rfl
   have hr:=run_loadCellsFrom (P:=P) (w:=w) ⟨b,base,none⟩ (fun j=>f j 0) ns.length 0 #[] (fun j hj=>by
    have:=(hc j 0 (by omega) (by omega)).1
    rw [CL]
    have ha:(⟨b,base,none⟩:Addr).add j=⟨b,base+j,none⟩:=by unfold Addr.add; split <;> simp_all
    rw [ha]
    simpa using this)
   unfold loadCells
   rw [hr]
   congr 1
   apply Array.toList_inj.1
   apply List.ext_getElem
   ·simp
   ·intro i hi1 hi2
    simp only [List.append_toArray,lx64,lx57,U2] at hi1
    have hi':i < ns.length:=by simpa using hi1
    have:=hf i hi'
    rw [lx81,lx50 hi'] at this
    simpa using this
 obtain ⟨b,base,cap,rfl,hl⟩:=key
 have hrun:(execOp a.eval o).run P w=.ok (.value (.string (Ke ns))) w:=by
  unfold execOp
  simp only [ho,hq,Sem.run_bind,run_convert_bytes_string w src dst e _ _ _ h1 h2 h3,run_bytesToString w _ _ cap ns hl,Result.andThen_ok,Sem.run_pure]
  rfl
 unfold Oper.wp
 rw [hrun]
 exact hK _ w X loc (hs.put o.dst (.sc rfl)) (by rw [Vd]; exact Evo.refl _ _ _)
def Afn (P:Program) (E:Env) (ops:Array Oper) (s:St) (o:Oper) (s':St):Prop:=
 Ej P E ops s o=some s'∨∃ src dst x e z ns,o.op=.convert src dst x∧o.guard=none∧P.underlying src=some (.slice e)∧P.underlying e=some (.int .u8)∧P.underlying dst=some .string∧ns≠[]∧
  ev s.T x=.vw z (ns.map fun n=>.sc (.int .u8 n))∧s'=s.put o.dst (.sc (.string (Ke ns)))
theorem Ank {P:Program} {E:Env} (hE:EnvOk P E) {w:World} {X:Nat→Prop} {loc:Nat→Option (Nat × Nat)} {s:St} {a:Act} (hs:SR w X loc s a) {all:Array Oper} {o:Oper} {s':St} (h:Afn P E all s o s'):Pr P w X loc s a all o s':=by
 rcases h with h | ⟨src,dst,x,e,z,ns,h1,h2,h3,h4,h5,h6,h7,rfl⟩
 ·exact QW hE hs h
 ·exact As5 hs h1 h2 h3 h4 h5 h6 h7
structure TreeI (P:Program) (E:Env) (ops:Array Oper) (Q:St→Prop) (I:Array Bool→St→Prop):Prop where
 nil:∀ l s,I l s→(∀ k,k < ops.size→l.getD k false=true)→Q s
 step:∀ l s,I l s→l.size=ops.size→Fu ops (fun j=>l.getD j false)→∀ i o,ops[i]?=some o→l.getD i false=false→(∀ e ∈ o.after,Region.binds .any e=true→l.getD e.on false=true)→
  ∃ s',Afn P E ops s o s'∧I (l.setIfInBounds i true) s'
section
variable {P:Program} {E:Env} {ops:Array Oper} {Q:St→Prop} {I:Array Bool→St→Prop}
end
inductive SeqR (P:Program) (E:Env) (all:Array Oper):List Oper→St→St→Prop where
 | nil (s:St):SeqR P E all [] s s
 | cons {o:Oper} {r:List Oper} {s s2:St} (s1:St) (h:Afn P E all s o s1) (hr:SeqR P E all r s1 s2):SeqR P E all (o::r) s s2
section
variable {P:Program} {E:Env}
theorem Afo (hE:EnvOk P E) {all:Array Oper} (Q:Exit→Act→World→Prop):∀ (n k:Nat) {w:World} {X:Nat→Prop} {loc:Nat→Option (Nat × Nat)} {s s':St} {a:Act},
  k+n=all.size→SeqR P E all (all.toList.drop k) s s'→SR w X loc s a→
  (∀ a' w' X' loc',SR w' X' loc' s' a'→Evo w X (s.hc loc) w' X' (s'.hc loc')→Q .normal a' w')→wpOps P all Q (List.range' k n) a w
 | 0,k,w,X,loc,s,s',a,hk,h,hs,hQ=>by
  rw [lx75 (by simp; omega)] at h
  cases h
  exact hQ _ _ X loc hs (Evo.refl _ _ _)
 | n+1,k,w,X,loc,s,s',a,hk,h,hs,hQ=>by
  have hlt:k < all.size:=An
  rw [lx76 (by simpa using hlt)] at h
  have main:∀ s1,Afn P E all s (all.toList[k]'(by simpa using hlt)) s1→SeqR P E all (all.toList.drop (k+1)) s1 s'→wpOps P all Q (List.range' k (n+1)) a w:=by
   intro s1 hst h
   have hst:=Ank (w:=w) (X:=X) (loc:=loc) hE hs hst
   have hget:all[k]?=some all[k]:=by simp [hlt]
   simp only [List.range'_succ,wpOps,hget]
   have hKK:∀ a' w' X' loc',SR w' X' loc' s1 a'→Evo w X (s.hc loc) w' X' (s1.hc loc')→wpOps P all Q (List.range' (k+1) n) a' w':=by
    intro a' w' X' loc' g1 g2
    exact Afo hE Q n (k+1) (by omega) h g1 (fun a2 w2 X2 loc2 k1 k2=>hQ a2 w2 X2 loc2 k1 (g2.trans k2))
   have:=hst (wpOps P all Q (List.range' (k+1) n)) Q (fun c w' X' loc' g1 g2=>hKK _ w' X' loc' g1 g2)
   have harr:all.toList[k]'(by simpa using hlt)=all[k]:=AZ
   rw [harr] at this
   split
   ·rename_i hw
    rw [if_pos hw] at this
    exact .inl this
   ·rename_i hw
    rw [if_neg hw] at this
    exact this
  cases h with
  | cons s1 h1 h2=>exact main s1 h1 h2
theorem As6 {n0:Nat} {rs:List ResultVar} {R:AV→St→Prop} {k:List Item} {id:Nat} {ops:Array Oper} {s:St} (s':St) (h0:SeqR P (Ani E) ops ops.toList s s') (h:Go P E n0 rs R k s'):Go P E n0 rs R (.code (.region id ops false)::k) s:=by
 refine .sem (Q:=fun x=>x=s') (fun hE hm w X loc a hs=>?_) (fun x hx=>by subst hx; exact h)
 refine wp_region ?_
 have:=Afo (Anj hE) (all:=ops) (fun e a' w'=>e=.normal∧∃ s2 X' loc',s2=s'∧SR w' X' loc' s2 a'∧Evo w X (s.hc loc) w' X' (s2.hc loc')) ops.size 0 (by omega) (by simpa using h0) hs
  (fun a' w' X' loc' g1 g2=>⟨rfl,s',X',loc',rfl,g1,g2⟩)
 rwa [List.range_eq_range']
end
theorem As7 {w:World} {X:Nat→Prop} {loc:Nat→Option (Nat × Nat)} {act:Act} {T T':List AV} {H H':List Blk} {c c' ver ty esz:Nat} {q:Nat} (hs:SR w X loc ⟨T,H,c⟩ act) (hq:q < H'.length) (hv:c≤ver) (hv':ver < c')
  (hT:NwL q ver T T') (hH:NwH q ver H H'):
  ∃ X' loc',SR w X' loc' ⟨T',H'.set q ⟨true,ver,ty,esz,[],false⟩,c'⟩ act∧∀ w0 X0 Cc,Evo w0 X0 Cc w X ((⟨T,H,c⟩:St).hc loc)→Evo w0 X0 Cc w X' ((⟨T',H'.set q ⟨true,ver,ty,esz,[],false⟩,c'⟩:St).hc loc'):=by
 obtain ⟨h1,h2,h3⟩:=hs
 obtain ⟨hl,hg⟩:=V1 hH
 have hnew:∀ k (B:Blk),(H'.set q (⟨true,ver,ty,esz,[],false⟩:Blk))[k]?=some B→(k≠q∧H'[k]?=some B)∨(k=q∧B=⟨true,ver,ty,esz,[],false⟩):=by
  intro k B hk
  rw [lx21] at hk
  split at hk
  ·rename_i hkq
   cases hk
   exact .inr ⟨hkq.symm,rfl⟩
  ·rename_i hkq; exact .inl ⟨fun h=>hkq h.symm,hk⟩
 have key:∀ (k:Nat) (B:Blk),H'[k]?=some B→B.live=true→∃ A,H[k]?=some A∧A.live=true∧A.ver=B.ver∧A.ty=B.ty∧A.esz=B.esz∧NwL q ver A.els B.els:=by
  exact Bck
 have ev:Evo w X ⟨loc,H,c⟩ w X ⟨fun k=>if k=q then none else loc k,H'.set q ⟨true,ver,ty,esz,[],false⟩,c'⟩:=by
  refine ⟨rfl,rfl,rfl,Av _,fun _ _ _=>rfl,fun _ _ hs=>hs,fun _ _=>Iff.rfl,by simp only; omega,?_,?_⟩
  ·intro id B' e1 e2 e3
   simp only at e1 e3 ⊢
   rcases hnew id B' e1 with ⟨hl',e1⟩ | ⟨rfl,rfl⟩
   ·obtain ⟨A,g1,g2,g3,g4,g5,g6⟩:=key id B' e1 e2
    exact ⟨A,g1,g2,g3,by rw [if_neg hl'],g5,g4,(Fv g6).1⟩
   ·simp only at e3; omega
  ·intro id B' b o e1 e2 e3 e4
   simp only at e1 e3 ⊢
   rcases hnew id B' e1 with ⟨hl',e1⟩ | ⟨rfl,rfl⟩
   ·rw [if_neg hl'] at e3
    obtain ⟨A,g1,g2,_⟩:=key id B' e1 e2
    exact ⟨A,o,g1,g2,e3⟩
   ·rw [if_pos rfl] at e3; cases e3
 have hid:(H'.set q (⟨true,ver,ty,esz,[],false⟩:Blk))[q]?=some ⟨true,ver,ty,esz,[],false⟩:=by rw [lx21,if_pos rfl,if_pos hq]
 have hvr:∀ {x y:AV} {v:Value},NwV q ver x y→VR w X (some ⟨loc,H,c⟩) x v→VR w X (some ⟨fun k=>if k=q then none else loc k,H'.set q ⟨true,ver,ty,esz,[],false⟩,c'⟩) y v:=
  fun h hv=>Avu ev h1 (by exact hv') hid h hv
 refine ⟨X,fun k=>if k=q then none else loc k,⟨⟨?_,?_,h1.lt⟩,?_,h3⟩,fun w0 X0 Cc he=>he.trans ev⟩
 ·intro id B e1 e2
  rcases hnew id B e1 with ⟨hl',e1⟩ | ⟨rfl,rfl⟩
  ·obtain ⟨A,k1,k2,k3,k4,k5,k6⟩:=key id B e1 e2
   obtain ⟨g1,g2,g3⟩:=h1.blk id A k1 k2
   have g1':A.ver < c:=g1
   have hlen:=(Fv k6).1
   refine ⟨by simp only [St.hc]; omega,by rw [←hlen]; exact g2,?_⟩
   show match (if id=q then none else loc id) with
    | none=>B.els=[]
    | some (b,base)=>X b∧(∃ cs,w.heap[b]?=some (.cells cs B.ty (0,0)))∧ElsOk w X ⟨fun k=>if k=q then none else loc k,H'.set q ⟨true,ver,ty,esz,[],false⟩,c'⟩ b base B
   rw [if_neg hl']
   have g3':match loc id with
    | none=>A.els=[]
    | some (b,base)=>X b∧(∃ cs,w.heap[b]?=some (.cells cs A.ty (0,0)))∧ElsOk w X ⟨loc,H,c⟩ b base A:=g3
   cases hlc:loc id with
   | none=>
    rw [hlc] at g3'
    exact Ayn
   | some p=>
    exact Bcf
  ·refine ⟨hv',by simp [Dl],?_⟩
   simp only [St.hc,lx8]
 ·intro j j' B1 B2 b' o o' e1 e2 e3 e4 e5 e6
  simp only [St.hc] at e1 e2 e5 e6
  rcases hnew j B1 e1 with ⟨hl1,e1⟩ | ⟨rfl,rfl⟩
  ·rcases hnew j' B2 e2 with ⟨hl2,e2⟩ | ⟨rfl,rfl⟩
   ·rw [if_neg hl1] at e5; rw [if_neg hl2] at e6
    exact Bdf
   ·rw [if_pos rfl] at e6; cases e6
  ·rw [if_pos rfl] at e5; cases e5
 ·obtain ⟨e1,e2⟩:=Fv hT
  exact Ay9
theorem Zw {P:Program} {E:Env} {n0:Nat} {rs:List ResultVar} {R:AV→St→Prop} {k:List Item} {T T':List AV} {H H':List Blk} {c:Nat} (q ver ty esz c':Nat) (hq:q < H'.length) (hv:c≤ver) (hv':ver < c')
  (hT:NwL q ver T T') (hH:NwH q ver H H') (h:Go P E n0 rs R k ⟨T',H'.set q ⟨true,ver,ty,esz,[],false⟩,c'⟩):Go P E n0 rs R k ⟨T,H,c⟩:=
 .ghost (s':=⟨T',H'.set q ⟨true,ver,ty,esz,[],false⟩,c'⟩) (fun w X loc act hs=>by
  obtain ⟨X',loc',h1,h2⟩:=As7 (ty:=ty) (esz:=esz) hs hq hv hv' hT hH
  exact ⟨X',loc',h1,fun w0 X0 Cc _ he=>h2 w0 X0 Cc he⟩) h
end Go.SX
namespace Go.SX
theorem Ba3 {w:World} {X:Nat→Prop} {loc:Nat→Option (Nat × Nat)} {H:List Blk} {c:Nat} (h:HR w X ⟨loc,H,c⟩) (id n:Nat) (B:Blk) (hB:H[id]?=some B) (hl:B.live=true):
  HR w X ⟨loc,H.set id ⟨true,c,B.ty,B.esz,B.els.take n,false⟩,c+1⟩∧Evo w X ⟨loc,H,c⟩ w X ⟨loc,H.set id ⟨true,c,B.ty,B.esz,B.els.take n,false⟩,c+1⟩:=by
 have hid:id < H.length:=(lx22.1 hB).1
 have hnew:∀ k (A:Blk),(H.set id (⟨true,c,B.ty,B.esz,B.els.take n,false⟩:Blk))[k]?=some A→(k≠id∧H[k]?=some A)∨(k=id∧A=⟨true,c,B.ty,B.esz,B.els.take n,false⟩):=by
  intro k A hk
  rw [lx21] at hk
  split at hk
  ·rename_i hkq
   cases hk
   exact .inr ⟨hkq.symm,rfl⟩
  ·rename_i hkq; exact .inl ⟨fun h=>hkq h.symm,hk⟩
 have ev:Evo w X ⟨loc,H,c⟩ w X ⟨loc,H.set id ⟨true,c,B.ty,B.esz,B.els.take n,false⟩,c+1⟩:=by
  refine ⟨rfl,rfl,rfl,Av _,fun _ _ _=>rfl,fun _ _ hs=>hs,fun _ _=>Iff.rfl,Nat.le_succ _,?_,?_⟩
  ·intro k A e1 e2 e3
   rcases hnew k A e1 with ⟨g1,g2⟩ | ⟨g1,g2⟩
   ·exact ⟨A,g2,e2,rfl,rfl,rfl,rfl,rfl⟩
   ·subst g2; simp only at e3; omega
  ·intro k A b o e1 e2 e3 e4
   rcases hnew k A e1 with ⟨g1,g2⟩ | ⟨g1,g2⟩
   ·exact ⟨A,o,g2,e2,e3⟩
   ·subst g1; exact ⟨B,o,hB,hl,e3⟩
 refine ⟨⟨?_,?_,h.lt⟩,ev⟩
 ·intro k A e1 e2
  rcases hnew k A e1 with ⟨g1,g2⟩ | ⟨g1,g2⟩
  ·exact h.rest ev g2 e2 rfl (fun _ _ _=>rfl) (fun _ hx=>hx)
  ·subst g2; subst g1
   obtain ⟨k1,k2,k3⟩:=h.blk k B hB hl
   refine ⟨WL _,Qv (by rw [lx68]; omega) k2,?_⟩
   have k3':match loc k with
    | none=>B.els=[]
    | some (b,base)=>X b∧(∃ cs,w.heap[b]?=some (.cells cs B.ty (0,0)))∧ElsOk w X ⟨loc,H,c⟩ b base B:=k3
   show match loc k with
    | none=>B.els.take n=[]
    | some (b,base)=>X b∧(∃ cs,w.heap[b]?=some (.cells cs B.ty (0,0)))∧ElsOk w X _ b base ⟨true,c,B.ty,B.esz,B.els.take n,false⟩
   cases hlc:loc k with
   | none=>
    rw [hlc] at k3'
    simp only at k3' ⊢
    rw [k3',List.take_nil]
   | some p=>
    obtain ⟨b,base⟩:=p
    rw [hlc] at k3'
    simp only at k3' ⊢
    obtain ⟨q1,q2,q3⟩:=k3'
    refine ⟨q1,q2,fun i e he=>?_⟩
    simp only at he
    rw [lx19] at he
    split at he
    ·obtain ⟨r1,r2⟩:=q3 i e he
     refine ⟨r1,fun j a ha=>?_⟩
     obtain ⟨u,t1,t2,t3⟩:=r2 j a ha
     exact ⟨u,t1,t2,t3.mono ev h⟩
    ·cases he
 ·intro j j' A A' b o o' e1 e2 e3 e4 e5 e6
  have key:∀ (k:Nat) (A:Blk),(H.set id (⟨true,c,B.ty,B.esz,B.els.take n,false⟩:Blk))[k]?=some A→A.live=true→∃ A0:Blk,H[k]?=some A0∧A0.live=true:=by
   intro k A g1 g2
   rcases hnew k A g1 with ⟨_,g⟩ | ⟨g,_⟩
   ·exact ⟨A,g,g2⟩
   ·subst g; exact ⟨B,hB,hl⟩
  obtain ⟨A0,k1,k2⟩:=key j A e1 e3
  obtain ⟨A1,l1,l2⟩:=key j' A' e2 e4
  exact h.inj j j' A0 A1 b o o' k1 l1 k2 l2 e5 e6
theorem Ba4 {w:World} {X:Nat→Prop} {loc:Nat→Option (Nat × Nat)} {H:List Blk} {c:Nat} {id n:Nat} {B:Blk} (hB:H[id]?=some B) (hl:B.live=true) {u:Value} (hv:VR w X (some ⟨loc,H,c⟩) (.sl id B.ver 0 n) u):
  VR w X (some ⟨loc,H.set id ⟨true,c,B.ty,B.esz,B.els.take n,false⟩,c+1⟩) (.sl id c 0 n) u:=by
 have hid:id < H.length:=(lx22.1 hB).1
 cases hv with
 | sl h1 h2=>
  refine .sl h1 fun hc hhc=>?_
  cases hhc
  obtain ⟨g1,g2⟩:=h2 _ rfl
  obtain ⟨g3,g4⟩:=g2 B hB hl rfl
  refine ⟨WL _,fun A hA _ _=>?_⟩
  have hA':(H.set id (⟨true,c,B.ty,B.esz,B.els.take n,false⟩:Blk))[id]?=some A:=hA
  rw [List.getElem?_set_self hid] at hA'
  cases hA'
  refine ⟨by rw [lx68]; omega,?_⟩
  exact g4
theorem HSpec.cut {P:Program} {f:FuncId} {args:List AV} {H H':List Blk} {cnt cnt' id n:Nat} {B:Blk} (h:HSpec P f args H cnt (.sl id B.ver 0 n) H' cnt') (hB:H'[id]?=some B) (hl:B.live=true):
  HSpec P f args H cnt (.sl id cnt' 0 n) (H'.set id ⟨true,cnt',B.ty,B.esz,B.els.take n,false⟩) (cnt'+1):=by
 refine ⟨h.1,fun w X loc cargs hr hv=>(h.2 w X loc cargs hr hv).mono ?_⟩
 rintro e w' ⟨X',loc',c,rfl,g1,g2,g3⟩
 obtain ⟨k1,k2⟩:=Ba3 g1 id n B hB hl
 exact ⟨X',loc',c,rfl,k1,Ba4 hB hl g2,g3.trans k2⟩
end Go.SX
namespace Go.SX
open Go.RowKit (Below)
def WI (P:Program) (t:TypeId) (c:List AV):AV:=
 match P.underlying t with
 | some (.struct _) | some (.array _ _)=>.ag c
 | _=>c.headD .un
mutual
inductive HasC (P:Program):TypeId→List AV→Prop
 | bool {t b} (h:P.underlying t=some .bool):HasC P t [.sc (.bool b)]
 | int {t k n} (h:P.underlying t=some (.int k)) (hw:(Lit.int k n).wf=true):HasC P t [.sc (.int k n)]
 | str {t s} (h:P.underlying t=some .string) (hs:s.size≤maxLen):HasC P t [.sc (.string s)]
 | slice {t e} (h:P.underlying t=some (.slice e)) (z:Bool) (ess:List (List AV)) (hs:∀ c ∈ ess,HasC P e c):HasC P t [.vw z (ess.map (WI P e))]
 | struct {t fs cs} (h:P.underlying t=some (.struct fs)) (hf:HasFs P (fs.toList.map (·.type)) cs):HasC P t cs
 | array {t n e cs} (h:P.underlying t=some (.array n e)) (hf:HasFs P (List.replicate n e) cs):HasC P t cs
inductive HasFs (P:Program):List TypeId→List AV→Prop
 | nil:HasFs P [] []
 | cons {t ts c cs} (h:HasC P t c) (hs:HasFs P ts cs):HasFs P (t::ts) (c++cs)
end
def HasV (P:Program) (t:TypeId) (a:AV):Prop:=∃ c,HasC P t c∧a=WI P t c
theorem UE {P:Program} {t:TypeId} {c:List AV} (h:HasC P t c):(WI P t c).cells=c:=by
 cases h with
 | bool h=>simp [WI,h,AV.cells]
 | int h hw=>simp [WI,h,AV.cells]
 | str h hs=>simp [WI,h,AV.cells]
 | slice h z ess hs=>simp [WI,h,AV.cells]
 | struct h hf=>simp [WI,h,AV.cells]
 | array h hf=>simp [WI,h,AV.cells]
def ctg (P:Program):List (Nat × TypeId)→Nat→Nat→Bool
 | [],off,tot=>off == tot
 | (o,t)::r,off,tot=>o == off && ctg P r (off+P.cellsOf t) tot
def okT (P:Program):Nat→TypeId→Bool
 | 0,_=>false
 | d+1,t=>match P.underlying t with
  | some .bool | some (.int _) | some .string=>true
  | some (.slice e)=>okT P d e && decide (0 < P.cellsOf e)
  | some (.struct fs)=>fs.toList.all (fun f=>okT P d f.type) && ctg P (fs.toList.map fun f=>(f.offset,f.type)) 0 (P.cellsOf t)
  | some (.array n e)=>okT P d e && ctg P ((List.range n).map fun i=>(i * P.cellsOf e,e)) 0 (P.cellsOf t)
  | _=>false
def Rel (w:World) (cs:List AV) (vs:List Value):Prop:=
 cs.length=vs.length∧∀ (j:Nat) (a:AV) (v:Value),cs[j]?=some a→vs[j]?=some v→(∀ o,VR w QQ o a v)∧v.oneCell'=true
theorem Rel.one {w:World} {a:AV} {v:Value} (h:∀ o,VR w QQ o a v) (h1:v.oneCell'=true):Rel w [a] [v]:=by
 refine ⟨rfl,fun j b u hb hu=>?_⟩
 cases j with
 | zero=>simp at hb hu; subst hb; subst hu; exact ⟨h,h1⟩
 | succ j=>simp at hb
theorem Rel.append {w:World} {cs cs':List AV} {vs vs':List Value} (h:Rel w cs vs) (h':Rel w cs' vs'):Rel w (cs++cs') (vs++vs'):=by
 refine ⟨by simp [h.1,h'.1],fun j b u hb hu=>?_⟩
 rw [lx18] at hb hu
 rw [h.1] at hb
 split at hb
 ·rename_i hi; rw [if_pos hi] at hu; exact h.2 j b u hb hu
 ·rename_i hi; rw [if_neg hi] at hu; exact h'.2 _ b u hb hu
section
variable {H:Type} {enc:TypeId × Value→H} {P:Program} {w:World}
theorem Zx (b off n:Nat):(⟨b,off,none⟩:Addr).add n=⟨b,off+n,none⟩:=by
 unfold Addr.add
 split
 ·rename_i h; subst h; rfl
 ·rfl
theorem N6 {fuel D:Nat} {vcs:List Value} (ih:∀ t cs d ps,okT P D t=true→DataW.trod enc P w 0 (fun _=>true) true fuel t cs=some (d,ps)→∃ c,HasC P t c∧Rel w c cs):
  ∀ (l:List (Nat × TypeId)) (off:Nat) (xs:List (DataW H × List MemPlace)),ctg P l off vcs.length=true→(∀ p ∈ l,okT P D p.2=true)→
   l.mapM (fun p=>DataW.trod enc P w 0 (fun _=>true) true fuel p.2 ((vcs.drop p.1).take (P.cellsOf p.2)))=some xs→∃ cs,HasFs P (l.map (·.2)) cs∧Rel w cs (vcs.drop off)
 | [],off,xs,hc,_,_=>by
  simp only [ctg,lx86] at hc
  refine ⟨[],.nil,?_⟩
  rw [lx75 (by omega)]
  exact ⟨rfl,fun j a v h=>by simp at h⟩
 | (o,t)::r,off,xs,hc,hk,hm=>by
  simp only [ctg,AH,lx86] at hc
  obtain ⟨rfl,hc⟩:=hc
  rw [List.mapM_cons] at hm
  simp only [Option.bind_eq_bind,Option.bind_eq_some_iff] at hm
  obtain ⟨x,hx,ys,hys,_⟩:=hm
  obtain ⟨c,h1,h2⟩:=ih t _ x.1 x.2 (hk _ lx47) hx
  obtain ⟨cs,h3,h4⟩:=N6 ih r (o+P.cellsOf t) ys hc (fun p hp=>hk p (lx48 _ hp)) hys
  refine ⟨c++cs,.cons h1 h3,?_⟩
  have:vcs.drop o=(vcs.drop o).take (P.cellsOf t)++vcs.drop (o+P.cellsOf t):=by
   rw [←lx80,lx67]
  rw [this]
  exact h2.append h4
theorem N7 {α β γ:Type} (f:β→Option γ) (g:α→β):∀ l:List α,(l.map g).mapM f=l.mapM (fun x=>f (g x))
 | []=>rfl
 | x::l=>by rw [lx31,List.mapM_cons,List.mapM_cons,N7 f g l]
theorem Ai8 {fuel D:Nat} {t e:TypeId} {ad:Addr} {len cap:Nat} {xs:List (DataW H × List MemPlace)} (ih:∀ t cs d ps,okT P D t=true→DataW.trod enc P w 0 (fun _=>true) true fuel t cs=some (d,ps)→∃ c,HasC P t c∧Rel w c cs)
  (hu:P.underlying t=some (.slice e)) (hk:okT P D e=true) (hpos:0 < P.cellsOf e) (hl:len≤cap) (hm:cap≤maxLen)
  (hxs:(List.range len).mapM (fun i=>(w.cells? 0 (ad.add (i * P.cellsOf e)) (P.cellsOf e)).bind (DataW.trod enc P w 0 (fun _=>true) true fuel e))=some xs):
  ∃ c,HasC P t c∧Rel w c [.slice (some ad) len cap]:=by
 by_cases h0:len=0
 ·subst h0
  exact ⟨_,.slice hu false [] (by simp),.one (fun o=>.vw0 (fun h=>by cases h) hm) rfl⟩
 have hel:∀ i,i < len→∃ c vs,HasC P e c∧Rel w c vs∧w.cells? 0 (ad.add (i * P.cellsOf e)) (P.cellsOf e)=some vs:=by
  intro i hi
  have:=mapM_some_get hxs i i (by simp [hi])
  have hlen:=mapM_some_length hxs
  simp only [U2] at hlen
  have hx:xs[i]?=some xs[i]:=lx50 (by omega)
  rw [hx] at this
  simp only [Option.bind_eq_some_iff] at this
  obtain ⟨vs,h1,h2⟩:=this
  obtain ⟨c,h3,h4⟩:=ih e vs _ _ hk h2
  exact ⟨c,vs,h3,h4,h1⟩
 obtain ⟨b,off,sp⟩:=ad
 have hsp:sp=none:=by
  obtain ⟨c,vs,_,_,h⟩:=hel 0 (by omega)
  obtain ⟨_,h2,h3⟩:=World.cells?_some h
  have h4:=h3 0 hpos
  have:vs[0]?=some vs[0]:=lx50 (by omega)
  rw [this] at h4
  simpa [Addr.add] using World.cell?_spot h4
 subst hsp
 have hel2:∀ i,∃ c,i < len→HasC P e c∧c.length=P.cellsOf e∧∀ j,j < P.cellsOf e→∃ v,w.cell? ⟨b,off+i * P.cellsOf e+j,none⟩=some v∧v.oneCell'=true∧∀ a,c[j]?=some a→∀ o,VR w QQ o a v:=by
  intro i
  by_cases hi:i < len
  ·obtain ⟨c,vs,h1,h2,h3⟩:=hel i hi
   obtain ⟨_,h4,h5⟩:=World.cells?_some h3
   refine ⟨c,fun _=>⟨h1,h2.1.trans h4,fun j hj=>?_⟩⟩
   have h6:=h5 j hj
   rw [Zx,Zx] at h6
   have hv:vs[j]?=some vs[j]:=lx50 (by omega)
   have hc:c[j]?=some (c[j]'(by rw [h2.1]; omega)):=lx50 _
   rw [hv] at h6
   exact ⟨_,h6,(h2.2 j _ _ hc hv).2,fun a ha=>(h2.2 j _ _ ha hv).1⟩
  ·exact ⟨[],fun h=>absurd h hi⟩
 let g:Nat→List AV:=fun i=>Classical.choose (hel2 i)
 have hg:∀ i,i < len→HasC P e (g i)∧(g i).length=P.cellsOf e∧∀ j,j < P.cellsOf e→∃ v,w.cell? ⟨b,off+i * P.cellsOf e+j,none⟩=some v∧v.oneCell'=true∧∀ a,(g i)[j]?=some a→∀ o,VR w QQ o a v:=
  fun i hi=>lx93 (hel2 i) hi
 let ess:=(List.range len).map g
 have hess:∀ i,i < len→ess[i]?=some (g i):=fun i hi=>by simp [ess,hi]
 have hlen:ess.length=len:=by simp [ess]
 have hmem:∀ c ∈ ess,∃ i,i < len∧c=g i:=fun c hc=>by
  obtain ⟨i,hi,rfl⟩:=lx35.1 hc
  exact ⟨i,by simpa using hi,rfl⟩
 refine ⟨_,.slice hu false ess (fun c hc=>by obtain ⟨i,hi,rfl⟩:=hmem c hc; exact (hg i hi).1),.one (fun o=>?_) rfl⟩
 have hcell:∀ i j,i < len→j < P.cellsOf e→w.cell? ⟨b,off+i * P.cellsOf e+j,none⟩=some ((w.cell? ⟨b,off+i * P.cellsOf e+j,none⟩).getD undef)∧((w.cell? ⟨b,off+i * P.cellsOf e+j,none⟩).getD undef).oneCell'=true:=by
  intro i j hi hj
  obtain ⟨v,h1,h2,_⟩:=(hg i hi).2.2 j hj
  rw [h1]; exact ⟨rfl,h2⟩
 have hget:∀ i x,(ess.map (WI P e))[i]?=some x→i < len∧x=WI P e (g i):=by
  intro i x hx
  have hi:i < len:=by
   have:=(lx22.1 hx).1
   simpa [hlen] using this
  refine ⟨hi,?_⟩
  rw [lx23,hess i hi] at hx
  simpa using hx.symm
 have:=VR.vw1 (w:=w) (X:=QQ) (o:=o) (z:=false) (es:=ess.map (WI P e)) (b:=b) (base:=off) (cap:=cap) (esz:=P.cellsOf e)
  (fun i j=>(w.cell? ⟨b,off+i * P.cellsOf e+j,none⟩).getD undef)
  (by intro h; have:=congrArg List.length h; simp [hlen] at this; omega) (fun h=>h.elim)
  (World.block_lt_of_cell? w ⟨b,off+0 * P.cellsOf e+0,none⟩ (hcell 0 0 (by omega) hpos).1) (by simpa [hlen] using hl) (fun h=>by cases h) hm
  (fun x hx=>by
   obtain ⟨c,hc,rfl⟩:=lx35.1 hx
   obtain ⟨i,hi,rfl⟩:=hmem c hc
   rw [UE (hg i hi).1]; exact (hg i hi).2.1)
  (fun i j hi hj=>hcell i j (by simpa [hlen] using hi) hj)
  (fun i x j a hx ha=>by
   obtain ⟨hi,rfl⟩:=hget i x hx
   rw [UE (hg i hi).1] at ha
   have hj:j < P.cellsOf e:=by
    have:=(lx22.1 ha).1
    rw [(hg i hi).2.1] at this
    exact this
   obtain ⟨v,h1,h2,h3⟩:=(hg i hi).2.2 j hj
   simp only [h1,lx4]
   exact h3 a ha none)
 simpa [hlen] using this
theorem Zy:∀ (fuel D:Nat) (t:TypeId) (vcs:List Value) (d:DataW H) (ps:List MemPlace),okT P D t=true→
  DataW.trod enc P w 0 (fun _=>true) true fuel t vcs=some (d,ps)→∃ c,HasC P t c∧Rel w c vcs
 | 0,D,t,vcs,d,ps,hk,h=>by simp [DataW.trod] at h
 | fuel+1,0,t,vcs,d,ps,hk,h=>by simp [okT] at hk
 | fuel+1,D+1,t,vcs,d,ps,hk,h=>by
  have ih:=Zy fuel D
  unfold DataW.trod at h
  unfold okT at hk
  split at hk
  ·rename_i hu
   rw [hu] at h
   split at h <;> simp_all
   exact ⟨_,.bool hu,.one (fun o=>.sc rfl) rfl⟩
  ·rename_i k hu
   rw [hu] at h
   split at h <;> simp_all
   obtain ⟨⟨rfl,hw⟩,_⟩:=h
   exact ⟨_,.int hu hw,.one (fun o=>.sc rfl) rfl⟩
  ·rename_i hu
   rw [hu] at h
   split at h <;> simp_all
   exact ⟨_,.str hu h.1,.one (fun o=>.sc rfl) rfl⟩
  ·rename_i e hu
   rw [hu] at h
   simp only [AH,Bw] at hk
   obtain ⟨hk,hpos⟩:=hk
   split at h
   all_goals first | (rename_i hq; cases hq; done) | skip
   ·simp only [lx16,lx40] at h
    exact ⟨_,.slice hu true [] (by simp),.one (fun o=>.vw0 (fun _=>rfl) (by simp [maxLen])) rfl⟩
   ·rename_i e' ad len cap h1
    cases h1
    simp only at h
    split at h
    rotate_left
    ·cases h
    rename_i hh
    obtain ⟨_,hl,hm⟩:=hh
    simp only [Option.bind_eq_some_iff] at h
    obtain ⟨xs,hxs,_⟩:=h
    exact Ai8 ih hu hk hpos hl hm hxs
   ·cases h
  ·rename_i fs hu
   rw [hu] at h
   simp only [AH,lx28] at hk
   obtain ⟨hk,hc⟩:=hk
   split at h
   all_goals first | (rename_i hq; cases hq; done) | skip
   ·rename_i fs' h1
    cases h1
    split at h
    rotate_left
    ·cases h
    rename_i hl
    simp only [lx24] at h
    obtain ⟨xs,hxs,_⟩:=h
    have:=N6 (w:=w) ih (fs.toList.map fun f=>(f.offset,f.type)) 0 xs (by rw [hl]; exact hc) (by
     intro p hp
     obtain ⟨f,hf,rfl⟩:=lx35.1 hp
     exact hk f hf) (by rw [N7]; exact hxs)
    obtain ⟨cs,g1,g2⟩:=this
    rw [List.map_map] at g1
    exact ⟨cs,.struct hu g1,by simpa using g2⟩
   ·exact absurd rfl (‹∀ (gs:Array Field),some (TypeDesc.struct fs)=some (TypeDesc.struct gs)→False› fs)
  ·rename_i n e hu
   rw [hu] at h
   simp only [AH] at hk
   obtain ⟨hk,hc⟩:=hk
   split at h
   all_goals first | (rename_i hq; cases hq; done) | skip
   ·rename_i n' e' h1
    cases h1
    split at h
    rotate_left
    ·cases h
    rename_i hl
    simp only [lx24] at h
    obtain ⟨xs,hxs,_⟩:=h
    have:=N6 (w:=w) ih ((List.range n).map fun i=>(i * P.cellsOf e,e)) 0 xs (by rw [hl]; exact hc) (by
     intro p hp
     obtain ⟨f,hf,rfl⟩:=lx35.1 hp
     exact hk) (by rw [N7]; exact hxs)
    obtain ⟨cs,g1,g2⟩:=this
    have e1:List.map (fun x:Nat × TypeId=>x.2) (List.map (fun i=>(i * P.cellsOf e,e)) (List.range n))=List.replicate n e:=by
     rw [List.map_map]
     exact List.eq_replicate_iff.2 ⟨by simp,by simp⟩
    rw [e1] at g1
    exact ⟨cs,.array hu g1,by simpa using g2⟩
   ·exact absurd rfl (‹∀ (m:Nat) (u:TypeId),some (TypeDesc.array n e)=some (TypeDesc.array m u)→False› n e)
  ·cases hk
end
end Go.SX
