/-
  Joined texts: SYD.
  Conditions: none.
-/
import Derived.Test.YtdjpkhjaibdogaaGreatL22
namespace Go.SX
set_option linter.unusedSimpArgs false
set_option linter.unusedVariables false
structure PastE where
 at_:Nat
 σ:ES
structure DidE where
 at_:Nat
 o:Oper
 σ:ES
 T':Tr AV
def PastE.toP (p:PastE):Past:=⟨p.at_,p.σ.toS.H,p.σ.cnt⟩
def DidE.toD (d:DidE):Did:=⟨d.at_,d.o,d.σ.toS.T,d.T'.toL .un d.σ.n⟩
def isPureE (isP:Nat→Bool) (φ:Operand→AV) (o:Op):Bool:=
 match isCall o with
 | true=>match targetE φ o with
  | some (g,_)=>isP g
  | none=>true
 | false=>!isHeapOp o
theorem isPureE_eq (E:EE) (s:St) (o:Op):isPureE E.isP (ev s.T) o=isPure E.env s o:=by
 unfold isPureE isPure
 rw [targetE_eq]
 cases isCall o <;> rfl
def isVE (E:EE) (φ:Operand→AV) (o:Op):Bool:=
 isCall o && match targetE φ o with
 | some (g,_)=>E.vb g
 | none=>false
theorem isVE_eq (E:EE) (s:St) (o:Op):isVE E (ev s.T) o=isVop E.vb s o:=by
 unfold isVE isVop
 rw [targetE_eq]
 rfl
noncomputable def sameE (P:Program) (E:EE) (all:Array Oper) (o:Oper) (T:Tr AV) (n:Nat) (T':Tr AV) (H:Tr Blk) (hn c:Nat):Bool:=
 match isPureE E.isP (evE ⟨T,n,H,hn,c⟩) o.op with
 | true=>match opE P E all ⟨T,n,H,hn,c⟩ o false,o.dst with
  | some σ1,some d=>match Nat.blt d n with
   | true=>avE (σ1.T.get .un d) (T'.get .un d)
   | false=>false
  | some _,none=>true
  | none,_=>false
 | false=>false
theorem sameE_ok {P:Program} {E:EE} (hE:E.Ok) {all:Array Oper} {o:Oper} {T T':Tr AV} {n:Nat} {H:Tr Blk} {hn c:Nat} (hf:Tr.Fit H hn) (h:sameE P E all o T n T' H hn c=true):
  sameB P E.env all o (T.toL .un n) (T'.toL .un n) (H.toL dead hn) c=true:=by
 unfold sameE at h
 unfold sameB
 split at h
 ·rename_i hp
  rw [evE_eq,isPureE_eq] at hp
  have hp:isPure E.env ⟨T.toL .un n,H.toL dead hn,c⟩ o.op=true:=hp
  rw [hp,Bool.true_and]
  split at h
  ·rename_i σ1 d h1 hd
   obtain ⟨q1,q2,q3⟩:=opE_ok hE (σ:=⟨T,n,H,hn,c⟩) hf h1
   have q2:opStep P E.env all ⟨T.toL .un n,H.toL dead hn,c⟩ o=some σ1.toS:=q2
   have q3:σ1.n=n:=q3
   rw [q2,hd]
   simp only
   split at h
   ·rename_i hb
    rw [blt_eq] at hb
    have hb:d < n:=by simpa using hb
    have e1:σ1.toS.T.getD d .un=σ1.T.get .un d:=by
     simp only [ES.toS,q3,List.getD_eq_getElem?_getD,Tr.toL_get,if_pos hb,Option.getD_some]
    have e2:(T'.toL .un n).getD d .un=T'.get .un d:=by
     simp only [List.getD_eq_getElem?_getD,Tr.toL_get,if_pos hb,Option.getD_some]
    rw [e1,e2]
    exact h
   ·cases h
  ·rename_i σ1 h1 hd
   obtain ⟨q1,q2,q3⟩:=opE_ok hE (σ:=⟨T,n,H,hn,c⟩) hf h1
   have q2:opStep P E.env all ⟨T.toL .un n,H.toL dead hn,c⟩ o=some σ1.toS:=q2
   rw [q2,hd]
  ·cases h
 ·cases h
noncomputable def chkPe (P:Program) (E:EE) (ops:Array Oper) (i:Nat) (o:Oper) (T:Tr AV) (n:Nat) (T':Tr AV):List PastE→Bool
 | []=>true
 | h::r=>(gB E.hb ops h.at_ i || (isVE E (evE ⟨T,n,.nil,0,0⟩) o.op || sameE P E ops o T n T' h.σ.H h.σ.hn h.σ.cnt)) && chkPe P E ops i o T n T' r
noncomputable def chkFe (P:Program) (E:EE) (ops:Array Oper) (k:Nat) (H:Tr Blk) (hn c:Nat):List DidE→Bool
 | []=>true
 | d::r=>(gB E.hb ops d.at_ k || (isVE E (evE ⟨d.σ.T,d.σ.n,.nil,0,0⟩) d.o.op || sameE P E ops d.o d.σ.T d.σ.n d.T' H hn c)) && chkFe P E ops k H hn c r
noncomputable def bornE (κ:Nat→Bool) (ops:Array Oper) (i:Nat) (σ:ES):Op→Bool
 | .buildSlice ..=>gB κ ops i i || norefs (σ.H.get dead (σ.hn - 1)).els
 | _=>true
theorem chkPe_ok {P:Program} {E:EE} (hE:E.Ok) {ops:Array Oper} {i:Nat} {o:Oper} {T T':Tr AV} {n:Nat}:∀ {hs:List PastE},(∀ h ∈ hs,h.σ.Inv)→chkPe P E ops i o T n T' hs=true→
  chkPb P E.env E.vb ops i o (T.toL .un n) (T'.toL .un n) (hs.map PastE.toP)=true
 | [],_,_=>rfl
 | h::r,hi,hb=>by
  simp only [chkPe,Bool.and_eq_true,Bool.or_eq_true] at hb
  simp only [List.map_cons,chkPb,Bool.and_eq_true,Bool.or_eq_true]
  refine ⟨hb.1.imp id fun q=>q.imp (fun q=>?_) fun q=>?_,chkPe_ok hE (fun x hx=>hi x (List.mem_cons_of_mem _ hx)) hb.2⟩
  ·rw [evE_eq,isVE_eq] at q
   exact q
  ·exact sameE_ok hE (hi h List.mem_cons_self) q
theorem chkFe_ok {P:Program} {E:EE} (hE:E.Ok) {ops:Array Oper} {k:Nat} {σ:ES} (hi:σ.Inv):∀ {ds:List DidE},chkFe P E ops k σ.H σ.hn σ.cnt ds=true→
  chkFb P E.env E.vb ops k σ.toS.H σ.toS.cnt (ds.map DidE.toD)=true
 | [],_=>rfl
 | d::r,hb=>by
  simp only [chkFe,Bool.and_eq_true,Bool.or_eq_true] at hb
  simp only [List.map_cons,chkFb,Bool.and_eq_true,Bool.or_eq_true]
  refine ⟨hb.1.imp id fun q=>q.imp (fun q=>?_) fun q=>?_,chkFe_ok hE hi hb.2⟩
  ·rw [evE_eq,isVE_eq] at q
   exact q
  ·exact sameE_ok hE hi q
theorem lastEls_get (H:Tr Blk):∀ {n:Nat},0 < n→lastEls (H.toL dead n)=(H.get dead (n - 1)).els
 | n+1,_=>by
  have:H.toL dead (n+1)=H.toL dead n++[H.get dead n]:=by
   simp only [Tr.toL,List.range_succ,List.map_append,List.map_cons,List.map_nil]
  rw [this,lastEls_append]
  rfl
noncomputable def retE (P:Program) (σ:ES):List ResultVar→Option (List AV)
 | []=>some []
 | .tmp t::r=>match retE P σ r with
  | some l=>some (evE σ (.tmp t)::l)
  | none=>none
 | .cell t ty::r=>match rvalF P (evE σ) (liveG (gE σ)) (.load ty (.tmp t)) with
  | some v=>match retE P σ r with
   | some l=>some (v::l)
   | none=>none
  | none=>none
theorem retE_eq {P:Program} {σ:ES}:∀ {rs:List ResultVar} {vs:List AV},retE P σ rs=some vs→retVal P σ.toS rs=some vs
 | [],vs,h=>h
 | .tmp t::r,vs,h=>by
  simp only [retE] at h
  split at h
  ·rename_i l hl
   cases h
   simp only [retVal,retE_eq hl,Option.map_some,evE_eq]
   rfl
  ·cases h
 | .cell t ty::r,vs,h=>by
  simp only [retE] at h
  split at h
  ·rename_i v hv
   rw [evE_eq,liveE_eq] at hv
   have hv:=rvalF_ok hv
   split at h
   ·rename_i l hl
    cases h
    simp only [retVal,hv,retE_eq hl,Option.map_some]
   ·cases h
  ·cases h
structure TabE where
 ok:Nat→Bool
 isP:Nat→Bool
 hcl:Nat→Bool
 lit:Nat→Bool
 perm:Nat→Nat→Option (List Nat)
 keep:Nat→Bool
 isV:Nat→Bool
 givP:Nat→Bool
 givV:Nat→Bool
 givH:Nat→Bool
 givF:Nat→Bool
noncomputable def truncE:Nat→Tr Blk→Nat→Option (Tr Blk × Nat)
 | 0,H,n=>some (H,n)
 | k+1,H,n=>match n with
  | 0=>none
  | m+1=>match H.pop m with
   | some H'=>truncE k H' m
   | none=>none
noncomputable def outE (keep:Bool) (n:Nat):Option (AV × ES)→Option (AV × Tr Blk × Nat × Nat)
 | some (r,σ)=>match keep with
  | true=>some (r,σ.H,σ.hn,σ.cnt)
  | false=>match truncE (σ.hn - n) σ.H σ.hn with
   | some (H',n')=>some (r,H',n',σ.cnt)
   | none=>none
 | none=>none
noncomputable def outPE:Option (AV × ES)→Option AV
 | some (r,_)=>match okc r with
  | true=>some r
  | false=>none
 | none=>none
noncomputable def givT (G:Giv) (f:Nat) (args:List AV) (H:Tr Blk) (hn cnt:Nat):Option (AV × Tr Blk × Nat × Nat):=
 match G.h f args (H.toL dead hn) cnt with
 | some (r,H',c')=>some (r,Tr.ofL dead H',H'.length,c')
 | none=>none
def eeOf (t:TabE) (p v:Nat→List AV→Option AV) (h:Nat→List AV→Tr Blk→Nat→Nat→Option (AV × Tr Blk × Nat × Nat)) (f:Nat):EE:=⟨t.isP,t.isV,p,v,h,t.lit f,t.perm f,t.hcl⟩
noncomputable def outVE:Option (AV × ES)→Option AV
 | some (r,σ)=>match (dB 60 (σ.H.toL dead σ.hn) r).noref with
  | true=>some (dB 60 (σ.H.toL dead σ.hn) r)
  | false=>none
 | none=>none
def TabEOk (P:Program) (t:TabE):Prop:=∀ f fn c,t.ok f=true→P.funcs[f]?=some fn→fn.body=some c→
 (fn.name == "runtime.NumGoroutine")=false∧lexAll (fun g=>t.hcl g && !t.isP g) (t.perm f) c=true
theorem truncE_ok:∀ {k:Nat} {H H':Tr Blk} {n n':Nat},Tr.Fit H n→truncE k H n=some (H',n')→Tr.Fit H' n'∧n'+k=n∧H'.toL dead n'=(H.toL dead n).take n'
 | 0,H,H',n,n',hf,h=>by
  simp only [truncE,Option.some.injEq,Prod.mk.injEq] at h
  obtain ⟨rfl,rfl⟩:=h
  exact ⟨hf,rfl,by rw [List.take_of_length_le (by rw [Tr.toL_len]; exact Nat.le_refl _)]⟩
 | k+1,H,H',n,n',hf,h=>by
  cases n with
  | zero=>simp [truncE] at h
  | succ m=>
   simp only [truncE] at h
   split at h
   ·rename_i H1 h1
    obtain ⟨f1,f2,f3⟩:=truncE_ok (Tr.pop_ok dead hf h1).2 h
    refine ⟨f1,by omega,?_⟩
    rw [f3,Tr.toL_pop hf h1,List.take_take,Nat.min_eq_left (by omega)]
   ·cases h
end Go.SX
