/-
  Lemmas towards ModesPriority (joined texts: SYC, SYD).
  Conditions: none.
-/
import Derived.Test.YtdjpkhjaibdogaaGreatL01
import Derived.Test.YtdjpkhjaibdogaaGreatL17
set_option linter.unusedSimpArgs false
set_option linter.unusedVariables false
set_option maxRecDepth 100000
namespace Go.SX
structure ES where
 T:Tr AV
 n:Nat
 H:Tr Blk
 hn:Nat
 cnt:Nat
def ES.toS (σ:ES):St:=⟨σ.T.toL .un σ.n,σ.H.toL dead σ.hn,σ.cnt⟩
def ES.Inv (σ:ES):Prop:=Tr.Fit σ.H σ.hn
noncomputable def LY (σ:ES):Operand→AV
 | .tmp t=>match Nat.blt t σ.n with
  | true=>Tr.getP .un (pth t) σ.T
  | false=>.un
 | .const v=>LX v
 | .global _=>.jk
 | .func f=>.fn f []
noncomputable def gE (σ:ES) (id:Nat):Option Blk:=
 match Nat.blt id σ.hn with
 | true=>some (Tr.getN dead σ.H id)
 | false=>none
def frc:AV→Option AV
 | .sc v=>match v with
  | .int k n=>match n with
   | .ofNat m=>match m with
    | 0=>some (.sc (.int k (.ofNat 0)))
    | m+1=>some (.sc (.int k (.ofNat (m+1))))
   | .negSucc m=>match m with
    | 0=>some (.sc (.int k (.negSucc 0)))
    | m+1=>some (.sc (.int k (.negSucc (m+1))))
  | .bool b=>match b with
   | true=>some (.sc (.bool true))
   | false=>some (.sc (.bool false))
  | v=>some (.sc v)
 | a=>some a
theorem Azr {a b:AV} (h:frc a=some b):b=a:=by
 unfold frc at h
 repeat' split at h
 all_goals (cases h; rfl)
noncomputable def M1 (σ:ES) (d:Option Nat) (v:AV):Option ES:=
 match d with
 | none=>some σ
 | some d=>match frc v with
  | some v=>match Tr.setP v (pth d) σ.T with
   | some T'=>some ⟨T',σ.n,σ.H,σ.hn,σ.cnt⟩
   | none=>none
  | none=>none
theorem blt_eq (a b:Nat):Nat.blt a b=decide (a < b):=by
 cases h:Nat.blt a b with
 | true=>rw [Nat.blt_eq] at h; simp [h]
 | false=>
  symm
  rw [Cy]
  intro h'
  rw [←Nat.blt_eq] at h'
  rw [h'] at h; cases h
theorem Dc (σ:ES):LY σ=ev σ.toS.T:=by
 funext x
 cases x with
 | tmp t=>
  simp only [LY,ev,Tr.getP_eq,ES.toS,lx81,Tr.toL_get,blt_eq]
  by_cases h:t < σ.n
  ·simp [h]
  ·simp [h]
 | _=>rfl
theorem Af9 (σ:ES):gE σ=fun i=>σ.toS.H[i]?:=by
 funext i
 simp only [gE,Tr.getN_eq,ES.toS,Tr.toL_get,blt_eq]
 by_cases h:i < σ.hn
 ·simp [h]
 ·simp [h]
theorem R4 (σ:ES):Io (gE σ)=AJ σ.toS.H:=by
 funext id ver
 rw [Af9,Hg]
theorem Amt (σ:ES):σ.toS.H.length=σ.hn:=Tr.toL_len _ _ _
theorem EV {σ σ':ES} {d:Option Nat} {v:AV} (hi:σ.Inv) (h:M1 σ d v=some σ'):σ'.Inv∧σ.toS.put d v=σ'.toS∧σ'.n=σ.n∧σ'.H=σ.H∧σ'.hn=σ.hn:=by
 unfold M1 at h
 split at h
 ·cases h; exact ⟨hi,rfl,rfl,rfl,rfl⟩
 ·split at h
  ·rename_i d v' hv
   have hv:=Azr hv
   subst hv
   split at h
   ·rename_i T' hT
    rw [Tr.setP_eq] at hT
    cases h
    refine ⟨hi,?_,rfl,rfl,rfl⟩
    simp only [St.put,ES.toS,Tr.toL_set hT]
   ·cases h
  ·cases h
structure EE where
 isP:Nat→Bool
 isV:Nat→Bool
 pc:Nat→List AV→Option AV
 vc:Nat→List AV→Option AV
 hc:Nat→List AV→Tr Blk→Nat→Nat→Option (AV × Tr Blk × Nat × Nat)
 lit:Bool
 perm:Nat→Option (List Nat)
 hcl:Nat→Bool
def EE.hb (E:EE) (g:Nat):Bool:=E.hcl g && !E.isP g
def hcL (hc:Nat→List AV→Tr Blk→Nat→Nat→Option (AV × Tr Blk × Nat × Nat)) (f:Nat) (args:List AV) (H:List Blk) (cnt:Nat):Option (AV × List Blk × Nat):=
 match hc f args (Tr.ofL dead H) H.length cnt with
 | some (r,H',n',c')=>some (r,H'.toL dead n',c')
 | none=>none
def EE.vb (E:EE) (g:Nat):Bool:=E.isV g && !E.isP g
def EE.hcall (E:EE) (g:Nat) (args:List AV) (H:List Blk) (cnt:Nat):Option (AV × List Blk × Nat):=
 match E.isV g with
 | true=>hcV H cnt (norefs args) (E.vc g args)
 | false=>hcL E.hc g args H cnt
def EE.env (E:EE):Env:=⟨E.isP,E.pc,E.hcall,E.lit,E.perm,E.hcl⟩
theorem Avn (E:EE):Azn E.env E.vb:=by
 intro g hg
 simp only [EE.vb,AH] at hg
 refine ⟨by simpa [EE.env] using hg.2,fun args=>match norefs args with | true=>E.vc g args | false=>none,fun args H cnt=>?_⟩
 show EE.hcall E g args H cnt=_
 unfold EE.hcall
 rw [hg.1]
 simp only
 cases norefs args with
 | true=>cases E.vc g args <;> rfl
 | false=>cases E.vc g args <;> rfl
def EE.Ok (E:EE):Prop:=∀ f args H n c r H' n' c',Tr.Fit H n→E.hc f args H n c=some (r,H',n',c')→Tr.Fit H' n'
def I3 (φ:Operand→AV) (o:Op):Option (Nat × List AV):=
 match o with
 | .call { callee:=.value f,args,.. }=>match φ f with
  | .fn g caps=>some (g,args.toList.map φ++caps)
  | _=>none
 | _=>none
theorem LF (s:St) (o:Op):I3 (ev s.T) o=EN s o:=rfl
def Abc (p:Bool) (H:Tr Blk) (n:Nat):Option (Tr Blk):=
 match p with
 | false=>some H
 | true=>match n with
  | 0=>none
  | k+1=>H.pop k
noncomputable def Y9 (P:Program) (σ:ES) (o:Op) (dst:Option Nat):Option ES:=
 match Gv P (LY σ) (gE σ) σ.hn σ.cnt o with
 | some (v,p,a,c)=>match Abc p σ.H σ.hn with
  | some H1=>match a with
   | .push b=>match H1.push (M0 p σ.hn) b with
    | some H2=>M1 ⟨σ.T,σ.n,H2,M0 p σ.hn+1,c⟩ dst v
    | none=>none
   | .put id b=>match Tr.setN b H1 id with
    | some H2=>M1 ⟨σ.T,σ.n,H2,M0 p σ.hn,c⟩ dst v
    | none=>none
  | none=>none
 | none=>none
noncomputable def Amu (P:Program) (σ:ES) (o:Op) (dst:Option Nat):Option ES:=
 match Gv P (LY σ) (gE σ) σ.hn σ.cnt o with
 | some (v,false,.push b,c)=>match norefs b.els with
  | true=>M1 ⟨σ.T,σ.n,σ.H,σ.hn,σ.cnt+1⟩ dst (.vw false b.els)
  | false=>none
 | _=>none
noncomputable def Za (E:EE) (σ:ES) (g:Nat) (args:List AV) (dst:Option Nat):Option ES:=
 match E.isP g with
 | true=>match E.pc g (J4 (gE σ) args) with
  | some r=>M1 σ dst r
  | none=>none
 | false=>match E.isV g with
  | true=>match norefs args with
   | true=>match E.vc g args with
    | some r=>M1 σ dst r
    | none=>none
   | false=>none
  | false=>match E.hc g args σ.H σ.hn σ.cnt with
   | some (r,H',n',c')=>M1 ⟨σ.T,σ.n,H',n',c'⟩ dst r
   | none=>none
noncomputable def J5 (P:Program) (E:EE) (σ:ES) (o:Oper) (lt:Bool):Option ES:=
 match Bk o.op with
 | true=>match I3 (LY σ) o.op with
  | some (g,args)=>Za E σ g args o.dst
  | none=>none
 | false=>match isHeapOp o.op with
  | true=>match lt && Cl o.op with
   | true=>Amu P σ o.op o.dst
   | false=>Y9 P σ o.op o.dst
  | false=>match Af7 P (LY σ) (Io (gE σ)) o.op with
   | some v=>M1 σ o.dst v
   | none=>none
noncomputable def gvE (all:Array Oper) (σ:ES) (j:Nat):AV:=
 match (all[j]?).bind (·.dst) with
 | some d=>LY σ (.tmp d)
 | none=>.un
noncomputable def opE (P:Program) (E:EE) (all:Array Oper) (σ:ES) (o:Oper) (lt:Bool):Option ES:=
 match o.guard with
 | none=>J5 P E σ o lt
 | some (j,want)=>match gvE all σ j with
  | .sc (.bool b)=>match b == want with
   | true=>J5 P E σ o false
   | false=>M1 σ o.dst .un
  | .un=>M1 σ o.dst .un
  | _=>none
theorem Arq {p:Bool} {H H1:Tr Blk} {n:Nat} (hf:Tr.Fit H n) (h:Abc p H n=some H1):Tr.Fit H1 (M0 p n)∧H1.toL dead (M0 p n)=Y6 p (H.toL dead n):=by
 cases p with
 | false=>simp only [Abc,lx16] at h; subst h; exact ⟨hf,rfl⟩
 | true=>
  cases n with
  | zero=>simp [Abc] at h
  | succ k=>
   simp only [Abc] at h
   refine ⟨(Tr.pop_ok dead hf h).2,?_⟩
   show H1.toL dead k=(H.toL dead (k+1)).dropLast
   rw [Tr.toL_pop hf h,List.dropLast_eq_take,Tr.toL_len]
   rfl
theorem Amv {P:Program} {σ σ':ES} {o:Op} {dst:Option Nat} (hi:σ.Inv) (h:Y9 P σ o dst=some σ'):σ'.Inv∧Aw P σ.toS o dst=some σ'.toS∧σ'.n=σ.n:=by
 unfold Y9 at h
 split at h
 ·rename_i v p a c hr
  rw [Dc,Af9,←Amt] at hr
  have hs:=Af8 P σ.toS o dst hr
  split at h
  ·rename_i H1 h1
   obtain ⟨f1,f2⟩:=Arq hi h1
   split at h
   ·rename_i b
    split at h
    ·rename_i H2 h2
     obtain ⟨q1,q2,q3,_⟩:=EV (σ:=⟨σ.T,σ.n,H2,M0 p σ.hn+1,c⟩) (Tr.push_ok dead b f1 h2).2 h
     refine ⟨q1,?_,q3⟩
     rw [hs,←q2]
     simp only [Ahx,Ahw]
     congr 2
     show _=(ES.toS _)
     simp only [ES.toS,Tr.toL_push f1 h2,f2]
    ·cases h
   ·rename_i id b
    split at h
    ·rename_i H2 h2
     rw [Tr.setN_eq] at h2
     obtain ⟨q1,q2,q3,_⟩:=EV (σ:=⟨σ.T,σ.n,H2,M0 p σ.hn,c⟩) ((Tr.set_ok dead b h2).2 _ f1) h
     refine ⟨q1,?_,q3⟩
     rw [hs,←q2]
     simp only [Ahx,Ahw]
     congr 2
     show _=(ES.toS _)
     simp only [ES.toS,Tr.toL_set h2,f2]
    ·cases h
  ·cases h
 ·cases h
theorem Arr {P:Program} {σ σ':ES} {o:Op} {dst:Option Nat} (hi:σ.Inv) (h:Amu P σ o dst=some σ'):σ'.Inv∧Ei P σ.toS o dst=some σ'.toS∧σ'.n=σ.n:=by
 unfold Amu at h
 split at h
 ·rename_i v b c hr
  rw [Dc,Af9,←Amt] at hr
  have hs:=Af8 P σ.toS o dst hr
  split at h
  ·rename_i hnr
   obtain ⟨q1,q2,q3,_⟩:=EV (σ:=⟨σ.T,σ.n,σ.H,σ.hn,σ.cnt+1⟩) hi h
   refine ⟨q1,?_,q3⟩
   unfold Ei
   rw [hs]
   have e:(St.put ⟨σ.toS.T,Ahw σ.toS.H false (.push b),c⟩ dst v).H=σ.toS.H++[b]:=by cases dst <;> rfl
   simp only [Ahx,Ah6,e,C9,hnr,lx8]
   rw [←q2]
   rfl
  ·cases h
 ·cases h
def Lc (P:Program) (E:Env) (s:St) (o:Oper) (lt:Bool):Option St:=
 if (lt && Cl o.op)=true then Ei P s o.op o.dst else if AQ E s o.op=true then (Jv P E s o.op).map (s.put o.dst) else Fe P E s o
theorem R5 {o:Op} (h:Cl o=true):isHeapOp o=true∧Bk o=false:=by
 cases o <;> simp_all [Cl,isHeapOp,Bk]
theorem Amw {o:Op} (h:Bk o=true):Cl o=false:=by
 cases hq:Cl o with
 | false=>rfl
 | true=>rw [(R5 hq).2] at h; cases h
theorem R6 {P:Program} {E:EE} (hE:E.Ok) {σ σ':ES} {o:Oper} {lt:Bool} (hi:σ.Inv) (h:J5 P E σ o lt=some σ'):σ'.Inv∧Lc P E.env σ.toS o lt=some σ'.toS∧σ'.n=σ.n:=by
 unfold J5 at h
 unfold Lc
 split at h
 ·rename_i hcall
  rw [Amw hcall,Bool.and_false,if_neg (by decide)]
  split at h
  ·rename_i g args ht
   rw [Dc,LF] at ht
   unfold Za at h
   split at h
   ·rename_i hp
    have hpure:AQ E.env σ.toS o.op=true:=by
     unfold AQ
     rw [hcall,if_pos rfl,ht]
     exact hp
    rw [if_pos hpure]
    split at h
    ·rename_i r hr
     obtain ⟨q1,q2,q3,_⟩:=EV hi h
     refine ⟨q1,?_,q3⟩
     unfold Jv
     rw [hcall,if_pos rfl,ht]
     simp only
     rw [Af9,Ip] at hr
     rw [←F9]
     show Option.map _ (E.pc g (Aj σ.toS.H args))=_
     rw [hr,lx34,q2]
    ·cases h
   ·rename_i hp
    have hpure:¬ AQ E.env σ.toS o.op=true:=by
     unfold AQ
     rw [hcall,if_pos rfl,ht]
     show ¬ E.isP g=true
     rw [hp]; decide
    rw [if_neg hpure]
    split at h
    ·rename_i hv
     split at h
     ·rename_i hnr
      split at h
      ·rename_i r hr
       obtain ⟨q1,q2,q3,_⟩:=EV hi h
       refine ⟨q1,?_,q3⟩
       unfold Fe
       rw [hcall,if_pos rfl,ht]
       simp only
       have e:E.env.hcall g args σ.toS.H σ.toS.cnt=some (r,σ.toS.H,σ.toS.cnt):=by
        show EE.hcall E g args σ.toS.H σ.toS.cnt=_
        unfold EE.hcall
        rw [hv,hnr,hr]
        rfl
       rw [e]
       simp only
       rw [←q2]
      ·cases h
     ·cases h
    ·rename_i hv
     split at h
     ·rename_i r H' n' c' hr
      have hf':Tr.Fit H' n':=hE _ _ _ _ _ _ _ _ _ hi hr
      obtain ⟨q1,q2,q3,_⟩:=EV (σ:=⟨σ.T,σ.n,H',n',c'⟩) hf' h
      refine ⟨q1,?_,q3⟩
      unfold Fe
      rw [hcall,if_pos rfl,ht]
      simp only
      have e:E.env.hcall g args σ.toS.H σ.toS.cnt=some (r,H'.toL dead n',c'):=by
       show EE.hcall E g args σ.toS.H σ.toS.cnt=_
       unfold EE.hcall
       rw [hv]
       simp only
       unfold hcL
       rw [Amt]
       show (match E.hc g args (Tr.ofL dead (σ.H.toL dead σ.hn)) σ.hn σ.cnt with | some (r,H',n',c')=>some (r,H'.toL dead n',c') | none=>none)=_
       rw [Tr.ofL_toL dead hi,hr]
      rw [e]
      simp only
      rw [←q2]
      rfl
     ·cases h
  ·cases h
 ·rename_i hcall
  split at h
  ·rename_i hheap
   have hpure:¬ AQ E.env σ.toS o.op=true:=by
    unfold AQ
    rw [hcall,if_neg (by decide),hheap]; decide
   split at h
   ·rename_i hl
    rw [if_pos hl]
    exact Arr hi h
   ·rename_i hl
    rw [if_neg (by rw [hl]; decide),if_neg hpure]
    obtain ⟨q1,q2,q3⟩:=Amv hi h
    refine ⟨q1,?_,q3⟩
    unfold Fe
    rw [hcall,if_neg (by decide)]
    exact q2
  ·rename_i hheap
   have hl:(lt && Cl o.op)=false:=by
    cases hq:Cl o.op with
    | false=>rw [Bool.and_false]
    | true=>rw [(R5 hq).1] at hheap; cases hheap
   have hpure:AQ E.env σ.toS o.op=true:=by
    unfold AQ
    rw [hcall,if_neg (by decide),hheap]; rfl
   rw [if_neg (by rw [hl]; decide),if_pos hpure]
   split at h
   ·rename_i v hv
    rw [Dc,R4] at hv
    have hv:=R3 hv
    obtain ⟨q1,q2,q3,_⟩:=EV hi h
    refine ⟨q1,?_,q3⟩
    unfold Jv
    rw [hcall,if_neg (by decide),hv,lx34,q2]
   ·cases h
theorem Amx (all:Array Oper) (σ:ES) (j:Nat):gvE all σ j=Ao all σ.toS j:=by
 unfold gvE Ao
 rw [Dc]
 rfl
theorem Amy {P:Program} {E:EE} (hE:E.Ok) {all:Array Oper} {σ σ':ES} {o:Oper} {lt:Bool} (hi:σ.Inv) (h:opE P E all σ o lt=some σ'):
  σ'.Inv∧Fb lt o (Ag P E.env all σ.toS o) (Ei P σ.toS o.op o.dst)=some σ'.toS∧σ'.n=σ.n:=by
 unfold opE at h
 unfold Fb
 split at h
 ·rename_i hg
  obtain ⟨q1,q2,q3⟩:=R6 hE hi h
  refine ⟨q1,?_,q3⟩
  rw [←q2]
  unfold Lc Ag
  simp only [hg,Option.isNone_none,Bool.and_true]
 ·rename_i j want hg
  have hn:(lt && Cl o.op && o.guard.isNone)=false:=by rw [hg]; simp
  rw [hn,if_neg (by decide)]
  rw [Amx] at h
  unfold Ag
  simp only [hg]
  split at h
  ·rename_i b hb
   rw [hb]
   simp only
   split at h
   ·rename_i hbw
    have hbw:b=want:=eq_of_beq hbw
    obtain ⟨q1,q2,q3⟩:=R6 hE hi h
    refine ⟨q1,?_,q3⟩
    rw [←q2]
    unfold Lc
    simp only [Bool.false_and,if_pos hbw]
    rfl
   ·rename_i hbw
    have hbw:¬ b=want:=fun e=>by rw [e] at hbw; simp at hbw
    obtain ⟨q1,q2,q3,_⟩:=EV hi h
    refine ⟨q1,?_,q3⟩
    simp only [if_neg hbw,lx34,q2]
    split <;> rfl
  ·rename_i hb
   rw [hb]
   obtain ⟨q1,q2,q3,_⟩:=EV hi h
   exact ⟨q1,by simp only [q2],q3⟩
  ·cases h
structure PastE where
 at_:Nat
 σ:ES
structure DidE where
 at_:Nat
 o:Oper
 σ:ES
 T':Tr AV
def PastE.toP (p:PastE):Past:=⟨p.at_,p.σ.toS.H,p.σ.cnt⟩
def DidE.toD (d:DidE):Did:=⟨d.at_,d.o,d.σ.toS.T,d.T'.toL .un d.σ.n⟩
def I4 (isP:Nat→Bool) (φ:Operand→AV) (o:Op):Bool:=
 match Bk o with
 | true=>match I3 φ o with
  | some (g,_)=>isP g
  | none=>true
 | false=>!isHeapOp o
theorem R7 (E:EE) (s:St) (o:Op):I4 E.isP (ev s.T) o=AQ E.env s o:=by
 unfold I4 AQ
 rw [LF]
 cases Bk o <;> rfl
def isVE (E:EE) (φ:Operand→AV) (o:Op):Bool:=
 Bk o && match I3 φ o with
 | some (g,_)=>E.vb g
 | none=>false
theorem VY (E:EE) (s:St) (o:Op):isVE E (ev s.T) o=isVop E.vb s o:=by
 unfold isVE isVop
 rw [LF]
 rfl
noncomputable def sameE (P:Program) (E:EE) (all:Array Oper) (o:Oper) (T:Tr AV) (n:Nat) (T':Tr AV) (H:Tr Blk) (hn c:Nat):Bool:=
 match I4 E.isP (LY ⟨T,n,H,hn,c⟩) o.op with
 | true=>match opE P E all ⟨T,n,H,hn,c⟩ o false,o.dst with
  | some σ1,some d=>match Nat.blt d n with
   | true=>NA (σ1.T.get .un d) (T'.get .un d)
   | false=>false
  | some _,none=>true
  | none,_=>false
 | false=>false
theorem Zb {P:Program} {E:EE} (hE:E.Ok) {all:Array Oper} {o:Oper} {T T':Tr AV} {n:Nat} {H:Tr Blk} {hn c:Nat} (hf:Tr.Fit H hn) (h:sameE P E all o T n T' H hn c=true):
  sameB P E.env all o (T.toL .un n) (T'.toL .un n) (H.toL dead hn) c=true:=by
 unfold sameE at h
 unfold sameB
 split at h
 ·rename_i hp
  rw [Dc,R7] at hp
  have hp:AQ E.env ⟨T.toL .un n,H.toL dead hn,c⟩ o.op=true:=hp
  rw [hp,KP]
  split at h
  ·rename_i σ1 d h1 hd
   obtain ⟨q1,q2,q3⟩:=Amy hE (σ:=⟨T,n,H,hn,c⟩) hf h1
   have q2:Ag P E.env all ⟨T.toL .un n,H.toL dead hn,c⟩ o=some σ1.toS:=q2
   have q3:σ1.n=n:=q3
   rw [q2,hd]
   simp only
   split at h
   ·rename_i hb
    rw [blt_eq] at hb
    have hb:d < n:=by simpa using hb
    have e1:σ1.toS.T.getD d .un=σ1.T.get .un d:=by
     simp only [ES.toS,q3,lx81,Tr.toL_get,if_pos hb,lx4]
    have e2:(T'.toL .un n).getD d .un=T'.get .un d:=by
     simp only [lx81,Tr.toL_get,if_pos hb,lx4]
    rw [e1,e2]
    exact h
   ·cases h
  ·rename_i σ1 h1 hd
   obtain ⟨q1,q2,q3⟩:=Amy hE (σ:=⟨T,n,H,hn,c⟩) hf h1
   have q2:Ag P E.env all ⟨T.toL .un n,H.toL dead hn,c⟩ o=some σ1.toS:=q2
   rw [q2,hd]
  ·cases h
 ·cases h
noncomputable def Uw (P:Program) (E:EE) (ops:Array Oper) (i:Nat) (o:Oper) (T:Tr AV) (n:Nat) (T':Tr AV):List PastE→Bool
 | []=>true
 | h::r=>(gB E.hb ops h.at_ i || (isVE E (LY ⟨T,n,.nil,0,0⟩) o.op || sameE P E ops o T n T' h.σ.H h.σ.hn h.σ.cnt)) && Uw P E ops i o T n T' r
noncomputable def Ux (P:Program) (E:EE) (ops:Array Oper) (k:Nat) (H:Tr Blk) (hn c:Nat):List DidE→Bool
 | []=>true
 | d::r=>(gB E.hb ops d.at_ k || (isVE E (LY ⟨d.σ.T,d.σ.n,.nil,0,0⟩) d.o.op || sameE P E ops d.o d.σ.T d.σ.n d.T' H hn c)) && Ux P E ops k H hn c r
noncomputable def Amz (κ:Nat→Bool) (ops:Array Oper) (i:Nat) (σ:ES):Op→Bool
 | .buildSlice ..=>gB κ ops i i || norefs (σ.H.get dead (σ.hn - 1)).els
 | _=>true
theorem Zc {P:Program} {E:EE} (hE:E.Ok) {ops:Array Oper} {i:Nat} {o:Oper} {T T':Tr AV} {n:Nat}:∀ {hs:List PastE},(∀ h ∈ hs,h.σ.Inv)→Uw P E ops i o T n T' hs=true→
  RY P E.env E.vb ops i o (T.toL .un n) (T'.toL .un n) (hs.map PastE.toP)=true
 | [],_,_=>rfl
 | h::r,hi,hb=>by
  simp only [Uw,AH,ID] at hb
  simp only [lx31,RY,AH,ID]
  refine ⟨hb.1.imp id fun q=>q.imp (fun q=>?_) fun q=>?_,Zc hE (fun x hx=>hi x (lx48 _ hx)) hb.2⟩
  ·rw [Dc,VY] at q
   exact q
  ·exact Zb hE (hi h lx47) q
theorem Zd {P:Program} {E:EE} (hE:E.Ok) {ops:Array Oper} {k:Nat} {σ:ES} (hi:σ.Inv):∀ {ds:List DidE},Ux P E ops k σ.H σ.hn σ.cnt ds=true→
  RZ P E.env E.vb ops k σ.toS.H σ.toS.cnt (ds.map DidE.toD)=true
 | [],_=>rfl
 | d::r,hb=>by
  simp only [Ux,AH,ID] at hb
  simp only [lx31,RZ,AH,ID]
  refine ⟨hb.1.imp id fun q=>q.imp (fun q=>?_) fun q=>?_,Zd hE hi hb.2⟩
  ·rw [Dc,VY] at q
   exact q
  ·exact Zb hE hi q
theorem Ze (H:Tr Blk):∀ {n:Nat},0 < n→Cs (H.toL dead n)=(H.get dead (n - 1)).els
 | n+1,_=>by
  have:H.toL dead (n+1)=H.toL dead n++[H.get dead n]:=by
   simp only [Tr.toL,List.range_succ,lx10,lx31,lx46]
  rw [this,C9]
  rfl
noncomputable def Ahy (P:Program) (σ:ES):List ResultVar→Option (List AV)
 | []=>some []
 | .tmp t::r=>match Ahy P σ r with
  | some l=>some (LY σ (.tmp t)::l)
  | none=>none
 | .cell t ty::r=>match Af7 P (LY σ) (Io (gE σ)) (.load ty (.tmp t)) with
  | some v=>match Ahy P σ r with
   | some l=>some (v::l)
   | none=>none
  | none=>none
theorem Qf {P:Program} {σ:ES}:∀ {rs:List ResultVar} {vs:List AV},Ahy P σ rs=some vs→CM P σ.toS rs=some vs
 | [],vs,h=>h
 | .tmp t::r,vs,h=>by
  simp only [Ahy] at h
  split at h
  ·rename_i l hl
   cases h
   simp only [CM,Qf hl,lx34,Dc]
   rfl
  ·cases h
 | .cell t ty::r,vs,h=>by
  simp only [Ahy] at h
  split at h
  ·rename_i v hv
   rw [Dc,R4] at hv
   have hv:=R3 hv
   split at h
   ·rename_i l hl
    cases h
    simp only [CM,hv,Qf hl,lx34]
   ·cases h
  ·cases h
structure TabE where
 ok:Nat→Bool
 isP:Nat→Bool
 hcl:Nat→Bool
 lit:Nat→Bool
 perm:Nat→Nat→Option (List Nat)
 keep:Nat→Bool
 isV:Nat→Bool
 givP:Nat→Bool
 givV:Nat→Bool
 givH:Nat→Bool
 givF:Nat→Bool
noncomputable def NY:Nat→Tr Blk→Nat→Option (Tr Blk × Nat)
 | 0,H,n=>some (H,n)
 | k+1,H,n=>match n with
  | 0=>none
  | m+1=>match H.pop m with
   | some H'=>NY k H' m
   | none=>none
noncomputable def Zf (keep:Bool) (n:Nat):Option (AV × ES)→Option (AV × Tr Blk × Nat × Nat)
 | some (r,σ)=>match keep with
  | true=>some (r,σ.H,σ.hn,σ.cnt)
  | false=>match NY (σ.hn - n) σ.H σ.hn with
   | some (H',n')=>some (r,H',n',σ.cnt)
   | none=>none
 | none=>none
noncomputable def Uy:Option (AV × ES)→Option AV
 | some (r,_)=>match okc r with
  | true=>some r
  | false=>none
 | none=>none
noncomputable def givT (G:Giv) (f:Nat) (args:List AV) (H:Tr Blk) (hn cnt:Nat):Option (AV × Tr Blk × Nat × Nat):=
 match G.h f args (H.toL dead hn) cnt with
 | some (r,H',c')=>some (r,Tr.ofL dead H',H'.length,c')
 | none=>none
def Iq (t:TabE) (p v:Nat→List AV→Option AV) (h:Nat→List AV→Tr Blk→Nat→Nat→Option (AV × Tr Blk × Nat × Nat)) (f:Nat):EE:=⟨t.isP,t.isV,p,v,h,t.lit f,t.perm f,t.hcl⟩
noncomputable def Uz:Option (AV × ES)→Option AV
 | some (r,σ)=>match (dB 60 (σ.H.toL dead σ.hn) r).noref with
  | true=>some (dB 60 (σ.H.toL dead σ.hn) r)
  | false=>none
 | none=>none
def Hi (P:Program) (t:TabE):Prop:=∀ f fn c,t.ok f=true→P.funcs[f]?=some fn→fn.body=some c→
 (fn.name == "runtime.NumGoroutine")=false∧C2 (fun g=>t.hcl g && !t.isP g) (t.perm f) c=true
theorem NZ:∀ {k:Nat} {H H':Tr Blk} {n n':Nat},Tr.Fit H n→NY k H n=some (H',n')→Tr.Fit H' n'∧n'+k=n∧H'.toL dead n'=(H.toL dead n).take n'
 | 0,H,H',n,n',hf,h=>by
  simp only [NY,lx16,lx40] at h
  obtain ⟨rfl,rfl⟩:=h
  exact ⟨hf,rfl,by rw [lx12 (by rw [Tr.toL_len]; exact Av _)]⟩
 | k+1,H,H',n,n',hf,h=>by
  cases n with
  | zero=>simp [NY] at h
  | succ m=>
   simp only [NY] at h
   split at h
   ·rename_i H1 h1
    obtain ⟨f1,f2,f3⟩:=NZ (Tr.pop_ok dead hf h1).2 h
    refine ⟨f1,by omega,?_⟩
    rw [f3,Tr.toL_pop hf h1,List.take_take,L2 (by omega)]
   ·cases h
end Go.SX
