/-
  Lemmas towards ModesPriority (joined texts: FX, PZ).
  Conditions: none.
-/
import Derived.Test.YtdjpkhjaibdogaaGreatL47
import Derived.Test.YtdjpkhjaibdogaaGreatL01
import Derived.Test.YtdjpkhjaibdogaaGreatL43
set_option linter.unusedSimpArgs false
set_option linter.unusedVariables false
set_option maxRecDepth 100000
set_option maxHeartbeats 8000000
namespace Go.Proofs.YtdjpkhjaibdogaaGreat
open Go Go.SX
attribute [local congr] ite_congr
def rs0:Rs:=⟨true,[],true,[],0,true,[],0⟩
noncomputable def Oq (c:Cd) (s:Rs) (ev:Ev) (x:Cx):Ru × Int:=
 if Ca c s=false then (⟨rs0,[],[]⟩,1) else if KT x=false then (⟨rs0,[],[]⟩,5) else if evB c ev=false then (⟨rs0,[],[]⟩,55) else (IC c x ev ⟨s,[],[]⟩,0)
def WA (p:Ru × Int):AV:=.tu [.ag [.vw false (p.1.s.vars.map (kA .i64)),.vw false (p.1.s.left.map (kA .i64)),.sc (.int .u32 p.1.s.act),.vw false (p.1.s.lamps.map B6),kA .i64 p.1.s.fau],.vw false (p.1.ef.map EJ),.vw false (p.1.po.map Hq),kA .i64 p.2]
theorem SL (p:Ru × Int):(WA p).noref=true:=by simp [WA,kA,AV.noref,norefs]
end Go.Proofs.YtdjpkhjaibdogaaGreat
namespace Go.Proofs.YtdjpkhjaibdogaaGreat
open Go Go.SX
theorem Aps {ms:List Mo} {j:Nat} (hj:j < ms.length):Eg (AG ms) (j:Int) 6 0=some (JC ms j):=by
 have g:∀ j,j < ms.length→(AG ms).ens.getD j default=JC ms j:=fun j hj=>by
  rw [AG,lx81,lx23,SS hj]; rfl
 have hl:(AG ms).ens.length=ms.length:=by simp [AG]
 rw [Eg,Agf (r:=j) (by omega) (by rw [g j hj]; simp [Ac2,JC]) (fun i hi=>by rw [g i (by omega)]; simp [Ac2,JC]; omega),g j hj]
theorem Au8 {ms:List Mo} {j:Nat} (hj:j < ms.length) (v:Vn):∃ n,Hn (AG ms) v (NB ms j:Int)=some (v.vars,WK (ms.getD j default),n):=by
 have h:=Aov hj v v.vars
 have e:L0 v (NB ms j:Int)=⟨(NB ms j:Int),false,v.vars,[],[]⟩:=rfl
 rw [Hn,e]
 have hle:∀ m,(WK m).length≤256:=fun m=>by cases hc:m.c <;> simp [WK,hc]
 obtain ⟨N,hN⟩:∃ N,(C1 (AG ms) v 1000 ⟨(NB ms j:Int),false,v.vars,[],[]⟩).2=N:=⟨_,rfl⟩
 rw [h,hN]
 rw [if_pos ⟨rfl,hle _⟩]
 exact ⟨N,rfl⟩
theorem Au9 (m:Mo):(WK m).any (fun f=>f.k == 30)=m.c:=by cases hc:m.c <;> simp [WK,hc]
theorem Aua (x:Cx) (i:Int) (m:Mo) (r:Ru):appL x i (WK m) r=r:=by
 cases hc:m.c <;> simp [WK,hc,appL,CO]
theorem Aub {ms:List Mo} {j:Nat} (hj:j < ms.length) (x:Cx) (r:Ru):DX (AG ms) x (j:Int) ⟨6,0,-1⟩ r=(Po (WK (ms.getD j default)) (JD r.s.vars r),(ms.getD j default).c):=by
 obtain ⟨n,hn⟩:=Au8 hj (DR r.s x)
 rw [DX]
 simp only [Aps hj]
 rw [show (JC ms j).pc=(NB ms j:Int) from rfl,hn,Pp,Aua,Au9]
 rfl
def Nv (ms:List Mo) (a0:Int):List Nat→List Ef
 | []=>[]
 | m::l=>if B7 a0 m=true then WK (ms.getD m default)++(if (ms.getD m default).c=true then [] else Nv ms a0 l) else Nv ms a0 l
theorem Agx {ms:List Mo} (x:Cx) (a0:Int):∀ (l:List Nat) (r:Ru),(∀ j ∈ l,j < ms.length)→r.s.act=a0→(KU (AG ms) x ⟨6,0,-1⟩ a0 l r).ef=r.ef++Nv ms a0 l
 | [],r,_,_=>by simp [KU,Nv]
 | m::l,r,hl,ha=>by
  have hm:=hl m lx47
  have ih:=fun r h=>Agx (ms:=ms) x a0 l r (fun j hj=>hl j (lx48 _ hj)) h
  rw [KU,Nv]
  by_cases h1:B7 a0 m=true
  ·have e:NC (AG ms) x ⟨6,0,-1⟩ a0 r m=(Po (WK (ms.getD m default)) (JD r.s.vars r),(ms.getD m default).c):=by
    rw [NC,if_pos ⟨h1,by rw [ha]; exact h1⟩,Aub hm]
   rw [e,if_pos h1]
   cases hc:(ms.getD m default).c with
   | true=>simp [Po,JD]
   | false=>
    simp only [DD,lx9]
    rw [ih (Po (WK (ms.getD m default)) (JD r.s.vars r)) ha]
    simp [Po,JD]
  ·have e:NC (AG ms) x ⟨6,0,-1⟩ a0 r m=(r,false):=by rw [NC,if_neg fun h=>h1 h.1]
   rw [e,if_neg h1]
   simp only [DD,lx9]
   exact ih r ha
def Nw (z1 z2 z3:Bool) (a:Nat):Rs:=⟨z1,[],z2,[],(a:Int),z3,[],0⟩
theorem Aj5 {ms:List Mo} (h:ms.length≤16) (hq:∀ m ∈ ms,MoR m) {z1 z2 z3:Bool} {a:Nat} (ha:a < 2 ^ ms.length):Ca (AG ms) (Nw z1 z2 z3 a)=true:=by
 have hv:=KK ms h hq
 have hp:(AG ms).pri.length=ms.length:=by simp [AG]
 have hsh:GD .u32 (a:Int) ((AG ms).pri.length:Int)=0:=by rw [hp]; exact UU h ha
 have e:H4 (AG ms) (DR (Nw z1 z2 z3 a) Wk)=true:=by
  simp only [H4,DR,Nw,hv,hsh]
  rfl
 rw [Ca,e]
 simp [Nw]
theorem Auc {ms:List Mo} (h:ms.length≤16) (hq:∀ m ∈ ms,MoR m) {z1 z2 z3:Bool} {a:Nat} (ha:a < 2 ^ ms.length):(Oq (AG ms) (Nw z1 z2 z3 a) ⟨6,0,-1⟩ Wk).2=0∧(Oq (AG ms) (Nw z1 z2 z3 a) ⟨6,0,-1⟩ Wk).1.ef=Nv ms a (Ht (AG ms)):=by
 have hp:(AG ms).pri.length=ms.length:=by simp [AG]
 have hv:=KK ms h hq
 have hev:evB (AG ms) ⟨6,0,-1⟩=true:=by simp [evB,HY,hp]; omega
 have hx:KT Wk=true:=by simp [KT,Wk]
 have e:Oq (AG ms) (Nw z1 z2 z3 a) ⟨6,0,-1⟩ Wk=(IC (AG ms) Wk ⟨6,0,-1⟩ ⟨Nw z1 z2 z3 a,[],[]⟩,0):=by
  rw [Oq,if_neg (by rw [Aj5 h hq ha]; simp),if_neg (by rw [hx]; simp),if_neg (by rw [hev]; simp)]
 have hm:¬ (0:Int)≤(⟨6,0,-1⟩:Ev).mo:=by decide
 rw [e]
 refine ⟨rfl,?_⟩
 have e2:=Agx (ms:=ms) Wk (a:Int) (Ht (AG ms)) ⟨Nw z1 z2 z3 a,[],[]⟩ (fun j hj=>by have:=Ag1 hv hj; omega) rfl
 have e3:IC (AG ms) Wk ⟨6,0,-1⟩ ⟨Nw z1 z2 z3 a,[],[]⟩=KU (AG ms) Wk ⟨6,0,-1⟩ (a:Int) (Ht (AG ms)) ⟨Nw z1 z2 z3 a,[],[]⟩:=by
  rw [IC,if_neg hm]; rfl
 have e4:([]:List Ef)++Nv ms a (Ht (AG ms))=Nv ms a (Ht (AG ms)):=lx64 _
 exact (congrArg Ru.ef e3).trans (e2.trans e4)
def Nz (K:Nat→Int) (n p m:Nat):List Nat:=((List.range n).drop m).filter (fun i=>K i == (p:Int))++dwnL K n p
where
 dwnL (K:Nat→Int) (n:Nat):Nat→List Nat
 | 0=>[]
 | p+1=>(List.range n).filter (fun i=>K i == (p:Int))++dwnL K n p
theorem Aj6 {K:Nat→Int} {n p m:Nat} (hm:m < n):Nz K n p m=if K m=p then m::Nz K n p (m+1) else Nz K n p (m+1):=by
 rw [Nz,Nz]
 have e:(List.range n).drop m=m::(List.range n).drop (m+1):=by
  rw [lx76 (by simpa using hm)]; simp
 rw [e,List.filter_cons]
 by_cases h:K m=p
 ·simp [h]
 ·simp [h]
theorem Apt {c:Cd} (h:∀ i,i < c.pri.length→Gh c i≤7):Ht c=Nz (Gh c) c.pri.length 7 0:=by
 have h0:∀ q,q≤92→UN (Gh c) c.pri.length q=[]:=by
  intro q
  induction q with
  | zero=>intro _; rfl
  | succ q ih=>
   intro hq
   rw [UN,ih (by omega),lx64,List.filter_eq_nil_iff]
   intro i hi
   have:=h i (Hr.1 hi)
   simp; omega
 obtain ⟨N,hN⟩:∃ N:Nat,N=92:=⟨_,rfl⟩
 have e:UN (Gh c) c.pri.length 100=UN (Gh c) c.pri.length (N+8):=by rw [hN]
 have hk:∀ q p:Nat,q+p=99→(fun i=>Gh c i == 99 - (q:Int))=fun i=>Gh c i == (p:Int):=fun q p h=>by
  funext i
  rw [show (99:Int) - (q:Int)=(p:Int) by omega]
 rw [Ht,e]
 simp only [UN,h0 N (by omega),lx64,Nz,Nz.dwnL,lx72,lx6,lx66]
 rw [hk (N+7) 0 (by omega),hk (N+6) 1 (by omega),hk (N+5) 2 (by omega),hk (N+4) 3 (by omega),hk (N+3) 4 (by omega),hk (N+2) 5 (by omega),hk (N+1) 6 (by omega),hk N 7 (by omega)]
end Go.Proofs.YtdjpkhjaibdogaaGreat
