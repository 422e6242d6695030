/-
  Lemmas towards ModesSteps (joined texts: FG).
  Conditions: none.
-/
import Derived.Test.YtdjpkhjaibdogaaGreatL01
import Derived.Test.YtdjpkhjaibdogaaGreatL31
set_option linter.unusedSimpArgs false
set_option linter.unusedVariables false
set_option maxRecDepth 100000
set_option maxHeartbeats 8000000
namespace Go.Proofs.YtdjpkhjaibdogaaGreat
open Go Go.SX
attribute [local congr] ite_congr
def rH (c:Cd) (v:Vn) (m:Ms) (k:Nat) (w u s e:Nat) (E:List AV):List Blk:=
 [⟨true,w,269,19,[.ag [.vw c.zi (c.ins.map B9),.vw c.zs (c.strs.map stA),.vw c.ze (c.ens.map D8),.vw c.zp (c.pri.map (kA .i64)),.vw c.zv (c.vars.map (kA .i64)),kA .i64 c.tim,kA .i64 c.evs,
  .vw v.zv (v.vars.map (kA .i64)),.vw v.zl (v.left.map (kA .i64)),.sc (.int .u64 v.clo),.sc (.int .u32 v.act),kA .i64 v.pl',kA .i64 v.ba,.sl 1 u 0 m.va.length,.sl 2 s 0 m.st.length,.sl 3 e 0 m.ef.length,kA .i64 m.pc,kA .i64 k,bA m.dn]],false⟩,
  ⟨true,u,3,1,m.va.map (kA .i64),false⟩,⟨true,s,3,1,E,false⟩,⟨true,e,73,5,m.ef.map Dd,false⟩]
def TC (c:Cd) (v:Vn) (x:In) (m:Ms) (k:Nat) (w u s e:Nat) (E:List AV) (cnt:Nat):Prop:=
 ∃ s' e' E' cnt',HSpec Tryz.prog 222 [.pt 0 w 0 0] (rH c v m k w u s e E) cnt (.tu []) (rH c v (Av c v x m) (k+1) w u s' e' E') cnt'∧E'.take (Av c v x m).st.length=(Av c v x m).st.map (kA .i64)
theorem rT {P:Prop} (h:P:=by
 refine Ag (Aj (lit:=true) (pm:=fun _=>none) (.cons Bdw (.cons Bdz .nil)) .nil .nil (.cons Bee (.cons Bef (.cons Beg .nil)))) rfl Tryz.func222 rfl (by decide) (by kernel_rfl) ?_
 simp only [Tryz.f222,Af,lx53,lx63,Nat.reduceAdd,Nat.reduceSub,List.replicate]
 simp only [rH,hs]
 refine Aa ?_
 simp (maxSteps:=10000000) +contextual -implicitDefEqProofs only [AY,AW,Au,St.put,Ap,Am,DO,pl,Array.toList,lx6,lx7,↓reduceIte,reduceCtorEq,Nat.reduceAdd,Nat.reduceLeDiff,Nat.reduceEqDiff,Nat.reduceMul,Int.reduceEq,Int.reduceNe,Int.reduceLE,Int.reduceLT,ne_eq,Nat.reduceBEq,Nat.reduceLT,eq_self,CP,lx8,Dc,Pw,Int.reduceToNat,Nat.reduceSub,Int.reduceAdd,Int.reduceMul,Int.reduceSub,CK,E6,hl,Bh,AL,CX,CO,DJ,Bz,Ds,Ca,BJ,DZ,D0,BR,Bb,Dm,Cn,AU,BO,BS,C3,CR,DA,AQ,D1,AR,D2,Dt,Cz,CS,Co,D3,Ey,D4,Cp,Cb,Bk,Hx,D5,D6,Ez,EM,Du,Jy,Jz,Ch,AB,AZ,AM,BU,C4,Ab,Be,DB,norefs,AV.noref,Ct,CN,Int.reduceBNe,Int.reduceBEq,h1,h2,w1,w2,w9,AD,CV,HN,Dr,Ax,q3,Fi,Ji,Rt,lx3,lx11,lx4,lx5,dl1,dl2,hs,Bj6,Bj7,n1,n2,n3,te,i0,i1,i2,i3,z1,x1,si,E28,E28b,lx12,lx2,J5]
 repeat' (first | exact Ad (by kernel_rfl) | refine ⟨Ad (by kernel_rfl),?_⟩ | refine And.intro ?_ ?_ | fail)
 all_goals first | exact .refl _ | exact .inl rfl | exact Df _ _ _ | omega | trivial | rfl | skip
 all_goals done):P:=h
theorem Bjc (c:Cd) (v:Vn) (m:Ms) (x:In) (h:StepQ c v m x) (ho:x.op=1∨x.op=2∨x.op=4∨x.op=5∨x.op=6∨x.op=7∨x.op=8∨x.op=12∨x.op=31) (k:Nat) (hk:k≤100000) (w u s e:Nat) (E:List AV) (hE:E.take m.st.length=m.st.map (kA .i64)) (cnt:Nat):TC c v x m k w u s e E cnt:=by
 obtain ⟨pc,dn,va,st,ef⟩:=m
 obtain ⟨op,a⟩:=x
 obtain ⟨q1,q2,q3,q4,q5,q6,q7,q8,q9,q10,r2,r4,r5,r6,r29,rt⟩:=h
 simp only at ho q1 q2 q3 q4 q5 q6 q7 q8 q9 q10 hE r2 r4 r5 r6 r29 rt
 obtain ⟨p,rfl⟩:=GZ q1
 rw [Hp] at q3
 have h1:decide ((p:Int) < (c.ins.length:Int))=true:=Ae
 have h2:decide (p < c.ins.length)=true:=Ae
 have w1:IntKind.i64.wrap ((p:Int)+1)=(p:Int)+1:=Bd (by omega) (by omega)
 have w9:IntKind.i64.wrap ((k:Int)+1)=((k+1:Nat):Int):=AA
 have i0:=trivial
 obtain ⟨i1,i2,i3,z1,x1,si,E28,E28b,w2⟩:True∧True∧True∧True∧True∧True∧True∧True∧True:=⟨i0,i0,i0,i0,i0,i0,i0,i0,i0⟩
 have te:List.take ef.length (ef.map Dd)=ef.map Dd:=lx118 (by simp)
 obtain ⟨n1,n2,n3⟩:st.length≤100000∧ef.length≤100000∧st.length+1≤100000:=Ah
 rcases ho with rfl | rfl | rfl | rfl | rfl | rfl | rfl | rfl | rfl
 ·have hs:Av c v ⟨1,a⟩ ⟨(p:Int),dn,va,st,ef⟩=⟨(p:Int)+1,dn,va,st++[a],ef⟩:=sS
  exact ⟨cnt+2,e,E.take st.length++[kA .i64 (a)],cnt+3,rT,Iu hs hE⟩
 ·obtain ⟨j1,j2⟩:=r2 (.inl rfl)
  have i0:decide (0≤a)=true:=On
  have i1:decide (a < (va.length:Int))=true:=Oo
  have i2:decide (a.toNat < va.length)=true:=Ae
  have hs:Av c v ⟨2,a⟩ ⟨(p:Int),dn,va,st,ef⟩=⟨(p:Int)+1,dn,va,st++[va.getD a.toNat default],ef⟩:=sS
  exact ⟨cnt+2,e,E.take st.length++[kA .i64 (va.getD a.toNat default)],cnt+3,rT,Iu hs hE⟩
 ·have i1:=r4 rfl
  have i2:=i1.1
  have i3:IntKind.u64.wrap a=a:=Eg (by omega) (by omega)
  have hs:Av c v ⟨4,a⟩ ⟨(p:Int),dn,va,st,ef⟩=⟨(p:Int)+1,dn,va,st++[J5 .u64 v.clo a],ef⟩:=sS
  exact ⟨cnt+2,e,E.take st.length++[kA .i64 (J5 .u64 v.clo a)],cnt+3,rT,Iu hs hE⟩
 ·have i1:=r5 rfl
  have i2:=i1.1
  have i3:IntKind.u64.wrap a=a:=Eg (by omega) (by omega)
  have hs:Av c v ⟨5,a⟩ ⟨(p:Int),dn,va,st,ef⟩=⟨(p:Int)+1,dn,va,st++[J5 .u32 v.act a],ef⟩:=sS
  exact ⟨cnt+2,e,E.take st.length++[kA .i64 (J5 .u32 v.act a)],cnt+3,rT,Iu hs hE⟩
 ·obtain ⟨j1,j2⟩:=r6 rfl
  have i0:decide (0≤a)=true:=On
  have i1:decide (a < (v.left.length:Int))=true:=Oo
  have i2:decide (a.toNat < v.left.length)=true:=Ae
  have hs:Av c v ⟨6,a⟩ ⟨(p:Int),dn,va,st,ef⟩=⟨(p:Int)+1,dn,va,st++[v.left.getD a.toNat default],ef⟩:=sS
  exact ⟨cnt+2,e,E.take st.length++[kA .i64 (v.left.getD a.toNat default)],cnt+3,rT,Iu hs hE⟩
 ·have hs:Av c v ⟨7,a⟩ ⟨(p:Int),dn,va,st,ef⟩=⟨(p:Int)+1,dn,va,st++[v.pl'],ef⟩:=sS
  exact ⟨cnt+2,e,E.take st.length++[kA .i64 (v.pl')],cnt+3,rT,Iu hs hE⟩
 ·have hs:Av c v ⟨8,a⟩ ⟨(p:Int),dn,va,st,ef⟩=⟨(p:Int)+1,dn,va,st++[v.ba],ef⟩:=sS
  exact ⟨cnt+2,e,E.take st.length++[kA .i64 (v.ba)],cnt+3,rT,Iu hs hE⟩
 ·have hs:Av c v ⟨12,a⟩ ⟨(p:Int),dn,va,st,ef⟩=⟨a,dn,va,st,ef⟩:=sS
  exact RW
 ·have hs:Av c v ⟨31,a⟩ ⟨(p:Int),dn,va,st,ef⟩=⟨(p:Int)+1,true,va,st,ef⟩:=sS
  exact RW
theorem Bjd (c:Cd) (v:Vn) (m:Ms) (x:In) (h:StepQ c v m x) (ho:x.op=16∨x.op=17∨x.op=18∨x.op=22∨x.op=23∨x.op=24∨x.op=25∨x.op=26∨x.op=27∨x.op=28∨x.op=30) (k:Nat) (hk:k≤100000) (w u s e:Nat) (E:List AV) (hE:E.take m.st.length=m.st.map (kA .i64)) (cnt:Nat):TC c v x m k w u s e E cnt:=by
 obtain ⟨pc,dn,va,st,ef⟩:=m
 obtain ⟨op,a⟩:=x
 obtain ⟨q1,q2,q3,q4,q5,q6,q7,q8,q9,q10,r2,r4,r5,r6,r29,rt⟩:=h
 simp only at ho q1 q2 q3 q4 q5 q6 q7 q8 q9 q10 hE r2 r4 r5 r6 r29 rt
 obtain ⟨p,rfl⟩:=GZ q1
 rw [Hp] at q3
 have h1:decide ((p:Int) < (c.ins.length:Int))=true:=Ae
 have h2:decide (p < c.ins.length)=true:=Ae
 have w1:IntKind.i64.wrap ((p:Int)+1)=(p:Int)+1:=Bd (by omega) (by omega)
 have w9:IntKind.i64.wrap ((k:Int)+1)=((k+1:Nat):Int):=AA
 have i0:=trivial
 obtain ⟨i1,i2,i3,z1,x1,si,E28,E28b,w2⟩:True∧True∧True∧True∧True∧True∧True∧True∧True:=⟨i0,i0,i0,i0,i0,i0,i0,i0,i0⟩
 have te:List.take ef.length (ef.map Dd)=ef.map Dd:=lx118 (by simp)
 obtain ⟨n1,n2,n3⟩:st.length≤100000∧ef.length≤100000∧st.length+1≤100000:=Ah
 have hs:Av c v ⟨op,a⟩ ⟨(p:Int),dn,va,st,ef⟩=⟨(p:Int)+1,dn,va,st,ef++[⟨op,a,0,0,eB⟩]⟩:=by rcases ho with rfl | rfl | rfl | rfl | rfl | rfl | rfl | rfl | rfl | rfl | rfl <;> exact sS
 refine ⟨s,cnt+3,E,cnt+4,?_,finK hs hE⟩
 rcases ho with rfl | rfl | rfl | rfl | rfl | rfl | rfl | rfl | rfl | rfl | rfl
 all_goals exact rT
theorem Bje (c:Cd) (v:Vn) (m:Ms) (x:In) (h:StepQ c v m x) (ho:x.op=3∨x.op=9∨x.op=10∨x.op=13∨x.op=14∨x.op=29) (k:Nat) (hk:k≤100000) (w u s e:Nat) (E:List AV) (hE:E.take m.st.length=m.st.map (kA .i64)) (cnt:Nat):TC c v x m k w u s e E cnt:=by
 obtain ⟨pc,dn,va,st,ef⟩:=m
 obtain ⟨op,a⟩:=x
 obtain ⟨q1,q2,q3,q4,q5,q6,q7,q8,q9,q10,r2,r4,r5,r6,r29,rt⟩:=h
 simp only at ho q1 q2 q3 q4 q5 q6 q7 q8 q9 q10 hE r2 r4 r5 r6 r29 rt
 obtain ⟨p,rfl⟩:=GZ q1
 rw [Hp] at q3
 have h1:decide ((p:Int) < (c.ins.length:Int))=true:=Ae
 have h2:decide (p < c.ins.length)=true:=Ae
 have w1:IntKind.i64.wrap ((p:Int)+1)=(p:Int)+1:=Bd (by omega) (by omega)
 have w9:IntKind.i64.wrap ((k:Int)+1)=((k+1:Nat):Int):=AA
 have i0:=trivial
 obtain ⟨i1,i2,i3,z1,x1,si,E28,E28b,w2⟩:True∧True∧True∧True∧True∧True∧True∧True∧True:=⟨i0,i0,i0,i0,i0,i0,i0,i0,i0⟩
 have q5:1≤st.length:=by rcases ho with rfl | rfl | rfl | rfl | rfl | rfl <;> exact q5
 obtain ⟨st,t,rfl⟩:=IG q5
 obtain ⟨hg,hE⟩:=Hb hE
 rw [lx5,lx53,lx63] at q6
 have E28:=fun c0 c1 c2 c3 c4 c5 c6 c7 c8 c9 c10 c11 c12 c13 c14 c15 c16 B1 R w ev B3 s f cnt=>Ap2 c0 c1 c2 c3 c4 c5 c6 c7 c8 c9 c10 c11 c12 c13 c14 c15 c16 B1 R w ev B3 s st.length E f t cnt (by omega) hg
 have te:List.take ef.length (ef.map Dd)=ef.map Dd:=lx118 (by simp)
 obtain ⟨n1,n2,n3⟩:st.length≤100000∧ef.length≤100000∧st.length+1≤100000:=Ah
 rcases ho with rfl | rfl | rfl | rfl | rfl | rfl
 ·obtain ⟨j1,j2⟩:=r2 (.inr rfl)
  have i0:decide (0≤a)=true:=On
  have i1:decide (a < (va.length:Int))=true:=Oo
  have i2:decide (a.toNat < va.length)=true:=Ae
  have si:(va.map (kA .i64)).set a.toNat (.sc (.int .i64 t))=(va.set a.toNat t).map (kA .i64):=RZ
  have hs:Av c v ⟨3,a⟩ ⟨(p:Int),dn,va,st++[t],ef⟩=⟨(p:Int)+1,dn,va.set a.toNat t,st,ef⟩:=sS
  exact RW
 ·have x1:=Aon 10 t
  have hs:Av c v ⟨9,a⟩ ⟨(p:Int),dn,va,st++[t],ef⟩=⟨(p:Int)+1,dn,va,st++[Rp 10 t],ef⟩:=sS
  exact ⟨cnt+2,e,E.take st.length++[kA .i64 (Rp 10 t)],cnt+3,rT,Iu hs hE⟩
 ·have x1:=Aon 11 t
  have hs:Av c v ⟨10,a⟩ ⟨(p:Int),dn,va,st++[t],ef⟩=⟨(p:Int)+1,dn,va,st++[Rp 11 t],ef⟩:=sS
  exact ⟨cnt+2,e,E.take st.length++[kA .i64 (Rp 11 t)],cnt+3,rT,Iu hs hE⟩
 ·by_cases hz:t=0
  ·have z1:(t == 0)=true:=by rw [lx85]; exact hz
   have hs:Av c v ⟨13,a⟩ ⟨(p:Int),dn,va,st++[t],ef⟩=⟨a,dn,va,st,ef⟩:=sZ
   exact RW
  ·have z1:(t == 0)=false:=by rw [lx113]; exact hz
   have hs:Av c v ⟨13,a⟩ ⟨(p:Int),dn,va,st++[t],ef⟩=⟨(p:Int)+1,dn,va,st,ef⟩:=sZ
   exact RW
 ·by_cases hz:t≤0
  ·have z1:decide (t≤0)=true:=by rw [AN]; exact hz
   have hs:Av c v ⟨14,a⟩ ⟨(p:Int),dn,va,st++[t],ef⟩=⟨a,dn,va,st,ef⟩:=sZ
   exact RW
  ·have z1:decide (t≤0)=false:=by rw [BT]; exact hz
   have hb:=rt (by simp)
   rw [Lb] at hb
   have w2:IntKind.i64.wrap (t - 1)=t - 1:=Bd (by omega) (by omega)
   have hs:Av c v ⟨14,a⟩ ⟨(p:Int),dn,va,st++[t],ef⟩=⟨(p:Int)+1,dn,va,st++[t - 1],ef⟩:=sZ
   exact ⟨cnt+2,e,E.take st.length++[kA .i64 (t - 1)],cnt+3,rT,Iu hs hE⟩
 ·obtain ⟨j1,j2⟩:=r29 rfl
  have i0:decide (0≤a)=true:=On
  have i1:decide (a < (c.strs.length:Int))=true:=Oo
  have i2:decide (a.toNat < c.strs.length)=true:=Ae
  have z1:decide ((ef.length+1) * 48≤140737488355328)=true:=Ae
  have hs:Av c v ⟨29,a⟩ ⟨(p:Int),dn,va,st++[t],ef⟩=⟨(p:Int)+1,dn,va,st,ef++[⟨29,0,t,0,c.strs.getD a.toNat default⟩]⟩:=sS
  exact ⟨s,cnt+3,E,cnt+4,rT,finK hs hE⟩
theorem Bjf (c:Cd) (v:Vn) (m:Ms) (x:In) (h:StepQ c v m x) (ho:x.op=15∨x.op=19∨x.op=21) (k:Nat) (hk:k≤100000) (w u s e:Nat) (E:List AV) (hE:E.take m.st.length=m.st.map (kA .i64)) (cnt:Nat):TC c v x m k w u s e E cnt:=by
 obtain ⟨pc,dn,va,st,ef⟩:=m
 obtain ⟨op,a⟩:=x
 obtain ⟨q1,q2,q3,q4,q5,q6,q7,q8,q9,q10,r2,r4,r5,r6,r29,rt⟩:=h
 simp only at ho q1 q2 q3 q4 q5 q6 q7 q8 q9 q10 hE r2 r4 r5 r6 r29 rt
 obtain ⟨p,rfl⟩:=GZ q1
 rw [Hp] at q3
 have h1:decide ((p:Int) < (c.ins.length:Int))=true:=Ae
 have h2:decide (p < c.ins.length)=true:=Ae
 have w1:IntKind.i64.wrap ((p:Int)+1)=(p:Int)+1:=Bd (by omega) (by omega)
 have w9:IntKind.i64.wrap ((k:Int)+1)=((k+1:Nat):Int):=AA
 have i0:=trivial
 obtain ⟨i1,i2,i3,z1,x1,si,E28,E28b,w2⟩:True∧True∧True∧True∧True∧True∧True∧True∧True:=⟨i0,i0,i0,i0,i0,i0,i0,i0,i0⟩
 have q5:1≤st.length:=by rcases ho with rfl | rfl | rfl <;> exact q5
 obtain ⟨st,t,rfl⟩:=IG q5
 obtain ⟨hg,hE⟩:=Hb hE
 rw [lx5,lx53,lx63] at q6
 have E28:=fun c0 c1 c2 c3 c4 c5 c6 c7 c8 c9 c10 c11 c12 c13 c14 c15 c16 B1 R w ev B3 s f cnt=>Ap2 c0 c1 c2 c3 c4 c5 c6 c7 c8 c9 c10 c11 c12 c13 c14 c15 c16 B1 R w ev B3 s st.length E f t cnt (by omega) hg
 have te:List.take ef.length (ef.map Dd)=ef.map Dd:=lx118 (by simp)
 obtain ⟨n1,n2,n3⟩:st.length≤100000∧ef.length≤100000∧st.length+1≤100000:=Ah
 have hs:Av c v ⟨op,a⟩ ⟨(p:Int),dn,va,st++[t],ef⟩=⟨(p:Int)+1,dn,va,st,ef++[⟨op,a,t,0,eB⟩]⟩:=by rcases ho with rfl | rfl | rfl <;> exact sS
 refine ⟨s,cnt+3,E,cnt+4,?_,finK hs hE⟩
 rcases ho with rfl | rfl | rfl
 all_goals exact rT
theorem Bjg (c:Cd) (v:Vn) (m:Ms) (x:In) (h:StepQ c v m x) (ho:x.op=11∨x.op=20) (k:Nat) (hk:k≤100000) (w u s e:Nat) (E:List AV) (hE:E.take m.st.length=m.st.map (kA .i64)) (cnt:Nat):TC c v x m k w u s e E cnt:=by
 obtain ⟨pc,dn,va,st,ef⟩:=m
 obtain ⟨op,a⟩:=x
 obtain ⟨q1,q2,q3,q4,q5,q6,q7,q8,q9,q10,r2,r4,r5,r6,r29,rt⟩:=h
 simp only at ho q1 q2 q3 q4 q5 q6 q7 q8 q9 q10 hE r2 r4 r5 r6 r29 rt
 obtain ⟨p,rfl⟩:=GZ q1
 rw [Hp] at q3
 have h1:decide ((p:Int) < (c.ins.length:Int))=true:=Ae
 have h2:decide (p < c.ins.length)=true:=Ae
 have w1:IntKind.i64.wrap ((p:Int)+1)=(p:Int)+1:=Bd (by omega) (by omega)
 have w9:IntKind.i64.wrap ((k:Int)+1)=((k+1:Nat):Int):=AA
 have i0:=trivial
 obtain ⟨i1,i2,i3,z1,x1,si,E28,E28b,w2⟩:True∧True∧True∧True∧True∧True∧True∧True∧True:=⟨i0,i0,i0,i0,i0,i0,i0,i0,i0⟩
 have q5:2≤st.length:=by rcases ho with rfl | rfl <;> exact q5
 obtain ⟨st,t,rfl⟩:=IG (st:=st) (by omega)
 obtain ⟨hg,hE⟩:=Hb hE
 rw [lx5,lx53,lx63] at q5 q6
 obtain ⟨st,t2,rfl⟩:=IG (st:=st) (by omega)
 obtain ⟨hg2,hE⟩:=Hb hE
 rw [lx5,lx53,lx63] at q5 q6 hg
 have E28:=fun c0 c1 c2 c3 c4 c5 c6 c7 c8 c9 c10 c11 c12 c13 c14 c15 c16 B1 R w ev B3 s f cnt=>Ap2 c0 c1 c2 c3 c4 c5 c6 c7 c8 c9 c10 c11 c12 c13 c14 c15 c16 B1 R w ev B3 s (st.length+1) E f t cnt (by omega) hg
 have E28b:=fun c0 c1 c2 c3 c4 c5 c6 c7 c8 c9 c10 c11 c12 c13 c14 c15 c16 B1 R w ev B3 s f cnt=>Ap2 c0 c1 c2 c3 c4 c5 c6 c7 c8 c9 c10 c11 c12 c13 c14 c15 c16 B1 R w ev B3 s st.length E f t2 cnt (by omega) hg2
 have te:List.take ef.length (ef.map Dd)=ef.map Dd:=lx118 (by simp)
 obtain ⟨n1,n2,n3⟩:st.length≤100000∧ef.length≤100000∧st.length+1≤100000:=Ah
 rcases ho with rfl | rfl
 ·have x1:=Bdx a t2 t
  have hs:Av c v ⟨11,a⟩ ⟨(p:Int),dn,va,st++[t2]++[t],ef⟩=⟨(p:Int)+1,dn,va,st++[CL a t2 t],ef⟩:=sS
  exact ⟨cnt+2,e,E.take st.length++[kA .i64 (CL a t2 t)],cnt+3,rT,Iu hs hE⟩
 ·have hs:Av c v ⟨20,a⟩ ⟨(p:Int),dn,va,st++[t2]++[t],ef⟩=⟨(p:Int)+1,dn,va,st,ef++[⟨20,a,t2,t,eB⟩]⟩:=sS
  exact ⟨s,cnt+3,E,cnt+4,rT,finK hs hE⟩
theorem Afi (c:Cd) (v:Vn) (m:Ms) (x:In) (h:StepQ c v m x) (ho:opI x.op) (k:Nat) (hk:k≤100000) (w u s e:Nat) (E:List AV) (hE:E.take m.st.length=m.st.map (kA .i64)) (cnt:Nat):TC c v x m k w u s e E cnt:=by
 have:(x.op=1∨x.op=2∨x.op=4∨x.op=5∨x.op=6∨x.op=7∨x.op=8∨x.op=12∨x.op=31)∨(x.op=16∨x.op=17∨x.op=18∨x.op=22∨x.op=23∨x.op=24∨x.op=25∨x.op=26∨x.op=27∨x.op=28∨x.op=30)∨(x.op=3∨x.op=9∨x.op=10∨x.op=13∨x.op=14∨x.op=29)∨(x.op=15∨x.op=19∨x.op=21)∨(x.op=11∨x.op=20):=by unfold opI at ho; omega
 rcases this with o | o | o | o | o
 ·exact Bjc c v m x h o k hk w u s e E hE cnt
 ·exact Bjd c v m x h o k hk w u s e E hE cnt
 ·exact Bje c v m x h o k hk w u s e E hE cnt
 ·exact Bjf c v m x h o k hk w u s e E hE cnt
 ·exact Bjg c v m x h o k hk w u s e E hE cnt
end Go.Proofs.YtdjpkhjaibdogaaGreat
