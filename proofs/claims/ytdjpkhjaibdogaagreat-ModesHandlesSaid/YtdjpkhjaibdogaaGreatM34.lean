/-
  Lemmas towards ModesHandles (joined texts: FG).
  Conditions: none.
-/
import Derived.Test.YtdjpkhjaibdogaaGreatM01
import Derived.Test.YtdjpkhjaibdogaaGreatM31
set_option linter.unusedSimpArgs false
set_option linter.unusedVariables false
set_option maxRecDepth 100000
set_option maxHeartbeats 8000000
namespace Go.Proofs.YtdjpkhjaibdogaaGreat
open Go Go.SX
attribute [local congr] ite_congr
def rH (c:Cd) (v:Vn) (m:Ms) (k:Nat) (w u s e:Nat) (E:List AV):List Blk:=
 [⟨true,w,269,19,[.ag [.vw c.zi (c.ins.map BY),.vw c.zs (c.strs.map stA),.vw c.ze (c.ens.map D3),.vw c.zp (c.pri.map (kA .i64)),.vw c.zv (c.vars.map (kA .i64)),kA .i64 c.tim,kA .i64 c.evs,
  .vw v.zv (v.vars.map (kA .i64)),.vw v.zl (v.left.map (kA .i64)),.sc (.int .u64 v.clo),.sc (.int .u32 v.act),kA .i64 v.pl',kA .i64 v.ba,.sl 1 u 0 m.va.length,.sl 2 s 0 m.st.length,.sl 3 e 0 m.ef.length,kA .i64 m.pc,kA .i64 k,bA m.dn]],false⟩,
  ⟨true,u,3,1,m.va.map (kA .i64),false⟩,⟨true,s,3,1,E,false⟩,⟨true,e,73,5,m.ef.map C6,false⟩]
def SV (c:Cd) (v:Vn) (x:In) (m:Ms) (k:Nat) (w u s e:Nat) (E:List AV) (cnt:Nat):Prop:=
 ∃ s' e' E' cnt',HSpec Tryz.prog 222 [.pt 0 w 0 0] (rH c v m k w u s e E) cnt (.tu []) (rH c v (Au c v x m) (k+1) w u s' e' E') cnt'∧E'.take (Au c v x m).st.length=(Au c v x m).st.map (kA .i64)
theorem rT {P:Prop} (h:P:=by
 refine Ag (Aj (lit:=true) (pm:=fun _=>none) (.cons Bbb (.cons Bbe .nil)) .nil .nil (.cons Bbq (.cons Bbr (.cons Bbs .nil)))) rfl Tryz.func222 rfl (by decide) (by kernel_rfl) ?_
 simp only [Tryz.f222,Af,lx53,lx63,Nat.reduceAdd,Nat.reduceSub,List.replicate]
 simp only [rH,hs]
 refine Ab ?_
 simp (maxSteps:=10000000) +contextual -implicitDefEqProofs only [AX,AW,Ap,St.put,Ao,Al,DN,pl,Array.toList,lx6,lx7,↓reduceIte,reduceCtorEq,Nat.reduceAdd,Nat.reduceLeDiff,Nat.reduceEqDiff,Nat.reduceMul,Int.reduceEq,Int.reduceNe,Int.reduceLE,Int.reduceLT,ne_eq,Nat.reduceBEq,Nat.reduceLT,eq_self,CK,lx8,Dd,OI,Int.reduceToNat,Nat.reduceSub,Int.reduceAdd,Int.reduceMul,Int.reduceSub,CO,E5,hl,Co,BU,Df,CJ,DD,Cu,Dn,Cw,Cm,DQ,DR,Bu,B7,CR,Cg,AS,Bs,BX,CY,CM,Dw,Bh,DU,Bk,DV,Dp,Cv,CN,Ch,DW,Es,DY,Ci,BZ,Cp,Hg,DZ,D0,Et,Eu,Dq,Jb,Jc,Ca,AA,AY,AK,Bw,CZ,Aa,AN,Dx,norefs,AV.noref,Cn,CI,Int.reduceBNe,Int.reduceBEq,h1,h2,w1,w2,w9,AB,Dl,Ho,Dm,Ax,q3,Fw,IV,QT,lx3,lx11,lx4,lx5,dl1,dl2,hs,Bgk,Bgl,n1,n2,n3,te,i0,i1,i2,i3,z1,x1,si,E28,E28b,lx12,lx2,JI]
 repeat' (first | exact Ac (by kernel_rfl) | refine ⟨Ac (by kernel_rfl),?_⟩ | refine And.intro ?_ ?_ | fail)
 all_goals first | exact .refl _ | exact .inl rfl | exact C8 _ _ _ | omega | trivial | rfl | skip
 all_goals done):P:=h
theorem Bgq (c:Cd) (v:Vn) (m:Ms) (x:In) (h:StepQ c v m x) (ho:x.op=1∨x.op=2∨x.op=4∨x.op=5∨x.op=6∨x.op=7∨x.op=8∨x.op=12∨x.op=31) (k:Nat) (hk:k≤100000) (w u s e:Nat) (E:List AV) (hE:E.take m.st.length=m.st.map (kA .i64)) (cnt:Nat):SV c v x m k w u s e E cnt:=by
 obtain ⟨pc,dn,va,st,ef⟩:=m
 obtain ⟨op,a⟩:=x
 obtain ⟨q1,q2,q3,q4,q5,q6,q7,q8,q9,q10,r2,r4,r5,r6,r29,rt⟩:=h
 simp only at ho q1 q2 q3 q4 q5 q6 q7 q8 q9 q10 hE r2 r4 r5 r6 r29 rt
 obtain ⟨p,rfl⟩:=Gu q1
 rw [Ha] at q3
 have h1:decide ((p:Int) < (c.ins.length:Int))=true:=Ae
 have h2:decide (p < c.ins.length)=true:=Ae
 have w1:IntKind.i64.wrap ((p:Int)+1)=(p:Int)+1:=Ba (by omega) (by omega)
 have w9:IntKind.i64.wrap ((k:Int)+1)=((k+1:Nat):Int):=Ay
 have i0:=trivial
 obtain ⟨i1,i2,i3,z1,x1,si,E28,E28b,w2⟩:True∧True∧True∧True∧True∧True∧True∧True∧True:=⟨i0,i0,i0,i0,i0,i0,i0,i0,i0⟩
 have te:List.take ef.length (ef.map C6)=ef.map C6:=lx118 (by simp)
 obtain ⟨n1,n2,n3⟩:st.length≤100000∧ef.length≤100000∧st.length+1≤100000:=Ai
 rcases ho with rfl | rfl | rfl | rfl | rfl | rfl | rfl | rfl | rfl
 ·have hs:Au c v ⟨1,a⟩ ⟨(p:Int),dn,va,st,ef⟩=⟨(p:Int)+1,dn,va,st++[a],ef⟩:=sS
  exact ⟨cnt+2,e,E.take st.length++[kA .i64 (a)],cnt+3,rT,HX hs hE⟩
 ·obtain ⟨j1,j2⟩:=r2 (.inl rfl)
  have i0:decide (0≤a)=true:=NA
  have i1:decide (a < (va.length:Int))=true:=NB
  have i2:decide (a.toNat < va.length)=true:=Ae
  have hs:Au c v ⟨2,a⟩ ⟨(p:Int),dn,va,st,ef⟩=⟨(p:Int)+1,dn,va,st++[va.getD a.toNat default],ef⟩:=sS
  exact ⟨cnt+2,e,E.take st.length++[kA .i64 (va.getD a.toNat default)],cnt+3,rT,HX hs hE⟩
 ·have i1:=r4 rfl
  have i2:=i1.1
  have i3:IntKind.u64.wrap a=a:=D6 (by omega) (by omega)
  have hs:Au c v ⟨4,a⟩ ⟨(p:Int),dn,va,st,ef⟩=⟨(p:Int)+1,dn,va,st++[JI .u64 v.clo a],ef⟩:=sS
  exact ⟨cnt+2,e,E.take st.length++[kA .i64 (JI .u64 v.clo a)],cnt+3,rT,HX hs hE⟩
 ·have i1:=r5 rfl
  have i2:=i1.1
  have i3:IntKind.u64.wrap a=a:=D6 (by omega) (by omega)
  have hs:Au c v ⟨5,a⟩ ⟨(p:Int),dn,va,st,ef⟩=⟨(p:Int)+1,dn,va,st++[JI .u32 v.act a],ef⟩:=sS
  exact ⟨cnt+2,e,E.take st.length++[kA .i64 (JI .u32 v.act a)],cnt+3,rT,HX hs hE⟩
 ·obtain ⟨j1,j2⟩:=r6 rfl
  have i0:decide (0≤a)=true:=NA
  have i1:decide (a < (v.left.length:Int))=true:=NB
  have i2:decide (a.toNat < v.left.length)=true:=Ae
  have hs:Au c v ⟨6,a⟩ ⟨(p:Int),dn,va,st,ef⟩=⟨(p:Int)+1,dn,va,st++[v.left.getD a.toNat default],ef⟩:=sS
  exact ⟨cnt+2,e,E.take st.length++[kA .i64 (v.left.getD a.toNat default)],cnt+3,rT,HX hs hE⟩
 ·have hs:Au c v ⟨7,a⟩ ⟨(p:Int),dn,va,st,ef⟩=⟨(p:Int)+1,dn,va,st++[v.pl'],ef⟩:=sS
  exact ⟨cnt+2,e,E.take st.length++[kA .i64 (v.pl')],cnt+3,rT,HX hs hE⟩
 ·have hs:Au c v ⟨8,a⟩ ⟨(p:Int),dn,va,st,ef⟩=⟨(p:Int)+1,dn,va,st++[v.ba],ef⟩:=sS
  exact ⟨cnt+2,e,E.take st.length++[kA .i64 (v.ba)],cnt+3,rT,HX hs hE⟩
 ·have hs:Au c v ⟨12,a⟩ ⟨(p:Int),dn,va,st,ef⟩=⟨a,dn,va,st,ef⟩:=sS
  exact Rm
 ·have hs:Au c v ⟨31,a⟩ ⟨(p:Int),dn,va,st,ef⟩=⟨(p:Int)+1,true,va,st,ef⟩:=sS
  exact Rm
theorem Bgr (c:Cd) (v:Vn) (m:Ms) (x:In) (h:StepQ c v m x) (ho:x.op=16∨x.op=17∨x.op=18∨x.op=22∨x.op=23∨x.op=24∨x.op=25∨x.op=26∨x.op=27∨x.op=28∨x.op=30) (k:Nat) (hk:k≤100000) (w u s e:Nat) (E:List AV) (hE:E.take m.st.length=m.st.map (kA .i64)) (cnt:Nat):SV c v x m k w u s e E cnt:=by
 obtain ⟨pc,dn,va,st,ef⟩:=m
 obtain ⟨op,a⟩:=x
 obtain ⟨q1,q2,q3,q4,q5,q6,q7,q8,q9,q10,r2,r4,r5,r6,r29,rt⟩:=h
 simp only at ho q1 q2 q3 q4 q5 q6 q7 q8 q9 q10 hE r2 r4 r5 r6 r29 rt
 obtain ⟨p,rfl⟩:=Gu q1
 rw [Ha] at q3
 have h1:decide ((p:Int) < (c.ins.length:Int))=true:=Ae
 have h2:decide (p < c.ins.length)=true:=Ae
 have w1:IntKind.i64.wrap ((p:Int)+1)=(p:Int)+1:=Ba (by omega) (by omega)
 have w9:IntKind.i64.wrap ((k:Int)+1)=((k+1:Nat):Int):=Ay
 have i0:=trivial
 obtain ⟨i1,i2,i3,z1,x1,si,E28,E28b,w2⟩:True∧True∧True∧True∧True∧True∧True∧True∧True:=⟨i0,i0,i0,i0,i0,i0,i0,i0,i0⟩
 have te:List.take ef.length (ef.map C6)=ef.map C6:=lx118 (by simp)
 obtain ⟨n1,n2,n3⟩:st.length≤100000∧ef.length≤100000∧st.length+1≤100000:=Ai
 have hs:Au c v ⟨op,a⟩ ⟨(p:Int),dn,va,st,ef⟩=⟨(p:Int)+1,dn,va,st,ef++[⟨op,a,0,0,eB⟩]⟩:=by rcases ho with rfl | rfl | rfl | rfl | rfl | rfl | rfl | rfl | rfl | rfl | rfl <;> exact sS
 refine ⟨s,cnt+3,E,cnt+4,?_,finK hs hE⟩
 rcases ho with rfl | rfl | rfl | rfl | rfl | rfl | rfl | rfl | rfl | rfl | rfl
 all_goals exact rT
theorem Bgs (c:Cd) (v:Vn) (m:Ms) (x:In) (h:StepQ c v m x) (ho:x.op=3∨x.op=9∨x.op=10∨x.op=13∨x.op=14∨x.op=29) (k:Nat) (hk:k≤100000) (w u s e:Nat) (E:List AV) (hE:E.take m.st.length=m.st.map (kA .i64)) (cnt:Nat):SV c v x m k w u s e E cnt:=by
 obtain ⟨pc,dn,va,st,ef⟩:=m
 obtain ⟨op,a⟩:=x
 obtain ⟨q1,q2,q3,q4,q5,q6,q7,q8,q9,q10,r2,r4,r5,r6,r29,rt⟩:=h
 simp only at ho q1 q2 q3 q4 q5 q6 q7 q8 q9 q10 hE r2 r4 r5 r6 r29 rt
 obtain ⟨p,rfl⟩:=Gu q1
 rw [Ha] at q3
 have h1:decide ((p:Int) < (c.ins.length:Int))=true:=Ae
 have h2:decide (p < c.ins.length)=true:=Ae
 have w1:IntKind.i64.wrap ((p:Int)+1)=(p:Int)+1:=Ba (by omega) (by omega)
 have w9:IntKind.i64.wrap ((k:Int)+1)=((k+1:Nat):Int):=Ay
 have i0:=trivial
 obtain ⟨i1,i2,i3,z1,x1,si,E28,E28b,w2⟩:True∧True∧True∧True∧True∧True∧True∧True∧True:=⟨i0,i0,i0,i0,i0,i0,i0,i0,i0⟩
 have q5:1≤st.length:=by rcases ho with rfl | rfl | rfl | rfl | rfl | rfl <;> exact q5
 obtain ⟨st,t,rfl⟩:=Ih q5
 obtain ⟨hg,hE⟩:=GX hE
 rw [lx5,lx53,lx63] at q6
 have E28:=fun c0 c1 c2 c3 c4 c5 c6 c7 c8 c9 c10 c11 c12 c13 c14 c15 c16 B1 R w ev B3 s f cnt=>An5 c0 c1 c2 c3 c4 c5 c6 c7 c8 c9 c10 c11 c12 c13 c14 c15 c16 B1 R w ev B3 s st.length E f t cnt (by omega) hg
 have te:List.take ef.length (ef.map C6)=ef.map C6:=lx118 (by simp)
 obtain ⟨n1,n2,n3⟩:st.length≤100000∧ef.length≤100000∧st.length+1≤100000:=Ai
 rcases ho with rfl | rfl | rfl | rfl | rfl | rfl
 ·obtain ⟨j1,j2⟩:=r2 (.inr rfl)
  have i0:decide (0≤a)=true:=NA
  have i1:decide (a < (va.length:Int))=true:=NB
  have i2:decide (a.toNat < va.length)=true:=Ae
  have si:(va.map (kA .i64)).set a.toNat (.sc (.int .i64 t))=(va.set a.toNat t).map (kA .i64):=Rp
  have hs:Au c v ⟨3,a⟩ ⟨(p:Int),dn,va,st++[t],ef⟩=⟨(p:Int)+1,dn,va.set a.toNat t,st,ef⟩:=sS
  exact Rm
 ·have x1:=Amq 10 t
  have hs:Au c v ⟨9,a⟩ ⟨(p:Int),dn,va,st++[t],ef⟩=⟨(p:Int)+1,dn,va,st++[QP 10 t],ef⟩:=sS
  exact ⟨cnt+2,e,E.take st.length++[kA .i64 (QP 10 t)],cnt+3,rT,HX hs hE⟩
 ·have x1:=Amq 11 t
  have hs:Au c v ⟨10,a⟩ ⟨(p:Int),dn,va,st++[t],ef⟩=⟨(p:Int)+1,dn,va,st++[QP 11 t],ef⟩:=sS
  exact ⟨cnt+2,e,E.take st.length++[kA .i64 (QP 11 t)],cnt+3,rT,HX hs hE⟩
 ·by_cases hz:t=0
  ·have z1:(t == 0)=true:=by rw [lx85]; exact hz
   have hs:Au c v ⟨13,a⟩ ⟨(p:Int),dn,va,st++[t],ef⟩=⟨a,dn,va,st,ef⟩:=sZ
   exact Rm
  ·have z1:(t == 0)=false:=by rw [lx113]; exact hz
   have hs:Au c v ⟨13,a⟩ ⟨(p:Int),dn,va,st++[t],ef⟩=⟨(p:Int)+1,dn,va,st,ef⟩:=sZ
   exact Rm
 ·by_cases hz:t≤0
  ·have z1:decide (t≤0)=true:=by rw [AR]; exact hz
   have hs:Au c v ⟨14,a⟩ ⟨(p:Int),dn,va,st++[t],ef⟩=⟨a,dn,va,st,ef⟩:=sZ
   exact Rm
  ·have z1:decide (t≤0)=false:=by rw [Bz]; exact hz
   have hb:=rt (by simp)
   rw [KO] at hb
   have w2:IntKind.i64.wrap (t - 1)=t - 1:=Ba (by omega) (by omega)
   have hs:Au c v ⟨14,a⟩ ⟨(p:Int),dn,va,st++[t],ef⟩=⟨(p:Int)+1,dn,va,st++[t - 1],ef⟩:=sZ
   exact ⟨cnt+2,e,E.take st.length++[kA .i64 (t - 1)],cnt+3,rT,HX hs hE⟩
 ·obtain ⟨j1,j2⟩:=r29 rfl
  have i0:decide (0≤a)=true:=NA
  have i1:decide (a < (c.strs.length:Int))=true:=NB
  have i2:decide (a.toNat < c.strs.length)=true:=Ae
  have z1:decide ((ef.length+1) * 48≤140737488355328)=true:=Ae
  have hs:Au c v ⟨29,a⟩ ⟨(p:Int),dn,va,st++[t],ef⟩=⟨(p:Int)+1,dn,va,st,ef++[⟨29,0,t,0,c.strs.getD a.toNat default⟩]⟩:=sS
  exact ⟨s,cnt+3,E,cnt+4,rT,finK hs hE⟩
theorem Bgt (c:Cd) (v:Vn) (m:Ms) (x:In) (h:StepQ c v m x) (ho:x.op=15∨x.op=19∨x.op=21) (k:Nat) (hk:k≤100000) (w u s e:Nat) (E:List AV) (hE:E.take m.st.length=m.st.map (kA .i64)) (cnt:Nat):SV c v x m k w u s e E cnt:=by
 obtain ⟨pc,dn,va,st,ef⟩:=m
 obtain ⟨op,a⟩:=x
 obtain ⟨q1,q2,q3,q4,q5,q6,q7,q8,q9,q10,r2,r4,r5,r6,r29,rt⟩:=h
 simp only at ho q1 q2 q3 q4 q5 q6 q7 q8 q9 q10 hE r2 r4 r5 r6 r29 rt
 obtain ⟨p,rfl⟩:=Gu q1
 rw [Ha] at q3
 have h1:decide ((p:Int) < (c.ins.length:Int))=true:=Ae
 have h2:decide (p < c.ins.length)=true:=Ae
 have w1:IntKind.i64.wrap ((p:Int)+1)=(p:Int)+1:=Ba (by omega) (by omega)
 have w9:IntKind.i64.wrap ((k:Int)+1)=((k+1:Nat):Int):=Ay
 have i0:=trivial
 obtain ⟨i1,i2,i3,z1,x1,si,E28,E28b,w2⟩:True∧True∧True∧True∧True∧True∧True∧True∧True:=⟨i0,i0,i0,i0,i0,i0,i0,i0,i0⟩
 have q5:1≤st.length:=by rcases ho with rfl | rfl | rfl <;> exact q5
 obtain ⟨st,t,rfl⟩:=Ih q5
 obtain ⟨hg,hE⟩:=GX hE
 rw [lx5,lx53,lx63] at q6
 have E28:=fun c0 c1 c2 c3 c4 c5 c6 c7 c8 c9 c10 c11 c12 c13 c14 c15 c16 B1 R w ev B3 s f cnt=>An5 c0 c1 c2 c3 c4 c5 c6 c7 c8 c9 c10 c11 c12 c13 c14 c15 c16 B1 R w ev B3 s st.length E f t cnt (by omega) hg
 have te:List.take ef.length (ef.map C6)=ef.map C6:=lx118 (by simp)
 obtain ⟨n1,n2,n3⟩:st.length≤100000∧ef.length≤100000∧st.length+1≤100000:=Ai
 have hs:Au c v ⟨op,a⟩ ⟨(p:Int),dn,va,st++[t],ef⟩=⟨(p:Int)+1,dn,va,st,ef++[⟨op,a,t,0,eB⟩]⟩:=by rcases ho with rfl | rfl | rfl <;> exact sS
 refine ⟨s,cnt+3,E,cnt+4,?_,finK hs hE⟩
 rcases ho with rfl | rfl | rfl
 all_goals exact rT
theorem Bgu (c:Cd) (v:Vn) (m:Ms) (x:In) (h:StepQ c v m x) (ho:x.op=11∨x.op=20) (k:Nat) (hk:k≤100000) (w u s e:Nat) (E:List AV) (hE:E.take m.st.length=m.st.map (kA .i64)) (cnt:Nat):SV c v x m k w u s e E cnt:=by
 obtain ⟨pc,dn,va,st,ef⟩:=m
 obtain ⟨op,a⟩:=x
 obtain ⟨q1,q2,q3,q4,q5,q6,q7,q8,q9,q10,r2,r4,r5,r6,r29,rt⟩:=h
 simp only at ho q1 q2 q3 q4 q5 q6 q7 q8 q9 q10 hE r2 r4 r5 r6 r29 rt
 obtain ⟨p,rfl⟩:=Gu q1
 rw [Ha] at q3
 have h1:decide ((p:Int) < (c.ins.length:Int))=true:=Ae
 have h2:decide (p < c.ins.length)=true:=Ae
 have w1:IntKind.i64.wrap ((p:Int)+1)=(p:Int)+1:=Ba (by omega) (by omega)
 have w9:IntKind.i64.wrap ((k:Int)+1)=((k+1:Nat):Int):=Ay
 have i0:=trivial
 obtain ⟨i1,i2,i3,z1,x1,si,E28,E28b,w2⟩:True∧True∧True∧True∧True∧True∧True∧True∧True:=⟨i0,i0,i0,i0,i0,i0,i0,i0,i0⟩
 have q5:2≤st.length:=by rcases ho with rfl | rfl <;> exact q5
 obtain ⟨st,t,rfl⟩:=Ih (st:=st) (by omega)
 obtain ⟨hg,hE⟩:=GX hE
 rw [lx5,lx53,lx63] at q5 q6
 obtain ⟨st,t2,rfl⟩:=Ih (st:=st) (by omega)
 obtain ⟨hg2,hE⟩:=GX hE
 rw [lx5,lx53,lx63] at q5 q6 hg
 have E28:=fun c0 c1 c2 c3 c4 c5 c6 c7 c8 c9 c10 c11 c12 c13 c14 c15 c16 B1 R w ev B3 s f cnt=>An5 c0 c1 c2 c3 c4 c5 c6 c7 c8 c9 c10 c11 c12 c13 c14 c15 c16 B1 R w ev B3 s (st.length+1) E f t cnt (by omega) hg
 have E28b:=fun c0 c1 c2 c3 c4 c5 c6 c7 c8 c9 c10 c11 c12 c13 c14 c15 c16 B1 R w ev B3 s f cnt=>An5 c0 c1 c2 c3 c4 c5 c6 c7 c8 c9 c10 c11 c12 c13 c14 c15 c16 B1 R w ev B3 s st.length E f t2 cnt (by omega) hg2
 have te:List.take ef.length (ef.map C6)=ef.map C6:=lx118 (by simp)
 obtain ⟨n1,n2,n3⟩:st.length≤100000∧ef.length≤100000∧st.length+1≤100000:=Ai
 rcases ho with rfl | rfl
 ·have x1:=Bbc a t2 t
  have hs:Au c v ⟨11,a⟩ ⟨(p:Int),dn,va,st++[t2]++[t],ef⟩=⟨(p:Int)+1,dn,va,st++[Cz a t2 t],ef⟩:=sS
  exact ⟨cnt+2,e,E.take st.length++[kA .i64 (Cz a t2 t)],cnt+3,rT,HX hs hE⟩
 ·have hs:Au c v ⟨20,a⟩ ⟨(p:Int),dn,va,st++[t2]++[t],ef⟩=⟨(p:Int)+1,dn,va,st,ef++[⟨20,a,t2,t,eB⟩]⟩:=sS
  exact ⟨s,cnt+3,E,cnt+4,rT,finK hs hE⟩
theorem Adt (c:Cd) (v:Vn) (m:Ms) (x:In) (h:StepQ c v m x) (ho:opI x.op) (k:Nat) (hk:k≤100000) (w u s e:Nat) (E:List AV) (hE:E.take m.st.length=m.st.map (kA .i64)) (cnt:Nat):SV c v x m k w u s e E cnt:=by
 have:(x.op=1∨x.op=2∨x.op=4∨x.op=5∨x.op=6∨x.op=7∨x.op=8∨x.op=12∨x.op=31)∨(x.op=16∨x.op=17∨x.op=18∨x.op=22∨x.op=23∨x.op=24∨x.op=25∨x.op=26∨x.op=27∨x.op=28∨x.op=30)∨(x.op=3∨x.op=9∨x.op=10∨x.op=13∨x.op=14∨x.op=29)∨(x.op=15∨x.op=19∨x.op=21)∨(x.op=11∨x.op=20):=by unfold opI at ho; omega
 rcases this with o | o | o | o | o
 ·exact Bgq c v m x h o k hk w u s e E hE cnt
 ·exact Bgr c v m x h o k hk w u s e E hE cnt
 ·exact Bgs c v m x h o k hk w u s e E hE cnt
 ·exact Bgt c v m x h o k hk w u s e E hE cnt
 ·exact Bgu c v m x h o k hk w u s e E hE cnt
end Go.Proofs.YtdjpkhjaibdogaaGreat
