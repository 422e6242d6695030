/-
  Lemmas towards ModesPriority (joined texts: FF, FH, FI).
  Conditions: none.
-/
import Derived.Test.YtdjpkhjaibdogaaGreatL01
import Derived.Test.YtdjpkhjaibdogaaGreatL41
import Derived.Test.YtdjpkhjaibdogaaGreatL02
import Derived.Test.YtdjpkhjaibdogaaGreatL27
import Derived.Test.YtdjpkhjaibdogaaGreatL22
set_option linter.unusedSimpArgs false
set_option linter.unusedVariables false
set_option maxRecDepth 100000
set_option maxHeartbeats 8000000
namespace Go.Proofs.YtdjpkhjaibdogaaGreat
open Go Go.SX
attribute [local congr] ite_congr
structure Ms where
 pc:Int
 dn:Bool
 va:List Int
 st:List Int
 ef:List Ef
def Gu (m:Ms):Int:=m.st.getD (m.st.length - 1) 0
def GV (m:Ms):Ms:={ m with st:=m.st.take (m.st.length - 1) }
def IA (n:Int) (m:Ms):Ms:={ m with st:=m.st++[n] }
def No (x:Ef) (m:Ms):Ms:={ m with ef:=m.ef++[x] }
def Oh (k:IntKind) (x a:Int):Int:=IntKind.i64.wrap (D2 .and k (GD k x a) 1)
def opS (c:Cd) (v:Vn) (x:In) (m:Ms):Ms:=
 if x.op=1 then IA x.a m
 else if x.op=2 then IA (m.va.getD x.a.toNat default) m
 else if x.op=3 then { GV m with va:=m.va.set x.a.toNat (Gu m) }
 else if x.op=4 then IA (Oh .u64 v.clo x.a) m
 else if x.op=5 then IA (Oh .u32 v.act x.a) m
 else if x.op=6 then IA (v.left.getD x.a.toNat default) m
 else if x.op=7 then IA v.pl' m
 else if x.op=8 then IA v.ba m
 else if x.op=9 then IA (Wq 10 (Gu m)) (GV m)
 else if x.op=10 then IA (Wq 11 (Gu m)) (GV m)
 else if x.op=11 then IA (Di x.a (Gu (GV m)) (Gu m)) (GV (GV m))
 else if x.op=12 then { m with pc:=x.a }
 else if x.op=13 then (if Gu m=0 then { GV m with pc:=x.a } else GV m)
 else if x.op=14 then (if Gu m≤0 then { GV m with pc:=x.a } else IA (Gu m - 1) (GV m))
 else if x.op=15∨x.op=19∨x.op=21 then No ⟨x.op,x.a,Gu m,0,eB⟩ (GV m)
 else if x.op=20 then No ⟨x.op,x.a,Gu (GV m),Gu m,eB⟩ (GV (GV m))
 else if x.op=29 then No ⟨x.op,0,Gu m,0,c.strs.getD x.a.toNat default⟩ (GV m)
 else if x.op=31 then { m with dn:=true }
 else No ⟨x.op,x.a,0,0,eB⟩ m
def tkO (op:Int):Nat:=if op=3∨op=9∨op=10∨op=13∨op=14∨op=15∨op=19∨op=21∨op=29 then 1 else if op=11∨op=20 then 2 else 0
structure StepQ (c:Cd) (v:Vn) (m:Ms) (x:In):Prop where
 pc0:0≤m.pc
 pc1:m.pc < c.ins.length
 at':c.ins.getD m.pc.toNat default=x
 ins:c.ins.length≤4000
 tk:tkO x.op≤m.st.length
 st:m.st.length≤1000
 ef:m.ef.length≤1000
 va:m.va.length≤1000
 lf:v.left.length≤1000
 ss:c.strs.length≤1000
 a2:x.op=2∨x.op=3→0≤x.a∧x.a < m.va.length
 a4:x.op=4→0≤x.a∧x.a≤63
 a5:x.op=5→0≤x.a∧x.a≤31
 a6:x.op=6→0≤x.a∧x.a < v.left.length
 a29:x.op=29→0≤x.a∧x.a < c.strs.length
 tp:m.st≠[]→-2147483647≤Gu m∧Gu m≤2147483647
def mH (c:Cd) (v:Vn) (m:Ms) (w u s e:Nat) (E:List AV):List Blk:=
 [⟨true,w,253,17,[.ag [.vw c.zi (c.ins.map Gd),.vw c.zs (c.strs.map stA),.vw c.ze (c.ens.map Fw),.vw c.zp (c.pri.map (kA .i64)),.vw c.zv (c.vars.map (kA .i64)),kA .i64 c.tim,kA .i64 c.evs,
  .sl 1 u 0 m.va.length,.vw v.zl (v.left.map (kA .i64)),.sc (.int .u64 v.clo),.sc (.int .u32 v.act),kA .i64 v.pl',kA .i64 v.ba,kA .i64 m.pc,bA m.dn,.sl 2 s 0 m.st.length,.sl 3 e 0 m.ef.length]],false⟩,
  ⟨true,u,3,1,m.va.map (kA .i64),false⟩,⟨true,s,3,1,E,false⟩,⟨true,e,73,5,m.ef.map EJ,false⟩]
def AM (c:Cd) (v:Vn) (x:In) (m:Ms):Ms:=opS c v x { m with pc:=m.pc+1 }
def Oi (c:Cd) (v:Vn) (x:In) (m:Ms) (w u s e:Nat) (E:List AV) (cnt:Nat):Prop:=
 ∃ s' e' E' cnt',HSpec Tryz.prog 204 [.pt 0 w 0 0] (mH c v m w u s e E) cnt (.tu []) (mH c v (AM c v x m) w u s' e' E') cnt'∧E'.take (AM c v x m).st.length=(AM c v x m).st.map (kA .i64)
theorem Np {E:List AV} {st:List Int} {t:Int} (h:E.take (st++[t]).length=(st++[t]).map (kA .i64)):E[st.length]?=some (.sc (.int .i64 t))∧E.take st.length=st.map (kA .i64):=by
 rw [lx7,lx52,lx63,lx10] at h
 constructor
 ·have:=congrArg (fun l=>l[st.length]?) h
  simp only [lx19,CL,WL,lx8] at this
  rw [this,lx62 (by simp)]
  simp [kA]
 ·have:=congrArg (fun l=>l.take st.length) h
  simp only [List.take_take] at this
  rw [L2 (by omega),List.take_left' (by simp)] at this
  exact this
theorem Qr {st:List Int} (h:1≤st.length):∃ r t,st=r++[t]:=⟨_,_,(List.dropLast_concat_getLast (l:=st) (by intro e; rw [e] at h; simp at h)).symm⟩
theorem Oj (pc:Int) (dn:Bool) (va st:List Int) (t:Int) (ef:List Ef):Gu ⟨pc,dn,va,st++[t],ef⟩=t:=by simp [Gu]
theorem US (pc:Int) (dn:Bool) (va st:List Int) (t:Int) (ef:List Ef):GV ⟨pc,dn,va,st++[t],ef⟩=⟨pc,dn,va,st,ef⟩:=by simp [GV]
theorem SC {m2:Ms} {pc:Int} {dn:Bool} {va st:List Int} {t:Int} {ef:List Ef} {E:List AV} (hs:m2=⟨pc,dn,va,st++[t],ef⟩) (hE:E.take st.length=st.map (kA .i64)):(E.take st.length++[kA .i64 t]).take m2.st.length=m2.st.map (kA .i64):=by
 rw [hs]; simp only [lx7,lx52,lx63]; rw [hE,lx10,lx12 (by simp)]; rfl
theorem finK {m2:Ms} {pc:Int} {dn:Bool} {va st:List Int} {ef:List Ef} {E:List AV} (hs:m2=⟨pc,dn,va,st,ef⟩) (hE:E.take st.length=st.map (kA .i64)):E.take m2.st.length=m2.st.map (kA .i64):=by
 rw [hs]; exact hE
def opI (op:Int):Prop:=op=1∨op=2∨op=3∨op=4∨op=5∨op=6∨op=7∨op=8∨op=9∨op=10∨op=11∨op=12∨op=13∨op=14∨op=15∨op=16∨op=17∨op=18∨op=19∨op=20∨op=21∨op=22∨op=23∨op=24∨op=25∨op=26∨op=27∨op=28∨op=29∨op=30∨op=31
theorem sS {P:Prop} (h:P:=by simp only [AM,opS,Int.reduceEq,lx8,lx9,↓reduceIte,IA,No,Oj,US,or_self,or_false,false_or,or_true,true_or]):P:=h
theorem sZ {P:Prop} (h:P:=by simp only [AM,opS,Int.reduceEq,lx8,lx9,↓reduceIte,IA,No,Oj,US,or_self,or_false,false_or,or_true,true_or,hz]):P:=h
theorem sT {P:Prop} (h:P:=by
 refine Ad (Af (lit:=true) (pm:=fun _=>none) (.cons Bk2 (.cons Bk3 .nil)) .nil .nil (.cons Bk7 (.cons Bk8 (.cons Bk9 .nil)))) rfl Tryz.func204 rfl (by decide) (by kernel_rfl) ?_
 simp only [Tryz.f204,Ae,lx52,lx63,Nat.reduceAdd,Nat.reduceSub,List.replicate]
 simp only [mH,hs]
 refine Ac ?_
 simp (maxSteps:=10000000) +contextual -implicitDefEqProofs only [AX,AT,Ao,St.put,Am,Aj,Ds,pl,Array.toList,lx8,lx9,↓reduceIte,reduceCtorEq,Nat.reduceAdd,Nat.reduceLeDiff,Nat.reduceEqDiff,Nat.reduceMul,Int.reduceEq,Int.reduceNe,Int.reduceLE,Int.reduceLT,ne_eq,Nat.reduceBEq,Nat.reduceLT,eq_self,Cl,ite_self,CS,Se,Int.reduceToNat,Nat.reduceSub,Int.reduceAdd,Int.reduceMul,Int.reduceSub,B9,DO,hl,Bm,Bg,Db,Cp,ET,Cg,JW,Ch,BZ,Lv,Lw,Bo,Bn,CH,GF,C3,Eo,HQ,IQ,HS,IS,Be,Ep,CN,Lx,JX,Hc,HT,Gq,Ly,NP,Lz,Gr,CY,B4,Vw,LB,LC,NQ,NR,JY,Ab1,Ab2,DW,AL,Bb,BU,Cv,N9,Ai,Cq,DK,norefs,AV.noref,Gb,Ha,Int.reduceBNe,Int.reduceBEq,h1,h2,w1,w2,w9,AU,DH,Oa,CX,AO,q3,ZO,ZP,Abz,lx2,lx5,lx6,lx7,dl1,dl2,hs,Bqd,Bqe,n1,n2,n3,te,i0,i1,i2,i3,z1,x1,si,E28,E28b,lx10,lx1,Oh]
 repeat' (first | exact Aa (by kernel_rfl) | refine ⟨Aa (by kernel_rfl),?_⟩ | refine And.intro ?_ ?_ | fail)
 all_goals first | exact .refl _ | exact .inl rfl | exact Ci _ _ _ | omega | trivial | rfl | skip
 all_goals done):P:=h
theorem st0 (c:Cd) (v:Vn) (m:Ms) (x:In) (h:StepQ c v m x) (ho:x.op=1∨x.op=2∨x.op=4∨x.op=5∨x.op=6∨x.op=7∨x.op=8∨x.op=12∨x.op=31) (w u s e:Nat) (E:List AV) (hE:E.take m.st.length=m.st.map (kA .i64)) (cnt:Nat):Oi c v x m w u s e E cnt:=by
 obtain ⟨pc,dn,va,st,ef⟩:=m
 obtain ⟨op,a⟩:=x
 obtain ⟨q1,q2,q3,q4,q5,q6,q7,q8,q9,q10,r2,r4,r5,r6,r29,rt⟩:=h
 simp only at ho q1 q2 q3 q4 q5 q6 q7 q8 q9 q10 hE r2 r4 r5 r6 r29 rt
 obtain ⟨p,rfl⟩:=Jh q1
 rw [Pa] at q3
 have h1:decide ((p:Int) < (c.ins.length:Int))=true:=Au
 have h2:decide (p < c.ins.length)=true:=Au
 have w1:IntKind.i64.wrap ((p:Int)+1)=(p:Int)+1:=CR (by omega) (by omega)
 have i0:=trivial
 obtain ⟨i1,i2,i3,z1,x1,si,E28,E28b,w2,w9⟩:True∧True∧True∧True∧True∧True∧True∧True∧True∧True:=⟨i0,i0,i0,i0,i0,i0,i0,i0,i0,i0⟩
 have te:List.take ef.length (ef.map EJ)=ef.map EJ:=lx12 (by simp)
 obtain ⟨n1,n2,n3⟩:st.length≤100000∧ef.length≤100000∧st.length+1≤100000:=An
 rcases ho with rfl | rfl | rfl | rfl | rfl | rfl | rfl | rfl | rfl
 ·have hs:AM c v ⟨1,a⟩ ⟨(p:Int),dn,va,st,ef⟩=⟨(p:Int)+1,dn,va,st++[a],ef⟩:=sS
  exact ⟨cnt+2,e,E.take st.length++[kA .i64 (a)],cnt+3,sT,SC hs hE⟩
 ·obtain ⟨j1,j2⟩:=r2 (.inl rfl)
  have i0:decide (0≤a)=true:=Acs
  have i1:decide (a < (va.length:Int))=true:=Acu
  have i2:decide (a.toNat < va.length)=true:=Au
  have hs:AM c v ⟨2,a⟩ ⟨(p:Int),dn,va,st,ef⟩=⟨(p:Int)+1,dn,va,st++[va.getD a.toNat default],ef⟩:=sS
  exact ⟨cnt+2,e,E.take st.length++[kA .i64 (va.getD a.toNat default)],cnt+3,sT,SC hs hE⟩
 ·have i1:=r4 rfl
  have i2:=i1.1
  have hs:AM c v ⟨4,a⟩ ⟨(p:Int),dn,va,st,ef⟩=⟨(p:Int)+1,dn,va,st++[Oh .u64 v.clo a],ef⟩:=sS
  exact ⟨cnt+2,e,E.take st.length++[kA .i64 (Oh .u64 v.clo a)],cnt+3,sT,SC hs hE⟩
 ·have i1:=r5 rfl
  have i2:=i1.1
  have hs:AM c v ⟨5,a⟩ ⟨(p:Int),dn,va,st,ef⟩=⟨(p:Int)+1,dn,va,st++[Oh .u32 v.act a],ef⟩:=sS
  exact ⟨cnt+2,e,E.take st.length++[kA .i64 (Oh .u32 v.act a)],cnt+3,sT,SC hs hE⟩
 ·obtain ⟨j1,j2⟩:=r6 rfl
  have i0:decide (0≤a)=true:=Acs
  have i1:decide (a < (v.left.length:Int))=true:=Acu
  have i2:decide (a.toNat < v.left.length)=true:=Au
  have hs:AM c v ⟨6,a⟩ ⟨(p:Int),dn,va,st,ef⟩=⟨(p:Int)+1,dn,va,st++[v.left.getD a.toNat default],ef⟩:=sS
  exact ⟨cnt+2,e,E.take st.length++[kA .i64 (v.left.getD a.toNat default)],cnt+3,sT,SC hs hE⟩
 ·have hs:AM c v ⟨7,a⟩ ⟨(p:Int),dn,va,st,ef⟩=⟨(p:Int)+1,dn,va,st++[v.pl'],ef⟩:=sS
  exact ⟨cnt+2,e,E.take st.length++[kA .i64 (v.pl')],cnt+3,sT,SC hs hE⟩
 ·have hs:AM c v ⟨8,a⟩ ⟨(p:Int),dn,va,st,ef⟩=⟨(p:Int)+1,dn,va,st++[v.ba],ef⟩:=sS
  exact ⟨cnt+2,e,E.take st.length++[kA .i64 (v.ba)],cnt+3,sT,SC hs hE⟩
 ·have hs:AM c v ⟨12,a⟩ ⟨(p:Int),dn,va,st,ef⟩=⟨a,dn,va,st,ef⟩:=sS
  exact Ah1
 ·have hs:AM c v ⟨31,a⟩ ⟨(p:Int),dn,va,st,ef⟩=⟨(p:Int)+1,true,va,st,ef⟩:=sS
  exact Ah1
theorem stM (c:Cd) (v:Vn) (m:Ms) (x:In) (h:StepQ c v m x) (ho:x.op=16∨x.op=17∨x.op=18∨x.op=22∨x.op=23∨x.op=24∨x.op=25∨x.op=26∨x.op=27∨x.op=28∨x.op=30) (w u s e:Nat) (E:List AV) (hE:E.take m.st.length=m.st.map (kA .i64)) (cnt:Nat):Oi c v x m w u s e E cnt:=by
 obtain ⟨pc,dn,va,st,ef⟩:=m
 obtain ⟨op,a⟩:=x
 obtain ⟨q1,q2,q3,q4,q5,q6,q7,q8,q9,q10,r2,r4,r5,r6,r29,rt⟩:=h
 simp only at ho q1 q2 q3 q4 q5 q6 q7 q8 q9 q10 hE r2 r4 r5 r6 r29 rt
 obtain ⟨p,rfl⟩:=Jh q1
 rw [Pa] at q3
 have h1:decide ((p:Int) < (c.ins.length:Int))=true:=Au
 have h2:decide (p < c.ins.length)=true:=Au
 have w1:IntKind.i64.wrap ((p:Int)+1)=(p:Int)+1:=CR (by omega) (by omega)
 have i0:=trivial
 obtain ⟨i1,i2,i3,z1,x1,si,E28,E28b,w2,w9⟩:True∧True∧True∧True∧True∧True∧True∧True∧True∧True:=⟨i0,i0,i0,i0,i0,i0,i0,i0,i0,i0⟩
 have te:List.take ef.length (ef.map EJ)=ef.map EJ:=lx12 (by simp)
 obtain ⟨n1,n2,n3⟩:st.length≤100000∧ef.length≤100000∧st.length+1≤100000:=An
 have hs:AM c v ⟨op,a⟩ ⟨(p:Int),dn,va,st,ef⟩=⟨(p:Int)+1,dn,va,st,ef++[⟨op,a,0,0,eB⟩]⟩:=by rcases ho with rfl | rfl | rfl | rfl | rfl | rfl | rfl | rfl | rfl | rfl | rfl <;> exact sS
 refine ⟨s,cnt+3,E,cnt+4,?_,finK hs hE⟩
 rcases ho with rfl | rfl | rfl | rfl | rfl | rfl | rfl | rfl | rfl | rfl | rfl
 all_goals exact sT
theorem st1 (c:Cd) (v:Vn) (m:Ms) (x:In) (h:StepQ c v m x) (ho:x.op=3∨x.op=9∨x.op=10∨x.op=13∨x.op=14∨x.op=29) (w u s e:Nat) (E:List AV) (hE:E.take m.st.length=m.st.map (kA .i64)) (cnt:Nat):Oi c v x m w u s e E cnt:=by
 obtain ⟨pc,dn,va,st,ef⟩:=m
 obtain ⟨op,a⟩:=x
 obtain ⟨q1,q2,q3,q4,q5,q6,q7,q8,q9,q10,r2,r4,r5,r6,r29,rt⟩:=h
 simp only at ho q1 q2 q3 q4 q5 q6 q7 q8 q9 q10 hE r2 r4 r5 r6 r29 rt
 obtain ⟨p,rfl⟩:=Jh q1
 rw [Pa] at q3
 have h1:decide ((p:Int) < (c.ins.length:Int))=true:=Au
 have h2:decide (p < c.ins.length)=true:=Au
 have w1:IntKind.i64.wrap ((p:Int)+1)=(p:Int)+1:=CR (by omega) (by omega)
 have i0:=trivial
 obtain ⟨i1,i2,i3,z1,x1,si,E28,E28b,w2,w9⟩:True∧True∧True∧True∧True∧True∧True∧True∧True∧True:=⟨i0,i0,i0,i0,i0,i0,i0,i0,i0,i0⟩
 have q5:1≤st.length:=by rcases ho with rfl | rfl | rfl | rfl | rfl | rfl <;> exact q5
 obtain ⟨st,t,rfl⟩:=Qr q5
 obtain ⟨hg,hE⟩:=Np hE
 rw [lx7,lx52,lx63] at q6
 have E28:=fun c0 c1 c2 c3 c4 c5 c6 c7 c8 c9 c10 c11 c12 c13 c14 B1 R w ev B3 s f cnt=>Ati c0 c1 c2 c3 c4 c5 c6 c7 c8 c9 c10 c11 c12 c13 c14 B1 R w ev B3 s st.length E f t cnt (by omega) hg
 have te:List.take ef.length (ef.map EJ)=ef.map EJ:=lx12 (by simp)
 obtain ⟨n1,n2,n3⟩:st.length≤100000∧ef.length≤100000∧st.length+1≤100000:=An
 rcases ho with rfl | rfl | rfl | rfl | rfl | rfl
 ·obtain ⟨j1,j2⟩:=r2 (.inr rfl)
  have i0:decide (0≤a)=true:=Acs
  have i1:decide (a < (va.length:Int))=true:=Acu
  have i2:decide (a.toNat < va.length)=true:=Au
  have si:(va.map (kA .i64)).set a.toNat (.sc (.int .i64 t))=(va.set a.toNat t).map (kA .i64):=by rw [List.map_set]; rfl
  have hs:AM c v ⟨3,a⟩ ⟨(p:Int),dn,va,st++[t],ef⟩=⟨(p:Int)+1,dn,va.set a.toNat t,st,ef⟩:=sS
  exact Ah1
 ·have x1:=Bk1 10 t
  have hs:AM c v ⟨9,a⟩ ⟨(p:Int),dn,va,st++[t],ef⟩=⟨(p:Int)+1,dn,va,st++[Wq 10 t],ef⟩:=sS
  exact ⟨cnt+2,e,E.take st.length++[kA .i64 (Wq 10 t)],cnt+3,sT,SC hs hE⟩
 ·have x1:=Bk1 11 t
  have hs:AM c v ⟨10,a⟩ ⟨(p:Int),dn,va,st++[t],ef⟩=⟨(p:Int)+1,dn,va,st++[Wq 11 t],ef⟩:=sS
  exact ⟨cnt+2,e,E.take st.length++[kA .i64 (Wq 11 t)],cnt+3,sT,SC hs hE⟩
 ·by_cases hz:t=0
  ·have z1:(t == 0)=true:=by rw [lx86]; exact hz
   have hs:AM c v ⟨13,a⟩ ⟨(p:Int),dn,va,st++[t],ef⟩=⟨a,dn,va,st,ef⟩:=sZ
   exact Ah1
  ·have z1:(t == 0)=false:=by rw [lx108]; exact hz
   have hs:AM c v ⟨13,a⟩ ⟨(p:Int),dn,va,st++[t],ef⟩=⟨(p:Int)+1,dn,va,st,ef⟩:=sZ
   exact Ah1
 ·by_cases hz:t≤0
  ·have z1:decide (t≤0)=true:=by rw [Bw]; exact hz
   have hs:AM c v ⟨14,a⟩ ⟨(p:Int),dn,va,st++[t],ef⟩=⟨a,dn,va,st,ef⟩:=sZ
   exact Ah1
  ·have z1:decide (t≤0)=false:=by rw [Cy]; exact hz
   have hb:=rt (by simp)
   rw [Oj] at hb
   have w2:IntKind.i64.wrap (t - 1)=t - 1:=CR (by omega) (by omega)
   have hs:AM c v ⟨14,a⟩ ⟨(p:Int),dn,va,st++[t],ef⟩=⟨(p:Int)+1,dn,va,st++[t - 1],ef⟩:=sZ
   exact ⟨cnt+2,e,E.take st.length++[kA .i64 (t - 1)],cnt+3,sT,SC hs hE⟩
 ·obtain ⟨j1,j2⟩:=r29 rfl
  have i0:decide (0≤a)=true:=Acs
  have i1:decide (a < (c.strs.length:Int))=true:=Acu
  have i2:decide (a.toNat < c.strs.length)=true:=Au
  have z1:decide ((ef.length+1) * 48≤140737488355328)=true:=Au
  have hs:AM c v ⟨29,a⟩ ⟨(p:Int),dn,va,st++[t],ef⟩=⟨(p:Int)+1,dn,va,st,ef++[⟨29,0,t,0,c.strs.getD a.toNat default⟩]⟩:=sS
  exact ⟨s,cnt+2,E,cnt+3,sT,finK hs hE⟩
theorem Bqg (c:Cd) (v:Vn) (m:Ms) (x:In) (h:StepQ c v m x) (ho:x.op=15∨x.op=19∨x.op=21) (w u s e:Nat) (E:List AV) (hE:E.take m.st.length=m.st.map (kA .i64)) (cnt:Nat):Oi c v x m w u s e E cnt:=by
 obtain ⟨pc,dn,va,st,ef⟩:=m
 obtain ⟨op,a⟩:=x
 obtain ⟨q1,q2,q3,q4,q5,q6,q7,q8,q9,q10,r2,r4,r5,r6,r29,rt⟩:=h
 simp only at ho q1 q2 q3 q4 q5 q6 q7 q8 q9 q10 hE r2 r4 r5 r6 r29 rt
 obtain ⟨p,rfl⟩:=Jh q1
 rw [Pa] at q3
 have h1:decide ((p:Int) < (c.ins.length:Int))=true:=Au
 have h2:decide (p < c.ins.length)=true:=Au
 have w1:IntKind.i64.wrap ((p:Int)+1)=(p:Int)+1:=CR (by omega) (by omega)
 have i0:=trivial
 obtain ⟨i1,i2,i3,z1,x1,si,E28,E28b,w2,w9⟩:True∧True∧True∧True∧True∧True∧True∧True∧True∧True:=⟨i0,i0,i0,i0,i0,i0,i0,i0,i0,i0⟩
 have q5:1≤st.length:=by rcases ho with rfl | rfl | rfl <;> exact q5
 obtain ⟨st,t,rfl⟩:=Qr q5
 obtain ⟨hg,hE⟩:=Np hE
 rw [lx7,lx52,lx63] at q6
 have E28:=fun c0 c1 c2 c3 c4 c5 c6 c7 c8 c9 c10 c11 c12 c13 c14 B1 R w ev B3 s f cnt=>Ati c0 c1 c2 c3 c4 c5 c6 c7 c8 c9 c10 c11 c12 c13 c14 B1 R w ev B3 s st.length E f t cnt (by omega) hg
 have te:List.take ef.length (ef.map EJ)=ef.map EJ:=lx12 (by simp)
 obtain ⟨n1,n2,n3⟩:st.length≤100000∧ef.length≤100000∧st.length+1≤100000:=An
 have hs:AM c v ⟨op,a⟩ ⟨(p:Int),dn,va,st++[t],ef⟩=⟨(p:Int)+1,dn,va,st,ef++[⟨op,a,t,0,eB⟩]⟩:=by rcases ho with rfl | rfl | rfl <;> exact sS
 refine ⟨s,cnt+3,E,cnt+4,?_,finK hs hE⟩
 rcases ho with rfl | rfl | rfl
 all_goals exact sT
theorem st2 (c:Cd) (v:Vn) (m:Ms) (x:In) (h:StepQ c v m x) (ho:x.op=11∨x.op=20) (w u s e:Nat) (E:List AV) (hE:E.take m.st.length=m.st.map (kA .i64)) (cnt:Nat):Oi c v x m w u s e E cnt:=by
 obtain ⟨pc,dn,va,st,ef⟩:=m
 obtain ⟨op,a⟩:=x
 obtain ⟨q1,q2,q3,q4,q5,q6,q7,q8,q9,q10,r2,r4,r5,r6,r29,rt⟩:=h
 simp only at ho q1 q2 q3 q4 q5 q6 q7 q8 q9 q10 hE r2 r4 r5 r6 r29 rt
 obtain ⟨p,rfl⟩:=Jh q1
 rw [Pa] at q3
 have h1:decide ((p:Int) < (c.ins.length:Int))=true:=Au
 have h2:decide (p < c.ins.length)=true:=Au
 have w1:IntKind.i64.wrap ((p:Int)+1)=(p:Int)+1:=CR (by omega) (by omega)
 have i0:=trivial
 obtain ⟨i1,i2,i3,z1,x1,si,E28,E28b,w2,w9⟩:True∧True∧True∧True∧True∧True∧True∧True∧True∧True:=⟨i0,i0,i0,i0,i0,i0,i0,i0,i0,i0⟩
 have q5:2≤st.length:=by rcases ho with rfl | rfl <;> exact q5
 obtain ⟨st,t,rfl⟩:=Qr (st:=st) (by omega)
 obtain ⟨hg,hE⟩:=Np hE
 rw [lx7,lx52,lx63] at q5 q6
 obtain ⟨st,t2,rfl⟩:=Qr (st:=st) (by omega)
 obtain ⟨hg2,hE⟩:=Np hE
 rw [lx7,lx52,lx63] at q5 q6 hg
 have E28:=fun c0 c1 c2 c3 c4 c5 c6 c7 c8 c9 c10 c11 c12 c13 c14 B1 R w ev B3 s f cnt=>Ati c0 c1 c2 c3 c4 c5 c6 c7 c8 c9 c10 c11 c12 c13 c14 B1 R w ev B3 s (st.length+1) E f t cnt (by omega) hg
 have E28b:=fun c0 c1 c2 c3 c4 c5 c6 c7 c8 c9 c10 c11 c12 c13 c14 B1 R w ev B3 s f cnt=>Ati c0 c1 c2 c3 c4 c5 c6 c7 c8 c9 c10 c11 c12 c13 c14 B1 R w ev B3 s st.length E f t2 cnt (by omega) hg2
 have te:List.take ef.length (ef.map EJ)=ef.map EJ:=lx12 (by simp)
 obtain ⟨n1,n2,n3⟩:st.length≤100000∧ef.length≤100000∧st.length+1≤100000:=An
 rcases ho with rfl | rfl
 ·have x1:=Bq9 a t2 t
  have hs:AM c v ⟨11,a⟩ ⟨(p:Int),dn,va,st++[t2]++[t],ef⟩=⟨(p:Int)+1,dn,va,st++[Di a t2 t],ef⟩:=sS
  exact ⟨cnt+2,e,E.take st.length++[kA .i64 (Di a t2 t)],cnt+3,sT,SC hs hE⟩
 ·have hs:AM c v ⟨20,a⟩ ⟨(p:Int),dn,va,st++[t2]++[t],ef⟩=⟨(p:Int)+1,dn,va,st,ef++[⟨20,a,t2,t,eB⟩]⟩:=sS
  exact ⟨s,cnt+3,E,cnt+4,sT,finK hs hE⟩
theorem Aoo (c:Cd) (v:Vn) (m:Ms) (x:In) (h:StepQ c v m x) (ho:opI x.op) (w u s e:Nat) (E:List AV) (hE:E.take m.st.length=m.st.map (kA .i64)) (cnt:Nat):Oi c v x m w u s e E cnt:=by
 have:(x.op=1∨x.op=2∨x.op=4∨x.op=5∨x.op=6∨x.op=7∨x.op=8∨x.op=12∨x.op=31)∨(x.op=16∨x.op=17∨x.op=18∨x.op=22∨x.op=23∨x.op=24∨x.op=25∨x.op=26∨x.op=27∨x.op=28∨x.op=30)∨(x.op=3∨x.op=9∨x.op=10∨x.op=13∨x.op=14∨x.op=29)∨(x.op=15∨x.op=19∨x.op=21)∨(x.op=11∨x.op=20):=by unfold opI at ho; omega
 rcases this with o | o | o | o | o
 ·exact st0 c v m x h o w u s e E hE cnt
 ·exact stM c v m x h o w u s e E hE cnt
 ·exact st1 c v m x h o w u s e E hE cnt
 ·exact Bqg c v m x h o w u s e E hE cnt
 ·exact st2 c v m x h o w u s e E hE cnt
end Go.Proofs.YtdjpkhjaibdogaaGreat
namespace Go.Proofs.YtdjpkhjaibdogaaGreat
open Go Go.SX
def D5 (x:Int):Prop:=-2147483647≤x∧x≤2147483647
structure EnvI (c:Cd) (v:Vn):Prop where
 ll:(v.left.length:Int)=c.tim
 lf:∀ x ∈ v.left,0≤x∧x≤2147483647
 p:0≤v.pl'∧v.pl'≤2147483647
 b:0≤v.ba∧v.ba≤2147483647
structure MOk (c:Cd) (m:Ms):Prop where
 r:Rch c m.pc m.st.length
 st:∀ x ∈ m.st,D5 x
 va:∀ x ∈ m.va,D5 x
 vl:m.va.length=c.vars.length
theorem Jd {c:Cd} (h:AY c=0):Good c:=Asf (Iw h).2.2.2.2
theorem Kl {c:Cd} (h:AY c=0) {k:Nat} (hk:k < c.ins.length):insP c (c.ins.getD k default)=false∧tgP c (c.ins.getD k default)=false:=by
 obtain ⟨_,h1,h2,_⟩:=Iw h
 have hm:=DJ hk
 simp only [Jp,Jt,Ju,lx95,Hw] at h1
 simp only [Hk,AH,Jt,lx95,Hw] at h2
 exact ⟨h1.2 _ hm,h2.1 _ hm⟩
theorem Ais {c:Cd} (h:AY c=0) {e:En} (he:e ∈ c.ens):0≤e.pc∧e.pc < c.ins.length:=by
 obtain ⟨_,_,h2,_⟩:=Iw h
 simp only [Hk,AH,Jt,lx95,Hw] at h2
 have:=h2.2 _ he
 simp only [tgB,Ow] at this
 rw [Fx] at this
 omega
theorem Ws {c:Cd} (h:AY c=0) {i n:Int} (r:Rch c i n):0≤i:=by
 induction r with
 | ent he=>exact (Ais h he).1
 | @step i n j n' r hi ho hs ih=>
  obtain ⟨k,rfl⟩:=Jh ih
  have hx:=(Kl h (k:=k) (by omega)).2
  have hx':tgP c (AI c (k:Int))=false:=hx
  have ja:DB (AI c (k:Int)).op=true→0≤(AI c (k:Int)).a:=fun hj=>by
   simp only [tgP,hj,KP,Ow] at hx'
   rw [Fx] at hx'
   exact hx'.1
  unfold Cz at hs
  split at hs
  ·simp at hs
  ·split at hs
   ·rename_i h12
    simp only [lx59,lx112,or_false,lx40] at hs
    rw [hs.1]; exact ja (by simp [DB,h12])
   ·split at hs
    ·rename_i h13
     simp only [lx59,lx112,or_false,lx40] at hs
     rcases hs with hs | hs
     ·omega
     ·rw [hs.1]; exact ja (by simp [DB,h13])
    ·split at hs
     ·rename_i h14
      simp only [lx59,lx112,or_false,lx40] at hs
      rcases hs with hs | hs
      ·omega
      ·rw [hs.1]; exact ja (by simp [DB,h14])
     ·simp only [lx59,lx112,or_false,lx40] at hs
      omega
theorem Bb6 (op:Int):(tkO op:Int)=(B5 op).1:=by
 rcases Ge op with (rfl | rfl | rfl | rfl | rfl | rfl | rfl | rfl | rfl | rfl | rfl | rfl | rfl | rfl | rfl | rfl | rfl | rfl | rfl | rfl | rfl | rfl | rfl | rfl | rfl | rfl | rfl | rfl | rfl | rfl | rfl) | h
 rotate_right
 ·have g:∀ k:Int,1≤k→k≤31→(op=k)=False:=fun k h1 h2=>by have:=h k h1 h2; simpa using this
  simp [tkO,B5,g]
 all_goals decide
theorem Z7 {m:Ms} (h:∀ x ∈ m.st,D5 x) (h0:0 < m.st.length):D5 (Gu m):=by
 refine h _ ?_
 unfold Gu
 have:=DJ (l:=m.st) (i:=m.st.length - 1) (by omega)
 exact this
theorem E7 {st:List Int} {n:Int} (h:∀ x ∈ st,D5 x) (hn:D5 n):∀ x ∈ st++[n],D5 x:=fun x hx=>by
 rcases lx77.1 hx with hx | hx
 ·exact h x hx
 ·simp only [lx59,lx112,or_false] at hx; rw [hx]; exact hn
theorem Agh (k a:Int):D5 (Wq k a):=by
 have:=G1 a
 unfold Wq D5 Gt
 repeat' split
 all_goals omega
theorem Gj (b:Bool):D5 (Gt b):=by cases b <;> (unfold D5 Gt; decide)
theorem Ol (a:Int):D5 (AP a):=G1 a
theorem Atj {x y m:Int} (h1:-m≤x) (h2:x≤m):-m≤x.tmod y∧x.tmod y≤m:=by
 have h:(x.tmod y).natAbs=x.natAbs % y.natAbs:=Int.natAbs_tmod x y
 have h':=Nat.mod_le x.natAbs y.natAbs
 generalize x.natAbs % y.natAbs=q at *
 omega
theorem Aop (k a b:Int):D5 (Di k a b):=by
 have ha:=G1 a
 by_cases h12:k=12
 ·rw [Di,if_pos h12]
  exact Ol _
 by_cases h13:k=13
 ·rw [Di,if_neg h12,if_pos h13]
  split
  ·exact ⟨by decide,by decide⟩
  ·exact Age ha.1 ha.2
 by_cases h14:k=14
 ·rw [Di,if_neg h12,if_neg h13,if_pos h14]
  split
  ·exact ⟨by decide,by decide⟩
  ·exact Atj ha.1 ha.2
 by_cases h15:k=15
 ·rw [Di,if_neg h12,if_neg h13,if_neg h14,if_pos h15]
  exact Ol _
 by_cases h16:k=16
 ·rw [Di,if_neg h12,if_neg h13,if_neg h14,if_neg h15,if_pos h16]
  exact Ol _
 by_cases h17:k=17
 ·rw [Di,if_neg h12,if_neg h13,if_neg h14,if_neg h15,if_neg h16,if_pos h17]
  exact Gj _
 by_cases h18:k=18
 ·rw [Di,if_neg h12,if_neg h13,if_neg h14,if_neg h15,if_neg h16,if_neg h17,if_pos h18]
  exact Gj _
 by_cases h19:k=19
 ·rw [Di,if_neg h12,if_neg h13,if_neg h14,if_neg h15,if_neg h16,if_neg h17,if_neg h18,if_pos h19]
  exact Gj _
 by_cases h20:k=20
 ·rw [Di,if_neg h12,if_neg h13,if_neg h14,if_neg h15,if_neg h16,if_neg h17,if_neg h18,if_neg h19,if_pos h20]
  exact Gj _
 by_cases h21:k=21
 ·rw [Di,if_neg h12,if_neg h13,if_neg h14,if_neg h15,if_neg h16,if_neg h17,if_neg h18,if_neg h19,if_neg h20,if_pos h21]
  exact Gj _
 by_cases h22:k=22
 ·rw [Di,if_neg h12,if_neg h13,if_neg h14,if_neg h15,if_neg h16,if_neg h17,if_neg h18,if_neg h19,if_neg h20,if_neg h21,if_pos h22]
  exact Gj _
 by_cases h23:k=23
 ·rw [Di,if_neg h12,if_neg h13,if_neg h14,if_neg h15,if_neg h16,if_neg h17,if_neg h18,if_neg h19,if_neg h20,if_neg h21,if_neg h22,if_pos h23]
  exact Gj _
 by_cases h24:k=24
 ·rw [Di,if_neg h12,if_neg h13,if_neg h14,if_neg h15,if_neg h16,if_neg h17,if_neg h18,if_neg h19,if_neg h20,if_neg h21,if_neg h22,if_neg h23,if_pos h24]
  exact Gj _
 rw [Di,if_neg h12,if_neg h13,if_neg h14,if_neg h15,if_neg h16,if_neg h17,if_neg h18,if_neg h19,if_neg h20,if_neg h21,if_neg h22,if_neg h23,if_neg h24]
 exact ⟨by decide,by decide⟩
theorem Aoq {c:Cd} {v:Vn} {m:Ms} (hv:AY c=0) (he:EnvI c v) (h:MOk c m) (hef:m.ef.length≤1000):StepQ c v m (AI c m.pc):=by
 have hl:=CK hv
 have hp:=Ws hv h.r
 obtain ⟨f1,f2,f3⟩:=(Jd hv).fits _ _ h.r
 have htk:=Bb6 (AI c m.pc).op
 have hk:m.pc.toNat < c.ins.length:=An
 have hx:insP c (AI c m.pc)=false:=(Kl hv hk).1
 have hll:=he.ll
 have sp:DB (AI c m.pc).op=false→(C0 c (AI c m.pc).op).1≤(AI c m.pc).a∧(AI c m.pc).a≤(C0 c (AI c m.pc).op).2:=fun hj=>by
  simp only [insP,hj,Bool.not_false,KP,Ow] at hx
  exact Fx.1 hx
 refine ⟨hp,f1,rfl,hl.1,?_,?_,hef,?_,?_,?_,?_,?_,?_,?_,?_,?_⟩
 ·have:=f3.1; omega
 ·omega
 ·rw [h.vl]; omega
 ·omega
 ·omega
 ·rintro (h2 | h3)
  ·have:=sp (by simp [DB,h2]); rw [h2] at this; simp [C0] at this; rw [h.vl]; omega
  ·have:=sp (by simp [DB,h3]); rw [h3] at this; simp [C0] at this; rw [h.vl]; omega
 ·intro h4; have:=sp (by simp [DB,h4]); rw [h4] at this; simp [C0] at this; omega
 ·intro h5; have:=sp (by simp [DB,h5]); rw [h5] at this; simp [C0] at this; omega
 ·intro h6; have:=sp (by simp [DB,h6]); rw [h6] at this; simp [C0] at this; omega
 ·intro h29; have:=sp (by simp [DB,h29]); rw [h29] at this; simp [C0] at this; omega
 ·intro hne
  exact Z7 h.st (List.length_pos_iff.2 hne)
theorem Agi {c:Cd} {m:Ms} (hv:AY c=0) (h:MOk c m) (hj:DB (AI c m.pc).op=false):(C0 c (AI c m.pc).op).1≤(AI c m.pc).a∧(AI c m.pc).a≤(C0 c (AI c m.pc).op).2:=by
 have hp:=Ws hv h.r
 obtain ⟨f1,f2,f3⟩:=(Jd hv).fits _ _ h.r
 have hx:insP c (AI c m.pc)=false:=(Kl hv (k:=m.pc.toNat) (by omega)).1
 simp only [insP,hj,Bool.not_false,KP,Ow] at hx
 exact Fx.1 hx
theorem Atk (y:Int):D2 .and .u64 y 1=0∨D2 .and .u64 y 1=1:=by
 have h:(BitVec.ofInt 64 y &&& BitVec.ofInt 64 1).toNat=(BitVec.ofInt 64 y).toNat % 2:=by rw [BitVec.toNat_and,show (BitVec.ofInt 64 1).toNat=1 from rfl,Nat.and_one_is_mod]
 have e:D2 .and .u64 y 1=IntKind.u64.wrap (((BitVec.ofInt 64 y &&& BitVec.ofInt 64 1).toNat:Nat):Int):=rfl
 rw [e,h]
 rcases Qz (BitVec.ofInt 64 y).toNat with h | h <;> rw [h] <;> decide
theorem Atl (y:Int):D2 .and .u32 y 1=0∨D2 .and .u32 y 1=1:=by
 have h:(BitVec.ofInt 32 y &&& BitVec.ofInt 32 1).toNat=(BitVec.ofInt 32 y).toNat % 2:=by rw [BitVec.toNat_and,show (BitVec.ofInt 32 1).toNat=1 from rfl,Nat.and_one_is_mod]
 have e:D2 .and .u32 y 1=IntKind.u32.wrap (((BitVec.ofInt 32 y &&& BitVec.ofInt 32 1).toNat:Nat):Int):=rfl
 rw [e,h]
 rcases Qz (BitVec.ofInt 32 y).toNat with h | h <;> rw [h] <;> decide
theorem Ac3 (x a:Int):D5 (Oh .u64 x a):=by
 unfold Oh
 rcases Atk (GD .u64 x a) with h | h <;> rw [h] <;> (unfold D5; decide)
theorem Ac4 (x a:Int):D5 (Oh .u32 x a):=by
 unfold Oh
 rcases Atl (GD .u32 x a) with h | h <;> rw [h] <;> (unfold D5; decide)
theorem Z8 {l:List Int} (h:∀ x ∈ l,D5 x) {a:Int} (h0:0≤a) (h1:a < l.length):D5 (l.getD a.toNat default):=h _ (DJ (by omega))
theorem Atm {l:List Int} (h:∀ x ∈ l,D5 x) {k:Nat} {n:Int} (hn:D5 n):∀ x ∈ l.set k n,D5 x:=fun x hx=>by
 rcases List.mem_or_eq_of_mem_set hx with hx | hx
 ·exact h x hx
 ·rw [hx]; exact hn
theorem Z9 {c:Cd} {v:Vn} {m:Ms} (hv:AY c=0) (he:EnvI c v) (h:MOk c m) (h31:(AI c m.pc).op≠31):MOk c (AM c v (AI c m.pc) m):=by
 have hp:=Ws hv h.r
 obtain ⟨f1,f2,f3⟩:=(Jd hv).fits _ _ h.r
 have hsp:=Agi hv h
 have htk:=f3.1
 have hll:=he.ll
 have hnx:=fun j n (hs:(j,n) ∈ Cz (AI c m.pc) m.pc m.st.length)=>Rch.step h.r f1 f3 hs
 have hk:m.pc.toNat < c.ins.length:=An
 have hip:insP c (AI c m.pc)=false:=(Kl hv hk).1
 obtain ⟨x,hx⟩:∃ x,AI c m.pc=x:=⟨_,rfl⟩
 rw [hx] at hsp htk hnx h31 hip ⊢
 obtain ⟨op,a⟩:=x
 simp only at hsp htk hnx h31
 obtain ⟨pc,dn,va,st,ef⟩:=m
 obtain ⟨_,h2,h3,h4⟩:=h
 simp only at hnx htk h2 h3 h4
 have hpop:∀ n,∀ x ∈ st.take n,D5 x:=fun n x hx=>h2 x (lx38 hx)
 have htop:0 < st.length→D5 (st.getD (st.length - 1) 0):=fun h0=>Z7 (m:=⟨pc,dn,va,st,ef⟩) h2 h0
 have hlf:∀ x ∈ v.left,D5 x:=fun x hx=>⟨by have:=(he.lf x hx).1; omega,(he.lf x hx).2⟩
 clear f1 f2 f3 hp hx hk
 have key:∀ pc' va' st' ef',Rch c pc' ((st':List Int).length:Nat)→(∀ x ∈ st',D5 x)→(∀ x ∈ va',D5 x)→(va':List Int).length=c.vars.length→MOk c ⟨pc',dn,va',st',ef'⟩:=fun _ _ _ _ g1 g2 g3 g4=>⟨g1,g2,g3,g4⟩
 rcases Ge op with (rfl | rfl | rfl | rfl | rfl | rfl | rfl | rfl | rfl | rfl | rfl | rfl | rfl | rfl | rfl | rfl | rfl | rfl | rfl | rfl | rfl | rfl | rfl | rfl | rfl | rfl | rfl | rfl | rfl | rfl | rfl) | hno
 ·
  refine qd3 ?_
  refine key _ _ _ _ ?_ ?_ ?_ ?_
  ·have e:(((st++[a]:List Int).length:Nat):Int)=(st.length:Int) - 0+1:=by simp [lx7,lx68]
   exact Jj
  ·exact E7 h2 (by have:=hsp (by decide); simp [C0] at this; exact this)
  ·exact h3
  ·exact h4
 ·
  refine qd3 ?_
  refine key _ _ _ _ ?_ ?_ ?_ ?_
  ·have e:(((st++[va.getD a.toNat default]:List Int).length:Nat):Int)=(st.length:Int) - 0+1:=by simp [lx7,lx68]
   exact Jj
  ·exact E7 h2 (by have:=hsp (by decide); simp [C0] at this; exact Z8 h3 this.1 (by omega))
  ·exact h3
  ·exact h4
 ·
  refine qd3 ?_
  have ht:1≤st.length:=QI
  refine key _ _ _ _ ?_ ?_ ?_ ?_
  ·have e:(((st.take (st.length - 1):List Int).length:Nat):Int)=(st.length:Int) - 1+0:=by simp [lx7,lx68]; omega
   exact Jj
  ·exact hpop _
  ·exact Atm h3 (htop ht)
  ·exact (by rw [lx1]; exact h4)
 ·
  refine qd3 ?_
  refine key _ _ _ _ ?_ ?_ ?_ ?_
  ·have e:(((st++[Oh .u64 v.clo a]:List Int).length:Nat):Int)=(st.length:Int) - 0+1:=by simp [lx7,lx68]
   exact Jj
  ·exact E7 h2 (Ac3 _ _)
  ·exact h3
  ·exact h4
 ·
  refine qd3 ?_
  refine key _ _ _ _ ?_ ?_ ?_ ?_
  ·have e:(((st++[Oh .u32 v.act a]:List Int).length:Nat):Int)=(st.length:Int) - 0+1:=by simp [lx7,lx68]
   exact Jj
  ·exact E7 h2 (Ac4 _ _)
  ·exact h3
  ·exact h4
 ·
  refine qd3 ?_
  refine key _ _ _ _ ?_ ?_ ?_ ?_
  ·have e:(((st++[v.left.getD a.toNat default]:List Int).length:Nat):Int)=(st.length:Int) - 0+1:=by simp [lx7,lx68]
   exact Jj
  ·exact E7 h2 (by have:=hsp (by decide); simp [C0] at this; exact Z8 hlf this.1 (by omega))
  ·exact h3
  ·exact h4
 ·
  refine qd3 ?_
  refine key _ _ _ _ ?_ ?_ ?_ ?_
  ·have e:(((st++[v.pl']:List Int).length:Nat):Int)=(st.length:Int) - 0+1:=by simp [lx7,lx68]
   exact Jj
  ·exact E7 h2 (⟨by have:=he.p; omega,he.p.2⟩)
  ·exact h3
  ·exact h4
 ·
  refine qd3 ?_
  refine key _ _ _ _ ?_ ?_ ?_ ?_
  ·have e:(((st++[v.ba]:List Int).length:Nat):Int)=(st.length:Int) - 0+1:=by simp [lx7,lx68]
   exact Jj
  ·exact E7 h2 (⟨by have:=he.b; omega,he.b.2⟩)
  ·exact h3
  ·exact h4
 ·
  refine qd3 ?_
  have ht:1≤st.length:=QI
  refine key _ _ _ _ ?_ ?_ ?_ ?_
  ·have e:(((st.take (st.length - 1)++[Wq 10 (st.getD (st.length - 1) 0)]:List Int).length:Nat):Int)=(st.length:Int) - 1+1:=by simp [lx7,lx68]; omega
   exact Jj
  ·exact E7 (hpop _) (Agh _ _)
  ·exact h3
  ·exact h4
 ·
  refine qd3 ?_
  have ht:1≤st.length:=QI
  refine key _ _ _ _ ?_ ?_ ?_ ?_
  ·have e:(((st.take (st.length - 1)++[Wq 11 (st.getD (st.length - 1) 0)]:List Int).length:Nat):Int)=(st.length:Int) - 1+1:=by simp [lx7,lx68]; omega
   exact Jj
  ·exact E7 (hpop _) (Agh _ _)
  ·exact h3
  ·exact h4
 ·
  refine qd3 ?_
  have ht:2≤st.length:=QI
  refine key _ _ _ _ ?_ ?_ ?_ ?_
  ·have e:((((st.take (st.length - 1)).take ((st.take (st.length - 1)).length - 1)++[Di a ((st.take (st.length - 1)).getD ((st.take (st.length - 1)).length - 1) 0) (st.getD (st.length - 1) 0)]:List Int).length:Nat):Int)=(st.length:Int) - 2+1:=by simp [lx7,lx68]; omega
   exact Jj
  ·exact E7 (fun x hx=>hpop _ x (lx38 hx)) (Aop _ _ _)
  ·exact h3
  ·exact h4
 ·
  exact qc2
 ·
  refine qd3 ?_
  have ht:1≤st.length:=QI
  have e:(((st.take (st.length - 1)).length:Nat):Int)=(st.length:Int) - 1:=by simp [lx68]; omega
  by_cases hz:st.getD (st.length - 1) 0=0
  ·exact Ayi
  ·exact Ayi
 ·
  refine qd3 ?_
  have ht:1≤st.length:=QI
  have e:(((st.take (st.length - 1)).length:Nat):Int)=(st.length:Int) - 1:=by simp [lx68]; omega
  by_cases hz:st.getD (st.length - 1) 0≤0
  ·exact Ayi
  ·simp only [hz,↓reduceIte]
   have htp:=htop (by omega)
   refine key _ _ _ _ ?_ (E7 (hpop _) ⟨by omega,by have:=htp.2; omega⟩) h3 h4
   have e:(((st.take (st.length - 1)++[st.getD (st.length - 1) 0 - 1]).length:Nat):Int)=(st.length:Int):=by simp [lx7,lx68]; omega
   rw [e]; exact hnx _ _ (by simp [Cz])
 ·
  exact qc8
 ·
  exact qc2
 ·
  exact qc2
 ·
  exact qc2
 ·
  exact qc8
 ·
  refine qd3 ?_
  have ht:2≤st.length:=QI
  refine key _ _ _ _ ?_ ?_ ?_ ?_
  ·have e:((((st.take (st.length - 1)).take ((st.take (st.length - 1)).length - 1):List Int).length:Nat):Int)=(st.length:Int) - 2+0:=by simp [lx7,lx68]; omega
   exact Jj
  ·exact fun x hx=>hpop _ x (lx38 hx)
  ·exact h3
  ·exact h4
 ·
  exact qc8
 ·
  exact qc2
 ·
  exact qc2
 ·
  exact qc2
 ·
  exact qc2
 ·
  exact qc2
 ·
  exact qc2
 ·
  exact qc2
 ·
  exact qc8
 ·
  exact qc2
 ·exact absurd rfl h31
 ·exact Bco
end Go.Proofs.YtdjpkhjaibdogaaGreat
namespace Go.Proofs.YtdjpkhjaibdogaaGreat
open Go Go.SX
attribute [local congr] ite_congr
def C1 (c:Cd) (v:Vn):Nat→Ms→Ms × Nat
 | 0,m=>(m,0)
 | f+1,m=>if m.dn=true∨256 < m.ef.length then (m,0) else ((C1 c v f (AM c v (AI c m.pc) m)).1,(C1 c v f (AM c v (AI c m.pc) m)).2+1)
structure ExeQ (c:Cd) (v:Vn) (at':Int):Prop where
 fit:Fit c
 env:H4 c v=true
 ent:∃ e ∈ c.ens,e.pc=at'
def L0 (v:Vn) (at':Int):Ms:=⟨at',false,v.vars,[],[]⟩
theorem Atn {c:Cd} {at':Int} (h:∃ e ∈ c.ens,e.pc=at'):c.ens.any (fun x=>x.pc == at')=true:=by
 obtain ⟨e,he,h1⟩:=h
 exact List.any_eq_true.2 ⟨e,he,by simp [h1]⟩
theorem Ac5 (c:Cd) (v:Vn) (at':Int) (h:ExeQ c v at') (B0 B1:Blk) (n:Nat):HSpec Tryz.prog 203 [CI c,.sc (.int .i64 at'),UK v,.sc (.int .i64 1000)] [B0,B1] n (.tu [.pt 6 (n+5) 0 0,.sc (.int .i64 0)])
  [B0,B1,dead,dead,dead,⟨true,n+4,3,1,v.vars.map (kA .i64),false⟩,⟨true,n+5,253,17,[.ag [.vw c.zi (c.ins.map Gd),.vw c.zs (c.strs.map stA),.vw c.ze (c.ens.map Fw),.vw c.zp (c.pri.map (kA .i64)),.vw c.zv (c.vars.map (kA .i64)),kA .i64 c.tim,kA .i64 c.evs,
   .sl 5 (n+4) 0 v.vars.length,.vw v.zl (v.left.map (kA .i64)),.sc (.int .u64 v.clo),.sc (.int .u32 v.act),kA .i64 v.pl',kA .i64 v.ba,kA .i64 at',bA false,.vw true [],.vw true []]],false⟩] (n+6):=by
 have hv:=Ix h.env
 have hln:=CK hv
 have hq:=h.fit
 have E77:=e77 c v hq
 rw [h.env] at E77
 obtain ⟨F190,k190,E190⟩:=I9 (Ano Bk4 (fun x=>x.pc == at') [kA .i64 at'] c.ze c.ens (fun x _=>Bqc x at') (by omega))
 rw [Atn h.ent] at E190
 simp only [Ai,Dq,AL,Bb] at E77 E190
 have hvl:v.vars.length≤1000000:=by
  have he:=h.env
  simp only [H4,AH,lx86] at he
  have:=he.1.1.1.1.1.1.2
  omega
 obtain ⟨F54,k54,E54⟩:=DU (Jb v.zv v.vars [B0,B1,⟨true,n,36,7,[CI c],false⟩,⟨true,n+1,3,1,[.sc (.int .i64 at')],false⟩,⟨true,n+1+1,104,6,[UK v],false⟩] (n+1+1+1) hvl)
 simp only [Ai,Dq,AL,lx90,lx64,lx52,lx63,Nat.reduceAdd] at E54
 refine Ad (Af (lit:=false) (pm:=fun _=>none) (.cons Bhg (.cons k190 .nil)) .nil .nil (.cons k54 .nil)) rfl Tryz.func203 rfl (by decide) (by kernel_rfl) ?_
 simp only [Tryz.f203,Ae,lx52,lx63,Nat.reduceAdd,Nat.reduceSub,List.replicate]
 refine Ac ?_
 exact zF1 (a4 E77 E190 E54 @Dq)
 all_goals done
theorem Aor {c:Cd} {m:Ms} (hv:AY c=0) (h:MOk c m):opI (AI c m.pc).op:=by
 have hp:=Ws hv h.r
 obtain ⟨f1,f2,f3⟩:=(Jd hv).fits _ _ h.r
 have hip:insP c (AI c m.pc)=false:=(Kl hv (k:=m.pc.toNat) (by omega)).1
 generalize AI c m.pc=x at hip
 obtain ⟨op,a⟩:=x
 rcases Ge op with ho | hno
 ·exact ho
 ·exfalso
  exact Bco
theorem Bb7 {c:Cd} {v:Vn} {m m':Ms} {w u s e w' u' s' e':Nat} {E E':List AV} (h:mH c v m w u s e E=mH c v m' w' u' s' e' E') (hE:E.take m.st.length=m.st.map (kA .i64)) (hE':E'.take m'.st.length=m'.st.map (kA .i64)):
  m=m'∧w=w'∧u=u'∧s=s'∧e=e'∧E=E':=by
 obtain ⟨pc,dn,va,st,ef⟩:=m
 obtain ⟨pc',dn',va',st',ef'⟩:=m'
 simp only [mH,kA,bA,lx94,Blk.mk.injEq,AV.ag.injEq,AV.sl.injEq,AV.sc.injEq,Value.int.injEq,Value.bool.injEq,AW,C5] at h hE hE'
 obtain ⟨⟨rfl,⟨_,g1⟩,rfl,rfl,⟨_,g2⟩,_,g3⟩,⟨rfl,g4⟩,⟨rfl,g5⟩,rfl,g6⟩:=h
 obtain rfl:=(DM (f:=fun x=>AV.sc (.int .i64 x)) (fun _ _ h=>by simpa using h) g4:va=va')
 obtain rfl:=Afz.1 g6
 subst g5
 rw [←g2,hE] at hE'
 obtain rfl:=(DM (f:=fun x=>AV.sc (.int .i64 x)) (fun _ _ h=>by simpa using h) hE':st=st')
 simp
def Bka (c:Cd) (v:Vn) (args:List AV) (H:List Blk) (cnt:Nat) (r:AV) (H':List Blk) (cnt':Nat):Prop:=
 ∀ (m:Ms) (w u s e:Nat) (E:List AV),args=[.pt 0 w 0 0]→H=mH c v m w u s e E→E.take m.st.length=m.st.map (kA .i64)→
  r=.tu []∧∃ s' e' E',H'=mH c v (AM c v (AI c m.pc) m) w u s' e' E'∧E'.take (AM c v (AI c m.pc) m).st.length=(AM c v (AI c m.pc) m).st.map (kA .i64)
noncomputable def f204 (c:Cd) (v:Vn):=hF Tryz.prog 204 (Bka c v)
theorem Bkb (c:Cd) (v:Vn):Jo Tryz.prog 204 (f204 c v):=Ee _ _ _
theorem Bqh {c:Cd} {v:Vn} {m:Ms} (h:StepQ c v m (AI c m.pc)) (ho:opI (AI c m.pc).op) (w u s e:Nat) (E:List AV) (hE:E.take m.st.length=m.st.map (kA .i64)) (cnt:Nat):
  ∃ s' e' E' cnt',f204 c v [.pt 0 w 0 0] (mH c v m w u s e E) cnt=some (.tu [],mH c v (AM c v (AI c m.pc) m) w u s' e' E',cnt')∧E'.take (AM c v (AI c m.pc) m).st.length=(AM c v (AI c m.pc) m).st.map (kA .i64):=by
 obtain ⟨s',e',E',cnt',h1,h2⟩:=Aoo c v m _ h ho w u s e E hE cnt
 obtain ⟨r,H',c',g1,g2⟩:=O7 (D:=Bka c v) h1 (by
  intro m' w' u' s2 e2 E2 a1 a2 a3
  obtain ⟨rfl,rfl,rfl,rfl,rfl,rfl⟩:=Bb7 a2 hE a3
  exact ⟨rfl,s',e',E',rfl,h2⟩)
 obtain ⟨rfl,s3,e3,E3,rfl,k2⟩:=g2 m w u s e E rfl rfl hE
 exact ⟨s3,e3,E3,c',g1,k2⟩
end Go.Proofs.YtdjpkhjaibdogaaGreat
