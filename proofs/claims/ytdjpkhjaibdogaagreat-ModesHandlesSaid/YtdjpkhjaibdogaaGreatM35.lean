/-
  Lemmas towards ModesHandles (joined texts: FK, FL, FM, FN).
  Conditions: none.
-/
import Derived.Test.YtdjpkhjaibdogaaGreatM01
import Derived.Test.YtdjpkhjaibdogaaGreatM02
import Derived.Test.YtdjpkhjaibdogaaGreatM33
import Derived.Test.YtdjpkhjaibdogaaGreatM34
set_option linter.unusedSimpArgs false
set_option linter.unusedVariables false
set_option maxRecDepth 100000
set_option maxHeartbeats 8000000
namespace Go.Proofs.YtdjpkhjaibdogaaGreat
open Go Go.SX
attribute [local congr] ite_congr
theorem Xm (c:Cd) (v:Vn) (at':Int) (h:ExeQ c v at') (B0 B1:Blk) (n:Nat):HSpec Tryz.prog 221 [Bv c,.sc (.int .i64 at'),JA v,.sc (.int .i64 1000)] [B0,B1] n (.tu [.pt 5 (n+3) 0 0,.sc (.int .i64 0)])
  [B0,B1,dead,dead,⟨true,n+2,3,1,v.vars.map (kA .i64),false⟩,⟨true,n+3,269,19,[.ag [.vw c.zi (c.ins.map BY),.vw c.zs (c.strs.map stA),.vw c.ze (c.ens.map D3),.vw c.zp (c.pri.map (kA .i64)),.vw c.zv (c.vars.map (kA .i64)),kA .i64 c.tim,kA .i64 c.evs,
   .vw v.zv (v.vars.map (kA .i64)),.vw v.zl (v.left.map (kA .i64)),.sc (.int .u64 v.clo),.sc (.int .u32 v.act),kA .i64 v.pl',kA .i64 v.ba,.sl 4 (n+2) 0 v.vars.length,.vw true [],.vw true [],kA .i64 at',kA .i64 0,bA false]],false⟩] (n+4):=by
 have hv:=Fe h.env
 have hln:=B9 hv
 have hq:=h.fit
 have E77:=e77 c v hq
 rw [h.env] at E77
 simp only [Aa,AP,AA,AY] at E77
 refine Ag (Aj (lit:=false) (pm:=fun _=>none) (.cons Bb7 .nil) .nil .nil .nil) rfl Tryz.func221 rfl (by decide) (by kernel_rfl) ?_
 simp only [Tryz.f221,Af,lx53,lx63,Nat.reduceAdd,Nat.reduceSub,List.replicate]
 refine Ab ?_
 refine It E77 ?_
 refine Am (σ:=Nat) (fun r _=>⟨Bm 0 50 [(0,Bv c),(1,.sc (.int .i64 at')),(2,JA v),(3,.sc (.int .i64 1000)),(4,.pt 2 n 0 0),(6,.pt 3 (n+1) 0 0),(10,.sc (.bool ((c.ens.take r).any (fun x=>x.pc == at')))),(11,.sc (.int .i64 (r:Int)))],
  [B0,B1,⟨true,n,36,7,[Bv c],false⟩,⟨true,n+1,104,6,[JA v],false⟩],n+1+1⟩) (fun r=>r≤c.ens.length) (fun r=>c.ens.length - r) 0 (BT _) ?_ ?_ rfl ?_
 ·simp (maxSteps:=10000000) only [AX,AW,↓reduceIte,reduceCtorEq,Nat.reduceAdd,Nat.reduceEqDiff,Bm,D2,Aa,AP,List.any_nil]
 ·simp (maxSteps:=10000000) only [AX,AW,Aa,AP]
 rintro r cnt hr ih
 have hr:r≤c.ens.length:=hr
 by_cases hr':r < c.ens.length
 ·have h1:decide ((r:Int) < (c.ens.length:Int))=true:=by rw [AR]; omega
  have h2:decide (r < c.ens.length)=true:=Ae
  have w1:IntKind.i64.wrap ((r:Int)+1)=((r+1:Nat):Int):=Ay
  have ih2:=ih (r+1) cnt (show r+1≤c.ens.length by omega) (show c.ens.length - (r+1) < c.ens.length - r by omega)
  rw [W2 hr'] at ih2
  obtain ⟨x,hx⟩:∃ x,c.ens.getD r default=x:=⟨_,rfl⟩
  rw [hx] at ih2
  generalize (c.ens.take r).any (fun x=>x.pc == at')=b at *
  refine Ab ?_
  refine BJ ?_
  cases b <;> simp (maxSteps:=10000000) +contextual -implicitDefEqProofs only [AX,AW,Ap,St.put,↓reduceIte,reduceCtorEq,Dd,CO,Bw,Aa,AP,AV.noref,h1,h2,w1,Cq,Ax,hx]
  all_goals refine Av ?_ ?_ (Aw _) ih2
  all_goals simp (maxSteps:=10000000) only [AX,AW,↓reduceIte,reduceCtorEq,Nat.reduceAdd,Nat.reduceEqDiff,Bm,D2,Aa,AP]
  all_goals done
 obtain rfl:r=c.ens.length:=Ai
 have h1:decide ((c.ens.length:Int) < (c.ens.length:Int))=false:=Bc
 have hany:(c.ens.take c.ens.length).any (fun x=>x.pc == at')=true:=by rw [lx74]; exact Abn h.ent
 rw [hany]
 clear ih
 have hvl:v.vars.length≤1000000:=by
  obtain ⟨_,_,g⟩:=Xk h.env
  omega
 have hz:decide (v.vars.length * 8≤140737488355328)=true:=Ae
 refine Ab ?_
 refine BJ ?_
 exact Xy (a2 h1 hz)
 repeat' (first | exact Ac (by kernel_rfl) | refine ⟨Ac (by kernel_rfl),?_⟩ | refine And.intro ?_ ?_ | fail)
 all_goals first | exact .refl _ | omega | trivial | skip
 all_goals done
theorem Auo {c:Cd} {v:Vn} {m m':Ms} {k k' w u s e w' u' s' e':Nat} {E E':List AV} (h:rH c v m k w u s e E=rH c v m' k' w' u' s' e' E') (hE:E.take m.st.length=m.st.map (kA .i64)) (hE':E'.take m'.st.length=m'.st.map (kA .i64)):
  m=m'∧k=k'∧w=w'∧u=u'∧s=s'∧e=e'∧E=E':=by
 obtain ⟨pc,dn,va,st,ef⟩:=m
 obtain ⟨pc',dn',va',st',ef'⟩:=m'
 simp only [rH,kA,bA,lx96,Blk.mk.injEq,AV.ag.injEq,AV.sl.injEq,AV.sc.injEq,Value.int.injEq,Value.bool.injEq,Az,Du] at h hE hE'
 obtain ⟨⟨rfl,⟨_,g1⟩,⟨_,g2⟩,⟨_,g3⟩,rfl,g7,rfl⟩,⟨rfl,g4⟩,⟨rfl,g5⟩,rfl,g6⟩:=h
 obtain rfl:=(D8 (f:=fun x=>AV.sc (.int .i64 x)) (fun _ _ h=>by simpa using h) g4:va=va')
 obtain rfl:=KK.1 g6
 subst g5
 rw [←g2,hE] at hE'
 obtain rfl:=(D8 (f:=fun x=>AV.sc (.int .i64 x)) (fun _ _ h=>by simpa using h) hE':st=st')
 obtain rfl:k=k':=Ai
 simp
def Bc0 (c:Cd) (v:Vn) (args:List AV) (H:List Blk) (cnt:Nat) (r:AV) (H':List Blk) (cnt':Nat):Prop:=
 ∀ (m:Ms) (k w u s e:Nat) (E:List AV),args=[.pt 0 w 0 0]→H=rH c v m k w u s e E→E.take m.st.length=m.st.map (kA .i64)→
  r=.tu []∧∃ s' e' E',H'=rH c v (Au c v (AD c m.pc) m) (k+1) w u s' e' E'∧E'.take (Au c v (AD c m.pc) m).st.length=(Au c v (AD c m.pc) m).st.map (kA .i64)
noncomputable def f222 (c:Cd) (v:Vn):=hF Tryz.prog 222 (Bc0 c v)
theorem Bc1 (c:Cd) (v:Vn):M8 Tryz.prog 222 (f222 c v):=JC _ _ _
theorem Bgv {c:Cd} {v:Vn} {m:Ms} (h:StepQ c v m (AD c m.pc)) (ho:opI (AD c m.pc).op) (k:Nat) (hk:k≤100000) (w u s e:Nat) (E:List AV) (hE:E.take m.st.length=m.st.map (kA .i64)) (cnt:Nat):
  ∃ s' e' E' cnt',f222 c v [.pt 0 w 0 0] (rH c v m k w u s e E) cnt=some (.tu [],rH c v (Au c v (AD c m.pc) m) (k+1) w u s' e' E',cnt')∧E'.take (Au c v (AD c m.pc) m).st.length=(Au c v (AD c m.pc) m).st.map (kA .i64):=by
 obtain ⟨s',e',E',cnt',h1,h2⟩:=Adt c v m _ h ho k hk w u s e E hE cnt
 obtain ⟨r,H',c',g1,g2⟩:=JD (D:=Bc0 c v) h1 (by
  intro m' k' w' u' s2 e2 E2 a1 a2 a3
  obtain ⟨rfl,rfl,rfl,rfl,rfl,rfl,rfl⟩:=Auo a2 hE a3
  exact ⟨rfl,s',e',E',rfl,h2⟩)
 obtain ⟨rfl,s3,e3,E3,rfl,k2⟩:=g2 m k w u s e E rfl rfl hE
 exact ⟨s3,e3,E3,c',g1,k2⟩
theorem Aj8 {c:Cd} {v:Vn} {x:In} {m:Ms} (h0:m.dn=false) (h:(Au c v x m).dn=true):(Au c v x m).ef=m.ef:=by
 obtain ⟨op,a⟩:=x
 obtain ⟨pc,dn,va,st,ef⟩:=m
 simp only at h0
 subst h0
 by_cases h31:op=31
 ·subst h31; rfl
 exfalso
 have put:∀ n (m:Ms),(Jm n m).dn=m.dn:=fun _ _=>rfl
 have pop:∀ (m:Ms),(HO m).dn=m.dn:=fun _=>rfl
 have eff:∀ x (m:Ms),(Nr x m).dn=m.dn:=fun _ _=>rfl
 rcases DF op with (rfl | rfl | rfl | rfl | rfl | rfl | rfl | rfl | rfl | rfl | rfl | rfl | rfl | rfl | rfl | rfl | rfl | rfl | rfl | rfl | rfl | rfl | rfl | rfl | rfl | rfl | rfl | rfl | rfl | rfl | rfl) | hno
 ·exact MQ
 ·exact MQ
 ·exact MQ
 ·exact MQ
 ·exact MQ
 ·exact MQ
 ·exact MQ
 ·exact MQ
 ·exact MQ
 ·exact MQ
 ·exact MQ
 ·exact MQ
 ·simp only [Au,opS,Int.reduceEq,lx6,lx7,↓reduceIte] at h
  by_cases hz:G9 ⟨pc+1,false,va,st,ef⟩=0 <;> simp only [hz,↓reduceIte,pop,put] at h <;> cases h
 ·simp only [Au,opS,Int.reduceEq,lx6,lx7,↓reduceIte] at h
  by_cases hz:G9 ⟨pc+1,false,va,st,ef⟩≤0 <;> simp only [hz,↓reduceIte,pop,put] at h <;> cases h
 ·exact MQ
 ·exact MQ
 ·exact MQ
 ·exact MQ
 ·exact MQ
 ·exact MQ
 ·exact MQ
 ·exact MQ
 ·exact MQ
 ·exact MQ
 ·exact MQ
 ·exact MQ
 ·exact MQ
 ·exact MQ
 ·exact MQ
 ·exact MQ
 ·exact h31 rfl
 ·have g:∀ k:Int,1≤k→k≤31→(op=k)=False:=fun k h1 h2=>by have:=hno k h1 h2; simpa using this
  simp [Au,opS,g,eff] at h
def Nu (w:Nat) (wid:Nat):List AV:=Bm 0 58 [(3,.sc (.int .i64 1000)),(12,.pt wid w 0 0)]
theorem Anb {σ:Nat→Nat} {c2:Nat} {H:List Blk} {a w b w':Nat} (h:Rn 0 σ c2 H (.pt a w 0 0) (.pt b w' 0 0)):RnL 0 σ c2 H (Nu w a) (Nu w' b):=by
 unfold Nu
 exact Awu
theorem YD (c:Cd) (v:Vn) (at':Int) (h:ExeQ c v at'):Hz Tryz.prog 199 [Bv c,.sc (.int .i64 at'),JA v,.sc (.int .i64 1000)] (JJ (Gk c v at')):=by
 have hv:=Fe h.env
 obtain ⟨he,_,_⟩:=Xk h.env
 have hm0:=YC h
 obtain ⟨F221,k221,E221⟩:=Dz (Xm c v at' h ⟨true,0,36,7,[Bv c],false⟩ ⟨true,1,104,6,[JA v],false⟩ 2)
 simp only [Aa,AP,AA,AY,dead,Nat.reduceAdd] at E221
 refine D1 (Aj (lit:=false) (pm:=fun _=>none) .nil .nil .nil (.cons k221 (.cons (Bc1 c v) .nil))) rfl Tryz.func199 rfl (by decide) (by kernel_rfl) (QY _) ?_
 simp only [Tryz.f199,Af,lx53,lx63,Nat.reduceAdd,Nat.reduceSub,List.replicate]
 refine Ab ?_
 refine It E221 ?_
 refine Av (T':=Nu 5 5) (H':=[dead,dead,dead,dead,⟨true,4,3,1,v.vars.map (kA .i64),false⟩,⟨true,5,269,19,[.ag [.vw c.zi (c.ins.map BY),.vw c.zs (c.strs.map stA),.vw c.ze (c.ens.map D3),.vw c.zp (c.pri.map (kA .i64)),.vw c.zv (c.vars.map (kA .i64)),.sc (.int .i64 c.tim),.sc (.int .i64 c.evs),.vw v.zv (v.vars.map (kA .i64)),.vw v.zl (v.left.map (kA .i64)),.sc (.int .u64 v.clo),.sc (.int .u32 v.act),.sc (.int .i64 v.pl'),.sc (.int .i64 v.ba),.sl 4 4 0 v.vars.length,.vw true [],.vw true [],.sc (.int .i64 at'),.sc (.int .i64 0),.sc (.bool false)]],false⟩]) ?_ ?_ (Aw _) ?_
 ·simp (maxSteps:=10000000) only [AX,AW,↓reduceIte,reduceCtorEq,Nat.reduceAdd,Nat.reduceEqDiff,Bm,D2,Nu]
 ·simp (maxSteps:=10000000) only [AX,AW,dead]
 refine E6 (T':=Nu 5 5) (H':=[dead,dead,dead,dead,⟨true,4,3,1,v.vars.map (kA .i64),false⟩,⟨true,5,269,19,[.ag [.vw c.zi (c.ins.map BY),.vw c.zs (c.strs.map stA),.vw c.ze (c.ens.map D3),.vw c.zp (c.pri.map (kA .i64)),.vw c.zv (c.vars.map (kA .i64)),.sc (.int .i64 c.tim),.sc (.int .i64 c.evs),.vw v.zv (v.vars.map (kA .i64)),.vw v.zl (v.left.map (kA .i64)),.sc (.int .u64 v.clo),.sc (.int .u32 v.act),.sc (.int .i64 v.pl'),.sc (.int .i64 v.ba),.sl 4 4 0 v.vars.length,.sl 6 6 0 0,.vw true [],.sc (.int .i64 at'),.sc (.int .i64 0),.sc (.bool false)]],false⟩]) 6 3 1 7 (by omega) (by omega) (BP _ _ _) ?_ ?_
 ·refine S2 ?_
  refine ⟨.inl rfl,.inl rfl,.inl rfl,.inl rfl,.inl rfl,Fp _ _ _ _ _ _ _ _ _ _ ⟨Gf ⟨.refl _,.refl _,.refl _,.refl _,.refl _,.refl _,.refl _,.refl _,.refl _,.refl _,.refl _,.refl _,.refl _,.refl _,.nil,BP _ _ _⟩,trivial⟩⟩
 refine qd5 ?_
 refine E6 (T':=Nu 5 5) (H':=[dead,dead,dead,dead,⟨true,4,3,1,v.vars.map (kA .i64),false⟩,⟨true,5,269,19,[.ag [.vw c.zi (c.ins.map BY),.vw c.zs (c.strs.map stA),.vw c.ze (c.ens.map D3),.vw c.zp (c.pri.map (kA .i64)),.vw c.zv (c.vars.map (kA .i64)),.sc (.int .i64 c.tim),.sc (.int .i64 c.evs),.vw v.zv (v.vars.map (kA .i64)),.vw v.zl (v.left.map (kA .i64)),.sc (.int .u64 v.clo),.sc (.int .u32 v.act),.sc (.int .i64 v.pl'),.sc (.int .i64 v.ba),.sl 4 4 0 v.vars.length,.sl 6 6 0 0,.sl 7 7 0 0,.sc (.int .i64 at'),.sc (.int .i64 0),.sc (.bool false)]],false⟩,⟨true,6,3,1,[],false⟩]) 7 73 5 8 (by omega) (by omega) (BP _ _ _) ?_ ?_
 ·refine S2 ?_
  refine ⟨.inl rfl,.inl rfl,.inl rfl,.inl rfl,.inl rfl,Fp _ _ _ _ _ _ _ _ _ _ ⟨Gf ⟨.refl _,.refl _,.refl _,.refl _,.refl _,.refl _,.refl _,.refl _,.refl _,.refl _,.refl _,.refl _,.refl _,.refl _,.refl _,.nil,BP _ _ _⟩,trivial⟩,.inl rfl⟩
 refine qd5 ?_
 have hpt:∀ {H:List Blk} (j v':Nat) (B:Blk),H[Hl [5,4,6,7] j]?=some B→B.live=true→B.ver=v'→Rn 0 (Hl [5,4,6,7]) 9 H (.pt (Hl [5,4,6,7] j) v' 0 0) (.pt j 8 0 0):=fun {H} j v' B e1 e2 e3=>by
  have:=Rn.pt (d:=0) (σ:=Hl [5,4,6,7]) (c2:=9) (H1:=H) (v2:=8) j v' 0 0 B e1 e2 e3 (by omega)
  rwa [B4] at this
 have hsl:∀ {H:List Blk} (j v' n:Nat) (B:Blk),H[Hl [5,4,6,7] j]?=some B→B.live=true→B.ver=v'→Rn 0 (Hl [5,4,6,7]) 9 H (.sl (Hl [5,4,6,7] j) v' 0 n) (.sl j 8 0 n):=fun {H} j v' n B e1 e2 e3=>by
  have:=Rn.sl (d:=0) (σ:=Hl [5,4,6,7]) (c2:=9) (H1:=H) (v2:=8) j v' 0 n B e1 e2 e3 (by omega)
  rwa [B4] at this
 have hvn:(AV.vw v.zv (v.vars.map (kA .i64))).noref=true:=by simp [AV.noref,Bx]
 refine Aqi (T':=Nu 8 0) (H2:=rH c v (Jo v at') 0 8 8 8 8 []) (c2:=9) (Hl [5,4,6,7]) (Anb (hpt 0 5 _ rfl rfl rfl)) ?_ ?_ (by omega) ?_
 ·intro j B2 e1 e2
  have hj:j < 4:=(lx22.1 e1).1
  have h4:j=0∨j=1∨j=2∨j=3:=Ai
  rcases h4 with rfl | rfl | rfl | rfl
  ·cases e1
   refine ⟨_,rfl,rfl,Aw _,(show 8 < 9 by decide),rfl,rfl,rfl,fun i e f g1 g2=>?_⟩
   obtain rfl:i=0:=Aq1
   cases g1; cases g2
   refine ⟨by simp,Ahs ⟨.nr rfl,.nr rfl,.nr rfl,.nr rfl,.nr rfl,.nr rfl,.nr rfl,.nr hvn,.nr rfl,.nr rfl,.nr rfl,.nr rfl,.nr rfl,hsl 1 _ _ _ rfl rfl rfl,hsl 2 _ _ _ rfl rfl rfl,hsl 3 _ _ _ rfl rfl rfl,.nr rfl,.nr rfl,.nr rfl,trivial⟩⟩
  ·cases e1; exact ⟨_,rfl,rfl,Aw _,(show 8 < 9 by decide),rfl,rfl,rfl,Hk (Bx _) (HD (f:=kA .i64) (fun x=>by simp [kA]) _)⟩
  ·exact Apl
  ·exact Apl
 ·intro i j Bi Bj e1 e2 _ _ e
  have hi:i < 4:=(lx22.1 e1).1
  have hj:j < 4:=(lx22.1 e2).1
  revert e
  have key:∀ i,i < 4→∀ j,j < 4→Hl [5,4,6,7] i=Hl [5,4,6,7] j→i=j:=by decide
  exact key i hi j hj
 obtain ⟨B,hB⟩:∃ B:Nat,B=1000:=⟨_,rfl⟩
 have hx:Gk c v at'=if (CX c v B (Jo v at')).1.dn=true∧(CX c v B (Jo v at')).1.ef.length≤256 then
  some ((CX c v B (Jo v at')).1.va,(CX c v B (Jo v at')).1.ef,(CX c v B (Jo v at')).2) else none:=by rw [hB]; rfl
 rw [hx]
 clear hx
 refine Am (σ:=Nat × Ms × Nat × Nat × List AV) (fun y cnt=>⟨Nu 8 0,rH c v y.2.1 y.1 8 8 y.2.2.1 y.2.2.2.1 y.2.2.2.2,cnt⟩)
  (fun y=>y.1≤B∧(y.2.1.dn=false→MOk c y.2.1)∧y.2.1.ef.length≤257∧(y.2.1.dn=true→y.2.1.ef.length≤256)∧y.2.2.2.2.take y.2.1.st.length=y.2.1.st.map (kA .i64)∧
   CX c v B (Jo v at')=((CX c v (B - y.1) y.2.1).1,y.1+(CX c v (B - y.1) y.2.1).2)) (fun y=>B - y.1) (0,Jo v at',8,8,[]) ⟨BT _,fun _=>hm0,by simp [Jo],by simp [Jo],rfl,by rw [Nat.sub_zero,B4]⟩ (CT _) (AM _) rfl ?_
 rintro ⟨n,m,s,e,E⟩ cnt ⟨hn,hm,hef,hed,hE,hrun⟩ ih
 simp only at hn hm hef hed hE hrun
 have n1:decide ((1000:Int)≤(n:Int))=decide (B≤n):=Rr
 have n2:decide ((256:Int) < ((m.ef.length:Nat):Int))=decide (256 < m.ef.length):=Rr
 by_cases hgo:m.dn=false∧n < B∧m.ef.length≤256
 ·obtain ⟨g1,g2,g3⟩:=hgo
  have hm:=hm g1
  have hq:=Xg hv he hm (by omega)
  have hop:=Xi hv hm
  obtain ⟨s',e',E',cnt',x1,x2⟩:=Bgv hq hop n (by omega) 8 8 s e E hE cnt
  have hr1:CX c v (B - n) m=((CX c v (B - (n+1)) (Au c v (AD c m.pc) m)).1,(CX c v (B - (n+1)) (Au c v (AD c m.pc) m)).2+1):=by
   rw [show B - n=(B - (n+1))+1 by omega,CX,if_neg (by rw [g1]; simp; omega)]
  rw [hr1] at hrun
  have hm2:(Au c v (AD c m.pc) m).dn=false→MOk c (Au c v (AD c m.pc) m):=fun hd=>QW hv he hm (fun h31=>by
   have:(Au c v (AD c m.pc) m).dn=true:=by simp [Au,opS,h31]
   rw [this] at hd; cases hd)
  have hef2:(Au c v (AD c m.pc) m).ef.length≤m.ef.length+1:=Xl c v _ m
  have hed2:(Au c v (AD c m.pc) m).dn=true→(Au c v (AD c m.pc) m).ef.length≤256:=fun hd=>by rw [Aj8 g1 hd]; exact g3
  generalize Au c v (AD c m.pc) m=M at x1 x2 hrun hm2 hef2 hed2
  obtain ⟨H2,hH2⟩:∃ H2,rH c v M (n+1) 8 8 s' e' E'=H2:=⟨_,rfl⟩
  rw [hH2] at x1
  have ih2:=fun c'=>ih (n+1,M,s',e',E') c' ⟨by simp only; omega,hm2,by simp only; omega,hed2,x2,by simp only; rw [hrun]; simp only [lx40,Du]; omega⟩ (by simp only; omega)
  simp only [hH2] at ih2
  clear ih hH2 hm2 hef2 hed2 hrun hr1 hop hq x2 hE hm
  have n3:decide (B≤n)=false:=HY
  have n4:decide (256 < m.ef.length)=false:=HY
  rw [n3] at n1
  rw [n4] at n2
  obtain ⟨pc,dn,va,st,ef⟩:=m
  simp only at g1 n2
  subst g1
  simp only [rH,AA,AY] at x1
  refine Ab ?_
  simp only [Nu,rH]
  refine BJ ?_
  refine It (a3 n1 n2 x1) ?_
  repeat' (first | exact Ac (by kernel_rfl) | refine ⟨Ac (by kernel_rfl),?_⟩ | refine And.intro ?_ ?_ | fail)
  refine Av ?_ (AM _) (Aw _) (ih2 _)
  simp (maxSteps:=10000000) only [AX,AW,↓reduceIte,reduceCtorEq,Nat.reduceAdd,Nat.reduceEqDiff,Bm,D2,Nu]
  all_goals done
 have hstop:CX c v (B - n) m=(m,0):=by
  exact Aw9
 rw [hstop] at hrun
 rw [hrun]
 clear ih hstop hrun hm
 simp only [JF]
 obtain ⟨pc,dn,va,st,ef⟩:=m
 simp only at hgo hef hed hE n2
 have te:List.take ef.length (ef.map C6)=ef.map C6:=lx118 (by simp)
 have tv:List.take va.length (va.map (kA .i64))=va.map (kA .i64):=lx118 (by simp)
 cases dn with
 | true=>
  rw [if_pos ⟨rfl,hed rfl⟩]
  refine Ab ?_
  simp only [Nu,rH,JJ]
  refine BJ ?_
  refine It (a2 te tv) ?_
  exact Awl
 | false=>
  rw [if_neg (fun h=>by cases h.1)]
  have hc:decide (B≤n)=true∨decide (256 < ef.length)=true:=by
   rcases Ec n B with h | h
   ·right; rw [AR]; exact Nat.lt_of_not_le fun h'=>hgo ⟨rfl,h,h'⟩
   ·left; rw [AR]; omega
  obtain ⟨b1,hb1⟩:∃ b,decide (B≤n)=b:=⟨_,rfl⟩
  obtain ⟨b2,hb2⟩:∃ b,decide (256 < ef.length)=b:=⟨_,rfl⟩
  rw [hb1] at n1 hc
  rw [hb2] at n2 hc
  cases b1 <;> cases b2 <;> first | (exfalso; revert hc; decide) | skip
  all_goals
   refine Ab ?_
   simp only [Nu,rH,JJ]
   exact Awd
  all_goals done
theorem Abr {α:Type} [Inhabited α] {l:List α} {i:Nat} (h:i < l.length):l.take (i+1)=l.take i++[l.getD i default]:=by
 rw [lx115 h,lx80,lx51 h]; rfl
def Ej (l:List Lo) (m:Int):List Lo:=l.filter fun x=>x.mo != m
theorem Adu {l:List Lo} {m:Int} {r:Nat} (h:r < l.length):Ej (l.take (r+1)) m=Ej (l.take r) m++(if ((l.getD r default).mo != m)=true then [l.getD r default] else []):=by
 rw [Abr h,Ej,List.filter_append,List.filter_cons,List.filter_nil]
 rfl
theorem Adv (z:Bool) (l:List Lo) (m:Int) (hl1:l.length≤100000):Hz Tryz.prog 223 [.vw z (l.map Bg),.sc (.int .i64 m)] (.vw false ((Ej l m).map Bg)):=by
 refine D1 (Aj (lit:=false) (pm:=fun _=>none) .nil .nil .nil .nil) rfl Tryz.func223 rfl (by decide) (by kernel_rfl) (by simp [AV.noref,Jj]) ?_
 simp only [Tryz.f223,Af,lx53,lx63,Nat.reduceAdd,Nat.reduceSub,List.replicate]
 refine Ab ?_
 simp (maxSteps:=10000000) +contextual -implicitDefEqProofs only [AX,AW,St.put,CO]
 refine Av (T':=Bm 0 28 [(0,.vw z (l.map Bg)),(1,.sc (.int .i64 m)),(5,.vw true []),(6,.sc (.int .i64 0))]) ?_ (AM _) (Aw _) ?_
 ·exact F4
 refine E6 (T':=Bm 0 28 [(0,.vw z (l.map Bg)),(1,.sc (.int .i64 m)),(5,.sl 0 0 0 0),(6,.sc (.int .i64 0))]) 0 82 6 1 (by omega) (by omega) ?_ (EW _ _ _) ?_
 ·exact Ael
 refine Ac5 ?_
 refine Am (σ:=Nat × Nat) (fun y cnt=>⟨Bm 0 28 [(0,.vw z (l.map Bg)),(1,.sc (.int .i64 m)),(5,.sl 0 y.2 0 (Ej (l.take y.1) m).length),(6,.sc (.int .i64 (y.1:Int)))],[⟨true,y.2,82,6,(Ej (l.take y.1) m).map Bg,false⟩],cnt⟩)
  (fun y=>y.1≤l.length) (fun y=>l.length - y.1) (0,0) (BT _) ?_ ?_ rfl ?_
 ·simp (maxSteps:=10000000) only [AX,AW,↓reduceIte,reduceCtorEq,Nat.reduceAdd,Nat.reduceEqDiff,Bm,D2,Ej,List.filter_nil]
 ·simp (maxSteps:=10000000) only [AX,AW,Ej,List.filter_nil]
 rintro ⟨r,w⟩ cnt hr ih
 simp only at hr
 by_cases hr':r < l.length
 rotate_left
 ·obtain rfl:r=l.length:=by omega
  have h1:decide ((l.length:Int) < (l.length:Int))=false:=Bc
  rw [lx74]
  have ht:List.take (Ej l m).length ((Ej l m).map Bg)=(Ej l m).map Bg:=lx118 (by simp)
  clear ih
  refine Ab ?_
  refine BJ ?_
  simp (maxSteps:=10000000) +contextual -implicitDefEqProofs only [AX,AW,St.put,Ao,↓reduceIte,Dd,CO,h1,ht]
  all_goals first | exact .refl _ | (refine ⟨.refl _,?_⟩; simp [AV.freshIn,C5,AO,Cc,AV.fresh,HL]; done) | (simp [AV.freshIn,C5,AO,Cc,AV.fresh,HL]; done) | skip
  all_goals done
 have h1:decide ((r:Int) < (l.length:Int))=true:=Ae
 have h2:decide (r < l.length)=true:=Ae
 have w1:IntKind.i64.wrap ((r:Int)+1)=((r+1:Nat):Int):=Ay
 have ih2:=fun w' c'=>ih (r+1,w') c' (by simp only; omega) (by simp only; omega)
 simp only [Adu hr'] at ih2
 have hL:(Ej (l.take r) m).length≤100000:=by
  have:=lx86 (fun x:Lo=>x.mo != m) (l.take r)
  rw [lx68] at this
  unfold Ej; omega
 obtain ⟨x,hx⟩:∃ x,l.getD r default=x:=⟨_,rfl⟩
 rw [hx] at ih2
 generalize Ej (l.take r) m=D at *
 have ht:List.take D.length (D.map Bg)=D.map Bg:=lx118 (by simp)
 have hz:decide ((D.length+1) * 48≤140737488355328)=true:=Ae
 clear ih
 refine Ab ?_
 refine BJ ?_
 cases hb:(x.mo != m)
 ·simp only [hb,Dt,lx7,lx66] at ih2
  refine It (a5 h1 h2 w1 hx hb) ?_
  refine Av ?_ ?_ (Aw _) (ih2 w _)
  all_goals exact YZ
 ·simp only [hb,lx6] at ih2
  refine It (a7 h1 h2 w1 hx hb ht hz) ?_
  repeat' (first | exact Ac (by kernel_rfl) | refine ⟨Ac (by kernel_rfl),?_⟩ | refine And.intro ?_ ?_ | fail)
  refine Av ?_ ?_ (Aw _) (ih2 (cnt+1) _)
  all_goals simp (maxSteps:=10000000) only [AX,AW,↓reduceIte,reduceCtorEq,Nat.reduceAdd,Nat.reduceEqDiff,Bm,D2,lx5,lx12,Bb]
  all_goals done
def Fy (x:Lo) (p:List Lo × Bool) (y:Lo):List Lo × Bool:=
 let q:=if !p.2 && (decide (x.mo < y.mo) || ((y.mo == x.mo) && decide (x.la≤y.la))) then (p.1++[x],true) else p
 if (y.mo != x.mo) || (y.la != x.la) then (q.1++[y],q.2) else q
def Xn (l:List Lo) (x:Lo):List Lo:=if (l.foldl (Fy x) ([],false)).2=true then (l.foldl (Fy x) ([],false)).1 else (l.foldl (Fy x) ([],false)).1++[x]
theorem Aj9 {l:List Lo} {x:Lo} {r:Nat} (h:r < l.length):(l.take (r+1)).foldl (Fy x) ([],false)=Fy x ((l.take r).foldl (Fy x) ([],false)) (l.getD r default):=by
 rw [Abr h,List.foldl_append]; rfl
theorem Anc (x:Lo):∀ l:List Lo,(l.foldl (Fy x) ([],false)).1.length≤2 * l.length:=by
 have key:∀ (l:List Lo) (p:List Lo × Bool),(l.foldl (Fy x) p).1.length≤p.1.length+2 * l.length:=by
  intro l
  induction l with
  | nil=>intro p; simp
  | cons y l ih=>
   intro p
   rw [List.foldl_cons]
   have h1:=ih (Fy x p y)
   have h2:(Fy x p y).1.length≤p.1.length+2:=by
    unfold Fy
    simp only
    split <;> split <;> simp
   simp only [lx53]
   omega
 intro l
 have:=key l ([],false)
 simpa using this
theorem Aja (z:Bool) (l:List Lo) (x:Lo) (hl1:l.length≤100000):Hz Tryz.prog 224 [.vw z (l.map Bg),Bg x] (.vw false ((Xn l x).map Bg)):=by
 refine D1 (Aj (lit:=false) (pm:=fun _=>none) .nil .nil .nil .nil) rfl Tryz.func224 rfl (by decide) (by kernel_rfl) (by simp [AV.noref,Jj]) ?_
 simp only [Tryz.f224,Af,lx53,lx63,Nat.reduceAdd,Nat.reduceSub,List.replicate]
 refine Ab ?_
 simp (maxSteps:=10000000) +contextual -implicitDefEqProofs only [AX,AW,St.put,Nat.reduceAdd,Int.reduceAdd,CO,Bb]
 refine Av (T':=Bm 0 82 [(0,.vw z (l.map Bg)),(1,Bg x),(3,.pt 0 0 0 0),(5,.vw true []),(6,.sc (.bool false)),(7,.sc (.int .i64 0))]) ?_ (AM _) (Aw _) ?_
 ·simp (maxSteps:=10000000) only [AX,AW,↓reduceIte,reduceCtorEq,Nat.reduceAdd,Nat.reduceEqDiff,Bm,D2,Bb]
 refine E6 (T':=Bm 0 82 [(0,.vw z (l.map Bg)),(1,Bg x),(3,.pt 0 0 0 0),(5,.sl 1 1 0 0),(6,.sc (.bool false)),(7,.sc (.int .i64 0))]) 1 82 6 2 (by omega) (by omega) ?_ (EW _ _ _) ?_
 ·exact Ael
 refine Ac5 ?_
 refine Am (σ:=Nat × Nat) (fun y cnt=>⟨Bm 0 82 [(0,.vw z (l.map Bg)),(1,Bg x),(3,.pt 0 0 0 0),(5,.sl 1 y.2 0 ((l.take y.1).foldl (Fy x) ([],false)).1.length),(6,.sc (.bool ((l.take y.1).foldl (Fy x) ([],false)).2)),(7,.sc (.int .i64 (y.1:Int)))],
  [⟨true,0,82,6,[Bg x],false⟩,⟨true,y.2,82,6,((l.take y.1).foldl (Fy x) ([],false)).1.map Bg,false⟩],cnt⟩)
  (fun y=>y.1≤l.length) (fun y=>l.length - y.1) (0,1) (BT _) ?_ ?_ rfl ?_
 ·simp (maxSteps:=10000000) only [AX,AW,↓reduceIte,reduceCtorEq,Nat.reduceAdd,Nat.reduceEqDiff,Bm,D2,List.foldl_nil]
 ·simp (maxSteps:=10000000) only [AX,AW,Bb,List.foldl_nil]
 rintro ⟨r,w⟩ cnt hr ih
 simp only at hr
 have hlen:=Anc x (l.take r)
 rw [lx68] at hlen
 by_cases hr':r < l.length
 rotate_left
 ·obtain rfl:r=l.length:=by omega
  have h1:decide ((l.length:Int) < (l.length:Int))=false:=Bc
  simp only [lx74,Xn] at hlen ⊢
  clear ih
  obtain ⟨P,hP⟩:∃ P,l.foldl (Fy x) ([],false)=P:=⟨_,rfl⟩
  simp only [hP] at hlen ⊢
  obtain ⟨D,d⟩:=P
  simp only at hlen
  have ht:List.take D.length (D.map Bg)=D.map Bg:=lx118 (by simp)
  have hz:decide ((D.length+1) * 48≤140737488355328)=true:=Ae
  refine Ab ?_
  refine BJ ?_
  have he:D.map Bg++[AV.ag [.sc (.int .i64 x.mo),.sc (.int .i64 x.la),.sc (.int .i64 x.se.lv),.sc (.int .i64 x.se.on),.sc (.int .i64 x.se.off),.sc (.int .i64 x.se.si)]]=(D++[x]).map Bg:=Rq
  have htk:List.take (D.length+1) ((D++[x]).map Bg)=(D++[x]).map Bg:=lx118 (by simp)
  cases d <;> simp (maxSteps:=10000000) +contextual -implicitDefEqProofs only [AX,AW,St.put,Ao,↓reduceIte,Nat.reduceAdd,Nat.reduceLeDiff,Nat.reduceMul,Int.reduceLT,Nat.reduceLT,Dd,Int.reduceAdd,Int.reduceMul,CO,Bb,h1,ht,hz,lx12]
  all_goals try repeat' (first | exact Ac (by kernel_rfl) | refine ⟨Ac (by kernel_rfl),?_⟩ | refine And.intro ?_ ?_ | fail)
  all_goals try rw [he]
  all_goals try rw [htk]
  all_goals first | exact .refl _ | (refine ⟨.refl _,?_⟩; simp [AV.freshIn,C5,AO,Cc,AV.fresh,HL]; done) | (generalize D++[x]=DX; simp [AV.freshIn,C5,AO,Cc,AV.fresh,HL]; done) | (simp [AV.freshIn,C5,AO,Cc,AV.fresh,HL]; done) | skip
  all_goals done
 have h1:decide ((r:Int) < (l.length:Int))=true:=Ae
 have h2:decide (r < l.length)=true:=Ae
 have w1:IntKind.i64.wrap ((r:Int)+1)=((r+1:Nat):Int):=Ay
 have ih2:=fun w' c'=>ih (r+1,w') c' (by simp only; omega) (by simp only; omega)
 simp only [Aj9 hr'] at ih2
 obtain ⟨y,hy⟩:∃ y,l.getD r default=y:=⟨_,rfl⟩
 rw [hy] at ih2
 obtain ⟨P,hP⟩:∃ P,(l.take r).foldl (Fy x) ([],false)=P:=⟨_,rfl⟩
 simp only [hP] at hlen ih2 ⊢
 clear ih hP
 obtain ⟨D,d⟩:=P
 simp only at hlen
 have ht:List.take D.length (D.map Bg)=D.map Bg:=lx118 (by simp)
 have hz:decide ((D.length+1) * 48≤140737488355328)=true:=Ae
 have hz2:decide ((D.length+1+1) * 48≤140737488355328)=true:=Ae
 have ht2:List.take (D.length+1) (D.map Bg++[.ag [.sc (.int .i64 x.mo),.sc (.int .i64 x.la),.sc (.int .i64 x.se.lv),.sc (.int .i64 x.se.on),.sc (.int .i64 x.se.off),.sc (.int .i64 x.se.si)]])=D.map Bg++[.ag [.sc (.int .i64 x.mo),.sc (.int .i64 x.la),.sc (.int .i64 x.se.lv),.sc (.int .i64 x.se.on),.sc (.int .i64 x.se.off),.sc (.int .i64 x.se.si)]]:=lx118 (by simp)
 obtain ⟨a,ha⟩:∃ a,decide (x.mo < y.mo)=a:=⟨_,rfl⟩
 obtain ⟨b,hb⟩:∃ b,(y.mo == x.mo)=b:=⟨_,rfl⟩
 obtain ⟨g,hg⟩:∃ g,decide (x.la≤y.la)=g:=⟨_,rfl⟩
 obtain ⟨n,hn⟩:∃ n,(y.la != x.la)=n:=⟨_,rfl⟩
 have hb':(y.mo != x.mo)=!b:=by rw [←hb]; rfl
 have hab:a=true→b=false:=fun h=>by
  rw [←ha,AR] at h
  rw [←hb,lx113]; omega
 have hs:Fy x (D,d) y=(let q:List Lo × Bool:=if !d && (a || (b && g)) then (D++[x],true) else (D,d); if (!b) || n then (q.1++[y],q.2) else q):=by
  simp only [Fy,ha,hb,hg,hn,hb']
 rw [hs] at ih2
 refine Ab ?_
 refine BJ ?_
 cases d
 ·cases a
  ·cases b
   ·simp only [LO,JM,Lg,Gs,Hr,Gt,I0,Ii,JN,JO,Dt,lx6,lx7,↓reduceIte] at ih2 hb'
    refine It (a9 h1 h2 w1 hy ha hb hb' ht hz) ?_
    all_goals exact Akc
   ·cases g
    ·cases n
     ·simp only [LO,JM,Lg,Gs,Hr,Gt,I0,Ii,JN,JO,Dt,lx6,lx7,↓reduceIte] at ih2 hb'
      refine It (a9 h1 h2 w1 hy ha hb hb' hg hn) ?_
      all_goals exact Aoq
     ·exact Aoo
    ·cases n
     ·exact Aoo
     ·simp only [LO,JM,Lg,Gs,Hr,Gt,I0,Ii,JN,JO,Dt,lx6,lx7,↓reduceIte] at ih2 hb'
      refine It (Ix h1 h2 w1 hy ha hb hb' hg hn ht ht2 hz hz2) ?_
      all_goals exact Aw3
  ·obtain rfl:=hab rfl
   simp only [LO,JM,Lg,Gs,Hr,Gt,I0,Ii,JN,JO,Dt,lx6,lx7,↓reduceIte] at ih2 hb'
   refine It (Gv h1 h2 w1 hy ha hb' ht ht2 hz hz2) ?_
   all_goals exact Aw3
 ·cases b
  ·simp only [LO,JM,Lg,Gs,Hr,Gt,I0,Ii,JN,JO,Dt,lx6,lx7,↓reduceIte] at ih2 hb'
   refine It (a7 h1 h2 w1 hy hb' ht hz) ?_
   all_goals exact Akc
  ·cases n
   ·simp only [LO,JM,Lg,Gs,Hr,Gt,I0,Ii,JN,JO,Dt,lx6,lx7,↓reduceIte] at ih2 hb'
    refine It (a6 h1 h2 w1 hy hb' hn) ?_
    all_goals exact Aoq
   ·simp only [LO,JM,Lg,Gs,Hr,Gt,I0,Ii,JN,JO,Dt,lx6,lx7,↓reduceIte] at ih2 hb'
    refine It (a8 h1 h2 w1 hy hb' hn ht hz) ?_
    all_goals exact Akc
def llQ (p:(Bool × List Lo) × Int):Prop:=p.1.2.length≤100000
noncomputable def f223:=Er llQ (fun p=>[.vw p.1.1 (p.1.2.map Bg),kA .i64 p.2]) (fun p=>.vw false ((Ej p.1.2 p.2).map Bg))
theorem Bgw (z:Bool) (l:List Lo) (m:Int) (h:l.length≤100000):f223 [.vw z (l.map Bg),.sc (.int .i64 m)]=some (.vw false ((Ej l m).map Bg)):=
 (AJ (q:=llQ) (enc:=fun p=>[.vw p.1.1 (p.1.2.map Bg),kA .i64 p.2]) (out:=fun p=>.vw false ((Ej p.1.2 p.2).map Bg)) ((z,l),m) h (by
  rintro ⟨⟨z',l'⟩,m'⟩ h2
  simp only [lx96,AV.vw.injEq,Ie,Az] at h2
  obtain ⟨⟨rfl,rfl⟩,h3⟩:=h2
  rw [Bt h3]) :)
theorem Arp:FOk Tryz.prog 223 f223:=Lu <| by
 rintro ⟨⟨z,l⟩,m⟩ h
 exact Adv z l m h
def lxQ (p:(Bool × List Lo) × Lo):Prop:=p.1.2.length≤100000
noncomputable def f224:=Er lxQ (fun p=>[.vw p.1.1 (p.1.2.map Bg),Bg p.2]) (fun p=>.vw false ((Xn p.1.2 p.2).map Bg))
theorem Bc2 (z:Bool) (l:List Lo) (x:Lo) (h:l.length≤100000):f224 [.vw z (l.map Bg),Bg x]=some (.vw false ((Xn l x).map Bg)):=
 (AJ (q:=lxQ) (enc:=fun p=>[.vw p.1.1 (p.1.2.map Bg),Bg p.2]) (out:=fun p=>.vw false ((Xn p.1.2 p.2).map Bg)) ((z,l),x) h (by
  rintro ⟨⟨z',l'⟩,m'⟩ h2
  simp only [lx96,AV.vw.injEq,Ie,Az] at h2
  obtain ⟨⟨rfl,rfl⟩,h3⟩:=h2
  rw [KH h3]) :)
theorem Arq:FOk Tryz.prog 224 f224:=Lu <| by
 rintro ⟨⟨z,l⟩,x⟩ h
 exact Aja z l x h
def exQ (p:Cd × Int × Vn):Prop:=ExeQ p.1 p.2.2 p.2.1
noncomputable def f157:=Er exQ (fun p=>[Bv p.1,kA .i64 p.2.1,JA p.2.2,kA .i64 1000]) (fun p=>JJ (Gk p.1 p.2.2 p.2.1))
theorem Aup (c:Cd) (a:Int) (v:Vn) (h:ExeQ c v a):f157 [Bv c,.sc (.int .i64 a),JA v,.sc (.int .i64 1000)]=some (JJ (Gk c v a)):=
 (AJ (q:=exQ) (enc:=fun p=>[Bv p.1,kA .i64 p.2.1,JA p.2.2,kA .i64 1000]) (out:=fun p=>JJ (Gk p.1 p.2.2 p.2.1)) (c,a,v) h (by
  rintro ⟨c',a',v'⟩ h
  simp only [lx96,Az] at h
  rw [CS h.1,Bt h.2.1,Abd h.2.2]) :)
theorem Arr:FOk Tryz.prog 157 f157:=Lu <| by
 rintro ⟨c,a,v⟩ h
 exact Ads c v a h
theorem Ars:FOk Tryz.prog 199 f157:=Lu <| by
 rintro ⟨c,a,v⟩ h
 exact YD c v a h
structure Ru where
 s:Rs
 ef:List Ef
 po:List Ev
def QZ (c:Cd) (x:Cx) (r:Ru) (lv:AV) (w e p:Nat):Blk:=⟨true,w,143,18,[.ag [.vw c.zi (c.ins.map BY),.vw c.zs (c.strs.map stA),.vw c.ze (c.ens.map D3),.vw c.zp (c.pri.map (kA .i64)),.vw c.zv (c.vars.map (kA .i64)),.sc (.int .i64 c.tim),.sc (.int .i64 c.evs),
 .vw r.s.zv (r.s.vars.map (kA .i64)),lv,.sc (.int .u32 r.s.act),.vw r.s.zm (r.s.lamps.map Bg),.sc (.int .i64 r.s.fau),.sc (.int .i64 x.ti),.sc (.int .u64 x.clo),.sc (.int .i64 x.pl'),.sc (.int .i64 x.ba),.sl 1 e 0 r.ef.length,.sl 2 p 0 r.po.length]],false⟩
def Ek (c:Cd) (x:Cx) (r:Ru) (w e p:Nat) (R:List Blk):List Blk:=QZ c x r (.vw r.s.zl (r.s.left.map (kA .i64))) w e p::⟨true,e,73,5,r.ef.map C6,false⟩::⟨true,p,46,3,r.po.map CV,false⟩::R
def Xo (R:List Blk):Prop:=∀ b ∈ R,norefs b.els=true
mutual
theorem Ane (id ver:Nat) (els:List AV):∀ a:AV,a.noref=true→GD id ver els a=a
 | .sl ..,h=>by simp [AV.noref] at h
 | .ag cs,h=>by rw [GD,Jq id ver els cs (by simpa [AV.noref] using h)]
 | .sc _,_=>rfl
 | .tu _,_=>rfl
 | .pt ..,_=>rfl
 | .vw ..,_=>rfl
 | .vp ..,_=>rfl
 | .fn ..,_=>rfl
 | .un,_=>rfl
 | .jk,_=>rfl
theorem Jq (id ver:Nat) (els:List AV):∀ l:List AV,norefs l=true→F2 id ver els l=l
 | [],_=>rfl
 | a::l,h=>by
  simp only [norefs,AT] at h
  rw [F2,Ane id ver els a h.1,Jq id ver els l h.2]
end
theorem SW (id ver:Nat) (els:List AV) (x:Blk):∀ (R:List Blk) (i:Nat),Xo R→i+R.length=id→HU id ver els 0 i (R++[x])=R++[dead]
 | [],i,_,h=>by
  simp only [lx63,JF] at h
  rw [lx64,HU,if_pos h]; rfl
 | b::R,i,hR,h=>by
  simp only [lx53] at h
  rw [lx91,HU,if_neg (by omega),if_neg (by omega),Jq id ver els b.els (hR b lx48),SW id ver els x R (i+1) (fun y hy=>hR y (lx49 _ hy)) (by omega)]
  rfl
def CU (n lo hi:Int):Int:=max lo (min n hi)
theorem Q0 (c:Cd) (x:Cx) (r:Ru) (w e p:Nat) (R:List Blk) (hR:Xo R) (i n:Int) (h0:0≤i) (h1:i < r.s.left.length) (hl1:r.s.left.length≤1000) (cnt:Nat):
  HSpec Tryz.prog 68 [.pt 0 w 0 0,.sc (.int .i64 i),.sc (.int .i64 n)] (Ek c x r w e p R) cnt (.tu []) (Ek c x { r with s:={ r.s with zl:=false,left:=r.s.left.set i.toNat (CU n 0 2147483647) } } w e p R) (cnt+1):=by
 obtain ⟨⟨zv,vars,zl,left,act,zm,lamps,fau⟩,ef,po⟩:=r
 simp only at h1 hl1
 have hz:decide (left.length * 8≤140737488355328)=true:=Ae
 have i0:decide (0≤i)=true:=by rw [AR]; exact h0
 have i1:decide (i < (left.length:Int))=true:=by rw [AR]; exact h1
 have i2:decide (i.toNat < left.length)=true:=Ae
 have si:∀ v:Int,(left.map (kA .i64)).set i.toNat (.sc (.int .i64 v))=(left.set i.toNat v).map (kA .i64):=fun v=>by rw [List.map_set]; rfl
 have ge:(left.map (kA .i64))[i.toNat]?=some (.sc (.int .i64 (left[i.toNat]'(by omega)))):=by rw [lx23,lx51 (by omega)]; rfl
 have h:=Ag (P:=Tryz.prog) (args:=[.pt 0 w 0 0,.sc (.int .i64 i),.sc (.int .i64 n)]) (H:=Ek c x ⟨⟨zv,vars,zl,left,act,zm,lamps,fau⟩,ef,po⟩ w e p R) (cnt:=cnt) (r:=.tu [])
  (H':=QZ c x ⟨⟨zv,vars,zl,left,act,zm,lamps,fau⟩,ef,po⟩ (.sl (R.length+1+1+1) cnt 0 left.length) w e p::⟨true,e,73,5,ef.map C6,false⟩::⟨true,p,46,3,po.map CV,false⟩::(R++[⟨true,cnt,3,1,(left.set i.toNat (CU n 0 2147483647)).map (kA .i64),false⟩])) (cnt':=cnt+1)
  (Aj (lit:=true) (pm:=fun _=>none) .nil .nil .nil .nil) rfl Tryz.func68 rfl (by decide) (by kernel_rfl) (by
   simp only [Tryz.f68,Af,lx53,lx63,Nat.reduceAdd,Nat.reduceSub,List.replicate]
   simp only [Ek,QZ]
   refine Ab ?_
   simp (maxSteps:=10000000) +contextual -implicitDefEqProofs only [AX,AW,St.put,↓reduceIte,reduceCtorEq,Nat.reduceAdd,Nat.reduceLeDiff,Int.reduceLT,Nat.reduceLT,Dd,Int.reduceAdd,CO,Co,Cw,Cm,Bu,Bh,Bk,Cp,Ca,hz,i0,i1,si,Dl,lx3,lx11,QU,CU,Bx,ge]
   repeat' (first | exact Ac (by kernel_rfl) | refine ⟨Ac (by kernel_rfl),?_⟩ | refine And.intro ?_ ?_ | fail)
   all_goals first | exact .refl _ | exact Fo _ _ | omega | trivial | skip
   all_goals done)
 have h2:=h.frz 0 (R.length+1+1+1) _ (by rw [lx54,lx54,lx54,lx3]) rfl (by simp [Ek]) (Bx _)
 refine h2.wk (.refl _) ?_ (Aw _)
 rw [Ek,HU,if_neg (by omega),if_neg (by omega),HU,if_neg (by omega),if_neg (by omega),HU,if_neg (by omega),if_neg (by omega),SW _ _ _ _ _ _ hR (by omega),Jq _ _ _ _ (Jl _),Jq _ _ _ _ (Yn _)]
 have e1:¬ ((1:Nat)=R.length+1+1+1∧e=cnt):=Ai
 have e2:¬ ((2:Nat)=R.length+1+1+1∧p=cnt):=Ai
 simp only [QZ,F2,GD,if_neg e1,if_neg e2,and_self,↓reduceIte,lx73,lx118,lx58,lx2,Aw]
 exact ⟨.inr (.inl rfl),.inr (.inl rfl),.inr (.inl rfl),C8 _ _ _⟩
def onB (act a:Int):Int:=EO .or .u32 act (M5 .u32 1 a)
def Ua (act a:Int):Int:=EO .andNot .u32 act (M5 .u32 1 a)
def El (r:Ru) (m a:Int) (se:Lm):Ru:=if BV r.s.act m=true then { r with s:={ r.s with zm:=false,lamps:=Xn r.s.lamps ⟨m,a,se⟩ } } else r
def CH (x:Cx) (m:Int) (e:Ef) (r:Ru):Ru:=
 if e.k=21 then { r with s:={ r.s with zl:=false,left:=r.s.left.set e.a.toNat (CU e.b 0 2147483647) } }
 else if e.k=22 then { r with s:={ r.s with zl:=false,left:=r.s.left.set e.a.toNat (CU 0 0 2147483647) } }
 else if e.k=23 then (if BV r.s.act e.a=true then r else { r with s:={ r.s with act:=onB r.s.act e.a },po:=r.po++[⟨1,0,e.a⟩] })
 else if e.k=24 then (if BV r.s.act e.a=true then { r with s:={ r.s with act:=Ua r.s.act e.a,zm:=false,lamps:=Ej r.s.lamps e.a },po:=r.po++[⟨2,0,e.a⟩] } else r)
 else if e.k=25 then { r with po:=r.po++[⟨6,e.a,-1⟩] }
 else if e.k=19 then El r m e.a ⟨CU e.b 0 8,0,0,0⟩
 else if e.k=20 then El r m e.a ⟨8,CU e.b 1 1000,CU e.c 1 1000,x.ti⟩
 else r
structure AppQ (m:Int) (e:Ef) (r:Ru):Prop where
 tim:e.k=21∨e.k=22→0≤e.a∧e.a < r.s.left.length
 mod:e.k=23∨e.k=24→0≤e.a∧e.a < 32
 own:0≤m∧m < 32
 lft:r.s.left.length≤1000
 lam:r.s.lamps.length≤100000
 pos:r.po.length≤1000000
theorem rW {P:Prop} (h:P:=by
 refine Ag (Aj (lit:=true) (pm:=fun _=>none) (.cons Aml .nil) .nil (.cons Arp (.cons Arq .nil)) .nil) rfl Tryz.func200 rfl (by decide) (by kernel_rfl) ?_
 refine Axm ?_
 simp (maxSteps:=10000000) +contextual -implicitDefEqProofs only [AX,AW,Ap,St.put,Ao,Al,DN,pl,Array.toList,lx6,lx7,↓reduceIte,reduceCtorEq,Nat.reduceAdd,Nat.reduceLeDiff,Nat.reduceEqDiff,Nat.reduceMul,Int.reduceEq,Int.reduceNe,Int.reduceLE,Int.reduceLT,ne_eq,Nat.reduceBEq,Nat.reduceLT,eq_self,CK,lx8,Dd,OI,Int.reduceToNat,Nat.reduceSub,Int.reduceAdd,Int.reduceMul,Int.reduceSub,CO,E5,hl,Co,BU,Df,CJ,DD,Cu,Dn,Cw,Cm,DQ,DR,Bu,B7,CR,Cg,AS,Bs,BX,CY,CM,Dw,Bh,DU,Bk,DV,Dp,Cv,CN,Ch,DW,Es,DY,Ci,BZ,Cp,Hg,DZ,D0,Et,Eu,Dq,Jb,Jc,Ca,AA,AY,AN,Bb,Dx,Aq,norefs,AV.noref,Cn,CI,Int.reduceBNe,Int.reduceBEq,Fw,IV,QT,QU,Nq,dl1,dl2,dl3,lx4,lx5,lx11,Bx,L7,E58,E22,u64,g1,hpo,tpo,Dg,lx12,CU,onB,Ua]
 repeat' (first | exact Ac (by kernel_rfl) | refine ⟨Ac (by kernel_rfl),?_⟩ | refine And.intro ?_ ?_ | fail)
 all_goals first | exact .refl _ | exact Fo _ _ | omega | trivial | exact .inl rfl | exact C8 _ _ _ | skip
 all_goals done):P:=h
theorem rW2 {P:Prop} (h:P:=by
 refine Ag (Aj (lit:=true) (pm:=fun _=>none) (.cons Aml .nil) .nil (.cons Arp (.cons Arq .nil)) (.cons k68 .nil)) rfl Tryz.func200 rfl (by decide) (by kernel_rfl) ?_
 refine Axm ?_
 refine It (Ij E68 @Ca @Fw @IV @QT @QU @Nq @dl1 @dl2 @dl3 @L7) ?_
 repeat' (first | exact Ac (by kernel_rfl) | refine ⟨Ac (by kernel_rfl),?_⟩ | refine And.intro ?_ ?_ | fail)
 all_goals first | exact .refl _ | exact Fo _ _ | omega | trivial | exact .inl rfl | exact C8 _ _ _ | skip
 all_goals done):P:=h
theorem Adw (c:Cd) (x:Cx) (m:Int) (f:Ef) (r:Ru) (h:AppQ m f r) (w e p:Nat) (R:List Blk) (hR:Xo R) (cnt:Nat):
  ∃ e' p' cnt',HSpec Tryz.prog 200 [.pt 0 w 0 0,.sc (.int .i64 m),C6 f] (Ek c x r w e p R) cnt (.tu []) (Ek c x (CH x m f r) w e' p' R) cnt':=by
 obtain ⟨h1,h2,h3,h4,h5,h6⟩:=h
 have nR:Xo (R++[⟨true,cnt,73,5,[C6 f],false⟩]):=fun b hb=>by
  rcases lx76.1 hb with hb | hb
  ·exact hR b hb
  ·rw [lx70.1 hb]; simp [C6,kA,stA,AV.noref,norefs]
 obtain ⟨⟨zv,vars,zl,left,act,zm,lamps,fau⟩,ef,po⟩:=r
 obtain ⟨k,a,b,d,t⟩:=f
 simp only at h1 h2 h4 h5 h6 nR
 have hpo:decide ((po.length+1) * 24≤140737488355328)=true:=Ae
 have tpo:(po.map CV).take po.length=po.map CV:=lx118 (by simp)
 have E58:=fun a h=>e58 ⟨zv,vars,zl,left,act,zm,lamps,fau⟩ a h
 simp only [Aq] at E58
 have Em:=E58 m ⟨by omega,by omega⟩
 have n:=trivial
 obtain ⟨E22,u64,g1⟩:True∧True∧True:=⟨n,n,n⟩
 by_cases k21:k=21
 ·subst k21
  obtain ⟨g1,g2⟩:=h1 (by simp)
  obtain ⟨F68,k68,E68⟩:=Dz (Q0 c x ⟨⟨zv,vars,zl,left,act,zm,lamps,fau⟩,ef,po⟩ w e p _ nR a b g1 g2 h4 (cnt+1))
  exact Apn
 by_cases k22:k=22
 ·subst k22
  obtain ⟨g1,g2⟩:=h1 (by simp)
  obtain ⟨F68,k68,E68⟩:=Dz (Q0 c x ⟨⟨zv,vars,zl,left,act,zm,lamps,fau⟩,ef,po⟩ w e p _ nR a 0 g1 g2 h4 (cnt+1))
  exact Apn
 by_cases k23:k=23
 ·subst k23
  obtain ⟨g1,g2⟩:=h2 (by simp)
  have u64:IntKind.u64.wrap a=a:=D6 (by omega) (by omega)
  have E58:=E58 a ⟨by omega,by omega⟩
  cases hz:BV act a with
  | true=>
   exact Api
  | false=>
   rw [hz] at E58
   exact Apm
 by_cases k24:k=24
 ·subst k24
  obtain ⟨g1,g2⟩:=h2 (by simp)
  have u64:IntKind.u64.wrap a=a:=D6 (by omega) (by omega)
  have E58:=E58 a ⟨by omega,by omega⟩
  cases hz:BV act a with
  | true=>
   rw [hz] at E58
   have E22:=Bgw zm lamps a h5
   exact Apm
  | false=>
   exact Api
 by_cases k25:k=25
 ·subst k25
  simp only [CH,Int.reduceEq,↓reduceIte]
  exact ⟨e,cnt+1+1,cnt+1+1+1,rW⟩
 by_cases k19:k=19
 ·subst k19
  have E58:=Em
  cases hz:BV act m with
  | true=>
   rw [hz] at E58
   have E22:=Bc2 zm lamps ⟨m,a,⟨CU b 0 8,0,0,0⟩⟩ h5
   exact Apc
  | false=>
   exact Apf
 by_cases k20:k=20
 ·subst k20
  have E58:=Em
  cases hz:BV act m with
  | true=>
   rw [hz] at E58
   have E22:=Bc2 zm lamps ⟨m,a,⟨8,CU b 1 1000,CU d 1 1000,x.ti⟩⟩ h5
   exact Apc
  | false=>
   exact Apf
 simp only [CH,k21,k22,k23,k24,k25,k19,k20,↓reduceIte]
 have q:∀ j:Int,k≠j→(k == j)=false∧decide (k=j)=false:=fun j hj=>by simpa using hj
 have E58:=And.intro (q 21 k21) (And.intro (q 22 k22) (And.intro (q 23 k23) (And.intro (q 24 k24) (And.intro (q 25 k25) (And.intro (q 19 k19) (q 20 k20))))))
 exact ⟨e,p,cnt+1,rW⟩
end Go.Proofs.YtdjpkhjaibdogaaGreat
