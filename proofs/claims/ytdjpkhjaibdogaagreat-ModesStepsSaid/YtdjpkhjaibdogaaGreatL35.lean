/-
  Lemmas towards ModesSteps (joined texts: FK, FL, FM, FN).
  Conditions: none.
-/
import Derived.Test.YtdjpkhjaibdogaaGreatL01
import Derived.Test.YtdjpkhjaibdogaaGreatL02
import Derived.Test.YtdjpkhjaibdogaaGreatL33
import Derived.Test.YtdjpkhjaibdogaaGreatL34
set_option linter.unusedSimpArgs false
set_option linter.unusedVariables false
set_option maxRecDepth 100000
set_option maxHeartbeats 8000000
namespace Go.Proofs.YtdjpkhjaibdogaaGreat
open Go Go.SX
attribute [local congr] ite_congr
theorem X6 (c:Cd) (v:Vn) (at':Int) (h:ExeQ c v at') (B0 B1:Blk) (n:Nat):HSpec Tryz.prog 221 [BP c,.sc (.int .i64 at'),J0 v,.sc (.int .i64 1000)] [B0,B1] n (.tu [.pt 5 (n+3) 0 0,.sc (.int .i64 0)])
  [B0,B1,dead,dead,⟨true,n+2,3,1,v.vars.map (kA .i64),false⟩,⟨true,n+3,269,19,[.ag [.vw c.zi (c.ins.map B9),.vw c.zs (c.strs.map stA),.vw c.ze (c.ens.map D8),.vw c.zp (c.pri.map (kA .i64)),.vw c.zv (c.vars.map (kA .i64)),kA .i64 c.tim,kA .i64 c.evs,
   .vw v.zv (v.vars.map (kA .i64)),.vw v.zl (v.left.map (kA .i64)),.sc (.int .u64 v.clo),.sc (.int .u32 v.act),kA .i64 v.pl',kA .i64 v.ba,.sl 4 (n+2) 0 v.vars.length,.vw true [],.vw true [],kA .i64 at',kA .i64 0,bA false]],false⟩] (n+4):=by
 have hv:=Fo h.env
 have hln:=B5 hv
 have hq:=h.fit
 have E77:=e77 c v hq
 rw [h.env] at E77
 simp only [Ab,AS,AB,AZ] at E77
 refine Ag (Aj (lit:=false) (pm:=fun _=>none) (.cons Bds .nil) .nil .nil .nil) rfl Tryz.func221 rfl (by decide) (by kernel_rfl) ?_
 simp only [Tryz.f221,Af,lx53,lx63,Nat.reduceAdd,Nat.reduceSub,List.replicate]
 refine Aa ?_
 refine Hr E77 ?_
 refine Al (σ:=Nat) (fun r _=>⟨Bn 0 50 [(0,BP c),(1,.sc (.int .i64 at')),(2,J0 v),(3,.sc (.int .i64 1000)),(4,.pt 2 n 0 0),(6,.pt 3 (n+1) 0 0),(10,.sc (.bool ((c.ens.take r).any (fun x=>x.pc == at')))),(11,.sc (.int .i64 (r:Int)))],
  [B0,B1,⟨true,n,36,7,[BP c],false⟩,⟨true,n+1,104,6,[J0 v],false⟩],n+1+1⟩) (fun r=>r≤c.ens.length) (fun r=>c.ens.length - r) 0 (Bu _) ?_ ?_ rfl ?_
 ·simp (maxSteps:=10000000) only [AY,AW,↓reduceIte,reduceCtorEq,Nat.reduceAdd,Nat.reduceEqDiff,Bn,Dj,Ab,AS,List.any_nil]
 ·simp (maxSteps:=10000000) only [AY,AW,Ab,AS]
 rintro r cnt hr ih
 have hr:r≤c.ens.length:=hr
 by_cases hr':r < c.ens.length
 ·have h1:decide ((r:Int) < (c.ens.length:Int))=true:=by rw [AN]; omega
  have h2:decide (r < c.ens.length)=true:=Ae
  have w1:IntKind.i64.wrap ((r:Int)+1)=((r+1:Nat):Int):=AA
  have ih2:=ih (r+1) cnt (show r+1≤c.ens.length by omega) (show c.ens.length - (r+1) < c.ens.length - r by omega)
  rw [XJ hr'] at ih2
  obtain ⟨x,hx⟩:∃ x,c.ens.getD r default=x:=⟨_,rfl⟩
  rw [hx] at ih2
  generalize (c.ens.take r).any (fun x=>x.pc == at')=b at *
  refine Aa ?_
  refine Bq ?_
  cases b <;> simp (maxSteps:=10000000) +contextual -implicitDefEqProofs only [AY,AW,Au,St.put,↓reduceIte,reduceCtorEq,Dc,CK,BU,Ab,AS,AV.noref,h1,h2,w1,Cu,Ax,hx]
  all_goals refine Ao ?_ ?_ (Ar _) ih2
  all_goals simp (maxSteps:=10000000) only [AY,AW,↓reduceIte,reduceCtorEq,Nat.reduceAdd,Nat.reduceEqDiff,Bn,Dj,Ab,AS]
  all_goals done
 obtain rfl:r=c.ens.length:=Ah
 have h1:decide ((c.ens.length:Int) < (c.ens.length:Int))=false:=Bc
 have hany:(c.ens.take c.ens.length).any (fun x=>x.pc == at')=true:=by rw [lx74]; exact Adc h.ent
 rw [hany]
 clear ih
 have hvl:v.vars.length≤1000000:=by
  obtain ⟨_,_,g⟩:=X4 h.env
  omega
 have hz:decide (v.vars.length * 8≤140737488355328)=true:=Ae
 refine Aa ?_
 refine Bq ?_
 exact RF (a2 h1 hz)
 repeat' (first | exact Ad (by kernel_rfl) | refine ⟨Ad (by kernel_rfl),?_⟩ | refine And.intro ?_ ?_ | fail)
 all_goals first | exact .refl _ | omega | trivial | skip
 all_goals done
theorem Ax1 {c:Cd} {v:Vn} {m m':Ms} {k k' w u s e w' u' s' e':Nat} {E E':List AV} (h:rH c v m k w u s e E=rH c v m' k' w' u' s' e' E') (hE:E.take m.st.length=m.st.map (kA .i64)) (hE':E'.take m'.st.length=m'.st.map (kA .i64)):
  m=m'∧k=k'∧w=w'∧u=u'∧s=s'∧e=e'∧E=E':=by
 obtain ⟨pc,dn,va,st,ef⟩:=m
 obtain ⟨pc',dn',va',st',ef'⟩:=m'
 simp only [rH,kA,bA,lx96,Blk.mk.injEq,AV.ag.injEq,AV.sl.injEq,AV.sc.injEq,Value.int.injEq,Value.bool.injEq,Ay,CY] at h hE hE'
 obtain ⟨⟨rfl,⟨_,g1⟩,⟨_,g2⟩,⟨_,g3⟩,rfl,g7,rfl⟩,⟨rfl,g4⟩,⟨rfl,g5⟩,rfl,g6⟩:=h
 obtain rfl:=(DY (f:=fun x=>AV.sc (.int .i64 x)) (fun _ _ h=>by simpa using h) g4:va=va')
 obtain rfl:=JN.1 g6
 subst g5
 rw [←g2,hE] at hE'
 obtain rfl:=(DY (f:=fun x=>AV.sc (.int .i64 x)) (fun _ _ h=>by simpa using h) hE':st=st')
 obtain rfl:k=k':=Ah
 simp
def Beo (c:Cd) (v:Vn) (args:List AV) (H:List Blk) (cnt:Nat) (r:AV) (H':List Blk) (cnt':Nat):Prop:=
 ∀ (m:Ms) (k w u s e:Nat) (E:List AV),args=[.pt 0 w 0 0]→H=rH c v m k w u s e E→E.take m.st.length=m.st.map (kA .i64)→
  r=.tu []∧∃ s' e' E',H'=rH c v (Av c v (AE c m.pc) m) (k+1) w u s' e' E'∧E'.take (Av c v (AE c m.pc) m).st.length=(Av c v (AE c m.pc) m).st.map (kA .i64)
noncomputable def f222 (c:Cd) (v:Vn):=hF Tryz.prog 222 (Beo c v)
theorem Bep (c:Cd) (v:Vn):Mu Tryz.prog 222 (f222 c v):=Ik _ _ _
theorem Bjh {c:Cd} {v:Vn} {m:Ms} (h:StepQ c v m (AE c m.pc)) (ho:opI (AE c m.pc).op) (k:Nat) (hk:k≤100000) (w u s e:Nat) (E:List AV) (hE:E.take m.st.length=m.st.map (kA .i64)) (cnt:Nat):
  ∃ s' e' E' cnt',f222 c v [.pt 0 w 0 0] (rH c v m k w u s e E) cnt=some (.tu [],rH c v (Av c v (AE c m.pc) m) (k+1) w u s' e' E',cnt')∧E'.take (Av c v (AE c m.pc) m).st.length=(Av c v (AE c m.pc) m).st.map (kA .i64):=by
 obtain ⟨s',e',E',cnt',h1,h2⟩:=Afi c v m _ h ho k hk w u s e E hE cnt
 obtain ⟨r,H',c',g1,g2⟩:=Il (D:=Beo c v) h1 (by
  intro m' k' w' u' s2 e2 E2 a1 a2 a3
  obtain ⟨rfl,rfl,rfl,rfl,rfl,rfl,rfl⟩:=Ax1 a2 hE a3
  exact ⟨rfl,s',e',E',rfl,h2⟩)
 obtain ⟨rfl,s3,e3,E3,rfl,k2⟩:=g2 m k w u s e E rfl rfl hE
 exact ⟨s3,e3,E3,c',g1,k2⟩
theorem Al0 {c:Cd} {v:Vn} {x:In} {m:Ms} (h0:m.dn=false) (h:(Av c v x m).dn=true):(Av c v x m).ef=m.ef:=by
 obtain ⟨op,a⟩:=x
 obtain ⟨pc,dn,va,st,ef⟩:=m
 simp only at h0
 subst h0
 by_cases h31:op=31
 ·subst h31; rfl
 exfalso
 have put:∀ n (m:Ms),(JO n m).dn=m.dn:=fun _ _=>rfl
 have pop:∀ (m:Ms),(Im m).dn=m.dn:=fun _=>rfl
 have eff:∀ x (m:Ms),(Oa x m).dn=m.dn:=fun _ _=>rfl
 rcases DL op with (rfl | rfl | rfl | rfl | rfl | rfl | rfl | rfl | rfl | rfl | rfl | rfl | rfl | rfl | rfl | rfl | rfl | rfl | rfl | rfl | rfl | rfl | rfl | rfl | rfl | rfl | rfl | rfl | rfl | rfl | rfl) | hno
 ·exact Nw
 ·exact Nw
 ·exact Nw
 ·exact Nw
 ·exact Nw
 ·exact Nw
 ·exact Nw
 ·exact Nw
 ·exact Nw
 ·exact Nw
 ·exact Nw
 ·exact Nw
 ·simp only [Av,opS,Int.reduceEq,lx6,lx7,↓reduceIte] at h
  by_cases hz:Ho ⟨pc+1,false,va,st,ef⟩=0 <;> simp only [hz,↓reduceIte,pop,put] at h <;> cases h
 ·simp only [Av,opS,Int.reduceEq,lx6,lx7,↓reduceIte] at h
  by_cases hz:Ho ⟨pc+1,false,va,st,ef⟩≤0 <;> simp only [hz,↓reduceIte,pop,put] at h <;> cases h
 ·exact Nw
 ·exact Nw
 ·exact Nw
 ·exact Nw
 ·exact Nw
 ·exact Nw
 ·exact Nw
 ·exact Nw
 ·exact Nw
 ·exact Nw
 ·exact Nw
 ·exact Nw
 ·exact Nw
 ·exact Nw
 ·exact Nw
 ·exact Nw
 ·exact h31 rfl
 ·have g:∀ k:Int,1≤k→k≤31→(op=k)=False:=fun k h1 h2=>by have:=hno k h1 h2; simpa using this
  simp [Av,opS,g,eff] at h
def Od (w:Nat) (wid:Nat):List AV:=Bn 0 58 [(3,.sc (.int .i64 1000)),(12,.pt wid w 0 0)]
theorem Ap8 {σ:Nat→Nat} {c2:Nat} {H:List Blk} {a w b w':Nat} (h:Rn 0 σ c2 H (.pt a w 0 0) (.pt b w' 0 0)):RnL 0 σ c2 H (Od w a) (Od w' b):=by
 unfold Od
 exact Azf
theorem Zk (c:Cd) (v:Vn) (at':Int) (h:ExeQ c v at'):H5 Tryz.prog 199 [BP c,.sc (.int .i64 at'),J0 v,.sc (.int .i64 1000)] (J6 (Gf c v at')):=by
 have hv:=Fo h.env
 obtain ⟨he,_,_⟩:=X4 h.env
 have hm0:=Zj h
 obtain ⟨F221,k221,E221⟩:=Dg (X6 c v at' h ⟨true,0,36,7,[BP c],false⟩ ⟨true,1,104,6,[J0 v],false⟩ 2)
 simp only [Ab,AS,AB,AZ,dead,Nat.reduceAdd] at E221
 refine D7 (Aj (lit:=false) (pm:=fun _=>none) .nil .nil .nil (.cons k221 (.cons (Bep c v) .nil))) rfl Tryz.func199 rfl (by decide) (by kernel_rfl) (Ry _) ?_
 simp only [Tryz.f199,Af,lx53,lx63,Nat.reduceAdd,Nat.reduceSub,List.replicate]
 refine Aa ?_
 refine Hr E221 ?_
 refine Ao (T':=Od 5 5) (H':=[dead,dead,dead,dead,⟨true,4,3,1,v.vars.map (kA .i64),false⟩,⟨true,5,269,19,[.ag [.vw c.zi (c.ins.map B9),.vw c.zs (c.strs.map stA),.vw c.ze (c.ens.map D8),.vw c.zp (c.pri.map (kA .i64)),.vw c.zv (c.vars.map (kA .i64)),.sc (.int .i64 c.tim),.sc (.int .i64 c.evs),.vw v.zv (v.vars.map (kA .i64)),.vw v.zl (v.left.map (kA .i64)),.sc (.int .u64 v.clo),.sc (.int .u32 v.act),.sc (.int .i64 v.pl'),.sc (.int .i64 v.ba),.sl 4 4 0 v.vars.length,.vw true [],.vw true [],.sc (.int .i64 at'),.sc (.int .i64 0),.sc (.bool false)]],false⟩]) ?_ ?_ (Ar _) ?_
 ·simp (maxSteps:=10000000) only [AY,AW,↓reduceIte,reduceCtorEq,Nat.reduceAdd,Nat.reduceEqDiff,Bn,Dj,Od]
 ·simp (maxSteps:=10000000) only [AY,AW,dead]
 refine Fg (T':=Od 5 5) (H':=[dead,dead,dead,dead,⟨true,4,3,1,v.vars.map (kA .i64),false⟩,⟨true,5,269,19,[.ag [.vw c.zi (c.ins.map B9),.vw c.zs (c.strs.map stA),.vw c.ze (c.ens.map D8),.vw c.zp (c.pri.map (kA .i64)),.vw c.zv (c.vars.map (kA .i64)),.sc (.int .i64 c.tim),.sc (.int .i64 c.evs),.vw v.zv (v.vars.map (kA .i64)),.vw v.zl (v.left.map (kA .i64)),.sc (.int .u64 v.clo),.sc (.int .u32 v.act),.sc (.int .i64 v.pl'),.sc (.int .i64 v.ba),.sl 4 4 0 v.vars.length,.sl 6 6 0 0,.vw true [],.sc (.int .i64 at'),.sc (.int .i64 0),.sc (.bool false)]],false⟩]) 6 3 1 7 (by omega) (by omega) (BX _ _ _) ?_ ?_
 ·refine TK ?_
  refine ⟨.inl rfl,.inl rfl,.inl rfl,.inl rfl,.inl rfl,F2 _ _ _ _ _ _ _ _ _ _ ⟨Gw ⟨.refl _,.refl _,.refl _,.refl _,.refl _,.refl _,.refl _,.refl _,.refl _,.refl _,.refl _,.refl _,.refl _,.refl _,.nil,BX _ _ _⟩,trivial⟩⟩
 refine qd5 ?_
 refine Fg (T':=Od 5 5) (H':=[dead,dead,dead,dead,⟨true,4,3,1,v.vars.map (kA .i64),false⟩,⟨true,5,269,19,[.ag [.vw c.zi (c.ins.map B9),.vw c.zs (c.strs.map stA),.vw c.ze (c.ens.map D8),.vw c.zp (c.pri.map (kA .i64)),.vw c.zv (c.vars.map (kA .i64)),.sc (.int .i64 c.tim),.sc (.int .i64 c.evs),.vw v.zv (v.vars.map (kA .i64)),.vw v.zl (v.left.map (kA .i64)),.sc (.int .u64 v.clo),.sc (.int .u32 v.act),.sc (.int .i64 v.pl'),.sc (.int .i64 v.ba),.sl 4 4 0 v.vars.length,.sl 6 6 0 0,.sl 7 7 0 0,.sc (.int .i64 at'),.sc (.int .i64 0),.sc (.bool false)]],false⟩,⟨true,6,3,1,[],false⟩]) 7 73 5 8 (by omega) (by omega) (BX _ _ _) ?_ ?_
 ·refine TK ?_
  refine ⟨.inl rfl,.inl rfl,.inl rfl,.inl rfl,.inl rfl,F2 _ _ _ _ _ _ _ _ _ _ ⟨Gw ⟨.refl _,.refl _,.refl _,.refl _,.refl _,.refl _,.refl _,.refl _,.refl _,.refl _,.refl _,.refl _,.refl _,.refl _,.refl _,.nil,BX _ _ _⟩,trivial⟩,.inl rfl⟩
 refine qd5 ?_
 have hpt:∀ {H:List Blk} (j v':Nat) (B:Blk),H[HG [5,4,6,7] j]?=some B→B.live=true→B.ver=v'→Rn 0 (HG [5,4,6,7]) 9 H (.pt (HG [5,4,6,7] j) v' 0 0) (.pt j 8 0 0):=fun {H} j v' B e1 e2 e3=>by
  have:=Rn.pt (d:=0) (σ:=HG [5,4,6,7]) (c2:=9) (H1:=H) (v2:=8) j v' 0 0 B e1 e2 e3 (by omega)
  rwa [B6] at this
 have hsl:∀ {H:List Blk} (j v' n:Nat) (B:Blk),H[HG [5,4,6,7] j]?=some B→B.live=true→B.ver=v'→Rn 0 (HG [5,4,6,7]) 9 H (.sl (HG [5,4,6,7] j) v' 0 n) (.sl j 8 0 n):=fun {H} j v' n B e1 e2 e3=>by
  have:=Rn.sl (d:=0) (σ:=HG [5,4,6,7]) (c2:=9) (H1:=H) (v2:=8) j v' 0 n B e1 e2 e3 (by omega)
  rwa [B6] at this
 have hvn:(AV.vw v.zv (v.vars.map (kA .i64))).noref=true:=by simp [AV.noref,BV]
 refine Asv (T':=Od 8 0) (H2:=rH c v (JQ v at') 0 8 8 8 8 []) (c2:=9) (HG [5,4,6,7]) (Ap8 (hpt 0 5 _ rfl rfl rfl)) ?_ ?_ (by omega) ?_
 ·intro j B2 e1 e2
  have hj:j < 4:=(lx22.1 e1).1
  have h4:j=0∨j=1∨j=2∨j=3:=Ah
  rcases h4 with rfl | rfl | rfl | rfl
  ·cases e1
   refine ⟨_,rfl,rfl,Ar _,(show 8 < 9 by decide),rfl,rfl,rfl,fun i e f g1 g2=>?_⟩
   obtain rfl:i=0:=Asc
   cases g1; cases g2
   refine ⟨by simp,Ajk ⟨.nr rfl,.nr rfl,.nr rfl,.nr rfl,.nr rfl,.nr rfl,.nr rfl,.nr hvn,.nr rfl,.nr rfl,.nr rfl,.nr rfl,.nr rfl,hsl 1 _ _ _ rfl rfl rfl,hsl 2 _ _ _ rfl rfl rfl,hsl 3 _ _ _ rfl rfl rfl,.nr rfl,.nr rfl,.nr rfl,trivial⟩⟩
  ·cases e1; exact ⟨_,rfl,rfl,Ar _,(show 8 < 9 by decide),rfl,rfl,rfl,HF (BV _) (H8 (f:=kA .i64) (fun x=>by simp [kA]) _)⟩
  ·exact Arv
  ·exact Arv
 ·intro i j Bi Bj e1 e2 _ _ e
  have hi:i < 4:=(lx22.1 e1).1
  have hj:j < 4:=(lx22.1 e2).1
  revert e
  have key:∀ i,i < 4→∀ j,j < 4→HG [5,4,6,7] i=HG [5,4,6,7] j→i=j:=by decide
  exact key i hi j hj
 obtain ⟨B,hB⟩:∃ B:Nat,B=1000:=⟨_,rfl⟩
 have hx:Gf c v at'=if (C2 c v B (JQ v at')).1.dn=true∧(C2 c v B (JQ v at')).1.ef.length≤256 then
  some ((C2 c v B (JQ v at')).1.va,(C2 c v B (JQ v at')).1.ef,(C2 c v B (JQ v at')).2) else none:=by rw [hB]; rfl
 rw [hx]
 clear hx
 refine Al (σ:=Nat × Ms × Nat × Nat × List AV) (fun y cnt=>⟨Od 8 0,rH c v y.2.1 y.1 8 8 y.2.2.1 y.2.2.2.1 y.2.2.2.2,cnt⟩)
  (fun y=>y.1≤B∧(y.2.1.dn=false→MOk c y.2.1)∧y.2.1.ef.length≤257∧(y.2.1.dn=true→y.2.1.ef.length≤256)∧y.2.2.2.2.take y.2.1.st.length=y.2.1.st.map (kA .i64)∧
   C2 c v B (JQ v at')=((C2 c v (B - y.1) y.2.1).1,y.1+(C2 c v (B - y.1) y.2.1).2)) (fun y=>B - y.1) (0,JQ v at',8,8,[]) ⟨Bu _,fun _=>hm0,by simp [JQ],by simp [JQ],rfl,by rw [Nat.sub_zero,B6]⟩ (CH _) (Aw _) rfl ?_
 rintro ⟨n,m,s,e,E⟩ cnt ⟨hn,hm,hef,hed,hE,hrun⟩ ih
 simp only at hn hm hef hed hE hrun
 have n1:decide ((1000:Int)≤(n:Int))=decide (B≤n):=R3
 have n2:decide ((256:Int) < ((m.ef.length:Nat):Int))=decide (256 < m.ef.length):=R3
 by_cases hgo:m.dn=false∧n < B∧m.ef.length≤256
 ·obtain ⟨g1,g2,g3⟩:=hgo
  have hm:=hm g1
  have hq:=XX hv he hm (by omega)
  have hop:=XZ hv hm
  obtain ⟨s',e',E',cnt',x1,x2⟩:=Bjh hq hop n (by omega) 8 8 s e E hE cnt
  have hr1:C2 c v (B - n) m=((C2 c v (B - (n+1)) (Av c v (AE c m.pc) m)).1,(C2 c v (B - (n+1)) (Av c v (AE c m.pc) m)).2+1):=by
   rw [show B - n=(B - (n+1))+1 by omega,C2,if_neg (by rw [g1]; simp; omega)]
  rw [hr1] at hrun
  have hm2:(Av c v (AE c m.pc) m).dn=false→MOk c (Av c v (AE c m.pc) m):=fun hd=>Rw hv he hm (fun h31=>by
   have:(Av c v (AE c m.pc) m).dn=true:=by simp [Av,opS,h31]
   rw [this] at hd; cases hd)
  have hef2:(Av c v (AE c m.pc) m).ef.length≤m.ef.length+1:=X5 c v _ m
  have hed2:(Av c v (AE c m.pc) m).dn=true→(Av c v (AE c m.pc) m).ef.length≤256:=fun hd=>by rw [Al0 g1 hd]; exact g3
  generalize Av c v (AE c m.pc) m=M at x1 x2 hrun hm2 hef2 hed2
  obtain ⟨H2,hH2⟩:∃ H2,rH c v M (n+1) 8 8 s' e' E'=H2:=⟨_,rfl⟩
  rw [hH2] at x1
  have ih2:=fun c'=>ih (n+1,M,s',e',E') c' ⟨by simp only; omega,hm2,by simp only; omega,hed2,x2,by simp only; rw [hrun]; simp only [lx40,CY]; omega⟩ (by simp only; omega)
  simp only [hH2] at ih2
  clear ih hH2 hm2 hef2 hed2 hrun hr1 hop hq x2 hE hm
  have n3:decide (B≤n)=false:=Gg
  have n4:decide (256 < m.ef.length)=false:=Gg
  rw [n3] at n1
  rw [n4] at n2
  obtain ⟨pc,dn,va,st,ef⟩:=m
  simp only at g1 n2
  subst g1
  simp only [rH,AB,AZ] at x1
  refine Aa ?_
  simp only [Od,rH]
  refine Bq ?_
  refine Hr (a3 n1 n2 x1) ?_
  repeat' (first | exact Ad (by kernel_rfl) | refine ⟨Ad (by kernel_rfl),?_⟩ | refine And.intro ?_ ?_ | fail)
  refine Ao ?_ (Aw _) (Ar _) (ih2 _)
  simp (maxSteps:=10000000) only [AY,AW,↓reduceIte,reduceCtorEq,Nat.reduceAdd,Nat.reduceEqDiff,Bn,Dj,Od]
  all_goals done
 have hstop:C2 c v (B - n) m=(m,0):=by
  exact Ays
 rw [hstop] at hrun
 rw [hrun]
 clear ih hstop hrun hm
 simp only [Jm]
 obtain ⟨pc,dn,va,st,ef⟩:=m
 simp only at hgo hef hed hE n2
 have te:List.take ef.length (ef.map Dd)=ef.map Dd:=lx118 (by simp)
 have tv:List.take va.length (va.map (kA .i64))=va.map (kA .i64):=lx118 (by simp)
 cases dn with
 | true=>
  rw [if_pos ⟨rfl,hed rfl⟩]
  refine Aa ?_
  simp only [Od,rH,J6]
  refine Bq ?_
  refine Hr (a2 te tv) ?_
  exact Az6
 | false=>
  rw [if_neg (fun h=>by cases h.1)]
  have hc:decide (B≤n)=true∨decide (256 < ef.length)=true:=by
   rcases Ej n B with h | h
   ·right; rw [AN]; exact Nat.lt_of_not_le fun h'=>hgo ⟨rfl,h,h'⟩
   ·left; rw [AN]; omega
  obtain ⟨b1,hb1⟩:∃ b,decide (B≤n)=b:=⟨_,rfl⟩
  obtain ⟨b2,hb2⟩:∃ b,decide (256 < ef.length)=b:=⟨_,rfl⟩
  rw [hb1] at n1 hc
  rw [hb2] at n2 hc
  cases b1 <;> cases b2 <;> first | (exfalso; revert hc; decide) | skip
  all_goals
   refine Aa ?_
   simp only [Od,rH,J6]
   exact Ayy
  all_goals done
theorem Adh {α:Type} [Inhabited α] {l:List α} {i:Nat} (h:i < l.length):l.take (i+1)=l.take i++[l.getD i default]:=by
 rw [lx115 h,lx80,lx51 h]; rfl
def Es (l:List Lo) (m:Int):List Lo:=l.filter fun x=>x.mo != m
theorem Afj {l:List Lo} {m:Int} {r:Nat} (h:r < l.length):Es (l.take (r+1)) m=Es (l.take r) m++(if ((l.getD r default).mo != m)=true then [l.getD r default] else []):=by
 rw [Adh h,Es,List.filter_append,List.filter_cons,List.filter_nil]
 rfl
theorem Afk (z:Bool) (l:List Lo) (m:Int) (hl1:l.length≤100000):H5 Tryz.prog 223 [.vw z (l.map Bp),.sc (.int .i64 m)] (.vw false ((Es l m).map Bp)):=by
 refine D7 (Aj (lit:=false) (pm:=fun _=>none) .nil .nil .nil .nil) rfl Tryz.func223 rfl (by decide) (by kernel_rfl) (by simp [AV.noref,JL]) ?_
 simp only [Tryz.f223,Af,lx53,lx63,Nat.reduceAdd,Nat.reduceSub,List.replicate]
 refine Aa ?_
 simp (maxSteps:=10000000) +contextual -implicitDefEqProofs only [AY,AW,St.put,CK]
 refine Ao (T':=Bn 0 28 [(0,.vw z (l.map Bp)),(1,.sc (.int .i64 m)),(5,.vw true []),(6,.sc (.int .i64 0))]) ?_ (Aw _) (Ar _) ?_
 ·exact Gn
 refine Fg (T':=Bn 0 28 [(0,.vw z (l.map Bp)),(1,.sc (.int .i64 m)),(5,.sl 0 0 0 0),(6,.sc (.int .i64 0))]) 0 82 6 1 (by omega) (by omega) ?_ (Ea _ _ _) ?_
 ·exact Agd
 refine Yq ?_
 refine Al (σ:=Nat × Nat) (fun y cnt=>⟨Bn 0 28 [(0,.vw z (l.map Bp)),(1,.sc (.int .i64 m)),(5,.sl 0 y.2 0 (Es (l.take y.1) m).length),(6,.sc (.int .i64 (y.1:Int)))],[⟨true,y.2,82,6,(Es (l.take y.1) m).map Bp,false⟩],cnt⟩)
  (fun y=>y.1≤l.length) (fun y=>l.length - y.1) (0,0) (Bu _) ?_ ?_ rfl ?_
 ·simp (maxSteps:=10000000) only [AY,AW,↓reduceIte,reduceCtorEq,Nat.reduceAdd,Nat.reduceEqDiff,Bn,Dj,Es,List.filter_nil]
 ·simp (maxSteps:=10000000) only [AY,AW,Es,List.filter_nil]
 rintro ⟨r,w⟩ cnt hr ih
 simp only at hr
 by_cases hr':r < l.length
 rotate_left
 ·obtain rfl:r=l.length:=by omega
  have h1:decide ((l.length:Int) < (l.length:Int))=false:=Bc
  rw [lx74]
  have ht:List.take (Es l m).length ((Es l m).map Bp)=(Es l m).map Bp:=lx118 (by simp)
  clear ih
  refine Aa ?_
  refine Bq ?_
  simp (maxSteps:=10000000) +contextual -implicitDefEqProofs only [AY,AW,St.put,Ap,↓reduceIte,Dc,CK,h1,ht]
  all_goals first | exact .refl _ | (refine ⟨.refl _,?_⟩; simp [AV.freshIn,Db,AP,Cj,AV.fresh,Ih]; done) | (simp [AV.freshIn,Db,AP,Cj,AV.fresh,Ih]; done) | skip
  all_goals done
 have h1:decide ((r:Int) < (l.length:Int))=true:=Ae
 have h2:decide (r < l.length)=true:=Ae
 have w1:IntKind.i64.wrap ((r:Int)+1)=((r+1:Nat):Int):=AA
 have ih2:=fun w' c'=>ih (r+1,w') c' (by simp only; omega) (by simp only; omega)
 simp only [Afj hr'] at ih2
 have hL:(Es (l.take r) m).length≤100000:=by
  have:=lx86 (fun x:Lo=>x.mo != m) (l.take r)
  rw [lx68] at this
  unfold Es; omega
 obtain ⟨x,hx⟩:∃ x,l.getD r default=x:=⟨_,rfl⟩
 rw [hx] at ih2
 generalize Es (l.take r) m=D at *
 have ht:List.take D.length (D.map Bp)=D.map Bp:=lx118 (by simp)
 have hz:decide ((D.length+1) * 48≤140737488355328)=true:=Ae
 clear ih
 refine Aa ?_
 refine Bq ?_
 cases hb:(x.mo != m)
 ·simp only [hb,Dy,lx7,lx66] at ih2
  refine Hr (a5 h1 h2 w1 hx hb) ?_
  refine Ao ?_ ?_ (Ar _) (ih2 w _)
  all_goals exact ZG
 ·simp only [hb,lx6] at ih2
  refine Hr (a7 h1 h2 w1 hx hb ht hz) ?_
  repeat' (first | exact Ad (by kernel_rfl) | refine ⟨Ad (by kernel_rfl),?_⟩ | refine And.intro ?_ ?_ | fail)
  refine Ao ?_ ?_ (Ar _) (ih2 (cnt+1) _)
  all_goals simp (maxSteps:=10000000) only [AY,AW,↓reduceIte,reduceCtorEq,Nat.reduceAdd,Nat.reduceEqDiff,Bn,Dj,lx5,lx12,Bg]
  all_goals done
def Gd (x:Lo) (p:List Lo × Bool) (y:Lo):List Lo × Bool:=
 let q:=if !p.2 && (decide (x.mo < y.mo) || ((y.mo == x.mo) && decide (x.la≤y.la))) then (p.1++[x],true) else p
 if (y.mo != x.mo) || (y.la != x.la) then (q.1++[y],q.2) else q
def X7 (l:List Lo) (x:Lo):List Lo:=if (l.foldl (Gd x) ([],false)).2=true then (l.foldl (Gd x) ([],false)).1 else (l.foldl (Gd x) ([],false)).1++[x]
theorem Al1 {l:List Lo} {x:Lo} {r:Nat} (h:r < l.length):(l.take (r+1)).foldl (Gd x) ([],false)=Gd x ((l.take r).foldl (Gd x) ([],false)) (l.getD r default):=by
 rw [Adh h,List.foldl_append]; rfl
theorem Ap9 (x:Lo):∀ l:List Lo,(l.foldl (Gd x) ([],false)).1.length≤2 * l.length:=by
 have key:∀ (l:List Lo) (p:List Lo × Bool),(l.foldl (Gd x) p).1.length≤p.1.length+2 * l.length:=by
  intro l
  induction l with
  | nil=>intro p; simp
  | cons y l ih=>
   intro p
   rw [List.foldl_cons]
   have h1:=ih (Gd x p y)
   have h2:(Gd x p y).1.length≤p.1.length+2:=by
    unfold Gd
    simp only
    split <;> split <;> simp
   simp only [lx53]
   omega
 intro l
 have:=key l ([],false)
 simpa using this
theorem Al2 (z:Bool) (l:List Lo) (x:Lo) (hl1:l.length≤100000):H5 Tryz.prog 224 [.vw z (l.map Bp),Bp x] (.vw false ((X7 l x).map Bp)):=by
 refine D7 (Aj (lit:=false) (pm:=fun _=>none) .nil .nil .nil .nil) rfl Tryz.func224 rfl (by decide) (by kernel_rfl) (by simp [AV.noref,JL]) ?_
 simp only [Tryz.f224,Af,lx53,lx63,Nat.reduceAdd,Nat.reduceSub,List.replicate]
 refine Aa ?_
 simp (maxSteps:=10000000) +contextual -implicitDefEqProofs only [AY,AW,St.put,Nat.reduceAdd,Int.reduceAdd,CK,Bg]
 refine Ao (T':=Bn 0 82 [(0,.vw z (l.map Bp)),(1,Bp x),(3,.pt 0 0 0 0),(5,.vw true []),(6,.sc (.bool false)),(7,.sc (.int .i64 0))]) ?_ (Aw _) (Ar _) ?_
 ·simp (maxSteps:=10000000) only [AY,AW,↓reduceIte,reduceCtorEq,Nat.reduceAdd,Nat.reduceEqDiff,Bn,Dj,Bg]
 refine Fg (T':=Bn 0 82 [(0,.vw z (l.map Bp)),(1,Bp x),(3,.pt 0 0 0 0),(5,.sl 1 1 0 0),(6,.sc (.bool false)),(7,.sc (.int .i64 0))]) 1 82 6 2 (by omega) (by omega) ?_ (Ea _ _ _) ?_
 ·exact Agd
 refine Yq ?_
 refine Al (σ:=Nat × Nat) (fun y cnt=>⟨Bn 0 82 [(0,.vw z (l.map Bp)),(1,Bp x),(3,.pt 0 0 0 0),(5,.sl 1 y.2 0 ((l.take y.1).foldl (Gd x) ([],false)).1.length),(6,.sc (.bool ((l.take y.1).foldl (Gd x) ([],false)).2)),(7,.sc (.int .i64 (y.1:Int)))],
  [⟨true,0,82,6,[Bp x],false⟩,⟨true,y.2,82,6,((l.take y.1).foldl (Gd x) ([],false)).1.map Bp,false⟩],cnt⟩)
  (fun y=>y.1≤l.length) (fun y=>l.length - y.1) (0,1) (Bu _) ?_ ?_ rfl ?_
 ·simp (maxSteps:=10000000) only [AY,AW,↓reduceIte,reduceCtorEq,Nat.reduceAdd,Nat.reduceEqDiff,Bn,Dj,List.foldl_nil]
 ·simp (maxSteps:=10000000) only [AY,AW,Bg,List.foldl_nil]
 rintro ⟨r,w⟩ cnt hr ih
 simp only at hr
 have hlen:=Ap9 x (l.take r)
 rw [lx68] at hlen
 by_cases hr':r < l.length
 rotate_left
 ·obtain rfl:r=l.length:=by omega
  have h1:decide ((l.length:Int) < (l.length:Int))=false:=Bc
  simp only [lx74,X7] at hlen ⊢
  clear ih
  obtain ⟨P,hP⟩:∃ P,l.foldl (Gd x) ([],false)=P:=⟨_,rfl⟩
  simp only [hP] at hlen ⊢
  obtain ⟨D,d⟩:=P
  simp only at hlen
  have ht:List.take D.length (D.map Bp)=D.map Bp:=lx118 (by simp)
  have hz:decide ((D.length+1) * 48≤140737488355328)=true:=Ae
  refine Aa ?_
  refine Bq ?_
  have he:D.map Bp++[AV.ag [.sc (.int .i64 x.mo),.sc (.int .i64 x.la),.sc (.int .i64 x.se.lv),.sc (.int .i64 x.se.on),.sc (.int .i64 x.se.off),.sc (.int .i64 x.se.si)]]=(D++[x]).map Bp:=R0
  have htk:List.take (D.length+1) ((D++[x]).map Bp)=(D++[x]).map Bp:=lx118 (by simp)
  cases d <;> simp (maxSteps:=10000000) +contextual -implicitDefEqProofs only [AY,AW,St.put,Ap,↓reduceIte,Nat.reduceAdd,Nat.reduceLeDiff,Nat.reduceMul,Int.reduceLT,Nat.reduceLT,Dc,Int.reduceAdd,Int.reduceMul,CK,Bg,h1,ht,hz,lx12]
  all_goals try repeat' (first | exact Ad (by kernel_rfl) | refine ⟨Ad (by kernel_rfl),?_⟩ | refine And.intro ?_ ?_ | fail)
  all_goals try rw [he]
  all_goals try rw [htk]
  all_goals first | exact .refl _ | (refine ⟨.refl _,?_⟩; simp [AV.freshIn,Db,AP,Cj,AV.fresh,Ih]; done) | (generalize D++[x]=DX; simp [AV.freshIn,Db,AP,Cj,AV.fresh,Ih]; done) | (simp [AV.freshIn,Db,AP,Cj,AV.fresh,Ih]; done) | skip
  all_goals done
 have h1:decide ((r:Int) < (l.length:Int))=true:=Ae
 have h2:decide (r < l.length)=true:=Ae
 have w1:IntKind.i64.wrap ((r:Int)+1)=((r+1:Nat):Int):=AA
 have ih2:=fun w' c'=>ih (r+1,w') c' (by simp only; omega) (by simp only; omega)
 simp only [Al1 hr'] at ih2
 obtain ⟨y,hy⟩:∃ y,l.getD r default=y:=⟨_,rfl⟩
 rw [hy] at ih2
 obtain ⟨P,hP⟩:∃ P,(l.take r).foldl (Gd x) ([],false)=P:=⟨_,rfl⟩
 simp only [hP] at hlen ih2 ⊢
 clear ih hP
 obtain ⟨D,d⟩:=P
 simp only at hlen
 have ht:List.take D.length (D.map Bp)=D.map Bp:=lx118 (by simp)
 have hz:decide ((D.length+1) * 48≤140737488355328)=true:=Ae
 have hz2:decide ((D.length+1+1) * 48≤140737488355328)=true:=Ae
 have ht2:List.take (D.length+1) (D.map Bp++[.ag [.sc (.int .i64 x.mo),.sc (.int .i64 x.la),.sc (.int .i64 x.se.lv),.sc (.int .i64 x.se.on),.sc (.int .i64 x.se.off),.sc (.int .i64 x.se.si)]])=D.map Bp++[.ag [.sc (.int .i64 x.mo),.sc (.int .i64 x.la),.sc (.int .i64 x.se.lv),.sc (.int .i64 x.se.on),.sc (.int .i64 x.se.off),.sc (.int .i64 x.se.si)]]:=lx118 (by simp)
 obtain ⟨a,ha⟩:∃ a,decide (x.mo < y.mo)=a:=⟨_,rfl⟩
 obtain ⟨b,hb⟩:∃ b,(y.mo == x.mo)=b:=⟨_,rfl⟩
 obtain ⟨g,hg⟩:∃ g,decide (x.la≤y.la)=g:=⟨_,rfl⟩
 obtain ⟨n,hn⟩:∃ n,(y.la != x.la)=n:=⟨_,rfl⟩
 have hb':(y.mo != x.mo)=!b:=by rw [←hb]; rfl
 have hab:a=true→b=false:=fun h=>by
  rw [←ha,AN] at h
  rw [←hb,lx113]; omega
 have hs:Gd x (D,d) y=(let q:List Lo × Bool:=if !d && (a || (b && g)) then (D++[x],true) else (D,d); if (!b) || n then (q.1++[y],q.2) else q):=by
  simp only [Gd,ha,hb,hg,hn,hb']
 rw [hs] at ih2
 refine Aa ?_
 refine Bq ?_
 cases d
 ·cases a
  ·cases b
   ·simp only [My,J9,LK,GX,HS,GY,Jo,IK,Ka,Kb,Dy,lx6,lx7,↓reduceIte] at ih2 hb'
    refine Hr (a9 h1 h2 w1 hy ha hb hb' ht hz) ?_
    all_goals exact Amn
   ·cases g
    ·cases n
     ·simp only [My,J9,LK,GX,HS,GY,Jo,IK,Ka,Kb,Dy,lx6,lx7,↓reduceIte] at ih2 hb'
      refine Hr (a9 h1 h2 w1 hy ha hb hb' hg hn) ?_
      all_goals exact Aqw
     ·exact Aqu
    ·cases n
     ·exact Aqu
     ·simp only [My,J9,LK,GX,HS,GY,Jo,IK,Ka,Kb,Dy,lx6,lx7,↓reduceIte] at ih2 hb'
      refine Hr (IV h1 h2 w1 hy ha hb hb' hg hn ht ht2 hz hz2) ?_
      all_goals exact Aym
  ·obtain rfl:=hab rfl
   simp only [My,J9,LK,GX,HS,GY,Jo,IK,Ka,Kb,Dy,lx6,lx7,↓reduceIte] at ih2 hb'
   refine Hr (Hg h1 h2 w1 hy ha hb' ht ht2 hz hz2) ?_
   all_goals exact Aym
 ·cases b
  ·simp only [My,J9,LK,GX,HS,GY,Jo,IK,Ka,Kb,Dy,lx6,lx7,↓reduceIte] at ih2 hb'
   refine Hr (a7 h1 h2 w1 hy hb' ht hz) ?_
   all_goals exact Amn
  ·cases n
   ·simp only [My,J9,LK,GX,HS,GY,Jo,IK,Ka,Kb,Dy,lx6,lx7,↓reduceIte] at ih2 hb'
    refine Hr (a6 h1 h2 w1 hy hb' hn) ?_
    all_goals exact Aqw
   ·simp only [My,J9,LK,GX,HS,GY,Jo,IK,Ka,Kb,Dy,lx6,lx7,↓reduceIte] at ih2 hb'
    refine Hr (a8 h1 h2 w1 hy hb' hn ht hz) ?_
    all_goals exact Amn
def llQ (p:(Bool × List Lo) × Int):Prop:=p.1.2.length≤100000
noncomputable def f223:=Ew llQ (fun p=>[.vw p.1.1 (p.1.2.map Bp),kA .i64 p.2]) (fun p=>.vw false ((Es p.1.2 p.2).map Bp))
theorem Bji (z:Bool) (l:List Lo) (m:Int) (h:l.length≤100000):f223 [.vw z (l.map Bp),.sc (.int .i64 m)]=some (.vw false ((Es l m).map Bp)):=
 (AK (q:=llQ) (enc:=fun p=>[.vw p.1.1 (p.1.2.map Bp),kA .i64 p.2]) (out:=fun p=>.vw false ((Es p.1.2 p.2).map Bp)) ((z,l),m) h (by
  rintro ⟨⟨z',l'⟩,m'⟩ h2
  simp only [lx96,AV.vw.injEq,HB,Ay] at h2
  obtain ⟨⟨rfl,rfl⟩,h3⟩:=h2
  rw [Bx h3]) :)
theorem Au1:FOk Tryz.prog 223 f223:=LX <| by
 rintro ⟨⟨z,l⟩,m⟩ h
 exact Afk z l m h
def lxQ (p:(Bool × List Lo) × Lo):Prop:=p.1.2.length≤100000
noncomputable def f224:=Ew lxQ (fun p=>[.vw p.1.1 (p.1.2.map Bp),Bp p.2]) (fun p=>.vw false ((X7 p.1.2 p.2).map Bp))
theorem Beq (z:Bool) (l:List Lo) (x:Lo) (h:l.length≤100000):f224 [.vw z (l.map Bp),Bp x]=some (.vw false ((X7 l x).map Bp)):=
 (AK (q:=lxQ) (enc:=fun p=>[.vw p.1.1 (p.1.2.map Bp),Bp p.2]) (out:=fun p=>.vw false ((X7 p.1.2 p.2).map Bp)) ((z,l),x) h (by
  rintro ⟨⟨z',l'⟩,m'⟩ h2
  simp only [lx96,AV.vw.injEq,HB,Ay] at h2
  obtain ⟨⟨rfl,rfl⟩,h3⟩:=h2
  rw [K5 h3]) :)
theorem Au2:FOk Tryz.prog 224 f224:=LX <| by
 rintro ⟨⟨z,l⟩,x⟩ h
 exact Al2 z l x h
def exQ (p:Cd × Int × Vn):Prop:=ExeQ p.1 p.2.2 p.2.1
noncomputable def f157:=Ew exQ (fun p=>[BP p.1,kA .i64 p.2.1,J0 p.2.2,kA .i64 1000]) (fun p=>J6 (Gf p.1 p.2.2 p.2.1))
theorem Ax2 (c:Cd) (a:Int) (v:Vn) (h:ExeQ c v a):f157 [BP c,.sc (.int .i64 a),J0 v,.sc (.int .i64 1000)]=some (J6 (Gf c v a)):=
 (AK (q:=exQ) (enc:=fun p=>[BP p.1,kA .i64 p.2.1,J0 p.2.2,kA .i64 1000]) (out:=fun p=>J6 (Gf p.1 p.2.2 p.2.1)) (c,a,v) h (by
  rintro ⟨c',a',v'⟩ h
  simp only [lx96,Ay] at h
  rw [CT h.1,Bx h.2.1,Ad0 h.2.2]) :)
theorem Au3:FOk Tryz.prog 157 f157:=LX <| by
 rintro ⟨c,a,v⟩ h
 exact Afh c v a h
theorem Au4:FOk Tryz.prog 199 f157:=LX <| by
 rintro ⟨c,a,v⟩ h
 exact Zk c v a h
structure Ru where
 s:Rs
 ef:List Ef
 po:List Ev
def OZ (c:Cd) (x:Cx) (r:Ru) (lv:AV) (w e p:Nat):Blk:=⟨true,w,143,18,[.ag [.vw c.zi (c.ins.map B9),.vw c.zs (c.strs.map stA),.vw c.ze (c.ens.map D8),.vw c.zp (c.pri.map (kA .i64)),.vw c.zv (c.vars.map (kA .i64)),.sc (.int .i64 c.tim),.sc (.int .i64 c.evs),
 .vw r.s.zv (r.s.vars.map (kA .i64)),lv,.sc (.int .u32 r.s.act),.vw r.s.zm (r.s.lamps.map Bp),.sc (.int .i64 r.s.fau),.sc (.int .i64 x.ti),.sc (.int .u64 x.clo),.sc (.int .i64 x.pl'),.sc (.int .i64 x.ba),.sl 1 e 0 r.ef.length,.sl 2 p 0 r.po.length]],false⟩
def DQ (c:Cd) (x:Cx) (r:Ru) (w e p:Nat) (R:List Blk):List Blk:=OZ c x r (.vw r.s.zl (r.s.left.map (kA .i64))) w e p::⟨true,e,73,5,r.ef.map Dd,false⟩::⟨true,p,46,3,r.po.map Cf,false⟩::R
def Pc (R:List Blk):Prop:=∀ b ∈ R,norefs b.els=true
mutual
theorem Apa (id ver:Nat) (els:List AV):∀ a:AV,a.noref=true→Gv id ver els a=a
 | .sl ..,h=>by simp [AV.noref] at h
 | .ag cs,h=>by rw [Gv,HH id ver els cs (by simpa [AV.noref] using h)]
 | .sc _,_=>rfl
 | .tu _,_=>rfl
 | .pt ..,_=>rfl
 | .vw ..,_=>rfl
 | .vp ..,_=>rfl
 | .fn ..,_=>rfl
 | .un,_=>rfl
 | .jk,_=>rfl
theorem HH (id ver:Nat) (els:List AV):∀ l:List AV,norefs l=true→Fq id ver els l=l
 | [],_=>rfl
 | a::l,h=>by
  simp only [norefs,AX] at h
  rw [Fq,Apa id ver els a h.1,HH id ver els l h.2]
end
theorem Oe (id ver:Nat) (els:List AV) (x:Blk):∀ (R:List Blk) (i:Nat),Pc R→i+R.length=id→G7 id ver els 0 i (R++[x])=R++[dead]
 | [],i,_,h=>by
  simp only [lx63,Jm] at h
  rw [lx64,G7,if_pos h]; rfl
 | b::R,i,hR,h=>by
  simp only [lx53] at h
  rw [lx91,G7,if_neg (by omega),if_neg (by omega),HH id ver els b.els (hR b lx48),Oe id ver els x R (i+1) (fun y hy=>hR y (lx49 _ hy)) (by omega)]
  rfl
def CM (n lo hi:Int):Int:=max lo (min n hi)
theorem Mm (c:Cd) (x:Cx) (r:Ru) (w e p:Nat) (R:List Blk) (hR:Pc R) (i n:Int) (h0:0≤i) (h1:i < r.s.left.length) (hl1:r.s.left.length≤1000) (cnt:Nat):
  HSpec Tryz.prog 68 [.pt 0 w 0 0,.sc (.int .i64 i),.sc (.int .i64 n)] (DQ c x r w e p R) cnt (.tu []) (DQ c x { r with s:={ r.s with zl:=false,left:=r.s.left.set i.toNat (CM n 0 2147483647) } } w e p R) (cnt+1):=by
 obtain ⟨⟨zv,vars,zl,left,act,zm,lamps,fau⟩,ef,po⟩:=r
 simp only at h1 hl1
 have hz:decide (left.length * 8≤140737488355328)=true:=Ae
 have i0:decide (0≤i)=true:=by rw [AN]; exact h0
 have i1:decide (i < (left.length:Int))=true:=by rw [AN]; exact h1
 have i2:decide (i.toNat < left.length)=true:=Ae
 have si:∀ v:Int,(left.map (kA .i64)).set i.toNat (.sc (.int .i64 v))=(left.set i.toNat v).map (kA .i64):=fun v=>by rw [List.map_set]; rfl
 have ge:(left.map (kA .i64))[i.toNat]?=some (.sc (.int .i64 (left[i.toNat]'(by omega)))):=by rw [lx23,lx51 (by omega)]; rfl
 have h:=Ag (P:=Tryz.prog) (args:=[.pt 0 w 0 0,.sc (.int .i64 i),.sc (.int .i64 n)]) (H:=DQ c x ⟨⟨zv,vars,zl,left,act,zm,lamps,fau⟩,ef,po⟩ w e p R) (cnt:=cnt) (r:=.tu [])
  (H':=OZ c x ⟨⟨zv,vars,zl,left,act,zm,lamps,fau⟩,ef,po⟩ (.sl (R.length+1+1+1) cnt 0 left.length) w e p::⟨true,e,73,5,ef.map Dd,false⟩::⟨true,p,46,3,po.map Cf,false⟩::(R++[⟨true,cnt,3,1,(left.set i.toNat (CM n 0 2147483647)).map (kA .i64),false⟩])) (cnt':=cnt+1)
  (Aj (lit:=true) (pm:=fun _=>none) .nil .nil .nil .nil) rfl Tryz.func68 rfl (by decide) (by kernel_rfl) (by
   simp only [Tryz.f68,Af,lx53,lx63,Nat.reduceAdd,Nat.reduceSub,List.replicate]
   simp only [DQ,OZ]
   refine Aa ?_
   simp (maxSteps:=10000000) +contextual -implicitDefEqProofs only [AY,AW,St.put,↓reduceIte,reduceCtorEq,Nat.reduceAdd,Nat.reduceLeDiff,Int.reduceLT,Nat.reduceLT,Dc,Int.reduceAdd,CK,Bh,Ca,BJ,BR,AQ,AR,Bk,Ch,hz,i0,i1,si,CV,lx3,lx11,N8,CM,BV,ge]
   repeat' (first | exact Ad (by kernel_rfl) | refine ⟨Ad (by kernel_rfl),?_⟩ | refine And.intro ?_ ?_ | fail)
   all_goals first | exact .refl _ | exact F0 _ _ | omega | trivial | skip
   all_goals done)
 have h2:=h.frz 0 (R.length+1+1+1) _ (by rw [lx54,lx54,lx54,lx3]) rfl (by simp [DQ]) (BV _)
 refine h2.wk (.refl _) ?_ (Ar _)
 rw [DQ,G7,if_neg (by omega),if_neg (by omega),G7,if_neg (by omega),if_neg (by omega),G7,if_neg (by omega),if_neg (by omega),Oe _ _ _ _ _ _ hR (by omega),HH _ _ _ _ (Ig _),HH _ _ _ _ (Er _)]
 have e1:¬ ((1:Nat)=R.length+1+1+1∧e=cnt):=Ah
 have e2:¬ ((2:Nat)=R.length+1+1+1∧p=cnt):=Ah
 simp only [OZ,Fq,Gv,if_neg e1,if_neg e2,and_self,↓reduceIte,lx73,lx118,lx58,lx2,Ar]
 exact ⟨.inr (.inl rfl),.inr (.inl rfl),.inr (.inl rfl),Df _ _ _⟩
def onB (act a:Int):Int:=EX .or .u32 act (NM .u32 1 a)
def UP (act a:Int):Int:=EX .andNot .u32 act (NM .u32 1 a)
def Ec (r:Ru) (m a:Int) (se:Lm):Ru:=if BQ r.s.act m=true then { r with s:={ r.s with zm:=false,lamps:=X7 r.s.lamps ⟨m,a,se⟩ } } else r
def CI (x:Cx) (m:Int) (e:Ef) (r:Ru):Ru:=
 if e.k=21 then { r with s:={ r.s with zl:=false,left:=r.s.left.set e.a.toNat (CM e.b 0 2147483647) } }
 else if e.k=22 then { r with s:={ r.s with zl:=false,left:=r.s.left.set e.a.toNat (CM 0 0 2147483647) } }
 else if e.k=23 then (if BQ r.s.act e.a=true then r else { r with s:={ r.s with act:=onB r.s.act e.a },po:=r.po++[⟨1,0,e.a⟩] })
 else if e.k=24 then (if BQ r.s.act e.a=true then { r with s:={ r.s with act:=UP r.s.act e.a,zm:=false,lamps:=Es r.s.lamps e.a },po:=r.po++[⟨2,0,e.a⟩] } else r)
 else if e.k=25 then { r with po:=r.po++[⟨6,e.a,-1⟩] }
 else if e.k=19 then Ec r m e.a ⟨CM e.b 0 8,0,0,0⟩
 else if e.k=20 then Ec r m e.a ⟨8,CM e.b 1 1000,CM e.c 1 1000,x.ti⟩
 else r
structure AppQ (m:Int) (e:Ef) (r:Ru):Prop where
 tim:e.k=21∨e.k=22→0≤e.a∧e.a < r.s.left.length
 mod:e.k=23∨e.k=24→0≤e.a∧e.a < 32
 own:0≤m∧m < 32
 lft:r.s.left.length≤1000
 lam:r.s.lamps.length≤100000
 pos:r.po.length≤1000000
theorem rW {P:Prop} (h:P:=by
 refine Ag (Aj (lit:=true) (pm:=fun _=>none) (.cons Aoi .nil) .nil (.cons Au1 (.cons Au2 .nil)) .nil) rfl Tryz.func200 rfl (by decide) (by kernel_rfl) ?_
 refine Ba6 ?_
 simp (maxSteps:=10000000) +contextual -implicitDefEqProofs only [AY,AW,Au,St.put,Ap,Am,DO,pl,Array.toList,lx6,lx7,↓reduceIte,reduceCtorEq,Nat.reduceAdd,Nat.reduceLeDiff,Nat.reduceEqDiff,Nat.reduceMul,Int.reduceEq,Int.reduceNe,Int.reduceLE,Int.reduceLT,ne_eq,Nat.reduceBEq,Nat.reduceLT,eq_self,CP,lx8,Dc,Pw,Int.reduceToNat,Nat.reduceSub,Int.reduceAdd,Int.reduceMul,Int.reduceSub,CK,E6,hl,Bh,AL,CX,CO,DJ,Bz,Ds,Ca,BJ,DZ,D0,BR,Bb,Dm,Cn,AU,BO,BS,C3,CR,DA,AQ,D1,AR,D2,Dt,Cz,CS,Co,D3,Ey,D4,Cp,Cb,Bk,Hx,D5,D6,Ez,EM,Du,Jy,Jz,Ch,AB,AZ,Be,Bg,DB,Az,norefs,AV.noref,Ct,CN,Int.reduceBNe,Int.reduceBEq,Fi,Ji,Rt,N8,N9,dl1,dl2,dl3,lx4,lx5,lx11,BV,MQ,E58,E22,u64,g1,hpo,tpo,C7,lx12,CM,onB,UP]
 repeat' (first | exact Ad (by kernel_rfl) | refine ⟨Ad (by kernel_rfl),?_⟩ | refine And.intro ?_ ?_ | fail)
 all_goals first | exact .refl _ | exact F0 _ _ | omega | trivial | exact .inl rfl | exact Df _ _ _ | skip
 all_goals done):P:=h
theorem rW2 {P:Prop} (h:P:=by
 refine Ag (Aj (lit:=true) (pm:=fun _=>none) (.cons Aoi .nil) .nil (.cons Au1 (.cons Au2 .nil)) (.cons k68 .nil)) rfl Tryz.func200 rfl (by decide) (by kernel_rfl) ?_
 refine Ba6 ?_
 refine Hr (IL E68 @Ch @Fi @Ji @Rt @N8 @N9 @dl1 @dl2 @dl3 @MQ) ?_
 repeat' (first | exact Ad (by kernel_rfl) | refine ⟨Ad (by kernel_rfl),?_⟩ | refine And.intro ?_ ?_ | fail)
 all_goals first | exact .refl _ | exact F0 _ _ | omega | trivial | exact .inl rfl | exact Df _ _ _ | skip
 all_goals done):P:=h
theorem Afl (c:Cd) (x:Cx) (m:Int) (f:Ef) (r:Ru) (h:AppQ m f r) (w e p:Nat) (R:List Blk) (hR:Pc R) (cnt:Nat):
  ∃ e' p' cnt',HSpec Tryz.prog 200 [.pt 0 w 0 0,.sc (.int .i64 m),Dd f] (DQ c x r w e p R) cnt (.tu []) (DQ c x (CI x m f r) w e' p' R) cnt':=by
 obtain ⟨h1,h2,h3,h4,h5,h6⟩:=h
 have nR:Pc (R++[⟨true,cnt,73,5,[Dd f],false⟩]):=fun b hb=>by
  rcases lx76.1 hb with hb | hb
  ·exact hR b hb
  ·rw [lx70.1 hb]; simp [Dd,kA,stA,AV.noref,norefs]
 obtain ⟨⟨zv,vars,zl,left,act,zm,lamps,fau⟩,ef,po⟩:=r
 obtain ⟨k,a,b,d,t⟩:=f
 simp only at h1 h2 h4 h5 h6 nR
 have hpo:decide ((po.length+1) * 24≤140737488355328)=true:=Ae
 have tpo:(po.map Cf).take po.length=po.map Cf:=lx118 (by simp)
 have E58:=fun a h=>e58 ⟨zv,vars,zl,left,act,zm,lamps,fau⟩ a h
 simp only [Az] at E58
 have Em:=E58 m ⟨by omega,by omega⟩
 have n:=trivial
 obtain ⟨E22,u64,g1⟩:True∧True∧True:=⟨n,n,n⟩
 by_cases k21:k=21
 ·subst k21
  obtain ⟨g1,g2⟩:=h1 (by simp)
  obtain ⟨F68,k68,E68⟩:=Dg (Mm c x ⟨⟨zv,vars,zl,left,act,zm,lamps,fau⟩,ef,po⟩ w e p _ nR a b g1 g2 h4 (cnt+1))
  exact Arx
 by_cases k22:k=22
 ·subst k22
  obtain ⟨g1,g2⟩:=h1 (by simp)
  obtain ⟨F68,k68,E68⟩:=Dg (Mm c x ⟨⟨zv,vars,zl,left,act,zm,lamps,fau⟩,ef,po⟩ w e p _ nR a 0 g1 g2 h4 (cnt+1))
  exact Arx
 by_cases k23:k=23
 ·subst k23
  obtain ⟨g1,g2⟩:=h2 (by simp)
  have u64:IntKind.u64.wrap a=a:=Eg (by omega) (by omega)
  have E58:=E58 a ⟨by omega,by omega⟩
  cases hz:BQ act a with
  | true=>
   exact Ars
  | false=>
   rw [hz] at E58
   exact Arw
 by_cases k24:k=24
 ·subst k24
  obtain ⟨g1,g2⟩:=h2 (by simp)
  have u64:IntKind.u64.wrap a=a:=Eg (by omega) (by omega)
  have E58:=E58 a ⟨by omega,by omega⟩
  cases hz:BQ act a with
  | true=>
   rw [hz] at E58
   have E22:=Bji zm lamps a h5
   exact Arw
  | false=>
   exact Ars
 by_cases k25:k=25
 ·subst k25
  simp only [CI,Int.reduceEq,↓reduceIte]
  exact ⟨e,cnt+1+1,cnt+1+1+1,rW⟩
 by_cases k19:k=19
 ·subst k19
  have E58:=Em
  cases hz:BQ act m with
  | true=>
   rw [hz] at E58
   have E22:=Beq zm lamps ⟨m,a,⟨CM b 0 8,0,0,0⟩⟩ h5
   exact Arm
  | false=>
   exact Arp
 by_cases k20:k=20
 ·subst k20
  have E58:=Em
  cases hz:BQ act m with
  | true=>
   rw [hz] at E58
   have E22:=Beq zm lamps ⟨m,a,⟨8,CM b 1 1000,CM d 1 1000,x.ti⟩⟩ h5
   exact Arm
  | false=>
   exact Arp
 simp only [CI,k21,k22,k23,k24,k25,k19,k20,↓reduceIte]
 have q:∀ j:Int,k≠j→(k == j)=false∧decide (k=j)=false:=fun j hj=>by simpa using hj
 have E58:=And.intro (q 21 k21) (And.intro (q 22 k22) (And.intro (q 23 k23) (And.intro (q 24 k24) (And.intro (q 25 k25) (And.intro (q 19 k19) (q 20 k20))))))
 exact ⟨e,p,cnt+1,rW⟩
end Go.Proofs.YtdjpkhjaibdogaaGreat
