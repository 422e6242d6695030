/-
  Lemmas towards ModesHandles (joined texts: GP, GQ, GR, GS, GT, GU, GV).
  Conditions: none.
-/
import Derived.Test.YtdjpkhjaibdogaaGreatM01
import Derived.Test.YtdjpkhjaibdogaaGreatM02
import Derived.Test.YtdjpkhjaibdogaaGreatM38
set_option linter.unusedSimpArgs false
set_option linter.unusedVariables false
set_option maxRecDepth 100000
set_option maxHeartbeats 8000000
namespace Go.Proofs.YtdjpkhjaibdogaaGreat
open Go Go.SX
attribute [local congr] ite_congr
theorem YN {c:Cd} {x:Cx} {r r':Ru} (h:Q2 r=Q2 r') (w e p f m:Nat) (R:List Blk):DH c x r w e p f m R=DH c x r' w e p f m R:=by
 have k:∀ r:Ru,DH c x r w e p f m R=DH c x (Q2 r) w e p f m R:=fun _=>rfl
 rw [k r,k r',h]
def Bcc (c:Cd) (x:Cx) (m:Int) (args:List AV) (H:List Blk) (cnt:Nat) (a:AV) (H':List Blk) (cnt':Nat):Prop:=
 ∀ (f:Ef) (r:Ru) (w e p fv mv:Nat) (R:List Blk),args=[.pt 0 w 0 0,.sc (.int .i64 m),C6 f]→H=DH c x r w e p fv mv R→a=.tu []∧∃ p' m',H'=DH c x (CH x m f r) w e p' fv m' R
noncomputable def f158 (c:Cd) (x:Cx) (m:Int):=hF Tryz.prog 158 (Bcc c x m)
theorem Bcd (c:Cd) (x:Cx) (m:Int):M8 Tryz.prog 158 (f158 c x m):=JC _ _ _
theorem Bh2 {c:Cd} {x:Cx} {m:Int} {f:Ef} {r:Ru} (h:PapQ m f r) (w e p fv mv:Nat) (R:List Blk) (cnt:Nat):
  ∃ p' m' cnt',f158 c x m [.pt 0 w 0 0,.sc (.int .i64 m),C6 f] (DH c x r w e p fv mv R) cnt=some (.tu [],DH c x (CH x m f r) w e p' fv m' R,cnt'):=by
 obtain ⟨p',m',cnt',h1⟩:=Ae8 c x m f r h w e p fv mv R cnt
 obtain ⟨a,H',c',g1,g2⟩:=JD (D:=Bcc c x m) h1 (by
  intro f' r' w2 e2 p2 fv2 mv2 R2 a1 a2
  simp only [lx96,Az,Du] at a1
  obtain ⟨_,a3⟩:=a1
  obtain rfl:=MC a3
  obtain ⟨hn,rfl,rfl,rfl,rfl,rfl,rfl⟩:=Ui a2
  exact ⟨rfl,p',m',YN (by rw [←(Js c x).app,←(Js c x).app,hn]) _ _ _ _ _ _⟩)
 obtain ⟨rfl,p3,m3,rfl⟩:=g2 f r w e p fv mv R rfl rfl
 exact ⟨p3,m3,c',g1⟩
theorem Bh3 (Q l:List Blk) (x y z u:Blk):(Q++(x::y::z::l)).set (Q.length+2) u=Q++(x::y::u::l):=by
 rw [lx119 _ _ (by omega),Ny]; rfl
theorem S1 (x:Cx) (zv:Bool) (vars:List Int) (act fau:Int) (fv mv n k:Nat) (H:List Blk) (cnt:Nat):
  HSpec Tryz.prog 78 [.ag [.vw zv (vars.map (kA .i64)),.sl 3 fv 0 n,.sc (.int .u32 act),.sl 4 mv 0 k,.sc (.int .i64 fau)],JB x] H cnt
   (.ag [.vw zv (vars.map (kA .i64)),.sl 3 fv 0 n,.sc (.int .u64 x.clo),.sc (.int .u32 act),.sc (.int .i64 x.pl'),.sc (.int .i64 x.ba)]) H (cnt+3):=by
 refine Ag (Aj (lit:=true) (pm:=fun _=>none) .nil .nil .nil .nil) rfl Tryz.func78 rfl (by decide) (by kernel_rfl) ?_
 simp only [Tryz.f78,Af,lx53,lx63,Nat.reduceAdd,Nat.reduceSub,List.replicate]
 refine Ab ?_
 refine LR @Bh3 ?_
 exact Ut
theorem RuI.nfI {c:Cd} {x:Cx} {r:Ru} (h:RuI c x r):RuI c x (Q2 r):=h.nf rfl
theorem RuI.pap {c:Cd} {x:Cx} {r:Ru} (h:RuI c x r) {m:Int} (hm:0≤m∧m < c.pri.length) {f:Ef} (hf:EfI c f) (hp:r.po.length≤1000000):PapQ m f r:=
 ⟨h.app hm hf hp,h.so,OU h.lmp (by omega)⟩
theorem Anw (c:Cd) (x:Cx) (m:Int) (ev:Ev) (r:Ru) (h:RuI c x r) (hn:Ea c m ev.tr ev.ix=none) (w e p fv mv:Nat) (R:List Blk) (cnt:Nat):
  ∃ cnt',HSpec Tryz.prog 113 [.pt 0 w 0 0,.sc (.int .i64 m),CV ev] (DH c x r w e p fv mv R) cnt (.sc (.bool false)) (DH c x r w e p fv mv R) cnt':=by
 have E156:=Adj c h.fit m ev.tr ev.ix
 rw [hn] at E156
 simp only [Aa,AA] at E156
 obtain ⟨⟨zv,vars,zl,left,act,zm,lamps,fau⟩,ef,po⟩:=r
 obtain ⟨tr,ix,mo⟩:=ev
 refine ⟨cnt+1,?_⟩
 refine Ag (Aj (lit:=true) (pm:=fun _=>none) (.cons Aiu .nil) .nil .nil .nil) rfl Tryz.func113 rfl (by decide) (by kernel_rfl) ?_
 refine Asl ?_
 refine LR E156 ?_
 exact Ut
theorem Bce {c:Cd} {x:Cx} {r:Ru} (h:RuI c x r) {m tr ix:Int} {en:En} (hn:Ea c m tr ix=some en):
  f157 [Bv c,.sc (.int .i64 en.pc),JA (C2 (Q2 r).s x),.sc (.int .i64 1000)]=some (JJ (Gk c (C2 r.s x) en.pc)):=by
 rw [Aup c en.pc (C2 (Q2 r).s x) (h.nfI.exe hn),(Js c x).exe r en.pc]
theorem YO (c:Cd) (x:Cx) (m:Int) (ev:Ev) (r:Ru) (h:RuI c x r) {en:En} (hn:Ea c m ev.tr ev.ix=some en) (hx:Gk c (C2 r.s x) en.pc=none) (w e p fv mv:Nat) (R:List Blk) (cnt:Nat):
  ∃ cnt',HSpec Tryz.prog 113 [.pt 0 w 0 0,.sc (.int .i64 m),CV ev] (DH c x r w e p fv mv R) cnt (.sc (.bool false)) (DH c x (Nv r) w e p fv mv R) cnt':=by
 have E156:=Adj c h.fit m ev.tr ev.ix
 have E157:=Bce h hn
 rw [hn] at E156
 rw [hx] at E157
 simp only [Aa,AA,AP,C2,Q2,JJ,pcO,lx34,lx10] at E156 E157
 obtain ⟨F78,k78,E78⟩:=Dz (S1 x false r.s.vars r.s.act r.s.fau fv mv r.s.left.length r.s.lamps.length (DH c x r w e p fv mv (R++[⟨true,cnt,46,3,[CV ev],false⟩])) (cnt+1))
 obtain ⟨F105,k105,E105⟩:=Dz (Xt c x r h.fa w e p fv mv (R++[⟨true,cnt,46,3,[CV ev],false⟩]) (cnt+1+3))
 obtain ⟨⟨zv,vars,zl,left,act,zm,lamps,fau⟩,ef,po⟩:=r
 obtain ⟨tr,ix,mo⟩:=ev
 simp only [DH,Oc,AN,Bl] at E78 E105
 have tl:(left.map (kA .i64)).take left.length=left.map (kA .i64):=lx118 (by simp)
 refine ⟨cnt+1+3,?_⟩
 refine Ag (Aj (lit:=true) (pm:=fun _=>none) (.cons Aiu .nil) .nil (.cons Arr .nil) (.cons k78 (.cons k105 .nil))) rfl Tryz.func113 rfl (by decide) (by kernel_rfl) ?_
 refine Asl ?_
 refine LR (a5 E156 E157 E78 E105 tl) ?_
 exact Ut
def exB (v:Nat) (f:Ef):Blk:=⟨true,v,73,5,[C6 f],false⟩
def givT (w:Nat) (m:Int) (l:List Ef) (b:Bool) (i:Int):List AV:=Bm 0 87 [(0,.pt 0 w 0 0),(1,.sc (.int .i64 m)),(10,.vw false (l.map C6)),(13,.sc (.bool b)),(60,.vw false (l.map C6)),(61,.sc (.int .i64 l.length)),(62,.sc (.int .i64 i))]
theorem Anx (c:Cd) (x:Cx) (m:Int) (hm:0≤m∧m < c.pri.length) (ev:Ev) (r:Ru) (h:RuI c x r) (hef:r.ef.length≤1000000) (hpo:r.po.length≤900000) {en:En} (hn:Ea c m ev.tr ev.ix=some en) {y:List Int × List Ef × Nat} (hx:Gk c (C2 r.s x) en.pc=some y) (w e p fv mv:Nat) (R:List Blk) (cnt:Nat):
  ∃ e' p' m' cnt',HSpec Tryz.prog 113 [.pt 0 w 0 0,.sc (.int .i64 m),CV ev] (DH c x r w e p fv mv R) cnt (.sc (.bool (LJ x m r (some y)).2)) (DH c x (LJ x m r (some y)).1 w e' p' fv m' R) cnt':=by
 have E156:=Adj c h.fit m ev.tr ev.ix
 have E157:=Bce h hn
 obtain ⟨q1,q2,q3,q4⟩:=YH (h.exe hn) hx
 rw [hn] at E156
 rw [hx] at E157
 have hv:=Ajh h q1 q2
 simp only [Aa,AA,AP,C2,Q2,JJ,pcO,lx34,lx10] at E156 E157
 obtain ⟨F78,k78,E78⟩:=Dz (S1 x false r.s.vars r.s.act r.s.fau fv mv r.s.left.length r.s.lamps.length (DH c x r w e p fv mv (R++[⟨true,cnt,46,3,[CV ev],false⟩])) (cnt+1))
 obtain ⟨⟨zv,vars,zl,left,act,zm,lamps,fau⟩,ef,po⟩:=r
 obtain ⟨tr,ix,mo⟩:=ev
 obtain ⟨va,l,st⟩:=y
 simp only at q1 q2 q3 q4 E157 hef hpo hv
 obtain ⟨R2,hR2⟩:∃ R2,R++[⟨true,cnt,46,3,[CV ⟨tr,ix,mo⟩],false⟩]=R2:=⟨_,rfl⟩
 obtain ⟨r0,IY⟩:∃ r0,LI va ⟨⟨zv,vars,zl,left,act,zm,lamps,fau⟩,ef,po⟩=r0:=⟨_,rfl⟩
 rw [IY] at hv
 have hp0:r0.po=po:=by rw [←IY]; rfl
 obtain ⟨V,hV0,hV⟩:=Uc (fun i (a b:Nat × Nat × Nat)=>∀ h:i < l.length,f158 c x m [.pt 0 w 0 0,.sc (.int .i64 m),C6 l[i]] (DH c x (appL x m (l.take i) r0) w e a.1 fv a.2.1 (R2++[exB a.2.2 l[i]])) (a.2.2+1)=
   some (.tu [],DH c x (CH x m l[i] (appL x m (l.take i) r0)) w e b.1 fv b.2.1 (R2++[exB a.2.2 l[i]]),b.2.2)) l.length (p,mv,cnt+1+3) (fun i a hi=>by
  have g1:=Ue hm (l.take i) hv (fun f hf=>q4 f (lx38 hf))
  have g2:=OR x m (l.take i) r0
  rw [lx68,hp0] at g2
  obtain ⟨p2,m2,c2,x1⟩:=Bh2 (c:=c) (x:=x) (g1.pap hm (q4 _ (lx90 hi)) (by omega)) w e a.1 fv a.2.1 (R2++[exB a.2.2 l[i]]) (a.2.2+1)
  exact ⟨(p2,m2,c2),fun _=>x1⟩)
 refine ⟨(V l.length).2.2,(V l.length).1,(V l.length).2.1,(V l.length).2.2+1,?_⟩
 have hr1:LJ x m ⟨⟨zv,vars,zl,left,act,zm,lamps,fau⟩,ef,po⟩ (some (va,l,st))=(Ub l (appL x m l r0),l.any (fun f=>f.k == 30)):=by rw [←IY]; rfl
 rw [hr1]
 clear hr1
 simp only [DH,Oc,AN,Bl] at E78
 have tl:(left.map (kA .i64)).take left.length=left.map (kA .i64):=lx118 (by simp)
 refine Ag (Aj (lit:=true) (pm:=fun _=>none) (.cons Aiu .nil) .nil (.cons Arr .nil) (.cons k78 (.cons (Bcd c x m) .nil))) rfl Tryz.func113 rfl (by decide) (by kernel_rfl) ?_
 refine Asl ?_
 refine LR (a4 E156 E157 E78 tl) ?_
 repeat' (first | exact Ac (by kernel_rfl) | refine ⟨Ac (by kernel_rfl),?_⟩ | refine And.intro ?_ ?_ | fail)
 refine Av (T':=givT w m l false 0) (H':=DH c x r0 w e p fv mv R2) ?_ ?_ (Aw _) ?_
 ·exact Ap5
 ·subst IY; subst hR2; simp only [DH,Oc,LI,AN,AA]; exact AM _
 refine Am (σ:=Nat) (fun i _=>⟨givT w m l ((l.take i).any (fun f=>f.k == 30)) i,DH c x (appL x m (l.take i) r0) w e (V i).1 fv (V i).2.1 R2,(V i).2.2⟩)
  (fun i=>i≤l.length) (fun i=>l.length - i) 0 (BT _) (CT _) (by rw [hV0]; exact AM _) (by rw [hV0]) ?_
 intro i c1 hi ih
 try simp only at hi ih ⊢
 by_cases hlt:i < l.length
 ·have x1:=hV i hlt hlt
  have ih2:=ih (i+1) 0 (by omega) (by omega)
  clear ih hV
  simp only [SY hlt,Xq hlt] at ih2
  generalize (List.take i l).any (fun f=>f.k == 30)=b at ih2 ⊢
  generalize CH x m l[i] (appL x m (l.take i) r0)=r2 at x1 ih2
  generalize appL x m (l.take i) r0=r1 at x1 ⊢
  generalize V (i+1)=v2 at x1 ih2
  generalize V i=v1 at x1 ⊢
  have hlt':decide ((i:Int) < ((l.length:Nat):Int))=true:=Ae
  have h2:decide (i < l.length)=true:=Ae
  have hg:l.getD i default=l[i]:=by simp [List.getD,hlt]
  generalize l[i]=f at x1 ih2 hg
  obtain ⟨k,a1,a2,a3,t⟩:=f
  have w1:IntKind.i64.wrap ((i:Int)+1)=((i+1:Nat):Int):=Ay
  obtain ⟨⟨zv1,vars1,zl1,left1,act1,zm1,lamps1,fau1⟩,ef1,po1⟩:=r1
  obtain ⟨⟨zv2,vars2,zl2,left2,act2,zm2,lamps2,fau2⟩,ef2,po2⟩:=r2
  subst hR2
  simp only [DH,Oc,exB,Dx,AN,lx4,lx91,lx64] at x1 ih2 ⊢
  refine Ab ?_
  simp only [givT]
  refine BJ ?_
  cases b
  all_goals
   refine LR (a6 hlt' h2 hg x1 w1 @Hq) ?_
   repeat' (first | exact Ac (by kernel_rfl) | refine ⟨Ac (by kernel_rfl),?_⟩ | refine And.intro ?_ ?_ | fail)
   refine Av ?_ ?_ (Aw _) ih2
   ·exact Ap5
   ·exact Nx _ _ _ _ _ _ _ _
 ·obtain rfl:i=l.length:=by omega
  clear ih hV
  have hlt':decide ((l.length:Int) < ((l.length:Nat):Int))=false:=Bc
  rw [lx74]
  have hef':(appL x m l r0).ef=ef:=by rw [OQ,←IY]; rfl
  generalize appL x m l r0=r1 at hef' ⊢
  obtain ⟨⟨zv',vars',zl',left',act',zm',lamps',fau'⟩,ef',po'⟩:=r1
  simp only at hef'
  subst hef'
  have tef:(ef'.map C6).take ef'.length=ef'.map C6:=lx118 (by simp)
  have hsz:decide ((ef'.length+l.length) * 48≤140737488355328)=true:=Ae
  subst hR2
  generalize V l.length=v3
  simp only [DH,Oc,Ub]
  refine Ab ?_
  simp only [givT]
  refine BJ ?_
  refine LR (a5 hlt' hsz tef @Hq @Jl) ?_
  exact Ut
theorem Ae9 (c:Cd) (x:Cx) (m:Int) (hm:0≤m∧m < c.pri.length) (ev:Ev) (r:Ru) (h:RuI c x r) (hef:r.ef.length≤1000000) (hpo:r.po.length≤900000) (w e p fv mv:Nat) (R:List Blk) (cnt:Nat):
  ∃ e' p' m' cnt',HSpec Tryz.prog 113 [.pt 0 w 0 0,.sc (.int .i64 m),CV ev] (DH c x r w e p fv mv R) cnt (.sc (.bool (C0 c x m ev r).2)) (DH c x (C0 c x m ev r).1 w e' p' fv m' R) cnt':=by
 cases hn:Ea c m ev.tr ev.ix with
 | none=>
  have hr:C0 c x m ev r=(r,false):=by rw [C0,hn]
  rw [hr]
  obtain ⟨c',h1⟩:=Anw c x m ev r h hn w e p fv mv R cnt
  exact ⟨e,p,mv,c',h1⟩
 | some en=>
  have hr:C0 c x m ev r=LJ x m r (Gk c (C2 r.s x) en.pc):=by rw [C0,hn]
  rw [hr]
  cases hx:Gk c (C2 r.s x) en.pc with
  | none=>
   obtain ⟨c',h1⟩:=YO c x m ev r h hn hx w e p fv mv R cnt
   exact ⟨e,p,mv,c',h1⟩
  | some y=>exact Anx c x m hm ev r h hef hpo hn hx w e p fv mv R cnt
noncomputable def Bcf:=Er (fun p:(AV × AV × Int × AV × AV) × Int=>0≤p.2∧p.2≤1000000) (fun p=>[.ag [p.1.1,p.1.2.1,.sc (.int .u32 p.1.2.2.1),p.1.2.2.2.1,p.1.2.2.2.2],kA .i64 p.2]) (fun p=>bA (BV p.1.2.2.1 p.2))
theorem Bh4 (m:Int) (h:0≤m∧m≤1000000) (a b d e:AV) (act:Int):Bcf [.ag [a,b,.sc (.int .u32 act),d,e],.sc (.int .i64 m)]=some (.sc (.bool (BV act m))):=
 (AJ (q:=fun p:(AV × AV × Int × AV × AV) × Int=>0≤p.2∧p.2≤1000000) (enc:=fun p=>[.ag [p.1.1,p.1.2.1,.sc (.int .u32 p.1.2.2.1),p.1.2.2.2.1,p.1.2.2.2.2],kA .i64 p.2]) (out:=fun p=>bA (BV p.1.2.2.1 p.2)) ((a,b,act,d,e),m) h (by
  rintro ⟨⟨a',b',c',d',e'⟩,m'⟩ h
  simp only [lx96,AV.ag.injEq,AV.sc.injEq,Value.int.injEq,Az,Du] at h
  obtain ⟨⟨rfl,rfl,rfl,rfl,rfl⟩,h2⟩:=h
  rw [Bt h2]) :)
theorem Bcg:DK Tryz.prog 58 Bcf:=AE <| by
 rintro ⟨⟨a,b,act,d,e⟩,m⟩ hq
 simp only at hq
 have wa:=hq.1
 simp only
 refine Ad (Mf .nil) rfl Tryz.func58 rfl (by decide) (by kernel_rfl) (by simp [bA,okc,Value.oneCell']) ?_
 simp only [Tryz.f58,Af,lx53,lx63,Nat.reduceAdd,Nat.reduceSub,List.replicate]
 refine Ab ?_
 simp (maxSteps:=10000000) +contextual -implicitDefEqProofs only [AX,AW,St.put,↓reduceIte,reduceCtorEq,Nat.reduceAdd,Dd,Int.reduceAdd,CO,AA,AY,wa,BV]
 all_goals done
def Bch (c:Cd) (x:Cx) (ev:Ev) (args:List AV) (H:List Blk) (cnt:Nat) (a:AV) (H':List Blk) (cnt':Nat):Prop:=
 ∀ (m:Int) (r:Ru) (w e p fv mv:Nat) (R:List Blk),args=[.pt 0 w 0 0,.sc (.int .i64 m),CV ev]→H=DH c x r w e p fv mv R→a=.sc (.bool (C0 c x m ev r).2)∧∃ e' p' m',H'=DH c x (C0 c x m ev r).1 w e' p' fv m' R
noncomputable def f113 (c:Cd) (x:Cx) (ev:Ev):=hF Tryz.prog 113 (Bch c x ev)
theorem Arx (c:Cd) (x:Cx) (ev:Ev):M8 Tryz.prog 113 (f113 c x ev):=JC _ _ _
theorem Auy {c:Cd} {x:Cx} {r r':Ru} (h:Q2 r=Q2 r') (m:Int) (ev:Ev):Q2 (C0 c x m ev r).1=Q2 (C0 c x m ev r').1∧(C0 c x m ev r).2=(C0 c x m ev r').2:=by
 have k1:=(Js c x).one m ev r
 have k2:=(Js c x).one m ev r'
 rw [h] at k1
 rw [k2] at k1
 exact ⟨(congrArg Prod.fst k1).symm,(congrArg Prod.snd k1).symm⟩
theorem Bci {c:Cd} {x:Cx} {m:Int} {ev:Ev} {r:Ru} (hm:0≤m∧m < c.pri.length) (h:RuI c x r) (hef:r.ef.length≤1000000) (hpo:r.po.length≤900000) (w e p fv mv:Nat) (R:List Blk) (cnt:Nat):
  ∃ e' p' m' cnt',f113 c x ev [.pt 0 w 0 0,.sc (.int .i64 m),CV ev] (DH c x r w e p fv mv R) cnt=some (.sc (.bool (C0 c x m ev r).2),DH c x (C0 c x m ev r).1 w e' p' fv m' R,cnt'):=by
 obtain ⟨e',p',m',cnt',h1⟩:=Ae9 c x m hm ev r h hef hpo w e p fv mv R cnt
 obtain ⟨a,H',c',g1,g2⟩:=JD (D:=Bch c x ev) h1 (by
  intro m2 r' w2 e2 p2 fv2 mv2 R2 a1 a2
  simp only [lx96,AV.sc.injEq,Value.int.injEq,Az,Du] at a1
  obtain ⟨_,rfl⟩:=a1
  obtain ⟨hn,rfl,rfl,rfl,rfl,rfl,rfl⟩:=Ui a2
  obtain ⟨k1,k2⟩:=Auy (x:=x) hn m ev
  exact ⟨by rw [k2],e',p',m',YN k1 _ _ _ _ _ _⟩)
 obtain ⟨rfl,e3,p3,m3,rfl⟩:=g2 m r w e p fv mv R rfl rfl
 exact ⟨e3,p3,m3,c',g1⟩
theorem Aea (c:Cd) (x:Cx) (ev:Ev) (r:Ru) (h0:0≤ev.mo) (hm:ev.mo < c.pri.length) (h:RuI c x r) (hef:r.ef.length≤1000000) (hpo:r.po.length≤900000) (w e p fv mv:Nat) (R:List Blk) (cnt:Nat):
  ∃ e' p' m' cnt',HSpec Tryz.prog 74 [.pt 0 w 0 0,CV ev] (DH c x r w e p fv mv R) cnt (.tu []) (DH c x (C0 c x ev.mo ev r).1 w e' p' fv m' R) cnt':=by
 obtain ⟨e',p',m',cnt',x1⟩:=Bci ⟨h0,hm⟩ h hef hpo (ev:=ev) w e p fv mv (R++[⟨true,cnt,46,3,[CV ev],false⟩]) (cnt+1)
 refine ⟨e',p',m',cnt',?_⟩
 have hg:decide (0≤ev.mo)=true:=by rw [AR]; exact h0
 obtain ⟨r1,hr1⟩:∃ r1,(C0 c x ev.mo ev r).1=r1:=⟨_,rfl⟩
 rw [hr1] at x1 ⊢
 generalize (C0 c x ev.mo ev r).2=b at x1
 obtain ⟨tr,ix,mo⟩:=ev
 simp only [AN] at x1 hg
 simp only [DH,Oc] at x1
 refine Ag (Aj (lit:=true) (pm:=fun _=>none) .nil .nil .nil (.cons (Arx c x ⟨tr,ix,mo⟩) .nil)) rfl Tryz.func74 rfl (by decide) (by kernel_rfl) ?_
 simp only [Tryz.f74,Af,lx53,lx63,Nat.reduceAdd,Nat.reduceSub,List.replicate]
 simp only [DH,Oc]
 refine Ab ?_
 refine LR (a2 hg x1) ?_
 exact Ut
def Xv (w q cnt:Nat) (l:List Nat) (i:Int):List AV:=Bm 0 47 [(0,.pt 0 w 0 0),(3,.pt (q+1+1+1+1+1) cnt 0 0),(4,.pt (q+1+1+1+1+1+1) (cnt+1) 0 0),(23,.vw false (l.map nI)),(24,.sc (.int .i64 l.length)),(25,.sc (.int .i64 i))]
theorem Aeb (c:Cd) (x:Cx) (ev:Ev) (r:Ru) (h0:¬ 0≤ev.mo) (h:RuI c x r) (he:r.ef.length≤900000) (hp:r.po.length≤800000) (w e p fv mv:Nat) (R:List Blk) (cnt:Nat):
  ∃ e' p' m' cnt',HSpec Tryz.prog 74 [.pt 0 w 0 0,CV ev] (DH c x r w e p fv mv R) cnt (.tu []) (DH c x (MK c x ev r.s.act (HW c) r) w e' p' fv m' R) cnt':=by
 obtain ⟨F71,k71,E71⟩:=Amg (Xc c h.fit h.val)
 obtain ⟨R2,hR2⟩:∃ R2,R++[⟨true,cnt,46,3,[CV ev],false⟩,⟨true,cnt+1,41,5,[.ag [.vw false (r.s.vars.map (kA .i64)),.sl 3 fv 0 r.s.left.length,.sc (.int .u32 r.s.act),.sl 4 mv 0 r.s.lamps.length,.sc (.int .i64 r.s.fau)]],false⟩]=R2:=⟨_,rfl⟩
 have hg:decide (0≤ev.mo)=false:=by rw [Bz]; exact h0
 have hvl:=B9 h.val
 have hln:=MF h.val
 have hlt:=fun m hm=>T6 h.val (x:=m) hm
 obtain ⟨l,hle⟩:∃ l,HW c=l:=⟨_,rfl⟩
 rw [hle] at E71 hln hlt ⊢
 have hI:=fun i=>Abw (ev:=ev) (a0:=r.s.act) (l.take i) h (fun m hm=>hlt m (lx38 hm))
 obtain ⟨K,hK,hK1,hK2⟩:=MM c x ev r.s.act l r
 obtain ⟨V,hV0,hV⟩:=Uc (fun i (a b:Nat × Nat × Nat × Nat)=>∀ h:i < l.length,if BV r.s.act (l[i]:Nat)=true∧BV (G1 c x ev r.s.act (l.take i) r).s.act (l[i]:Nat)=true then
   f113 c x ev [.pt 0 w 0 0,.sc (.int .i64 (l[i]:Nat)),CV ev] (DH c x (G1 c x ev r.s.act (l.take i) r) w a.1 a.2.1 fv a.2.2.1 R2) a.2.2.2=
    some (.sc (.bool (C0 c x (l[i]:Nat) ev (G1 c x ev r.s.act (l.take i) r)).2),DH c x (C0 c x (l[i]:Nat) ev (G1 c x ev r.s.act (l.take i) r)).1 w b.1 b.2.1 fv b.2.2.1 R2,b.2.2.2) else b=a) l.length (e,p,mv,cnt+1+1) (fun i a hi=>by
  by_cases hz:BV r.s.act (l[i]:Nat)=true∧BV (G1 c x ev r.s.act (l.take i) r).s.act (l[i]:Nat)=true
  ·obtain ⟨g1,g2,g3⟩:=hI i
   rw [lx68] at g2 g3
   have hm:=hlt _ (lx90 hi)
   obtain ⟨e2,p2,m2,c2,x1⟩:=Bci (m:=(l[i]:Nat)) (ev:=ev) ⟨by omega,by omega⟩ g1 (by omega) (by omega) w a.1 a.2.1 fv a.2.2.1 R2 a.2.2.2
   exact ⟨(e2,p2,m2,c2),fun _=>by rw [if_pos hz]; exact x1⟩
  ·exact ⟨a,fun _=>by rw [if_neg hz]⟩)
 have hE:∃ N,N≤l.length∧MK c x ev r.s.act l r=G1 c x ev r.s.act (l.take N) r∧((K=l.length∧N=K)∨(∃ h:K < l.length,(MJ c x ev r.s.act (G1 c x ev r.s.act (l.take K) r) l[K]).2=true∧N=K+1)):=by
  exact Ap0
 obtain ⟨N,hN,hN1,hN2⟩:=hE
 refine ⟨(V N).1,(V N).2.1,(V N).2.2.1,(V N).2.2.2,?_⟩
 rw [hN1]
 clear hN1 hK2
 have hev:CV ev=.ag [.sc (.int .i64 ev.tr),.sc (.int .i64 ev.ix),.sc (.int .i64 ev.mo)]:=rfl
 have hrs:DH c x r w e p fv mv R2=DH c x (G1 c x ev r.s.act (l.take 0) r) w (V 0).1 (V 0).2.1 fv (V 0).2.2.1 R2:=by rw [hV0]; rfl
 simp only [Aa] at E71
 refine Ag (Aj (lit:=true) (pm:=fun _=>none) (.cons Bcg .nil) .nil (.cons k71 .nil) (.cons (Arx c x ev) .nil)) rfl Tryz.func74 rfl (by decide) (by kernel_rfl) ?_
 simp only [Tryz.f74,Af,lx53,lx63,Nat.reduceAdd,Nat.reduceSub,List.replicate]
 rw [hev]
 simp only [DH,Oc]
 refine Ab ?_
 refine LR (a2 hg E71) ?_
 repeat' (first | exact Ac (by kernel_rfl) | refine ⟨Ac (by kernel_rfl),?_⟩ | refine And.intro ?_ ?_ | fail)
 refine Av (T':=Xv w R.length cnt l 0) (H':=DH c x r w e p fv mv R2) ?_ ?_ (Aw _) ?_
 ·exact Aw1
 ·subst hR2; simp only [DH,Oc,AN,AA]; exact AM _
 rw [hrs]
 refine Am (σ:=Nat) (fun i _=>⟨Xv w R.length cnt l i,DH c x (G1 c x ev r.s.act (l.take i) r) w (V i).1 (V i).2.1 fv (V i).2.2.1 R2,(V i).2.2.2⟩)
  (fun i=>i≤K) (fun i=>K - i) 0 (BT _) (CT _) (AM _) (by rw [hV0]) ?_
 intro i c1 hi ih
 have hll:l.length≤16:=Ai
 by_cases hlt':i < l.length
 rotate_left
 ·obtain rfl:i=l.length:=by omega
  have hNe:N=l.length:=by
   rcases hN2 with ⟨g1,g2⟩ | ⟨g0,_⟩ <;> omega
  subst hNe
  clear ih hV hV0 hrs
  have hb:decide ((l.length:Int) < ((l.length:Nat):Int))=false:=Bc
  generalize G1 c x ev r.s.act (l.take l.length) r=r1
  generalize V l.length=v3
  clear hI hK1 hN2 hlt hln
  obtain ⟨⟨zv',vars',zl',left',act',zm',lamps',fau'⟩,ef',po'⟩:=r1
  subst hR2
  simp only [DH,Oc]
  refine Ab ?_
  simp only [Xv]
  exact Axg
 have hb:decide ((i:Int) < ((l.length:Nat):Int))=true:=Ae
 have hb2:decide (i < l.length)=true:=Ae
 have hgd:l.getD i default=l[i]:=by simp [List.getD,hlt']
 have w1:IntKind.i64.wrap ((i:Int)+1)=((i+1:Nat):Int):=Ay
 have hm:=hlt _ (lx90 hlt')
 have x1:=hV i hlt' hlt'
 have E0:=Bh4 (l[i]:Nat) ⟨by omega,by omega⟩
 have hfl:(MJ c x ev r.s.act (G1 c x ev r.s.act (l.take i) r) l[i]).2=false→i < K:=fun hf=>by
  exact Aod
 have htr:(MJ c x ev r.s.act (G1 c x ev r.s.act (l.take i) r) l[i]).2=true→N=i+1:=fun hf=>by
  exact Aoe
 have ih2:=fun h=>ih (i+1) 0 h (by omega)
 clear ih hV hV0 hrs hN2 hK1 hI
 rw [ML hlt'] at ih2
 have hst:∀ b1 b2,BV r.s.act (l[i]:Nat)=b1→BV (G1 c x ev r.s.act (l.take i) r).s.act (l[i]:Nat)=b2→MJ c x ev r.s.act (G1 c x ev r.s.act (l.take i) r) l[i]=
   if b1=true∧b2=true then C0 c x (l[i]:Nat) ev (G1 c x ev r.s.act (l.take i) r) else (G1 c x ev r.s.act (l.take i) r,false):=fun b1 b2 h1 h2=>by rw [←h1,←h2,MJ]
 have hfin:=ML (c:=c) (x:=x) (ev:=ev) (a0:=r.s.act) hlt' r
 generalize hr1:G1 c x ev r.s.act (l.take i) r=r1 at x1 hfl htr ih2 hst hfin ⊢
 generalize hc3:V i=v3 at x1 ⊢
 generalize hc4:V (i+1)=v4 at x1 ih2
 generalize l[i]=m at x1 E0 hfl htr ih2 hst hgd hm hfin
 cases hb1:BV r.s.act (m:Nat) with
 | false=>
  have hs:=hst _ _ hb1 rfl
  rw [if_neg (by simp)] at hs
  rw [if_neg (by rw [hb1]; simp)] at x1
  rw [hs] at ih2 hfl
  have ih3:=ih2 (hfl rfl)
  clear ih2 hfl htr hst
  subst x1
  obtain ⟨⟨zv',vars',zl',left',act',zm',lamps',fau'⟩,ef',po'⟩:=r1
  subst hR2
  simp only [DH,Oc,AN] at ih3 ⊢
  refine Ab ?_
  simp only [Xv]
  refine BJ ?_
  refine LR (a6 hb hb2 hgd w1 E0 hb1) ?_
  exact Aex
 | true=>
  cases hb2':BV r1.s.act (m:Nat) with
  | false=>
   have hs:=hst _ _ hb1 hb2'
   rw [if_neg (by simp)] at hs
   rw [if_neg (by rw [hb2']; simp)] at x1
   rw [hs] at ih2 hfl
   have ih3:=ih2 (hfl rfl)
   clear ih2 hfl htr hst
   subst x1
   obtain ⟨⟨zv',vars',zl',left',act',zm',lamps',fau'⟩,ef',po'⟩:=r1
   subst hR2
   simp only at hb2'
   simp only [DH,Oc,AN] at ih3 ⊢
   refine Ab ?_
   simp only [Xv]
   refine BJ ?_
   refine LR (a7 hb hb2 hgd w1 E0 hb1 hb2') ?_
   exact Aex
  | true=>
   have hs:=hst _ _ hb1 hb2'
   rw [if_pos (by simp)] at hs
   rw [if_pos ⟨hb1,hb2'⟩] at x1
   rw [hs] at ih2 hfl htr hfin
   clear hst
   generalize hr2:C0 c x (m:Nat) ev r1=q at x1 ih2 hfl htr hfin
   obtain ⟨r2,b⟩:=q
   simp only at x1 ih2 hfl htr hfin
   obtain ⟨⟨zv',vars',zl',left',act',zm',lamps',fau'⟩,ef',po'⟩:=r1
   obtain ⟨⟨zv2,vars2,zl2,left2,act2,zm2,lamps2,fau2⟩,ef2,po2⟩:=r2
   subst hR2
   simp only at hb2'
   simp only [DH,Oc,AN] at x1
   cases b with
   | false=>
    have ih3:=ih2 (hfl rfl)
    clear ih2 hfl htr
    simp only [DH,Oc,AN] at ih3 ⊢
    refine Ab ?_
    simp only [Xv]
    refine BJ ?_
    refine LR (a8 hb hb2 hgd w1 E0 hb1 hb2' x1) ?_
    repeat' (first | exact Ac (by kernel_rfl) | refine ⟨Ac (by kernel_rfl),?_⟩ | refine And.intro ?_ ?_ | fail)
    exact Aex
   | true=>
    obtain rfl:=htr rfl
    clear ih2 hfl htr
    subst hc4
    rw [hfin]
    simp only [DH,Oc,AN]
    refine Ab ?_
    simp only [Xv]
    refine BJ ?_
    refine LR (a7 hb hb2 hgd E0 hb1 hb2' x1) ?_
    exact Ut
theorem YP (c:Cd) (x:Cx) (ev:Ev) (r:Ru) (hm:ev.mo < c.pri.length) (h:RuI c x r) (he:r.ef.length≤900000) (hp:r.po.length≤800000) (w e p fv mv:Nat) (R:List Blk) (cnt:Nat):
  ∃ e' p' m' cnt',HSpec Tryz.prog 74 [.pt 0 w 0 0,CV ev] (DH c x r w e p fv mv R) cnt (.tu []) (DH c x (EM c x ev r) w e' p' fv m' R) cnt':=by
 unfold EM
 by_cases h0:0≤ev.mo
 ·rw [if_pos h0]
  exact Aea c x ev r h0 hm h (by omega) (by omega) w e p fv mv R cnt
 ·rw [if_neg h0]
  exact Aeb c x ev r h0 h he hp w e p fv mv R cnt
def D74 (c:Cd) (x:Cx) (args:List AV) (H:List Blk) (cnt:Nat) (a:AV) (H':List Blk) (cnt':Nat):Prop:=
 ∀ (ev:Ev) (r:Ru) (w e p fv mv:Nat) (R:List Blk),args=[.pt 0 w 0 0,CV ev]→H=DH c x r w e p fv mv R→a=.tu []∧∃ e' p' m',H'=DH c x (EM c x ev r) w e' p' fv m' R
noncomputable def f74 (c:Cd) (x:Cx):=hF Tryz.prog 74 (D74 c x)
theorem Bh5 (c:Cd) (x:Cx):M8 Tryz.prog 74 (f74 c x):=JC _ _ _
theorem e74 {c:Cd} {x:Cx} {ev:Ev} {r:Ru} (hm:ev.mo < c.pri.length) (h:RuI c x r) (he:r.ef.length≤900000) (hp:r.po.length≤800000) (w e p fv mv:Nat) (R:List Blk) (cnt:Nat):
  ∃ e' p' m' cnt',f74 c x [.pt 0 w 0 0,CV ev] (DH c x r w e p fv mv R) cnt=some (.tu [],DH c x (EM c x ev r) w e' p' fv m' R,cnt'):=by
 obtain ⟨e',p',m',cnt',h1⟩:=YP c x ev r hm h he hp w e p fv mv R cnt
 obtain ⟨a,H',c',g1,g2⟩:=JD (D:=D74 c x) h1 (by
  intro ev' r' w2 e2 p2 fv2 mv2 R2 a1 a2
  simp only [lx96,Az,Du] at a1
  obtain ⟨_,a3⟩:=a1
  obtain rfl:=KI a3
  obtain ⟨hn,rfl,rfl,rfl,rfl,rfl,rfl⟩:=Ui a2
  exact ⟨rfl,e',p',m',YN (by rw [←(Js c x).hand,←(Js c x).hand,hn]) _ _ _ _ _ _⟩)
 obtain ⟨rfl,e3,p3,m3,rfl⟩:=g2 ev r w e p fv mv R rfl rfl
 exact ⟨e3,p3,m3,c',g1⟩
def pgX (c:Cd) (x:Cx) (s:Rs) (ef:List Ef) (w e:Nat) (pf:AV) (b2:Blk) (f m:Nat) (R:List Blk):List Blk:=⟨true,w,138,18,[.ag [.vw c.zi (c.ins.map BY),.vw c.zs (c.strs.map stA),.vw c.ze (c.ens.map D3),.vw c.zp (c.pri.map (kA .i64)),.vw c.zv (c.vars.map (kA .i64)),.sc (.int .i64 c.tim),.sc (.int .i64 c.evs),
 .vw false (s.vars.map (kA .i64)),.sl 3 f 0 s.left.length,.sc (.int .u32 s.act),.sl 4 m 0 s.lamps.length,.sc (.int .i64 s.fau),.sc (.int .i64 x.ti),.sc (.int .u64 x.clo),.sc (.int .i64 x.pl'),.sc (.int .i64 x.ba),.sl 1 e 0 ef.length,pf]],false⟩::
 ⟨true,e,73,5,ef.map C6,false⟩::b2::⟨true,f,3,1,s.left.map (kA .i64),false⟩::⟨true,m,82,6,s.lamps.map Bg,false⟩::R
noncomputable def Bcj:=Xz (fun p:(Bool × List Int) × List Blk × Nat=>p.1.2.length≤1000000) (fun p=>([.vw p.1.1 (p.1.2.map (kA .i64))],p.2.1,p.2.2))
 (fun p=>(.sl p.2.1.length (p.2.2+1) 0 p.1.2.length,p.2.1++[⟨true,p.2.2+1,3,1,p.1.2.map (kA .i64),false⟩],p.2.2+2))
theorem Bck:M8 Tryz.prog 54 Bcj:=G6 <| by
 rintro ⟨⟨z,l⟩,H,cnt⟩ h
 exact ME z l H cnt h
theorem Bcl (z:Bool) (l:List Int) (H:List Blk) (cnt:Nat) (h:l.length≤1000000):Bcj [.vw z (l.map (kA .i64))] H cnt=some (.sl H.length (cnt+1) 0 l.length,H++[⟨true,cnt+1,3,1,l.map (kA .i64),false⟩],cnt+2):=
 (G5 (q:=fun p:(Bool × List Int) × List Blk × Nat=>p.1.2.length≤1000000) (enc:=fun p=>([.vw p.1.1 (p.1.2.map (kA .i64))],p.2.1,p.2.2))
  (out:=fun p=>(.sl p.2.1.length (p.2.2+1) 0 p.1.2.length,p.2.1++[⟨true,p.2.2+1,3,1,p.1.2.map (kA .i64),false⟩],p.2.2+2)) ((z,l),H,cnt) h (by
  rintro ⟨⟨z',l'⟩,H',c'⟩ _ h2
  simp only [lx40,lx96,AV.vw.injEq,Az] at h2
  obtain ⟨⟨rfl,h3⟩,rfl,rfl⟩:=h2
  rw [Gl h3]) :)
noncomputable def Ary:=Xz (fun p:(Bool × List Lo) × List Blk × Nat=>p.1.2.length≤1000000) (fun p=>([.vw p.1.1 (p.1.2.map Bg)],p.2.1,p.2.2))
 (fun p=>(.sl p.2.1.length (p.2.2+1) 0 p.1.2.length,p.2.1++[⟨true,p.2.2+1,82,6,p.1.2.map Bg,false⟩],p.2.2+2))
theorem Auz:M8 Tryz.prog 152 Ary:=G6 <| by
 rintro ⟨⟨z,l⟩,H,cnt⟩ h
 exact Rh z l H cnt h
theorem Bcm (z:Bool) (l:List Lo) (H:List Blk) (cnt:Nat) (h:l.length≤1000000):Ary [.vw z (l.map Bg)] H cnt=some (.sl H.length (cnt+1) 0 l.length,H++[⟨true,cnt+1,82,6,l.map Bg,false⟩],cnt+2):=
 (G5 (q:=fun p:(Bool × List Lo) × List Blk × Nat=>p.1.2.length≤1000000) (enc:=fun p=>([.vw p.1.1 (p.1.2.map Bg)],p.2.1,p.2.2))
  (out:=fun p=>(.sl p.2.1.length (p.2.2+1) 0 p.1.2.length,p.2.1++[⟨true,p.2.2+1,82,6,p.1.2.map Bg,false⟩],p.2.2+2)) ((z,l),H,cnt) h (by
  rintro ⟨⟨z',l'⟩,H',c'⟩ _ h2
  simp only [lx40,lx96,AV.vw.injEq,Ie,Az] at h2
  obtain ⟨⟨rfl,rfl⟩,rfl,rfl⟩:=h2
  rfl) :)
theorem Xw (s:Rs) (H:List Blk) (cnt:Nat) (h1:s.vars.length≤1000000) (h2:s.left.length≤1000000) (h3:s.lamps.length≤1000000):
  HSpec Tryz.prog 104 [Fv s] H cnt (.ag [.sl (H.length+2) (cnt+3) 0 s.vars.length,.sl (H.length+3) (cnt+5) 0 s.left.length,.sc (.int .u32 s.act),.sl (H.length+4) (cnt+7) 0 s.lamps.length,.sc (.int .i64 s.fau)])
   (H++[dead,dead,⟨true,cnt+3,3,1,s.vars.map (kA .i64),false⟩,⟨true,cnt+5,3,1,s.left.map (kA .i64),false⟩,⟨true,cnt+7,82,6,s.lamps.map Bg,false⟩]) (cnt+8):=by
 obtain ⟨zv,vars,zl,left,act,zm,lamps,fau⟩:=s
 simp only at h1 h2 h3
 have E1:=fun H c=>Bcl zv vars H c h1
 have E2:=fun H c=>Bcl zl left H c h2
 have E3:=fun H c=>Bcm zm lamps H c h3
 refine Ag (Aj (lit:=true) (pm:=fun _=>none) .nil .nil .nil (.cons Bck (.cons Auz .nil))) rfl Tryz.func104 rfl (by decide) (by kernel_rfl) ?_
 simp only [Tryz.f104,Af,lx53,lx63,Nat.reduceAdd,Nat.reduceSub,List.replicate]
 refine Ab ?_
 refine LR (a3 E1 E2 E3) ?_
 repeat' (first | exact Ac (by kernel_rfl) | refine ⟨Ac (by kernel_rfl),?_⟩ | refine And.intro ?_ ?_ | fail)
 all_goals first | exact .refl _ | exact .inl rfl | (refine IU _ ?_ _; rw [Ce,Ce,Ce,Ce,Ce,Ky]; exact ⟨.inl rfl,.inl rfl,.inr (.inl rfl),.inr (.inl rfl),.inr (.inl rfl),trivial⟩) | skip
 all_goals done
theorem Ajv (c:Cd) (hf:Fit c) (s:Rs) (x:Cx) (h:¬ (Bo c s=true∧HM x=true)) (H:List Blk) (cnt:Nat):
  HSpec Tryz.prog 56 [Bv c,Fv s,JB x] H cnt (.tu [.jk,.sc (.int .i64 (if Bo c s=false then 1 else 5))]) H (cnt+3):=by
 have x1:=e40 c s hf
 have x2:=fun n lo hi=>Ol n lo hi
 obtain ⟨ti,clo,pl',ba⟩:=x
 simp only [Aa,Aq] at x1
 refine Ag (Aj (lit:=true) (pm:=fun _=>none) (.cons Bb9 (.cons Ats .nil)) .nil .nil .nil) rfl Tryz.func56 rfl (by decide) (by kernel_rfl) ?_
 simp only [Tryz.f56,Af,lx53,lx63,Nat.reduceAdd,Nat.reduceSub,List.replicate]
 cases h1:Bo c s with
 | false=>
  rw [h1] at x1
  rw [if_pos rfl]
  refine Ab ?_
  refine LR x1 ?_
  exact Ut
 | true=>
  rw [h1] at x1
  rw [if_neg (by simp)]
  have h2:HM ⟨ti,clo,pl',ba⟩=false:=by
   rw [JP]; exact fun hc=>h ⟨h1,hc⟩
  have h3:HM ⟨ti,clo,pl',ba⟩=(F0 ti 0 1099511627776 && F0 pl' 0 2147483647 && F0 ba 0 2147483647):=by
   simp only [HM,F0]; cases decide (0≤ti) <;> cases decide (ti≤1099511627776) <;> cases decide (0≤pl') <;> cases decide (pl'≤2147483647) <;> rfl
  rw [h3] at h2
  refine Ab ?_
  cases k1:F0 ti 0 1099511627776 with
  | false=>
   refine LR (a3 x1 x2 k1) ?_
   exact Ut
  | true=>
   cases k2:F0 pl' 0 2147483647 with
   | false=>
    refine LR (a4 x1 x2 k1 k2) ?_
    exact Ut
   | true=>
    have k3:F0 ba 0 2147483647=false:=by rw [k1,k2] at h2; simpa using h2
    refine LR (a5 x1 x2 k1 k2 k3) ?_
    exact Ut
def Bcn (c:Cd) (s:Rs) (x:Cx) (n cnt:Nat):Blk:=⟨true,cnt+11,138,18,[.ag [.vw c.zi (c.ins.map BY),.vw c.zs (c.strs.map stA),.vw c.ze (c.ens.map D3),.vw c.zp (c.pri.map (kA .i64)),.vw c.zv (c.vars.map (kA .i64)),.sc (.int .i64 c.tim),.sc (.int .i64 c.evs),
 .sl (n+5) (cnt+6) 0 s.vars.length,.sl (n+6) (cnt+8) 0 s.left.length,.sc (.int .u32 s.act),.sl (n+7) (cnt+10) 0 s.lamps.length,.sc (.int .i64 s.fau),.sc (.int .i64 x.ti),.sc (.int .u64 x.clo),.sc (.int .i64 x.pl'),.sc (.int .i64 x.ba),.vw true [],.vw true []]],false⟩
theorem Ajw (c:Cd) (hf:Fit c) (s:Rs) (x:Cx) (h1:Bo c s=true) (h2:HM x=true) (H:List Blk) (cnt:Nat):
  HSpec Tryz.prog 56 [Bv c,Fv s,JB x] H cnt (.tu [.pt (H.length+8) (cnt+11) 0 0,.sc (.int .i64 0)])
   (H++[dead,dead,dead,dead,dead,⟨true,cnt+6,3,1,s.vars.map (kA .i64),false⟩,⟨true,cnt+8,3,1,s.left.map (kA .i64),false⟩,⟨true,cnt+10,82,6,s.lamps.map Bg,false⟩,Bcn c s x H.length cnt]) (cnt+12):=by
 have x1:=e40 c s hf
 rw [h1] at x1
 have hru:=Uf hf h1 h2
 have hvl:=B9 hru.val
 have q1:s.vars.length≤1000000:=by have:=hru.vl; simp only at this; omega
 have q2:s.left.length≤1000000:=by have:=hru.ll; simp only at this; omega
 have q3:s.lamps.length≤1000000:=by have:=hru.lmp; simp only at this; omega
 have x2:=fun n lo hi=>Ol n lo hi
 have h3:HM x=(F0 x.ti 0 1099511627776 && F0 x.pl' 0 2147483647 && F0 x.ba 0 2147483647):=by
  simp only [HM,F0]; cases decide (0≤x.ti) <;> cases decide (x.ti≤1099511627776) <;> cases decide (0≤x.pl') <;> cases decide (x.pl'≤2147483647) <;> rfl
 rw [h3,AT,AT] at h2
 obtain ⟨⟨k1,k2⟩,k3⟩:=h2
 obtain ⟨F,kF,E⟩:=Dz (Xw s (H++[⟨true,cnt,36,7,[Bv c],false⟩,⟨true,cnt+1,41,5,[Fv s],false⟩,⟨true,cnt+1+1,27,4,[JB x],false⟩]) (cnt+1+1+1) q1 q2 q3)
 simp only [Aa,Aq,Bl,lx4,lx91,lx64,lx5,lx53,lx63] at E x1
 refine Ag (Aj (lit:=true) (pm:=fun _=>none) (.cons Bb9 (.cons Ats .nil)) .nil .nil (.cons kF .nil)) rfl Tryz.func56 rfl (by decide) (by kernel_rfl) ?_
 simp only [Tryz.f56,Af,lx53,lx63,Nat.reduceAdd,Nat.reduceSub,List.replicate]
 refine Ab ?_
 refine LR (a6 x1 x2 k1 k2 k3 E) ?_
 refine IU _ ?_ _
 rw [Ce,Ce,Ce,Ce,Ce,Ce,Ce,Ce,Ce,Ky]
 exact ⟨.inl rfl,.inl rfl,.inl rfl,.inl rfl,.inl rfl,.inr (.inl rfl),.inr (.inl rfl),.inr (.inl rfl),.inr (.inl rfl),trivial⟩
theorem YQ (c:Cd) (hf:Fit c) (s:Rs) (ev:Ev) (x:Cx) (h:¬ (Bo c s=true∧HM x=true)):C1 Tryz.prog 36 [Bv c,Fv s,CV ev,JB x] (Jt (GZ c s ev x)):=by
 obtain ⟨K,hK,hK2⟩:∃ K:Int,K=(if Bo c s=false then 1 else 5)∧GZ c s ev x=(⟨Q3,[],[]⟩,K):=by
  by_cases h1:Bo c s=false
  ·exact ⟨1,by rw [if_pos h1],by rw [GZ,if_pos h1]⟩
  ·have h2:HM x=false:=by
    rw [JP]; exact fun hc=>h ⟨by simpa using h1,hc⟩
   exact ⟨5,by rw [if_neg h1],by rw [GZ,if_neg h1,if_pos h2]⟩
 have hKn:(K != 0)=true:=by
  rw [hK]; split <;> rfl
 rw [hK2]
 obtain ⟨F,kF,E⟩:=Dz (Ajv c hf s x h [⟨true,0,36,7,[Bv c],false⟩,⟨true,1,41,5,[Fv s],false⟩,⟨true,2,46,3,[CV ev],false⟩,⟨true,3,27,4,[JB x],false⟩,⟨true,4,41,5,[Fv Q3],false⟩] 5)
 rw [←hK] at E
 simp only [Aa,Aq,Bl,AN,Q3,lx47,Nat.reduceAdd] at E
 refine BO (Aj (lit:=true) (pm:=fun _=>none) .nil .nil .nil (.cons kF .nil)) rfl Tryz.func36 rfl (by decide) (by kernel_rfl) (Ju _) ?_
 simp only [Tryz.f36,Af,lx53,lx63,Nat.reduceAdd,Nat.reduceSub,List.replicate]
 refine Ab ?_
 simp (maxSteps:=10000000) +contextual -implicitDefEqProofs only [AX,AW,St.put,Ao,Al,DN,↓reduceIte,Nat.reduceAdd,Int.reduceLT,Nat.reduceLT,Dd,Int.reduceAdd,CO,E5,hl,Co,BU,CJ,DD,Cu,Cw,Cm,B7,BZ,Cp,AA,AN,Aq,Aa,Bl,norefs,AV.noref,lx11,E,hKn,Jt,Q3]
 all_goals done
def pgN (c:Cd) (x:Cx) (s:Rs) (w f m:Nat) (R:List Blk):List Blk:=⟨true,w,138,18,[.ag [.vw c.zi (c.ins.map BY),.vw c.zs (c.strs.map stA),.vw c.ze (c.ens.map D3),.vw c.zp (c.pri.map (kA .i64)),.vw c.zv (c.vars.map (kA .i64)),.sc (.int .i64 c.tim),.sc (.int .i64 c.evs),
 .vw false (s.vars.map (kA .i64)),.sl 3 f 0 s.left.length,.sc (.int .u32 s.act),.sl 4 m 0 s.lamps.length,.sc (.int .i64 s.fau),.sc (.int .i64 x.ti),.sc (.int .u64 x.clo),.sc (.int .i64 x.pl'),.sc (.int .i64 x.ba),.vw true [],.vw true []]],false⟩::
 dead::dead::⟨true,f,3,1,s.left.map (kA .i64),false⟩::⟨true,m,82,6,s.lamps.map Bg,false⟩::R
theorem Av0 {P:Program} {E:Env} {n0:Nat} {rs:List ResultVar} {Q:AV→St→Prop} {k:List Item} {T:List AV} {c:Cd} {x:Cx} {s:Rs} {w f m:Nat} {R:List Blk} {cnt:Nat}
  (h:Go P E n0 rs Q k ⟨T,pgX c x s [] w cnt (.vw true []) dead f m R,cnt+1⟩):Go P E n0 rs Q k ⟨T,pgN c x s w f m R,cnt⟩:=by
 have e1:((pgX c x s [] w cnt (.vw true []) dead f m R).set 1 dead).set 1 ⟨true,cnt,73,5,[],false⟩=pgX c x s [] w cnt (.vw true []) dead f m R:=rfl
 refine Qo (T':=T) (H':=(pgX c x s [] w cnt (.vw true []) dead f m R).set 1 dead) 1 cnt 73 5 (cnt+1) (by simp [pgX]) (Aw _) (Iv _) (BP _ _ _) ?_ (by rw [e1]; exact h)
 exact ⟨Fp _ _ _ _ _ _ _ _ _ _ ⟨Gf ⟨.refl _,.refl _,.refl _,.refl _,.refl _,.refl _,.refl _,.refl _,.refl _,.refl _,.refl _,.refl _,.refl _,.refl _,.refl _,.refl _,.nil,.refl _,trivial⟩,trivial⟩,.inl rfl,.inl rfl,.inl rfl,.inl rfl,EW _ _ _⟩
theorem Av1 {P:Program} {E:Env} {n0:Nat} {rs:List ResultVar} {Q:AV→St→Prop} {k:List Item} {T:List AV} {c:Cd} {x:Cx} {s:Rs} {w e f m:Nat} {R:List Blk} {cnt:Nat}
  (h:Go P E n0 rs Q k ⟨T,DH c x ⟨s,[],[]⟩ w e cnt f m R,cnt+1⟩):Go P E n0 rs Q k ⟨T,pgX c x s [] w e (.vw true []) dead f m R,cnt⟩:=by
 have e1:(pgX c x s [] w e (.sl 2 cnt 0 0) dead f m R).set 2 ⟨true,cnt,46,3,[],false⟩=DH c x ⟨s,[],[]⟩ w e cnt f m R:=rfl
 refine Qo (T':=T) (H':=pgX c x s [] w e (.sl 2 cnt 0 0) dead f m R) 2 cnt 46 3 (cnt+1) (by simp [pgX]) (Aw _) (Iv _) (BP _ _ _) ?_ (by rw [e1]; exact h)
 exact ⟨Fp _ _ _ _ _ _ _ _ _ _ ⟨Gf ⟨.refl _,.refl _,.refl _,.refl _,.refl _,.refl _,.refl _,.refl _,.refl _,.refl _,.refl _,.refl _,.refl _,.refl _,.refl _,.refl _,.refl _,.nil,trivial⟩,trivial⟩,.inl rfl,.inl rfl,.inl rfl,.inl rfl,EW _ _ _⟩
theorem YR (c:Cd) (hf:Fit c) (s:Rs) (ev:Ev) (x:Cx) (h1:Bo c s=true) (h2:HM x=true):C1 Tryz.prog 36 [Bv c,Fv s,CV ev,JB x] (Jt (GZ c s ev x)):=by
 have hru:=Uf hf h1 h2
 have x3:=e67 c hf ev
 obtain ⟨F,kF,E⟩:=Dz (Ajw c hf s x h1 h2 [⟨true,0,36,7,[Bv c],false⟩,⟨true,1,41,5,[Fv s],false⟩,⟨true,2,46,3,[CV ev],false⟩,⟨true,3,27,4,[JB x],false⟩,⟨true,4,41,5,[Fv Q3],false⟩] 5)
 obtain ⟨ev1,hev1⟩:∃ ev1,CV ev=ev1:=⟨_,rfl⟩
 have hK:GZ c s ev x=if Yq c ev=false then (⟨Q3,[],[]⟩,55) else (EM c x ev ⟨s,[],[]⟩,0):=by rw [GZ,if_neg (by rw [h1]; simp),if_neg (by rw [h2]; simp)]
 have tl:(s.left.map (kA .i64)).take s.left.length=s.left.map (kA .i64):=lx118 (by simp)
 have tv:(s.vars.map (kA .i64)).take s.vars.length=s.vars.map (kA .i64):=lx118 (by simp)
 simp only [Bcn,dead,Aa,Aq,Bl,AN,Q3,lx47,lx53,lx63,lx91,lx64,Nat.reduceAdd] at E x3
 refine BO (Aj (lit:=true) (pm:=fun _=>none) (.cons Bgb .nil) .nil .nil (.cons kF (.cons (Bh5 c x) .nil))) rfl Tryz.func36 rfl (by decide) (by kernel_rfl) (Ju _) ?_
 simp only [Tryz.f36,Af,lx53,lx63,Nat.reduceAdd,Nat.reduceSub,List.replicate]
 refine Hj ?s1 ?a1 ?b1
 case a1=>
  refine gG0 ?_
  rfl
 refine Hj ?s2 ?a2 ?b2
 case a2=>
  refine LR E ?_
  rfl
 refine Av (T':=Bm 0 45 [(4,.pt 0 0 0 0),(6,.pt 2 2 0 0),(8,.pt 4 4 0 0),(12,.pt 13 16 0 0),(13,.sc (.int .i64 0))]) ?_ (AM _) (Aw _) ?_
 ·exact Ake
 have hz1:∀ a b els,F2 a b els (s.left.map (kA .i64))=s.left.map (kA .i64):=fun a b els=>Jq a b els _ (Bx _)
 have hz2:∀ a b els,F2 a b els (s.lamps.map Bg)=s.lamps.map Bg:=fun a b els=>Jq a b els _ (Jj _)
 refine At8 0 10 ⟨true,11,3,1,s.vars.map (kA .i64),false⟩ rfl rfl (BT _) (Bx _) ?_
 refine qd7 ?_
 have hj1:GC (s.left.map (kA .i64))=true:=HD (fun _=>by simp [kA]) _
 have hj2:GC (s.lamps.map Bg)=true:=HD (fun _=>by simp [Bg]) _
 have hw1:∀ a b,Tz a b (s.left.map (kA .i64))=s.left.map (kA .i64):=fun a b=>TB a b (fun _=>rfl) _
 have hw2:∀ a b,Tz a b (s.lamps.map Bg)=s.lamps.map Bg:=fun a b=>TB a b (fun _=>rfl) _
 refine J7 0 13 (BT _) (BT _) (by simp) (by simp) ?_ ?_
 ·exact qc4
 refine qd2 ?_
 refine J7 3 11 (BT _) (BT _) (by simp) (by simp) ?_ ?_
 ·exact qc4
 refine qd2 ?_
 refine J7 4 12 (BT _) (BT _) (by simp) (by simp) ?_ ?_
 ·exact qc4
 refine qd2 ?_
 refine J7 2 5 (BT _) (BT _) (by simp) (by simp) ?_ ?_
 ·exact qc4
 refine qd2 ?_
 refine J7 6 12 (BT _) (BT _) (by simp) (by simp) ?_ ?_
 ·exact qc4
 refine qd2 ?_
 refine J7 7 13 (BT _) (BT _) (by simp) (by simp) ?_ ?_
 ·exact qc4
 refine qd2 ?_
 obtain ⟨R,hR⟩:∃ R:List Blk,[⟨true,2,46,3,[CV ev],false⟩,⟨true,4,41,5,[Fv Q3],false⟩,⟨true,0,36,7,[Bv c],false⟩]=R:=⟨_,rfl⟩
 refine Av (T':=Bm 0 45 [(4,.pt 7 0 0 0),(6,.pt 5 2 0 0),(8,.pt 6 4 0 0),(12,.pt 0 16 0 0),(13,.sc (.int .i64 0))]) (H':=pgN c x s 16 13 15 R) (c':=17) ?_ ?_ (Aw _) ?_
 ·simp only [Bm,D2,Nat.reduceAdd,Nat.reduceEqDiff,lx6,lx7,↓reduceIte,B4]
  exact CT _
 ·subst hR
  simp only [pgN,dead,Aa,Aq,AN,Q3,lx47]
  simp (maxSteps:=10000000) only [AX,AW]
  all_goals done
 refine Av0 ?_
 refine Av1 ?_
 cases h3:Yq c ev with
 | false=>
  rw [h3] at x3
  rw [hK,if_pos h3]
  subst hR
  simp only [DH,Oc,Aa,Aq,AN,Q3,lx47,lx63]
  refine Ab ?_
  refine BJ ?_
  simp (maxSteps:=10000000) +contextual -implicitDefEqProofs only [AX,AW,St.put,Ao,Al,DN,pl,↓reduceIte,Nat.reduceAdd,Int.reduceLT,Nat.reduceLT,Dd,Int.reduceAdd,CO,Co,BU,Cu,Cw,Cm,B7,CR,Cp,AA,norefs,AV.noref,lx11,x3,Jt]
  all_goals done
 | true=>
  rw [h3] at x3
  rw [hK,if_neg (by rw [h3]; simp)]
  have hm:ev.mo < c.pri.length:=by
   exact Aes
  obtain ⟨e',p',m',c',x4⟩:=e74 hm hru (by simp) (by simp) 16 17 18 13 15 R 19
  clear hru hm
  generalize EM c x ev ⟨s,[],[]⟩=rr at x4 ⊢
  obtain ⟨⟨zv',vars',zl',left',act',zm',lamps',fau'⟩,ef',po'⟩:=rr
  have tef:(ef'.map C6).take ef'.length=ef'.map C6:=lx118 (by simp)
  have tpo:(po'.map CV).take po'.length=po'.map CV:=lx118 (by simp)
  have tl':(left'.map (kA .i64)).take left'.length=left'.map (kA .i64):=lx118 (by simp)
  have tm':(lamps'.map Bg).take lamps'.length=lamps'.map Bg:=lx118 (by simp)
  subst hR
  simp only [DH,Oc,Aa,Aq,AN,Q3,lx47,lx63] at x4 ⊢
  refine Ab ?_
  refine BJ ?_
  simp (maxSteps:=10000000) +contextual -implicitDefEqProofs only [AX,AW,St.put,Ao,Al,DN,pl,↓reduceIte,reduceCtorEq,Nat.reduceAdd,Nat.reduceLeDiff,Nat.reduceEqDiff,Int.reduceLT,Nat.reduceLT,Dd,Int.reduceAdd,CO,E5,hl,Co,Cw,B7,CR,Cp,AA,lx11,x3,x4,Jt,tef,tpo,tl',tm']
  all_goals done
theorem Uj (c:Cd) (hf:Fit c) (s:Rs) (ev:Ev) (x:Cx):C1 Tryz.prog 36 [Bv c,Fv s,CV ev,JB x] (Jt (GZ c s ev x)):=by
 by_cases h:Bo c s=true∧HM x=true
 ·exact YR c hf s ev x h.1 h.2
 ·exact YQ c hf s ev x h
theorem Bh7:VOk Tryz.prog 36 f72:=Lr <| by
 rintro ⟨c,s,ev,x⟩ h
 exact Uj c h s ev x
end Go.Proofs.YtdjpkhjaibdogaaGreat
