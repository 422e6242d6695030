/-
  Lemmas towards ModesPriority (joined texts: GQ, GR, GS, GT).
  Conditions: none.
-/
import Derived.Test.YtdjpkhjaibdogaaGreatL01
import Derived.Test.YtdjpkhjaibdogaaGreatL02
import Derived.Test.YtdjpkhjaibdogaaGreatL51
set_option linter.unusedSimpArgs false
set_option linter.unusedVariables false
set_option maxRecDepth 100000
set_option maxHeartbeats 8000000
namespace Go.Proofs.YtdjpkhjaibdogaaGreat
open Go Go.SX
attribute [local congr] ite_congr
noncomputable def Bl2:=EF (fun p:(AV × AV × Int × AV × AV) × Int=>0≤p.2∧p.2≤1000000) (fun p=>[.ag [p.1.1,p.1.2.1,.sc (.int .u32 p.1.2.2.1),p.1.2.2.2.1,p.1.2.2.2.2],kA .i64 p.2]) (fun p=>bA (B7 p.1.2.2.1 p.2))
theorem Brg (m:Int) (h:0≤m∧m≤1000000) (a b d e:AV) (act:Int):Bl2 [.ag [a,b,.sc (.int .u32 act),d,e],.sc (.int .i64 m)]=some (.sc (.bool (B7 act m))):=
 (AK (q:=fun p:(AV × AV × Int × AV × AV) × Int=>0≤p.2∧p.2≤1000000) (enc:=fun p=>[.ag [p.1.1,p.1.2.1,.sc (.int .u32 p.1.2.2.1),p.1.2.2.2.1,p.1.2.2.2.2],kA .i64 p.2]) (out:=fun p=>bA (B7 p.1.2.2.1 p.2)) ((a,b,act,d,e),m) h (by
  rintro ⟨⟨a',b',c',d',e'⟩,m'⟩ h
  simp only [lx94,AV.ag.injEq,AV.sc.injEq,Value.int.injEq,AW,C5] at h
  obtain ⟨⟨rfl,rfl,rfl,rfl,rfl⟩,h2⟩:=h
  rw [BR h2]) :)
theorem Bl3:DC Tryz.prog 58 Bl2:=AN <| by
 rintro ⟨⟨a,b,act,d,e⟩,m⟩ hq
 simp only at hq
 have wa:=hq.1
 simp only
 refine Ab (Kt .nil) rfl Tryz.func58 rfl (by decide) (by kernel_rfl) (by simp [bA,okc,Value.oneCell']) ?_
 simp only [Tryz.f58,Ae,lx52,lx63,Nat.reduceAdd,Nat.reduceSub,List.replicate]
 refine Ac ?_
 simp (maxSteps:=10000000) +contextual -implicitDefEqProofs only [AX,AT,St.put,↓reduceIte,reduceCtorEq,Nat.reduceAdd,CS,Int.reduceAdd,B9,AL,Bb,wa,B7]
 all_goals done
def Bl4 (c:Cd) (x:Cx) (ev:Ev) (args:List AV) (H:List Blk) (cnt:Nat) (a:AV) (H':List Blk) (cnt':Nat):Prop:=
 ∀ (m:Int) (r:Ru) (w e p fv mv:Nat) (R:List Blk),args=[.pt 0 w 0 0,.sc (.int .i64 m),Hq ev]→H=Df c x r w e p fv mv R→a=.sc (.bool (DX c x m ev r).2)∧∃ e' p' m',H'=Df c x (DX c x m ev r).1 w e' p' fv m' R
noncomputable def f113 (c:Cd) (x:Cx) (ev:Ev):=hF Tryz.prog 113 (Bl4 c x ev)
theorem Axz (c:Cd) (x:Cx) (ev:Ev):Jo Tryz.prog 113 (f113 c x ev):=Ee _ _ _
theorem Bbp {c:Cd} {x:Cx} {r r':Ru} (h:UX r=UX r') (m:Int) (ev:Ev):UX (DX c x m ev r).1=UX (DX c x m ev r').1∧(DX c x m ev r).2=(DX c x m ev r').2:=by
 have k1:=(Jg c x).one m ev r
 have k2:=(Jg c x).one m ev r'
 rw [h] at k1
 rw [k2] at k1
 exact ⟨(congrArg Prod.fst k1).symm,(congrArg Prod.snd k1).symm⟩
theorem Bl5 {c:Cd} {x:Cx} {m:Int} {ev:Ev} {r:Ru} (hm:0≤m∧m < c.pri.length) (h:RuI c x r) (hef:r.ef.length≤1000000) (hpo:r.po.length≤900000) (w e p fv mv:Nat) (R:List Blk) (cnt:Nat):
  ∃ e' p' m' cnt',f113 c x ev [.pt 0 w 0 0,.sc (.int .i64 m),Hq ev] (Df c x r w e p fv mv R) cnt=some (.sc (.bool (DX c x m ev r).2),Df c x (DX c x m ev r).1 w e' p' fv m' R,cnt'):=by
 obtain ⟨e',p',m',cnt',h1⟩:=Aja c x m hm ev r h hef hpo w e p fv mv R cnt
 obtain ⟨a,H',c',g1,g2⟩:=O7 (D:=Bl4 c x ev) h1 (by
  intro m2 r' w2 e2 p2 fv2 mv2 R2 a1 a2
  simp only [lx94,AV.sc.injEq,Value.int.injEq,AW,C5] at a1
  obtain ⟨_,rfl⟩:=a1
  obtain ⟨hn,rfl,rfl,rfl,rfl,rfl,rfl⟩:=WD a2
  obtain ⟨k1,k2⟩:=Bbp (x:=x) hn m ev
  exact ⟨by rw [k2],e',p',m',Ach k1 _ _ _ _ _ _⟩)
 obtain ⟨rfl,e3,p3,m3,rfl⟩:=g2 m r w e p fv mv R rfl rfl
 exact ⟨e3,p3,m3,c',g1⟩
theorem Ajb (c:Cd) (x:Cx) (ev:Ev) (r:Ru) (h0:0≤ev.mo) (hm:ev.mo < c.pri.length) (h:RuI c x r) (hef:r.ef.length≤1000000) (hpo:r.po.length≤900000) (w e p fv mv:Nat) (R:List Blk) (cnt:Nat):
  ∃ e' p' m' cnt',HSpec Tryz.prog 74 [.pt 0 w 0 0,Hq ev] (Df c x r w e p fv mv R) cnt (.tu []) (Df c x (DX c x ev.mo ev r).1 w e' p' fv m' R) cnt':=by
 obtain ⟨e',p',m',cnt',x1⟩:=Bl5 ⟨h0,hm⟩ h hef hpo (ev:=ev) w e p fv mv (R++[⟨true,cnt,46,3,[Hq ev],false⟩]) (cnt+1)
 refine ⟨e',p',m',cnt',?_⟩
 have hg:decide (0≤ev.mo)=true:=by rw [Bw]; exact h0
 obtain ⟨r1,hr1⟩:∃ r1,(DX c x ev.mo ev r).1=r1:=⟨_,rfl⟩
 rw [hr1] at x1 ⊢
 generalize (DX c x ev.mo ev r).2=b at x1
 obtain ⟨tr,ix,mo⟩:=ev
 simp only [Cq] at x1 hg
 simp only [Df,O9] at x1
 refine Ad (Af (lit:=true) (pm:=fun _=>none) .nil .nil .nil (.cons (Axz c x ⟨tr,ix,mo⟩) .nil)) rfl Tryz.func74 rfl (by decide) (by kernel_rfl) ?_
 simp only [Tryz.f74,Ae,lx52,lx63,Nat.reduceAdd,Nat.reduceSub,List.replicate]
 simp only [Df,O9]
 refine Ac ?_
 refine Lh (a2 hg x1) ?_
 exact qc4
def Aum (w q cnt:Nat) (l:List Nat) (i:Int):List AV:=CW 0 47 [(0,.pt 0 w 0 0),(3,.pt (q+1+1+1+1+1) cnt 0 0),(4,.pt (q+1+1+1+1+1+1) (cnt+1) 0 0),(23,.vw false (l.map nI)),(24,.sc (.int .i64 l.length)),(25,.sc (.int .i64 i))]
theorem Ajc (c:Cd) (x:Cx) (ev:Ev) (r:Ru) (h0:¬ 0≤ev.mo) (h:RuI c x r) (he:r.ef.length≤900000) (hp:r.po.length≤800000) (w e p fv mv:Nat) (R:List Blk) (cnt:Nat):
  ∃ e' p' m' cnt',HSpec Tryz.prog 74 [.pt 0 w 0 0,Hq ev] (Df c x r w e p fv mv R) cnt (.tu []) (Df c x (KU c x ev r.s.act (Ht c) r) w e' p' fv m' R) cnt':=by
 obtain ⟨F71,k71,E71⟩:=Asp (ZM c h.fit h.val)
 obtain ⟨R2,hR2⟩:∃ R2,R++[⟨true,cnt,46,3,[Hq ev],false⟩,⟨true,cnt+1,41,5,[.ag [.vw false (r.s.vars.map (kA .i64)),.sl 3 fv 0 r.s.left.length,.sc (.int .u32 r.s.act),.sl 4 mv 0 r.s.lamps.length,.sc (.int .i64 r.s.fau)]],false⟩]=R2:=⟨_,rfl⟩
 have hg:decide (0≤ev.mo)=false:=by rw [Cy]; exact h0
 have hvl:=CK h.val
 have hln:=Su h.val
 have hlt:=fun m hm=>Ag1 h.val (x:=m) hm
 obtain ⟨l,hle⟩:∃ l,Ht c=l:=⟨_,rfl⟩
 rw [hle] at E71 hln hlt ⊢
 have hI:=fun i=>Axv (ev:=ev) (a0:=r.s.act) (l.take i) h (fun m hm=>hlt m (lx38 hm))
 obtain ⟨K,hK,hK1,hK2⟩:=Aa6 c x ev r.s.act l r
 obtain ⟨V,hV0,hV⟩:=Api (fun i (a b:Nat × Nat × Nat × Nat)=>∀ h:i < l.length,if B7 r.s.act (l[i]:Nat)=true∧B7 (LS c x ev r.s.act (l.take i) r).s.act (l[i]:Nat)=true then
   f113 c x ev [.pt 0 w 0 0,.sc (.int .i64 (l[i]:Nat)),Hq ev] (Df c x (LS c x ev r.s.act (l.take i) r) w a.1 a.2.1 fv a.2.2.1 R2) a.2.2.2=
    some (.sc (.bool (DX c x (l[i]:Nat) ev (LS c x ev r.s.act (l.take i) r)).2),Df c x (DX c x (l[i]:Nat) ev (LS c x ev r.s.act (l.take i) r)).1 w b.1 b.2.1 fv b.2.2.1 R2,b.2.2.2) else b=a) l.length (e,p,mv,cnt+1+1) (fun i a hi=>by
  by_cases hz:B7 r.s.act (l[i]:Nat)=true∧B7 (LS c x ev r.s.act (l.take i) r).s.act (l[i]:Nat)=true
  ·obtain ⟨g1,g2,g3⟩:=hI i
   rw [lx68] at g2 g3
   have hm:=hlt _ (lx89 hi)
   obtain ⟨e2,p2,m2,c2,x1⟩:=Bl5 (m:=(l[i]:Nat)) (ev:=ev) ⟨by omega,by omega⟩ g1 (by omega) (by omega) w a.1 a.2.1 fv a.2.2.1 R2 a.2.2.2
   exact ⟨(e2,p2,m2,c2),fun _=>by rw [if_pos hz]; exact x1⟩
  ·exact ⟨a,fun _=>by rw [if_neg hz]⟩)
 have hE:∃ N,N≤l.length∧KU c x ev r.s.act l r=LS c x ev r.s.act (l.take N) r∧((K=l.length∧N=K)∨(∃ h:K < l.length,(NC c x ev r.s.act (LS c x ev r.s.act (l.take K) r) l[K]).2=true∧N=K+1)):=by
  rcases hK2 with ⟨g1,g2⟩ | ⟨g0,g1,g2⟩
  ·exact ⟨K,hK,g2,.inl ⟨g1,rfl⟩⟩
  ·exact ⟨K+1,g0,g2,.inr ⟨g0,g1,rfl⟩⟩
 obtain ⟨N,hN,hN1,hN2⟩:=hE
 refine ⟨(V N).1,(V N).2.1,(V N).2.2.1,(V N).2.2.2,?_⟩
 rw [hN1]
 clear hN1 hK2
 have hev:Hq ev=.ag [.sc (.int .i64 ev.tr),.sc (.int .i64 ev.ix),.sc (.int .i64 ev.mo)]:=rfl
 have hrs:Df c x r w e p fv mv R2=Df c x (LS c x ev r.s.act (l.take 0) r) w (V 0).1 (V 0).2.1 fv (V 0).2.2.1 R2:=by rw [hV0]; rfl
 simp only [Ai] at E71
 refine Ad (Af (lit:=true) (pm:=fun _=>none) (.cons Bl3 .nil) .nil (.cons k71 .nil) (.cons (Axz c x ev) .nil)) rfl Tryz.func74 rfl (by decide) (by kernel_rfl) ?_
 simp only [Tryz.f74,Ae,lx52,lx63,Nat.reduceAdd,Nat.reduceSub,List.replicate]
 rw [hev]
 simp only [Df,O9]
 refine Ac ?_
 refine Lh (a2 hg E71) ?_
 repeat' (first | exact Aa (by kernel_rfl) | refine ⟨Aa (by kernel_rfl),?_⟩ | refine And.intro ?_ ?_ | fail)
 refine AB (T':=Aum w R.length cnt l 0) (H':=Df c x r w e p fv mv R2) ?_ ?_ (Av _) ?_
 ·exact Bcj
 ·subst hR2; simp only [Df,O9,Cq,AL]; exact Aq _
 rw [hrs]
 refine Az (σ:=Nat) (fun i _=>⟨Aum w R.length cnt l i,Df c x (LS c x ev r.s.act (l.take i) r) w (V i).1 (V i).2.1 fv (V i).2.2.1 R2,(V i).2.2.2⟩)
  (fun i=>i≤K) (fun i=>K - i) 0 (Bq _) (Fj _) (Aq _) (by rw [hV0]) ?_
 intro i c1 hi ih
 have hll:l.length≤16:=An
 by_cases hlt':i < l.length
 rotate_left
 ·obtain rfl:i=l.length:=by omega
  have hNe:N=l.length:=by
   rcases hN2 with ⟨g1,g2⟩ | ⟨g0,_⟩ <;> omega
  subst hNe
  clear ih hV hV0 hrs
  have hb:decide ((l.length:Int) < ((l.length:Nat):Int))=false:=AZ
  generalize LS c x ev r.s.act (l.take l.length) r=r1
  generalize V l.length=v3
  clear hI hK1 hN2 hlt hln
  obtain ⟨⟨zv',vars',zl',left',act',zm',lamps',fau'⟩,ef',po'⟩:=r1
  subst hR2
  simp only [Df,O9]
  refine Ak1 ?_
  refine Lh hb ?_
  exact qc4
 have hb:decide ((i:Int) < ((l.length:Nat):Int))=true:=Au
 have hb2:decide (i < l.length)=true:=Au
 have hgd:l.getD i default=l[i]:=by simp [List.getD,hlt']
 have w1:IntKind.i64.wrap ((i:Int)+1)=((i+1:Nat):Int):=CT
 have hm:=hlt _ (lx89 hlt')
 have x1:=hV i hlt' hlt'
 have E0:=Brg (l[i]:Nat) ⟨by omega,by omega⟩
 have hfl:(NC c x ev r.s.act (LS c x ev r.s.act (l.take i) r) l[i]).2=false→i < K:=fun hf=>by
  rcases D0 i K with g | g
  ·exact g
  ·obtain rfl:i=K:=by omega
   rcases hN2 with ⟨g1,g2⟩ | ⟨g0,g1,g2⟩
   ·omega
   ·rw [g1] at hf; cases hf
 have htr:(NC c x ev r.s.act (LS c x ev r.s.act (l.take i) r) l[i]).2=true→N=i+1:=fun hf=>by
  rcases D0 i K with g | g
  ·rw [hK1 i hlt' g] at hf; cases hf
  ·obtain rfl:i=K:=by omega
   rcases hN2 with ⟨g1,g2⟩ | ⟨g0,g1,g2⟩ <;> omega
 have ih2:=fun h=>ih (i+1) 0 h (by omega)
 clear ih hV hV0 hrs hN2 hK1 hI
 rw [Aa5 hlt'] at ih2
 have hst:∀ b1 b2,B7 r.s.act (l[i]:Nat)=b1→B7 (LS c x ev r.s.act (l.take i) r).s.act (l[i]:Nat)=b2→NC c x ev r.s.act (LS c x ev r.s.act (l.take i) r) l[i]=
   if b1=true∧b2=true then DX c x (l[i]:Nat) ev (LS c x ev r.s.act (l.take i) r) else (LS c x ev r.s.act (l.take i) r,false):=fun b1 b2 h1 h2=>by rw [←h1,←h2,NC]
 have hfin:=Aa5 (c:=c) (x:=x) (ev:=ev) (a0:=r.s.act) hlt' r
 generalize hr1:LS c x ev r.s.act (l.take i) r=r1 at x1 hfl htr ih2 hst hfin ⊢
 generalize hc3:V i=v3 at x1 ⊢
 generalize hc4:V (i+1)=v4 at x1 ih2
 generalize l[i]=m at x1 E0 hfl htr ih2 hst hgd hm hfin
 cases hb1:B7 r.s.act (m:Nat) with
 | false=>
  have hs:=hst _ _ hb1 rfl
  rw [if_neg (by simp)] at hs
  rw [if_neg (by rw [hb1]; simp)] at x1
  rw [hs] at ih2 hfl
  have ih3:=ih2 (hfl rfl)
  clear ih2 hfl htr hst
  subst x1
  obtain ⟨⟨zv',vars',zl',left',act',zm',lamps',fau'⟩,ef',po'⟩:=r1
  subst hR2
  simp only [Df,O9,Cq] at ih3 ⊢
  refine Ak1 ?_
  refine Lh (a6 hb hb2 hgd w1 E0 hb1) ?_
  exact Ajv
 | true=>
  cases hb2':B7 r1.s.act (m:Nat) with
  | false=>
   have hs:=hst _ _ hb1 hb2'
   rw [if_neg (by simp)] at hs
   rw [if_neg (by rw [hb2']; simp)] at x1
   rw [hs] at ih2 hfl
   have ih3:=ih2 (hfl rfl)
   clear ih2 hfl htr hst
   subst x1
   obtain ⟨⟨zv',vars',zl',left',act',zm',lamps',fau'⟩,ef',po'⟩:=r1
   subst hR2
   simp only at hb2'
   simp only [Df,O9,Cq] at ih3 ⊢
   refine Ak1 ?_
   refine Lh (a7 hb hb2 hgd w1 E0 hb1 hb2') ?_
   exact Ajv
  | true=>
   have hs:=hst _ _ hb1 hb2'
   rw [if_pos (by simp)] at hs
   rw [if_pos ⟨hb1,hb2'⟩] at x1
   rw [hs] at ih2 hfl htr hfin
   clear hst
   generalize hr2:DX c x (m:Nat) ev r1=q at x1 ih2 hfl htr hfin
   obtain ⟨r2,b⟩:=q
   simp only at x1 ih2 hfl htr hfin
   obtain ⟨⟨zv',vars',zl',left',act',zm',lamps',fau'⟩,ef',po'⟩:=r1
   obtain ⟨⟨zv2,vars2,zl2,left2,act2,zm2,lamps2,fau2⟩,ef2,po2⟩:=r2
   subst hR2
   simp only at hb2'
   simp only [Df,O9,Cq] at x1
   cases b with
   | false=>
    have ih3:=ih2 (hfl rfl)
    clear ih2 hfl htr
    simp only [Df,O9,Cq] at ih3 ⊢
    refine Ak1 ?_
    refine Lh (a8 hb hb2 hgd w1 E0 hb1 hb2' x1) ?_
    repeat' (first | exact Aa (by kernel_rfl) | refine ⟨Aa (by kernel_rfl),?_⟩ | refine And.intro ?_ ?_ | fail)
    exact Ajv
   | true=>
    obtain rfl:=htr rfl
    clear ih2 hfl htr
    subst hc4
    rw [hfin]
    simp only [Df,O9,Cq]
    refine Ak1 ?_
    refine Lh (a7 hb hb2 hgd E0 hb1 hb2' x1) ?_
    exact qc4
theorem Acj (c:Cd) (x:Cx) (ev:Ev) (r:Ru) (hm:ev.mo < c.pri.length) (h:RuI c x r) (he:r.ef.length≤900000) (hp:r.po.length≤800000) (w e p fv mv:Nat) (R:List Blk) (cnt:Nat):
  ∃ e' p' m' cnt',HSpec Tryz.prog 74 [.pt 0 w 0 0,Hq ev] (Df c x r w e p fv mv R) cnt (.tu []) (Df c x (IC c x ev r) w e' p' fv m' R) cnt':=by
 unfold IC
 by_cases h0:0≤ev.mo
 ·rw [if_pos h0]
  exact Ajb c x ev r h0 hm h (by omega) (by omega) w e p fv mv R cnt
 ·rw [if_neg h0]
  exact Ajc c x ev r h0 h he hp w e p fv mv R cnt
def D74 (c:Cd) (x:Cx) (args:List AV) (H:List Blk) (cnt:Nat) (a:AV) (H':List Blk) (cnt':Nat):Prop:=
 ∀ (ev:Ev) (r:Ru) (w e p fv mv:Nat) (R:List Blk),args=[.pt 0 w 0 0,Hq ev]→H=Df c x r w e p fv mv R→a=.tu []∧∃ e' p' m',H'=Df c x (IC c x ev r) w e' p' fv m' R
noncomputable def f74 (c:Cd) (x:Cx):=hF Tryz.prog 74 (D74 c x)
theorem Brh (c:Cd) (x:Cx):Jo Tryz.prog 74 (f74 c x):=Ee _ _ _
theorem e74 {c:Cd} {x:Cx} {ev:Ev} {r:Ru} (hm:ev.mo < c.pri.length) (h:RuI c x r) (he:r.ef.length≤900000) (hp:r.po.length≤800000) (w e p fv mv:Nat) (R:List Blk) (cnt:Nat):
  ∃ e' p' m' cnt',f74 c x [.pt 0 w 0 0,Hq ev] (Df c x r w e p fv mv R) cnt=some (.tu [],Df c x (IC c x ev r) w e' p' fv m' R,cnt'):=by
 obtain ⟨e',p',m',cnt',h1⟩:=Acj c x ev r hm h he hp w e p fv mv R cnt
 obtain ⟨a,H',c',g1,g2⟩:=O7 (D:=D74 c x) h1 (by
  intro ev' r' w2 e2 p2 fv2 mv2 R2 a1 a2
  simp only [lx94,AW,C5] at a1
  obtain ⟨_,a3⟩:=a1
  obtain rfl:=Wi a3
  obtain ⟨hn,rfl,rfl,rfl,rfl,rfl,rfl⟩:=WD a2
  exact ⟨rfl,e',p',m',Ach (by rw [←(Jg c x).hand,←(Jg c x).hand,hn]) _ _ _ _ _ _⟩)
 obtain ⟨rfl,e3,p3,m3,rfl⟩:=g2 ev r w e p fv mv R rfl rfl
 exact ⟨e3,p3,m3,c',g1⟩
def pgX (c:Cd) (x:Cx) (s:Rs) (ef:List Ef) (w e:Nat) (pf:AV) (b2:Blk) (f m:Nat) (R:List Blk):List Blk:=⟨true,w,138,18,[.ag [.vw c.zi (c.ins.map Gd),.vw c.zs (c.strs.map stA),.vw c.ze (c.ens.map Fw),.vw c.zp (c.pri.map (kA .i64)),.vw c.zv (c.vars.map (kA .i64)),.sc (.int .i64 c.tim),.sc (.int .i64 c.evs),
 .vw false (s.vars.map (kA .i64)),.sl 3 f 0 s.left.length,.sc (.int .u32 s.act),.sl 4 m 0 s.lamps.length,.sc (.int .i64 s.fau),.sc (.int .i64 x.ti),.sc (.int .u64 x.clo),.sc (.int .i64 x.pl'),.sc (.int .i64 x.ba),.sl 1 e 0 ef.length,pf]],false⟩::
 ⟨true,e,73,5,ef.map EJ,false⟩::b2::⟨true,f,3,1,s.left.map (kA .i64),false⟩::⟨true,m,82,6,s.lamps.map B6,false⟩::R
noncomputable def Bl6:=mkH (fun p:(Bool × List Int) × List Blk × Nat=>p.1.2.length≤1000000) (fun p=>([.vw p.1.1 (p.1.2.map (kA .i64))],p.2.1,p.2.2))
 (fun p=>(.sl p.2.1.length (p.2.2+1) 0 p.1.2.length,p.2.1++[⟨true,p.2.2+1,3,1,p.1.2.map (kA .i64),false⟩],p.2.2+2))
theorem Bl7:Jo Tryz.prog 54 Bl6:=IU <| by
 rintro ⟨⟨z,l⟩,H,cnt⟩ h
 exact Jb z l H cnt h
theorem Bl8 (z:Bool) (l:List Int) (H:List Blk) (cnt:Nat) (h:l.length≤1000000):Bl6 [.vw z (l.map (kA .i64))] H cnt=some (.sl H.length (cnt+1) 0 l.length,H++[⟨true,cnt+1,3,1,l.map (kA .i64),false⟩],cnt+2):=
 (IT (q:=fun p:(Bool × List Int) × List Blk × Nat=>p.1.2.length≤1000000) (enc:=fun p=>([.vw p.1.1 (p.1.2.map (kA .i64))],p.2.1,p.2.2))
  (out:=fun p=>(.sl p.2.1.length (p.2.2+1) 0 p.1.2.length,p.2.1++[⟨true,p.2.2+1,3,1,p.1.2.map (kA .i64),false⟩],p.2.2+2)) ((z,l),H,cnt) h (by
  rintro ⟨⟨z',l'⟩,H',c'⟩ _ h2
  simp only [lx40,lx94,AV.vw.injEq,AW] at h2
  obtain ⟨⟨rfl,h3⟩,rfl,rfl⟩:=h2
  rw [On h3]) :)
noncomputable def Ay0:=mkH (fun p:(Bool × List Lo) × List Blk × Nat=>p.1.2.length≤1000000) (fun p=>([.vw p.1.1 (p.1.2.map B6)],p.2.1,p.2.2))
 (fun p=>(.sl p.2.1.length (p.2.2+1) 0 p.1.2.length,p.2.1++[⟨true,p.2.2+1,82,6,p.1.2.map B6,false⟩],p.2.2+2))
theorem Bbq:Jo Tryz.prog 152 Ay0:=IU <| by
 rintro ⟨⟨z,l⟩,H,cnt⟩ h
 exact Td z l H cnt h
theorem Bl9 (z:Bool) (l:List Lo) (H:List Blk) (cnt:Nat) (h:l.length≤1000000):Ay0 [.vw z (l.map B6)] H cnt=some (.sl H.length (cnt+1) 0 l.length,H++[⟨true,cnt+1,82,6,l.map B6,false⟩],cnt+2):=
 (IT (q:=fun p:(Bool × List Lo) × List Blk × Nat=>p.1.2.length≤1000000) (enc:=fun p=>([.vw p.1.1 (p.1.2.map B6)],p.2.1,p.2.2))
  (out:=fun p=>(.sl p.2.1.length (p.2.2+1) 0 p.1.2.length,p.2.1++[⟨true,p.2.2+1,82,6,p.1.2.map B6,false⟩],p.2.2+2)) ((z,l),H,cnt) h (by
  rintro ⟨⟨z',l'⟩,H',c'⟩ _ h2
  simp only [lx40,lx94,AV.vw.injEq,Ql,AW] at h2
  obtain ⟨⟨rfl,rfl⟩,rfl,rfl⟩:=h2
  rfl) :)
theorem Aac (s:Rs) (H:List Blk) (cnt:Nat) (h1:s.vars.length≤1000000) (h2:s.left.length≤1000000) (h3:s.lamps.length≤1000000):
  HSpec Tryz.prog 104 [Ki s] H cnt (.ag [.sl (H.length+2) (cnt+3) 0 s.vars.length,.sl (H.length+3) (cnt+5) 0 s.left.length,.sc (.int .u32 s.act),.sl (H.length+4) (cnt+7) 0 s.lamps.length,.sc (.int .i64 s.fau)])
   (H++[dead,dead,⟨true,cnt+3,3,1,s.vars.map (kA .i64),false⟩,⟨true,cnt+5,3,1,s.left.map (kA .i64),false⟩,⟨true,cnt+7,82,6,s.lamps.map B6,false⟩]) (cnt+8):=by
 obtain ⟨zv,vars,zl,left,act,zm,lamps,fau⟩:=s
 simp only at h1 h2 h3
 have E1:=fun H c=>Bl8 zv vars H c h1
 have E2:=fun H c=>Bl8 zl left H c h2
 have E3:=fun H c=>Bl9 zm lamps H c h3
 refine Ad (Af (lit:=true) (pm:=fun _=>none) .nil .nil .nil (.cons Bl7 (.cons Bbq .nil))) rfl Tryz.func104 rfl (by decide) (by kernel_rfl) ?_
 simp only [Tryz.f104,Ae,lx52,lx63,Nat.reduceAdd,Nat.reduceSub,List.replicate]
 refine Ac ?_
 refine Lh (a3 E1 E2 E3) ?_
 repeat' (first | exact Aa (by kernel_rfl) | refine ⟨Aa (by kernel_rfl),?_⟩ | refine And.intro ?_ ?_ | fail)
 all_goals first | exact .refl _ | exact .inl rfl | (refine Kj _ ?_ _; rw [Cj,Cj,Cj,Cj,Cj,Pw]; exact ⟨.inl rfl,.inl rfl,.inr (.inl rfl),.inr (.inl rfl),.inr (.inl rfl),trivial⟩) | skip
 all_goals done
theorem Aq7 (c:Cd) (hf:Fit c) (s:Rs) (x:Cx) (h:¬ (Ca c s=true∧KT x=true)) (H:List Blk) (cnt:Nat):
  HSpec Tryz.prog 56 [CI c,Ki s,ZH x] H cnt (.tu [.jk,.sc (.int .i64 (if Ca c s=false then 1 else 5))]) H (cnt+3):=by
 have x1:=e40 c s hf
 have x2:=fun n lo hi=>e99 n lo hi
 obtain ⟨ti,clo,pl',ba⟩:=x
 simp only [Ai,Bf] at x1
 refine Ad (Af (lit:=true) (pm:=fun _=>none) (.cons Bhi (.cons Bag .nil)) .nil .nil .nil) rfl Tryz.func56 rfl (by decide) (by kernel_rfl) ?_
 simp only [Tryz.f56,Ae,lx52,lx63,Nat.reduceAdd,Nat.reduceSub,List.replicate]
 cases h1:Ca c s with
 | false=>
  rw [h1] at x1
  rw [if_pos rfl]
  refine Ac ?_
  refine Lh x1 ?_
  exact qc4
 | true=>
  rw [h1] at x1
  rw [if_neg (by simp)]
  have h2:KT ⟨ti,clo,pl',ba⟩=false:=by
   rw [Bool.eq_false_iff]; exact fun hc=>h ⟨h1,hc⟩
  have h3:KT ⟨ti,clo,pl',ba⟩=(HY ti 0 1099511627776 && HY pl' 0 2147483647 && HY ba 0 2147483647):=by
   simp only [KT,HY]; cases decide (0≤ti) <;> cases decide (ti≤1099511627776) <;> cases decide (0≤pl') <;> cases decide (pl'≤2147483647) <;> rfl
  rw [h3] at h2
  refine Ac ?_
  cases k1:HY ti 0 1099511627776 with
  | false=>
   refine Lh (a3 x1 x2 k1) ?_
   exact qc4
  | true=>
   cases k2:HY pl' 0 2147483647 with
   | false=>
    refine Lh (a4 x1 x2 k1 k2) ?_
    exact qc4
   | true=>
    have k3:HY ba 0 2147483647=false:=by rw [k1,k2] at h2; simpa using h2
    refine Lh (a5 x1 x2 k1 k2 k3) ?_
    exact qc4
def Bla (c:Cd) (s:Rs) (x:Cx) (n cnt:Nat):Blk:=⟨true,cnt+11,138,18,[.ag [.vw c.zi (c.ins.map Gd),.vw c.zs (c.strs.map stA),.vw c.ze (c.ens.map Fw),.vw c.zp (c.pri.map (kA .i64)),.vw c.zv (c.vars.map (kA .i64)),.sc (.int .i64 c.tim),.sc (.int .i64 c.evs),
 .sl (n+5) (cnt+6) 0 s.vars.length,.sl (n+6) (cnt+8) 0 s.left.length,.sc (.int .u32 s.act),.sl (n+7) (cnt+10) 0 s.lamps.length,.sc (.int .i64 s.fau),.sc (.int .i64 x.ti),.sc (.int .u64 x.clo),.sc (.int .i64 x.pl'),.sc (.int .i64 x.ba),.vw true [],.vw true []]],false⟩
theorem Aq8 (c:Cd) (hf:Fit c) (s:Rs) (x:Cx) (h1:Ca c s=true) (h2:KT x=true) (H:List Blk) (cnt:Nat):
  HSpec Tryz.prog 56 [CI c,Ki s,ZH x] H cnt (.tu [.pt (H.length+8) (cnt+11) 0 0,.sc (.int .i64 0)])
   (H++[dead,dead,dead,dead,dead,⟨true,cnt+6,3,1,s.vars.map (kA .i64),false⟩,⟨true,cnt+8,3,1,s.left.map (kA .i64),false⟩,⟨true,cnt+10,82,6,s.lamps.map B6,false⟩,Bla c s x H.length cnt]) (cnt+12):=by
 have x1:=e40 c s hf
 rw [h1] at x1
 have hru:=Apr hf h1 h2
 have hvl:=CK hru.val
 have q1:s.vars.length≤1000000:=by have:=hru.vl; simp only at this; omega
 have q2:s.left.length≤1000000:=by have:=hru.ll; simp only at this; omega
 have q3:s.lamps.length≤1000000:=by have:=hru.lmp; simp only at this; omega
 have x2:=fun n lo hi=>e99 n lo hi
 have h3:KT x=(HY x.ti 0 1099511627776 && HY x.pl' 0 2147483647 && HY x.ba 0 2147483647):=by
  simp only [KT,HY]; cases decide (0≤x.ti) <;> cases decide (x.ti≤1099511627776) <;> cases decide (0≤x.pl') <;> cases decide (x.pl'≤2147483647) <;> rfl
 rw [h3,AH,AH] at h2
 obtain ⟨⟨k1,k2⟩,k3⟩:=h2
 obtain ⟨F,kF,E⟩:=DU (Aac s (H++[⟨true,cnt,36,7,[CI c],false⟩,⟨true,cnt+1,41,5,[Ki s],false⟩,⟨true,cnt+1+1,27,4,[ZH x],false⟩]) (cnt+1+1+1) q1 q2 q3)
 simp only [Ai,Bf,E6,lx6,lx90,lx64,lx7,lx52,lx63] at E x1
 refine Ad (Af (lit:=true) (pm:=fun _=>none) (.cons Bhi (.cons Bag .nil)) .nil .nil (.cons kF .nil)) rfl Tryz.func56 rfl (by decide) (by kernel_rfl) ?_
 simp only [Tryz.f56,Ae,lx52,lx63,Nat.reduceAdd,Nat.reduceSub,List.replicate]
 refine Ac ?_
 refine Lh (a6 x1 x2 k1 k2 k3 E) ?_
 refine Kj _ ?_ _
 rw [Cj,Cj,Cj,Cj,Cj,Cj,Cj,Cj,Cj,Pw]
 exact ⟨.inl rfl,.inl rfl,.inl rfl,.inl rfl,.inl rfl,.inr (.inl rfl),.inr (.inl rfl),.inr (.inl rfl),.inr (.inl rfl),trivial⟩
theorem Ack (c:Cd) (hf:Fit c) (s:Rs) (ev:Ev) (x:Cx) (h:¬ (Ca c s=true∧KT x=true)):Ba Tryz.prog 36 [CI c,Ki s,Hq ev,ZH x] (WA (Oq c s ev x)):=by
 obtain ⟨K,hK,hK2⟩:∃ K:Int,K=(if Ca c s=false then 1 else 5)∧Oq c s ev x=(⟨rs0,[],[]⟩,K):=by
  by_cases h1:Ca c s=false
  ·exact ⟨1,by rw [if_pos h1],by rw [Oq,if_pos h1]⟩
  ·have h2:KT x=false:=by
    rw [Bool.eq_false_iff]; exact fun hc=>h ⟨by simpa using h1,hc⟩
   exact ⟨5,by rw [if_neg h1],by rw [Oq,if_neg h1,if_pos h2]⟩
 have hKn:(K != 0)=true:=by
  rw [hK]; split <;> rfl
 rw [hK2]
 obtain ⟨F,kF,E⟩:=DU (Aq7 c hf s x h [⟨true,0,36,7,[CI c],false⟩,⟨true,1,41,5,[Ki s],false⟩,⟨true,2,46,3,[Hq ev],false⟩,⟨true,3,27,4,[ZH x],false⟩,⟨true,4,41,5,[Ki rs0],false⟩] 5)
 rw [←hK] at E
 simp only [Ai,Bf,E6,Cq,rs0,lx46,Nat.reduceAdd] at E
 refine BP (Af (lit:=true) (pm:=fun _=>none) .nil .nil .nil (.cons kF .nil)) rfl Tryz.func36 rfl (by decide) (by kernel_rfl) (SL _) ?_
 simp only [Tryz.f36,Ae,lx52,lx63,Nat.reduceAdd,Nat.reduceSub,List.replicate]
 refine Ac ?_
 simp (maxSteps:=10000000) +contextual -implicitDefEqProofs only [AX,AT,St.put,Am,Aj,Ds,↓reduceIte,Nat.reduceAdd,Int.reduceLT,Nat.reduceLT,CS,Int.reduceAdd,B9,DO,hl,Bm,Bg,Cp,ET,Cg,Ch,BZ,Bn,CY,B4,AL,Cq,Bf,Ai,E6,norefs,AV.noref,lx5,E,hKn,WA,rs0]
 all_goals done
def pgN (c:Cd) (x:Cx) (s:Rs) (w f m:Nat) (R:List Blk):List Blk:=⟨true,w,138,18,[.ag [.vw c.zi (c.ins.map Gd),.vw c.zs (c.strs.map stA),.vw c.ze (c.ens.map Fw),.vw c.zp (c.pri.map (kA .i64)),.vw c.zv (c.vars.map (kA .i64)),.sc (.int .i64 c.tim),.sc (.int .i64 c.evs),
 .vw false (s.vars.map (kA .i64)),.sl 3 f 0 s.left.length,.sc (.int .u32 s.act),.sl 4 m 0 s.lamps.length,.sc (.int .i64 s.fau),.sc (.int .i64 x.ti),.sc (.int .u64 x.clo),.sc (.int .i64 x.pl'),.sc (.int .i64 x.ba),.vw true [],.vw true []]],false⟩::
 dead::dead::⟨true,f,3,1,s.left.map (kA .i64),false⟩::⟨true,m,82,6,s.lamps.map B6,false⟩::R
theorem Bbr {P:Program} {E:Env} {n0:Nat} {rs:List ResultVar} {Q:AV→St→Prop} {k:List Item} {T:List AV} {c:Cd} {x:Cx} {s:Rs} {w f m:Nat} {R:List Blk} {cnt:Nat}
  (h:Go P E n0 rs Q k ⟨T,pgX c x s [] w cnt (.vw true []) dead f m R,cnt+1⟩):Go P E n0 rs Q k ⟨T,pgN c x s w f m R,cnt⟩:=by
 have e1:((pgX c x s [] w cnt (.vw true []) dead f m R).set 1 dead).set 1 ⟨true,cnt,73,5,[],false⟩=pgX c x s [] w cnt (.vw true []) dead f m R:=rfl
 refine Zw (T':=T) (H':=(pgX c x s [] w cnt (.vw true []) dead f m R).set 1 dead) 1 cnt 73 5 (cnt+1) (by simp [pgX]) (Av _) (WL _) (Cr _ _ _) ?_ (by rw [e1]; exact h)
 exact ⟨Ka _ _ _ _ _ _ _ _ _ _ ⟨I6 ⟨.refl _,.refl _,.refl _,.refl _,.refl _,.refl _,.refl _,.refl _,.refl _,.refl _,.refl _,.refl _,.refl _,.refl _,.refl _,.refl _,.nil,.refl _,trivial⟩,trivial⟩,.inl rfl,.inl rfl,.inl rfl,.inl rfl,M7 _ _ _⟩
theorem Bbs {P:Program} {E:Env} {n0:Nat} {rs:List ResultVar} {Q:AV→St→Prop} {k:List Item} {T:List AV} {c:Cd} {x:Cx} {s:Rs} {w e f m:Nat} {R:List Blk} {cnt:Nat}
  (h:Go P E n0 rs Q k ⟨T,Df c x ⟨s,[],[]⟩ w e cnt f m R,cnt+1⟩):Go P E n0 rs Q k ⟨T,pgX c x s [] w e (.vw true []) dead f m R,cnt⟩:=by
 have e1:(pgX c x s [] w e (.sl 2 cnt 0 0) dead f m R).set 2 ⟨true,cnt,46,3,[],false⟩=Df c x ⟨s,[],[]⟩ w e cnt f m R:=rfl
 refine Zw (T':=T) (H':=pgX c x s [] w e (.sl 2 cnt 0 0) dead f m R) 2 cnt 46 3 (cnt+1) (by simp [pgX]) (Av _) (WL _) (Cr _ _ _) ?_ (by rw [e1]; exact h)
 exact ⟨Ka _ _ _ _ _ _ _ _ _ _ ⟨I6 ⟨.refl _,.refl _,.refl _,.refl _,.refl _,.refl _,.refl _,.refl _,.refl _,.refl _,.refl _,.refl _,.refl _,.refl _,.refl _,.refl _,.refl _,.nil,trivial⟩,trivial⟩,.inl rfl,.inl rfl,.inl rfl,.inl rfl,M7 _ _ _⟩
theorem Acl (c:Cd) (hf:Fit c) (s:Rs) (ev:Ev) (x:Cx) (h1:Ca c s=true) (h2:KT x=true):Ba Tryz.prog 36 [CI c,Ki s,Hq ev,ZH x] (WA (Oq c s ev x)):=by
 have hru:=Apr hf h1 h2
 have x3:=e67 c hf ev
 obtain ⟨F,kF,E⟩:=DU (Aq8 c hf s x h1 h2 [⟨true,0,36,7,[CI c],false⟩,⟨true,1,41,5,[Ki s],false⟩,⟨true,2,46,3,[Hq ev],false⟩,⟨true,3,27,4,[ZH x],false⟩,⟨true,4,41,5,[Ki rs0],false⟩] 5)
 obtain ⟨ev1,hev1⟩:∃ ev1,Hq ev=ev1:=⟨_,rfl⟩
 have hK:Oq c s ev x=if evB c ev=false then (⟨rs0,[],[]⟩,55) else (IC c x ev ⟨s,[],[]⟩,0):=by rw [Oq,if_neg (by rw [h1]; simp),if_neg (by rw [h2]; simp)]
 have tl:(s.left.map (kA .i64)).take s.left.length=s.left.map (kA .i64):=lx12 (by simp)
 have tv:(s.vars.map (kA .i64)).take s.vars.length=s.vars.map (kA .i64):=lx12 (by simp)
 simp only [Bla,dead,Ai,Bf,E6,Cq,rs0,lx46,lx52,lx63,lx90,lx64,Nat.reduceAdd] at E x3
 refine BP (Af (lit:=true) (pm:=fun _=>none) (.cons Bqb .nil) .nil .nil (.cons kF (.cons (Brh c x) .nil))) rfl Tryz.func36 rfl (by decide) (by kernel_rfl) (SL _) ?_
 simp only [Tryz.f36,Ae,lx52,lx63,Nat.reduceAdd,Nat.reduceSub,List.replicate]
 refine HM ?s1 ?a1 ?b1
 case a1=>
  refine gG0 ?_
  rfl
 refine HM ?s2 ?a2 ?b2
 case a2=>
  refine Lh E ?_
  rfl
 refine AB (T':=CW 0 45 [(4,.pt 0 0 0 0),(6,.pt 2 2 0 0),(8,.pt 4 4 0 0),(12,.pt 13 16 0 0),(13,.sc (.int .i64 0))]) ?_ (Aq _) (Av _) ?_
 ·exact Ayd
 have hz1:∀ a b els,D3 a b els (s.left.map (kA .i64))=s.left.map (kA .i64):=fun a b els=>Qt a b els _ (Es _)
 have hz2:∀ a b els,D3 a b els (s.lamps.map B6)=s.lamps.map B6:=fun a b els=>Qt a b els _ (Sq _)
 refine JZ 0 10 ⟨true,11,3,1,s.vars.map (kA .i64),false⟩ rfl rfl (Bq _) (Es _) ?_
 simp only [CW,Jw,hz1,hz2,tv,MQ,MR,MF,MJ,MG,MH,MK,ML,MM,MN,MO,MI,J1,Ik,J2,Il,MP,Nat.reduceAdd,Nat.reduceEqDiff,Nat.reduceLT,Nat.reduceLeDiff,↓reduceIte,and_self,C5,false_and,AW,lx72,lx91,lx42,List.take_nil,lx8,lx9,reduceCtorEq,CL,dead]
 have hj1:Hs (s.left.map (kA .i64))=true:=MV (fun _=>by simp [kA]) _
 have hj2:Hs (s.lamps.map B6)=true:=MV (fun _=>by simp [B6]) _
 have hw1:∀ a b,Vx a b (s.left.map (kA .i64))=s.left.map (kA .i64):=fun a b=>VJ a b (fun _=>rfl) _
 have hw2:∀ a b,Vx a b (s.lamps.map B6)=s.lamps.map B6:=fun a b=>VJ a b (fun _=>rfl) _
 refine HU 0 13 (Bq _) (Bq _) (by simp) (by simp) ?_ ?_
 ·exact qc5
 refine qd2 ?_
 refine HU 3 11 (Bq _) (Bq _) (by simp) (by simp) ?_ ?_
 ·exact qc5
 refine qd2 ?_
 refine HU 4 12 (Bq _) (Bq _) (by simp) (by simp) ?_ ?_
 ·exact qc5
 refine qd2 ?_
 refine HU 2 5 (Bq _) (Bq _) (by simp) (by simp) ?_ ?_
 ·exact qc5
 refine qd2 ?_
 refine HU 6 12 (Bq _) (Bq _) (by simp) (by simp) ?_ ?_
 ·exact qc5
 refine qd2 ?_
 refine HU 7 13 (Bq _) (Bq _) (by simp) (by simp) ?_ ?_
 ·exact qc5
 refine qd2 ?_
 obtain ⟨R,hR⟩:∃ R:List Blk,[⟨true,2,46,3,[Hq ev],false⟩,⟨true,4,41,5,[Ki rs0],false⟩,⟨true,0,36,7,[CI c],false⟩]=R:=⟨_,rfl⟩
 refine AB (T':=CW 0 45 [(4,.pt 7 0 0 0),(6,.pt 5 2 0 0),(8,.pt 6 4 0 0),(12,.pt 0 16 0 0),(13,.sc (.int .i64 0))]) (H':=pgN c x s 16 13 15 R) (c':=17) ?_ ?_ (Av _) ?_
 ·simp only [CW,Jw,Nat.reduceAdd,Nat.reduceEqDiff,lx8,lx9,↓reduceIte,CL]
  exact Fj _
 ·subst hR
  simp only [pgN,dead,Ai,Bf,Cq,rs0,lx46]
  simp (maxSteps:=10000000) only [AX,AT]
  all_goals done
 refine Bbr ?_
 refine Bbs ?_
 cases h3:evB c ev with
 | false=>
  rw [h3] at x3
  rw [hK,if_pos h3]
  subst hR
  simp only [Df,O9,Ai,Bf,Cq,rs0,lx46,lx63]
  refine Ac ?_
  refine Cb ?_
  simp (maxSteps:=10000000) +contextual -implicitDefEqProofs only [AX,AT,St.put,Am,Aj,Ds,pl,↓reduceIte,Nat.reduceAdd,Int.reduceLT,Nat.reduceLT,CS,Int.reduceAdd,B9,Bm,Bg,Cg,Ch,BZ,Bn,CH,B4,AL,norefs,AV.noref,lx5,x3,WA]
  all_goals done
 | true=>
  rw [h3] at x3
  rw [hK,if_neg (by rw [h3]; simp)]
  have hm:ev.mo < c.pri.length:=by
   simp only [evB,AH] at h3
   have:=(Fx.1 h3.2).2
   omega
  obtain ⟨e',p',m',c',x4⟩:=e74 hm hru (by simp) (by simp) 16 17 18 13 15 R 19
  clear hru hm
  generalize IC c x ev ⟨s,[],[]⟩=rr at x4 ⊢
  obtain ⟨⟨zv',vars',zl',left',act',zm',lamps',fau'⟩,ef',po'⟩:=rr
  have tef:(ef'.map EJ).take ef'.length=ef'.map EJ:=lx12 (by simp)
  have tpo:(po'.map Hq).take po'.length=po'.map Hq:=lx12 (by simp)
  have tl':(left'.map (kA .i64)).take left'.length=left'.map (kA .i64):=lx12 (by simp)
  have tm':(lamps'.map B6).take lamps'.length=lamps'.map B6:=lx12 (by simp)
  subst hR
  simp only [Df,O9,Ai,Bf,Cq,rs0,lx46,lx63] at x4 ⊢
  refine Ac ?_
  refine Cb ?_
  simp (maxSteps:=10000000) +contextual -implicitDefEqProofs only [AX,AT,St.put,Am,Aj,Ds,pl,↓reduceIte,reduceCtorEq,Nat.reduceAdd,Nat.reduceLeDiff,Nat.reduceEqDiff,Int.reduceLT,Nat.reduceLT,CS,Int.reduceAdd,B9,DO,hl,Bm,Ch,Bn,CH,B4,AL,lx5,x3,x4,WA,tef,tpo,tl',tm']
  all_goals done
theorem WE (c:Cd) (hf:Fit c) (s:Rs) (ev:Ev) (x:Cx):Ba Tryz.prog 36 [CI c,Ki s,Hq ev,ZH x] (WA (Oq c s ev x)):=by
 by_cases h:Ca c s=true∧KT x=true
 ·exact Acl c hf s ev x h.1 h.2
 ·exact Ack c hf s ev x h
end Go.Proofs.YtdjpkhjaibdogaaGreat
