/-
  Lemmas towards ModesFaults (joined texts: GQ, GR, GS, GT, GU).
  Conditions: none.
-/
import Derived.Test.YtdjpkhjaibdogaaGreatK01
import Derived.Test.YtdjpkhjaibdogaaGreatK02
import Derived.Test.YtdjpkhjaibdogaaGreatK35
set_option linter.unusedSimpArgs false
set_option linter.unusedVariables false
set_option maxRecDepth 100000
set_option maxHeartbeats 8000000
namespace Go.Proofs.YtdjpkhjaibdogaaGreat
open Go Go.SX
attribute [local congr] ite_congr
noncomputable def Bab:=EP (fun p:(AV × AV × Int × AV × AV) × Int=>0≤p.2∧p.2≤1000000) (fun p=>[.ag [p.1.1,p.1.2.1,.sc (.int .u32 p.1.2.2.1),p.1.2.2.2.1,p.1.2.2.2.2],kA .i64 p.2]) (fun p=>bA (BT p.1.2.2.1 p.2))
theorem Bf7 (m:Int) (h:0≤m∧m≤1000000) (a b d e:AV) (act:Int):Bab [.ag [a,b,.sc (.int .u32 act),d,e],.sc (.int .i64 m)]=some (.sc (.bool (BT act m))):=
 (AG (q:=fun p:(AV × AV × Int × AV × AV) × Int=>0≤p.2∧p.2≤1000000) (enc:=fun p=>[.ag [p.1.1,p.1.2.1,.sc (.int .u32 p.1.2.2.1),p.1.2.2.2.1,p.1.2.2.2.2],kA .i64 p.2]) (out:=fun p=>bA (BT p.1.2.2.1 p.2)) ((a,b,act,d,e),m) h (by
  rintro ⟨⟨a',b',c',d',e'⟩,m'⟩ h
  simp only [lx96,AV.ag.injEq,AV.sc.injEq,Value.int.injEq,Ay,D3] at h
  obtain ⟨⟨rfl,rfl,rfl,rfl,rfl⟩,h2⟩:=h
  rw [Bt h2]) :)
theorem Bac:Eb Tryz.prog 58 Bab:=AQ <| by
 rintro ⟨⟨a,b,act,d,e⟩,m⟩ hq
 simp only at hq
 have wa:=hq.1
 simp only
 refine Ab (Lv .nil) rfl Tryz.func58 rfl (by decide) (by kernel_rfl) (by simp [bA,okc,Value.oneCell']) ?_
 simp only [Tryz.f58,Af,lx53,lx63,Nat.reduceAdd,Nat.reduceSub,List.replicate]
 refine Aa ?_
 simp (maxSteps:=10000000) +contextual -implicitDefEqProofs only [Bk,Bg,St.put,↓reduceIte,reduceCtorEq,Nat.reduceAdd,D5,Int.reduceAdd,Dq,AB,AU,wa,BT]
 all_goals done
def Bad (c:Cd) (x:Cx) (ev:Ev) (args:List AV) (H:List Blk) (cnt:Nat) (a:AV) (H':List Blk) (cnt':Nat):Prop:=
 ∀ (m:Int) (r:Ru) (w e p fv mv:Nat) (R:List Blk),args=[.pt 0 w 0 0,.sc (.int .i64 m),Eh ev]→H=C5 c x r w e p fv mv R→a=.sc (.bool (D2 c x m ev r).2)∧∃ e' p' m',H'=C5 c x (D2 c x m ev r).1 w e' p' fv m' R
noncomputable def f113 (c:Cd) (x:Cx) (ev:Ev):=hF Tryz.prog 113 (Bad c x ev)
theorem Aqg (c:Cd) (x:Cx) (ev:Ev):Ql Tryz.prog 113 (f113 c x ev):=LU _ _ _
theorem At7 {c:Cd} {x:Cx} {r r':Ru} (h:KV r=KV r') (m:Int) (ev:Ev):KV (D2 c x m ev r).1=KV (D2 c x m ev r').1∧(D2 c x m ev r).2=(D2 c x m ev r').2:=by
 have k1:=(Hw c x).one m ev r
 have k2:=(Hw c x).one m ev r'
 rw [h] at k1
 rw [k2] at k1
 exact ⟨(congrArg Prod.fst k1).symm,(congrArg Prod.snd k1).symm⟩
theorem Bae {c:Cd} {x:Cx} {m:Int} {ev:Ev} {r:Ru} (hm:0≤m∧m < c.pri.length) (h:RuI c x r) (hef:r.ef.length≤1000000) (hpo:r.po.length≤900000) (w e p fv mv:Nat) (R:List Blk) (cnt:Nat):
  ∃ e' p' m' cnt',f113 c x ev [.pt 0 w 0 0,.sc (.int .i64 m),Eh ev] (C5 c x r w e p fv mv R) cnt=some (.sc (.bool (D2 c x m ev r).2),C5 c x (D2 c x m ev r).1 w e' p' fv m' R,cnt'):=by
 obtain ⟨e',p',m',cnt',h1⟩:=Ad0 c x m hm ev r h hef hpo w e p fv mv R cnt
 obtain ⟨a,H',c',g1,g2⟩:=LV (D:=Bad c x ev) h1 (by
  intro m2 r' w2 e2 p2 fv2 mv2 R2 a1 a2
  simp only [lx96,AV.sc.injEq,Value.int.injEq,Ay,D3] at a1
  obtain ⟨_,rfl⟩:=a1
  obtain ⟨hn,rfl,rfl,rfl,rfl,rfl,rfl⟩:=TD a2
  obtain ⟨k1,k2⟩:=At7 (x:=x) hn m ev
  exact ⟨by rw [k2],e',p',m',TE k1 _ _ _ _ _ _⟩)
 obtain ⟨rfl,e3,p3,m3,rfl⟩:=g2 m r w e p fv mv R rfl rfl
 exact ⟨e3,p3,m3,c',g1⟩
theorem Ad1 (c:Cd) (x:Cx) (ev:Ev) (r:Ru) (h0:0≤ev.mo) (hm:ev.mo < c.pri.length) (h:RuI c x r) (hef:r.ef.length≤1000000) (hpo:r.po.length≤900000) (w e p fv mv:Nat) (R:List Blk) (cnt:Nat):
  ∃ e' p' m' cnt',HSpec Tryz.prog 74 [.pt 0 w 0 0,Eh ev] (C5 c x r w e p fv mv R) cnt (.tu []) (C5 c x (D2 c x ev.mo ev r).1 w e' p' fv m' R) cnt':=by
 obtain ⟨e',p',m',cnt',x1⟩:=Bae ⟨h0,hm⟩ h hef hpo (ev:=ev) w e p fv mv (R++[⟨true,cnt,46,3,[Eh ev],false⟩]) (cnt+1)
 refine ⟨e',p',m',cnt',?_⟩
 have hg:decide (0≤ev.mo)=true:=by rw [AR]; exact h0
 obtain ⟨r1,hr1⟩:∃ r1,(D2 c x ev.mo ev r).1=r1:=⟨_,rfl⟩
 rw [hr1] at x1 ⊢
 generalize (D2 c x ev.mo ev r).2=b at x1
 obtain ⟨tr,ix,mo⟩:=ev
 simp only [B4] at x1 hg
 simp only [C5,Mb] at x1
 refine Ag (Am (lit:=true) (pm:=fun _=>none) .nil .nil .nil (.cons (Aqg c x ⟨tr,ix,mo⟩) .nil)) rfl Tryz.func74 rfl (by decide) (by kernel_rfl) ?_
 simp only [Tryz.f74,Af,lx53,lx63,Nat.reduceAdd,Nat.reduceSub,List.replicate]
 simp only [C5,Mb]
 refine Aa ?_
 refine I5 (a2 hg x1) ?_
 exact WY
def WV (w q cnt:Nat) (l:List Nat) (i:Int):List AV:=Cg 0 47 [(0,.pt 0 w 0 0),(3,.pt (q+1+1+1+1+1) cnt 0 0),(4,.pt (q+1+1+1+1+1+1) (cnt+1) 0 0),(23,.vw false (l.map nI)),(24,.sc (.int .i64 l.length)),(25,.sc (.int .i64 i))]
theorem Ad2 (c:Cd) (x:Cx) (ev:Ev) (r:Ru) (h0:¬ 0≤ev.mo) (h:RuI c x r) (he:r.ef.length≤900000) (hp:r.po.length≤800000) (w e p fv mv:Nat) (R:List Blk) (cnt:Nat):
  ∃ e' p' m' cnt',HSpec Tryz.prog 74 [.pt 0 w 0 0,Eh ev] (C5 c x r w e p fv mv R) cnt (.tu []) (C5 c x (NJ c x ev r.s.act (IE c) r) w e' p' fv m' R) cnt':=by
 obtain ⟨F71,k71,E71⟩:=Alz (WA c h.fit h.val)
 obtain ⟨R2,hR2⟩:∃ R2,R++[⟨true,cnt,46,3,[Eh ev],false⟩,⟨true,cnt+1,41,5,[.ag [.vw false (r.s.vars.map (kA .i64)),.sl 3 fv 0 r.s.left.length,.sc (.int .u32 r.s.act),.sl 4 mv 0 r.s.lamps.length,.sc (.int .i64 r.s.fau)]],false⟩]=R2:=⟨_,rfl⟩
 have hg:decide (0≤ev.mo)=false:=by rw [BJ]; exact h0
 have hvl:=Cw h.val
 have hln:=PX h.val
 have hlt:=fun m hm=>Ts h.val (x:=m) hm
 obtain ⟨l,hle⟩:∃ l,IE c=l:=⟨_,rfl⟩
 rw [hle] at E71 hln hlt ⊢
 have hI:=fun i=>Aim (ev:=ev) (a0:=r.s.act) (l.take i) h (fun m hm=>hlt m (lx38 hm))
 obtain ⟨K,hK,hK1,hK2⟩:=L3 c x ev r.s.act l r
 obtain ⟨V,hV0,hV⟩:=XV (fun i (a b:Nat × Nat × Nat × Nat)=>∀ h:i < l.length,if BT r.s.act (l[i]:Nat)=true∧BT (IV c x ev r.s.act (l.take i) r).s.act (l[i]:Nat)=true then
   f113 c x ev [.pt 0 w 0 0,.sc (.int .i64 (l[i]:Nat)),Eh ev] (C5 c x (IV c x ev r.s.act (l.take i) r) w a.1 a.2.1 fv a.2.2.1 R2) a.2.2.2=
    some (.sc (.bool (D2 c x (l[i]:Nat) ev (IV c x ev r.s.act (l.take i) r)).2),C5 c x (D2 c x (l[i]:Nat) ev (IV c x ev r.s.act (l.take i) r)).1 w b.1 b.2.1 fv b.2.2.1 R2,b.2.2.2) else b=a) l.length (e,p,mv,cnt+1+1) (fun i a hi=>by
  by_cases hz:BT r.s.act (l[i]:Nat)=true∧BT (IV c x ev r.s.act (l.take i) r).s.act (l[i]:Nat)=true
  ·obtain ⟨g1,g2,g3⟩:=hI i
   rw [lx68] at g2 g3
   have hm:=hlt _ (lx90 hi)
   obtain ⟨e2,p2,m2,c2,x1⟩:=Bae (m:=(l[i]:Nat)) (ev:=ev) ⟨by omega,by omega⟩ g1 (by omega) (by omega) w a.1 a.2.1 fv a.2.2.1 R2 a.2.2.2
   exact ⟨(e2,p2,m2,c2),fun _=>by rw [if_pos hz]; exact x1⟩
  ·exact ⟨a,fun _=>by rw [if_neg hz]⟩)
 have hE:∃ N,N≤l.length∧NJ c x ev r.s.act l r=IV c x ev r.s.act (l.take N) r∧((K=l.length∧N=K)∨(∃ h:K < l.length,(Nt c x ev r.s.act (IV c x ev r.s.act (l.take K) r) l[K]).2=true∧N=K+1)):=by
  exact Avk
 obtain ⟨N,hN,hN1,hN2⟩:=hE
 refine ⟨(V N).1,(V N).2.1,(V N).2.2.1,(V N).2.2.2,?_⟩
 rw [hN1]
 clear hN1 hK2
 have hev:Eh ev=.ag [.sc (.int .i64 ev.tr),.sc (.int .i64 ev.ix),.sc (.int .i64 ev.mo)]:=rfl
 have hrs:C5 c x r w e p fv mv R2=C5 c x (IV c x ev r.s.act (l.take 0) r) w (V 0).1 (V 0).2.1 fv (V 0).2.2.1 R2:=by rw [hV0]; rfl
 simp only [Ac] at E71
 refine Ag (Am (lit:=true) (pm:=fun _=>none) (.cons Bac .nil) .nil (.cons k71 .nil) (.cons (Aqg c x ev) .nil)) rfl Tryz.func74 rfl (by decide) (by kernel_rfl) ?_
 simp only [Tryz.f74,Af,lx53,lx63,Nat.reduceAdd,Nat.reduceSub,List.replicate]
 rw [hev]
 simp only [C5,Mb]
 refine Aa ?_
 refine I5 (a2 hg E71) ?_
 repeat' (first | exact Ae (by kernel_rfl) | refine ⟨Ae (by kernel_rfl),?_⟩ | refine And.intro ?_ ?_ | fail)
 refine AD (T':=WV w R.length cnt l 0) (H':=C5 c x r w e p fv mv R2) ?_ ?_ (Ax _) ?_
 ·exact Au9
 ·subst hR2; simp only [C5,Mb,B4,AB]; exact AS _
 rw [hrs]
 refine Aw (σ:=Nat) (fun i _=>⟨WV w R.length cnt l i,C5 c x (IV c x ev r.s.act (l.take i) r) w (V i).1 (V i).2.1 fv (V i).2.2.1 R2,(V i).2.2.2⟩)
  (fun i=>i≤K) (fun i=>K - i) 0 (BX _) (EM _) (AS _) (by rw [hV0]) ?_
 intro i c1 hi ih
 have hll:l.length≤16:=Ah
 by_cases hlt':i < l.length
 rotate_left
 ·obtain rfl:i=l.length:=by omega
  have hNe:N=l.length:=by
   rcases hN2 with ⟨g1,g2⟩ | ⟨g0,_⟩ <;> omega
  subst hNe
  clear ih hV hV0 hrs
  have hb:decide ((l.length:Int) < ((l.length:Nat):Int))=false:=Br
  generalize IV c x ev r.s.act (l.take l.length) r=r1
  generalize V l.length=v3
  clear hI hK1 hN2 hlt hln
  obtain ⟨⟨zv',vars',zl',left',act',zm',lamps',fau'⟩,ef',po'⟩:=r1
  subst hR2
  simp only [C5,Mb]
  refine Aa ?_
  simp only [WV]
  exact Ao7
 have hb:decide ((i:Int) < ((l.length:Nat):Int))=true:=Aj
 have hb2:decide (i < l.length)=true:=Aj
 have hgd:l.getD i default=l[i]:=by simp [List.getD,hlt']
 have w1:IntKind.i64.wrap ((i:Int)+1)=((i+1:Nat):Int):=AK
 have hm:=hlt _ (lx90 hlt')
 have x1:=hV i hlt' hlt'
 have E0:=Bf7 (l[i]:Nat) ⟨by omega,by omega⟩
 have hfl:(Nt c x ev r.s.act (IV c x ev r.s.act (l.take i) r) l[i]).2=false→i < K:=fun hf=>by
  exact Av2
 have htr:(Nt c x ev r.s.act (IV c x ev r.s.act (l.take i) r) l[i]).2=true→N=i+1:=fun hf=>by
  exact Av3
 have ih2:=fun h=>ih (i+1) 0 h (by omega)
 clear ih hV hV0 hrs hN2 hK1 hI
 rw [WN hlt'] at ih2
 have hst:∀ b1 b2,BT r.s.act (l[i]:Nat)=b1→BT (IV c x ev r.s.act (l.take i) r).s.act (l[i]:Nat)=b2→Nt c x ev r.s.act (IV c x ev r.s.act (l.take i) r) l[i]=
   if b1=true∧b2=true then D2 c x (l[i]:Nat) ev (IV c x ev r.s.act (l.take i) r) else (IV c x ev r.s.act (l.take i) r,false):=fun b1 b2 h1 h2=>by rw [←h1,←h2,Nt]
 have hfin:=WN (c:=c) (x:=x) (ev:=ev) (a0:=r.s.act) hlt' r
 generalize hr1:IV c x ev r.s.act (l.take i) r=r1 at x1 hfl htr ih2 hst hfin ⊢
 generalize hc3:V i=v3 at x1 ⊢
 generalize hc4:V (i+1)=v4 at x1 ih2
 generalize l[i]=m at x1 E0 hfl htr ih2 hst hgd hm hfin
 cases hb1:BT r.s.act (m:Nat) with
 | false=>
  have hs:=hst _ _ hb1 rfl
  rw [if_neg (by simp)] at hs
  rw [if_neg (by rw [hb1]; simp)] at x1
  rw [hs] at ih2 hfl
  have ih3:=ih2 (hfl rfl)
  clear ih2 hfl htr hst
  subst x1
  obtain ⟨⟨zv',vars',zl',left',act',zm',lamps',fau'⟩,ef',po'⟩:=r1
  subst hR2
  simp only [C5,Mb,B4] at ih3 ⊢
  refine Aa ?_
  simp only [WV]
  refine CL ?_
  refine I5 (a6 hb hb2 hgd w1 E0 hb1) ?_
  exact Adu
 | true=>
  cases hb2':BT r1.s.act (m:Nat) with
  | false=>
   have hs:=hst _ _ hb1 hb2'
   rw [if_neg (by simp)] at hs
   rw [if_neg (by rw [hb2']; simp)] at x1
   rw [hs] at ih2 hfl
   have ih3:=ih2 (hfl rfl)
   clear ih2 hfl htr hst
   subst x1
   obtain ⟨⟨zv',vars',zl',left',act',zm',lamps',fau'⟩,ef',po'⟩:=r1
   subst hR2
   simp only at hb2'
   simp only [C5,Mb,B4] at ih3 ⊢
   refine Aa ?_
   simp only [WV]
   refine CL ?_
   refine I5 (a7 hb hb2 hgd w1 E0 hb1 hb2') ?_
   exact Adu
  | true=>
   have hs:=hst _ _ hb1 hb2'
   rw [if_pos (by simp)] at hs
   rw [if_pos ⟨hb1,hb2'⟩] at x1
   rw [hs] at ih2 hfl htr hfin
   clear hst
   generalize hr2:D2 c x (m:Nat) ev r1=q at x1 ih2 hfl htr hfin
   obtain ⟨r2,b⟩:=q
   simp only at x1 ih2 hfl htr hfin
   obtain ⟨⟨zv',vars',zl',left',act',zm',lamps',fau'⟩,ef',po'⟩:=r1
   obtain ⟨⟨zv2,vars2,zl2,left2,act2,zm2,lamps2,fau2⟩,ef2,po2⟩:=r2
   subst hR2
   simp only at hb2'
   simp only [C5,Mb,B4] at x1
   cases b with
   | false=>
    have ih3:=ih2 (hfl rfl)
    clear ih2 hfl htr
    simp only [C5,Mb,B4] at ih3 ⊢
    refine Aa ?_
    simp only [WV]
    refine CL ?_
    refine I5 (a8 hb hb2 hgd w1 E0 hb1 hb2' x1) ?_
    repeat' (first | exact Ae (by kernel_rfl) | refine ⟨Ae (by kernel_rfl),?_⟩ | refine And.intro ?_ ?_ | fail)
    exact Adu
   | true=>
    obtain rfl:=htr rfl
    clear ih2 hfl htr
    subst hc4
    rw [hfin]
    simp only [C5,Mb,B4]
    refine Aa ?_
    simp only [WV]
    refine CL ?_
    refine I5 (a7 hb hb2 hgd E0 hb1 hb2' x1) ?_
    exact WY
theorem X6 (c:Cd) (x:Cx) (ev:Ev) (r:Ru) (hm:ev.mo < c.pri.length) (h:RuI c x r) (he:r.ef.length≤900000) (hp:r.po.length≤800000) (w e p fv mv:Nat) (R:List Blk) (cnt:Nat):
  ∃ e' p' m' cnt',HSpec Tryz.prog 74 [.pt 0 w 0 0,Eh ev] (C5 c x r w e p fv mv R) cnt (.tu []) (C5 c x (EV c x ev r) w e' p' fv m' R) cnt':=by
 unfold EV
 by_cases h0:0≤ev.mo
 ·rw [if_pos h0]
  exact Ad1 c x ev r h0 hm h (by omega) (by omega) w e p fv mv R cnt
 ·rw [if_neg h0]
  exact Ad2 c x ev r h0 h he hp w e p fv mv R cnt
def D74 (c:Cd) (x:Cx) (args:List AV) (H:List Blk) (cnt:Nat) (a:AV) (H':List Blk) (cnt':Nat):Prop:=
 ∀ (ev:Ev) (r:Ru) (w e p fv mv:Nat) (R:List Blk),args=[.pt 0 w 0 0,Eh ev]→H=C5 c x r w e p fv mv R→a=.tu []∧∃ e' p' m',H'=C5 c x (EV c x ev r) w e' p' fv m' R
noncomputable def f74 (c:Cd) (x:Cx):=hF Tryz.prog 74 (D74 c x)
theorem Bf8 (c:Cd) (x:Cx):Ql Tryz.prog 74 (f74 c x):=LU _ _ _
theorem e74 {c:Cd} {x:Cx} {ev:Ev} {r:Ru} (hm:ev.mo < c.pri.length) (h:RuI c x r) (he:r.ef.length≤900000) (hp:r.po.length≤800000) (w e p fv mv:Nat) (R:List Blk) (cnt:Nat):
  ∃ e' p' m' cnt',f74 c x [.pt 0 w 0 0,Eh ev] (C5 c x r w e p fv mv R) cnt=some (.tu [],C5 c x (EV c x ev r) w e' p' fv m' R,cnt'):=by
 obtain ⟨e',p',m',cnt',h1⟩:=X6 c x ev r hm h he hp w e p fv mv R cnt
 obtain ⟨a,H',c',g1,g2⟩:=LV (D:=D74 c x) h1 (by
  intro ev' r' w2 e2 p2 fv2 mv2 R2 a1 a2
  simp only [lx96,Ay,D3] at a1
  obtain ⟨_,a3⟩:=a1
  obtain rfl:=N5 a3
  obtain ⟨hn,rfl,rfl,rfl,rfl,rfl,rfl⟩:=TD a2
  exact ⟨rfl,e',p',m',TE (by rw [←(Hw c x).hand,←(Hw c x).hand,hn]) _ _ _ _ _ _⟩)
 obtain ⟨rfl,e3,p3,m3,rfl⟩:=g2 ev r w e p fv mv R rfl rfl
 exact ⟨e3,p3,m3,c',g1⟩
def K1 (c:Cd) (x:Cx) (s:Rs) (ef:List Ef) (w e:Nat) (pf:AV) (b2:Blk) (f m:Nat) (R:List Blk):List Blk:=⟨true,w,138,18,[.ag [.vw c.zi (c.ins.map BS),.vw c.zs (c.strs.map stA),.vw c.ze (c.ens.map DP),.vw c.zp (c.pri.map (kA .i64)),.vw c.zv (c.vars.map (kA .i64)),.sc (.int .i64 c.tim),.sc (.int .i64 c.evs),
 .vw false (s.vars.map (kA .i64)),.sl 3 f 0 s.left.length,.sc (.int .u32 s.act),.sl 4 m 0 s.lamps.length,.sc (.int .i64 s.fau),.sc (.int .i64 x.ti),.sc (.int .u64 x.clo),.sc (.int .i64 x.pl'),.sc (.int .i64 x.ba),.sl 1 e 0 ef.length,pf]],false⟩::
 ⟨true,e,73,5,ef.map Ek,false⟩::b2::⟨true,f,3,1,s.left.map (kA .i64),false⟩::⟨true,m,82,6,s.lamps.map BY,false⟩::R
def dR (Q:Nat→Ru × List Ev) (i:Nat):Ru:={ (Q i).1 with po:=(Q i).2 }
theorem An6 {c:Cd} {x:Cx} {l:List Ev} {r:Ru} {i:Nat} (h:i < (B7 c x l r i).2.length):dR (B7 c x l r) (i+1)=EV c x ((B7 c x l r i).2.getD i default) (dR (B7 c x l r) i):=by
 rw [Amw]
 have e1:JG (dR (B7 c x l r) i)=JG (B7 c x l r i).1:=rfl
 rw [e1,dR,MQ h]
 rfl
def Aj6 (w:Nat) (n:Int):List AV:=Cg 0 31 [(0,.pt 0 w 0 0),(4,.sc (.int .i64 n))]
theorem X7 (c:Cd) (x:Cx) (l:List Ev) (hPo:PoI c l) (hll:l.length≤100000) (s:Rs) (ef:List Ef) (h:RuI c x ⟨s,ef,[]⟩) (he:ef.length≤100000) (w e v:Nat) (pf:AV) (fv mv:Nat) (R:List Blk) (cnt:Nat):
  ∃ e' p' m' po' cnt',HSpec Tryz.prog 59 [.pt 0 w 0 0,.sl 2 v 0 l.length] (K1 c x s ef w e pf ⟨true,v,46,3,l.map Eh,false⟩ fv mv R) cnt (.tu [])
   (C5 c x ⟨(F8 c x l ⟨s,ef,[]⟩).s,(F8 c x l ⟨s,ef,[]⟩).ef,po'⟩ w e' p' fv m' R) cnt':=by
 have hI:=XY (r:=⟨s,ef,[]⟩) h hPo (by simp)
 have hdn:=fun i=>An6 (c:=c) (x:=x) (l:=l) (r:=⟨s,ef,[]⟩) (i:=i)
 obtain ⟨Q,hQ⟩:∃ Q,B7 c x l ⟨s,ef,[]⟩=Q:=⟨_,rfl⟩
 have hst:=fun i=>Acu (c:=c) (x:=x) (l:=l) (r:=⟨s,ef,[]⟩) (i:=i)
 have hln:=fun i=>Aiq (c:=c) (x:=x) (l:=l) (r:=⟨s,ef,[]⟩) i
 have h0:B7 c x l ⟨s,ef,[]⟩ 0=(⟨s,ef,[]⟩,l):=rfl
 have hR0:F8 c x l ⟨s,ef,[]⟩=if 64 < (B7 c x l ⟨s,ef,[]⟩ 64).2.length then JD (B7 c x l ⟨s,ef,[]⟩ 64).1 else (B7 c x l ⟨s,ef,[]⟩ 64).1:=rfl
 obtain ⟨Z,hZ⟩:∃ Z,F8 c x l ⟨s,ef,[]⟩=Z:=⟨_,rfl⟩
 simp only [hQ,hZ] at hI hdn hst hln h0 hR0 ⊢
 have hd0:dR Q 0=⟨s,ef,l⟩:=by rw [dR,h0]
 obtain ⟨V,hV0,hV⟩:=XV (fun i (a b:Nat × Nat × Nat × Nat)=>i < (Q i).2.length→f74 c x [.pt 0 w 0 0,Eh ((Q i).2.getD i default)] (C5 c x (dR Q i) w a.1 a.2.1 fv a.2.2.1 R) a.2.2.2=
   some (.tu [],C5 c x (dR Q (i+1)) w b.1 b.2.1 fv b.2.2.1 R,b.2.2.2)) 64 (e,v,mv,cnt) (fun i a hi=>by
  by_cases hlt:i < (Q i).2.length
  ·obtain ⟨g1,g2,g3,g4,g5⟩:=hI i
   have hm:((Q i).2.getD i default).mo < c.pri.length:=by
    rw [lx80,lx51 hlt]
    exact g2 _ (lx90 hlt)
   have gd:RuI c x (dR Q i):=⟨g1.val,g1.fit,g1.cx,g1.vl,g1.va,g1.ll,g1.lf,g1.ac,g1.fa,g1.lo,g1.so⟩
   have ge:(dR Q i).ef=(Q i).1.ef:=rfl
   have gp:(dR Q i).po=(Q i).2:=rfl
   obtain ⟨e',p',m',c',x1⟩:=e74 hm gd (by rw [ge]; omega) (by rw [gp]; omega) w a.1 a.2.1 fv a.2.2.1 R a.2.2.2
   refine ⟨(e',p',m',c'),fun _=>?_⟩
   rw [hdn i hlt]
   exact x1
  ·exact ⟨a,fun hh=>absurd hh hlt⟩)
 have hfa:0≤(dR Q 64).s.fau∧(dR Q 64).s.fau≤2147483647:=(hI 64).ru.fa
 obtain ⟨F5,k5,E5⟩:=D1 (Nu c x (dR Q 64) hfa w (V 64).1 (V 64).2.1 fv (V 64).2.2.1 R (V 64).2.2.2)
 obtain ⟨K,hK1,hK2,hK3⟩:∃ K,K≤64∧(∀ j,j < K→j < (Q j).2.length)∧(K=64∨(Q K).2.length=K):=by
  exact Ava
 refine ⟨(V K).1,(V K).2.1,(V K).2.2.1,(Q K).2,(V K).2.2.2,?_⟩
 refine Ag (Am (lit:=true) (pm:=fun _=>none) .nil .nil .nil (.cons (Bf8 c x) (.cons k5 .nil))) rfl Tryz.func59 rfl (by decide) (by kernel_rfl) ?_
 simp only [Tryz.f59,Af,lx53,lx63,Nat.reduceAdd,Nat.reduceSub,List.replicate]
 simp only [K1]
 refine Aa ?_
 refine gG0 ?_
 refine Aw (σ:=Nat) (fun i _=>⟨Aj6 w (i:Int),C5 c x (dR Q i) w (V i).1 (V i).2.1 fv (V i).2.2.1 R,(V i).2.2.2⟩)
  (fun i=>i≤K) (fun i=>K - i) 0 (BX _) ?_ ?_ (by rw [hV0]) ?_
 ·exact Ao4
 ·rw [hV0,hd0]; exact AS _
 intro i c1 hi ih
 by_cases hlt:i < K
 ·have hl2:=hK2 i hlt
  have x1:=hV i (by omega) hl2
  have ih2:=ih (i+1) 0 (by omega) (by omega)
  obtain ⟨_,_,_,f4,_⟩:=hI i
  have hb:decide ((i:Int) < (((Q i).2.length:Nat):Int))=true:=Aj
  have hb2:decide (i < (Q i).2.length)=true:=Aj
  have hb3:((i:Int) == 64)=false:=by rw [lx113]; omega
  have w1:IntKind.i64.wrap ((i:Int)+1)=((i+1:Nat):Int):=AK
  have hpo:(dR Q i).po=(Q i).2:=rfl
  clear ih hV hst hln hR0 hI hdn hK3 E5
  generalize V (i+1)=v2 at x1 ih2
  generalize V i=v1 at x1 ⊢
  generalize dR Q (i+1)=r2 at x1 ih2
  generalize (Q i).2=M at *
  generalize dR Q i=r1 at *
  obtain ⟨⟨tr,ix,mo⟩,hg⟩:∃ ev,M.getD i default=ev:=⟨_,rfl⟩
  rw [hg] at x1
  obtain ⟨⟨zv1,vars1,zl1,left1,act1,zm1,lamps1,fau1⟩,ef1,po1⟩:=r1
  obtain ⟨⟨zv2,vars2,zl2,left2,act2,zm2,lamps2,fau2⟩,ef2,po2⟩:=r2
  simp only at hpo
  subst hpo
  simp only [C5,Mb,B4] at x1 ih2 ⊢
  refine Aa ?_
  simp only [Aj6]
  refine CL ?_
  refine I5 (a6 hb hb2 hb3 w1 hg x1) ?_
  repeat' (first | exact Ae (by kernel_rfl) | refine ⟨Ae (by kernel_rfl),?_⟩ | refine And.intro ?_ ?_ | fail)
  refine AD ?_ (AS _) (Ax _) ih2
  exact Ao4
 ·obtain rfl:i=K:=by omega
  have hge:=hln i hK2
  clear ih hV hln hdn
  by_cases hlen:(Q i).2.length=i
  ·have hz:=hst i hK1 hlen
   have hb:decide ((i:Int) < (((Q i).2.length:Nat):Int))=false:=Ke
   rw [hz]
   have e1:(⟨(Q i).1.s,(Q i).1.ef,(Q i).2⟩:Ru)=dR Q i:=rfl
   rw [e1]
   have hpo:(dR Q i).po=(Q i).2:=rfl
   clear E5 hst hR0 hI hK3
   generalize V i=v1
   generalize (Q i).2=M at *
   generalize dR Q i=r1 at *
   obtain ⟨⟨zv1,vars1,zl1,left1,act1,zm1,lamps1,fau1⟩,ef1,po1⟩:=r1
   simp only at hpo
   subst hpo
   simp only [C5,Mb]
   refine Aa ?_
   simp only [Aj6]
   exact Ao7
  ·have hi64:i=64:=hK3.resolve_right hlen
   subst hi64
   have hgt:64 < (Q 64).2.length:=Ah
   rw [hR0,if_pos hgt]
   have e1:(⟨(JD (Q 64).1).s,(JD (Q 64).1).ef,(Q 64).2⟩:Ru)=JD (dR Q 64):=rfl
   rw [e1]
   have hpo:(dR Q 64).po=(Q 64).2:=rfl
   have hb:decide (((64:Nat):Int) < (((Q 64).2.length:Nat):Int))=true:=Aj
   clear hst hR0 hI hK3 hK1 hK2 hge hlen e1
   have hb1:((64:Nat):Int)=64:=rfl
   rw [hb1] at hb
   generalize V 64=v1 at *
   generalize (Q 64).2=M at *
   generalize dR Q 64=r1 at *
   obtain ⟨⟨zv1,vars1,zl1,left1,act1,zm1,lamps1,fau1⟩,ef1,po1⟩:=r1
   simp only at hpo
   subst hpo
   simp only [C5,Mb,JD] at E5 ⊢
   refine Aa ?_
   simp only [Aj6,hb1]
   refine CL ?_
   refine I5 (a2 hb E5) ?_
   exact WY
noncomputable def Baf:=mkH (fun p:(Bool × List Int) × List Blk × Nat=>p.1.2.length≤1000000) (fun p=>([.vw p.1.1 (p.1.2.map (kA .i64))],p.2.1,p.2.2))
 (fun p=>(.sl p.2.1.length (p.2.2+1) 0 p.1.2.length,p.2.1++[⟨true,p.2.2+1,3,1,p.1.2.map (kA .i64),false⟩],p.2.2+2))
theorem Bag:Ql Tryz.prog 54 Baf:=It <| by
 rintro ⟨⟨z,l⟩,H,cnt⟩ h
 exact LR z l H cnt h
theorem Bah (z:Bool) (l:List Int) (H:List Blk) (cnt:Nat) (h:l.length≤1000000):Baf [.vw z (l.map (kA .i64))] H cnt=some (.sl H.length (cnt+1) 0 l.length,H++[⟨true,cnt+1,3,1,l.map (kA .i64),false⟩],cnt+2):=
 (Ir (q:=fun p:(Bool × List Int) × List Blk × Nat=>p.1.2.length≤1000000) (enc:=fun p=>([.vw p.1.1 (p.1.2.map (kA .i64))],p.2.1,p.2.2))
  (out:=fun p=>(.sl p.2.1.length (p.2.2+1) 0 p.1.2.length,p.2.1++[⟨true,p.2.2+1,3,1,p.1.2.map (kA .i64),false⟩],p.2.2+2)) ((z,l),H,cnt) h (by
  rintro ⟨⟨z',l'⟩,H',c'⟩ _ h2
  simp only [lx40,lx96,AV.vw.injEq,Ay] at h2
  obtain ⟨⟨rfl,h3⟩,rfl,rfl⟩:=h2
  rw [Ie h3]) :)
noncomputable def Aqh:=mkH (fun p:(Bool × List Lo) × List Blk × Nat=>p.1.2.length≤1000000) (fun p=>([.vw p.1.1 (p.1.2.map BY)],p.2.1,p.2.2))
 (fun p=>(.sl p.2.1.length (p.2.2+1) 0 p.1.2.length,p.2.1++[⟨true,p.2.2+1,82,6,p.1.2.map BY,false⟩],p.2.2+2))
theorem At8:Ql Tryz.prog 152 Aqh:=It <| by
 rintro ⟨⟨z,l⟩,H,cnt⟩ h
 exact Qp z l H cnt h
theorem Bai (z:Bool) (l:List Lo) (H:List Blk) (cnt:Nat) (h:l.length≤1000000):Aqh [.vw z (l.map BY)] H cnt=some (.sl H.length (cnt+1) 0 l.length,H++[⟨true,cnt+1,82,6,l.map BY,false⟩],cnt+2):=
 (Ir (q:=fun p:(Bool × List Lo) × List Blk × Nat=>p.1.2.length≤1000000) (enc:=fun p=>([.vw p.1.1 (p.1.2.map BY)],p.2.1,p.2.2))
  (out:=fun p=>(.sl p.2.1.length (p.2.2+1) 0 p.1.2.length,p.2.1++[⟨true,p.2.2+1,82,6,p.1.2.map BY,false⟩],p.2.2+2)) ((z,l),H,cnt) h (by
  rintro ⟨⟨z',l'⟩,H',c'⟩ _ h2
  simp only [lx40,lx96,AV.vw.injEq,LP,Ay] at h2
  obtain ⟨⟨rfl,rfl⟩,rfl,rfl⟩:=h2
  rfl) :)
theorem WW (s:Rs) (H:List Blk) (cnt:Nat) (h1:s.vars.length≤1000000) (h2:s.left.length≤1000000) (h3:s.lamps.length≤1000000):
  HSpec Tryz.prog 104 [Hf s] H cnt (.ag [.sl (H.length+2) (cnt+3) 0 s.vars.length,.sl (H.length+3) (cnt+5) 0 s.left.length,.sc (.int .u32 s.act),.sl (H.length+4) (cnt+7) 0 s.lamps.length,.sc (.int .i64 s.fau)])
   (H++[dead,dead,⟨true,cnt+3,3,1,s.vars.map (kA .i64),false⟩,⟨true,cnt+5,3,1,s.left.map (kA .i64),false⟩,⟨true,cnt+7,82,6,s.lamps.map BY,false⟩]) (cnt+8):=by
 obtain ⟨zv,vars,zl,left,act,zm,lamps,fau⟩:=s
 simp only at h1 h2 h3
 have E1:=fun H c=>Bah zv vars H c h1
 have E2:=fun H c=>Bah zl left H c h2
 have E3:=fun H c=>Bai zm lamps H c h3
 refine Ag (Am (lit:=true) (pm:=fun _=>none) .nil .nil .nil (.cons Bag (.cons At8 .nil))) rfl Tryz.func104 rfl (by decide) (by kernel_rfl) ?_
 simp only [Tryz.f104,Af,lx53,lx63,Nat.reduceAdd,Nat.reduceSub,List.replicate]
 refine Aa ?_
 refine I5 (a3 E1 E2 E3) ?_
 repeat' (first | exact Ae (by kernel_rfl) | refine ⟨Ae (by kernel_rfl),?_⟩ | refine And.intro ?_ ?_ | fail)
 all_goals first | exact .refl _ | exact .inl rfl | (refine Ia _ ?_ _; rw [Bx,Bx,Bx,Bx,Bx,JQ]; exact ⟨.inl rfl,.inl rfl,.inr (.inl rfl),.inr (.inl rfl),.inr (.inl rfl),trivial⟩) | skip
 all_goals done
theorem Aj7 (c:Cd) (hf:Fit c) (s:Rs) (x:Cx) (h:¬ (BU c s=true∧KT x=true)) (H:List Blk) (cnt:Nat):
  HSpec Tryz.prog 56 [B5 c,Hf s,ND x] H cnt (.tu [.jk,.sc (.int .i64 (if BU c s=false then 1 else 5))]) H (cnt+3):=by
 have x1:=e40 c s hf
 have x2:=fun n lo hi=>XE n lo hi
 obtain ⟨ti,clo,pl',ba⟩:=x
 simp only [Ac,AL] at x1
 refine Ag (Am (lit:=true) (pm:=fun _=>none) (.cons Aze (.cons Aln .nil)) .nil .nil .nil) rfl Tryz.func56 rfl (by decide) (by kernel_rfl) ?_
 simp only [Tryz.f56,Af,lx53,lx63,Nat.reduceAdd,Nat.reduceSub,List.replicate]
 cases h1:BU c s with
 | false=>
  rw [h1] at x1
  rw [if_pos rfl]
  refine Aa ?_
  refine I5 x1 ?_
  exact WY
 | true=>
  rw [h1] at x1
  rw [if_neg (by simp)]
  have h2:KT ⟨ti,clo,pl',ba⟩=false:=by
   rw [K5]; exact fun hc=>h ⟨h1,hc⟩
  have h3:KT ⟨ti,clo,pl',ba⟩=(HD ti 0 1099511627776 && HD pl' 0 2147483647 && HD ba 0 2147483647):=by
   simp only [KT,HD]; cases decide (0≤ti) <;> cases decide (ti≤1099511627776) <;> cases decide (0≤pl') <;> cases decide (pl'≤2147483647) <;> rfl
  rw [h3] at h2
  refine Aa ?_
  cases k1:HD ti 0 1099511627776 with
  | false=>
   refine I5 (a3 x1 x2 k1) ?_
   exact WY
  | true=>
   cases k2:HD pl' 0 2147483647 with
   | false=>
    refine I5 (a4 x1 x2 k1 k2) ?_
    exact WY
   | true=>
    have k3:HD ba 0 2147483647=false:=by rw [k1,k2] at h2; simpa using h2
    refine I5 (a5 x1 x2 k1 k2 k3) ?_
    exact WY
def Baj (c:Cd) (s:Rs) (x:Cx) (n cnt:Nat):Blk:=⟨true,cnt+11,138,18,[.ag [.vw c.zi (c.ins.map BS),.vw c.zs (c.strs.map stA),.vw c.ze (c.ens.map DP),.vw c.zp (c.pri.map (kA .i64)),.vw c.zv (c.vars.map (kA .i64)),.sc (.int .i64 c.tim),.sc (.int .i64 c.evs),
 .sl (n+5) (cnt+6) 0 s.vars.length,.sl (n+6) (cnt+8) 0 s.left.length,.sc (.int .u32 s.act),.sl (n+7) (cnt+10) 0 s.lamps.length,.sc (.int .i64 s.fau),.sc (.int .i64 x.ti),.sc (.int .u64 x.clo),.sc (.int .i64 x.pl'),.sc (.int .i64 x.ba),.vw true [],.vw true []]],false⟩
theorem Aj8 (c:Cd) (hf:Fit c) (s:Rs) (x:Cx) (h1:BU c s=true) (h2:KT x=true) (H:List Blk) (cnt:Nat):
  HSpec Tryz.prog 56 [B5 c,Hf s,ND x] H cnt (.tu [.pt (H.length+8) (cnt+11) 0 0,.sc (.int .i64 0)])
   (H++[dead,dead,dead,dead,dead,⟨true,cnt+6,3,1,s.vars.map (kA .i64),false⟩,⟨true,cnt+8,3,1,s.left.map (kA .i64),false⟩,⟨true,cnt+10,82,6,s.lamps.map BY,false⟩,Baj c s x H.length cnt]) (cnt+12):=by
 have x1:=e40 c s hf
 rw [h1] at x1
 have hru:=TB hf h1 h2
 have hvl:=Cw hru.val
 have q1:s.vars.length≤1000000:=by have:=hru.vl; simp only at this; omega
 have q2:s.left.length≤1000000:=by have:=hru.ll; simp only at this; omega
 have q3:s.lamps.length≤1000000:=by have:=hru.lmp; simp only at this; omega
 have x2:=fun n lo hi=>XE n lo hi
 have h3:KT x=(HD x.ti 0 1099511627776 && HD x.pl' 0 2147483647 && HD x.ba 0 2147483647):=by
  simp only [KT,HD]; cases decide (0≤x.ti) <;> cases decide (x.ti≤1099511627776) <;> cases decide (0≤x.pl') <;> cases decide (x.pl'≤2147483647) <;> rfl
 rw [h3,AH,AH] at h2
 obtain ⟨⟨k1,k2⟩,k3⟩:=h2
 obtain ⟨F,kF,E⟩:=D1 (WW s (H++[⟨true,cnt,36,7,[B5 c],false⟩,⟨true,cnt+1,41,5,[Hf s],false⟩,⟨true,cnt+1+1,27,4,[ND x],false⟩]) (cnt+1+1+1) q1 q2 q3)
 simp only [Ac,AL,CJ,lx4,lx91,lx64,lx5,lx53,lx63] at E x1
 refine Ag (Am (lit:=true) (pm:=fun _=>none) (.cons Aze (.cons Aln .nil)) .nil .nil (.cons kF .nil)) rfl Tryz.func56 rfl (by decide) (by kernel_rfl) ?_
 simp only [Tryz.f56,Af,lx53,lx63,Nat.reduceAdd,Nat.reduceSub,List.replicate]
 refine Aa ?_
 refine I5 (a6 x1 x2 k1 k2 k3 E) ?_
 refine Ia _ ?_ _
 rw [Bx,Bx,Bx,Bx,Bx,Bx,Bx,Bx,Bx,JQ]
 exact ⟨.inl rfl,.inl rfl,.inl rfl,.inl rfl,.inl rfl,.inr (.inl rfl),.inr (.inl rfl),.inr (.inl rfl),.inr (.inl rfl),trivial⟩
def pgN (c:Cd) (x:Cx) (s:Rs) (w f m:Nat) (R:List Blk):List Blk:=⟨true,w,138,18,[.ag [.vw c.zi (c.ins.map BS),.vw c.zs (c.strs.map stA),.vw c.ze (c.ens.map DP),.vw c.zp (c.pri.map (kA .i64)),.vw c.zv (c.vars.map (kA .i64)),.sc (.int .i64 c.tim),.sc (.int .i64 c.evs),
 .vw false (s.vars.map (kA .i64)),.sl 3 f 0 s.left.length,.sc (.int .u32 s.act),.sl 4 m 0 s.lamps.length,.sc (.int .i64 s.fau),.sc (.int .i64 x.ti),.sc (.int .u64 x.clo),.sc (.int .i64 x.pl'),.sc (.int .i64 x.ba),.vw true [],.vw true []]],false⟩::
 dead::dead::⟨true,f,3,1,s.left.map (kA .i64),false⟩::⟨true,m,82,6,s.lamps.map BY,false⟩::R
theorem At9 {P:Program} {E:Env} {n0:Nat} {rs:List ResultVar} {Q:AV→St→Prop} {k:List Item} {T:List AV} {c:Cd} {x:Cx} {s:Rs} {w f m:Nat} {R:List Blk} {cnt:Nat}
  (h:Go P E n0 rs Q k ⟨T,K1 c x s [] w cnt (.vw true []) dead f m R,cnt+1⟩):Go P E n0 rs Q k ⟨T,pgN c x s w f m R,cnt⟩:=by
 have e1:((K1 c x s [] w cnt (.vw true []) dead f m R).set 1 dead).set 1 ⟨true,cnt,73,5,[],false⟩=K1 c x s [] w cnt (.vw true []) dead f m R:=rfl
 refine Wa (T':=T) (H':=(K1 c x s [] w cnt (.vw true []) dead f m R).set 1 dead) 1 cnt 73 5 (cnt+1) (by simp [K1]) (Ax _) (IY _) (Ct _ _ _) ?_ (by rw [e1]; exact h)
 exact ⟨Iy _ _ _ _ _ _ _ _ _ _ ⟨Jr ⟨.refl _,.refl _,.refl _,.refl _,.refl _,.refl _,.refl _,.refl _,.refl _,.refl _,.refl _,.refl _,.refl _,.refl _,.refl _,.refl _,.nil,.refl _,trivial⟩,trivial⟩,.inl rfl,.inl rfl,.inl rfl,.inl rfl,LJ _ _ _⟩
theorem An7 {c:Cd} {x:Cx} {s s':Rs} {ef ef':List Ef} {w e w' e' f f' m m':Nat} {pf pf':AV} {b b':Blk} {R R':List Blk} (h:K1 c x s ef w e pf b f m R=K1 c x s' ef' w' e' pf' b' f' m' R'):
  KV ⟨s,ef,[]⟩=KV ⟨s',ef',[]⟩∧w=w'∧e=e'∧pf=pf'∧b=b'∧f=f'∧m=m'∧R=R':=by
 obtain ⟨zv,vars,zl,left,act,zm,lamps,fau⟩:=s
 obtain ⟨zv',vars',zl',left',act',zm',lamps',fau'⟩:=s'
 simp only [K1,lx96,Blk.mk.injEq,AV.ag.injEq,AV.sl.injEq,AV.vw.injEq,AV.sc.injEq,Value.int.injEq,Ay,D3] at h
 obtain ⟨⟨rfl,g1,⟨rfl,_⟩,rfl,⟨rfl,_⟩,rfl,⟨rfl,_⟩,rfl⟩,g2,rfl,g4,g5,rfl⟩:=h
 obtain rfl:=Ie g1
 obtain rfl:=N6.1 g2.2
 obtain rfl:=Ie g4.2
 obtain rfl:=LP.1 g5.2
 simp [KV]
def D59 (c:Cd) (x:Cx) (args:List AV) (H:List Blk) (cnt:Nat) (a:AV) (H':List Blk) (cnt':Nat):Prop:=
 ∀ (l:List Ev) (s:Rs) (w e v:Nat) (pf:AV) (fv mv:Nat) (R:List Blk),args=[.pt 0 w 0 0,.sl 2 v 0 l.length]→H=K1 c x s [] w e pf ⟨true,v,46,3,l.map Eh,false⟩ fv mv R→
  a=.tu []∧∃ e' p' m' po',H'=C5 c x ⟨(F8 c x l ⟨s,[],[]⟩).s,(F8 c x l ⟨s,[],[]⟩).ef,po'⟩ w e' p' fv m' R
noncomputable def f59 (c:Cd) (x:Cx):=hF Tryz.prog 59 (D59 c x)
theorem Bfa (c:Cd) (x:Cx):Ql Tryz.prog 59 (f59 c x):=LU _ _ _
theorem e59 (c:Cd) (x:Cx) (l:List Ev) (hPo:PoI c l) (hll:l.length≤100000) (s:Rs) (h:RuI c x ⟨s,[],[]⟩) (w e v:Nat) (pf:AV) (fv mv:Nat) (R:List Blk) (cnt:Nat):
  ∃ e' p' m' po' cnt',f59 c x [.pt 0 w 0 0,.sl 2 v 0 l.length] (K1 c x s [] w e pf ⟨true,v,46,3,l.map Eh,false⟩ fv mv R) cnt=
   some (.tu [],C5 c x ⟨(F8 c x l ⟨s,[],[]⟩).s,(F8 c x l ⟨s,[],[]⟩).ef,po'⟩ w e' p' fv m' R,cnt'):=by
 obtain ⟨e',p',m',po',cnt',h1⟩:=X7 c x l hPo hll s [] h (by simp) w e v pf fv mv R cnt
 obtain ⟨a,H',c',g1,g2⟩:=LV (D:=D59 c x) h1 (by
  intro l' s' w2 e2 v2 pf2 fv2 mv2 R2 a1 a2
  obtain ⟨hn,rfl,rfl,rfl,h5,rfl,rfl,rfl⟩:=An7 a2
  simp only [Blk.mk.injEq,Ay,D3] at h5
  obtain ⟨rfl,h8⟩:=h5
  obtain rfl:=Th.1 h8
  have hq:=Amx c x l _ _ hn
  refine ⟨rfl,e',p',m',po',TE ?_ _ _ _ _ _ _⟩
  have k:∀ (q:Ru) (po:List Ev),KV ⟨q.s,q.ef,po⟩={ KV q with po:=po }:=fun _ _=>rfl
  rw [k (F8 c x l ⟨s,[],[]⟩),k (F8 c x l ⟨s',[],[]⟩),hq])
 obtain ⟨rfl,e3,p3,m3,po3,rfl⟩:=g2 l s w e v pf fv mv R rfl rfl
 exact ⟨e3,p3,m3,po3,c',g1⟩
theorem Aj9 (c:Cd) (hf:Fit c) (s:Rs) (ze:Bool) (ed:List Ed) (zp:Bool) (po:List Ev) (x:Cx) (h:¬ (BU c s=true∧KT x=true)):
  Db Tryz.prog 24 [B5 c,Hf s,.vw ze (ed.map NG),.vw zp (po.map Eh),ND x] (L6 (Kb c s ed po x)):=by
 obtain ⟨K,hK,hK2⟩:∃ K:Int,K=(if BU c s=false then 1 else 5)∧Kb c s ed po x=(⟨WT,[],[]⟩,K):=by
  by_cases h1:BU c s=false
  ·exact ⟨1,by rw [if_pos h1],by rw [Kb,if_pos h1]⟩
  ·have h2:KT x=false:=by
    rw [K5]; exact fun hc=>h ⟨by simpa using h1,hc⟩
   exact ⟨5,by rw [if_neg h1],by rw [Kb,if_neg h1,if_pos h2]⟩
 have hKn:(K != 0)=true:=by
  rw [hK]; split <;> rfl
 rw [hK2]
 obtain ⟨F,kF,E⟩:=D1 (Aj7 c hf s x h [⟨true,0,36,7,[B5 c],false⟩,⟨true,1,41,5,[Hf s],false⟩,⟨true,2,27,4,[ND x],false⟩,⟨true,3,41,5,[Hf WT],false⟩] 4)
 rw [←hK] at E
 simp only [Ac,AL,CJ,B4,WT,lx47,Nat.reduceAdd] at E
 refine C2 (Am (lit:=true) (pm:=fun _=>none) .nil .nil .nil (.cons kF .nil)) rfl Tryz.func24 rfl (by decide) (by kernel_rfl) (P5 _) ?_
 simp only [Tryz.f24,Af,lx53,lx63,Nat.reduceAdd,Nat.reduceSub,List.replicate]
 refine Aa ?_
 simp (maxSteps:=10000000) +contextual -implicitDefEqProofs only [Bk,Bg,St.put,Ap,Al,D8,↓reduceIte,Nat.reduceAdd,Int.reduceLT,Nat.reduceLT,D5,Int.reduceAdd,Dq,Fe,hl,Ch,Bh,CR,DK,Ci,Di,Cj,BQ,Cb,Ck,AB,AL,Ac,CJ,norefs,AV.noref,lx11,E,hKn,L6,WT]
 all_goals done
end Go.Proofs.YtdjpkhjaibdogaaGreat
