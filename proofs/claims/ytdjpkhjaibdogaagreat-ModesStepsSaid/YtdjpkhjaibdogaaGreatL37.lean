/-
  Lemmas towards ModesSteps (joined texts: FT, FU, FV, GA).
  Conditions: none.
-/
import Derived.Test.YtdjpkhjaibdogaaGreatL01
import Derived.Test.YtdjpkhjaibdogaaGreatL02
import Derived.Test.YtdjpkhjaibdogaaGreatL36
import Derived.Test.YtdjpkhjaibdogaaGreatL19
set_option linter.unusedSimpArgs false
set_option linter.unusedVariables false
set_option maxRecDepth 100000
set_option maxHeartbeats 8000000
namespace Go.Proofs.YtdjpkhjaibdogaaGreat
open Go Go.SX
attribute [local congr] ite_congr
def Bev (c:Cd) (x:Cx) (ev:Ev) (R:List Blk) (args:List AV) (H:List Blk) (cnt:Nat) (a:AV) (H':List Blk) (cnt':Nat):Prop:=
 ∀ (m:Int) (r:Ru) (w e p:Nat),args=[.pt 0 w 0 0,.sc (.int .i64 m),Cf ev]→H=DQ c x r w e p R→a=.sc (.bool (CZ c x m ev r).2)∧∃ e' p',H'=DQ c x (CZ c x m ev r).1 w e' p' R
noncomputable def f153 (c:Cd) (x:Cx) (ev:Ev) (R:List Blk):=hF Tryz.prog 153 (Bev c x ev R)
theorem Au7 (c:Cd) (x:Cx) (ev:Ev) (R:List Blk):Mu Tryz.prog 153 (f153 c x ev R):=Ik _ _ _
theorem Bew {c:Cd} {x:Cx} {m:Int} {ev:Ev} {r:Ru} (h:OneQ c x m ev r) (w e p:Nat) {R:List Blk} (hR:Pc R) (cnt:Nat):
  ∃ e' p' cnt',f153 c x ev R [.pt 0 w 0 0,.sc (.int .i64 m),Cf ev] (DQ c x r w e p R) cnt=some (.sc (.bool (CZ c x m ev r).2),DQ c x (CZ c x m ev r).1 w e' p' R,cnt'):=by
 obtain ⟨e',p',cnt',h1⟩:=Afm c x m ev r h w e p R hR cnt
 obtain ⟨a,H',c',g1,g2⟩:=Il (D:=Bev c x ev R) h1 (by
  intro m' r' w2 e2 p2 a1 a2
  simp only [lx96,Ay,CY] at a1
  obtain ⟨_,a3⟩:=a1
  obtain rfl:=Bx a3
  obtain ⟨rfl,rfl,rfl,rfl,_⟩:=Adi a2
  exact ⟨rfl,e',p',rfl⟩)
 obtain ⟨rfl,e3,p3,rfl⟩:=g2 m r w e p rfl rfl
 exact ⟨e3,p3,c',g1⟩
def Mo (c:Cd) (x:Cx) (ev:Ev) (a0:Int) (r:Ru) (m:Nat):Ru × Bool:=if BQ a0 m=true∧BQ r.s.act m=true then CZ c x m ev r else (r,false)
def Nq (c:Cd) (x:Cx) (ev:Ev) (a0:Int):List Nat→Ru→Ru
 | [],r=>r
 | m::l,r=>if (Mo c x ev a0 r m).2=true then (Mo c x ev a0 r m).1 else Nq c x ev a0 l (Mo c x ev a0 r m).1
def DU (c:Cd) (x:Cx) (ev:Ev) (r:Ru):Ru:=if 0≤ev.mo then (CZ c x ev.mo ev r).1 else Nq c x ev r.s.act (HE c) r
theorem Afr (c:Cd) (x:Cx) (ev:Ev) (r:Ru) (h0:0≤ev.mo) (h:OneQ c x ev.mo ev r) (w e p:Nat) (R:List Blk) (hR:Pc R) (cnt:Nat):
  ∃ e' p' cnt',HSpec Tryz.prog 106 [.pt 0 w 0 0,Cf ev] (DQ c x r w e p R) cnt (.tu []) (DQ c x (CZ c x ev.mo ev r).1 w e' p' R) cnt':=by
 have nR2:Pc (R++[⟨true,cnt,46,3,[Cf ev],false⟩]):=fun b hb=>by
  rcases lx76.1 hb with hb | hb
  ·exact hR b hb
  ·simp only [lx59,lx121,Fj] at hb
   subst hb; simp [Cf,kA,AV.noref,norefs]
 obtain ⟨e',p',cnt',x1⟩:=Bew h w e p nR2 (cnt+1)
 refine ⟨e',p',cnt',?_⟩
 have hg:decide (0≤ev.mo)=true:=by rw [AN]; exact h0
 obtain ⟨r1,hr1⟩:∃ r1,(CZ c x ev.mo ev r).1=r1:=⟨_,rfl⟩
 rw [hr1] at x1 ⊢
 generalize (CZ c x ev.mo ev r).2=b at x1
 obtain ⟨tr,ix,mo⟩:=ev
 simp only [Be] at x1 hg
 simp only [DQ,OZ] at x1
 refine Ag (Aj (lit:=true) (pm:=fun _=>none) .nil .nil .nil (.cons (Au7 c x ⟨tr,ix,mo⟩ (R++[⟨true,cnt,46,3,[Cf ⟨tr,ix,mo⟩],false⟩])) .nil)) rfl Tryz.func106 rfl (by decide) (by kernel_rfl) ?_
 simp only [Tryz.f106,Af,lx53,lx63,Nat.reduceAdd,Nat.reduceSub,List.replicate]
 simp only [DQ,OZ]
 refine Aa ?_
 refine Hr (a4 hg x1 @Ch @Fi) ?_
 exact Agc
def Gl (c:Cd) (x:Cx) (ev:Ev) (a0:Int) (l:List Nat) (r:Ru):Ru:=l.foldl (fun r m=>(Mo c x ev a0 r m).1) r
theorem Nr {c:Cd} {x:Cx} {ev:Ev} {a0:Int} {l:List Nat} {i:Nat} (h:i < l.length) (r:Ru):Gl c x ev a0 (l.take (i+1)) r=(Mo c x ev a0 (Gl c x ev a0 (l.take i) r) l[i]).1:=by
 rw [Gl,lx115 h,List.foldl_append]; rfl
theorem Au8 {c:Cd} {x:Cx} {r:Ru} (h:RuI c x r) {m:Nat} (hm:m < c.pri.length) (ev:Ev) (a0:Int):
  RuI c x (Mo c x ev a0 r m).1∧(Mo c x ev a0 r m).1.ef.length≤r.ef.length+256∧(Mo c x ev a0 r m).1.po.length≤r.po.length+256:=by
 unfold Mo
 by_cases hz:BQ a0 m=true∧BQ r.s.act m=true
 ·rw [if_pos hz]; exact Ala h ⟨by omega,by omega⟩ ev
 ·rw [if_neg hz]; exact ⟨h,by simp,by simp⟩
theorem Adm {c:Cd} {x:Cx} {ev:Ev} {a0:Int}:∀ (l:List Nat) {r:Ru},RuI c x r→(∀ m ∈ l,m < c.pri.length)→
  RuI c x (Gl c x ev a0 l r)∧(Gl c x ev a0 l r).ef.length≤r.ef.length+256 * l.length∧(Gl c x ev a0 l r).po.length≤r.po.length+256 * l.length
 | [],r,h,_=>⟨h,by simp [Gl],by simp [Gl]⟩
 | m::l,r,h,hl=>by
  obtain ⟨g1,g2,g3⟩:=Au8 h (hl m lx48) ev a0
  obtain ⟨k1,k2,k3⟩:=Adm (ev:=ev) (a0:=a0) l g1 (fun m' hm'=>hl m' (lx49 _ hm'))
  have e:Gl c x ev a0 (m::l) r=Gl c x ev a0 l (Mo c x ev a0 r m).1:=rfl
  rw [e,lx53]
  exact ⟨k1,by omega,by omega⟩
theorem KM (c:Cd) (x:Cx) (ev:Ev) (a0:Int):∀ (l:List Nat) (r:Ru),∃ K,K≤l.length∧(∀ j,(h:j < l.length)→j < K→(Mo c x ev a0 (Gl c x ev a0 (l.take j) r) l[j]).2=false)∧
  ((K=l.length∧Nq c x ev a0 l r=Gl c x ev a0 (l.take K) r)∨(∃ h:K < l.length,(Mo c x ev a0 (Gl c x ev a0 (l.take K) r) l[K]).2=true∧Nq c x ev a0 l r=Gl c x ev a0 (l.take (K+1)) r))
 | [],r=>⟨0,Ar _,fun j h=>absurd h (by simp),.inl ⟨rfl,rfl⟩⟩
 | m::l,r=>by
  by_cases hz:(Mo c x ev a0 r m).2=true
  ·exact ⟨0,Bu _,fun j _ h=>absurd h (by omega),.inr ⟨by simp,hz,by rw [Nq,if_pos hz]; rfl⟩⟩
  ·obtain ⟨K,h1,h2,h3⟩:=KM c x ev a0 l (Mo c x ev a0 r m).1
   refine ⟨K+1,by simp; omega,fun j hj hK=>?_,?_⟩
   ·cases j with
    | zero=>exact (Hq _).mp hz
    | succ j=>exact h2 j (by simpa using hj) (by omega)
   ·rw [Nq,if_neg hz]
    rcases h3 with ⟨g1,g2⟩ | ⟨g0,g1,g2⟩
    ·exact .inl ⟨by simp [g1],g2⟩
    ·exact .inr ⟨by simp; omega,g1,g2⟩
def Alb (w q cnt:Nat) (l:List Nat) (i:Int):List AV:=Bn 0 56 [(0,.pt 0 w 0 0),(3,.pt (q+1+1+1) cnt 0 0),(4,.pt (q+1+1+1+1) (cnt+1) 0 0),(5,.vw false (l.map nI)),(6,.sc (.int .i64 i))]
theorem Afs (c:Cd) (x:Cx) (ev:Ev) (r:Ru) (h0:¬ 0≤ev.mo) (h:RuI c x r) (he:r.ef.length≤900000) (hp:r.po.length≤800000) (w e p:Nat) (R:List Blk) (hR:Pc R) (cnt:Nat):
  ∃ e' p' cnt',HSpec Tryz.prog 106 [.pt 0 w 0 0,Cf ev] (DQ c x r w e p R) cnt (.tu []) (DQ c x (Nq c x ev r.s.act (HE c) r) w e' p' R) cnt':=by
 have E38:=e33 c h.fit
 rw [Ad8 h.val] at E38
 obtain ⟨R2,hR2⟩:∃ R2,R++[⟨true,cnt,46,3,[Cf ev],false⟩,⟨true,cnt+1,41,5,[Gb r.s],false⟩]=R2:=⟨_,rfl⟩
 have nR2:Pc R2:=fun b hb=>by
  rw [←hR2] at hb
  rcases lx76.1 hb with hb | hb
  ·exact hR b hb
  ·simp only [lx59,lx121,Fj] at hb
   rcases hb with rfl | rfl <;> simp [Cf,Gb,kA,AV.noref,norefs]
 have hg:decide (0≤ev.mo)=false:=by rw [BT]; exact h0
 have hvl:=B5 h.val
 have hln:=Nm h.val
 have hlt:=fun m hm=>PA h.val (x:=m) hm
 obtain ⟨l,hle⟩:∃ l,HE c=l:=⟨_,rfl⟩
 rw [hle] at E38 hln hlt ⊢
 have hI:=fun i=>Adm (ev:=ev) (a0:=r.s.act) (l.take i) h (fun m hm=>hlt m (lx38 hm))
 obtain ⟨K,hK,hK1,hK2⟩:=KM c x ev r.s.act l r
 obtain ⟨V,hV0,hV⟩:=Og (fun i (a b:Nat × Nat × Nat)=>∀ h:i < l.length,if BQ r.s.act (l[i]:Nat)=true∧BQ (Gl c x ev r.s.act (l.take i) r).s.act (l[i]:Nat)=true then
   f153 c x ev R2 [.pt 0 w 0 0,.sc (.int .i64 (l[i]:Nat)),Cf ev] (DQ c x (Gl c x ev r.s.act (l.take i) r) w a.1 a.2.1 R2) a.2.2=
    some (.sc (.bool (CZ c x (l[i]:Nat) ev (Gl c x ev r.s.act (l.take i) r)).2),DQ c x (CZ c x (l[i]:Nat) ev (Gl c x ev r.s.act (l.take i) r)).1 w b.1 b.2.1 R2,b.2.2) else b=a) l.length (e,p,cnt+1+1) (fun i a hi=>by
  by_cases hz:BQ r.s.act (l[i]:Nat)=true∧BQ (Gl c x ev r.s.act (l.take i) r).s.act (l[i]:Nat)=true
  ·obtain ⟨g1,g2,g3⟩:=hI i
   rw [lx68] at g2 g3
   have hm:=hlt _ (lx90 hi)
   obtain ⟨e2,p2,c2,x1⟩:=Bew (g1.one (m:=(l[i]:Nat)) ⟨by omega,by omega⟩ ev (by omega) (by omega)) w a.1 a.2.1 nR2 a.2.2
   exact ⟨(e2,p2,c2),fun _=>by rw [if_pos hz]; exact x1⟩
  ·exact ⟨a,fun _=>by rw [if_neg hz]⟩)
 have hE:∃ N,N≤l.length∧Nq c x ev r.s.act l r=Gl c x ev r.s.act (l.take N) r∧((K=l.length∧N=K)∨(∃ h:K < l.length,(Mo c x ev r.s.act (Gl c x ev r.s.act (l.take K) r) l[K]).2=true∧N=K+1)):=by
  exact Ar5
 obtain ⟨N,hN,hN1,hN2⟩:=hE
 refine ⟨(V N).1,(V N).2.1,(V N).2.2,?_⟩
 rw [hN1]
 clear hN1 hK2
 have hev:Cf ev=.ag [.sc (.int .i64 ev.tr),.sc (.int .i64 ev.ix),.sc (.int .i64 ev.mo)]:=rfl
 have hrs:DQ c x r w e p R2=DQ c x (Gl c x ev r.s.act (l.take 0) r) w (V 0).1 (V 0).2.1 R2:=by rw [hV0]; rfl
 simp only [Ab] at E38
 refine Ag (Aj (lit:=true) (pm:=fun _=>none) (.cons Aoi .nil) (.cons Bj1 .nil) .nil (.cons (Au7 c x ev R2) .nil)) rfl Tryz.func106 rfl (by decide) (by kernel_rfl) ?_
 simp only [Tryz.f106,Af,lx53,lx63,Nat.reduceAdd,Nat.reduceSub,List.replicate]
 rw [hev]
 simp only [DQ,OZ]
 refine Aa ?_
 refine Hr (a6 hg E38 @Ch @Fi @Ji @N9) ?_
 repeat' (first | exact Ad (by kernel_rfl) | refine ⟨Ad (by kernel_rfl),?_⟩ | refine And.intro ?_ ?_ | fail)
 refine Ao (T':=Alb w R.length cnt l 0) (H':=DQ c x r w e p R2) ?_ ?_ (Ar _) ?_
 ·simp (maxSteps:=10000000) only [AY,AW,↓reduceIte,reduceCtorEq,Nat.reduceAdd,Nat.reduceEqDiff,Bn,Dj,Alb]
 ·subst hR2; simp only [DQ,OZ,Be,Az,AB]; exact Aw _
 rw [hrs]
 refine Al (σ:=Nat) (fun i _=>⟨Alb w R.length cnt l i,DQ c x (Gl c x ev r.s.act (l.take i) r) w (V i).1 (V i).2.1 R2,(V i).2.2⟩)
  (fun i=>i≤K) (fun i=>K - i) 0 (Bu _) (CH _) (Aw _) (by rw [hV0]) ?_
 intro i c1 hi ih
 have hll:l.length≤16:=Ah
 by_cases hlt':i < l.length
 rotate_left
 ·obtain rfl:i=l.length:=by omega
  have hNe:N=l.length:=by
   rcases hN2 with ⟨g1,g2⟩ | ⟨g0,_⟩ <;> omega
  subst hNe
  clear ih hV hV0 hrs
  have hb:decide ((l.length:Int) < ((l.length:Nat):Int))=false:=Bc
  generalize Gl c x ev r.s.act (l.take l.length) r=r1
  generalize (V l.length).2.2=c3
  generalize (V l.length).2.1=p3
  generalize (V l.length).1=e3
  clear hI hK1 hN2 hlt hln
  obtain ⟨⟨zv',vars',zl',left',act',zm',lamps',fau'⟩,ef',po'⟩:=r1
  subst hR2
  simp only [DQ,OZ]
  refine Ags ?_
  refine Hr hb ?_
  exact RU
 have hb:decide ((i:Int) < ((l.length:Nat):Int))=true:=Ae
 have hb2:decide (i < l.length)=true:=Ae
 have hgd:l.getD i default=l[i]:=by simp [List.getD,hlt']
 have w1:IntKind.i64.wrap ((i:Int)+1)=((i+1:Nat):Int):=AA
 have hm:=hlt _ (lx90 hlt')
 have x1:=hV i hlt' hlt'
 have E0:=e58 r.s (l[i]:Nat) ⟨by omega,by omega⟩
 have E1:=e58 (Gl c x ev r.s.act (l.take i) r).s (l[i]:Nat) ⟨by omega,by omega⟩
 have hfl:(Mo c x ev r.s.act (Gl c x ev r.s.act (l.take i) r) l[i]).2=false→i < K:=fun hf=>by
  exact Aqi
 have htr:(Mo c x ev r.s.act (Gl c x ev r.s.act (l.take i) r) l[i]).2=true→N=i+1:=fun hf=>by
  exact Aqj
 have ih2:=fun h=>ih (i+1) 0 h (by omega)
 clear ih hV hV0 hrs hN2 hK1 hI
 rw [Nr hlt'] at ih2
 have hst:∀ b1 b2,BQ r.s.act (l[i]:Nat)=b1→BQ (Gl c x ev r.s.act (l.take i) r).s.act (l[i]:Nat)=b2→Mo c x ev r.s.act (Gl c x ev r.s.act (l.take i) r) l[i]=
   if b1=true∧b2=true then CZ c x (l[i]:Nat) ev (Gl c x ev r.s.act (l.take i) r) else (Gl c x ev r.s.act (l.take i) r,false):=fun b1 b2 h1 h2=>by rw [←h1,←h2,Mo]
 have hfin:=Nr (c:=c) (x:=x) (ev:=ev) (a0:=r.s.act) hlt' r
 generalize hr1:Gl c x ev r.s.act (l.take i) r=r1 at x1 E1 hfl htr ih2 hst hfin ⊢
 generalize hc3:V i=v3 at x1 ⊢
 generalize hc4:V (i+1)=v4 at x1 ih2
 generalize l[i]=m at x1 E0 E1 hfl htr ih2 hst hgd hm hfin
 cases hb1:BQ r.s.act (m:Nat) with
 | false=>
  have hs:=hst _ _ hb1 rfl
  rw [if_neg (by simp)] at hs
  rw [if_neg (by rw [hb1]; simp)] at x1
  rw [hs] at ih2 hfl
  have ih3:=ih2 (hfl rfl)
  clear ih2 hfl htr hst
  subst x1
  rw [hb1] at E0
  obtain ⟨⟨zv',vars',zl',left',act',zm',lamps',fau'⟩,ef',po'⟩:=r1
  simp only [Az] at E0 E1
  subst hR2
  simp only [DQ,OZ,Be,Az] at ih3 ⊢
  refine Ags ?_
  refine Hr (a9 hb hb2 hgd w1 E0 @Fi @Ji @Ij @OY) ?_
  exact Aur
 | true=>
  rw [hb1] at E0
  cases hb2':BQ r1.s.act (m:Nat) with
  | false=>
   have hs:=hst _ _ hb1 hb2'
   rw [if_neg (by simp)] at hs
   rw [if_neg (by rw [hb2']; simp)] at x1
   rw [hs] at ih2 hfl
   have ih3:=ih2 (hfl rfl)
   clear ih2 hfl htr hst
   subst x1
   rw [hb2'] at E1
   obtain ⟨⟨zv',vars',zl',left',act',zm',lamps',fau'⟩,ef',po'⟩:=r1
   simp only [Az] at E0 E1
   subst hR2
   simp only [DQ,OZ,Be,Az] at ih3 ⊢
   refine Ags ?_
   refine Hr (Hg hb hb2 hgd w1 E0 E1 @Fi @Ji @Ij @OY) ?_
   exact Aur
  | true=>
   have hs:=hst _ _ hb1 hb2'
   rw [if_pos (by simp)] at hs
   rw [if_pos ⟨hb1,hb2'⟩] at x1
   rw [hs] at ih2 hfl htr hfin
   rw [hb2'] at E1
   clear hst
   generalize hr2:CZ c x (m:Nat) ev r1=q at x1 ih2 hfl htr hfin
   obtain ⟨r2,b⟩:=q
   simp only at x1 ih2 hfl htr hfin
   obtain ⟨⟨zv',vars',zl',left',act',zm',lamps',fau'⟩,ef',po'⟩:=r1
   obtain ⟨⟨zv2,vars2,zl2,left2,act2,zm2,lamps2,fau2⟩,ef2,po2⟩:=r2
   simp only [Az] at E0 E1
   subst hR2
   simp only [DQ,OZ,Be,Az] at x1
   cases b with
   | false=>
    have ih3:=ih2 (hfl rfl)
    clear ih2 hfl htr
    simp only [DQ,OZ,Be,Az] at ih3 ⊢
    refine Ags ?_
    refine Hr (IL hb hb2 hgd w1 E0 E1 x1 @Fi @Ji @Ij @OY) ?_
    repeat' (first | exact Ad (by kernel_rfl) | refine ⟨Ad (by kernel_rfl),?_⟩ | refine And.intro ?_ ?_ | fail)
    exact Aur
   | true=>
    obtain rfl:=htr rfl
    clear ih2 hfl htr
    subst hc4
    rw [hfin]
    simp only [DQ,OZ,Be,Az]
    refine Ags ?_
    refine Hr (Hg hb hb2 hgd E0 E1 x1 @Fi @Ji @Ij @OY) ?_
    exact RU
theorem Zo (c:Cd) (x:Cx) (ev:Ev) (r:Ru) (hm:ev.mo < c.pri.length) (h:RuI c x r) (he:r.ef.length≤900000) (hp:r.po.length≤800000) (w e p:Nat) (R:List Blk) (hR:Pc R) (cnt:Nat):
  ∃ e' p' cnt',HSpec Tryz.prog 106 [.pt 0 w 0 0,Cf ev] (DQ c x r w e p R) cnt (.tu []) (DQ c x (DU c x ev r) w e' p' R) cnt':=by
 unfold DU
 by_cases h0:0≤ev.mo
 ·rw [if_pos h0]
  exact Afr c x ev r h0 (h.one ⟨h0,hm⟩ ev (by omega) (by omega)) w e p R hR cnt
 ·rw [if_neg h0]
  exact Afs c x ev r h0 h he hp w e p R hR cnt
theorem Apj {c:Cd} {x:Cx} {ev:Ev} {r:Ru} (hm:ev.mo < c.pri.length) (h:RuI c x r):
  RuI c x (DU c x ev r)∧(DU c x ev r).ef.length≤r.ef.length+4096∧(DU c x ev r).po.length≤r.po.length+4096:=by
 unfold DU
 by_cases h0:0≤ev.mo
 ·rw [if_pos h0]
  obtain ⟨g1,g2,g3⟩:=Ala h ⟨h0,hm⟩ ev
  exact ⟨g1,by omega,by omega⟩
 ·rw [if_neg h0]
  have hvl:=B5 h.val
  have hln:=Nm h.val
  have key:∀ i,RuI c x (Gl c x ev r.s.act ((HE c).take i) r)∧(Gl c x ev r.s.act ((HE c).take i) r).ef.length≤r.ef.length+4096∧(Gl c x ev r.s.act ((HE c).take i) r).po.length≤r.po.length+4096:=fun i=>by
   obtain ⟨g1,g2,g3⟩:=Adm (ev:=ev) (a0:=r.s.act) ((HE c).take i) h (fun m hm=>PA h.val (lx38 hm))
   rw [lx68] at g2 g3
   exact ⟨g1,by omega,by omega⟩
  obtain ⟨K,_,_,hK⟩:=KM c x ev r.s.act (HE c) r
  rcases hK with ⟨_,g⟩ | ⟨_,_,g⟩
  ·rw [g]; exact key K
  ·rw [g]; exact key (K+1)
def Bjk (c:Cd) (x:Cx) (R:List Blk) (args:List AV) (H:List Blk) (cnt:Nat) (a:AV) (H':List Blk) (cnt':Nat):Prop:=
 ∀ (ev:Ev) (r:Ru) (w e p:Nat),args=[.pt 0 w 0 0,Cf ev]→H=DQ c x r w e p R→a=.tu []∧∃ e' p',H'=DQ c x (DU c x ev r) w e' p' R
noncomputable def f106 (c:Cd) (x:Cx) (R:List Blk):=hF Tryz.prog 106 (Bjk c x R)
def KN (r:Ru):Ru:={ r with po:=[] }
def Cm (c:Cd) (x:Cx) (l:List Ev) (r:Ru):Nat→Ru × List Ev
 | 0=>(r,l)
 | i+1=>if i < (Cm c x l r i).2.length then
   (DU c x ((Cm c x l r i).2.getD i default) (KN (Cm c x l r i).1),(Cm c x l r i).2++(DU c x ((Cm c x l r i).2.getD i default) (KN (Cm c x l r i).1)).po)
  else Cm c x l r i
def Eu (c:Cd) (x:Cx) (l:List Ev) (r:Ru):Ru:=
 if 64 < (Cm c x l r 64).2.length then IT (Cm c x l r 64).1 else (Cm c x l r 64).1
theorem Ld {c:Cd} {x:Cx} {l:List Ev} {r:Ru} {i:Nat} (h:i < (Cm c x l r i).2.length):Cm c x l r (i+1)=
  (DU c x ((Cm c x l r i).2.getD i default) (KN (Cm c x l r i).1),(Cm c x l r i).2++(DU c x ((Cm c x l r i).2.getD i default) (KN (Cm c x l r i).1)).po):=by
 rw [Cm,if_pos h]
theorem Ya {c:Cd} {x:Cx} {l:List Ev} {r:Ru} {i:Nat} (h:(Cm c x l r i).2.length=i):∀ k,Cm c x l r (i+k)=Cm c x l r i
 | 0=>rfl
 | k+1=>by
  have ih:=Ya h k
  rw [show i+(k+1)=(i+k)+1 by omega,Cm,ih,if_neg (by omega)]
def PoI (c:Cd) (l:List Ev):Prop:=∀ e ∈ l,e.mo < c.pri.length
theorem PoI.add {c:Cd} {l:List Ev} (h:PoI c l) {e:Ev} (he:e.mo < c.pri.length):PoI c (l++[e]):=fun d hd=>by
 rcases lx76.1 hd with hd | hd
 ·exact h d hd
 ·rw [lx70.1 hd]; exact he
theorem PoI.app {c:Cd} {l m:List Ev} (h:PoI c l) (k:PoI c m):PoI c (l++m):=fun d hd=>by
 rcases lx76.1 hd with hd | hd
 ·exact h d hd
 ·exact k d hd
theorem Ax7 {c:Cd} {x:Cx} {m:Int} {f:Ef} {r:Ru} (hf:EfI c f) (h:PoI c r.po):PoI c (CI x m f r).po:=by
 unfold CI
 by_cases k21:f.k=21
 ·rw [if_pos k21]; exact h
 rw [if_neg k21]
 by_cases k22:f.k=22
 ·rw [if_pos k22]; exact h
 rw [if_neg k22]
 by_cases k23:f.k=23
 ·rw [if_pos k23]
  have ha:=hf.mod (.inl k23)
  by_cases hz:BQ r.s.act f.a=true
  ·rw [if_pos hz]; exact h
  ·rw [if_neg hz]; exact h.add ha.2
 rw [if_neg k23]
 by_cases k24:f.k=24
 ·rw [if_pos k24]
  have ha:=hf.mod (.inr k24)
  by_cases hz:BQ r.s.act f.a=true
  ·rw [if_pos hz]; exact h.add ha.2
  ·rw [if_neg hz]; exact h
 rw [if_neg k24]
 by_cases k25:f.k=25
 ·rw [if_pos k25]; exact h.add (by show (-1:Int) < _; omega)
 rw [if_neg k25]
 by_cases k19:f.k=19
 ·rw [if_pos k19]; unfold Ec; by_cases hz:BQ r.s.act m=true
  ·rw [if_pos hz]; exact h
  ·rw [if_neg hz]; exact h
 rw [if_neg k19]
 by_cases k20:f.k=20
 ·rw [if_pos k20]; unfold Ec; by_cases hz:BQ r.s.act m=true
  ·rw [if_pos hz]; exact h
  ·rw [if_neg hz]; exact h
 rw [if_neg k20]; exact h
theorem Alc {c:Cd} {x:Cx} {m:Int}:∀ (l:List Ef) {r:Ru},(∀ f ∈ l,EfI c f)→PoI c r.po→PoI c (appL x m l r).po
 | [],_,_,h=>h
 | f::l,_,hf,h=>Alc l (fun g hg=>hf g (lx49 _ hg)) (Ax7 (hf f lx48) h)
theorem Ald {c:Cd} {x:Cx} {r:Ru} (h:RuI c x r) (m:Int) (ev:Ev) (hp:PoI c r.po):PoI c (CZ c x m ev r).1.po:=by
 rw [CZ]
 cases hn:Eb c m ev.tr ev.ix with
 | none=>exact hp
 | some en=>
  simp only
  cases hy:Gf c (C5 r.s x) en.pc with
  | none=>exact hp
  | some y=>
   obtain ⟨g1,g2,g3,g4⟩:=US (h.exe hn) hy
   exact Alc y.2.1 (r:=Lg y.1 r) g4 hp
theorem Au9 {c:Cd} {x:Cx} {ev:Ev} {a0:Int}:∀ (l:List Nat) {r:Ru},RuI c x r→(∀ m ∈ l,m < c.pri.length)→PoI c r.po→PoI c (Gl c x ev a0 l r).po
 | [],_,_,_,h=>h
 | m::l,r,h,hl,hp=>by
  have e:Gl c x ev a0 (m::l) r=Gl c x ev a0 l (Mo c x ev a0 r m).1:=rfl
  rw [e]
  refine Au9 l (Au8 h (hl m lx48) ev a0).1 (fun m' hm'=>hl m' (lx49 _ hm')) ?_
  unfold Mo
  by_cases hz:BQ a0 m=true∧BQ r.s.act m=true
  ·rw [if_pos hz]; exact Ald h m ev hp
  ·rw [if_neg hz]; exact hp
theorem Apk {c:Cd} {x:Cx} {ev:Ev} {r:Ru} (h:RuI c x r) (hp:PoI c r.po):PoI c (DU c x ev r).po:=by
 unfold DU
 by_cases h0:0≤ev.mo
 ·rw [if_pos h0]; exact Ald h _ ev hp
 ·rw [if_neg h0]
  obtain ⟨K,_,_,hK⟩:=KM c x ev r.s.act (HE c) r
  have key:∀ i,PoI c (Gl c x ev r.s.act ((HE c).take i) r).po:=fun i=>Au9 _ h (fun m hm=>PA h.val (lx38 hm)) hp
  rcases hK with ⟨_,g⟩ | ⟨_,_,g⟩
  ·rw [g]; exact key K
  ·rw [g]; exact key (K+1)
theorem Zp {c:Cd} {x:Cx} {r:Ru} (h:RuI c x r):RuI c x (KN r):=
 ⟨h.val,h.fit,h.cx,h.vl,h.va,h.ll,h.lf,h.ac,h.fa,h.lo,h.so⟩
structure QuI (c:Cd) (x:Cx) (n0 e0 i:Nat) (q:Ru × List Ev):Prop where
 ru:RuI c x q.1
 po:PoI c q.2
 ef:q.1.ef.length≤e0+4096 * i
 le:q.2.length≤n0+4096 * i
 pl:q.1.po.length≤4096
theorem UU {c:Cd} {x:Cx} {l:List Ev} {r:Ru} (h:RuI c x r) (hl:PoI c l) (hp:r.po.length≤4096):∀ i,QuI c x l.length r.ef.length i (Cm c x l r i)
 | 0=>⟨h,hl,by simp [Cm],by simp [Cm],hp⟩
 | i+1=>by
  obtain ⟨g1,g2,g3,g4,g5⟩:=UU h hl hp i
  by_cases hi:i < (Cm c x l r i).2.length
  ·rw [Ld hi]
   have hm:((Cm c x l r i).2.getD i default).mo < c.pri.length:=by
    rw [lx80,lx51 hi]
    exact g2 _ (lx90 hi)
   obtain ⟨k1,k2,k3⟩:=Apj hm (Zp g1)
   have k4:=Apk (ev:=(Cm c x l r i).2.getD i default) (Zp g1) (fun e he=>by simp [KN] at he)
   have e1:(KN (Cm c x l r i).1).ef=(Cm c x l r i).1.ef:=rfl
   have e2:(KN (Cm c x l r i).1).po=[]:=rfl
   rw [e1] at k2
   rw [e2,lx63] at k3
   refine ⟨k1,g2.app k4,?_,?_,?_⟩
   ·simp only; omega
   ·simp only [lx5]; omega
   ·simp only; omega
  ·have e:Cm c x l r (i+1)=Cm c x l r i:=by rw [Cm,if_neg hi]
   rw [e]
   exact ⟨g1,g2,by omega,by omega,g5⟩
theorem TF {c:Cd} {x:Cx} {l:List Ev} {r:Ru} {i:Nat} (hi:i≤64) (h:(Cm c x l r i).2.length=i):Eu c x l r=(Cm c x l r i).1:=by
 have e:Cm c x l r 64=Cm c x l r i:=by
  have:=Ya h (64 - i)
  rwa [show i+(64 - i)=64 by omega] at this
 rw [Eu,e,if_neg (by omega)]
theorem Yb {c:Cd} {x:Cx} {l:List Ev} {r:Ru}:∀ i,(∀ j,j < i→j < (Cm c x l r j).2.length)→i≤(Cm c x l r i).2.length
 | 0,_=>Bu _
 | i+1,h=>by
  have:=h i (by omega)
  rw [Ld this,lx5]; omega
def Gm (c:Cd) (x:Cx) (s:Rs) (ef:List Ef) (w e:Nat) (pf:AV) (b2:Blk) (R:List Blk):List Blk:=⟨true,w,143,18,[.ag [.vw c.zi (c.ins.map B9),.vw c.zs (c.strs.map stA),.vw c.ze (c.ens.map D8),.vw c.zp (c.pri.map (kA .i64)),.vw c.zv (c.vars.map (kA .i64)),.sc (.int .i64 c.tim),.sc (.int .i64 c.evs),
 .vw s.zv (s.vars.map (kA .i64)),.vw s.zl (s.left.map (kA .i64)),.sc (.int .u32 s.act),.vw s.zm (s.lamps.map Bp),.sc (.int .i64 s.fau),.sc (.int .i64 x.ti),.sc (.int .u64 x.clo),.sc (.int .i64 x.pl'),.sc (.int .i64 x.ba),.sl 1 e 0 ef.length,pf]],false⟩::
 ⟨true,e,73,5,ef.map Dd,false⟩::b2::R
theorem Apl {c:Cd} {x:Cx} {s s':Rs} {ef ef':List Ef} {w e w' e':Nat} {pf:AV} {b b':Blk} {R R':List Blk} (h:Gm c x s ef w e pf b R=Gm c x s' ef' w' e' pf b' R'):s=s'∧ef=ef'∧w=w'∧e=e'∧b=b'∧R=R':=by
 obtain ⟨zv,vars,zl,left,act,zm,lamps,fau⟩:=s
 obtain ⟨zv',vars',zl',left',act',zm',lamps',fau'⟩:=s'
 simp only [Gm,lx96,Blk.mk.injEq,AV.ag.injEq,AV.sl.injEq,AV.vw.injEq,AV.sc.injEq,Value.int.injEq,Ay,CY] at h
 obtain ⟨⟨rfl,⟨rfl,g1⟩,⟨rfl,g2⟩,rfl,⟨rfl,g3⟩,rfl,_⟩,⟨rfl,g4⟩,rfl,rfl⟩:=h
 exact Ary
theorem Aft (c:Cd) (x:Cx) (ev:Ev) (s:Rs) (ef:List Ef) (hm:ev.mo < c.pri.length) (h:RuI c x ⟨s,ef,[]⟩) (he:ef.length≤900000) (w e:Nat) (b2:Blk) (R:List Blk) (hR:Pc R) (cnt:Nat):
  ∃ e' p' cnt',HSpec Tryz.prog 106 [.pt 0 w 0 0,Cf ev] (Gm c x s ef w e (.vw true []) b2 R) cnt (.tu []) (DQ c x (DU c x ev ⟨s,ef,[]⟩) w e' p' R) cnt':=by
 obtain ⟨e',p',cnt',h1⟩:=Zo c x ev ⟨s,ef,[]⟩ hm h he (by simp) w e cnt R hR (cnt+1)
 refine ⟨e',p',cnt',h1.pre fun w0 X loc a hs=>?_⟩
 have e1:(Gm c x s ef w e (.sl 2 cnt 0 0) dead R).set 2 ⟨true,cnt,46,3,[],false⟩=DQ c x ⟨s,ef,[]⟩ w e cnt R:=rfl
 rw [←e1]
 refine Acf (q:=2) (T:=[.pt 0 w 0 0,Cf ev]) (T':=[.pt 0 w 0 0,Cf ev]) hs (by simp [Gm]) (Ar _) (Ir _) (BX _ _ _) ?_
 rw [Gm,Gm,Nc,Nc,Nc]
 refine ⟨F2 _ _ _ _ _ _ _ _ _ _ ⟨Gw ⟨.refl _,.refl _,.refl _,.refl _,.refl _,.refl _,.refl _,.refl _,.refl _,.refl _,.refl _,.refl _,.refl _,.refl _,.refl _,.refl _,.refl _,.nil,trivial⟩,trivial⟩,.inl rfl,.inr (.inl rfl),Ea _ _ _⟩
def D6n (c:Cd) (x:Cx) (R:List Blk) (args:List AV) (H:List Blk) (cnt:Nat) (a:AV) (H':List Blk) (cnt':Nat):Prop:=
 ∀ (ev:Ev) (s:Rs) (ef:List Ef) (w e:Nat) (b2:Blk),args=[.pt 0 w 0 0,Cf ev]→H=Gm c x s ef w e (.vw true []) b2 R→a=.tu []∧∃ e' p',H'=DQ c x (DU c x ev ⟨s,ef,[]⟩) w e' p' R
noncomputable def f6n (c:Cd) (x:Cx) (R:List Blk):=hF Tryz.prog 106 (D6n c x R)
theorem Bjl (c:Cd) (x:Cx) (R:List Blk):Mu Tryz.prog 106 (f6n c x R):=Ik _ _ _
theorem e6n {c:Cd} {x:Cx} {ev:Ev} {s:Rs} {ef:List Ef} (hm:ev.mo < c.pri.length) (h:RuI c x ⟨s,ef,[]⟩) (he:ef.length≤900000) (w e:Nat) (b2:Blk) {R:List Blk} (hR:Pc R) (cnt:Nat):
  ∃ e' p' cnt',f6n c x R [.pt 0 w 0 0,Cf ev] (Gm c x s ef w e (.vw true []) b2 R) cnt=some (.tu [],DQ c x (DU c x ev ⟨s,ef,[]⟩) w e' p' R,cnt'):=by
 obtain ⟨e',p',cnt',h1⟩:=Aft c x ev s ef hm h he w e b2 R hR cnt
 obtain ⟨a,H',c',g1,g2⟩:=Il (D:=D6n c x R) h1 (by
  intro ev' s' ef' w2 e2 b2' a1 a2
  simp only [lx96,Ay,CY] at a1
  obtain ⟨_,a3⟩:=a1
  obtain rfl:=Ni a3
  obtain ⟨rfl,rfl,rfl,rfl,_⟩:=Apl a2
  exact ⟨rfl,e',p',rfl⟩)
 obtain ⟨rfl,e3,p3,rfl⟩:=g2 ev s ef w e b2 rfl rfl
 exact ⟨e3,p3,c',g1⟩
theorem Ax8 (c:Cd) (x:Cx) (r:Ru) (w e p:Nat) (R:List Blk) (hR:Pc R) (v:Nat) (els:List AV) (B:Blk):
  G7 (R.length+1+1+1) v els 0 0 (DQ c x r w e p R++[B])=DQ c x r w e p R++[dead]:=by
 obtain ⟨⟨zv,vars,zl,left,act,zm,lamps,fau⟩,ef,po⟩:=r
 rw [DQ,lx91,lx91,lx91,G7,if_neg (by omega),if_neg (by omega),G7,if_neg (by omega),if_neg (by omega),G7,if_neg (by omega),if_neg (by omega),Oe _ _ _ _ _ _ hR (by omega),HH _ _ _ _ (Ig _),HH _ _ _ _ (Er _)]
 have e1:¬ ((1:Nat)=R.length+1+1+1∧e=v):=Ah
 have e2:¬ ((2:Nat)=R.length+1+1+1∧p=v):=Ah
 simp only [OZ,Fq,Gv,if_neg e1,if_neg e2]
 rfl
def Afu (q:Option Nat) (l:List Ev):AV:=match q with
 | none=>.vw false (l.map Cf)
 | some v=>.sl 3 v 0 l.length
def Hd (q:Option Nat) (l:List Ev) (R:List Blk):List Blk:=match q with
 | none=>R
 | some v=>⟨true,v,46,3,l.map Cf,false⟩::R
theorem Adn (q:Option Nat) (l:List Ev) {R:List Blk} (h:Pc R):Pc (Hd q l R):=by
 cases q with
 | none=>exact h
 | some v=>
  intro b hb
  rcases lx59.1 hb with rfl | hb
  ·exact Er _
  ·exact h b hb
def Oi (w:Nat) (a:AV) (n:Int):List AV:=Bn 0 40 [(0,.pt 0 w 0 0),(1,a),(4,.sc (.int .i64 n))]
noncomputable def Ax9:Code:=match Tryz.f62.body with
 | some (.seq _ (.seq (.block _ (.loop b)) _))=>b
 | _=>.skip
theorem Ale (w:Nat) (l:List Ev) (id v n:Nat) (hn:n=l.length) (i:Int):Fq id v (l.map Cf) (Oi w (.sl id v 0 n) i)=Oi w (.vw false (l.map Cf)) i:=by
 subst hn
 simp only [Oi,Bn,Dj,Abv,Uf,Abk,Abo,Abl,Abm,Abp,Abq,Abr,Abs,Abt,Abn,Xj,Ta,Xk,Tb,Abu,Nat.reduceAdd,Nat.reduceEqDiff,Nat.reduceLT,Nat.reduceLeDiff,↓reduceIte,and_self,CY,false_and,Ay,lx73,lx92,lx42,List.take_nil,lx6,lx7,reduceCtorEq,B6,dead,lx58,lx118,Ar]
theorem TG (c:Cd) (x:Cx) (q:Option Nat) (l:List Ev) (R:List Blk) (hR:Pc R) (s:Rs) (ef:List Ef) (w e:Nat) (pf:AV) (b2:Blk) (cnt i:Nat) (hi:i < l.length) (h64:i < 64) (hll:l.length≤1000000)
  (r':Ru) (hpo:r'.po.length≤1000000) (e' p' cnt':Nat) (x1:f6n c x (Hd q l R) [.pt 0 w 0 0,Cf (l.getD i default)] (Gm c x s ef w e (.vw true []) b2 (Hd q l R)) cnt=some (.tu [],DQ c x r' w e' p' (Hd q l R),cnt'))
  {n0:Nat} (hn0:n0=(Hd q l R).length+3) {rs:List ResultVar} {Q:AV→St→Prop} {k:List Item} {E:Env} {F7:List AV→List Blk→Nat→Option (AV × List Blk × Nat)} (hE:E=Ue [] [] [] [(106,f6n c x (Hd q l R)),(107,F7)] true (fun _=>none)) (cc:Code)
  (ih:Go Tryz.prog E n0 rs Q (.inLoop cc::k) ⟨Oi w (.vw false ((l++r'.po).map Cf)) ((i+1:Nat):Int),DQ c x r' w e' p' (Hd q l R),cnt'+1+1⟩):
  Go Tryz.prog E n0 rs Q (.code Ax9::.inLoop cc::k) ⟨Oi w (Afu q l) (i:Int),Gm c x s ef w e pf b2 (Hd q l R),cnt⟩:=by
 have hb:decide ((i:Int) < ((l.length:Nat):Int))=true:=Ae
 have hb2:decide (i < l.length)=true:=Ae
 have hb3:decide ((i:Int) < 64)=true:=Ae
 have w1:IntKind.i64.wrap ((i:Int)+1)=((i+1:Nat):Int):=AA
 have tl:(l.map Cf).take l.length=l.map Cf:=lx118 (by simp)
 obtain ⟨⟨tr,ix,mo⟩,hev⟩:∃ ev,l.getD i default=ev:=⟨_,rfl⟩
 rw [hev] at x1
 have hnR:=Adn q l hR
 have hfz:=Ax8 c x r' w e' p' (Hd q l R) hnR (cnt'+1) ((l++r'.po).map Cf) ⟨true,cnt'+1,46,3,(l++r'.po).map Cf,false⟩
 have z1:decide (l.length * 24≤140737488355328)=true:=Ae
 have z2:decide ((l.length+r'.po.length) * 24≤140737488355328)=true:=Ae
 have key:∀ T2 H2,M0 T2 (Oi w (.sl ((Hd q l R).length+1+1+1) (cnt'+1) 0 (l.length+r'.po.length)) ((i+1:Nat):Int))→I3 H2 (DQ c x r' w e' p' (Hd q l R)++[⟨true,cnt'+1,46,3,(l++r'.po).map Cf,false⟩])→
   Go Tryz.prog E n0 rs Q (.inLoop cc::k) ⟨T2,H2,cnt'+1+1⟩:=fun T2 H2 k1 k2=>by
  refine Ao k1 k2 (Ar _) ?_
  refine Aj6 0 ((Hd q l R).length+1+1+1) ⟨true,cnt'+1,46,3,(l++r'.po).map Cf,false⟩ ?_ rfl (by omega) (Er _) ?_
  ·rw [DQ,lx91,lx91,lx91,lx54,lx54,lx54,lx3]
  ·simp only
   rw [hfz,Ale _ _ _ _ _ (by simp)]
   exact Ao (CH _) (NP _ _) (Ar _) ih
 clear ih hfz hnR hR
 subst hE
 obtain ⟨⟨zv',vars',zl',left',act',zm',lamps',fau'⟩,ef',po'⟩:=r'
 obtain ⟨zv,vars,zl,left,act,zm,lamps,fau⟩:=s
 have tp:(po'.map Cf).take po'.length=po'.map Cf:=lx118 (by simp)
 simp only at hpo z2 key
 cases q with
 | none=>
  simp only [Hd,Afu,DQ,OZ,Gm,Be] at x1 key ⊢
  simp only [Ax9,Tryz.f62]
  refine Aa ?_
  simp only [Oi]
  refine Bq ?_
  refine Hr (IV hb hb2 hb3 w1 tl tp z1 z2 hev x1 @Fi @N8 @Er) ?_
  exact Ayt
 | some v=>
  simp only [Hd,Afu,DQ,OZ,Gm,Be] at x1 key ⊢
  simp only [Ax9,Tryz.f62]
  refine Aa ?_
  simp only [Oi]
  refine Bq ?_
  refine Hr (G0 hb hb2 hb3 w1 tl tp z1 z2 hev x1 @Fi @N8) ?_
  exact Ayt
def Alf (pf:AV) (Q:Nat→Ru × List Ev):Nat→Nat→AV
 | 0,_=>pf
 | i+1,p=>.sl 2 p 0 (Q (i+1)).1.po.length
def Yc (b2:Blk) (Q:Nat→Ru × List Ev):Nat→Nat→Blk
 | 0,_=>b2
 | i+1,p=>⟨true,p,46,3,(Q (i+1)).1.po.map Cf,false⟩
def TH (q:Option Nat) (l:List Ev) (Q:Nat→Ru × List Ev):Nat→AV
 | 0=>Afu q l
 | i+1=>.vw false ((Q (i+1)).2.map Cf)
theorem Alg (q:Option Nat) (l:List Ev) (Q:Nat→Ru × List Ev) (h0:(Q 0).2=l) (i:Nat) (H:List Blk):RG H (TH q l Q i)=some (Q i).2.length:=by
 cases i with
 | zero=>cases q <;> simp [TH,Afu,RG,h0]
 | succ i=>simp [TH,RG]
theorem Alh (c:Cd) (x:Cx) (q:Option Nat) (l:List Ev) (hPo:PoI c l) (hll:l.length≤100000) (s:Rs) (ef:List Ef) (h:RuI c x ⟨s,ef,[]⟩) (he:ef.length≤100000) (w e:Nat) (pf:AV) (b2:Blk) (R:List Blk) (hR:Pc R) (cnt:Nat):
  ∃ e' cnt',HSpec Tryz.prog 62 [.pt 0 w 0 0,Afu q l] (Gm c x s ef w e pf b2 (Hd q l R)) cnt (.tu [])
   (Gm c x (Eu c x l ⟨s,ef,[]⟩).s (Eu c x l ⟨s,ef,[]⟩).ef w e' (.vw true []) dead (Hd q l R)) cnt':=by
 have hnR:=Adn q l hR
 have hI:=UU (r:=⟨s,ef,[]⟩) h hPo (by simp)
 obtain ⟨Q,hQ⟩:∃ Q,Cm c x l ⟨s,ef,[]⟩=Q:=⟨_,rfl⟩
 have hnx:=fun i=>Ld (c:=c) (x:=x) (l:=l) (r:=⟨s,ef,[]⟩) (i:=i)
 have hst:=fun i=>TF (c:=c) (x:=x) (l:=l) (r:=⟨s,ef,[]⟩) (i:=i)
 have hln:=fun i=>Yb (c:=c) (x:=x) (l:=l) (r:=⟨s,ef,[]⟩) i
 have h0:Cm c x l ⟨s,ef,[]⟩ 0=(⟨s,ef,[]⟩,l):=rfl
 have hR0:Eu c x l ⟨s,ef,[]⟩=if 64 < (Cm c x l ⟨s,ef,[]⟩ 64).2.length then IT (Cm c x l ⟨s,ef,[]⟩ 64).1 else (Cm c x l ⟨s,ef,[]⟩ 64).1:=rfl
 obtain ⟨Z,hZ⟩:∃ Z,Eu c x l ⟨s,ef,[]⟩=Z:=⟨_,rfl⟩
 simp only [hQ,hZ] at hI hnx hst hln h0 hR0 ⊢
 have h01:(Q 0).1=⟨s,ef,[]⟩:=by rw [h0]
 have h02:(Q 0).2=l:=by rw [h0]
 obtain ⟨V,hV0,hV⟩:=Og (fun i (a b:Nat × Nat × Nat)=>i < (Q i).2.length→∃ c',b.2.2=c'+1+1∧f6n c x (Hd q l R) [.pt 0 w 0 0,Cf ((Q i).2.getD i default)] (Gm c x (Q i).1.s (Q i).1.ef w a.1 (.vw true []) (Yc b2 Q i a.2.1) (Hd q l R)) a.2.2=
   some (.tu [],DQ c x (Q (i+1)).1 w b.1 b.2.1 (Hd q l R),c')) 64 (e,0,cnt) (fun i a hi=>by
  by_cases hlt:i < (Q i).2.length
  ·obtain ⟨g1,g2,g3,g4,g5⟩:=hI i
   have hm:((Q i).2.getD i default).mo < c.pri.length:=by
    rw [lx80,lx51 hlt]
    exact g2 _ (lx90 hlt)
   obtain ⟨e',p',c',x1⟩:=e6n hm (Zp g1) (by omega) w a.1 (Yc b2 Q i a.2.1) hnR a.2.2
   refine ⟨(e',p',c'+1+1),fun _=>⟨c',rfl,?_⟩⟩
   rw [hnx i hlt]
   exact x1
  ·exact ⟨a,fun hh=>absurd hh hlt⟩)
 have hfa:=(hI 64).ru.fa
 obtain ⟨F7,k7,E7⟩:=Dg (O0 c x (Q 64).1 hfa w (V 64).1 (V 64).2.1 (Hd q l R) (V 64).2.2)
 obtain ⟨K,hK1,hK2,hK3⟩:∃ K,K≤64∧(∀ j,j < K→j < (Q j).2.length)∧(K=64∨(Q K).2.length=K):=by
  exact Aqr
 refine ⟨(V K).1,(V K).2.2,?_⟩
 refine Ag (Aj (lit:=true) (pm:=fun _=>none) .nil .nil .nil (.cons (Bjl c x (Hd q l R)) (.cons k7 .nil))) rfl Tryz.func62 rfl (by decide) (by kernel_rfl) ?_
 have hn0:(Gm c x s ef w e pf b2 (Hd q l R)).length=(Hd q l R).length+3:=by simp [Gm]
 rw [hn0]
 simp only [Tryz.f62,Af,lx53,lx63,Nat.reduceAdd,Nat.reduceSub,List.replicate]
 refine Aa ?_
 simp (maxSteps:=10000000) +contextual -implicitDefEqProofs only [AY,AW,St.put,CK,AL]
 refine Al (σ:=Nat) (fun i _=>⟨Oi w (TH q l Q i) (i:Int),Gm c x (Q i).1.s (Q i).1.ef w (V i).1 (Alf pf Q i (V i).2.1) (Yc b2 Q i (V i).2.1) (Hd q l R),(V i).2.2⟩)
  (fun i=>i≤K) (fun i=>K - i) 0 (Bu _) ?_ ?_ (by rw [hV0]) ?_
 ·simp (maxSteps:=10000000) only [AY,AW,↓reduceIte,reduceCtorEq,Nat.reduceAdd,Nat.reduceEqDiff,Bn,Dj,Oi,TH]
 ·rw [hV0,h01]; exact Aw _
 intro i c1 hi ih
 by_cases hlt:i < K
 ·have hl2:=hK2 i hlt
  obtain ⟨c',hc',x1⟩:=hV i (by omega) hl2
  obtain ⟨g1,g2,g3,g4,g5⟩:=hI (i+1)
  obtain ⟨_,_,_,f4,_⟩:=hI i
  have ih2:=ih (i+1) 0 (by omega) (by omega)
  have hq1:=hnx i hl2
  have hq2:(Q (i+1)).2=(Q i).2++(Q (i+1)).1.po:=by rw [hq1]
  rw [hc'] at ih2
  clear ih hV hnx hst hln hR0 hI hq1
  cases i with
  | zero=>
   refine TG c x q l R hR (Q 0).1.s (Q 0).1.ef w (V 0).1 _ _ (V 0).2.2 0 (by rw [←h02]; exact hl2) (by omega) (by omega) (Q 1).1 (Nz g5 (by omega)) (V 1).1 (V 1).2.1 c' (by rw [h02] at x1; exact x1) rfl rfl _ ?_
   rw [h02] at hq2
   rw [←hq2]
   exact ih2
  | succ i=>
   refine TG c x none (Q (i+1)).2 (Hd q l R) hnR (Q (i+1)).1.s (Q (i+1)).1.ef w (V (i+1)).1 _ _ (V (i+1)).2.2 (i+1) hl2 (by omega) (by omega) (Q (i+1+1)).1 (Nz g5 (by omega)) (V (i+1+1)).1 (V (i+1+1)).2.1 c' x1 rfl rfl _ ?_
   rw [←hq2]
   exact ih2
 ·obtain rfl:i=K:=by omega
  have hge:=hln i hK2
  clear ih hV hnx hln
  have hla:=Alg q l Q h02 i
  generalize TH q l Q i=la at hla ⊢
  by_cases hlen:(Q i).2.length=i
  ·have hz:=hst i hK1 hlen
   have hb:decide ((i:Int) < (((Q i).2.length:Nat):Int))=false:=Gg
   rw [hz]
   clear E7 hst hR0 hI hK3
   generalize Alf pf Q i (V i).2.1=pf'
   generalize Yc b2 Q i (V i).2.1=bl
   generalize (Q i).1=r1
   generalize (Q i).2.length=nn at hla hb
   obtain ⟨⟨zv',vars',zl',left',act',zm',lamps',fau'⟩,ef',po'⟩:=r1
   simp only [Gm]
   refine Aa ?_
   simp only [Oi]
   refine Bq ?_
   refine Hr (a2 hb hla) ?_
   exact RU
  ·have hi64:i=64:=hK3.resolve_right hlen
   subst hi64
   have hgt:64 < (Q 64).2.length:=Ah
   have e1:Alf pf Q 64 (V 64).2.1=.sl 2 (V 64).2.1 0 (Q 64).1.po.length:=rfl
   have e2:Yc b2 Q 64 (V 64).2.1=⟨true,(V 64).2.1,46,3,(Q 64).1.po.map Cf,false⟩:=rfl
   rw [hR0,if_pos hgt,e1,e2]
   clear hst hR0 hI hK3 hK1 hK2 hge hlen e1 e2
   have hb:decide (((64:Nat):Int) < (((Q 64).2.length:Nat):Int))=true:=Ae
   generalize (Q 64).2.length=nn at hla hb hgt
   generalize (Q 64).1=r1 at E7 ⊢
   generalize (V 64).2.2=c3 at E7 ⊢
   generalize (V 64).2.1=p3 at E7 ⊢
   generalize (V 64).1=e3 at E7 ⊢
   obtain ⟨⟨zv',vars',zl',left',act',zm',lamps',fau'⟩,ef',po'⟩:=r1
   simp only [Gm,DQ,OZ,IT] at E7 ⊢
   have hb1:((64:Nat):Int)=64:=rfl
   rw [hb1] at hb
   refine Aa ?_
   simp only [Oi,hb1]
   refine Bq ?_
   refine Hr (a3 hb hla E7) ?_
   exact RU
end Go.Proofs.YtdjpkhjaibdogaaGreat
namespace Go.Proofs.YtdjpkhjaibdogaaGreat
open Go Go.SX
structure Mor (c:Cd) (x:Cx) (φ:Ru→Ru):Prop where
 act:∀ r,(φ r).s.act=r.s.act
 exe:∀ r pc,Gf c (C5 (φ r).s x) pc=Gf c (C5 r.s x) pc
 app:∀ m f r,CI x m f (φ r)=φ (CI x m f r)
 fau:∀ r,IT (φ r)=φ (IT r)
 add:∀ l r,UQ l (φ r)=φ (UQ l r)
 var:∀ l r,Lg l (φ r)=φ (Lg l r)
theorem Mor.appL {c:Cd} {x:Cx} {φ:Ru→Ru} (h:Mor c x φ) (m:Int):∀ (l:List Ef) (r:Ru),appL x m l (φ r)=φ (appL x m l r)
 | [],_=>rfl
 | f::l,r=>by
  have e:∀ r,Go.Proofs.YtdjpkhjaibdogaaGreat.appL x m (f::l) r=Go.Proofs.YtdjpkhjaibdogaaGreat.appL x m l (CI x m f r):=fun _=>rfl
  rw [e,e,h.app,h.appL m l]
theorem Mor.one {c:Cd} {x:Cx} {φ:Ru→Ru} (h:Mor c x φ) (m:Int) (ev:Ev) (r:Ru):CZ c x m ev (φ r)=(φ (CZ c x m ev r).1,(CZ c x m ev r).2):=by
 rw [CZ,CZ]
 cases hn:Eb c m ev.tr ev.ix with
 | none=>rfl
 | some en=>
  simp only [h.exe]
  cases hy:Gf c (C5 r.s x) en.pc with
  | none=>simp only [Mn,h.fau]
  | some y=>simp only [Mn,h.var,h.appL,h.add]
theorem Mor.st {c:Cd} {x:Cx} {φ:Ru→Ru} (h:Mor c x φ) (ev:Ev) (a0:Int) (r:Ru) (m:Nat):Mo c x ev a0 (φ r) m=(φ (Mo c x ev a0 r m).1,(Mo c x ev a0 r m).2):=by
 unfold Mo
 rw [h.act]
 by_cases hz:BQ a0 m=true∧BQ r.s.act m=true
 ·rw [if_pos hz,if_pos hz]; exact h.one m ev r
 ·rw [if_neg hz,if_neg hz]
theorem Mor.han {c:Cd} {x:Cx} {φ:Ru→Ru} (h:Mor c x φ) (ev:Ev) (a0:Int):∀ (l:List Nat) (r:Ru),Nq c x ev a0 l (φ r)=φ (Nq c x ev a0 l r)
 | [],_=>rfl
 | m::l,r=>by
  rw [Nq,Nq,h.st]
  by_cases hz:(Mo c x ev a0 r m).2=true
  ·simp only [if_pos hz]
  ·simp only [if_neg hz]; exact h.han ev a0 l _
theorem Mor.hand {c:Cd} {x:Cx} {φ:Ru→Ru} (h:Mor c x φ) (ev:Ev) (r:Ru):DU c x ev (φ r)=φ (DU c x ev r):=by
 unfold DU
 by_cases h0:0≤ev.mo
 ·rw [if_pos h0,if_pos h0,h.one]
 ·rw [if_neg h0,if_neg h0,h.act,h.han]
def Zq (l:List Ev) (r:Ru):Ru:={ r with po:=l++r.po }
theorem Ado {x:Cx} {φ:Ru→Ru} (h1:∀ r,(φ r).s.act=r.s.act)
  (left:∀ r (g:List Int→List Int),{ φ r with s:={ (φ r).s with zl:=false,left:=g (φ r).s.left } }=φ { r with s:={ r.s with zl:=false,left:=g r.s.left } })
  (on:∀ r a e,{ φ r with s:={ (φ r).s with act:=a },po:=(φ r).po++[e] }=φ { r with s:={ r.s with act:=a },po:=r.po++[e] })
  (off:∀ r a (g:List Lo→List Lo) e,{ φ r with s:={ (φ r).s with act:=a,zm:=false,lamps:=g (φ r).s.lamps },po:=(φ r).po++[e] }=φ { r with s:={ r.s with act:=a,zm:=false,lamps:=g r.s.lamps },po:=r.po++[e] })
  (post:∀ r e,{ φ r with po:=(φ r).po++[e] }=φ { r with po:=r.po++[e] })
  (lamp:∀ r (g:List Lo→List Lo),{ φ r with s:={ (φ r).s with zm:=false,lamps:=g (φ r).s.lamps } }=φ { r with s:={ r.s with zm:=false,lamps:=g r.s.lamps } }):
  ∀ m f r,CI x m f (φ r)=φ (CI x m f r):=by
 intro m f r
 have hl:∀ a se,Ec (φ r) m a se=φ (Ec r m a se):=fun a se=>by
  unfold Ec
  rw [h1]
  by_cases hz:BQ r.s.act m=true
  ·rw [if_pos hz,if_pos hz]; exact lamp r (fun l=>X7 l ⟨m,a,se⟩)
  ·rw [if_neg hz,if_neg hz]
 unfold CI
 by_cases k21:f.k=21
 ·rw [if_pos k21,if_pos k21]; exact left r (fun l=>l.set f.a.toNat (CM f.b 0 2147483647))
 rw [if_neg k21,if_neg k21]
 by_cases k22:f.k=22
 ·rw [if_pos k22,if_pos k22]; exact left r (fun l=>l.set f.a.toNat (CM 0 0 2147483647))
 rw [if_neg k22,if_neg k22]
 by_cases k23:f.k=23
 ·rw [if_pos k23,if_pos k23,h1]
  by_cases hz:BQ r.s.act f.a=true
  ·rw [if_pos hz,if_pos hz]
  ·rw [if_neg hz,if_neg hz]; exact on r _ _
 rw [if_neg k23,if_neg k23]
 by_cases k24:f.k=24
 ·rw [if_pos k24,if_pos k24,h1]
  by_cases hz:BQ r.s.act f.a=true
  ·rw [if_pos hz,if_pos hz]; exact off r _ (fun l=>Es l f.a) _
  ·rw [if_neg hz,if_neg hz]
 rw [if_neg k24,if_neg k24]
 by_cases k25:f.k=25
 ·rw [if_pos k25,if_pos k25]; exact post r _
 rw [if_neg k25,if_neg k25]
 by_cases k19:f.k=19
 ·rw [if_pos k19,if_pos k19]; exact hl _ _
 rw [if_neg k19,if_neg k19]
 by_cases k20:f.k=20
 ·rw [if_pos k20,if_pos k20]; exact hl _ _
 rw [if_neg k20,if_neg k20]
theorem Ali (c:Cd) (x:Cx) (l:List Ev):Mor c x (Zq l) where
 act _:=rfl
 exe _ _:=rfl
 app:=Ado (fun _=>rfl) (fun _ _=>rfl) (fun r a e=>by simp [Zq]) (fun r a g e=>by simp [Zq]) (fun r e=>by simp [Zq]) (fun _ _=>rfl)
 fau _:=rfl
 add _ _:=rfl
 var _ _:=rfl
def II (r:Ru):Ru:={ r with s:={ r.s with zv:=false,zl:=false,zm:=false } }
theorem Afv (c:Cd) (v v':Vn) (h1:v.left=v'.left) (h2:v.clo=v'.clo) (h3:v.act=v'.act) (h4:v.pl'=v'.pl') (h5:v.ba=v'.ba) (y:In) (m:Ms):Av c v y m=Av c v' y m:=by
 unfold Av opS
 rw [h1,h2,h3,h4,h5]
theorem Yd (c:Cd) (v v':Vn) (h1:v.left=v'.left) (h2:v.clo=v'.clo) (h3:v.act=v'.act) (h4:v.pl'=v'.pl') (h5:v.ba=v'.ba):∀ n m,C2 c v n m=C2 c v' n m
 | 0,_=>rfl
 | n+1,m=>by
  rw [C2,C2,Afv c v v' h1 h2 h3 h4 h5,Yd c v v' h1 h2 h3 h4 h5 n]
theorem Alj (c:Cd) (v v':Vn) (h0:v.vars=v'.vars) (h1:v.left=v'.left) (h2:v.clo=v'.clo) (h3:v.act=v'.act) (h4:v.pl'=v'.pl') (h5:v.ba=v'.ba) (pc:Int):Gf c v pc=Gf c v' pc:=by
 have e:JQ v pc=JQ v' pc:=by rw [JQ,JQ,h0]
 unfold Gf
 rw [Yd c v v' h1 h2 h3 h4 h5,e]
theorem IJ (c:Cd) (x:Cx):Mor c x (fun r=>II r) where
 act _:=rfl
 exe r pc:=Alj c (C5 (II r).s x) (C5 r.s x) rfl rfl rfl rfl rfl rfl pc
 app:=Ado (fun _=>rfl) (fun _ _=>rfl) (fun _ _ _=>rfl) (fun _ _ _ _=>rfl) (fun _ _=>rfl) (fun _ _=>rfl)
 fau _:=rfl
 add _ _:=rfl
 var _ _:=rfl
theorem Afw (l:List Ev) (r:Ru):Zq l (KN r)={ r with po:=l }:=by simp [Zq,KN]
theorem Apm (c:Cd) (x:Cx) (ev:Ev) (r:Ru):DU c x ev r=Zq r.po (DU c x ev (KN r)):=by
 rw [←(Ali c x r.po).hand,Afw]
theorem Ye {c:Cd} {x:Cx} {φ:Ru→Ru} (h:Mor c x φ) (hn:∀ r,KN (φ r)=φ (KN r)) (hp:∀ r,(φ r).po=r.po) (l:List Ev) (r:Ru):∀ i,Cm c x l (φ r) i=(φ (Cm c x l r i).1,(Cm c x l r i).2)
 | 0=>rfl
 | i+1=>by
  rw [Cm,Cm,Ye h hn hp l r i]
  simp only
  by_cases hi:i < (Cm c x l r i).2.length
  ·rw [if_pos hi,if_pos hi,hn,h.hand,hp]
  ·rw [if_neg hi,if_neg hi]
theorem Alk {c:Cd} {x:Cx} {φ:Ru→Ru} (h:Mor c x φ) (hn:∀ r,KN (φ r)=φ (KN r)) (hp:∀ r,(φ r).po=r.po) (l:List Ev) (r:Ru):Eu c x l (φ r)=φ (Eu c x l r):=by
 unfold Eu
 rw [Ye h hn hp l r 64]
 simp only
 by_cases hi:64 < (Cm c x l r 64).2.length
 ·rw [if_pos hi,if_pos hi,h.fau]
 ·rw [if_neg hi,if_neg hi]
end Go.Proofs.YtdjpkhjaibdogaaGreat
