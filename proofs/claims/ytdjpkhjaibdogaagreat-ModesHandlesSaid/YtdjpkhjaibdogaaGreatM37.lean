/-
  Lemmas towards ModesHandles (joined texts: FT, FU, FV, GA, FW, FX, FY, FZ, FZB).
  Conditions: none.
-/
import Derived.Test.YtdjpkhjaibdogaaGreatM01
import Derived.Test.YtdjpkhjaibdogaaGreatM02
import Derived.Test.YtdjpkhjaibdogaaGreatM36
import Derived.Test.YtdjpkhjaibdogaaGreatM19
set_option linter.unusedSimpArgs false
set_option linter.unusedVariables false
set_option maxRecDepth 100000
set_option maxHeartbeats 8000000
namespace Go.Proofs.YtdjpkhjaibdogaaGreat
open Go Go.SX
attribute [local congr] ite_congr
def Bc8 (c:Cd) (x:Cx) (ev:Ev) (R:List Blk) (args:List AV) (H:List Blk) (cnt:Nat) (a:AV) (H':List Blk) (cnt':Nat):Prop:=
 ∀ (m:Int) (r:Ru) (w e p:Nat),args=[.pt 0 w 0 0,.sc (.int .i64 m),CV ev]→H=Ek c x r w e p R→a=.sc (.bool (C0 c x m ev r).2)∧∃ e' p',H'=Ek c x (C0 c x m ev r).1 w e' p' R
noncomputable def f153 (c:Cd) (x:Cx) (ev:Ev) (R:List Blk):=hF Tryz.prog 153 (Bc8 c x ev R)
theorem Aru (c:Cd) (x:Cx) (ev:Ev) (R:List Blk):M8 Tryz.prog 153 (f153 c x ev R):=JC _ _ _
theorem Bc9 {c:Cd} {x:Cx} {m:Int} {ev:Ev} {r:Ru} (h:OneQ c x m ev r) (w e p:Nat) {R:List Blk} (hR:Xo R) (cnt:Nat):
  ∃ e' p' cnt',f153 c x ev R [.pt 0 w 0 0,.sc (.int .i64 m),CV ev] (Ek c x r w e p R) cnt=some (.sc (.bool (C0 c x m ev r).2),Ek c x (C0 c x m ev r).1 w e' p' R,cnt'):=by
 obtain ⟨e',p',cnt',h1⟩:=Adx c x m ev r h w e p R hR cnt
 obtain ⟨a,H',c',g1,g2⟩:=JD (D:=Bc8 c x ev R) h1 (by
  intro m' r' w2 e2 p2 a1 a2
  simp only [lx96,Az,Du] at a1
  obtain ⟨_,a3⟩:=a1
  obtain rfl:=Bt a3
  obtain ⟨rfl,rfl,rfl,rfl,_⟩:=Abs a2
  exact ⟨rfl,e',p',rfl⟩)
 obtain ⟨rfl,e3,p3,rfl⟩:=g2 m r w e p rfl rfl
 exact ⟨e3,p3,c',g1⟩
def MJ (c:Cd) (x:Cx) (ev:Ev) (a0:Int) (r:Ru) (m:Nat):Ru × Bool:=if BV a0 m=true∧BV r.s.act m=true then C0 c x m ev r else (r,false)
def MK (c:Cd) (x:Cx) (ev:Ev) (a0:Int):List Nat→Ru→Ru
 | [],r=>r
 | m::l,r=>if (MJ c x ev a0 r m).2=true then (MJ c x ev a0 r m).1 else MK c x ev a0 l (MJ c x ev a0 r m).1
def EM (c:Cd) (x:Cx) (ev:Ev) (r:Ru):Ru:=if 0≤ev.mo then (C0 c x ev.mo ev r).1 else MK c x ev r.s.act (HW c) r
theorem Ae2 (c:Cd) (x:Cx) (ev:Ev) (r:Ru) (h0:0≤ev.mo) (h:OneQ c x ev.mo ev r) (w e p:Nat) (R:List Blk) (hR:Xo R) (cnt:Nat):
  ∃ e' p' cnt',HSpec Tryz.prog 106 [.pt 0 w 0 0,CV ev] (Ek c x r w e p R) cnt (.tu []) (Ek c x (C0 c x ev.mo ev r).1 w e' p' R) cnt':=by
 have nR2:Xo (R++[⟨true,cnt,46,3,[CV ev],false⟩]):=fun b hb=>by
  rcases lx76.1 hb with hb | hb
  ·exact hR b hb
  ·simp only [lx59,lx121,E8] at hb
   subst hb; simp [CV,kA,AV.noref,norefs]
 obtain ⟨e',p',cnt',x1⟩:=Bc9 h w e p nR2 (cnt+1)
 refine ⟨e',p',cnt',?_⟩
 have hg:decide (0≤ev.mo)=true:=by rw [AR]; exact h0
 obtain ⟨r1,hr1⟩:∃ r1,(C0 c x ev.mo ev r).1=r1:=⟨_,rfl⟩
 rw [hr1] at x1 ⊢
 generalize (C0 c x ev.mo ev r).2=b at x1
 obtain ⟨tr,ix,mo⟩:=ev
 simp only [AN] at x1 hg
 simp only [Ek,QZ] at x1
 refine Ag (Aj (lit:=true) (pm:=fun _=>none) .nil .nil .nil (.cons (Aru c x ⟨tr,ix,mo⟩ (R++[⟨true,cnt,46,3,[CV ⟨tr,ix,mo⟩],false⟩])) .nil)) rfl Tryz.func106 rfl (by decide) (by kernel_rfl) ?_
 simp only [Tryz.f106,Af,lx53,lx63,Nat.reduceAdd,Nat.reduceSub,List.replicate]
 simp only [Ek,QZ]
 refine Ab ?_
 refine It (a4 hg x1 @Ca @Fw) ?_
 exact Aek
def G1 (c:Cd) (x:Cx) (ev:Ev) (a0:Int) (l:List Nat) (r:Ru):Ru:=l.foldl (fun r m=>(MJ c x ev a0 r m).1) r
theorem ML {c:Cd} {x:Cx} {ev:Ev} {a0:Int} {l:List Nat} {i:Nat} (h:i < l.length) (r:Ru):G1 c x ev a0 (l.take (i+1)) r=(MJ c x ev a0 (G1 c x ev a0 (l.take i) r) l[i]).1:=by
 rw [G1,lx115 h,List.foldl_append]; rfl
theorem Bca {c:Cd} {x:Cx} {r:Ru} (h:RuI c x r) {m:Nat} (hm:m < c.pri.length) (ev:Ev) (a0:Int):
  RuI c x (MJ c x ev a0 r m).1∧(MJ c x ev a0 r m).1.ef.length≤r.ef.length+256∧(MJ c x ev a0 r m).1.po.length≤r.po.length+256:=by
 unfold MJ
 by_cases hz:BV a0 m=true∧BV r.s.act m=true
 ·rw [if_pos hz]; exact Aji h ⟨by omega,by omega⟩ ev
 ·rw [if_neg hz]; exact ⟨h,by simp,by simp⟩
theorem Abw {c:Cd} {x:Cx} {ev:Ev} {a0:Int}:∀ (l:List Nat) {r:Ru},RuI c x r→(∀ m ∈ l,m < c.pri.length)→
  RuI c x (G1 c x ev a0 l r)∧(G1 c x ev a0 l r).ef.length≤r.ef.length+256 * l.length∧(G1 c x ev a0 l r).po.length≤r.po.length+256 * l.length
 | [],r,h,_=>⟨h,by simp [G1],by simp [G1]⟩
 | m::l,r,h,hl=>by
  obtain ⟨g1,g2,g3⟩:=Bca h (hl m lx48) ev a0
  obtain ⟨k1,k2,k3⟩:=Abw (ev:=ev) (a0:=a0) l g1 (fun m' hm'=>hl m' (lx49 _ hm'))
  have e:G1 c x ev a0 (m::l) r=G1 c x ev a0 l (MJ c x ev a0 r m).1:=rfl
  rw [e,lx53]
  exact ⟨k1,by omega,by omega⟩
theorem MM (c:Cd) (x:Cx) (ev:Ev) (a0:Int):∀ (l:List Nat) (r:Ru),∃ K,K≤l.length∧(∀ j,(h:j < l.length)→j < K→(MJ c x ev a0 (G1 c x ev a0 (l.take j) r) l[j]).2=false)∧
  ((K=l.length∧MK c x ev a0 l r=G1 c x ev a0 (l.take K) r)∨(∃ h:K < l.length,(MJ c x ev a0 (G1 c x ev a0 (l.take K) r) l[K]).2=true∧MK c x ev a0 l r=G1 c x ev a0 (l.take (K+1)) r))
 | [],r=>⟨0,Aw _,fun j h=>absurd h (by simp),.inl ⟨rfl,rfl⟩⟩
 | m::l,r=>by
  by_cases hz:(MJ c x ev a0 r m).2=true
  ·exact ⟨0,BT _,fun j _ h=>absurd h (by omega),.inr ⟨by simp,hz,by rw [MK,if_pos hz]; rfl⟩⟩
  ·obtain ⟨K,h1,h2,h3⟩:=MM c x ev a0 l (MJ c x ev a0 r m).1
   refine ⟨K+1,by simp; omega,fun j hj hK=>?_,?_⟩
   ·cases j with
    | zero=>exact (Hs _).mp hz
    | succ j=>exact h2 j (by simpa using hj) (by omega)
   ·rw [MK,if_neg hz]
    rcases h3 with ⟨g1,g2⟩ | ⟨g0,g1,g2⟩
    ·exact .inl ⟨by simp [g1],g2⟩
    ·exact .inr ⟨by simp; omega,g1,g2⟩
def Ajj (w q cnt:Nat) (l:List Nat) (i:Int):List AV:=Bm 0 56 [(0,.pt 0 w 0 0),(3,.pt (q+1+1+1) cnt 0 0),(4,.pt (q+1+1+1+1) (cnt+1) 0 0),(5,.vw false (l.map nI)),(6,.sc (.int .i64 i))]
theorem Ae3 (c:Cd) (x:Cx) (ev:Ev) (r:Ru) (h0:¬ 0≤ev.mo) (h:RuI c x r) (he:r.ef.length≤900000) (hp:r.po.length≤800000) (w e p:Nat) (R:List Blk) (hR:Xo R) (cnt:Nat):
  ∃ e' p' cnt',HSpec Tryz.prog 106 [.pt 0 w 0 0,CV ev] (Ek c x r w e p R) cnt (.tu []) (Ek c x (MK c x ev r.s.act (HW c) r) w e' p' R) cnt':=by
 have E38:=e33 c h.fit
 rw [Abj h.val] at E38
 obtain ⟨R2,hR2⟩:∃ R2,R++[⟨true,cnt,46,3,[CV ev],false⟩,⟨true,cnt+1,41,5,[Fv r.s],false⟩]=R2:=⟨_,rfl⟩
 have nR2:Xo R2:=fun b hb=>by
  rw [←hR2] at hb
  rcases lx76.1 hb with hb | hb
  ·exact hR b hb
  ·simp only [lx59,lx121,E8] at hb
   rcases hb with rfl | rfl <;> simp [CV,Fv,kA,AV.noref,norefs]
 have hg:decide (0≤ev.mo)=false:=by rw [Bz]; exact h0
 have hvl:=B9 h.val
 have hln:=MF h.val
 have hlt:=fun m hm=>T6 h.val (x:=m) hm
 obtain ⟨l,hle⟩:∃ l,HW c=l:=⟨_,rfl⟩
 rw [hle] at E38 hln hlt ⊢
 have hI:=fun i=>Abw (ev:=ev) (a0:=r.s.act) (l.take i) h (fun m hm=>hlt m (lx38 hm))
 obtain ⟨K,hK,hK1,hK2⟩:=MM c x ev r.s.act l r
 obtain ⟨V,hV0,hV⟩:=Uc (fun i (a b:Nat × Nat × Nat)=>∀ h:i < l.length,if BV r.s.act (l[i]:Nat)=true∧BV (G1 c x ev r.s.act (l.take i) r).s.act (l[i]:Nat)=true then
   f153 c x ev R2 [.pt 0 w 0 0,.sc (.int .i64 (l[i]:Nat)),CV ev] (Ek c x (G1 c x ev r.s.act (l.take i) r) w a.1 a.2.1 R2) a.2.2=
    some (.sc (.bool (C0 c x (l[i]:Nat) ev (G1 c x ev r.s.act (l.take i) r)).2),Ek c x (C0 c x (l[i]:Nat) ev (G1 c x ev r.s.act (l.take i) r)).1 w b.1 b.2.1 R2,b.2.2) else b=a) l.length (e,p,cnt+1+1) (fun i a hi=>by
  by_cases hz:BV r.s.act (l[i]:Nat)=true∧BV (G1 c x ev r.s.act (l.take i) r).s.act (l[i]:Nat)=true
  ·obtain ⟨g1,g2,g3⟩:=hI i
   rw [lx68] at g2 g3
   have hm:=hlt _ (lx90 hi)
   obtain ⟨e2,p2,c2,x1⟩:=Bc9 (g1.one (m:=(l[i]:Nat)) ⟨by omega,by omega⟩ ev (by omega) (by omega)) w a.1 a.2.1 nR2 a.2.2
   exact ⟨(e2,p2,c2),fun _=>by rw [if_pos hz]; exact x1⟩
  ·exact ⟨a,fun _=>by rw [if_neg hz]⟩)
 have hE:∃ N,N≤l.length∧MK c x ev r.s.act l r=G1 c x ev r.s.act (l.take N) r∧((K=l.length∧N=K)∨(∃ h:K < l.length,(MJ c x ev r.s.act (G1 c x ev r.s.act (l.take K) r) l[K]).2=true∧N=K+1)):=by
  exact Ap0
 obtain ⟨N,hN,hN1,hN2⟩:=hE
 refine ⟨(V N).1,(V N).2.1,(V N).2.2,?_⟩
 rw [hN1]
 clear hN1 hK2
 have hev:CV ev=.ag [.sc (.int .i64 ev.tr),.sc (.int .i64 ev.ix),.sc (.int .i64 ev.mo)]:=rfl
 have hrs:Ek c x r w e p R2=Ek c x (G1 c x ev r.s.act (l.take 0) r) w (V 0).1 (V 0).2.1 R2:=by rw [hV0]; rfl
 simp only [Aa] at E38
 refine Ag (Aj (lit:=true) (pm:=fun _=>none) (.cons Aml .nil) (.cons Bgf .nil) .nil (.cons (Aru c x ev R2) .nil)) rfl Tryz.func106 rfl (by decide) (by kernel_rfl) ?_
 simp only [Tryz.f106,Af,lx53,lx63,Nat.reduceAdd,Nat.reduceSub,List.replicate]
 rw [hev]
 simp only [Ek,QZ]
 refine Ab ?_
 refine It (a6 hg E38 @Ca @Fw @IV @Nq) ?_
 repeat' (first | exact Ac (by kernel_rfl) | refine ⟨Ac (by kernel_rfl),?_⟩ | refine And.intro ?_ ?_ | fail)
 refine Av (T':=Ajj w R.length cnt l 0) (H':=Ek c x r w e p R2) ?_ ?_ (Aw _) ?_
 ·simp (maxSteps:=10000000) only [AX,AW,↓reduceIte,reduceCtorEq,Nat.reduceAdd,Nat.reduceEqDiff,Bm,D2,Ajj]
 ·subst hR2; simp only [Ek,QZ,AN,Aq,AA]; exact AM _
 rw [hrs]
 refine Am (σ:=Nat) (fun i _=>⟨Ajj w R.length cnt l i,Ek c x (G1 c x ev r.s.act (l.take i) r) w (V i).1 (V i).2.1 R2,(V i).2.2⟩)
  (fun i=>i≤K) (fun i=>K - i) 0 (BT _) (CT _) (AM _) (by rw [hV0]) ?_
 intro i c1 hi ih
 have hll:l.length≤16:=Ai
 by_cases hlt':i < l.length
 rotate_left
 ·obtain rfl:i=l.length:=by omega
  have hNe:N=l.length:=by
   rcases hN2 with ⟨g1,g2⟩ | ⟨g0,_⟩ <;> omega
  subst hNe
  clear ih hV hV0 hrs
  have hb:decide ((l.length:Int) < ((l.length:Nat):Int))=false:=Bc
  generalize G1 c x ev r.s.act (l.take l.length) r=r1
  generalize (V l.length).2.2=c3
  generalize (V l.length).2.1=p3
  generalize (V l.length).1=e3
  clear hI hK1 hN2 hlt hln
  obtain ⟨⟨zv',vars',zl',left',act',zm',lamps',fau'⟩,ef',po'⟩:=r1
  subst hR2
  simp only [Ek,QZ]
  refine Aey ?_
  refine It hb ?_
  exact Ut
 have hb:decide ((i:Int) < ((l.length:Nat):Int))=true:=Ae
 have hb2:decide (i < l.length)=true:=Ae
 have hgd:l.getD i default=l[i]:=by simp [List.getD,hlt']
 have w1:IntKind.i64.wrap ((i:Int)+1)=((i+1:Nat):Int):=Ay
 have hm:=hlt _ (lx90 hlt')
 have x1:=hV i hlt' hlt'
 have E0:=e58 r.s (l[i]:Nat) ⟨by omega,by omega⟩
 have E1:=e58 (G1 c x ev r.s.act (l.take i) r).s (l[i]:Nat) ⟨by omega,by omega⟩
 have hfl:(MJ c x ev r.s.act (G1 c x ev r.s.act (l.take i) r) l[i]).2=false→i < K:=fun hf=>by
  exact Aod
 have htr:(MJ c x ev r.s.act (G1 c x ev r.s.act (l.take i) r) l[i]).2=true→N=i+1:=fun hf=>by
  exact Aoe
 have ih2:=fun h=>ih (i+1) 0 h (by omega)
 clear ih hV hV0 hrs hN2 hK1 hI
 rw [ML hlt'] at ih2
 have hst:∀ b1 b2,BV r.s.act (l[i]:Nat)=b1→BV (G1 c x ev r.s.act (l.take i) r).s.act (l[i]:Nat)=b2→MJ c x ev r.s.act (G1 c x ev r.s.act (l.take i) r) l[i]=
   if b1=true∧b2=true then C0 c x (l[i]:Nat) ev (G1 c x ev r.s.act (l.take i) r) else (G1 c x ev r.s.act (l.take i) r,false):=fun b1 b2 h1 h2=>by rw [←h1,←h2,MJ]
 have hfin:=ML (c:=c) (x:=x) (ev:=ev) (a0:=r.s.act) hlt' r
 generalize hr1:G1 c x ev r.s.act (l.take i) r=r1 at x1 E1 hfl htr ih2 hst hfin ⊢
 generalize hc3:V i=v3 at x1 ⊢
 generalize hc4:V (i+1)=v4 at x1 ih2
 generalize l[i]=m at x1 E0 E1 hfl htr ih2 hst hgd hm hfin
 cases hb1:BV r.s.act (m:Nat) with
 | false=>
  have hs:=hst _ _ hb1 rfl
  rw [if_neg (by simp)] at hs
  rw [if_neg (by rw [hb1]; simp)] at x1
  rw [hs] at ih2 hfl
  have ih3:=ih2 (hfl rfl)
  clear ih2 hfl htr hst
  subst x1
  rw [hb1] at E0
  obtain ⟨⟨zv',vars',zl',left',act',zm',lamps',fau'⟩,ef',po'⟩:=r1
  simp only [Aq] at E0 E1
  subst hR2
  simp only [Ek,QZ,AN,Aq] at ih3 ⊢
  refine Aey ?_
  refine It (a9 hb hb2 hgd w1 E0 @Fw @IV @HN @Ob) ?_
  exact Asb
 | true=>
  rw [hb1] at E0
  cases hb2':BV r1.s.act (m:Nat) with
  | false=>
   have hs:=hst _ _ hb1 hb2'
   rw [if_neg (by simp)] at hs
   rw [if_neg (by rw [hb2']; simp)] at x1
   rw [hs] at ih2 hfl
   have ih3:=ih2 (hfl rfl)
   clear ih2 hfl htr hst
   subst x1
   rw [hb2'] at E1
   obtain ⟨⟨zv',vars',zl',left',act',zm',lamps',fau'⟩,ef',po'⟩:=r1
   simp only [Aq] at E0 E1
   subst hR2
   simp only [Ek,QZ,AN,Aq] at ih3 ⊢
   refine Aey ?_
   refine It (Gv hb hb2 hgd w1 E0 E1 @Fw @IV @HN @Ob) ?_
   exact Asb
  | true=>
   have hs:=hst _ _ hb1 hb2'
   rw [if_pos (by simp)] at hs
   rw [if_pos ⟨hb1,hb2'⟩] at x1
   rw [hs] at ih2 hfl htr hfin
   rw [hb2'] at E1
   clear hst
   generalize hr2:C0 c x (m:Nat) ev r1=q at x1 ih2 hfl htr hfin
   obtain ⟨r2,b⟩:=q
   simp only at x1 ih2 hfl htr hfin
   obtain ⟨⟨zv',vars',zl',left',act',zm',lamps',fau'⟩,ef',po'⟩:=r1
   obtain ⟨⟨zv2,vars2,zl2,left2,act2,zm2,lamps2,fau2⟩,ef2,po2⟩:=r2
   simp only [Aq] at E0 E1
   subst hR2
   simp only [Ek,QZ,AN,Aq] at x1
   cases b with
   | false=>
    have ih3:=ih2 (hfl rfl)
    clear ih2 hfl htr
    simp only [Ek,QZ,AN,Aq] at ih3 ⊢
    refine Aey ?_
    refine It (Ij hb hb2 hgd w1 E0 E1 x1 @Fw @IV @HN @Ob) ?_
    repeat' (first | exact Ac (by kernel_rfl) | refine ⟨Ac (by kernel_rfl),?_⟩ | refine And.intro ?_ ?_ | fail)
    exact Asb
   | true=>
    obtain rfl:=htr rfl
    clear ih2 hfl htr
    subst hc4
    rw [hfin]
    simp only [Ek,QZ,AN,Aq]
    refine Aey ?_
    refine It (Gv hb hb2 hgd E0 E1 x1 @Fw @IV @HN @Ob) ?_
    exact Ut
theorem YI (c:Cd) (x:Cx) (ev:Ev) (r:Ru) (hm:ev.mo < c.pri.length) (h:RuI c x r) (he:r.ef.length≤900000) (hp:r.po.length≤800000) (w e p:Nat) (R:List Blk) (hR:Xo R) (cnt:Nat):
  ∃ e' p' cnt',HSpec Tryz.prog 106 [.pt 0 w 0 0,CV ev] (Ek c x r w e p R) cnt (.tu []) (Ek c x (EM c x ev r) w e' p' R) cnt':=by
 unfold EM
 by_cases h0:0≤ev.mo
 ·rw [if_pos h0]
  exact Ae2 c x ev r h0 (h.one ⟨h0,hm⟩ ev (by omega) (by omega)) w e p R hR cnt
 ·rw [if_neg h0]
  exact Ae3 c x ev r h0 h he hp w e p R hR cnt
theorem Ann {c:Cd} {x:Cx} {ev:Ev} {r:Ru} (hm:ev.mo < c.pri.length) (h:RuI c x r):
  RuI c x (EM c x ev r)∧(EM c x ev r).ef.length≤r.ef.length+4096∧(EM c x ev r).po.length≤r.po.length+4096:=by
 unfold EM
 by_cases h0:0≤ev.mo
 ·rw [if_pos h0]
  obtain ⟨g1,g2,g3⟩:=Aji h ⟨h0,hm⟩ ev
  exact ⟨g1,by omega,by omega⟩
 ·rw [if_neg h0]
  have hvl:=B9 h.val
  have hln:=MF h.val
  have key:∀ i,RuI c x (G1 c x ev r.s.act ((HW c).take i) r)∧(G1 c x ev r.s.act ((HW c).take i) r).ef.length≤r.ef.length+4096∧(G1 c x ev r.s.act ((HW c).take i) r).po.length≤r.po.length+4096:=fun i=>by
   obtain ⟨g1,g2,g3⟩:=Abw (ev:=ev) (a0:=r.s.act) ((HW c).take i) h (fun m hm=>T6 h.val (lx38 hm))
   rw [lx68] at g2 g3
   exact ⟨g1,by omega,by omega⟩
  obtain ⟨K,_,_,hK⟩:=MM c x ev r.s.act (HW c) r
  rcases hK with ⟨_,g⟩ | ⟨_,_,g⟩
  ·rw [g]; exact key K
  ·rw [g]; exact key (K+1)
def Bgy (c:Cd) (x:Cx) (R:List Blk) (args:List AV) (H:List Blk) (cnt:Nat) (a:AV) (H':List Blk) (cnt':Nat):Prop:=
 ∀ (ev:Ev) (r:Ru) (w e p:Nat),args=[.pt 0 w 0 0,CV ev]→H=Ek c x r w e p R→a=.tu []∧∃ e' p',H'=Ek c x (EM c x ev r) w e' p' R
noncomputable def f106 (c:Cd) (x:Cx) (R:List Blk):=hF Tryz.prog 106 (Bgy c x R)
def PoI (c:Cd) (l:List Ev):Prop:=∀ e ∈ l,e.mo < c.pri.length
theorem PoI.add {c:Cd} {l:List Ev} (h:PoI c l) {e:Ev} (he:e.mo < c.pri.length):PoI c (l++[e]):=fun d hd=>by
 rcases lx76.1 hd with hd | hd
 ·exact h d hd
 ·rw [lx70.1 hd]; exact he
theorem PoI.app {c:Cd} {l m:List Ev} (h:PoI c l) (k:PoI c m):PoI c (l++m):=fun d hd=>by
 rcases lx76.1 hd with hd | hd
 ·exact h d hd
 ·exact k d hd
structure QuI (c:Cd) (x:Cx) (n0 e0 i:Nat) (q:Ru × List Ev):Prop where
 ru:RuI c x q.1
 po:PoI c q.2
 ef:q.1.ef.length≤e0+4096 * i
 le:q.2.length≤n0+4096 * i
 pl:q.1.po.length≤4096
def YJ (c:Cd) (x:Cx) (s:Rs) (ef:List Ef) (w e:Nat) (pf:AV) (b2:Blk) (R:List Blk):List Blk:=⟨true,w,143,18,[.ag [.vw c.zi (c.ins.map BY),.vw c.zs (c.strs.map stA),.vw c.ze (c.ens.map D3),.vw c.zp (c.pri.map (kA .i64)),.vw c.zv (c.vars.map (kA .i64)),.sc (.int .i64 c.tim),.sc (.int .i64 c.evs),
 .vw s.zv (s.vars.map (kA .i64)),.vw s.zl (s.left.map (kA .i64)),.sc (.int .u32 s.act),.vw s.zm (s.lamps.map Bg),.sc (.int .i64 s.fau),.sc (.int .i64 x.ti),.sc (.int .u64 x.clo),.sc (.int .i64 x.pl'),.sc (.int .i64 x.ba),.sl 1 e 0 ef.length,pf]],false⟩::
 ⟨true,e,73,5,ef.map C6,false⟩::b2::R
theorem Ano {c:Cd} {x:Cx} {s s':Rs} {ef ef':List Ef} {w e w' e':Nat} {pf:AV} {b b':Blk} {R R':List Blk} (h:YJ c x s ef w e pf b R=YJ c x s' ef' w' e' pf b' R'):s=s'∧ef=ef'∧w=w'∧e=e'∧b=b'∧R=R':=by
 obtain ⟨zv,vars,zl,left,act,zm,lamps,fau⟩:=s
 obtain ⟨zv',vars',zl',left',act',zm',lamps',fau'⟩:=s'
 simp only [YJ,lx96,Blk.mk.injEq,AV.ag.injEq,AV.sl.injEq,AV.vw.injEq,AV.sc.injEq,Value.int.injEq,Az,Du] at h
 obtain ⟨⟨rfl,⟨rfl,g1⟩,⟨rfl,g2⟩,rfl,⟨rfl,g3⟩,rfl,_⟩,⟨rfl,g4⟩,rfl,rfl⟩:=h
 exact Axh
theorem Ae4 (c:Cd) (x:Cx) (ev:Ev) (s:Rs) (ef:List Ef) (hm:ev.mo < c.pri.length) (h:RuI c x ⟨s,ef,[]⟩) (he:ef.length≤900000) (w e:Nat) (b2:Blk) (R:List Blk) (hR:Xo R) (cnt:Nat):
  ∃ e' p' cnt',HSpec Tryz.prog 106 [.pt 0 w 0 0,CV ev] (YJ c x s ef w e (.vw true []) b2 R) cnt (.tu []) (Ek c x (EM c x ev ⟨s,ef,[]⟩) w e' p' R) cnt':=by
 obtain ⟨e',p',cnt',h1⟩:=YI c x ev ⟨s,ef,[]⟩ hm h he (by simp) w e cnt R hR (cnt+1)
 refine ⟨e',p',cnt',h1.pre fun w0 X loc a hs=>?_⟩
 have e1:(YJ c x s ef w e (.sl 2 cnt 0 0) dead R).set 2 ⟨true,cnt,46,3,[],false⟩=Ek c x ⟨s,ef,[]⟩ w e cnt R:=rfl
 rw [←e1]
 refine Aat (q:=2) (T:=[.pt 0 w 0 0,CV ev]) (T':=[.pt 0 w 0 0,CV ev]) hs (by simp [YJ]) (Aw _) (Iv _) (BP _ _ _) ?_
 rw [YJ,YJ,Mw,Mw,Mw]
 refine ⟨Fp _ _ _ _ _ _ _ _ _ _ ⟨Gf ⟨.refl _,.refl _,.refl _,.refl _,.refl _,.refl _,.refl _,.refl _,.refl _,.refl _,.refl _,.refl _,.refl _,.refl _,.refl _,.refl _,.refl _,.nil,trivial⟩,trivial⟩,.inl rfl,.inr (.inl rfl),EW _ _ _⟩
def D6n (c:Cd) (x:Cx) (R:List Blk) (args:List AV) (H:List Blk) (cnt:Nat) (a:AV) (H':List Blk) (cnt':Nat):Prop:=
 ∀ (ev:Ev) (s:Rs) (ef:List Ef) (w e:Nat) (b2:Blk),args=[.pt 0 w 0 0,CV ev]→H=YJ c x s ef w e (.vw true []) b2 R→a=.tu []∧∃ e' p',H'=Ek c x (EM c x ev ⟨s,ef,[]⟩) w e' p' R
noncomputable def f6n (c:Cd) (x:Cx) (R:List Blk):=hF Tryz.prog 106 (D6n c x R)
theorem Bgz (c:Cd) (x:Cx) (R:List Blk):M8 Tryz.prog 106 (f6n c x R):=JC _ _ _
theorem e6n {c:Cd} {x:Cx} {ev:Ev} {s:Rs} {ef:List Ef} (hm:ev.mo < c.pri.length) (h:RuI c x ⟨s,ef,[]⟩) (he:ef.length≤900000) (w e:Nat) (b2:Blk) {R:List Blk} (hR:Xo R) (cnt:Nat):
  ∃ e' p' cnt',f6n c x R [.pt 0 w 0 0,CV ev] (YJ c x s ef w e (.vw true []) b2 R) cnt=some (.tu [],Ek c x (EM c x ev ⟨s,ef,[]⟩) w e' p' R,cnt'):=by
 obtain ⟨e',p',cnt',h1⟩:=Ae4 c x ev s ef hm h he w e b2 R hR cnt
 obtain ⟨a,H',c',g1,g2⟩:=JD (D:=D6n c x R) h1 (by
  intro ev' s' ef' w2 e2 b2' a1 a2
  simp only [lx96,Az,Du] at a1
  obtain ⟨_,a3⟩:=a1
  obtain rfl:=KI a3
  obtain ⟨rfl,rfl,rfl,rfl,_⟩:=Ano a2
  exact ⟨rfl,e',p',rfl⟩)
 obtain ⟨rfl,e3,p3,rfl⟩:=g2 ev s ef w e b2 rfl rfl
 exact ⟨e3,p3,c',g1⟩
end Go.Proofs.YtdjpkhjaibdogaaGreat
namespace Go.Proofs.YtdjpkhjaibdogaaGreat
open Go Go.SX
structure Mor (c:Cd) (x:Cx) (φ:Ru→Ru):Prop where
 act:∀ r,(φ r).s.act=r.s.act
 exe:∀ r pc,Gk c (C2 (φ r).s x) pc=Gk c (C2 r.s x) pc
 app:∀ m f r,CH x m f (φ r)=φ (CH x m f r)
 fau:∀ r,Nv (φ r)=φ (Nv r)
 add:∀ l r,Ub l (φ r)=φ (Ub l r)
 var:∀ l r,LI l (φ r)=φ (LI l r)
theorem Mor.appL {c:Cd} {x:Cx} {φ:Ru→Ru} (h:Mor c x φ) (m:Int):∀ (l:List Ef) (r:Ru),appL x m l (φ r)=φ (appL x m l r)
 | [],_=>rfl
 | f::l,r=>by
  have e:∀ r,Go.Proofs.YtdjpkhjaibdogaaGreat.appL x m (f::l) r=Go.Proofs.YtdjpkhjaibdogaaGreat.appL x m l (CH x m f r):=fun _=>rfl
  rw [e,e,h.app,h.appL m l]
theorem Mor.one {c:Cd} {x:Cx} {φ:Ru→Ru} (h:Mor c x φ) (m:Int) (ev:Ev) (r:Ru):C0 c x m ev (φ r)=(φ (C0 c x m ev r).1,(C0 c x m ev r).2):=by
 rw [C0,C0]
 cases hn:Ea c m ev.tr ev.ix with
 | none=>rfl
 | some en=>
  simp only [h.exe]
  cases hy:Gk c (C2 r.s x) en.pc with
  | none=>simp only [LJ,h.fau]
  | some y=>simp only [LJ,h.var,h.appL,h.add]
theorem Mor.st {c:Cd} {x:Cx} {φ:Ru→Ru} (h:Mor c x φ) (ev:Ev) (a0:Int) (r:Ru) (m:Nat):MJ c x ev a0 (φ r) m=(φ (MJ c x ev a0 r m).1,(MJ c x ev a0 r m).2):=by
 unfold MJ
 rw [h.act]
 by_cases hz:BV a0 m=true∧BV r.s.act m=true
 ·rw [if_pos hz,if_pos hz]; exact h.one m ev r
 ·rw [if_neg hz,if_neg hz]
theorem Mor.han {c:Cd} {x:Cx} {φ:Ru→Ru} (h:Mor c x φ) (ev:Ev) (a0:Int):∀ (l:List Nat) (r:Ru),MK c x ev a0 l (φ r)=φ (MK c x ev a0 l r)
 | [],_=>rfl
 | m::l,r=>by
  rw [MK,MK,h.st]
  by_cases hz:(MJ c x ev a0 r m).2=true
  ·simp only [if_pos hz]
  ·simp only [if_neg hz]; exact h.han ev a0 l _
theorem Mor.hand {c:Cd} {x:Cx} {φ:Ru→Ru} (h:Mor c x φ) (ev:Ev) (r:Ru):EM c x ev (φ r)=φ (EM c x ev r):=by
 unfold EM
 by_cases h0:0≤ev.mo
 ·rw [if_pos h0,if_pos h0,h.one]
 ·rw [if_neg h0,if_neg h0,h.act,h.han]
theorem Anp {x:Cx} {φ:Ru→Ru} (h1:∀ r,(φ r).s.act=r.s.act)
  (left:∀ r (g:List Int→List Int),{ φ r with s:={ (φ r).s with zl:=false,left:=g (φ r).s.left } }=φ { r with s:={ r.s with zl:=false,left:=g r.s.left } })
  (on:∀ r a e,{ φ r with s:={ (φ r).s with act:=a },po:=(φ r).po++[e] }=φ { r with s:={ r.s with act:=a },po:=r.po++[e] })
  (off:∀ r a (g:List Lo→List Lo) e,{ φ r with s:={ (φ r).s with act:=a,zm:=false,lamps:=g (φ r).s.lamps },po:=(φ r).po++[e] }=φ { r with s:={ r.s with act:=a,zm:=false,lamps:=g r.s.lamps },po:=r.po++[e] })
  (post:∀ r e,{ φ r with po:=(φ r).po++[e] }=φ { r with po:=r.po++[e] })
  (lamp:∀ r (g:List Lo→List Lo),{ φ r with s:={ (φ r).s with zm:=false,lamps:=g (φ r).s.lamps } }=φ { r with s:={ r.s with zm:=false,lamps:=g r.s.lamps } }):
  ∀ m f r,CH x m f (φ r)=φ (CH x m f r):=by
 intro m f r
 have hl:∀ a se,El (φ r) m a se=φ (El r m a se):=fun a se=>by
  unfold El
  rw [h1]
  by_cases hz:BV r.s.act m=true
  ·rw [if_pos hz,if_pos hz]; exact lamp r (fun l=>Xn l ⟨m,a,se⟩)
  ·rw [if_neg hz,if_neg hz]
 unfold CH
 by_cases k21:f.k=21
 ·rw [if_pos k21,if_pos k21]; exact left r (fun l=>l.set f.a.toNat (CU f.b 0 2147483647))
 rw [if_neg k21,if_neg k21]
 by_cases k22:f.k=22
 ·rw [if_pos k22,if_pos k22]; exact left r (fun l=>l.set f.a.toNat (CU 0 0 2147483647))
 rw [if_neg k22,if_neg k22]
 by_cases k23:f.k=23
 ·rw [if_pos k23,if_pos k23,h1]
  by_cases hz:BV r.s.act f.a=true
  ·rw [if_pos hz,if_pos hz]
  ·rw [if_neg hz,if_neg hz]; exact on r _ _
 rw [if_neg k23,if_neg k23]
 by_cases k24:f.k=24
 ·rw [if_pos k24,if_pos k24,h1]
  by_cases hz:BV r.s.act f.a=true
  ·rw [if_pos hz,if_pos hz]; exact off r _ (fun l=>Ej l f.a) _
  ·rw [if_neg hz,if_neg hz]
 rw [if_neg k24,if_neg k24]
 by_cases k25:f.k=25
 ·rw [if_pos k25,if_pos k25]; exact post r _
 rw [if_neg k25,if_neg k25]
 by_cases k19:f.k=19
 ·rw [if_pos k19,if_pos k19]; exact hl _ _
 rw [if_neg k19,if_neg k19]
 by_cases k20:f.k=20
 ·rw [if_pos k20,if_pos k20]; exact hl _ _
 rw [if_neg k20,if_neg k20]
def Q2 (r:Ru):Ru:={ r with s:={ r.s with zv:=false,zl:=false,zm:=false } }
theorem Ae5 (c:Cd) (v v':Vn) (h1:v.left=v'.left) (h2:v.clo=v'.clo) (h3:v.act=v'.act) (h4:v.pl'=v'.pl') (h5:v.ba=v'.ba) (y:In) (m:Ms):Au c v y m=Au c v' y m:=by
 unfold Au opS
 rw [h1,h2,h3,h4,h5]
theorem Xs (c:Cd) (v v':Vn) (h1:v.left=v'.left) (h2:v.clo=v'.clo) (h3:v.act=v'.act) (h4:v.pl'=v'.pl') (h5:v.ba=v'.ba):∀ n m,CX c v n m=CX c v' n m
 | 0,_=>rfl
 | n+1,m=>by
  rw [CX,CX,Ae5 c v v' h1 h2 h3 h4 h5,Xs c v v' h1 h2 h3 h4 h5 n]
theorem Ajk (c:Cd) (v v':Vn) (h0:v.vars=v'.vars) (h1:v.left=v'.left) (h2:v.clo=v'.clo) (h3:v.act=v'.act) (h4:v.pl'=v'.pl') (h5:v.ba=v'.ba) (pc:Int):Gk c v pc=Gk c v' pc:=by
 have e:Jo v pc=Jo v' pc:=by rw [Jo,Jo,h0]
 unfold Gk
 rw [Xs c v v' h1 h2 h3 h4 h5,e]
theorem Js (c:Cd) (x:Cx):Mor c x (fun r=>Q2 r) where
 act _:=rfl
 exe r pc:=Ajk c (C2 (Q2 r).s x) (C2 r.s x) rfl rfl rfl rfl rfl rfl pc
 app:=Anp (fun _=>rfl) (fun _ _=>rfl) (fun _ _ _=>rfl) (fun _ _ _ _=>rfl) (fun _ _=>rfl) (fun _ _=>rfl)
 fau _:=rfl
 add _ _:=rfl
 var _ _:=rfl
theorem MN {a b:Lo}:Iq a b < 0↔Eo a b:=Abg a b
theorem Abx:∀ {l:List Lo},(∀ i,i+1 < l.length→Eo (l.getD i default) (l.getD (i+1) default))→HP l
 | [],_=>List.Pairwise.nil
 | [x],_=>List.pairwise_singleton _ _
 | x::y::l,h=>by
  have h1:Eo x y:=h 0 (by simp)
  have h2:HP (y::l):=Abx fun i hi=>h (i+1) (by simpa using hi)
  refine lx126.2 ⟨fun z hz=>?_,h2⟩
  rcases lx59.1 hz with rfl | hz
  ·exact h1
  ·exact Jr h1 ((lx126.1 h2).1 z hz)
theorem Auu {l:List Lo} (h:HP l) {i:Nat} (hi:i+1 < l.length):Eo (l.getD i default) (l.getD (i+1) default):=by
 rw [lx80,lx80,lx51 (by omega),lx51 hi]
 exact lx122.1 h i (i+1) (by omega) hi (by omega)
theorem Ajl {l:List Int} {lo:Int} (h:l.any (De lo)=false):∀ y ∈ l,lo≤y∧y≤2147483647:=fun y hy=>by
 have:=lx97.1 h y hy
 simp only [De,Iu,AR,not_or] at this
 omega
theorem Uf {c:Cd} {s:Rs} {x:Cx} (hf:Fit c) (h:Bo c s=true) (hx:HM x=true):RuI c x ⟨s,[],[]⟩:=by
 simp only [Bo,AT,JK,AR] at h
 obtain ⟨⟨h1,h2⟩,h3⟩:=h
 have hv:=Fe h1
 have hl:=B9 hv
 simp only [GH,C2,AT,lx85,JK] at h1
 obtain ⟨⟨⟨⟨⟨⟨⟨_,e2⟩,e3⟩,e4⟩,e5⟩,e6⟩,_⟩,_⟩:=h1
 simp only [HM,AT,AR] at hx
 have hlo:∀ i,i < s.lamps.length→Ig c s i=false:=fun i hi=>by
  rw [JP]
  intro hc
  rw [IN.2 ⟨i,hi,hc⟩] at h3; cases h3
 refine ⟨hv,hf,⟨⟨by omega,by omega⟩,⟨by omega,by omega⟩,by omega,by omega⟩,by exact_mod_cast e2,fun y hy=>?_,e3,fun y hy=>?_,?_,h2,fun o ho=>?_,Abx fun i hi=>?_⟩
 ·exact Ajl e4 y hy
 ·exact Ajl e5 y hy
 ·exact Aje (by omega) e6
 ·obtain ⟨i,hi,rfl⟩:=lx69 ho
  have:=hlo i hi
  simp only [Ig,JL] at this
  have h4:=this.1
  rw [lx80,lx51 hi,lx10] at h4
  simp only [loX,JL,Bz,KT] at h4
  obtain ⟨⟨⟨⟨⟨k1,k2⟩,k3⟩,k4⟩,k5⟩,k6⟩:=h4
  exact ⟨⟨Int.not_lt.1 k1,Int.not_le.1 k2⟩,k3,⟨Int.not_lt.1 k4,Int.not_le.1 k5⟩,k6⟩
 ·have:=hlo (i+1) hi
  simp only [Ig,loY,JL,YX,Bz] at this
  rcases this.2 with h4 | h4
  ·omega
  ·exact MN.1 (Int.not_le.1 (by rw [Nat.add_sub_cancel] at h4; exact h4))
theorem Ae6 {c:Cd} {x:Cx} {r:Ru} (h:RuI c x r):Bo c r.s=true:=by
 have h1:=h.env
 have h2:GH c (C2 r.s cx0)=true:=by
  simp only [GH,C2,AT,lx85,JK] at h1 ⊢
  obtain ⟨⟨⟨⟨⟨⟨⟨e1,e2⟩,e3⟩,e4⟩,e5⟩,e6⟩,_⟩,_⟩:=h1
  exact ⟨⟨⟨⟨⟨⟨⟨e1,e2⟩,e3⟩,e4⟩,e5⟩,e6⟩,by decide⟩,by decide⟩
 have h3:=h.fa
 rw [LD,h2]
 ·simp [h3.1,h3.2]
 ·intro i hi
  have hg:r.s.lamps.getD i default=r.s.lamps[i]:=by rw [lx80,lx51 hi]; rfl
  obtain ⟨⟨k1,k2⟩,k3,⟨k4,k5⟩,k6⟩:=h.lo _ (lx90 hi)
  have e1:loX c r.s (r.s.lamps.getD i default)=false:=by
   rw [hg]
   simp only [loX,JL,Bz,KT]
   exact ⟨⟨⟨⟨⟨Int.not_lt.2 k1,Int.not_le.2 k2⟩,k3⟩,Int.not_lt.2 k4⟩,Int.not_le.2 k5⟩,k6⟩
  have e2:loY r.s i=false:=by
   cases i with
   | zero=>simp [loY]
   | succ i=>
    have:=MN.2 (Auu h.so hi)
    simp only [loY,YX,Bz,Nat.add_sub_cancel]
    exact .inr (Int.not_le.2 this)
  rw [Ig,e1,e2]; rfl
end Go.Proofs.YtdjpkhjaibdogaaGreat
namespace Go.Proofs.YtdjpkhjaibdogaaGreat
open Go Go.SX
attribute [local congr] ite_congr
def Q3:Rs:=⟨true,[],true,[],0,true,[],0⟩
noncomputable def GZ (c:Cd) (s:Rs) (ev:Ev) (x:Cx):Ru × Int:=
 if Bo c s=false then (⟨Q3,[],[]⟩,1) else if HM x=false then (⟨Q3,[],[]⟩,5) else if Yq c ev=false then (⟨Q3,[],[]⟩,55) else (EM c x ev ⟨s,[],[]⟩,0)
def Jt (p:Ru × Int):AV:=.tu [.ag [.vw false (p.1.s.vars.map (kA .i64)),.vw false (p.1.s.left.map (kA .i64)),.sc (.int .u32 p.1.s.act),.vw false (p.1.s.lamps.map Bg),kA .i64 p.1.s.fau],.vw false (p.1.ef.map C6),.vw false (p.1.po.map CV),kA .i64 p.2]
theorem Ju (p:Ru × Int):(Jt p).noref=true:=by simp [Jt,kA,AV.noref,norefs]
theorem YK (c:Cd) (hf:Fit c) (s:Rs) (ev:Ev) (x:Cx) (h:¬ (Bo c s=true∧HM x=true∧Yq c ev=true)):C1 Tryz.prog 72 [Bv c,Fv s,CV ev,JB x] (Jt (GZ c s ev x)):=by
 have x1:=e40 c s hf
 have x2:=e60 x
 have x3:=e67 c hf ev
 obtain ⟨zv,vars,zl,left,act,zm,lamps,fau⟩:=s
 obtain ⟨tr,ix,mo⟩:=ev
 obtain ⟨ti,clo,pl',ba⟩:=x
 simp only [Aa,Aq,Bl,AN] at x1 x2 x3
 refine BO (Aj (lit:=false) (pm:=fun _=>none) (.cons Au9 (.cons Bbf (.cons Bbg .nil))) .nil .nil .nil) rfl Tryz.func72 rfl (by decide) (by kernel_rfl) (Ju _) ?_
 simp only [Tryz.f72,Af,lx53,lx63,Nat.reduceAdd,Nat.reduceSub,List.replicate]
 refine Ab ?_
 cases h1:Bo c ⟨zv,vars,zl,left,act,zm,lamps,fau⟩ with
 | false=>
  rw [h1] at x1
  have e:GZ c ⟨zv,vars,zl,left,act,zm,lamps,fau⟩ ⟨tr,ix,mo⟩ ⟨ti,clo,pl',ba⟩=(⟨Q3,[],[]⟩,1):=by rw [GZ,if_pos h1]
  rw [e]
  simp (maxSteps:=10000000) +contextual -implicitDefEqProofs only [AX,AW,St.put,Ao,Al,DN,pl,↓reduceIte,Nat.reduceAdd,Int.reduceLT,Nat.reduceLT,Dd,Int.reduceAdd,CO,AA,AN,Aq,Aa,Bl,x1,Jt,Q3]
  all_goals done
 | true=>
 rw [h1] at x1
 cases h2:HM ⟨ti,clo,pl',ba⟩ with
 | false=>
  rw [h2] at x2
  have e:GZ c ⟨zv,vars,zl,left,act,zm,lamps,fau⟩ ⟨tr,ix,mo⟩ ⟨ti,clo,pl',ba⟩=(⟨Q3,[],[]⟩,5):=by rw [GZ,if_neg (by rw [h1]; simp),if_pos h2]
  rw [e]
  simp (maxSteps:=10000000) +contextual -implicitDefEqProofs only [AX,AW,St.put,Ao,Al,DN,pl,↓reduceIte,Nat.reduceAdd,Nat.reduceEqDiff,Int.reduceLT,Nat.reduceLT,Dd,Int.reduceAdd,CO,AA,AN,Aq,Aa,Bl,x1,x2,Jt,Q3]
  all_goals done
 | true=>
 rw [h2] at x2
 cases h3:Yq c ⟨tr,ix,mo⟩ with
 | false=>
  rw [h3] at x3
  have e:GZ c ⟨zv,vars,zl,left,act,zm,lamps,fau⟩ ⟨tr,ix,mo⟩ ⟨ti,clo,pl',ba⟩=(⟨Q3,[],[]⟩,55):=by rw [GZ,if_neg (by rw [h1]; simp),if_neg (by rw [h2]; simp),if_pos h3]
  rw [e]
  simp (maxSteps:=10000000) +contextual -implicitDefEqProofs only [AX,AW,St.put,Ao,Al,DN,pl,↓reduceIte,Nat.reduceAdd,Nat.reduceEqDiff,Int.reduceLT,Nat.reduceLT,Dd,Int.reduceAdd,CO,AA,AN,Aq,Aa,Bl,x1,x2,x3,Jt,Q3]
  all_goals done
 | true=>exact absurd ⟨h1,h2,h3⟩ h
theorem YL (c:Cd) (hf:Fit c) (s:Rs) (ev:Ev) (x:Cx) (h1:Bo c s=true) (h2:HM x=true) (h3:Yq c ev=true):C1 Tryz.prog 72 [Bv c,Fv s,CV ev,JB x] (Jt (GZ c s ev x)):=by
 have e:GZ c s ev x=(EM c x ev ⟨s,[],[]⟩,0):=by rw [GZ,if_neg (by rw [h1]; simp),if_neg (by rw [h2]; simp),if_neg (by rw [h3]; simp)]
 rw [e]
 have x1:=e40 c s hf
 have x2:=e60 x
 have x3:=e67 c hf ev
 rw [h1] at x1
 rw [h2] at x2
 rw [h3] at x3
 have hru:=Uf hf h1 h2
 have hm:ev.mo < c.pri.length:=by
  exact Aes
 obtain ⟨R,hR⟩:∃ R:List Blk,[⟨true,3,27,4,[JB x],false⟩,⟨true,4,41,5,[Fv Q3],false⟩,⟨true,0,36,7,[Bv c],false⟩]=R:=⟨_,rfl⟩
 have nR:Xo R:=fun b hb=>by
  exact Axf
 obtain ⟨e',p',c',x4⟩:=e6n hm hru (by simp) 5 6 ⟨true,2,46,3,[CV ev],false⟩ nR 7
 refine BO (Aj (lit:=false) (pm:=fun _=>none) (.cons Au9 (.cons Bbf (.cons Bbg .nil))) .nil .nil (.cons (Bgz c x R) .nil)) rfl Tryz.func72 rfl (by decide) (by kernel_rfl) (Ju _) ?_
 simp only [Tryz.f72,Af,lx53,lx63,Nat.reduceAdd,Nat.reduceSub,List.replicate]
 generalize hrr:EM c x ev ⟨s,[],[]⟩=rr at x4
 obtain ⟨zv,vars,zl,left,act,zm,lamps,fau⟩:=s
 obtain ⟨tr,ix,mo⟩:=ev
 obtain ⟨ti,clo,pl',ba⟩:=x
 obtain ⟨⟨zv',vars',zl',left',act',zm',lamps',fau'⟩,ef',po'⟩:=rr
 simp only [Aa,Aq,Bl,AN,Q3,lx47] at x1 x2 x3 x4 hR
 refine Hj ?s1 ?a1 ?b1
 case a1=>
  refine gF0 ?_
  rfl
 refine .seq (.block (Hj ?s2 ?a2 ?b2))
 case a2=>
  refine It x1 ?_
  rfl
 refine Asm ?_
 refine Hj ?s3 ?a3 ?b3
 case a3=>
  refine It x2 ?_
  rfl
 refine Asm ?_
 refine Hj ?s4 ?a4 ?b4
 case a4=>
  refine It x3 ?_
  rfl
 refine Asm ?_
 refine .skip (.inBlock (Hj ?s5 ?a5 ?b5))
 case a5=>
  refine gF0 ?_
  rfl
 refine Av (T':=Bm 0 50 [(6,.pt 2 2 0 0),(8,.pt 4 4 0 0),(12,.pt 5 5 0 0)]) ?_ (AM _) (Aw _) ?_
 ·exact Ake
 refine J7 0 5 (BT _) (BT _) (by simp) (by simp) ?_ ?_
 ·simp only [Mp,P8,P9,Qa,Qb,Qc,Qd,Qe,Qf,Qg,Qh,Mq,J8,Qi,Mr,J9,Mt,Nat.reduceEqDiff,↓reduceIte,lx117,lx11,lx124,lx125,Nb,Lv,J6,Mn,Ty,Gt,Gs,Aa9,Aaa]
 refine qd8 ?_
 refine Qo (T':=Bm 0 50 [(6,.pt 2 2 0 0),(8,.pt 4 4 0 0),(12,.pt 0 5 0 0)]) (H':=(YJ c ⟨ti,clo,pl',ba⟩ ⟨zv,vars,zl,left,act,zm,lamps,fau⟩ [] 5 6 (.vw true []) ⟨true,2,46,3,[CV ⟨tr,ix,mo⟩],false⟩ R).set 1 dead) 1 6 73 5 7 (by simp [YJ]) (Aw _) (Iv _) ?_ ?_ ?_
 ·simp only [Bm,D2,Nat.reduceAdd,Nat.reduceEqDiff,lx6,lx7,↓reduceIte,B4]
  exact BP _ _ _
 ·subst hR
  refine ⟨Fp _ _ _ _ _ _ _ _ _ _ ⟨Gf ⟨.refl _,.refl _,.refl _,.refl _,.refl _,.refl _,.refl _,.refl _,.refl _,.refl _,.refl _,.refl _,.refl _,.refl _,.refl _,.refl _,.nil,.refl _,trivial⟩,trivial⟩,.inr (.inl rfl),.inl rfl,EW _ _ _⟩
 subst hR
 have tef:(ef'.map C6).take ef'.length=ef'.map C6:=lx118 (by simp)
 have tpo:(po'.map CV).take po'.length=po'.map CV:=lx118 (by simp)
 simp only [YJ,Ek,QZ,Bl,AN,lx11,lx117,lx47,lx63] at x4 ⊢
 refine Ab ?_
 refine BJ ?_
 simp (maxSteps:=10000000) +contextual -implicitDefEqProofs only [AX,AW,St.put,Ao,Al,DN,↓reduceIte,reduceCtorEq,Nat.reduceAdd,Nat.reduceLeDiff,Nat.reduceEqDiff,Int.reduceLT,Nat.reduceLT,Dd,Int.reduceAdd,CO,E5,hl,AA,x4,Jt,tef,tpo]
 all_goals done
theorem Ug (c:Cd) (hf:Fit c) (s:Rs) (ev:Ev) (x:Cx):C1 Tryz.prog 72 [Bv c,Fv s,CV ev,JB x] (Jt (GZ c s ev x)):=by
 by_cases h:Bo c s=true∧HM x=true∧Yq c ev=true
 ·exact YL c hf s ev x h.1 h.2.1 h.2.2
 ·exact YK c hf s ev x h
def hnQ (p:Cd × Rs × Ev × Cx):Prop:=Fit p.1
noncomputable def f72:=Er hnQ (fun p=>[Bv p.1,Fv p.2.1,CV p.2.2.1,JB p.2.2.2]) (fun p=>Jt (GZ p.1 p.2.1 p.2.2.1 p.2.2.2))
theorem e72 (c:Cd) (h:Fit c) (s:Rs) (ev:Ev) (x:Cx):f72 [Bv c,Fv s,CV ev,JB x]=some (Jt (GZ c s ev x)):=
 (AJ (q:=hnQ) (enc:=fun p=>[Bv p.1,Fv p.2.1,CV p.2.2.1,JB p.2.2.2]) (out:=fun p=>Jt (GZ p.1 p.2.1 p.2.2.1 p.2.2.2)) (c,s,ev,x) h (by
  rintro ⟨a,b,d,e⟩ h
  simp only [lx96,Az] at h
  rw [CS h.1,Jk h.2.1,KI h.2.2.1,OK h.2.2.2]) :)
theorem Bh0:VOk Tryz.prog 72 f72:=Lr <| by
 rintro ⟨c,s,ev,x⟩ h
 exact Ug c h s ev x
end Go.Proofs.YtdjpkhjaibdogaaGreat
namespace Go.Proofs.YtdjpkhjaibdogaaGreat
open Go Go.SX
theorem RuI.nf {c:Cd} {x:Cx} {r r':Ru} (h:RuI c x r) (e:Q2 r=Q2 r'):RuI c x r':=by
 obtain ⟨⟨zv,vars,zl,left,act,zm,lamps,fau⟩,ef,po⟩:=r
 obtain ⟨⟨zv',vars',zl',left',act',zm',lamps',fau'⟩,ef',po'⟩:=r'
 simp only [Q2,Ru.mk.injEq,Rs.mk.injEq,Du] at e
 obtain ⟨⟨rfl,rfl,rfl,rfl,rfl⟩,rfl,rfl⟩:=e
 exact ⟨h.val,h.fit,h.cx,h.vl,h.va,h.ll,h.lf,h.ac,h.fa,h.lo,h.so⟩
end Go.Proofs.YtdjpkhjaibdogaaGreat
namespace Go.Proofs.YtdjpkhjaibdogaaGreat
open Go Go.SX
attribute [local congr] ite_congr
def Bh1 (s:Rs) (i n:Int):Rs:={ s with zl:=false,left:=s.left.set i.toNat (CU n 0 2147483647) }
def D68 (c:Cd) (x:Cx) (args:List AV) (H:List Blk) (cnt:Nat) (a:AV) (H':List Blk) (cnt':Nat):Prop:=
 ∀ (s:Rs) (w e p:Nat) (R:List Blk) (i n:Int),args=[.pt 0 w 0 0,.sc (.int .i64 i),.sc (.int .i64 n)]→H=YJ c x s [] w e (.sl 2 p 0 0) ⟨true,p,46,3,[],false⟩ R→
  a=.tu []∧H'=YJ c x (Bh1 s i n) [] w e (.sl 2 p 0 0) ⟨true,p,46,3,[],false⟩ R∧cnt'=cnt+1
noncomputable def f68 (c:Cd) (x:Cx):=hF Tryz.prog 68 (D68 c x)
end Go.Proofs.YtdjpkhjaibdogaaGreat
