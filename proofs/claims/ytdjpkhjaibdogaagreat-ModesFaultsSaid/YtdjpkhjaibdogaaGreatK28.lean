/-
  Lemmas towards ModesFaults (joined texts: DT, EA).
  Conditions: none.
-/
import Derived.Test.YtdjpkhjaibdogaaGreatK01
import Derived.Test.YtdjpkhjaibdogaaGreatK02
import Derived.Test.YtdjpkhjaibdogaaGreatK27
set_option linter.unusedSimpArgs false
set_option linter.unusedVariables false
set_option maxRecDepth 100000
set_option maxHeartbeats 8000000
namespace Go.Proofs.YtdjpkhjaibdogaaGreat
open Go Go.SX
attribute [local congr] ite_congr
theorem F6 {n k:Nat} (h:k < n):(List.range n).getD k default=k:=by
 rw [lx80,lx51 (by simpa using h)]; simp
theorem Beu {K:Nat→Int} {u w:List Nat} {n:Nat} (hu:u.length=n) (hw:w.length=n) (su:Srt K u 0 n) (sw:Srt K w 0 n) (bu:Stb K u) (bw:Stb K w)
  (uw:∀ i,i < n→∃ j,j < n∧u.getD i default=w.getD j default) (wu:∀ i,i < n→∃ j,j < n∧w.getD i default=u.getD j default):u=w:=by
 have inj:∀ (v:List Nat),v.length=n→Stb K v→∀ a b,a < b→b < n→v.getD a default=v.getD b default→False:=fun v hv bv a b h1 h2 e=>by
  have:=bv a b h1 (by omega) (by rw [e])
  omega
 have main:∀ i,i < n→u.getD i default=w.getD i default:=by
  intro i
  induction i using Nat.strongRecOn with
  | ind i ih=>
   intro hi
   obtain ⟨k,hk,ek⟩:=uw i hi
   obtain ⟨l,hl',el⟩:=wu i hi
   have k1:¬ k < i:=fun h=>inj u hu bu k i h hi (by rw [ih k h hk,ek])
   have l1:¬ l < i:=fun h=>inj w hw bw l i h hi (by rw [←ih l h hl',el])
   by_cases hki:k=i
   ·rw [ek,hki]
   by_cases hli:l=i
   ·rw [el,hli]
   have s1:=su i l (BX _) (by omega) hl'
   have s2:=sw i k (BX _) (by omega) hk
   rw [←el] at s1
   rw [←ek] at s2
   have e:K (u.getD i default)=K (w.getD i default):=Ah
   have b1:=bu i l (by omega) (by omega) (by rw [e,el])
   have b2:=bw i k (by omega) (by omega) (by rw [←e,ek])
   omega
 refine List.ext_getElem (by omega) fun i h1 h2=>?_
 have:=main i (by omega)
 exact Ao2
def XM (K:Nat→Int) (n:Nat):Nat→List Nat
 | 0=>[]
 | q+1=>XM K n q++(List.range n).filter (fun i=>K i == 99 - (q:Int))
theorem N7 (K:Nat→Int) (n:Nat) (hK:∀ i,i < n→K i≤99):∀ q x,x ∈ XM K n q↔x < n∧99 - (q:Int) < K x
 | 0,x=>by
  simp only [XM,lx121,false_iff,not_and]
  intro hx; have:=hK x hx; omega
 | q+1,x=>by
  rw [XM,lx76,N7 K n hK q x,List.mem_filter,HG,lx85]
  constructor
  ·rintro (⟨h1,h2⟩ | ⟨h1,h2⟩)
   ·exact ⟨h1,by omega⟩
   ·exact ⟨h1,by omega⟩
  ·rintro ⟨h1,h2⟩
   by_cases h:K x=99 - (q:Int)
   ·exact .inr ⟨h1,h⟩
   ·exact .inl ⟨h1,by omega⟩
theorem Ahx (K:Nat→Int) (n:Nat) (hK:∀ i,i < n→K i≤99):∀ q,(XM K n q).Pairwise fun a b=>K b≤K a∧(K a=K b→a < b)
 | 0=>.nil
 | q+1=>by
  rw [XM]
  refine List.pairwise_append.2 ⟨Ahx K n hK q,?_,fun a ha b hb=>?_⟩
  ·have h1:(List.range n).Pairwise (fun a b=>a < b):=List.pairwise_lt_range
   have h2:((List.range n).filter (fun i=>K i == 99 - (q:Int))).Pairwise (fun a b=>a < b):=h1.filter _
   refine (lx122.2 fun i j hi hj hij=>?_)
   have g1:=lx122.1 h2 i j hi hj hij
   have g2:=(List.mem_filter.1 (lx90 hi)).2
   have g3:=(List.mem_filter.1 (lx90 hj)).2
   simp only [lx85] at g2 g3
   exact ⟨by omega,fun _=>g1⟩
  ·have h1:=(N7 K n hK q a).1 ha
   have h2:=(List.mem_filter.1 hb).2
   simp only [lx85] at h2
   exact ⟨by omega,fun h=>by omega⟩
theorem J2 {l:List Nat} {i:Nat} (h:i < l.length):l.getD i default=l[i]:=by
 rw [lx80,lx51 h]; rfl
theorem Wy (K:Nat→Int) (n:Nat) (hK:∀ i,i < n→0≤K i∧K i≤99):KL K (List.range n) 0 n=XM K n 100:=by
 have hst:Stb K (List.range n):=fun i j h1 h2 _=>by
  rw [List.length_range] at h2
  rw [F6 (by omega),F6 h2]; exact h1
 obtain ⟨g1,g2,g3⟩:=ZZ (a:=0) (b:=n) hst (by simp)
 have hp:=Ahx K n (fun i hi=>(hK i hi).2) 100
 have hm:∀ x,x ∈ XM K n 100↔x < n:=fun x=>by
  rw [N7 K n (fun i hi=>(hK i hi).2)]
  exact ⟨fun h=>h.1,fun h=>⟨h,by have:=hK x h; omega⟩⟩
 have hnd:(XM K n 100).Nodup:=hp.imp fun h e=>by
  subst e
  exact absurd (h.2 rfl) (Nat.lt_irrefl _)
 have hperm:(XM K n 100).Perm (List.range n):=(List.perm_ext_iff_of_nodup hnd List.nodup_range).2 fun a=>by rw [hm,HG]
 have hlen:(XM K n 100).length=n:=by rw [hperm.length_eq,List.length_range]
 have hidx:∀ x,x < n→∃ j,j < n∧(XM K n 100).getD j default=x:=fun x hx=>by
  obtain ⟨j,hj,e⟩:=lx69 ((hm x).2 hx)
  exact ⟨j,by omega,by rw [J2 hj,e]⟩
 refine Beu (by rw [g1.len,List.length_range]) hlen g2 ?_ g3 ?_ (fun i hi=>?_) (fun i hi=>?_)
 ·intro i j _ hij hj
  have:=lx122.1 hp i j (by omega) (by omega) hij
  rw [J2 (by omega),J2 (by omega)]; exact this.1
 ·intro i j hij hj
  have:=lx122.1 hp i j (by omega) hj hij
  rw [J2 (by omega),J2 hj]; exact this.2
 ·obtain ⟨j,_,hj,e⟩:=g1.frm i (BX _) hi
  rw [F6 hj] at e
  obtain ⟨m,h1,h2⟩:=hidx j hj
  exact ⟨m,h1,by rw [e,h2]⟩
 ·have h:(XM K n 100).getD i default < n:=by
   rw [J2 (by omega)]
   exact (hm _).1 (lx90 _)
  obtain ⟨j,_,hj,e⟩:=g1.to _ (BX _) h
  rw [F6 h] at e
  exact ⟨j,hj,e⟩
theorem Wz {C:Ctx} (h:CtxOk C) (t:List Nat) (cnt:Nat) (ht:TagQ C t) (hn:C.n < 20):
  HSpec Tryz.prog 154 [daV C,kA .i64 C.n,cmV C] [blC C,blD C t] cnt (.tu []) [blC C,blD C (KL C.K t 0 C.n)] cnt:=by
 have E:=Azr h t 0 C.n cnt ht (BX _) (Ax _)
 refine Ag (Am (lit:=false) (pm:=fun _=>none) .nil .nil .nil (.cons (Aso h) .nil)) rfl Tryz.func154 rfl (by decide) (by kernel_rfl) ?_
 simp only [Tryz.f154,Af,lx53,lx63,Nat.reduceAdd,Nat.reduceSub,List.replicate]
 obtain ⟨RES,hRES⟩:∃ u,KL C.K t 0 C.n=u:=⟨_,rfl⟩
 rw [hRES] at E ⊢
 obtain ⟨r,n,K,v,v0,ty0,es0,els0,fc⟩:=C
 simp only at hn
 simp only [blC,blD,daV,cmV,AB,Int.natCast_zero] at E ⊢
 have h1:decide ((20:Int)≤(n:Int))=false:=Ke
 have h2:decide ((20:Int) < (n:Int))=false:=Ke
 refine Aa ?_
 simp (maxSteps:=10000000) +contextual -implicitDefEqProofs only [Bk,Bg,St.put,Dq]
 refine Aw (σ:=Unit) (fun _ c=>⟨Cg 0 63 [(0,.sl 1 v 0 n),(1,.sc (.int .i64 n)),(2,.fn 111 [.pt 0 v0 0 0]),(6,.sc (.int .i64 20)),(7,.sc (.int .i64 0)),(8,.sc (.int .i64 20))],[⟨true,v0,ty0,es0,els0,false⟩,⟨true,v,3,1,t.map (XK r),false⟩],cnt⟩)
  (fun _=>True) (fun _=>0) () trivial ?_ ?_ rfl ?_
 ·exact IZ
 ·exact Yj
 rintro _ c - ih
 refine Aa ?_
 refine CL ?_
 simp (maxSteps:=10000000) +contextual -implicitDefEqProofs only [Bk,Bg,St.put,D8,↓reduceIte,Dq,Fe,hl,h1,E]
 refine Aw (σ:=Unit) (fun _ c=>⟨Cg 0 63 [(0,.sl 1 v 0 n),(1,.sc (.int .i64 n)),(2,.fn 111 [.pt 0 v0 0 0]),(6,.sc (.int .i64 20))],[⟨true,v0,ty0,es0,els0,false⟩,⟨true,v,3,1,RES.map (XK r),false⟩],cnt⟩)
  (fun _=>True) (fun _=>0) () trivial ?_ ?_ rfl ?_
 ·exact IZ
 ·exact Yj
 rintro _ c' - ih'
 refine Aa ?_
 refine CL ?_
 simp (maxSteps:=10000000) +contextual -implicitDefEqProofs only [Bk,Bg,St.put,↓reduceIte,Dq,h2]
 all_goals first | exact .refl _ | rfl | trivial | omega | skip
 all_goals done
theorem Acb {C:Ctx} (h:CtxOk C) (t:List Nat) (cnt:Nat) (ht:TagQ C t) (hn:C.n < 20):
  HSpec Tryz.prog 110 [daV C,cmV C] [blC C,blD C t] cnt (.tu []) [blC C,blD C (KL C.K t 0 C.n)] cnt:=by
 obtain ⟨F,k,E⟩:=D1 (Wz h t cnt ht hn)
 refine Ag (Am (lit:=false) (pm:=fun _=>none) .nil .nil .nil (.cons k .nil)) rfl Tryz.func110 rfl (by decide) (by kernel_rfl) ?_
 simp only [Tryz.f110,Af,lx53,lx63,Nat.reduceAdd,Nat.reduceSub,List.replicate]
 obtain ⟨RES,hRES⟩:∃ u,KL C.K t 0 C.n=u:=⟨_,rfl⟩
 rw [hRES] at E ⊢
 obtain ⟨r,n,K,v,v0,ty0,es0,els0,fc⟩:=C
 simp only [blC,blD,daV,cmV,AB] at E ⊢
 refine Aa ?_
 simp (maxSteps:=10000000) +contextual -implicitDefEqProofs only [Bk,Bg,St.put,D8,↓reduceIte,D5,Dq,Fe,hl,E]
 all_goals first | exact .refl _ | rfl | trivial | omega | skip
 all_goals done
def LS (c:Cd) (i:Nat):Int:=c.pri.getD i default
def IE (c:Cd):List Nat:=XM (LS c) c.pri.length 100
def nI (i:Nat):AV:=kA .i64 (i:Int)
theorem Aab (i:Nat):nI i=.sc (.int .i64 (i:Int)):=rfl
theorem Acd (l:List Nat):Cz (l.map nI)=true:=Ep (f:=nI) (fun _=>by simp [nI,kA,AV.fresh]) l
theorem Ace (l:List Nat):norefs (l.map nI)=true:=C8 (f:=nI) (fun _=>by simp [nI,kA,AV.noref]) l
theorem PW (l:List Nat):CY 1 (l.map nI)=true:=Dy (f:=nI) (fun _=>rfl) l
def sgQ (p:Nat × Nat × Cd):Prop:=Fit p.2.2∧p.1 < p.2.2.pri.length∧p.2.1 < p.2.2.pri.length
noncomputable def f111:=EP sgQ (fun p=>[nI p.1,nI p.2.1,.vp [B5 p.2.2] 0 0]) (fun p=>kA .i64 (Gl (LS p.2.2 p.2.1) (LS p.2.2 p.1)))
theorem Bev (c:Cd) (x y:Nat) (h:Fit c) (hx:x < c.pri.length) (hy:y < c.pri.length):f111 [nI x,nI y,.vp [B5 c] 0 0]=some (.sc (.int .i64 (Gl (LS c y) (LS c x)))):=
 (AG (q:=sgQ) (enc:=fun p=>[nI p.1,nI p.2.1,.vp [B5 p.2.2] 0 0]) (out:=fun p=>kA .i64 (Gl (LS p.2.2 p.2.1) (LS p.2.2 p.1))) (x,y,c) ⟨h,hx,hy⟩ (by
  rintro ⟨a,b,d⟩ h
  simp only [lx96,AV.vp.injEq,Ay,D3] at h
  rw [Tm h.1,Tm h.2.1,CV h.2.2]) :)
theorem Azs:Eb Tryz.prog 111 f111:=AQ <| by
 rintro ⟨x,y,c⟩ ⟨hq,hx,hy⟩
 simp only at hq hx hy ⊢
 have h1:decide ((x:Int) < (c.pri.length:Int))=true:=Aj
 have h2:decide ((y:Int) < (c.pri.length:Int))=true:=Aj
 have h3:decide (x < c.pri.length)=true:=Aj
 have h4:decide (y < c.pri.length)=true:=Aj
 have hkx:c.pri.getD x default=LS c x:=rfl
 have hky:c.pri.getD y default=LS c y:=rfl
 refine Ab (Aq ((.cons Aq3 .nil)) (.nil)) rfl Tryz.func111 rfl (by decide) (by kernel_rfl) (by kernel_rfl) ?_
 simp only [Tryz.f111,Af,lx53,lx63,Nat.reduceAdd,Nat.reduceSub,List.replicate]
 refine Aa ?_
 exact Mc (a8 h1 h2 h3 h4 hkx hky @Aab @Az6)
 repeat' (first | exact Ae (by kernel_rfl) | refine ⟨Ae (by kernel_rfl),?_⟩ | refine And.intro ?_ ?_ | fail)
 all_goals done
noncomputable def Ahy (c:Cd) (v:Nat):Ctx:=⟨fun i=>(i:Int),c.pri.length,LS c,v,0,36,7,[B5 c],f111⟩
theorem Ama {c:Cd} (h:Fit c) (v:Nat):CtxOk (Ahy c v) where
 hc:=Azs
 he x y hx hy:=Bev c x y h hx hy
 inj x y _ _ h:=by
  simp only [XK,Ahy,AV.sc.injEq,Value.int.injEq,D3] at h
  omega
 n:=Og h.pri (by decide)
theorem Tn {c:Cd} (h:Be c=0) {i:Nat} (hi:i < c.pri.length):0≤LS c i∧LS c i≤99:=by
 have:=(H6 h).2.1
 rw [IT,J6,J7] at this
 have h1:=this.1
 simp only [Wo,J7] at h1
 have h2:=lx97.1 h1.1.1.2 _ (CM hi)
 simp only [prB,GY,Hj] at h2
 exact Du.1 h2
theorem Amb {K:Nat→Int} {n:Nat} (hK:∀ i,i < n→0≤K i∧K i≤99):(XM K n 100).length=n:=by
 have hst:Stb K (List.range n):=fun i j h1 h2 _=>by
  rw [List.length_range] at h2
  rw [F6 (by omega),F6 h2]; exact h1
 have g1:=(ZZ (a:=0) (b:=n) hst (by simp)).1.len
 rw [Wy K n hK,List.length_range] at g1
 exact g1
theorem PX {c:Cd} (h:Be c=0):(IE c).length=c.pri.length:=Amb fun i hi=>Tn h hi
theorem Ts {c:Cd} (h:Be c=0) {x:Nat} (hx:x ∈ IE c):x < c.pri.length:=((N7 (LS c) c.pri.length (fun i hi=>(Tn h hi).2) 100 x).1 hx).1
theorem WA (c:Cd) (hq:Fit c) (h:Be c=0):IQ Tryz.prog 71 [B5 c] (.vw false ((IE c).map nI)):=by
 have hlm:=Cw h
 have hR:KL (LS c) (List.range c.pri.length) 0 c.pri.length=IE c:=Wy _ _ fun i hi=>Tn h hi
 have hln:=PX h
 obtain ⟨F,k110,E⟩:∃ F,Ql Tryz.prog 110 F∧∀ v cnt,F [.sl 1 v 0 c.pri.length,.fn 111 [.pt 0 0 0 0]] [⟨true,0,36,7,[B5 c],false⟩,⟨true,v,3,1,(List.range c.pri.length).map nI,false⟩] cnt=some (.tu [],[⟨true,0,36,7,[B5 c],false⟩,⟨true,v,3,1,(IE c).map nI,false⟩],cnt):=by
  refine ⟨mkH (fun _:Nat × Nat=>True) (fun p=>([.sl 1 p.1 0 c.pri.length,.fn 111 [.pt 0 0 0 0]],[⟨true,0,36,7,[B5 c],false⟩,⟨true,p.1,3,1,(List.range c.pri.length).map nI,false⟩],p.2)) (fun p=>(.tu [],[⟨true,0,36,7,[B5 c],false⟩,⟨true,p.1,3,1,(IE c).map nI,false⟩],p.2)),It ?_,fun v cnt=>?_⟩
  ·rintro ⟨v,cnt⟩ -
   have:=Acb (Ama hq v) (List.range c.pri.length) cnt ⟨by simp [Ahy],fun i hi=>by
    have hi:i < c.pri.length:=hi
    rw [F6 hi]; exact hi⟩ (by simp only [Ahy]; omega)
   simp only [Ahy,daV,cmV,blC,blD,hR] at this
   exact this
  ·exact Ir (q:=fun _:Nat × Nat=>True) (enc:=fun p=>([.sl 1 p.1 0 c.pri.length,.fn 111 [.pt 0 0 0 0]],[⟨true,0,36,7,[B5 c],false⟩,⟨true,p.1,3,1,(List.range c.pri.length).map nI,false⟩],p.2)) (out:=fun p=>(.tu [],[⟨true,0,36,7,[B5 c],false⟩,⟨true,p.1,3,1,(IE c).map nI,false⟩],p.2)) (v,cnt) trivial (by
    rintro ⟨v',cnt'⟩ - h
    simp only [lx40,lx96,AV.sl.injEq,Ay,D3] at h
    rw [h.1,h.2.2])
 refine Gy (Am (lit:=false) (pm:=fun _=>none) .nil .nil .nil (.cons k110 .nil)) rfl Tryz.func71 rfl (by decide) (by kernel_rfl) (by simp [AV.noref,Ace]) ?_
 simp only [Tryz.f71,Af,lx53,lx63,Nat.reduceAdd,Nat.reduceSub,List.replicate]
 refine Aa ?_
 refine gC0 ?_
 refine AD (T':=Cg 0 20 [(1,.pt 0 0 0 0),(3,.vw true []),(7,.sc (.int .i64 c.pri.length)),(8,.sc (.int .i64 ((0:Nat):Int)))]) ?_ (AS _) (Ax _) ?_
 ·exact IZ
 refine Ix (T':=Cg 0 20 [(1,.pt 0 0 0 0),(3,.sl 1 1 0 0),(7,.sc (.int .i64 c.pri.length)),(8,.sc (.int .i64 ((0:Nat):Int)))]) 1 3 1 2 (by omega) (by omega) ?_ (LJ _ _ _) ?_
 ·exact Bcq
 refine Avy ?_
 refine Aw (σ:=Nat × Nat) (fun y cnt=>⟨Cg 0 20 [(1,.pt 0 0 0 0),(3,.sl 1 y.2 0 y.1),(7,.sc (.int .i64 c.pri.length)),(8,.sc (.int .i64 y.1))],[⟨true,0,36,7,[B5 c],false⟩,⟨true,y.2,3,1,(List.range y.1).map nI,false⟩],cnt⟩)
  (fun y=>y.1≤c.pri.length) (fun y=>c.pri.length - y.1) (0,1) (BX _) (EM _) ?_ rfl ?_
 ·simp (maxSteps:=10000000) only [Bk,Bg,Ac,List.range_zero]
 rintro ⟨k,v⟩ cnt hk ih
 simp only at hk
 by_cases hk':k < c.pri.length
 ·have h1:decide ((k:Int) < (c.pri.length:Int))=true:=by rw [AR]; omega
  have w1:IntKind.i64.wrap ((k:Int)+1)=((k+1:Nat):Int):=AK
  have hsz:decide ((k+1) * 8≤140737488355328)=true:=Aj
  have ht:List.take k ((List.range k).map nI)=(List.range k).map nI:=lx118 (by simp)
  have ha:(List.range k).map nI++[AV.sc (.int .i64 (k:Int))]=(List.range (k+1)).map nI:=by rw [List.range_succ,lx12]; rfl
  have ih:=fun v c=>ih (k+1,v) c (by simp only; omega) (by simp only; omega)
  simp only at ih
  refine Aa ?_
  refine CL ?_
  refine Yr (a5 h1 w1 hsz ht ha) ?_
  refine AD ?_ ?_ (Ax _) (ih (cnt+1) _)
  all_goals exact qc5
 obtain rfl:k=c.pri.length:=Ah
 have h1:decide ((c.pri.length:Int) < (c.pri.length:Int))=false:=Br
 have E:=E v cnt
 simp only [Ac] at E
 have ht:List.take c.pri.length ((IE c).map nI)=(IE c).map nI:=lx118 (by simp [hln])
 clear ih
 refine Aa ?_
 refine CL ?_
 refine Yr (a3 h1 E ht) ?_
 all_goals first | (simp [AV.freshIn,Ee,AE,Cz,AV.fresh,Acd]; done) | skip
 all_goals done
noncomputable def hF (P:Program) (g:Nat) (D:List AV→List Blk→Nat→AV→List Blk→Nat→Prop) (args:List AV) (H:List Blk) (cnt:Nat):Option (AV × List Blk × Nat):=
 open Classical in if h:∃ p:AV × List Blk × Nat,HSpec P g args H cnt p.1 p.2.1 p.2.2∧D args H cnt p.1 p.2.1 p.2.2 then some h.choose else none
theorem LU (P:Program) (g:Nat) (D:List AV→List Blk→Nat→AV→List Blk→Nat→Prop):Ql P g (hF P g D):=by
 intro args H cnt r H' cnt' h
 unfold hF at h
 split at h
 ·rename_i hx
  have h2:=hx.choose_spec.1
  injection h with h
  rw [h] at h2
  exact h2
 ·cases h
theorem LV {P:Program} {g:Nat} {D:List AV→List Blk→Nat→AV→List Blk→Nat→Prop} {args:List AV} {H:List Blk} {cnt:Nat} {r:AV} {H':List Blk} {cnt':Nat} (h:HSpec P g args H cnt r H' cnt') (hd:D args H cnt r H' cnt'):
  ∃ r H' cnt',hF P g D args H cnt=some (r,H',cnt')∧D args H cnt r H' cnt':=by
 have hx:∃ p:AV × List Blk × Nat,HSpec P g args H cnt p.1 p.2.1 p.2.2∧D args H cnt p.1 p.2.1 p.2.2:=⟨(r,H',cnt'),h,hd⟩
 refine ⟨hx.choose.1,hx.choose.2.1,hx.choose.2.2,?_,hx.choose_spec.2⟩
 unfold hF
 rw [dif_pos hx]
def uA (x:Nat):AV:=.sc (.int .u8 (x:Int))
theorem WB (x:Nat):uA x=.sc (.int .u8 (x:Int)):=rfl
theorem H9 (l:List Nat):CY 1 (l.map uA)=true:=Dy (f:=uA) (fun _=>rfl) l
theorem Acf (l:List Nat):norefs (l.map uA)=true:=C8 (f:=uA) (fun _=>by simp [uA,AV.noref]) l
theorem Asp {x y:Nat} (h:uA x=uA y):x=y:=by
 simp only [uA,AV.sc.injEq,Value.int.injEq,D3] at h; omega
theorem MH {l m:List Nat}:l.map uA=m.map uA↔l=m:=⟨DX (fun _ _=>Asp),fun h=>by rw [h]⟩
structure Tp where
 z:Bool
 l:List Nat
 v:Nat
structure TpOk (t:Tp):Prop where
 u:∀ i,t.l.getD i default < 256
 len:t.l.length≤200
def NH (t:Tp) (a:Nat):Blk:=⟨true,t.v,96,2,[.ag [.vw t.z (t.l.map uA),kA .i64 (a:Int)]],false⟩
theorem MI (t:Tp) (a:Nat):NH t a=⟨true,t.v,96,2,[.ag [.vw t.z (t.l.map uA),.sc (.int .i64 (a:Int))]],false⟩:=rfl
theorem N8 {t u:Tp} {a b:Nat} (h:NH t a=NH u b):t=u∧a=b:=by
 obtain ⟨z,l,v⟩:=t; obtain ⟨z',l',v'⟩:=u
 simp only [NH,kA,Blk.mk.injEq,lx96,AV.ag.injEq,AV.vw.injEq,AV.sc.injEq,Value.int.injEq,MH,Ay,D3] at h
 obtain ⟨rfl,⟨rfl,rfl⟩,h⟩:=h
 exact ⟨rfl,by omega⟩
def Cn (t:Tp) (a n:Nat):Nat:=if a < t.l.length then t.l.getD a default % n else 0
def Bb (t:Tp) (a:Nat):Nat:=if a < t.l.length then a+1 else a
theorem Cc {t:Tp} {a n:Nat} (h:0 < n):Cn t a n < n:=by
 unfold Cn; split
 ·exact Nat.mod_lt _ h
 ·exact h
def D42 (args:List AV) (H:List Blk) (cnt:Nat) (r:AV) (H':List Blk) (cnt':Nat):Prop:=
 ∀ (t:Tp) (a:Nat) (n:Nat) (R:List Blk),args=[.pt 0 t.v 0 0,.sc (.int .i64 (n:Int))]→H=NH t a::R→r=.sc (.int .i64 (Cn t a n:Nat))∧H'=NH t (Bb t a)::R∧cnt'=cnt
theorem Acg (t:Tp) (ht:TpOk t) (a n:Nat) (hn:0 < n) (hn':n≤1000) (ha:a≤1000) (R:List Blk) (cnt:Nat):
  HSpec Tryz.prog 42 [.pt 0 t.v 0 0,.sc (.int .i64 (n:Int))] (NH t a::R) cnt (.sc (.int .i64 (Cn t a n:Nat))) (NH t (Bb t a)::R) cnt:=by
 have hu:=ht.u a
 have hll:=ht.len
 refine Ag (Am (lit:=false) (pm:=fun _=>none) .nil .nil .nil .nil) rfl Tryz.func42 rfl (by decide) (by kernel_rfl) ?_
 simp only [Tryz.f42,Af,lx53,lx63,Nat.reduceAdd,Nat.reduceSub,List.replicate]
 simp only [MI,Cn,Bb]
 refine Aa ?_
 by_cases h:a < t.l.length
 ·have h1:decide ((t.l.length:Int)≤(a:Int))=false:=by rw [BJ]; omega
  have h2:decide (a < t.l.length)=true:=Aj
  have w1:IntKind.i64.wrap ((a:Int)+1)=((a+1:Nat):Int):=AK
  have w2:IntKind.i64.wrap (((a+1:Nat):Int) - 1)=(a:Int):=AK
  have h3:decide ((a:Int) < (t.l.length:Int))=true:=Aj
  obtain ⟨x,hx⟩:∃ x,t.l.getD a default=x:=⟨_,rfl⟩
  rw [hx] at hu
  have w3:IntKind.i64.wrap (x:Int)=(x:Int):=Bd (by omega) (by omega)
  have hz:¬ (n:Int)=0:=Ah
  have hr:Int.tmod (x:Int) (n:Int)=((x % n:Nat):Int):=rfl
  rw [if_pos h,if_pos h,hx]
  exact zE1 (Hd h1 h2 h3 w1 w2 w3 hx hz hr @H9 @WB @AA)
  all_goals done
 ·have h1:decide ((t.l.length:Int)≤(a:Int))=true:=by rw [AR]; omega
  rw [if_neg h,if_neg h]
  exact zE1 h1
  all_goals done
theorem Bc {t:Tp} (ht:TpOk t) {a:Nat} (h:a≤200):Bb t a≤200:=by
 have:=ht.len
 unfold Bb; split <;> omega
noncomputable def f42:=hF Tryz.prog 42 D42
theorem Qq:Ql Tryz.prog 42 f42:=LU _ _ _
theorem e42 (t:Tp) (ht:TpOk t) (a n:Nat) (N:Int) (hN:N=(n:Int)) (hn:0 < n) (hn':n≤1000) (ha:a≤200) (R:List Blk) (cnt:Nat):
  f42 [.pt 0 t.v 0 0,.sc (.int .i64 N)] (⟨true,t.v,96,2,[.ag [.vw t.z (t.l.map uA),.sc (.int .i64 (a:Int))]],false⟩::R) cnt=
   some (.sc (.int .i64 (Cn t a n:Nat)),⟨true,t.v,96,2,[.ag [.vw t.z (t.l.map uA),.sc (.int .i64 (Bb t a:Nat))]],false⟩::R,cnt):=by
 subst hN
 obtain ⟨r,H',c',e,d⟩:=LV (D:=D42) (Acg t ht a n hn hn' (by omega) R cnt) (by
  intro t' a' n' R' h1 h2
  simp only [lx96,Ay,AV.sc.injEq,Value.int.injEq,D3] at h1 h2
  obtain ⟨⟨rfl,rfl⟩,rfl⟩:=And.intro (N8 h2.1) h2.2
  obtain rfl:n=n':=Ah
  exact ⟨rfl,rfl,rfl⟩)
 obtain ⟨rfl,rfl,rfl⟩:=d t a n R rfl rfl
 exact e
def Ahz (i:Nat):Int:=[0,1,2,3,-1,7,1000,2147483647,-2147483647,65536].getD i 0
def IU (t:Tp) (k a:Nat):In:=
 if k=1 then ⟨2,Cn t a 3⟩ else if k=2 then ⟨4,Cn t a 64⟩ else if k=3 then ⟨5,Cn t a 2⟩ else if k=4 then ⟨6,Cn t a 2⟩ else if k=5 then ⟨7+(Cn t a 2:Nat),0⟩ else ⟨1,Ahz (Cn t a 10)⟩
def An (t:Tp):Nat→Nat→List In × Nat
 | 0,a=>([IU t (if 5 < Cn t a 9 then 0 else Cn t a 9) (Bb t a)],Bb t (Bb t a))
 | d+1,a=>
  let k:=Cn t a 9
  let b:=Bb t a
  if k=6 then let x:=An t d b; (x.1++[⟨9+(Cn t x.2 2:Nat),0⟩],Bb t x.2)
  else if k=7∨k=8 then let x:=An t d b; let y:=An t d x.2; (x.1++y.1++[⟨11,12+(Cn t y.2 13:Nat)⟩],Bb t y.2)
  else ([IU t k b],Bb t b)
theorem CW {t:Tp} (ht:TpOk t):∀ (d:Nat) {a:Nat},a≤200→(An t d a).2≤200
 | 0,a,h=>Bc ht (Bc ht h)
 | d+1,a,h=>by
  have h1:=Bc ht h
  rw [An]
  split
  ·exact Bc ht (CW ht d h1)
  ·split
   ·exact Bc ht (CW ht d (CW ht d h1))
   ·exact Bc ht h1
theorem CN (t:Tp):∀ (d:Nat) (a:Nat),(An t d a).1.length+1≤2 ^ (d+1)
 | 0,a=>by simp [An]
 | d+1,a=>by
  have h0:2 ^ (d+1+1)=2 ^ (d+1)+2 ^ (d+1):=Ah
  have h9:0 < 2 ^ (d+1):=Nat.two_pow_pos _
  rw [An]
  split
  ·have:=CN t d (Bb t a)
   exact Ajy
  ·split
   ·have:=CN t d (Bb t a)
    have:=CN t d (An t d (Bb t a)).2
    exact Ajy
   ·simp only [lx53,lx63]; omega
theorem Ia (H0:List Blk) {A B:List Blk} (h:VV H0 A B):∀ R:List Blk,VV H0 (R++A) (R++B)
 | []=>h
 | x::R=>by
  rw [lx91,lx91,Bx]
  exact ⟨.inr (.inl rfl),Ia H0 h R⟩
theorem LW (H0 R:List Blk) (v t e:Nat) (es:List AV) (p q:Bool) (h:Gj es=true):VV H0 (R++[⟨true,v,t,e,es,p⟩]) (R++[⟨true,v,t,e,es,q⟩]):=
 Ia H0 (by rw [Bx]; exact ⟨.inr (.inr (by rw [Xl]; exact ⟨rfl,rfl,rfl,rfl,LA _ _,h⟩)),by rw [JQ]; trivial⟩) R
theorem WC (H0 R:List Blk) (x:Blk) (v t e:Nat) (es:List AV) (p q:Bool) (h:Gj es=true):VV H0 (R++[x,⟨true,v,t,e,es,p⟩]) (R++[x,⟨true,v,t,e,es,q⟩]):=
 Ia H0 (by rw [Bx]; exact ⟨.inr (.inl rfl),LW H0 [] v t e es p q h⟩) R
def PY (v:Nat) (l:List In):Blk:=⟨true,v,102,2,l.map BS,false⟩
theorem LX (v:Nat) (l:List In):PY v l=⟨true,v,102,2,l.map BS,false⟩:=rfl
theorem Bew (z:AV):List.replicate 9 z=[z,z,z,z,z,z,z,z,z]:=rfl
theorem Ai0 (z:AV):List.replicate 10 z=[z,z,z,z,z,z,z,z,z,z]:=rfl
theorem Amc {q:Nat} (h:q < 10):([.sc (.int .i64 0),.sc (.int .i64 1),.sc (.int .i64 2),.sc (.int .i64 3),.sc (.int .i64 (-1)),.sc (.int .i64 7),.sc (.int .i64 1000),.sc (.int .i64 2147483647),.sc (.int .i64 (-2147483647)),.sc (.int .i64 65536)]:List AV)[q]?=some (.sc (.int .i64 (Ahz q))):=by
 exact Auu
theorem R0 (t:Tp) (ht:TpOk t) (d a:Nat) (ha:a≤200) (k:Nat) (hk:Cn t a 9=k) (hd:d=0∧5 < k∨k≤5) (R:List Blk) (cnt:Nat):
  ∃ P ver cnt',HSpec Tryz.prog 83 [.pt 0 t.v 0 0,.sc (.int .i64 (d:Int))] (NH t a::R) cnt (.sl (R.length+P.length+1) ver 0 1) (NH t (Bb t (Bb t a))::(R++(P++[PY ver [IU t (if 5 < k then 0 else k) (Bb t a)]]))) cnt':=by
 by_cases hsel:k=0∨5 < k
 rotate_left
 refine ⟨[],cnt,cnt+1,?_⟩
 have hk9:k < 9:=by rw [←hk]; exact Cc (by omega)
 have hb:=Bc ht ha
 have E0:=e42 t ht a 9 9 rfl (by omega) (by omega) ha R cnt
 rw [hk] at E0
 obtain ⟨b,hb'⟩:∃ b,Bb t a=b:=⟨_,rfl⟩
 rw [hb'] at hb E0 ⊢
 have E1:=fun n N h h1 h2=>e42 t ht b n N h h1 h2 hb
 refine Ag (Am (lit:=false) (pm:=fun _=>none) .nil .nil .nil (.cons Qq .nil)) rfl Tryz.func83 rfl (by decide) (by kernel_rfl) ?_
 refine Ajz ?_
 simp only [MI,LX,lx64,lx66,IW]
 obtain ⟨K,hK⟩:∃ K:Int,(k:Int)=K:=⟨_,rfl⟩
 rw [hK] at E0
 obtain ⟨c0,BW⟩:∃ c0,decide ((d:Int)≤0)=c0:=⟨_,rfl⟩
 ·rw [if_neg (by omega)]
  have hc:c0=true∨c0=false:=by cases c0 <;> simp
  have hk6:k=1∨k=2∨k=3∨k=4∨k=5:=Ah
  rcases hk6 with h | h | h | h | h
  ·obtain rfl:K=1:=by omega
   have hlf:IU t k b=⟨2,Cn t b 3⟩:=by subst h; rfl
   rw [hlf]
   have E2:=E1 3 3 rfl (by omega) (by omega) R cnt
   rcases hc with rfl | rfl
   all_goals refine Aa ?_
   all_goals simp (maxSteps:=10000000) +contextual -implicitDefEqProofs only [Bk,Bg,Ao,St.put,D8,↓reduceIte,Nat.reduceAdd,Nat.reduceLeDiff,Nat.reduceMul,Int.reduceLT,Nat.reduceLT,D5,Qc,Int.reduceAdd,Int.reduceMul,Dq,Fe,hl,AX,E0,E2,BW]
   all_goals exact LW _ _ _ _ _ _ _ _ rfl
   all_goals done
  ·obtain rfl:K=2:=by omega
   have hlf:IU t k b=⟨4,Cn t b 64⟩:=by subst h; rfl
   rw [hlf]
   have E2:=E1 64 64 rfl (by omega) (by omega) R cnt
   exact Aql
  ·obtain rfl:K=3:=by omega
   have hlf:IU t k b=⟨5,Cn t b 2⟩:=by subst h; rfl
   rw [hlf]
   have E2:=E1 2 2 rfl (by omega) (by omega) R cnt
   exact Aql
  ·obtain rfl:K=4:=by omega
   have hlf:IU t k b=⟨6,Cn t b 2⟩:=by subst h; rfl
   rw [hlf]
   have E2:=E1 2 2 rfl (by omega) (by omega) R cnt
   exact Aql
  ·obtain rfl:K=5:=by omega
   have hlf:IU t k b=⟨7+(Cn t b 2:Nat),0⟩:=by subst h; rfl
   rw [hlf]
   have E2:=E1 2 2 rfl (by omega) (by omega) R cnt
   have w7:IntKind.i64.wrap (7+((Cn t b 2:Nat):Int))=7+((Cn t b 2:Nat):Int):=by
    have:=Cc (t:=t) (a:=b) (n:=2) (by omega)
    exact Bd (by omega) (by omega)
   rcases hc with rfl | rfl
   all_goals refine Aa ?_
   all_goals simp (maxSteps:=10000000) +contextual -implicitDefEqProofs only [Bk,Bg,Ao,St.put,D8,↓reduceIte,Nat.reduceAdd,Nat.reduceLeDiff,Nat.reduceMul,Int.reduceLT,Nat.reduceBEq,Nat.reduceLT,D5,Qc,Int.reduceAdd,Int.reduceMul,Dq,Fe,hl,AX,Int.reduceBEq,E0,E2,BW,w7]
   all_goals exact LW _ _ _ _ _ _ _ _ rfl
   all_goals done
 refine ⟨[⟨true,cnt,3,1,[.sc (.int .i64 0),.sc (.int .i64 1),.sc (.int .i64 2),.sc (.int .i64 3),.sc (.int .i64 (-1)),.sc (.int .i64 7),.sc (.int .i64 1000),.sc (.int .i64 2147483647),.sc (.int .i64 (-2147483647)),.sc (.int .i64 65536)],true⟩],cnt+1,cnt+2,?_⟩
 have hk9:k < 9:=by rw [←hk]; exact Cc (by omega)
 have hb:=Bc ht ha
 have E0:=e42 t ht a 9 9 rfl (by omega) (by omega) ha R cnt
 rw [hk] at E0
 obtain ⟨b,hb'⟩:∃ b,Bb t a=b:=⟨_,rfl⟩
 rw [hb'] at hb E0 ⊢
 have E1:=fun n N h h1 h2=>e42 t ht b n N h h1 h2 hb
 refine Ag (Am (lit:=false) (pm:=fun _=>none) .nil .nil .nil (.cons Qq .nil)) rfl Tryz.func83 rfl (by decide) (by kernel_rfl) ?_
 refine Ajz ?_
 simp only [MI,LX,lx91,lx64]
 obtain ⟨K,hK⟩:∃ K:Int,(k:Int)=K:=⟨_,rfl⟩
 rw [hK] at E0
 obtain ⟨c0,BW⟩:∃ c0,decide ((d:Int)≤0)=c0:=⟨_,rfl⟩
 have hlf:IU t (if 5 < k then 0 else k) b=⟨1,Ahz (Cn t b 10)⟩:=by
  rcases hsel with h | h
  ·subst h; rfl
  ·rw [if_pos h]; rfl
 rw [hlf]
 have E2:=E1 10 10 rfl (by omega) (by omega)
 have hq:=Cc (t:=t) (a:=b) (n:=10) (by omega)
 obtain ⟨q,hq'⟩:∃ q,Cn t b 10=q:=⟨_,rfl⟩
 simp only [hq'] at hq E2 ⊢
 have g1:decide ((q:Int) < 10)=true:=Aj
 have g2:=Amc hq
 by_cases h5:k=0
 ·obtain rfl:K=0:=by omega
  cases c0
  all_goals refine Aa ?_
  all_goals simp (maxSteps:=10000000) +contextual -implicitDefEqProofs only [Bk,Bg,Ao,St.put,D8,↓reduceIte,Nat.reduceAdd,Nat.reduceLeDiff,Nat.reduceMul,Int.reduceLT,Nat.reduceBEq,Nat.reduceLT,D5,Qc,Int.reduceAdd,Int.reduceMul,Dq,Fe,hl,AX,Int.reduceBEq,E0,E2,BW,g1,g2,Ai0,lx3,lx4,lx5]
  all_goals exact WC _ _ _ _ _ _ _ _ _ rfl
  all_goals done
 ·obtain rfl:d=0:=by omega
  obtain rfl:c0=true:=by rw [←BW]; rfl
  have c1:decide ((5:Int) < K)=true:=Aj
  refine Aa ?_
  refine Nx (a8 E0 E2 c1 g1 g2 @Qc @AX @Ai0) ?_
  all_goals exact WC _ _ _ _ _ _ _ _ _ rfl
  all_goals done
def D83 (args:List AV) (H:List Blk) (cnt:Nat) (r:AV) (H':List Blk) (cnt':Nat):Prop:=
 ∀ (t:Tp) (a d:Nat) (R:List Blk),args=[.pt 0 t.v 0 0,.sc (.int .i64 (d:Int))]→H=NH t a::R→
  ∃ P ver,r=.sl (R.length+P.length+1) ver 0 (An t d a).1.length∧H'=NH t (An t d a).2::(R++(P++[PY ver (An t d a).1]))
noncomputable def f83:=hF Tryz.prog 83 D83
theorem XN:Ql Tryz.prog 83 f83:=LU _ _ _
theorem Ach (t:Tp) (d a:Nat) (D:Int) (hD:D=(d:Int)) (R:List Blk) (cnt:Nat) (h:∃ P ver cnt',HSpec Tryz.prog 83 [.pt 0 t.v 0 0,.sc (.int .i64 (d:Int))] (NH t a::R) cnt (.sl (R.length+P.length+1) ver 0 (An t d a).1.length) (NH t (An t d a).2::(R++(P++[PY ver (An t d a).1]))) cnt'):
  ∃ P ver cnt',f83 [.pt 0 t.v 0 0,.sc (.int .i64 D)] (⟨true,t.v,96,2,[.ag [.vw t.z (t.l.map uA),.sc (.int .i64 (a:Int))]],false⟩::R) cnt=
   some (.sl (R.length+P.length+1) ver 0 (An t d a).1.length,⟨true,t.v,96,2,[.ag [.vw t.z (t.l.map uA),.sc (.int .i64 ((An t d a).2:Int))]],false⟩::(R++(P++[⟨true,ver,102,2,(An t d a).1.map BS,false⟩])),cnt'):=by
 subst hD
 obtain ⟨P,ver,c',h⟩:=h
 obtain ⟨r,H',c',e,d'⟩:=LV (D:=D83) h (by
  intro t' a' d' R' h1 h2
  simp only [lx96,Ay,AV.sc.injEq,Value.int.injEq,D3] at h1 h2
  obtain ⟨⟨rfl,rfl⟩,rfl⟩:=And.intro (N8 h2.1) h2.2
  obtain rfl:d=d':=Ah
  exact ⟨P,ver,rfl,rfl⟩)
 obtain ⟨P,ver,rfl,rfl⟩:=d' t a d R rfl rfl
 exact ⟨P,ver,c',e⟩
theorem JB (Q l:List Blk) (x:Blk):(Q++(x::l))[Q.length]?=some x:=Br
theorem Qr (Q l:List Blk) (x y:Blk):(Q++(x::y::l))[Q.length+1]?=some y:=Br
theorem WD (Q l:List Blk) (x y z:Blk):(Q++(x::y::z::l))[Q.length+1+1]?=some z:=by
 rw [Gd,lx62 (by omega),IK]; rfl
theorem WE (Q l:List Blk) (x z:Blk):(Q++(x::l)).set Q.length z=Q++(z::l):=Br
theorem WG (Q l:List Blk) (x y z:Blk):(Q++(x::y::l)).set (Q.length+1) z=Q++(x::z::l):=by
 rw [lx119 _ _ (by omega),IK]; rfl
theorem apP (Q P l:List Blk) (x y:Blk) {i:Nat} (h:i=Q.length+P.length+1):(Q++(x::(P++(y::l))))[i]?=some y:=by
 subst h
 rw [Gd,lx62 (by omega),IK,lx54,JB]
theorem Amd (Q P l:List Blk) (x y:Blk):(Q++(x::(P++(y::l))))[Q.length+1+P.length]?=some y:=apP _ _ _ _ _ (by omega)
theorem Bex (Q P l:List Blk) (x y z:Blk) {i:Nat} (h:i=Q.length+P.length+2):(Q++(x::(P++(y::z::l))))[i]?=some z:=by
 have:=apP Q (P++[y]) l x z (i:=i) (by simp; omega)
 simpa using this
theorem Ame (Q P l:List Blk) (x y z:Blk):(Q++(x::(P++(y::z::l))))[Q.length+(P.length+1+1)]?=some z:=Bex _ _ _ _ _ _ (by omega)
theorem Amf (a b:Nat):(a+(b+1+1)+1=a+(b+2+1))=True:=eq_true (by omega)
theorem dlP (Q P:List Blk) (t x y z:Blk):(t::(Q++x::(P++[y,z]))).dropLast=t::(Q++x::(P++[y])):=by
 rw [show t::(Q++x::(P++[y,z]))=(t::(Q++x::(P++[y])))++[z] by simp,List.dropLast_concat]
theorem J3 (H0 R l:List Blk) (x:Blk):VV H0 (R++x::l) (R++[x]):=
 Ia H0 (by rw [Bx]; exact ⟨.inr (.inl rfl),by rw [JQ]; trivial⟩) R
theorem sc0 (Q l:List Blk) (t x z:Blk):(t::(Q++(x::l))).set (Q.length+1) z=t::(Q++(z::l)):=by
 rw [lx11,WE]
theorem sc1 (Q l:List Blk) (t x y z:Blk):(t::(Q++(x::y::l))).set (Q.length+1+1) z=t::(Q++(x::z::l)):=by
 rw [lx11,WG]
theorem dl1 (Q:List Blk) (t x:Blk):(t::(Q++[x])).dropLast=t::Q:=by
 rw [←lx91,List.dropLast_concat]
theorem dl2 (Q:List Blk) (t x y:Blk):(t::(Q++[x,y])).dropLast=t::(Q++[x]):=by
 rw [show t::(Q++[x,y])=(t::(Q++[x]))++[y] by simp,List.dropLast_concat]
theorem dl3 (Q:List Blk) (t x y z:Blk):(t::(Q++[x,y,z])).dropLast=t::(Q++[x,y]):=by
 rw [show t::(Q++[x,y,z])=(t::(Q++[x,y]))++[z] by simp,List.dropLast_concat]
theorem F7 (t:Tp) (ht:TpOk t):∀ (d a:Nat) (_:d≤5) (_:a≤200) (R:List Blk) (cnt:Nat),∃ P ver cnt',HSpec Tryz.prog 83 [.pt 0 t.v 0 0,.sc (.int .i64 (d:Int))] (NH t a::R) cnt (.sl (R.length+P.length+1) ver 0 (An t d a).1.length) (NH t (An t d a).2::(R++(P++[PY ver (An t d a).1]))) cnt'
 | 0,a,hd,ha,R,cnt=>by
  have hk:Cn t a 9 < 9:=Cc (by omega)
  exact R0 t ht 0 a ha _ rfl (by omega) R cnt
 | d+1,a,hd,ha,R,cnt=>by
  have hk:Cn t a 9 < 9:=Cc (by omega)
  obtain ⟨k,hk'⟩:∃ k,Cn t a 9=k:=⟨_,rfl⟩
  by_cases h5:k≤5
  ·have:=R0 t ht (d+1) a ha _ hk' (by omega) R cnt
   have h1:An t (d+1) a=([IU t k (Bb t a)],Bb t (Bb t a)):=by
    rw [An,hk',if_neg (by omega),if_neg (by omega)]
   rw [h1]
   rw [if_neg (by omega)] at this
   exact this
  have hb:=Bc ht ha
  have E0:=e42 t ht a 9 9 rfl (by omega) (by omega) ha R cnt
  rw [hk'] at E0
  obtain ⟨K,hK⟩:∃ K:Int,(k:Int)=K:=⟨_,rfl⟩
  rw [hK] at E0
  have c0:decide (((d+1:Nat):Int)≤0)=false:=Ke
  have w0:IntKind.i64.wrap (((d+1:Nat):Int) - 1)=(d:Int):=AK
  have hl1:=CN t d (Bb t a)
  have hp:2 ^ (d+1)≤2 ^ 5:=Nat.pow_le_pow_right (by omega) (by omega)
  have hx2:=CW ht d hb
  obtain ⟨P,ver,c1,E1⟩:=Ach t d (Bb t a) (d:Int) rfl R cnt (F7 t ht d (Bb t a) (by omega) hb R cnt)
  obtain ⟨Q,hQ,hQl⟩:∃ Q,R++P=Q∧R.length+P.length=Q.length:=⟨_,rfl,by simp⟩
  by_cases h6:k=6
  ·have h1:An t (d+1) a=((An t d (Bb t a)).1++[⟨9+(Cn t (An t d (Bb t a)).2 2:Nat),0⟩],Bb t (An t d (Bb t a)).2):=by
    rw [An,hk',if_pos h6]
   rw [h1]
   obtain rfl:K=6:=Ah
   have E2:=e42 t ht (An t d (Bb t a)).2 2 2 rfl (by omega) (by omega) hx2 (Q++[⟨true,ver,102,2,(An t d (Bb t a)).1.map BS,false⟩]) c1
   have w9:IntKind.i64.wrap (9+((Cn t (An t d (Bb t a)).2 2:Nat):Int))=9+((Cn t (An t d (Bb t a)).2 2:Nat):Int):=by
    have:=Cc (t:=t) (a:=(An t d (Bb t a)).2) (n:=2) (by omega)
    exact Bd (by omega) (by omega)
   obtain ⟨X,hX⟩:∃ X,(An t d (Bb t a)).1=X:=⟨_,rfl⟩
   obtain ⟨y,hy⟩:∃ y,(An t d (Bb t a)).2=y:=⟨_,rfl⟩
   rw [hX] at hl1
   simp only [hX,hy] at E1 E2 w9 ⊢
   have hsz:decide ((X.length+1) * 16≤140737488355328)=true:=Aj
   have htk:List.take X.length (X.map BS)=X.map BS:=lx118 (by simp)
   refine ⟨P,c1+1,c1+2,?_⟩
   rw [←lx4,hQ,hQl]
   rw [←lx4,hQ,hQl] at E1
   have hma:X.map BS++[.ag [.sc (.int .i64 (9+((Cn t y 2:Nat):Int))),.sc (.int .i64 0)]]=(X++[(⟨9+((Cn t y 2:Nat):Int),0⟩:In)]).map BS:=Adw
   refine Ag (Am (lit:=false) (pm:=fun _=>none) .nil .nil .nil (.cons Qq (.cons XN .nil))) rfl Tryz.func83 rfl (by decide) (by kernel_rfl) ?_
   refine Ajz ?_
   simp only [MI,LX]
   refine Aa ?_
   simp (maxSteps:=10000000) +contextual -implicitDefEqProofs only [Bk,Bg,Ao,St.put,D8,↓reduceIte,Nat.reduceAdd,Nat.reduceLeDiff,Nat.reduceEqDiff,Nat.reduceMul,Int.reduceLT,Nat.reduceBEq,Nat.reduceLT,D5,Qc,Int.reduceAdd,Int.reduceMul,Dq,Fe,hl,Int.reduceBEq,E0,E1,E2,c0,w0,w9,hsz,htk,hma,lx4,JB,Qr,sc0,dl2,lx5]
   all_goals exact Auv
  ·have h78:k=7∨k=8:=by omega
   have h1:An t (d+1) a=((An t d (Bb t a)).1++(An t d (An t d (Bb t a)).2).1++[⟨11,12+(Cn t (An t d (An t d (Bb t a)).2).2 13:Nat)⟩],Bb t (An t d (An t d (Bb t a)).2).2):=by
    rw [An,hk',if_neg h6,if_pos h78]
   rw [h1]
   have hl2:=CN t d (An t d (Bb t a)).2
   have hx3:=CW ht d hx2
   obtain ⟨P2,ver2,c2,E2⟩:=Ach t d (An t d (Bb t a)).2 (d:Int) rfl (Q++[⟨true,ver,102,2,(An t d (Bb t a)).1.map BS,false⟩]) c1 (F7 t ht d _ (by omega) hx2 _ c1)
   have E3:=e42 t ht (An t d (An t d (Bb t a)).2).2 13 13 rfl (by omega) (by omega) hx3
   have w9:IntKind.i64.wrap (12+((Cn t (An t d (An t d (Bb t a)).2).2 13:Nat):Int))=12+((Cn t (An t d (An t d (Bb t a)).2).2 13:Nat):Int):=by
    have:=Cc (t:=t) (a:=(An t d (An t d (Bb t a)).2).2) (n:=13) (by omega)
    exact Bd (by omega) (by omega)
   obtain ⟨X,hX⟩:∃ X,(An t d (Bb t a)).1=X:=⟨_,rfl⟩
   obtain ⟨y,hy⟩:∃ y,(An t d (Bb t a)).2=y:=⟨_,rfl⟩
   rw [hX] at hl1
   rw [hy] at hl2
   simp only [hX,hy] at E1 E2 E3 w9 ⊢
   obtain ⟨Y,hY⟩:∃ Y,(An t d y).1=Y:=⟨_,rfl⟩
   obtain ⟨u,hu⟩:∃ u,(An t d y).2=u:=⟨_,rfl⟩
   rw [hY] at hl2
   simp only [hY,hu] at E2 E3 w9 ⊢
   have hsz:decide ((X.length+Y.length) * 16≤140737488355328)=true:=Aj
   have hsz2:decide ((X.length+Y.length+1) * 16≤140737488355328)=true:=Aj
   have htk:List.take X.length (X.map BS)=X.map BS:=lx118 (by simp)
   have htk2:List.take Y.length (Y.map BS)=Y.map BS:=lx118 (by simp)
   have htk3:List.take (X.length+Y.length) (X.map BS++Y.map BS)=X.map BS++Y.map BS:=lx118 (by simp)
   have hma:X.map BS++(Y.map BS++[.ag [.sc (.int .i64 11),.sc (.int .i64 (12+((Cn t u 13:Nat):Int)))]])=(X++(Y++[(⟨11,12+((Cn t u 13:Nat):Int)⟩:In)])).map BS:=by rw [lx12,lx12]; rfl
   refine Ar0 ?_
   rw [←lx4,hQ,hQl] at E1
   have hK:K=7∨K=8:=Ah
   refine Ag (Am (lit:=false) (pm:=fun _=>none) .nil .nil .nil (.cons Qq (.cons XN .nil))) rfl Tryz.func83 rfl (by decide) (by kernel_rfl) ?_
   refine Ajz ?_
   simp only [MI,LX]
   rcases hK with rfl | rfl
   all_goals refine Aa ?_
   all_goals simp (maxSteps:=10000000) +contextual -implicitDefEqProofs only [Bk,Bg,Ao,St.put,D8,↓reduceIte,Nat.reduceAdd,Nat.reduceLeDiff,Nat.reduceEqDiff,Nat.reduceMul,Int.reduceLT,Nat.reduceBEq,Nat.reduceLT,D5,Qc,Int.reduceAdd,Int.reduceMul,Dq,Fe,hl,Int.reduceBEq,E0,E1,E2,E3,c0,w0,w9,hsz,hsz2,htk,htk2,htk3,hma,Amd,Ame,Amf,dlP,AJ,lx4,JB,sc0,lx5]
   all_goals exact Auv
end Go.Proofs.YtdjpkhjaibdogaaGreat
