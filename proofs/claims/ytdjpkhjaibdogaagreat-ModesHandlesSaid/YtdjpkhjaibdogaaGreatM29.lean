/-
  Lemmas towards ModesHandles (joined texts: DS, DT).
  Conditions: none.
-/
import Derived.Test.YtdjpkhjaibdogaaGreatM01
import Derived.Test.YtdjpkhjaibdogaaGreatM02
import Derived.Test.YtdjpkhjaibdogaaGreatM28
import Derived.Test.YtdjpkhjaibdogaaGreatM18
import Derived.Test.YtdjpkhjaibdogaaGreatM15
set_option linter.unusedSimpArgs false
set_option linter.unusedVariables false
set_option maxRecDepth 100000
set_option maxHeartbeats 8000000
namespace Go.Proofs.YtdjpkhjaibdogaaGreat
open Go Go.SX
attribute [local congr] ite_congr
theorem Ams (x y:Int):decide (GG x y < 0)=decide (x < y):=by
 unfold GG
 split
 ·rename_i h; simp [h]
 ·rename_i h
  split <;> simp [h]
def Yr (r:Nat→Int) (i:Nat):AV:=.sc (.int .i64 (r i))
theorem Ys (r:Nat→Int) (i:Nat):Yr r i=.sc (.int .i64 (r i)):=rfl
theorem Auc (r:Nat→Int) (t:List Nat) (j x:Nat):(t.map (Yr r)).set j (.sc (.int .i64 (r x)))=(t.set j x).map (Yr r):=by
 rw [List.map_set]; rfl
structure Ctx where
 r:Nat→Int
 n:Nat
 K:Nat→Int
 v:Nat
 v0:Nat
 ty0:Nat
 es0:Nat
 els0:List AV
 fc:List AV→Option AV
structure CtxOk (C:Ctx):Prop where
 hc:DK Tryz.prog 111 C.fc
 he:∀ x y,x < C.n→y < C.n→C.fc [Yr C.r x,Yr C.r y,.vp C.els0 0 0]=some (.sc (.int .i64 (GG (C.K y) (C.K x))))
 inj:∀ x y,x < C.n→y < C.n→Yr C.r x=Yr C.r y→x=y
 n:C.n≤1000000
def blD (C:Ctx) (t:List Nat):Blk:=⟨true,C.v,3,1,t.map (Yr C.r),false⟩
def blC (C:Ctx):Blk:=⟨true,C.v0,C.ty0,C.es0,C.els0,false⟩
def cmV (C:Ctx):AV:=.fn 111 [.pt 0 C.v0 0 0]
def daV (C:Ctx):AV:=.sl 1 C.v 0 C.n
def TagQ (C:Ctx) (t:List Nat):Prop:=t.length=C.n∧∀ i,i < C.n→t.getD i default < C.n
theorem Amv {C:Ctx} (h:CtxOk C) {t u:List Nat} (ht:TagQ C t) (hu:TagQ C u) (e:blD C t=blD C u):t=u:=by
 simp only [blD,Blk.mk.injEq,Du,Az] at e
 refine List.ext_getElem (by rw [ht.1,hu.1]) fun i h1 h2=>?_
 have e1:(t.map (Yr C.r))[i]?=(u.map (Yr C.r))[i]?:=by rw [e]
 rw [lx23,lx23,lx51 h1,lx51 h2] at e1
 simp only [lx34,lx16] at e1
 have g1:=ht.2 i (by rw [←ht.1]; exact h1)
 have g2:=hu.2 i (by rw [←hu.1]; exact h2)
 rw [lx80,lx51 h1,lx10] at g1
 rw [lx80,lx51 h2,lx10] at g2
 exact h.inj _ _ g1 g2 e1
theorem TagQ.seg {C:Ctx} {t u:List Nat} {a b:Nat} (h:TagQ C t) (hs:Seg t u a b) (hb:b≤C.n):TagQ C u:=by
 refine ⟨hs.len.trans h.1,fun i hi=>?_⟩
 by_cases c:a≤i∧i < b
 ·obtain ⟨j,_,j2,e⟩:=hs.frm i c.1 c.2
  rw [e]; exact h.2 j (by omega)
 ·rw [hs.out i (by omega)]; exact h.2 i hi
theorem TagQ.sw {C:Ctx} {t:List Nat} {i j:Nat} (h:TagQ C t) (hi:i < C.n) (hj:j < C.n):TagQ C (Un t i j):=
 h.seg (Aap (a:=0) (b:=C.n) (BT _) hi (BT _) hj (by rw [h.1]; exact Aw _)) (Aw _)
theorem T4 {a b:Nat} (h:kA .i64 (a:Int)=kA .i64 (b:Int)):a=b:=by
 have:=Bt h; omega
noncomputable def Bbk (C:Ctx):=Xz (fun p:List Nat × Nat × Nat × Nat=>TagQ C p.1∧p.2.1≤p.2.2.1∧p.2.2.1≤C.n) (fun p=>([daV C,kA .i64 p.2.1,kA .i64 p.2.2.1,cmV C],[blC C,blD C p.1],p.2.2.2))
 (fun p=>(.tu [],[blC C,blD C (Lx C.K p.1 p.2.1 p.2.2.1)],p.2.2.2))
theorem Bbl {C:Ctx} (h:CtxOk C) (t:List Nat) (a b c:Nat) (ht:TagQ C t) (hab:a≤b) (hb:b≤C.n):
  Bbk C [daV C,kA .i64 a,kA .i64 b,cmV C] [blC C,blD C t] c=some (.tu [],[blC C,blD C (Lx C.K t a b)],c):=
 G5 (q:=fun p:List Nat × Nat × Nat × Nat=>TagQ C p.1∧p.2.1≤p.2.2.1∧p.2.2.1≤C.n) (enc:=fun p=>([daV C,kA .i64 p.2.1,kA .i64 p.2.2.1,cmV C],[blC C,blD C p.1],p.2.2.2))
  (out:=fun p=>(.tu [],[blC C,blD C (Lx C.K p.1 p.2.1 p.2.2.1)],p.2.2.2)) (t,a,b,c) ⟨ht,hab,hb⟩ (by
  rintro ⟨t',a',b',c'⟩ ⟨ht',_⟩ e
  simp only [lx40,lx96,Az,Du] at e
  obtain ⟨⟨e1,e2⟩,e3,rfl⟩:=e
  rw [T4 e1,T4 e2,Amv h ht' ht e3])
theorem SN {K:Nat→Int} {t:List Nat} {a j:Nat} (h:¬ (a < j∧K (t.getD (j - 1) default) < K (t.getD j default))):Mx K a j t=t:=by
 cases j with
 | zero=>rfl
 | succ j=>rw [Mx,if_neg (by simpa using h)]
theorem Aud {C:Ctx} (h:CtxOk C):M8 Tryz.prog 201 (Bbk C):=G6 <| by
 rintro ⟨t,a,b,cnt⟩ ⟨ht,hab,hb⟩
 obtain ⟨hc,he,hinj,hn⟩:=h
 obtain ⟨r,n,K,v,v0,ty0,es0,els0,fc⟩:=C
 simp only at hc he hn hb hab
 have htl:=ht.1
 simp only at htl
 refine Ag (Aj (lit:=false) (pm:=fun _=>none) (.cons hc .nil) .nil .nil .nil) rfl Tryz.func201 rfl (by decide) (by kernel_rfl) ?_
 simp only [Tryz.f201,Af,lx53,lx63,Nat.reduceAdd,Nat.reduceSub,List.replicate]
 simp only [blC,blD,daV,cmV]
 obtain ⟨RES,hRES⟩:∃ u,Lx K t a b=u:=⟨_,rfl⟩
 rw [hRES]
 have w0:IntKind.i64.wrap ((a:Int)+1)=((a+1:Nat):Int):=Ay
 refine Ab ?_
 simp (maxSteps:=10000000) +contextual -implicitDefEqProofs only [AX,AW,St.put,CO,AA,w0]
 refine Am (σ:=Nat × List Nat) (fun y _=>⟨Bm 0 53 [(0,.sl 1 v 0 n),(1,.sc (.int .i64 a)),(2,.sc (.int .i64 b)),(3,.fn 111 [.pt 0 v0 0 0]),(8,.sc (.int .i64 y.1))],[⟨true,v0,ty0,es0,els0,false⟩,⟨true,v,3,1,y.2.map (Yr r),false⟩],cnt⟩)
  (fun y=>a+1≤y.1∧(y.1≤b∨y.1=a+1)∧TagQ ⟨r,n,K,v,v0,ty0,es0,els0,fc⟩ y.2∧Re K a t (y.1 - a - 1)=y.2) (fun y=>b - y.1) (a+1,t) ⟨by simp only; omega,.inr rfl,ht,by simp only; rw [show a+1 - a - 1=0 by omega]; rfl⟩ ?_ ?_ rfl ?_
 ·exact F4
 ·exact Y0
 rintro ⟨i,u⟩ cn ⟨hi1,hi2,hu,hins⟩ ih
 simp only at hi1 hi2 hu hins
 have hul:=hu.1
 have hut:=hu.2
 simp only at hul hut
 by_cases hib:i < b
 rotate_left
 ·have q1:decide ((i:Int) < (b:Int))=false:=by rw [Bz]; omega
  have hfin:RES=u:=by
   rw [←hRES,←hins,Lx]
   congr 1; omega
  rw [hfin]
  refine Ab ?_
  refine BJ ?_
  simp (maxSteps:=10000000) +contextual -implicitDefEqProofs only [AX,AW,St.put,↓reduceIte,CO,q1]
  all_goals first | exact .refl _ | rfl | trivial | omega
 have q1:decide ((i:Int) < (b:Int))=true:=Ae
 obtain ⟨m,rfl⟩:∃ m,i=a+m+1:=⟨i - a - 1,by omega⟩
 rw [show a+m+1 - a - 1=m by omega] at hins
 have w1:IntKind.i64.wrap (((a+m+1:Nat):Int)+1)=((a+m+1+1:Nat):Int):=Ay
 obtain ⟨NX,hNX⟩:∃ x,Mx K a (a+m+1) u=x:=⟨_,rfl⟩
 have hnx:Re K a t (m+1)=NX:=by rw [Re,hins,hNX]
 refine Ab ?_
 refine BJ ?_
 simp (maxSteps:=10000000) +contextual -implicitDefEqProofs only [AW,St.put,↓reduceIte,CO,q1]
 refine Am (σ:=Nat × List Nat) (fun y _=>⟨Bm 0 53 [(0,.sl 1 v 0 n),(1,.sc (.int .i64 a)),(2,.sc (.int .i64 b)),(3,.fn 111 [.pt 0 v0 0 0]),(8,.sc (.int .i64 (a+m+1:Nat))),(9,.sc (.int .i64 y.1))],[⟨true,v0,ty0,es0,els0,false⟩,⟨true,v,3,1,y.2.map (Yr r),false⟩],cnt⟩)
  (fun y=>y.1≤a+m+1∧a≤y.1∧TagQ ⟨r,n,K,v,v0,ty0,es0,els0,fc⟩ y.2∧Mx K a y.1 y.2=NX) (fun y=>y.1) (a+m+1,u) ⟨Aw _,by simp only; omega,hu,hNX⟩ ?_ ?_ rfl ?_
 ·exact F4
 ·exact Y0
 rintro ⟨j,s⟩ cm ⟨hj1,hj2,hs,hns⟩ jh
 simp only at hj1 hj2 hs hns
 have hsl:=hs.1
 have hst:=hs.2
 simp only at hsl hst
 have hend:Mx K a j s=s→NX=s:=fun h=>by rw [←hns,h]
 by_cases hja:a < j
 rotate_left
 ·have q2:decide ((a:Int) < (j:Int))=false:=by rw [Bz]; omega
  have hfin:=hend (SN (fun h=>hja h.1))
  refine Ab ?_
  refine BJ ?_
  refine NC (a2 q2 w1) ?_
  repeat' (first | exact Ac (by kernel_rfl) | refine ⟨Ac (by kernel_rfl),?_⟩ | refine And.intro ?_ ?_ | fail)
  refine Av ?_ ?_ (Aw _) (ih (a+m+1+1,s) 0 ⟨by simp only; omega,by simp only; omega,hs,by simp only; rw [show a+m+1+1 - a - 1=m+1 by omega,hnx,hfin]⟩ (by simp only; omega))
  all_goals simp (maxSteps:=10000000) only [AX,AW,↓reduceIte,reduceCtorEq,Nat.reduceAdd,Nat.reduceEqDiff,Bm,D2]
 have q2:decide ((a:Int) < (j:Int))=true:=Ae
 obtain ⟨k,rfl⟩:∃ k,j=k+1:=⟨j - 1,by omega⟩
 have w2:IntKind.i64.wrap (((k+1:Nat):Int) - 1)=(k:Int):=Ay
 have q3:decide (k+1 < s.length)=true:=Ae
 have q4:decide (k < s.length)=true:=Ae
 have q5:decide (((k+1:Nat):Int) < (n:Int))=true:=Ae
 have q6:decide ((k:Int) < (n:Int))=true:=Ae
 have hcm:=he (s.getD (k+1) default) (s.getD k default) (hst _ (by omega)) (hst _ (by omega))
 simp only [Ys] at hcm
 have q7:=Ams (K (s.getD k default)) (K (s.getD (k+1) default))
 refine Ab ?_
 by_cases hlt:K (s.getD k default) < K (s.getD (k+1) default)
 ·rw [Iw hlt] at q7
  have s1:=fun t j x=>Auc r t j x
  have hsw:(s.set (k+1) (s.getD k default)).set k (s.getD (k+1) default)=Un s (k+1) k:=rfl
  have hnx2:Mx K a k (Un s (k+1) k)=NX:=by rw [←hns,Mx,if_pos ⟨hja,hlt⟩]
  refine BJ ?_
  refine NC (G0 q2 q3 q4 q5 q6 q7 w2 hcm s1 hsw @Ax @Ys) ?_
  repeat' (first | exact Ac (by kernel_rfl) | refine ⟨Ac (by kernel_rfl),?_⟩ | refine And.intro ?_ ?_ | fail)
  refine Av ?_ ?_ (Aw _) (jh (k,Un s (k+1) k) 0 ⟨by simp only; omega,by simp only; omega,hs.sw (by simp only; omega) (by simp only; omega),hnx2⟩ (by simp only; omega))
  all_goals exact YZ
 ·rw [F3 hlt] at q7
  have hfin:=hend (SN (by simp only [Nat.add_sub_cancel]; exact fun h=>hlt h.2))
  refine BJ ?_
  refine NC (Ij q2 q3 q4 q5 q6 q7 w1 w2 hcm @Ax @Ys) ?_
  repeat' (first | exact Ac (by kernel_rfl) | refine ⟨Ac (by kernel_rfl),?_⟩ | refine And.intro ?_ ?_ | fail)
  refine Av ?_ ?_ (Aw _) (ih (a+m+1+1,s) 0 ⟨by simp only; omega,by simp only; omega,hs,by simp only; rw [show a+m+1+1 - a - 1=m+1 by omega,hnx,hfin]⟩ (by simp only; omega))
  all_goals exact YZ
theorem Gi {n k:Nat} (h:k < n):(List.range n).getD k default=k:=by
 rw [lx80,lx51 (by simpa using h)]; simp
theorem Bgd {K:Nat→Int} {u w:List Nat} {n:Nat} (hu:u.length=n) (hw:w.length=n) (su:Srt K u 0 n) (sw:Srt K w 0 n) (bu:Stb K u) (bw:Stb K w)
  (uw:∀ i,i < n→∃ j,j < n∧u.getD i default=w.getD j default) (wu:∀ i,i < n→∃ j,j < n∧w.getD i default=u.getD j default):u=w:=by
 have inj:∀ (v:List Nat),v.length=n→Stb K v→∀ a b,a < b→b < n→v.getD a default=v.getD b default→False:=fun v hv bv a b h1 h2 e=>by
  have:=bv a b h1 (by omega) (by rw [e])
  omega
 have main:∀ i,i < n→u.getD i default=w.getD i default:=by
  intro i
  induction i using Nat.strongRecOn with
  | ind i ih=>
   intro hi
   obtain ⟨k,hk,ek⟩:=uw i hi
   obtain ⟨l,hl',el⟩:=wu i hi
   have k1:¬ k < i:=fun h=>inj u hu bu k i h hi (by rw [ih k h hk,ek])
   have l1:¬ l < i:=fun h=>inj w hw bw l i h hi (by rw [←ih l h hl',el])
   by_cases hki:k=i
   ·rw [ek,hki]
   by_cases hli:l=i
   ·rw [el,hli]
   have s1:=su i l (BT _) (by omega) hl'
   have s2:=sw i k (BT _) (by omega) hk
   rw [←el] at s1
   rw [←ek] at s2
   have e:K (u.getD i default)=K (w.getD i default):=Ai
   have b1:=bu i l (by omega) (by omega) (by rw [e,el])
   have b2:=bw i k (by omega) (by omega) (by rw [←e,ek])
   omega
 refine List.ext_getElem (by omega) fun i h1 h2=>?_
 have:=main i (by omega)
 exact Ap4
def OL (K:Nat→Int) (n:Nat):Nat→List Nat
 | 0=>[]
 | q+1=>OL K n q++(List.range n).filter (fun i=>K i == 99 - (q:Int))
theorem OM (K:Nat→Int) (n:Nat) (hK:∀ i,i < n→K i≤99):∀ q x,x ∈ OL K n q↔x < n∧99 - (q:Int) < K x
 | 0,x=>by
  simp only [OL,lx121,false_iff,not_and]
  intro hx; have:=hK x hx; omega
 | q+1,x=>by
  rw [OL,lx76,OM K n hK q x,List.mem_filter,IZ,lx85]
  constructor
  ·rintro (⟨h1,h2⟩ | ⟨h1,h2⟩)
   ·exact ⟨h1,by omega⟩
   ·exact ⟨h1,by omega⟩
  ·rintro ⟨h1,h2⟩
   by_cases h:K x=99 - (q:Int)
   ·exact .inr ⟨h1,h⟩
   ·exact .inl ⟨h1,by omega⟩
theorem Aiw (K:Nat→Int) (n:Nat) (hK:∀ i,i < n→K i≤99):∀ q,(OL K n q).Pairwise fun a b=>K b≤K a∧(K a=K b→a < b)
 | 0=>.nil
 | q+1=>by
  rw [OL]
  refine List.pairwise_append.2 ⟨Aiw K n hK q,?_,fun a ha b hb=>?_⟩
  ·have h1:(List.range n).Pairwise (fun a b=>a < b):=List.pairwise_lt_range
   have h2:((List.range n).filter (fun i=>K i == 99 - (q:Int))).Pairwise (fun a b=>a < b):=h1.filter _
   refine (lx122.2 fun i j hi hj hij=>?_)
   have g1:=lx122.1 h2 i j hi hj hij
   have g2:=(List.mem_filter.1 (lx90 hi)).2
   have g3:=(List.mem_filter.1 (lx90 hj)).2
   simp only [lx85] at g2 g3
   exact ⟨by omega,fun _=>g1⟩
  ·have h1:=(OM K n hK q a).1 ha
   have h2:=(List.mem_filter.1 hb).2
   simp only [lx85] at h2
   exact ⟨by omega,fun h=>by omega⟩
theorem KM {l:List Nat} {i:Nat} (h:i < l.length):l.getD i default=l[i]:=by
 rw [lx80,lx51 h]; rfl
theorem Xa (K:Nat→Int) (n:Nat) (hK:∀ i,i < n→0≤K i∧K i≤99):Lx K (List.range n) 0 n=OL K n 100:=by
 have hst:Stb K (List.range n):=fun i j h1 h2 _=>by
  rw [List.length_range] at h2
  rw [Gi (by omega),Gi h2]; exact h1
 obtain ⟨g1,g2,g3⟩:=Aas (a:=0) (b:=n) hst (by simp)
 have hp:=Aiw K n (fun i hi=>(hK i hi).2) 100
 have hm:∀ x,x ∈ OL K n 100↔x < n:=fun x=>by
  rw [OM K n (fun i hi=>(hK i hi).2)]
  exact ⟨fun h=>h.1,fun h=>⟨h,by have:=hK x h; omega⟩⟩
 have hnd:(OL K n 100).Nodup:=hp.imp fun h e=>by
  subst e
  exact absurd (h.2 rfl) (Nat.lt_irrefl _)
 have hperm:(OL K n 100).Perm (List.range n):=(List.perm_ext_iff_of_nodup hnd List.nodup_range).2 fun a=>by rw [hm,IZ]
 have hlen:(OL K n 100).length=n:=by rw [hperm.length_eq,List.length_range]
 have hidx:∀ x,x < n→∃ j,j < n∧(OL K n 100).getD j default=x:=fun x hx=>by
  obtain ⟨j,hj,e⟩:=lx69 ((hm x).2 hx)
  exact ⟨j,by omega,by rw [KM hj,e]⟩
 refine Bgd (by rw [g1.len,List.length_range]) hlen g2 ?_ g3 ?_ (fun i hi=>?_) (fun i hi=>?_)
 ·intro i j _ hij hj
  have:=lx122.1 hp i j (by omega) (by omega) hij
  rw [KM (by omega),KM (by omega)]; exact this.1
 ·intro i j hij hj
  have:=lx122.1 hp i j (by omega) hj hij
  rw [KM (by omega),KM hj]; exact this.2
 ·obtain ⟨j,_,hj,e⟩:=g1.frm i (BT _) hi
  rw [Gi hj] at e
  obtain ⟨m,h1,h2⟩:=hidx j hj
  exact ⟨m,h1,by rw [e,h2]⟩
 ·have h:(OL K n 100).getD i default < n:=by
   rw [KM (by omega)]
   exact (hm _).1 (lx90 _)
  obtain ⟨j,_,hj,e⟩:=g1.to _ (BT _) h
  rw [Gi h] at e
  exact ⟨j,hj,e⟩
theorem Xb {C:Ctx} (h:CtxOk C) (t:List Nat) (cnt:Nat) (ht:TagQ C t) (hn:C.n < 20):
  HSpec Tryz.prog 154 [daV C,kA .i64 C.n,cmV C] [blC C,blD C t] cnt (.tu []) [blC C,blD C (Lx C.K t 0 C.n)] cnt:=by
 have E:=Bbl h t 0 C.n cnt ht (BT _) (Aw _)
 refine Ag (Aj (lit:=false) (pm:=fun _=>none) .nil .nil .nil (.cons (Aud h) .nil)) rfl Tryz.func154 rfl (by decide) (by kernel_rfl) ?_
 simp only [Tryz.f154,Af,lx53,lx63,Nat.reduceAdd,Nat.reduceSub,List.replicate]
 obtain ⟨RES,hRES⟩:∃ u,Lx C.K t 0 C.n=u:=⟨_,rfl⟩
 rw [hRES] at E ⊢
 obtain ⟨r,n,K,v,v0,ty0,es0,els0,fc⟩:=C
 simp only at hn
 simp only [blC,blD,daV,cmV,AA,Int.natCast_zero] at E ⊢
 have h1:decide ((20:Int)≤(n:Int))=false:=HY
 have h2:decide ((20:Int) < (n:Int))=false:=HY
 refine Ab ?_
 simp (maxSteps:=10000000) +contextual -implicitDefEqProofs only [AX,AW,St.put,CO]
 refine Am (σ:=Unit) (fun _ c=>⟨Bm 0 63 [(0,.sl 1 v 0 n),(1,.sc (.int .i64 n)),(2,.fn 111 [.pt 0 v0 0 0]),(6,.sc (.int .i64 20)),(7,.sc (.int .i64 0)),(8,.sc (.int .i64 20))],[⟨true,v0,ty0,es0,els0,false⟩,⟨true,v,3,1,t.map (Yr r),false⟩],cnt⟩)
  (fun _=>True) (fun _=>0) () trivial ?_ ?_ rfl ?_
 ·exact F4
 ·exact Y0
 rintro _ c - ih
 refine Ab ?_
 refine BJ ?_
 simp (maxSteps:=10000000) +contextual -implicitDefEqProofs only [AX,AW,St.put,DN,↓reduceIte,CO,E5,hl,h1,E]
 refine Am (σ:=Unit) (fun _ c=>⟨Bm 0 63 [(0,.sl 1 v 0 n),(1,.sc (.int .i64 n)),(2,.fn 111 [.pt 0 v0 0 0]),(6,.sc (.int .i64 20))],[⟨true,v0,ty0,es0,els0,false⟩,⟨true,v,3,1,RES.map (Yr r),false⟩],cnt⟩)
  (fun _=>True) (fun _=>0) () trivial ?_ ?_ rfl ?_
 ·exact F4
 ·exact Y0
 rintro _ c' - ih'
 refine Ab ?_
 refine BJ ?_
 simp (maxSteps:=10000000) +contextual -implicitDefEqProofs only [AX,AW,St.put,↓reduceIte,CO,h2]
 all_goals first | exact .refl _ | rfl | trivial | omega | skip
 all_goals done
theorem Adk {C:Ctx} (h:CtxOk C) (t:List Nat) (cnt:Nat) (ht:TagQ C t) (hn:C.n < 20):
  HSpec Tryz.prog 110 [daV C,cmV C] [blC C,blD C t] cnt (.tu []) [blC C,blD C (Lx C.K t 0 C.n)] cnt:=by
 obtain ⟨F,k,E⟩:=Dz (Xb h t cnt ht hn)
 refine Ag (Aj (lit:=false) (pm:=fun _=>none) .nil .nil .nil (.cons k .nil)) rfl Tryz.func110 rfl (by decide) (by kernel_rfl) ?_
 simp only [Tryz.f110,Af,lx53,lx63,Nat.reduceAdd,Nat.reduceSub,List.replicate]
 obtain ⟨RES,hRES⟩:∃ u,Lx C.K t 0 C.n=u:=⟨_,rfl⟩
 rw [hRES] at E ⊢
 obtain ⟨r,n,K,v,v0,ty0,es0,els0,fc⟩:=C
 simp only [blC,blD,daV,cmV,AA] at E ⊢
 refine Ab ?_
 simp (maxSteps:=10000000) +contextual -implicitDefEqProofs only [AX,AW,St.put,DN,↓reduceIte,Dd,CO,E5,hl,E]
 all_goals first | exact .refl _ | rfl | trivial | omega | skip
 all_goals done
def HV (c:Cd) (i:Nat):Int:=c.pri.getD i default
def HW (c:Cd):List Nat:=OL (HV c) c.pri.length 100
def nI (i:Nat):AV:=kA .i64 (i:Int)
theorem Ob (i:Nat):nI i=.sc (.int .i64 (i:Int)):=rfl
theorem Adl (l:List Nat):Cc (l.map nI)=true:=Ei (f:=nI) (fun _=>by simp [nI,kA,AV.fresh]) l
theorem Nn (l:List Nat):norefs (l.map nI)=true:=C4 (f:=nI) (fun _=>by simp [nI,kA,AV.noref]) l
theorem HN (l:List Nat):Db 1 (l.map nI)=true:=D7 (f:=nI) (fun _=>rfl) l
def sgQ (p:Nat × Nat × Cd):Prop:=Fit p.2.2∧p.1 < p.2.2.pri.length∧p.2.1 < p.2.2.pri.length
noncomputable def f111:=Er sgQ (fun p=>[nI p.1,nI p.2.1,.vp [Bv p.2.2] 0 0]) (fun p=>kA .i64 (GG (HV p.2.2 p.2.1) (HV p.2.2 p.1)))
theorem Bge (c:Cd) (x y:Nat) (h:Fit c) (hx:x < c.pri.length) (hy:y < c.pri.length):f111 [nI x,nI y,.vp [Bv c] 0 0]=some (.sc (.int .i64 (GG (HV c y) (HV c x)))):=
 (AJ (q:=sgQ) (enc:=fun p=>[nI p.1,nI p.2.1,.vp [Bv p.2.2] 0 0]) (out:=fun p=>kA .i64 (GG (HV p.2.2 p.2.1) (HV p.2.2 p.1))) (x,y,c) ⟨h,hx,hy⟩ (by
  rintro ⟨a,b,d⟩ h
  simp only [lx96,AV.vp.injEq,Az,Du] at h
  rw [T4 h.1,T4 h.2.1,CS h.2.2]) :)
theorem Bbm:DK Tryz.prog 111 f111:=AE <| by
 rintro ⟨x,y,c⟩ ⟨hq,hx,hy⟩
 simp only at hq hx hy ⊢
 have h1:decide ((x:Int) < (c.pri.length:Int))=true:=Ae
 have h2:decide ((y:Int) < (c.pri.length:Int))=true:=Ae
 have h3:decide (x < c.pri.length)=true:=Ae
 have h4:decide (y < c.pri.length)=true:=Ae
 have hkx:c.pri.getD x default=HV c x:=rfl
 have hky:c.pri.getD y default=HV c y:=rfl
 refine Ad (Ar ((.cons Arf .nil)) (.nil)) rfl Tryz.func111 rfl (by decide) (by kernel_rfl) (by kernel_rfl) ?_
 simp only [Tryz.f111,Af,lx53,lx63,Nat.reduceAdd,Nat.reduceSub,List.replicate]
 refine Ab ?_
 exact I2 (a8 h1 h2 h3 h4 hkx hky @Ob @Bb2)
 repeat' (first | exact Ac (by kernel_rfl) | refine ⟨Ac (by kernel_rfl),?_⟩ | refine And.intro ?_ ?_ | fail)
 all_goals done
noncomputable def Aix (c:Cd) (v:Nat):Ctx:=⟨fun i=>(i:Int),c.pri.length,HV c,v,0,36,7,[Bv c],f111⟩
theorem Amw {c:Cd} (h:Fit c) (v:Nat):CtxOk (Aix c v) where
 hc:=Bbm
 he x y hx hy:=Bge c x y h hx hy
 inj x y _ _ h:=by
  simp only [Yr,Aix,AV.sc.injEq,Value.int.injEq,Du] at h
  omega
 n:=OU h.pri (by decide)
theorem T5 {c:Cd} (h:Bf c=0) {i:Nat} (hi:i < c.pri.length):0≤HV c i∧HV c i≤99:=by
 have:=(IS h).2.1
 rw [Ic,JK,JL] at this
 have h1:=this.1
 simp only [Yi,JL] at h1
 have h2:=lx97.1 h1.1.1.2 _ (Cf hi)
 simp only [XA,Hs,KT] at h2
 exact Gr.1 h2
theorem Amx {K:Nat→Int} {n:Nat} (hK:∀ i,i < n→0≤K i∧K i≤99):(OL K n 100).length=n:=by
 have hst:Stb K (List.range n):=fun i j h1 h2 _=>by
  rw [List.length_range] at h2
  rw [Gi (by omega),Gi h2]; exact h1
 have g1:=(Aas (a:=0) (b:=n) hst (by simp)).1.len
 rw [Xa K n hK,List.length_range] at g1
 exact g1
theorem MF {c:Cd} (h:Bf c=0):(HW c).length=c.pri.length:=Amx fun i hi=>T5 h hi
theorem T6 {c:Cd} (h:Bf c=0) {x:Nat} (hx:x ∈ HW c):x < c.pri.length:=((OM (HV c) c.pri.length (fun i hi=>(T5 h hi).2) 100 x).1 hx).1
theorem Xc (c:Cd) (hq:Fit c) (h:Bf c=0):Hz Tryz.prog 71 [Bv c] (.vw false ((HW c).map nI)):=by
 have hlm:=B9 h
 have hR:Lx (HV c) (List.range c.pri.length) 0 c.pri.length=HW c:=Xa _ _ fun i hi=>T5 h hi
 have hln:=MF h
 obtain ⟨F,k110,E⟩:∃ F,M8 Tryz.prog 110 F∧∀ v cnt,F [.sl 1 v 0 c.pri.length,.fn 111 [.pt 0 0 0 0]] [⟨true,0,36,7,[Bv c],false⟩,⟨true,v,3,1,(List.range c.pri.length).map nI,false⟩] cnt=some (.tu [],[⟨true,0,36,7,[Bv c],false⟩,⟨true,v,3,1,(HW c).map nI,false⟩],cnt):=by
  refine ⟨Xz (fun _:Nat × Nat=>True) (fun p=>([.sl 1 p.1 0 c.pri.length,.fn 111 [.pt 0 0 0 0]],[⟨true,0,36,7,[Bv c],false⟩,⟨true,p.1,3,1,(List.range c.pri.length).map nI,false⟩],p.2)) (fun p=>(.tu [],[⟨true,0,36,7,[Bv c],false⟩,⟨true,p.1,3,1,(HW c).map nI,false⟩],p.2)),G6 ?_,fun v cnt=>?_⟩
  ·rintro ⟨v,cnt⟩ -
   have:=Adk (Amw hq v) (List.range c.pri.length) cnt ⟨by simp [Aix],fun i hi=>by
    have hi:i < c.pri.length:=hi
    rw [Gi hi]; exact hi⟩ (by simp only [Aix]; omega)
   simp only [Aix,daV,cmV,blC,blD,hR] at this
   exact this
  ·exact G5 (q:=fun _:Nat × Nat=>True) (enc:=fun p=>([.sl 1 p.1 0 c.pri.length,.fn 111 [.pt 0 0 0 0]],[⟨true,0,36,7,[Bv c],false⟩,⟨true,p.1,3,1,(List.range c.pri.length).map nI,false⟩],p.2)) (out:=fun p=>(.tu [],[⟨true,0,36,7,[Bv c],false⟩,⟨true,p.1,3,1,(HW c).map nI,false⟩],p.2)) (v,cnt) trivial (by
    rintro ⟨v',cnt'⟩ - h
    simp only [lx40,lx96,AV.sl.injEq,Az,Du] at h
    rw [h.1,h.2.2])
 refine D1 (Aj (lit:=false) (pm:=fun _=>none) .nil .nil .nil (.cons k110 .nil)) rfl Tryz.func71 rfl (by decide) (by kernel_rfl) (by simp [AV.noref,Nn]) ?_
 simp only [Tryz.f71,Af,lx53,lx63,Nat.reduceAdd,Nat.reduceSub,List.replicate]
 refine Ab ?_
 refine gC0 ?_
 refine Av (T':=Bm 0 20 [(1,.pt 0 0 0 0),(3,.vw true []),(7,.sc (.int .i64 c.pri.length)),(8,.sc (.int .i64 ((0:Nat):Int)))]) ?_ (AM _) (Aw _) ?_
 ·exact F4
 refine E6 (T':=Bm 0 20 [(1,.pt 0 0 0 0),(3,.sl 1 1 0 0),(7,.sc (.int .i64 c.pri.length)),(8,.sc (.int .i64 ((0:Nat):Int)))]) 1 3 1 2 (by omega) (by omega) ?_ (EW _ _ _) ?_
 ·exact Ael
 refine Ac5 ?_
 refine Am (σ:=Nat × Nat) (fun y cnt=>⟨Bm 0 20 [(1,.pt 0 0 0 0),(3,.sl 1 y.2 0 y.1),(7,.sc (.int .i64 c.pri.length)),(8,.sc (.int .i64 y.1))],[⟨true,0,36,7,[Bv c],false⟩,⟨true,y.2,3,1,(List.range y.1).map nI,false⟩],cnt⟩)
  (fun y=>y.1≤c.pri.length) (fun y=>c.pri.length - y.1) (0,1) (BT _) (CT _) ?_ rfl ?_
 ·simp (maxSteps:=10000000) only [AX,AW,Aa,List.range_zero]
 rintro ⟨k,v⟩ cnt hk ih
 simp only at hk
 by_cases hk':k < c.pri.length
 ·have h1:decide ((k:Int) < (c.pri.length:Int))=true:=by rw [AR]; omega
  have w1:IntKind.i64.wrap ((k:Int)+1)=((k+1:Nat):Int):=Ay
  have hsz:decide ((k+1) * 8≤140737488355328)=true:=Ae
  have ht:List.take k ((List.range k).map nI)=(List.range k).map nI:=lx118 (by simp)
  have ha:(List.range k).map nI++[AV.sc (.int .i64 (k:Int))]=(List.range (k+1)).map nI:=by rw [List.range_succ,lx12]; rfl
  have ih:=fun v c=>ih (k+1,v) c (by simp only; omega) (by simp only; omega)
  simp only at ih
  refine Ab ?_
  refine BJ ?_
  refine NC (a5 h1 w1 hsz ht ha) ?_
  refine Av ?_ ?_ (Aw _) (ih (cnt+1) _)
  all_goals exact qc5
 obtain rfl:k=c.pri.length:=Ai
 have h1:decide ((c.pri.length:Int) < (c.pri.length:Int))=false:=Bc
 have E:=E v cnt
 simp only [Aa] at E
 have ht:List.take c.pri.length ((HW c).map nI)=(HW c).map nI:=lx118 (by simp [hln])
 clear ih
 refine Ab ?_
 refine BJ ?_
 refine NC (a3 h1 E ht) ?_
 all_goals first | (simp [AV.freshIn,C5,AO,Cc,AV.fresh,Adl]; done) | skip
 all_goals done
noncomputable def Yt (c:Cd):List Nat:=open Classical in if Bf c=0 then HW c else []
theorem Abj {c:Cd} (h:Bf c=0):Yt c=HW c:=by rw [Yt,if_pos h]
theorem Amy {c:Cd} (h:Bf c≠0):Yt c=[]:=by rw [Yt,if_neg h]
noncomputable def f33:=Er Fit (fun c=>[Bv c]) (fun c=>.vw false ((Yt c).map nI))
theorem e33 (c:Cd) (h:Fit c):f33 [Bv c]=some (.vw false ((Yt c).map nI)):=
 (AJ (q:=Fit) (enc:=fun c=>[Bv c]) (out:=fun c=>.vw false ((Yt c).map nI)) c h (by
  intro b h
  simp only [lx96,Az] at h
  rw [CS h]) :)
def QR (K:Nat→Int) (n q:Nat):Nat→List Nat
 | 0=>OL K n q
 | m+1=>if K m=99 - (q:Int) then QR K n q m++[m] else QR K n q m
theorem Aiy (K:Nat→Int) (n q:Nat):∀ m,QR K n q m=OL K n q++(List.range m).filter (fun i=>K i == 99 - (q:Int))
 | 0=>by simp [QR]
 | m+1=>by
  rw [QR,Aiy K n q m,List.range_succ,List.filter_append]
  by_cases h:K m=99 - (q:Int)
  ·rw [if_pos h]; simp [h]
  ·rw [if_neg h]; simp [h]
theorem Amz (K:Nat→Int) (n q:Nat):QR K n q n=OL K n (q+1):=by rw [Aiy,OL]
theorem Abk (K:Nat→Int) (n q:Nat):∀ m,(QR K n q m).length≤(OL K n q).length+m
 | 0=>by simp [QR]
 | m+1=>by
  have:=Abk K n q m
  rw [QR]; split
  ·simp; omega
  ·omega
theorem Aiz (K:Nat→Int) (n:Nat):∀ q,(OL K n q).length≤q * n
 | 0=>by simp [OL]
 | q+1=>by
  have h1:=Aiz K n q
  have h2:((List.range n).filter (fun i=>K i == 99 - (q:Int))).length≤n:=by
   have:=lx86 (fun i=>K i == 99 - (q:Int)) (List.range n)
   simpa using this
  rw [OL,lx5,Nat.succ_mul]; omega
theorem Bgf:VOk Tryz.prog 38 f33:=Lr fun c hq=>by
 have x1:=e53 c hq
 simp only [Aa] at x1
 by_cases h:Bf c=0
 rotate_left
 ·have b1:(Bf c != 0)=true:=by simpa using h
  rw [Amy h]
  refine BO (Aj (lit:=false) (pm:=fun _=>none) (.cons Ami .nil) .nil .nil .nil) rfl Tryz.func38 rfl (by decide) (by kernel_rfl) (by simp [AV.noref,norefs]) ?_
  simp only [Tryz.f38,Af,lx53,lx63,Nat.reduceAdd,Nat.reduceSub,List.replicate]
  refine Ab ?_
  exact I2 (a2 x1 b1)
  all_goals done
 have b1:(Bf c != 0)=false:=by simp [h]
 have hlm:=B9 h
 rw [Abj h,HW]
 obtain ⟨W,hW⟩:∃ W:Nat→Nat→List Nat,(fun q m=>QR (HV c) c.pri.length q m)=W:=⟨_,rfl⟩
 have hW':∀ q m,QR (HV c) c.pri.length q m=W q m:=fun q m=>by rw [←hW]
 have hS:∀ q m,W q (m+1)=if HV c m=99 - (q:Int) then W q m++[m] else W q m:=fun q m=>by rw [←hW',←hW']; rfl
 have h00:W 0 0=[]:=by rw [←hW']; rfl
 have hN:∀ q,W q c.pri.length=W (q+1) 0:=fun q=>by rw [←hW',Amz,←hW']; rfl
 have hE:OL (HV c) c.pri.length 100=W 100 0:=by rw [←hW']; rfl
 have hL:∀ q m,q≤100→m≤16→(W q m).length≤1616:=fun q m hq hm=>by
  have h1:=Abk (HV c) c.pri.length q m
  have h2:=Aiz (HV c) c.pri.length q
  have h3:q * c.pri.length≤100 * 16:=Nat.mul_le_mul hq hlm.2.2.2.1
  rw [←hW']; omega
 obtain ⟨RES,hRES⟩:∃ R,W 100 0=R:=⟨_,rfl⟩
 rw [hE,hRES]
 clear hE hW hW'
 refine BO (Aj (lit:=false) (pm:=fun _=>none) (.cons Ami .nil) .nil .nil .nil) rfl Tryz.func38 rfl (by decide) (by kernel_rfl) (by simp [AV.noref,Nn]) ?_
 simp only [Tryz.f38,Af,lx53,lx63,Nat.reduceAdd,Nat.reduceSub,List.replicate]
 refine Ab ?_
 refine NC (a2 x1 b1) ?_
 clear x1 b1
 refine Av (T':=Bm 0 32 [(1,.pt 0 0 0 0),(3,.vw true []),(4,.sc (.int .i64 (99 - ((0:Nat):Int))))]) ?_ (AM _) (Aw _) ?_
 ·simp (maxSteps:=10000000) only [AX,AW,↓reduceIte,reduceCtorEq,Nat.reduceAdd,Nat.reduceEqDiff,Bm,D2,Int.sub_zero]
 refine E6 (T':=Bm 0 32 [(1,.pt 0 0 0 0),(3,.sl 1 1 0 0),(4,.sc (.int .i64 (99 - ((0:Nat):Int))))]) 1 3 1 2 (by omega) (by omega) ?_ (EW _ _ _) ?_
 ·exact Ael
 refine Ac5 ?_
 refine Am (σ:=Nat × Nat) (fun y cnt=>⟨Bm 0 32 [(1,.pt 0 0 0 0),(3,.sl 1 y.2 0 (W y.1 0).length),(4,.sc (.int .i64 (99 - (y.1:Int))))],[⟨true,0,36,7,[Bv c],false⟩,⟨true,y.2,3,1,(W y.1 0).map nI,false⟩],cnt⟩)
  (fun y=>y.1≤100) (fun y=>100 - y.1) (0,1) (BT _) ?_ ?_ rfl ?_
 ·rw [h00]; exact CT _
 ·rw [h00]
  exact I1
 rintro ⟨q,v⟩ cnt hq ih
 simp only at hq
 by_cases hq':q < 100
 rotate_left
 ·obtain rfl:q=100:=by omega
  have h1:decide ((0:Int)≤99 - ((100:Nat):Int))=false:=by decide
  have ht:List.take RES.length (RES.map nI)=RES.map nI:=lx118 (by simp)
  have hnr:=Nn RES
  clear ih hS hN hL
  simp only [hRES]
  refine Ab ?_
  refine BJ ?_
  exact I2 ht
  all_goals done
 have h1:decide ((0:Int)≤99 - (q:Int))=true:=Ae
 refine Ab ?_
 refine BJ ?_
 simp (maxSteps:=10000000) +contextual -implicitDefEqProofs only [AW,St.put,↓reduceIte,CO,Aa,h1]
 refine Am (σ:=Nat × Nat) (fun y cnt=>⟨Bm 0 32 [(1,.pt 0 0 0 0),(3,.sl 1 y.2 0 (W q y.1).length),(4,.sc (.int .i64 (99 - (q:Int)))),(5,.sc (.int .i64 y.1))],[⟨true,0,36,7,[Bv c],false⟩,⟨true,y.2,3,1,(W q y.1).map nI,false⟩],cnt⟩)
  (fun y=>y.1≤c.pri.length) (fun y=>c.pri.length - y.1) (0,v) (BT _) ?_ ?_ rfl ?_
 ·exact F4
 ·exact I1
 rintro ⟨m,v⟩ cn hm jh
 simp only at hm
 by_cases hm':m < c.pri.length
 rotate_left
 ·obtain rfl:m=c.pri.length:=by omega
  have h2:decide ((c.pri.length:Int) < (c.pri.length:Int))=false:=Bc
  have w1:IntKind.i64.wrap (99 - (q:Int) - 1)=99 - ((q+1:Nat):Int):=Ay
  have ih:=fun c=>ih (q+1,v) c (by simp only; omega) (by simp only; omega)
  simp only [←hN] at ih
  clear jh hS hN
  refine Ab ?_
  refine BJ ?_
  refine NC (a2 h2 w1) ?_
  exact Jw
 have h2:decide ((m:Int) < (c.pri.length:Int))=true:=Ae
 have h3:decide (m < c.pri.length)=true:=Ae
 have w1:IntKind.i64.wrap ((m:Int)+1)=((m+1:Nat):Int):=Ay
 have hk:c.pri.getD m default=HV c m:=rfl
 have hlw:=hL q m hq (by omega)
 have jh:=fun v c=>jh (m+1,v) c (by simp only; omega) (by simp only; omega)
 simp only [hS] at jh
 clear ih hS hN hL
 obtain ⟨O,hO⟩:∃ O,W q m=O:=⟨_,rfl⟩
 rw [hO] at hlw
 simp only [hO] at jh ⊢
 obtain ⟨x,hx⟩:∃ x,HV c m=x:=⟨_,rfl⟩
 rw [hx] at hk
 simp only [hx] at jh
 refine Ab ?_
 by_cases hp:x=99 - (q:Int)
 ·have b2:(x == 99 - (q:Int))=true:=by rw [lx85]; exact hp
  simp only [if_pos hp] at jh
  have hsz:decide ((O.length+1) * 8≤140737488355328)=true:=Ae
  have ht:List.take O.length (O.map nI)=O.map nI:=lx118 (by simp)
  have ha:O.map nI++[AV.sc (.int .i64 (m:Int))]=(O++[m]).map nI:=Rq
  refine BJ ?_
  refine NC (a8 h2 h3 hk b2 w1 hsz ht ha) ?_
  refine Av ?_ ?_ (Aw _) (jh (cn+1) _)
  all_goals simp (maxSteps:=10000000) only [AX,AW,↓reduceIte,reduceCtorEq,Nat.reduceAdd,Nat.reduceEqDiff,Bm,D2,Aa,lx5]
  all_goals done
 ·have b2:(x == 99 - (q:Int))=false:=by rw [lx113]; exact hp
  simp only [if_neg hp] at jh
  refine BJ ?_
  refine NC (a5 h2 h3 hk b2 w1) ?_
  refine Av ?_ ?_ (Aw _) (jh v _)
  all_goals exact qc5
end Go.Proofs.YtdjpkhjaibdogaaGreat
