/-
  Joined texts: DS.
  Conditions: none.
-/
import Derived.Test.YtdjpkhjaibdogaaGreatL36
import Derived.Test.YtdjpkhjaibdogaaGreatL21
import Derived.Test.YtdjpkhjaibdogaaGreatL17
namespace Go.Proofs.YtdjpkhjaibdogaaGreat
open Go Go.SX
set_option linter.unusedSimpArgs false
set_option linter.unusedVariables false
attribute [local congr] ite_congr
set_option maxRecDepth 100000
set_option maxHeartbeats 8000000
theorem cmp_neg (x y:Int):decide (cmpI x y < 0)=decide (x < y):=by
 unfold cmpI
 split
 ·rename_i h; simp [h]
 ·rename_i h
  split <;> simp [h]
def elF (r:Nat→Int) (i:Nat):AV:=.sc (.int .i64 (r i))
theorem elF_eq (r:Nat→Int) (i:Nat):elF r i=.sc (.int .i64 (r i)):=rfl
theorem set_el (r:Nat→Int) (t:List Nat) (j x:Nat):(t.map (elF r)).set j (.sc (.int .i64 (r x)))=(t.set j x).map (elF r):=by
 rw [List.map_set]; rfl
structure Ctx where
 r:Nat→Int
 n:Nat
 K:Nat→Int
 v:Nat
 v0:Nat
 ty0:Nat
 es0:Nat
 els0:List AV
 fc:List AV→Option AV
structure CtxOk (C:Ctx):Prop where
 hc:POk Tryz.prog 111 C.fc
 he:∀ x y,x < C.n→y < C.n→C.fc [elF C.r x,elF C.r y,.vp C.els0 0 0]=some (.sc (.int .i64 (cmpI (C.K y) (C.K x))))
 inj:∀ x y,x < C.n→y < C.n→elF C.r x=elF C.r y→x=y
 n:C.n≤1000000
def blD (C:Ctx) (t:List Nat):Blk:=⟨true,C.v,3,1,t.map (elF C.r),false⟩
def blC (C:Ctx):Blk:=⟨true,C.v0,C.ty0,C.es0,C.els0,false⟩
def cmV (C:Ctx):AV:=.fn 111 [.pt 0 C.v0 0 0]
def daV (C:Ctx):AV:=.sl 1 C.v 0 C.n
def TagQ (C:Ctx) (t:List Nat):Prop:=t.length=C.n∧∀ i,i < C.n→t.getD i default < C.n
theorem blD_inj {C:Ctx} (h:CtxOk C) {t u:List Nat} (ht:TagQ C t) (hu:TagQ C u) (e:blD C t=blD C u):t=u:=by
 simp only [blD,Blk.mk.injEq,true_and,and_true] at e
 refine List.ext_getElem (by rw [ht.1,hu.1]) fun i h1 h2=>?_
 have e1:(t.map (elF C.r))[i]?=(u.map (elF C.r))[i]?:=by rw [e]
 rw [List.getElem?_map,List.getElem?_map,List.getElem?_eq_getElem h1,List.getElem?_eq_getElem h2] at e1
 simp only [Option.map_some,Option.some.injEq] at e1
 have g1:=ht.2 i (by rw [←ht.1]; exact h1)
 have g2:=hu.2 i (by rw [←hu.1]; exact h2)
 rw [List.getD_eq_getElem?_getD,List.getElem?_eq_getElem h1,Option.getD_some] at g1
 rw [List.getD_eq_getElem?_getD,List.getElem?_eq_getElem h2,Option.getD_some] at g2
 exact h.inj _ _ g1 g2 e1
theorem TagQ.seg {C:Ctx} {t u:List Nat} {a b:Nat} (h:TagQ C t) (hs:Seg t u a b) (hb:b≤C.n):TagQ C u:=by
 refine ⟨hs.len.trans h.1,fun i hi=>?_⟩
 by_cases c:a≤i∧i < b
 ·obtain ⟨j,_,j2,e⟩:=hs.frm i c.1 c.2
  rw [e]; exact h.2 j (by omega)
 ·rw [hs.out i (by omega)]; exact h.2 i hi
theorem TagQ.sw {C:Ctx} {t:List Nat} {i j:Nat} (h:TagQ C t) (hi:i < C.n) (hj:j < C.n):TagQ C (swT t i j):=
 h.seg (swT_seg (a:=0) (b:=C.n) (Nat.zero_le _) hi (Nat.zero_le _) hj (by rw [h.1]; exact Nat.le_refl _)) (Nat.le_refl _)
theorem kA_nat {a b:Nat} (h:kA .i64 (a:Int)=kA .i64 (b:Int)):a=b:=by
 have:=kA_inj h; omega
noncomputable def insH (C:Ctx):=mkH (fun p:List Nat × Nat × Nat × Nat=>TagQ C p.1∧p.2.1≤p.2.2.1∧p.2.2.1≤C.n) (fun p=>([daV C,kA .i64 p.2.1,kA .i64 p.2.2.1,cmV C],[blC C,blD C p.1],p.2.2.2))
 (fun p=>(.tu [],[blC C,blD C (insF C.K p.1 p.2.1 p.2.2.1)],p.2.2.2))
theorem e_ins {C:Ctx} (h:CtxOk C) (t:List Nat) (a b c:Nat) (ht:TagQ C t) (hab:a≤b) (hb:b≤C.n):
  insH C [daV C,kA .i64 a,kA .i64 b,cmV C] [blC C,blD C t] c=some (.tu [],[blC C,blD C (insF C.K t a b)],c):=
 mkH_eq (q:=fun p:List Nat × Nat × Nat × Nat=>TagQ C p.1∧p.2.1≤p.2.2.1∧p.2.2.1≤C.n) (enc:=fun p=>([daV C,kA .i64 p.2.1,kA .i64 p.2.2.1,cmV C],[blC C,blD C p.1],p.2.2.2))
  (out:=fun p=>(.tu [],[blC C,blD C (insF C.K p.1 p.2.1 p.2.2.1)],p.2.2.2)) (t,a,b,c) ⟨ht,hab,hb⟩ (by
  rintro ⟨t',a',b',c'⟩ ⟨ht',_⟩ e
  simp only [Prod.mk.injEq,List.cons.injEq,and_true,true_and] at e
  obtain ⟨⟨e1,e2⟩,e3,rfl⟩:=e
  rw [kA_nat e1,kA_nat e2,blD_inj h ht' ht e3])
theorem insF_stop {K:Nat→Int} {t:List Nat} {a j:Nat} (h:¬ (a < j∧K (t.getD (j - 1) default) < K (t.getD j default))):insI K a j t=t:=by
 cases j with
 | zero=>rfl
 | succ j=>rw [insI,if_neg (by simpa using h)]
theorem ok_ins {C:Ctx} (h:CtxOk C):HOk Tryz.prog 201 (insH C):=hok_mk <| by
 rintro ⟨t,a,b,cnt⟩ ⟨ht,hab,hb⟩
 obtain ⟨hc,he,hinj,hn⟩:=h
 obtain ⟨r,n,K,v,v0,ty0,es0,els0,fc⟩:=C
 simp only at hc he hn hb hab
 have htl:=ht.1
 simp only at htl
 refine hspecW_of_go (gEnv_ok (lit:=false) (pm:=fun _=>none) (.cons hc .nil) .nil .nil .nil) rfl Tryz.func201 rfl (by decide) (by kernel_rfl) ?_
 simp only [Tryz.f201,initSt,List.length_cons,List.length_nil,Nat.reduceAdd,Nat.reduceSub,List.replicate]
 simp only [blC,blD,daV,cmV]
 obtain ⟨RES,hRES⟩:∃ u,insF K t a b=u:=⟨_,rfl⟩
 rw [hRES]
 have w0:IntKind.i64.wrap ((a:Int)+1)=((a+1:Nat):Int):=by rw [wrap64 (by omega) (by omega)]; omega
 refine vc_go ?_
 simp (maxSteps:=10000000) +contextual -implicitDefEqProofs only [bnC,bnS,St.put,bnH,kA_eq,w0]
 refine go_loopW (σ:=Nat × List Nat) (fun y _=>⟨mkT 0 53 [(0,.sl 1 v 0 n),(1,.sc (.int .i64 a)),(2,.sc (.int .i64 b)),(3,.fn 111 [.pt 0 v0 0 0]),(8,.sc (.int .i64 y.1))],[⟨true,v0,ty0,es0,els0,false⟩,⟨true,v,3,1,y.2.map (elF r),false⟩],cnt⟩)
  (fun y=>a+1≤y.1∧(y.1≤b∨y.1=a+1)∧TagQ ⟨r,n,K,v,v0,ty0,es0,els0,fc⟩ y.2∧insO K a t (y.1 - a - 1)=y.2) (fun y=>b - y.1) (a+1,t) ⟨by simp only; omega,.inr rfl,ht,by simp only; rw [show a+1 - a - 1=0 by omega]; rfl⟩ ?_ ?_ rfl ?_
 ·simp (maxSteps:=10000000) only [bnC,bnS,↓reduceIte,reduceCtorEq,Nat.reduceAdd,Nat.reduceEqDiff,mkT,lkT]
 ·simp (maxSteps:=10000000) only [bnC,bnS]
 rintro ⟨i,u⟩ cn ⟨hi1,hi2,hu,hins⟩ ih
 simp only at hi1 hi2 hu hins
 have hul:=hu.1
 have hut:=hu.2
 simp only at hul hut
 by_cases hib:i < b
 rotate_left
 ·have q1:decide ((i:Int) < (b:Int))=false:=by rw [decide_eq_false_iff_not]; omega
  have hfin:RES=u:=by
   rw [←hRES,←hins,insF]
   congr 1; omega
  rw [hfin]
  refine vc_go ?_
  simp (maxSteps:=10000000) only [mkT,lkT,Nat.reduceAdd,Nat.reduceEqDiff,↓reduceIte,Nat.zero_add]
  simp (maxSteps:=10000000) +contextual -implicitDefEqProofs only [bnC,bnS,St.put,↓reduceIte,bnH,q1]
  all_goals first | exact .refl _ | rfl | trivial | omega
 have q1:decide ((i:Int) < (b:Int))=true:=by rw [decide_eq_true_eq]; omega
 obtain ⟨m,rfl⟩:∃ m,i=a+m+1:=⟨i - a - 1,by omega⟩
 rw [show a+m+1 - a - 1=m by omega] at hins
 have w1:IntKind.i64.wrap (((a+m+1:Nat):Int)+1)=((a+m+1+1:Nat):Int):=by rw [wrap64 (by omega) (by omega)]; omega
 obtain ⟨NX,hNX⟩:∃ x,insI K a (a+m+1) u=x:=⟨_,rfl⟩
 have hnx:insO K a t (m+1)=NX:=by rw [insO,hins,hNX]
 refine vc_go ?_
 simp (maxSteps:=10000000) only [mkT,lkT,Nat.reduceAdd,Nat.reduceEqDiff,↓reduceIte,Nat.zero_add]
 simp (maxSteps:=10000000) +contextual -implicitDefEqProofs only [bnS,St.put,↓reduceIte,bnH,q1]
 refine go_loopW (σ:=Nat × List Nat) (fun y _=>⟨mkT 0 53 [(0,.sl 1 v 0 n),(1,.sc (.int .i64 a)),(2,.sc (.int .i64 b)),(3,.fn 111 [.pt 0 v0 0 0]),(8,.sc (.int .i64 (a+m+1:Nat))),(9,.sc (.int .i64 y.1))],[⟨true,v0,ty0,es0,els0,false⟩,⟨true,v,3,1,y.2.map (elF r),false⟩],cnt⟩)
  (fun y=>y.1≤a+m+1∧a≤y.1∧TagQ ⟨r,n,K,v,v0,ty0,es0,els0,fc⟩ y.2∧insI K a y.1 y.2=NX) (fun y=>y.1) (a+m+1,u) ⟨Nat.le_refl _,by simp only; omega,hu,hNX⟩ ?_ ?_ rfl ?_
 ·simp (maxSteps:=10000000) only [bnC,bnS,↓reduceIte,reduceCtorEq,Nat.reduceAdd,Nat.reduceEqDiff,mkT,lkT]
 ·simp (maxSteps:=10000000) only [bnC,bnS]
 rintro ⟨j,s⟩ cm ⟨hj1,hj2,hs,hns⟩ jh
 simp only at hj1 hj2 hs hns
 have hsl:=hs.1
 have hst:=hs.2
 simp only at hsl hst
 have hend:insI K a j s=s→NX=s:=fun h=>by rw [←hns,h]
 by_cases hja:a < j
 rotate_left
 ·have q2:decide ((a:Int) < (j:Int))=false:=by rw [decide_eq_false_iff_not]; omega
  have hfin:=hend (insF_stop (fun h=>hja h.1))
  refine vc_go ?_
  simp (maxSteps:=10000000) only [mkT,lkT,Nat.reduceAdd,Nat.reduceEqDiff,↓reduceIte,Nat.zero_add]
  simp (maxSteps:=10000000) +contextual -implicitDefEqProofs only [bnC,bnS,guardV,St.put,↓reduceIte,Nat.reduceAdd,bnT,Int.reduceAdd,bnH,callGA_un,q2,w1]
  repeat' (first | exact chk_no (by kernel_rfl) | refine ⟨chk_no (by kernel_rfl),?_⟩ | refine And.intro ?_ ?_ | fail)
  refine go_weak ?_ ?_ (Nat.le_refl _) (ih (a+m+1+1,s) 0 ⟨by simp only; omega,by simp only; omega,hs,by simp only; rw [show a+m+1+1 - a - 1=m+1 by omega,hnx,hfin]⟩ (by simp only; omega))
  all_goals simp (maxSteps:=10000000) only [bnC,bnS,↓reduceIte,reduceCtorEq,Nat.reduceAdd,Nat.reduceEqDiff,mkT,lkT]
 have q2:decide ((a:Int) < (j:Int))=true:=by rw [decide_eq_true_eq]; omega
 obtain ⟨k,rfl⟩:∃ k,j=k+1:=⟨j - 1,by omega⟩
 have w2:IntKind.i64.wrap (((k+1:Nat):Int) - 1)=(k:Int):=by rw [wrap64 (by omega) (by omega)]; omega
 have q3:decide (k+1 < s.length)=true:=by rw [decide_eq_true_eq]; omega
 have q4:decide (k < s.length)=true:=by rw [decide_eq_true_eq]; omega
 have q5:decide (((k+1:Nat):Int) < (n:Int))=true:=by rw [decide_eq_true_eq]; omega
 have q6:decide ((k:Int) < (n:Int))=true:=by rw [decide_eq_true_eq]; omega
 have hcm:=he (s.getD (k+1) default) (s.getD k default) (hst _ (by omega)) (hst _ (by omega))
 simp only [elF_eq] at hcm
 have q7:=cmp_neg (K (s.getD k default)) (K (s.getD (k+1) default))
 refine vc_go ?_
 by_cases hlt:K (s.getD k default) < K (s.getD (k+1) default)
 ·rw [decide_eq_true hlt] at q7
  have s1:=fun t j x=>set_el r t j x
  have hsw:(s.set (k+1) (s.getD k default)).set k (s.getD (k+1) default)=swT s (k+1) k:=rfl
  have hnx2:insI K a k (swT s (k+1) k)=NX:=by rw [←hns,insI,if_pos ⟨hja,hlt⟩]
  simp (maxSteps:=10000000) only [mkT,lkT,Nat.reduceAdd,Nat.reduceEqDiff,↓reduceIte,Nat.zero_add]
  simp (maxSteps:=10000000) +contextual -implicitDefEqProofs only [bnC,bnS,guardV,St.put,borrow,borrows,pin,pl,↓reduceIte,Nat.reduceAdd,Int.reduceLT,Nat.reduceLT,bnT,Int.reduceAdd,bnH,List.length_set,get_mapN,elF_eq,q2,q3,q4,q5,q6,q7,w2,hcm,s1,hsw]
  repeat' (first | exact chk_no (by kernel_rfl) | refine ⟨chk_no (by kernel_rfl),?_⟩ | refine And.intro ?_ ?_ | fail)
  refine go_weak ?_ ?_ (Nat.le_refl _) (jh (k,swT s (k+1) k) 0 ⟨by simp only; omega,by simp only; omega,hs.sw (by simp only; omega) (by simp only; omega),hnx2⟩ (by simp only; omega))
  all_goals simp (maxSteps:=10000000) only [bnC,bnS,↓reduceIte,reduceCtorEq,Nat.reduceAdd,Nat.reduceEqDiff,mkT,lkT]
  all_goals done
 ·rw [decide_eq_false hlt] at q7
  have hfin:=hend (insF_stop (by simp only [Nat.add_sub_cancel]; exact fun h=>hlt h.2))
  simp (maxSteps:=10000000) only [mkT,lkT,Nat.reduceAdd,Nat.reduceEqDiff,↓reduceIte,Nat.zero_add]
  simp (maxSteps:=10000000) +contextual -implicitDefEqProofs only [bnC,bnS,guardV,St.put,borrow,borrows,pin,pl,↓reduceIte,Nat.reduceAdd,bnT,Int.reduceAdd,bnH,get_mapN,elF_eq,q2,q3,q4,q5,q6,q7,w1,w2,hcm]
  repeat' (first | exact chk_no (by kernel_rfl) | refine ⟨chk_no (by kernel_rfl),?_⟩ | refine And.intro ?_ ?_ | fail)
  refine go_weak ?_ ?_ (Nat.le_refl _) (ih (a+m+1+1,s) 0 ⟨by simp only; omega,by simp only; omega,hs,by simp only; rw [show a+m+1+1 - a - 1=m+1 by omega,hnx,hfin]⟩ (by simp only; omega))
  all_goals simp (maxSteps:=10000000) only [bnC,bnS,↓reduceIte,reduceCtorEq,Nat.reduceAdd,Nat.reduceEqDiff,mkT,lkT]
  all_goals done
end Go.Proofs.YtdjpkhjaibdogaaGreat
