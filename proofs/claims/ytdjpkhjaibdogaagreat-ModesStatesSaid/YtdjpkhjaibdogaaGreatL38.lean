/-
  Joined texts: DT.
  Conditions: none.
-/
import Derived.Test.YtdjpkhjaibdogaaGreatL37
namespace Go.Proofs.YtdjpkhjaibdogaaGreat
open Go Go.SX
set_option linter.unusedSimpArgs false
set_option linter.unusedVariables false
attribute [local congr] ite_congr
set_option maxRecDepth 100000
set_option maxHeartbeats 8000000
theorem range_get {n k:Nat} (h:k < n):(List.range n).getD k default=k:=by
 rw [List.getD_eq_getElem?_getD,List.getElem?_eq_getElem (by simpa using h)]; simp
theorem uniq {K:Nat→Int} {u w:List Nat} {n:Nat} (hu:u.length=n) (hw:w.length=n) (su:Srt K u 0 n) (sw:Srt K w 0 n) (bu:Stb K u) (bw:Stb K w)
  (uw:∀ i,i < n→∃ j,j < n∧u.getD i default=w.getD j default) (wu:∀ i,i < n→∃ j,j < n∧w.getD i default=u.getD j default):u=w:=by
 have inj:∀ (v:List Nat),v.length=n→Stb K v→∀ a b,a < b→b < n→v.getD a default=v.getD b default→False:=fun v hv bv a b h1 h2 e=>by
  have:=bv a b h1 (by omega) (by rw [e])
  omega
 have main:∀ i,i < n→u.getD i default=w.getD i default:=by
  intro i
  induction i using Nat.strongRecOn with
  | ind i ih=>
   intro hi
   obtain ⟨k,hk,ek⟩:=uw i hi
   obtain ⟨l,hl',el⟩:=wu i hi
   have k1:¬ k < i:=fun h=>inj u hu bu k i h hi (by rw [ih k h hk,ek])
   have l1:¬ l < i:=fun h=>inj w hw bw l i h hi (by rw [←ih l h hl',el])
   by_cases hki:k=i
   ·rw [ek,hki]
   by_cases hli:l=i
   ·rw [el,hli]
   have s1:=su i l (Nat.zero_le _) (by omega) hl'
   have s2:=sw i k (Nat.zero_le _) (by omega) hk
   rw [←el] at s1
   rw [←ek] at s2
   have e:K (u.getD i default)=K (w.getD i default):=by omega
   have b1:=bu i l (by omega) (by omega) (by rw [e,el])
   have b2:=bw i k (by omega) (by omega) (by rw [←e,ek])
   omega
 refine List.ext_getElem (by omega) fun i h1 h2=>?_
 have:=main i (by omega)
 rw [List.getD_eq_getElem?_getD,List.getD_eq_getElem?_getD,List.getElem?_eq_getElem h1,List.getElem?_eq_getElem h2] at this
 exact this
def tgO (K:Nat→Int) (n:Nat):Nat→List Nat
 | 0=>[]
 | q+1=>tgO K n q++(List.range n).filter (fun i=>K i == 99 - (q:Int))
theorem tgO_mem (K:Nat→Int) (n:Nat) (hK:∀ i,i < n→K i≤99):∀ q x,x ∈ tgO K n q↔x < n∧99 - (q:Int) < K x
 | 0,x=>by
  simp only [tgO,List.not_mem_nil,false_iff,not_and]
  intro hx; have:=hK x hx; omega
 | q+1,x=>by
  rw [tgO,List.mem_append,tgO_mem K n hK q x,List.mem_filter,List.mem_range,beq_iff_eq]
  constructor
  ·rintro (⟨h1,h2⟩ | ⟨h1,h2⟩)
   ·exact ⟨h1,by omega⟩
   ·exact ⟨h1,by omega⟩
  ·rintro ⟨h1,h2⟩
   by_cases h:K x=99 - (q:Int)
   ·exact .inr ⟨h1,h⟩
   ·exact .inl ⟨h1,by omega⟩
theorem tgO_pw (K:Nat→Int) (n:Nat) (hK:∀ i,i < n→K i≤99):∀ q,(tgO K n q).Pairwise fun a b=>K b≤K a∧(K a=K b→a < b)
 | 0=>.nil
 | q+1=>by
  rw [tgO]
  refine List.pairwise_append.2 ⟨tgO_pw K n hK q,?_,fun a ha b hb=>?_⟩
  ·have h1:(List.range n).Pairwise (fun a b=>a < b):=List.pairwise_lt_range
   have h2:((List.range n).filter (fun i=>K i == 99 - (q:Int))).Pairwise (fun a b=>a < b):=h1.filter _
   refine (List.pairwise_iff_getElem.2 fun i j hi hj hij=>?_)
   have g1:=List.pairwise_iff_getElem.1 h2 i j hi hj hij
   have g2:=(List.mem_filter.1 (List.getElem_mem hi)).2
   have g3:=(List.mem_filter.1 (List.getElem_mem hj)).2
   simp only [beq_iff_eq] at g2 g3
   exact ⟨by omega,fun _=>g1⟩
  ·have h1:=(tgO_mem K n hK q a).1 ha
   have h2:=(List.mem_filter.1 hb).2
   simp only [beq_iff_eq] at h2
   exact ⟨by omega,fun h=>by omega⟩
theorem getD_of {l:List Nat} {i:Nat} (h:i < l.length):l.getD i default=l[i]:=by
 rw [List.getD_eq_getElem?_getD,List.getElem?_eq_getElem h]; rfl
theorem tgO_insF (K:Nat→Int) (n:Nat) (hK:∀ i,i < n→0≤K i∧K i≤99):insF K (List.range n) 0 n=tgO K n 100:=by
 have hst:Stb K (List.range n):=fun i j h1 h2 _=>by
  rw [List.length_range] at h2
  rw [range_get (by omega),range_get h2]; exact h1
 obtain ⟨g1,g2,g3⟩:=insF_ok (a:=0) (b:=n) hst (by simp)
 have hp:=tgO_pw K n (fun i hi=>(hK i hi).2) 100
 have hm:∀ x,x ∈ tgO K n 100↔x < n:=fun x=>by
  rw [tgO_mem K n (fun i hi=>(hK i hi).2)]
  exact ⟨fun h=>h.1,fun h=>⟨h,by have:=hK x h; omega⟩⟩
 have hnd:(tgO K n 100).Nodup:=hp.imp fun h e=>by
  subst e
  exact absurd (h.2 rfl) (Nat.lt_irrefl _)
 have hperm:(tgO K n 100).Perm (List.range n):=(List.perm_ext_iff_of_nodup hnd List.nodup_range).2 fun a=>by rw [hm,List.mem_range]
 have hlen:(tgO K n 100).length=n:=by rw [hperm.length_eq,List.length_range]
 have hidx:∀ x,x < n→∃ j,j < n∧(tgO K n 100).getD j default=x:=fun x hx=>by
  obtain ⟨j,hj,e⟩:=List.getElem_of_mem ((hm x).2 hx)
  exact ⟨j,by omega,by rw [getD_of hj,e]⟩
 refine uniq (by rw [g1.len,List.length_range]) hlen g2 ?_ g3 ?_ (fun i hi=>?_) (fun i hi=>?_)
 ·intro i j _ hij hj
  have:=List.pairwise_iff_getElem.1 hp i j (by omega) (by omega) hij
  rw [getD_of (by omega),getD_of (by omega)]; exact this.1
 ·intro i j hij hj
  have:=List.pairwise_iff_getElem.1 hp i j (by omega) hj hij
  rw [getD_of (by omega),getD_of hj]; exact this.2
 ·obtain ⟨j,_,hj,e⟩:=g1.frm i (Nat.zero_le _) hi
  rw [range_get hj] at e
  obtain ⟨m,h1,h2⟩:=hidx j hj
  exact ⟨m,h1,by rw [e,h2]⟩
 ·have h:(tgO K n 100).getD i default < n:=by
   rw [getD_of (by omega)]
   exact (hm _).1 (List.getElem_mem _)
  obtain ⟨j,_,hj,e⟩:=g1.to _ (Nat.zero_le _) h
  rw [range_get h] at e
  exact ⟨j,hj,e⟩
theorem stable_spec {C:Ctx} (h:CtxOk C) (t:List Nat) (cnt:Nat) (ht:TagQ C t) (hn:C.n < 20):
  HSpec Tryz.prog 154 [daV C,kA .i64 C.n,cmV C] [blC C,blD C t] cnt (.tu []) [blC C,blD C (insF C.K t 0 C.n)] cnt:=by
 have E:=e_ins h t 0 C.n cnt ht (Nat.zero_le _) (Nat.le_refl _)
 refine hspecW_of_go (gEnv_ok (lit:=false) (pm:=fun _=>none) .nil .nil .nil (.cons (ok_ins h) .nil)) rfl Tryz.func154 rfl (by decide) (by kernel_rfl) ?_
 simp only [Tryz.f154,initSt,List.length_cons,List.length_nil,Nat.reduceAdd,Nat.reduceSub,List.replicate]
 obtain ⟨RES,hRES⟩:∃ u,insF C.K t 0 C.n=u:=⟨_,rfl⟩
 rw [hRES] at E ⊢
 obtain ⟨r,n,K,v,v0,ty0,es0,els0,fc⟩:=C
 simp only at hn
 simp only [blC,blD,daV,cmV,kA_eq,Int.natCast_zero] at E ⊢
 have h1:decide ((20:Int)≤(n:Int))=false:=by rw [decide_eq_false_iff_not]; omega
 have h2:decide ((20:Int) < (n:Int))=false:=by rw [decide_eq_false_iff_not]; omega
 refine vc_go ?_
 simp (maxSteps:=10000000) +contextual -implicitDefEqProofs only [bnC,bnS,St.put,bnH]
 refine go_loopW (σ:=Unit) (fun _ c=>⟨mkT 0 63 [(0,.sl 1 v 0 n),(1,.sc (.int .i64 n)),(2,.fn 111 [.pt 0 v0 0 0]),(6,.sc (.int .i64 20)),(7,.sc (.int .i64 0)),(8,.sc (.int .i64 20))],[⟨true,v0,ty0,es0,els0,false⟩,⟨true,v,3,1,t.map (elF r),false⟩],cnt⟩)
  (fun _=>True) (fun _=>0) () trivial ?_ ?_ rfl ?_
 ·simp (maxSteps:=10000000) only [bnC,bnS,↓reduceIte,reduceCtorEq,Nat.reduceAdd,Nat.reduceEqDiff,mkT,lkT]
 ·simp (maxSteps:=10000000) only [bnC,bnS]
 rintro _ c - ih
 refine vc_go ?_
 simp (maxSteps:=10000000) only [mkT,lkT,Nat.reduceAdd,Nat.reduceEqDiff,↓reduceIte,Nat.zero_add]
 simp (maxSteps:=10000000) +contextual -implicitDefEqProofs only [bnC,bnS,St.put,pin,↓reduceIte,bnH,hin,hl,h1,E]
 refine go_loopW (σ:=Unit) (fun _ c=>⟨mkT 0 63 [(0,.sl 1 v 0 n),(1,.sc (.int .i64 n)),(2,.fn 111 [.pt 0 v0 0 0]),(6,.sc (.int .i64 20))],[⟨true,v0,ty0,es0,els0,false⟩,⟨true,v,3,1,RES.map (elF r),false⟩],cnt⟩)
  (fun _=>True) (fun _=>0) () trivial ?_ ?_ rfl ?_
 ·simp (maxSteps:=10000000) only [bnC,bnS,↓reduceIte,reduceCtorEq,Nat.reduceAdd,Nat.reduceEqDiff,mkT,lkT]
 ·simp (maxSteps:=10000000) only [bnC,bnS]
 rintro _ c' - ih'
 refine vc_go ?_
 simp (maxSteps:=10000000) only [mkT,lkT,Nat.reduceAdd,Nat.reduceEqDiff,↓reduceIte,Nat.zero_add]
 simp (maxSteps:=10000000) +contextual -implicitDefEqProofs only [bnC,bnS,St.put,↓reduceIte,bnH,h2]
 all_goals first | exact .refl _ | rfl | trivial | omega | skip
 all_goals done
theorem sort_spec {C:Ctx} (h:CtxOk C) (t:List Nat) (cnt:Nat) (ht:TagQ C t) (hn:C.n < 20):
  HSpec Tryz.prog 110 [daV C,cmV C] [blC C,blD C t] cnt (.tu []) [blC C,blD C (insF C.K t 0 C.n)] cnt:=by
 obtain ⟨F,k,E⟩:=hok_atP (stable_spec h t cnt ht hn)
 refine hspecW_of_go (gEnv_ok (lit:=false) (pm:=fun _=>none) .nil .nil .nil (.cons k .nil)) rfl Tryz.func110 rfl (by decide) (by kernel_rfl) ?_
 simp only [Tryz.f110,initSt,List.length_cons,List.length_nil,Nat.reduceAdd,Nat.reduceSub,List.replicate]
 obtain ⟨RES,hRES⟩:∃ u,insF C.K t 0 C.n=u:=⟨_,rfl⟩
 rw [hRES] at E ⊢
 obtain ⟨r,n,K,v,v0,ty0,es0,els0,fc⟩:=C
 simp only [blC,blD,daV,cmV,kA_eq] at E ⊢
 refine vc_go ?_
 simp (maxSteps:=10000000) +contextual -implicitDefEqProofs only [bnC,bnS,St.put,pin,↓reduceIte,bnT,bnH,hin,hl,E]
 all_goals first | exact .refl _ | rfl | trivial | omega | skip
 all_goals done
def keyC (c:Cd) (i:Nat):Int:=c.pri.getD i default
def ordC (c:Cd):List Nat:=tgO (keyC c) c.pri.length 100
def nI (i:Nat):AV:=kA .i64 (i:Int)
theorem nI_eq (i:Nat):nI i=.sc (.int .i64 (i:Int)):=rfl
theorem freshs_nI (l:List Nat):freshs (l.map nI)=true:=freshs_map (f:=nI) (fun _=>by simp [nI,kA,AV.fresh]) l
theorem norefs_nI (l:List Nat):norefs (l.map nI)=true:=norefs_map (f:=nI) (fun _=>by simp [nI,kA,AV.noref]) l
theorem allSz_nI (l:List Nat):allSz 1 (l.map nI)=true:=allSz_map (f:=nI) (fun _=>rfl) l
def sgQ (p:Nat × Nat × Cd):Prop:=Fit p.2.2∧p.1 < p.2.2.pri.length∧p.2.1 < p.2.2.pri.length
noncomputable def f111:=mkF sgQ (fun p=>[nI p.1,nI p.2.1,.vp [cdA p.2.2] 0 0]) (fun p=>kA .i64 (cmpI (keyC p.2.2 p.2.1) (keyC p.2.2 p.1)))
theorem e111 (c:Cd) (x y:Nat) (h:Fit c) (hx:x < c.pri.length) (hy:y < c.pri.length):f111 [nI x,nI y,.vp [cdA c] 0 0]=some (.sc (.int .i64 (cmpI (keyC c y) (keyC c x)))):=
 (mkF_eq (q:=sgQ) (enc:=fun p=>[nI p.1,nI p.2.1,.vp [cdA p.2.2] 0 0]) (out:=fun p=>kA .i64 (cmpI (keyC p.2.2 p.2.1) (keyC p.2.2 p.1))) (x,y,c) ⟨h,hx,hy⟩ (by
  rintro ⟨a,b,d⟩ h
  simp only [List.cons.injEq,AV.vp.injEq,and_true,true_and] at h
  rw [kA_nat h.1,kA_nat h.2.1,cdA_inj h.2.2]) :)
theorem ok111:POk Tryz.prog 111 f111:=pok_mk <| by
 rintro ⟨x,y,c⟩ ⟨hq,hx,hy⟩
 simp only at hq hx hy ⊢
 have h1:decide ((x:Int) < (c.pri.length:Int))=true:=by rw [decide_eq_true_eq]; omega
 have h2:decide ((y:Int) < (c.pri.length:Int))=true:=by rw [decide_eq_true_eq]; omega
 have h3:decide (x < c.pri.length)=true:=by rw [decide_eq_true_eq]; omega
 have h4:decide (y < c.pri.length)=true:=by rw [decide_eq_true_eq]; omega
 have hkx:c.pri.getD x default=keyC c x:=rfl
 have hky:c.pri.getD y default=keyC c y:=rfl
 refine pspec_of_go (fEnv_ok ((.cons ok112 .nil)) (.nil)) rfl Tryz.func111 rfl (by decide) (by kernel_rfl) (by kernel_rfl) ?_
 simp only [Tryz.f111,initSt,List.length_cons,List.length_nil,Nat.reduceAdd,Nat.reduceSub,List.replicate]
 refine vc_go ?_
 simp (maxSteps:=10000000) +contextual -implicitDefEqProofs only [bnC,bnS,St.put,borrow,borrows,pin,pl,↓reduceIte,reduceCtorEq,Nat.reduceAdd,bnT,Int.reduceAdd,bnH,kA_eq,cdA_eq,AV.noref,nI_eq,h1,h2,h3,h4,hkx,hky,e112,ldV_mapN,allSz_kA]
 repeat' (first | exact chk_no (by kernel_rfl) | refine ⟨chk_no (by kernel_rfl),?_⟩ | refine And.intro ?_ ?_ | fail)
 all_goals done
noncomputable def ctxC (c:Cd) (v:Nat):Ctx:=⟨fun i=>(i:Int),c.pri.length,keyC c,v,0,36,7,[cdA c],f111⟩
theorem ctxC_ok {c:Cd} (h:Fit c) (v:Nat):CtxOk (ctxC c v) where
 hc:=ok111
 he x y hx hy:=e111 c x y h hx hy
 inj x y _ _ h:=by
  simp only [elF,ctxC,AV.sc.injEq,Value.int.injEq,true_and] at h
  omega
 n:=Nat.le_trans h.pri (by decide)
theorem keyC_in {c:Cd} (h:validC c=0) {i:Nat} (hi:i < c.pri.length):0≤keyC c i∧keyC c i≤99:=by
 have:=(valid_lim h).2.1
 rw [partC,Bool.not_eq_true',Bool.or_eq_false_iff] at this
 have h1:=this.1
 simp only [prtB,Bool.or_eq_false_iff] at h1
 have h2:=List.any_eq_false.1 h1.1.1.2 _ (getD_mem hi)
 simp only [prB,Bool.not_eq_true,Bool.not_eq_false'] at h2
 exact inI_iff.1 h2
theorem tgO_len {K:Nat→Int} {n:Nat} (hK:∀ i,i < n→0≤K i∧K i≤99):(tgO K n 100).length=n:=by
 have hst:Stb K (List.range n):=fun i j h1 h2 _=>by
  rw [List.length_range] at h2
  rw [range_get (by omega),range_get h2]; exact h1
 have g1:=(insF_ok (a:=0) (b:=n) hst (by simp)).1.len
 rw [tgO_insF K n hK,List.length_range] at g1
 exact g1
theorem ordC_len {c:Cd} (h:validC c=0):(ordC c).length=c.pri.length:=tgO_len fun i hi=>keyC_in h hi
theorem sorted_spec (c:Cd) (hq:Fit c) (h:validC c=0):FSpec Tryz.prog 71 [cdA c] (.vw false ((ordC c).map nI)):=by
 have hlm:=valid_len h
 have hR:insF (keyC c) (List.range c.pri.length) 0 c.pri.length=ordC c:=tgO_insF _ _ fun i hi=>keyC_in h hi
 have hln:=ordC_len h
 obtain ⟨F,k110,E⟩:∃ F,HOk Tryz.prog 110 F∧∀ v cnt,F [.sl 1 v 0 c.pri.length,.fn 111 [.pt 0 0 0 0]] [⟨true,0,36,7,[cdA c],false⟩,⟨true,v,3,1,(List.range c.pri.length).map nI,false⟩] cnt=some (.tu [],[⟨true,0,36,7,[cdA c],false⟩,⟨true,v,3,1,(ordC c).map nI,false⟩],cnt):=by
  refine ⟨mkH (fun _:Nat × Nat=>True) (fun p=>([.sl 1 p.1 0 c.pri.length,.fn 111 [.pt 0 0 0 0]],[⟨true,0,36,7,[cdA c],false⟩,⟨true,p.1,3,1,(List.range c.pri.length).map nI,false⟩],p.2)) (fun p=>(.tu [],[⟨true,0,36,7,[cdA c],false⟩,⟨true,p.1,3,1,(ordC c).map nI,false⟩],p.2)),hok_mk ?_,fun v cnt=>?_⟩
  ·rintro ⟨v,cnt⟩ -
   have:=sort_spec (ctxC_ok hq v) (List.range c.pri.length) cnt ⟨by simp [ctxC],fun i hi=>by
    have hi:i < c.pri.length:=hi
    rw [range_get hi]; exact hi⟩ (by simp only [ctxC]; omega)
   simp only [ctxC,daV,cmV,blC,blD,hR] at this
   exact this
  ·exact mkH_eq (q:=fun _:Nat × Nat=>True) (enc:=fun p=>([.sl 1 p.1 0 c.pri.length,.fn 111 [.pt 0 0 0 0]],[⟨true,0,36,7,[cdA c],false⟩,⟨true,p.1,3,1,(List.range c.pri.length).map nI,false⟩],p.2)) (out:=fun p=>(.tu [],[⟨true,0,36,7,[cdA c],false⟩,⟨true,p.1,3,1,(ordC c).map nI,false⟩],p.2)) (v,cnt) trivial (by
    rintro ⟨v',cnt'⟩ - h
    simp only [Prod.mk.injEq,List.cons.injEq,AV.sl.injEq,and_true,true_and] at h
    rw [h.1,h.2.2])
 refine fspecW_of_go (gEnv_ok (lit:=false) (pm:=fun _=>none) .nil .nil .nil (.cons k110 .nil)) rfl Tryz.func71 rfl (by decide) (by kernel_rfl) (by simp [AV.noref,norefs_nI]) ?_
 simp only [Tryz.f71,initSt,List.length_cons,List.length_nil,Nat.reduceAdd,Nat.reduceSub,List.replicate]
 refine vc_go ?_
 simp (maxSteps:=10000000) +contextual -implicitDefEqProofs only [bnC,bnS,St.put,↓reduceIte,reduceCtorEq,Nat.reduceAdd,bnT,Int.reduceAdd,bnH,cdA_eq]
 refine go_weak (T':=mkT 0 20 [(1,.pt 0 0 0 0),(3,.vw true []),(7,.sc (.int .i64 c.pri.length)),(8,.sc (.int .i64 ((0:Nat):Int)))]) ?_ (weakH_refl _) (Nat.le_refl _) ?_
 ·simp (maxSteps:=10000000) only [bnC,bnS,↓reduceIte,reduceCtorEq,Nat.reduceAdd,Nat.reduceEqDiff,mkT,lkT]
 refine go_nil (T':=mkT 0 20 [(1,.pt 0 0 0 0),(3,.sl 1 1 0 0),(7,.sc (.int .i64 c.pri.length)),(8,.sc (.int .i64 ((0:Nat):Int)))]) 1 3 1 2 (by omega) (by omega) ?_ (nwH_refl _ _ _) ?_
 ·simp (maxSteps:=10000000) only [mkT,lkT,Nat.reduceAdd,Nat.reduceEqDiff,↓reduceIte,Nat.zero_add]
  simp only [nwL_cons,nwL_nil,nwV_self,nwV_nil,and_self,and_true,List.length_cons,List.length_nil,Nat.reduceAdd]
 simp only [List.cons_append,List.nil_append]
 refine go_loopW (σ:=Nat × Nat) (fun y cnt=>⟨mkT 0 20 [(1,.pt 0 0 0 0),(3,.sl 1 y.2 0 y.1),(7,.sc (.int .i64 c.pri.length)),(8,.sc (.int .i64 y.1))],[⟨true,0,36,7,[cdA c],false⟩,⟨true,y.2,3,1,(List.range y.1).map nI,false⟩],cnt⟩)
  (fun y=>y.1≤c.pri.length) (fun y=>c.pri.length - y.1) (0,1) (Nat.zero_le _) (weakT_refl _) ?_ rfl ?_
 ·simp (maxSteps:=10000000) only [bnC,bnS,cdA_eq,List.range_zero]
 rintro ⟨k,v⟩ cnt hk ih
 simp only at hk
 by_cases hk':k < c.pri.length
 ·have h1:decide ((k:Int) < (c.pri.length:Int))=true:=by rw [decide_eq_true_eq]; omega
  have w1:IntKind.i64.wrap ((k:Int)+1)=((k+1:Nat):Int):=by rw [wrap64 (by omega) (by omega)]; omega
  have hsz:decide ((k+1) * 8≤140737488355328)=true:=by rw [decide_eq_true_eq]; omega
  have ht:List.take k ((List.range k).map nI)=(List.range k).map nI:=List.take_of_length_le (by simp)
  have ha:(List.range k).map nI++[AV.sc (.int .i64 (k:Int))]=(List.range (k+1)).map nI:=by rw [List.range_succ,List.map_append]; rfl
  have ih:=fun v c=>ih (k+1,v) c (by simp only; omega) (by simp only; omega)
  simp only at ih
  refine vc_go ?_
  simp (maxSteps:=10000000) only [mkT,lkT,Nat.reduceAdd,Nat.reduceEqDiff,↓reduceIte,Nat.zero_add]
  simp (maxSteps:=10000000) +contextual -implicitDefEqProofs only [bnC,bnS,St.put,↓reduceIte,Nat.reduceAdd,Nat.reduceLeDiff,Nat.reduceMul,Int.reduceLT,Nat.reduceLT,bnT,Int.reduceAdd,Int.reduceMul,bnH,cdA_eq,h1,w1,hsz,ht,ha]
  refine go_weak ?_ ?_ (Nat.le_refl _) (ih (cnt+1) _)
  all_goals simp (maxSteps:=10000000) only [bnC,bnS,↓reduceIte,reduceCtorEq,Nat.reduceAdd,Nat.reduceEqDiff,mkT,lkT,cdA_eq]
  all_goals done
 obtain rfl:k=c.pri.length:=by omega
 have h1:decide ((c.pri.length:Int) < (c.pri.length:Int))=false:=by simp
 have E:=E v cnt
 simp only [cdA_eq] at E
 have ht:List.take c.pri.length ((ordC c).map nI)=(ordC c).map nI:=List.take_of_length_le (by simp [hln])
 clear ih
 refine vc_go ?_
 simp (maxSteps:=10000000) only [mkT,lkT,Nat.reduceAdd,Nat.reduceEqDiff,↓reduceIte,Nat.zero_add]
 simp (maxSteps:=10000000) +contextual -implicitDefEqProofs only [bnC,bnS,St.put,borrow,pin,↓reduceIte,bnH,hin,hl,cdA_eq,h1,E,ht]
 all_goals first | (simp [AV.freshIn,freshsIn,liveB,freshs,AV.fresh,freshs_nI]; done) | skip
 all_goals done
noncomputable def ordO (c:Cd):List Nat:=open Classical in if validC c=0 then ordC c else []
theorem ordO_ok {c:Cd} (h:validC c=0):ordO c=ordC c:=by rw [ordO,if_pos h]
theorem ordO_no {c:Cd} (h:validC c≠0):ordO c=[]:=by rw [ordO,if_neg h]
noncomputable def f33:=mkF Fit (fun c=>[cdA c]) (fun c=>.vw false ((ordO c).map nI))
theorem e33 (c:Cd) (h:Fit c):f33 [cdA c]=some (.vw false ((ordO c).map nI)):=
 (mkF_eq (q:=Fit) (enc:=fun c=>[cdA c]) (out:=fun c=>.vw false ((ordO c).map nI)) c h (by
  intro b h
  simp only [List.cons.injEq,and_true] at h
  rw [cdA_inj h]) :)
theorem order_spec (c:Cd) (hq:Fit c):VSpec Tryz.prog 33 [cdA c] (.vw false ((ordO c).map nI)):=by
 have x1:=e53 c hq
 simp only [cdA_eq] at x1
 by_cases h:validC c=0
 rotate_left
 ·have b1:(validC c != 0)=true:=by simpa using h
  rw [ordO_no h]
  refine vspecW_of_go (gEnv_ok (lit:=false) (pm:=fun _=>none) (.cons ok53 .nil) .nil .nil .nil) rfl Tryz.func33 rfl (by decide) (by kernel_rfl) (by simp [AV.noref,norefs]) ?_
  simp only [Tryz.f33,initSt,List.length_cons,List.length_nil,Nat.reduceAdd,Nat.reduceSub,List.replicate]
  refine vc_go ?_
  simp (maxSteps:=10000000) +contextual -implicitDefEqProofs only [bnC,bnS,St.put,borrow,borrows,pin,pl,↓reduceIte,Nat.reduceAdd,bnT,Int.reduceAdd,bnH,cdA_eq,x1,b1]
  all_goals first | rfl | (simp [AV.freshIn]; done) | skip
  all_goals done
 have b1:(validC c != 0)=false:=by simp [h]
 rw [ordO_ok h]
 obtain ⟨F,k71,E⟩:=fok_atP (sorted_spec c hq h)
 have hnr:=norefs_nI (ordC c)
 have hfr:=freshs_nI (ordC c)
 have ht:List.take (ordC c).length ((ordC c).map nI)=(ordC c).map nI:=List.take_of_length_le (by simp)
 obtain ⟨O,hO⟩:∃ O,ordC c=O:=⟨_,rfl⟩
 rw [hO] at E hnr hfr ht ⊢
 simp only [cdA_eq] at E
 refine vspecW_of_go (gEnv_ok (lit:=false) (pm:=fun _=>none) (.cons ok53 .nil) .nil (.cons k71 .nil) .nil) rfl Tryz.func33 rfl (by decide) (by kernel_rfl) (by simp [AV.noref,hnr]) ?_
 simp only [Tryz.f33,initSt,List.length_cons,List.length_nil,Nat.reduceAdd,Nat.reduceSub,List.replicate]
 refine vc_go ?_
 simp (maxSteps:=10000000) +contextual -implicitDefEqProofs only [bnC,bnS,St.put,borrow,borrows,pin,pl,↓reduceIte,Nat.reduceAdd,Nat.reduceEqDiff,bnT,Int.reduceAdd,bnH,hin,cdA_eq,x1,b1,E]
 all_goals first | rfl | (simp [AV.freshIn,freshsIn,liveB,freshs,AV.fresh,freshs_nI]; done) | skip
 all_goals done
theorem ok33:VOk Tryz.prog 33 f33:=vok_mk fun c hq=>order_spec c hq
def tgP' (K:Nat→Int) (n q:Nat):Nat→List Nat
 | 0=>tgO K n q
 | m+1=>if K m=99 - (q:Int) then tgP' K n q m++[m] else tgP' K n q m
theorem tgP_eq (K:Nat→Int) (n q:Nat):∀ m,tgP' K n q m=tgO K n q++(List.range m).filter (fun i=>K i == 99 - (q:Int))
 | 0=>by simp [tgP']
 | m+1=>by
  rw [tgP',tgP_eq K n q m,List.range_succ,List.filter_append]
  by_cases h:K m=99 - (q:Int)
  ·rw [if_pos h]; simp [h]
  ·rw [if_neg h]; simp [h]
theorem tgP_all (K:Nat→Int) (n q:Nat):tgP' K n q n=tgO K n (q+1):=by rw [tgP_eq,tgO]
theorem tgP_len (K:Nat→Int) (n q:Nat):∀ m,(tgP' K n q m).length≤(tgO K n q).length+m
 | 0=>by simp [tgP']
 | m+1=>by
  have:=tgP_len K n q m
  rw [tgP']; split
  ·simp; omega
  ·omega
theorem tgO_le (K:Nat→Int) (n:Nat):∀ q,(tgO K n q).length≤q * n
 | 0=>by simp [tgO]
 | q+1=>by
  have h1:=tgO_le K n q
  have h2:((List.range n).filter (fun i=>K i == 99 - (q:Int))).length≤n:=by
   have:=List.length_filter_le (fun i=>K i == 99 - (q:Int)) (List.range n)
   simpa using this
  rw [tgO,List.length_append,Nat.succ_mul]; omega
theorem ok38:VOk Tryz.prog 38 f33:=vok_mk fun c hq=>by
 have x1:=e53 c hq
 simp only [cdA_eq] at x1
 by_cases h:validC c=0
 rotate_left
 ·have b1:(validC c != 0)=true:=by simpa using h
  rw [ordO_no h]
  refine vspecW_of_go (gEnv_ok (lit:=false) (pm:=fun _=>none) (.cons ok55 .nil) .nil .nil .nil) rfl Tryz.func38 rfl (by decide) (by kernel_rfl) (by simp [AV.noref,norefs]) ?_
  simp only [Tryz.f38,initSt,List.length_cons,List.length_nil,Nat.reduceAdd,Nat.reduceSub,List.replicate]
  refine vc_go ?_
  simp (maxSteps:=10000000) +contextual -implicitDefEqProofs only [bnC,bnS,St.put,borrow,borrows,pin,pl,↓reduceIte,Nat.reduceAdd,bnT,Int.reduceAdd,bnH,cdA_eq,x1,b1]
  all_goals done
 have b1:(validC c != 0)=false:=by simp [h]
 have hlm:=valid_len h
 rw [ordO_ok h,ordC]
 obtain ⟨W,hW⟩:∃ W:Nat→Nat→List Nat,(fun q m=>tgP' (keyC c) c.pri.length q m)=W:=⟨_,rfl⟩
 have hW':∀ q m,tgP' (keyC c) c.pri.length q m=W q m:=fun q m=>by rw [←hW]
 have hS:∀ q m,W q (m+1)=if keyC c m=99 - (q:Int) then W q m++[m] else W q m:=fun q m=>by rw [←hW',←hW']; rfl
 have h00:W 0 0=[]:=by rw [←hW']; rfl
 have hN:∀ q,W q c.pri.length=W (q+1) 0:=fun q=>by rw [←hW',tgP_all,←hW']; rfl
 have hE:tgO (keyC c) c.pri.length 100=W 100 0:=by rw [←hW']; rfl
 have hL:∀ q m,q≤100→m≤16→(W q m).length≤1616:=fun q m hq hm=>by
  have h1:=tgP_len (keyC c) c.pri.length q m
  have h2:=tgO_le (keyC c) c.pri.length q
  have h3:q * c.pri.length≤100 * 16:=Nat.mul_le_mul hq hlm.2.2.2.1
  rw [←hW']; omega
 obtain ⟨RES,hRES⟩:∃ R,W 100 0=R:=⟨_,rfl⟩
 rw [hE,hRES]
 clear hE hW hW'
 refine vspecW_of_go (gEnv_ok (lit:=false) (pm:=fun _=>none) (.cons ok55 .nil) .nil .nil .nil) rfl Tryz.func38 rfl (by decide) (by kernel_rfl) (by simp [AV.noref,norefs_nI]) ?_
 simp only [Tryz.f38,initSt,List.length_cons,List.length_nil,Nat.reduceAdd,Nat.reduceSub,List.replicate]
 refine vc_go ?_
 simp (maxSteps:=10000000) +contextual -implicitDefEqProofs only [bnC,bnS,St.put,borrow,borrows,pin,pl,↓reduceIte,Nat.reduceAdd,bnT,Int.reduceAdd,bnH,cdA_eq,x1,b1]
 clear x1 b1
 refine go_weak (T':=mkT 0 32 [(1,.pt 0 0 0 0),(3,.vw true []),(4,.sc (.int .i64 (99 - ((0:Nat):Int))))]) ?_ (weakH_refl _) (Nat.le_refl _) ?_
 ·simp (maxSteps:=10000000) only [bnC,bnS,↓reduceIte,reduceCtorEq,Nat.reduceAdd,Nat.reduceEqDiff,mkT,lkT,Int.sub_zero]
 refine go_nil (T':=mkT 0 32 [(1,.pt 0 0 0 0),(3,.sl 1 1 0 0),(4,.sc (.int .i64 (99 - ((0:Nat):Int))))]) 1 3 1 2 (by omega) (by omega) ?_ (nwH_refl _ _ _) ?_
 ·simp (maxSteps:=10000000) only [mkT,lkT,Nat.reduceAdd,Nat.reduceEqDiff,↓reduceIte,Nat.zero_add]
  simp only [nwL_cons,nwL_nil,nwV_self,nwV_nil,and_self,and_true,List.length_cons,List.length_nil,Nat.reduceAdd]
 simp only [List.cons_append,List.nil_append]
 refine go_loopW (σ:=Nat × Nat) (fun y cnt=>⟨mkT 0 32 [(1,.pt 0 0 0 0),(3,.sl 1 y.2 0 (W y.1 0).length),(4,.sc (.int .i64 (99 - (y.1:Int))))],[⟨true,0,36,7,[cdA c],false⟩,⟨true,y.2,3,1,(W y.1 0).map nI,false⟩],cnt⟩)
  (fun y=>y.1≤100) (fun y=>100 - y.1) (0,1) (Nat.zero_le _) ?_ ?_ rfl ?_
 ·rw [h00]; exact weakT_refl _
 ·rw [h00]
  simp (maxSteps:=10000000) only [bnC,bnS,cdA_eq]
 rintro ⟨q,v⟩ cnt hq ih
 simp only at hq
 by_cases hq':q < 100
 rotate_left
 ·obtain rfl:q=100:=by omega
  have h1:decide ((0:Int)≤99 - ((100:Nat):Int))=false:=by decide
  have ht:List.take RES.length (RES.map nI)=RES.map nI:=List.take_of_length_le (by simp)
  have hnr:=norefs_nI RES
  clear ih hS hN hL
  simp only [hRES]
  refine vc_go ?_
  simp (maxSteps:=10000000) only [mkT,lkT,Nat.reduceAdd,Nat.reduceEqDiff,↓reduceIte,Nat.zero_add]
  simp (maxSteps:=10000000) +contextual -implicitDefEqProofs only [bnC,bnS,St.put,borrow,↓reduceIte,Int.reduceLE,Nat.reduceSub,Int.reduceSub,bnH,cdA_eq,ht]
  all_goals done
 have h1:decide ((0:Int)≤99 - (q:Int))=true:=by rw [decide_eq_true_eq]; omega
 refine vc_go ?_
 simp (maxSteps:=10000000) only [mkT,lkT,Nat.reduceAdd,Nat.reduceEqDiff,↓reduceIte,Nat.zero_add]
 simp (maxSteps:=10000000) +contextual -implicitDefEqProofs only [bnS,St.put,↓reduceIte,bnH,cdA_eq,h1]
 refine go_loopW (σ:=Nat × Nat) (fun y cnt=>⟨mkT 0 32 [(1,.pt 0 0 0 0),(3,.sl 1 y.2 0 (W q y.1).length),(4,.sc (.int .i64 (99 - (q:Int)))),(5,.sc (.int .i64 y.1))],[⟨true,0,36,7,[cdA c],false⟩,⟨true,y.2,3,1,(W q y.1).map nI,false⟩],cnt⟩)
  (fun y=>y.1≤c.pri.length) (fun y=>c.pri.length - y.1) (0,v) (Nat.zero_le _) ?_ ?_ rfl ?_
 ·simp (maxSteps:=10000000) only [bnC,bnS,↓reduceIte,reduceCtorEq,Nat.reduceAdd,Nat.reduceEqDiff,mkT,lkT]
 ·simp (maxSteps:=10000000) only [bnC,bnS,cdA_eq]
 rintro ⟨m,v⟩ cn hm jh
 simp only at hm
 by_cases hm':m < c.pri.length
 rotate_left
 ·obtain rfl:m=c.pri.length:=by omega
  have h2:decide ((c.pri.length:Int) < (c.pri.length:Int))=false:=by simp
  have w1:IntKind.i64.wrap (99 - (q:Int) - 1)=99 - ((q+1:Nat):Int):=by rw [wrap64 (by omega) (by omega)]; omega
  have ih:=fun c=>ih (q+1,v) c (by simp only; omega) (by simp only; omega)
  simp only [←hN] at ih
  clear jh hS hN
  refine vc_go ?_
  simp (maxSteps:=10000000) only [mkT,lkT,Nat.reduceAdd,Nat.reduceEqDiff,↓reduceIte,Nat.zero_add]
  simp (maxSteps:=10000000) +contextual -implicitDefEqProofs only [bnC,bnS,St.put,↓reduceIte,reduceCtorEq,bnT,bnH,cdA_eq,h2,w1]
  refine go_weak ?_ ?_ (Nat.le_refl _) (ih _)
  all_goals simp (maxSteps:=10000000) only [bnC,bnS,↓reduceIte,reduceCtorEq,Nat.reduceAdd,Nat.reduceEqDiff,mkT,lkT,cdA_eq]
  all_goals done
 have h2:decide ((m:Int) < (c.pri.length:Int))=true:=by rw [decide_eq_true_eq]; omega
 have h3:decide (m < c.pri.length)=true:=by rw [decide_eq_true_eq]; omega
 have w1:IntKind.i64.wrap ((m:Int)+1)=((m+1:Nat):Int):=by rw [wrap64 (by omega) (by omega)]; omega
 have hk:c.pri.getD m default=keyC c m:=rfl
 have hlw:=hL q m hq (by omega)
 have jh:=fun v c=>jh (m+1,v) c (by simp only; omega) (by simp only; omega)
 simp only [hS] at jh
 clear ih hS hN hL
 obtain ⟨O,hO⟩:∃ O,W q m=O:=⟨_,rfl⟩
 rw [hO] at hlw
 simp only [hO] at jh ⊢
 obtain ⟨x,hx⟩:∃ x,keyC c m=x:=⟨_,rfl⟩
 rw [hx] at hk
 simp only [hx] at jh
 refine vc_go ?_
 by_cases hp:x=99 - (q:Int)
 ·have b2:(x == 99 - (q:Int))=true:=by rw [beq_iff_eq]; exact hp
  simp only [if_pos hp] at jh
  have hsz:decide ((O.length+1) * 8≤140737488355328)=true:=by rw [decide_eq_true_eq]; omega
  have ht:List.take O.length (O.map nI)=O.map nI:=List.take_of_length_le (by simp)
  have ha:O.map nI++[AV.sc (.int .i64 (m:Int))]=(O++[m]).map nI:=by rw [List.map_append]; rfl
  simp (maxSteps:=10000000) only [mkT,lkT,Nat.reduceAdd,Nat.reduceEqDiff,↓reduceIte,Nat.zero_add]
  simp (maxSteps:=10000000) +contextual -implicitDefEqProofs only [bnC,bnS,St.put,↓reduceIte,reduceCtorEq,Nat.reduceAdd,Nat.reduceLeDiff,Nat.reduceMul,Int.reduceLT,Nat.reduceLT,bnT,Int.reduceAdd,Int.reduceMul,bnH,kA_eq,cdA_eq,AV.noref,h2,h3,hk,b2,w1,hsz,ht,ha,ldV_mapN,allSz_kA]
  refine go_weak ?_ ?_ (Nat.le_refl _) (jh (cn+1) _)
  all_goals simp (maxSteps:=10000000) only [bnC,bnS,↓reduceIte,reduceCtorEq,Nat.reduceAdd,Nat.reduceEqDiff,mkT,lkT,cdA_eq,List.length_append]
  all_goals done
 ·have b2:(x == 99 - (q:Int))=false:=by rw [beq_eq_false_iff_ne]; exact hp
  simp only [if_neg hp] at jh
  simp (maxSteps:=10000000) only [mkT,lkT,Nat.reduceAdd,Nat.reduceEqDiff,↓reduceIte,Nat.zero_add]
  simp (maxSteps:=10000000) +contextual -implicitDefEqProofs only [bnC,bnS,St.put,↓reduceIte,reduceCtorEq,bnT,bnH,kA_eq,cdA_eq,AV.noref,h2,h3,hk,b2,w1,ldV_mapN,allSz_kA]
  refine go_weak ?_ ?_ (Nat.le_refl _) (jh v _)
  all_goals simp (maxSteps:=10000000) only [bnC,bnS,↓reduceIte,reduceCtorEq,Nat.reduceAdd,Nat.reduceEqDiff,mkT,lkT,cdA_eq]
  all_goals done
end Go.Proofs.YtdjpkhjaibdogaaGreat
