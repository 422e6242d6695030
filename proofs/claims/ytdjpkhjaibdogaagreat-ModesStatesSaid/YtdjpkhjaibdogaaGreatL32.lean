/-
  Joined texts: BK.
  Conditions: none.
-/
import Derived.Test.YtdjpkhjaibdogaaGreatL31
namespace Go.Proofs.YtdjpkhjaibdogaaGreat
open Go Go.SX
set_option linter.unusedSimpArgs false
set_option linter.unusedVariables false
attribute [local congr] ite_congr
set_option maxRecDepth 100000
set_option maxHeartbeats 8000000
theorem callGA_un (E:Env) (s:St) (d:Option Nat) (want:Bool) (args:List AV) (g:AV):callGA E s d want args g .un=gP s d want none g:=rfl
structure RcX where
 i:Int
 h:Int
 r:Rc
 b0:Blk
 e:Blk
 v1:Nat
 v2:Nat
 v3:Nat
 cnt:Nat
def rxQ (x:RcX):Prop:=0≤x.i∧x.r.n≤x.r.ws.length∧x.r.n≤1000000∧x.r.hs.length≤1000000
def rxE (x:RcX):List AV × List Blk × Nat:=([.sc (.int .i64 x.i),.sc (.int .i64 x.h),.pt 2 x.v2 0 0,.pt 3 x.v3 0 0],hgH x.b0 x.e x.v1 x.v2 x.v3 x.r,x.cnt)
noncomputable def rxO (x:RcX):AV × List Blk × Nat:=(.sc (.bool (rchF x.r x.i x.h x.cnt).1),hgH x.b0 x.e x.v1 x.v2 x.v3 (rchF x.r x.i x.h x.cnt).2,x.cnt+2)
theorem hgH_inj {b0 e b0' e':Blk} {v1 v2 v3 v1' v2' v3':Nat} {r r':Rc} (h:hgH b0 e v1 v2 v3 r=hgH b0' e' v1' v2' v3' r'):b0=b0'∧e=e'∧v1=v1'∧v2=v2'∧v3=v3'∧r=r':=by
 obtain ⟨hs,ws,n,v⟩:=r
 obtain ⟨hs',ws',n',v'⟩:=r'
 simp only [hgH,List.cons.injEq,Blk.mk.injEq,AV.sl.injEq,and_true,true_and,map_kA64] at h
 obtain ⟨h1,⟨h2,h3⟩,⟨h4,h5⟩,⟨h6,h7,h8⟩,⟨h9,h10⟩,h11⟩:=h
 exact ⟨h1,h11,h2,h4,h6,by rw [h3,h8,h9,h10]⟩
noncomputable def f196:=mkH rxQ rxE rxO
theorem e196 (i h:Int) (r:Rc) (b0 e:Blk) (v1 v2 v3 cnt:Nat) (hi:0≤i) (hn:r.n≤r.ws.length) (hLd:r.n≤1000000) (hl2:r.hs.length≤1000000):
  f196 [.sc (.int .i64 i),.sc (.int .i64 h),.pt 2 v2 0 0,.pt 3 v3 0 0] (hgH b0 e v1 v2 v3 r) cnt=some (.sc (.bool (rchF r i h cnt).1),hgH b0 e v1 v2 v3 (rchF r i h cnt).2,cnt+2):=
 mkH_eq (q:=rxQ) (enc:=rxE) (out:=rxO) ⟨i,h,r,b0,e,v1,v2,v3,cnt⟩ ⟨hi,hn,hLd,hl2⟩ (by
  rintro ⟨i',h',r',b0',e',v1',v2',v3',cnt'⟩ - he
  simp only [rxE,Prod.mk.injEq,List.cons.injEq,AV.sc.injEq,Value.int.injEq,AV.pt.injEq,and_true,true_and] at he
  obtain ⟨⟨a1,a2,a3,a4⟩,a5,a6⟩:=he
  obtain ⟨c1,c2,c3,c4,c5,c6⟩:=hgH_inj a5
  subst a1 a2 c1 c2 c3 c4 c5 c6 a6
  rfl)
theorem ok196:HOk Tryz.prog 196 f196:=hok_mk fun x ⟨h1,h2,h3,h4⟩=>reach_spec x.i x.h x.r x.b0 x.e x.v1 x.v2 x.v3 x.cnt h1 h2 h3 h4
theorem rep_set {n k:Nat} (h:k < n):(List.replicate k (-1:Int)++List.replicate (n - k) 0).set k (-1)=List.replicate (k+1) (-1)++List.replicate (n - (k+1)) 0:=by
 obtain ⟨m,rfl⟩:∃ m,n=k+(m+1):=⟨n - k - 1,by omega⟩
 have e1:k+(m+1) - k=m+1:=by omega
 have e2:k+(m+1) - (k+1)=m:=by omega
 rw [e1,e2,List.replicate_succ (n:=m),List.set_append_right _ _ (by simp)]
 simp only [List.length_replicate,Nat.sub_self,List.set_cons_zero]
 rw [List.replicate_succ',List.append_assoc]; rfl
theorem heights_spec (c:Cd) (hq:Fit c) (hLd:Lead c):VSpec Tryz.prog 146 [cdA c] (.tu [.jk,bA (heiC c)]):=by
 obtain ⟨q1,q2,q3,q4,q5,q6,q7,q8⟩:=hq
 have hq:Fit c:=⟨q1,q2,q3,q4,q5,q6,q7,q8⟩
 refine vspecW_of_go (gEnv_ok (lit:=false) (pm:=fun _=>none) (.cons ok197 .nil) .nil .nil (.cons ok196 .nil)) rfl Tryz.func146 rfl (by decide) (by kernel_rfl) (by simp [bA,AV.noref,norefs]) ?_
 simp only [Tryz.f146,initSt,List.length_cons,List.length_nil,Nat.reduceAdd,Nat.reduceSub,List.replicate]
 have hsz:decide ((c.ins.length:Int) * 8≤140737488355328)=true:=by rw [decide_eq_true_eq]; omega
 have hsz2:decide ((c.ins.length:Int)≤(c.ins.length:Int))=true:=by rw [decide_eq_true_eq]; omega
 have g0:decide ((0:Int)≤(c.ins.length:Int))=true:=by rw [decide_eq_true_eq]; omega
 refine vc_go ?_
 simp (maxSteps:=10000000) +contextual -implicitDefEqProofs only [bnC,bnS,St.put,↓reduceIte,reduceCtorEq,Nat.reduceAdd,Int.reduceLT,Nat.reduceLT,bnT,Int.reduceAdd,bnH,bA_eq,cdA_eq,hsz,hsz2]
 obtain ⟨n,hn⟩:∃ n,c.ins.length=n:=⟨_,rfl⟩
 simp only [hn] at hsz hsz2 g0 q1 ⊢
 refine go_loopW (σ:=Nat) (fun k cnt=>⟨mkT 0 150 [(1,.pt 0 0 0 0),(4,.pt 2 2 0 0),(20,.sl 1 1 0 n),(21,.sc (.int .i64 n)),(22,.sc (.int .i64 k))],
   [⟨true,0,36,7,[cdA c],false⟩,⟨true,1,3,1,(List.replicate k (-1)++List.replicate (n - k) 0).map (kA .i64),false⟩,⟨true,2,34,1,[.sl 1 1 0 n],false⟩],cnt⟩)
  (fun k=>k≤n) (fun k=>n - k) 0 (Nat.zero_le _) ?_ ?_ rfl ?_
 ·simp (maxSteps:=10000000) only [bnC,bnS,↓reduceIte,reduceCtorEq,Nat.reduceAdd,Nat.reduceEqDiff,mkT,lkT]
 ·simp (maxSteps:=10000000) only [bnC,bnS,kA_eq,cdA_eq,List.map_replicate]
 rintro k cnt hk ih
 by_cases hk':k < n
 ·have h1:decide ((k:Int) < (n:Int))=true:=by rw [decide_eq_true_eq]; omega
  have h2:decide ((0:Int)≤(k:Int))=true:=by rw [decide_eq_true_eq]; omega
  have w1:IntKind.i64.wrap ((k:Int)+1)=((k+1:Nat):Int):=by rw [wrap64 (by omega) (by omega)]; omega
  have h3:decide (k < (List.replicate k (-1:Int)++List.replicate (n - k) 0).length)=true:=by rw [decide_eq_true_eq]; simp; omega
  have hm:((List.replicate k (-1:Int)++List.replicate (n - k) 0).map (kA .i64)).set k (AV.sc (.int .i64 (-1)))=(List.replicate (k+1) (-1:Int)++List.replicate (n - (k+1)) 0).map (kA .i64):=by
   rw [←rep_set hk',List.map_set]; rfl
  obtain ⟨L,hL⟩:∃ L,List.replicate k (-1:Int)++List.replicate (n - k) 0=L:=⟨_,rfl⟩
  rw [hL] at h3 hm ⊢
  refine vc_go ?_
  simp (maxSteps:=10000000) only [mkT,lkT,Nat.reduceAdd,Nat.reduceEqDiff,↓reduceIte,Nat.zero_add]
  simp (maxSteps:=10000000) +contextual -implicitDefEqProofs only [bnC,bnS,St.put,↓reduceIte,Int.reduceLT,Nat.reduceLT,bnT,bnH,kA_eq,cdA_eq,h1,h3,w1,hm,get_mapN]
  refine go_weak ?_ ?_ (Nat.le_refl _) (ih (k+1) _ (by omega) (by omega))
  all_goals simp (maxSteps:=10000000) only [bnC,bnS,↓reduceIte,reduceCtorEq,Nat.reduceAdd,Nat.reduceEqDiff,List.replicate_succ,mkT,lkT,kA_eq,cdA_eq]
  all_goals done
 obtain rfl:k=n:=by omega
 clear ih hk hk' hsz hsz2 g0
 have h1:decide ((k:Int) < (k:Int))=false:=by simp
 rw [Nat.sub_self,List.replicate_zero,List.append_nil]
 obtain ⟨R,hR⟩:∃ R,List.replicate k (-1:Int)=R:=⟨_,rfl⟩
 rw [hR]
 have hRl:R.length=k:=by rw [←hR]; simp
 refine vc_go ?_
 simp (maxSteps:=10000000) only [mkT,lkT,Nat.reduceAdd,Nat.reduceEqDiff,↓reduceIte,Nat.zero_add]
 simp (maxSteps:=10000000) +contextual -implicitDefEqProofs only [bnC,bnS,St.put,↓reduceIte,reduceCtorEq,Nat.reduceAdd,bnT,Int.reduceAdd,bnH,cdA_eq,h1]
 refine go_nil (cnt+1) 3 1 (cnt+2) (by omega) (by omega) (nwL_refl _ _ _) (H':=[⟨true,0,36,7,[cdA c],false⟩,⟨true,1,3,1,R.map (kA .i64),false⟩,⟨true,2,34,1,[.sl 1 1 0 k],false⟩,⟨true,cnt,34,1,[.sl 4 (cnt+1) 0 0],false⟩]) ?_ ?_
 ·refine ⟨.inl rfl,.inl rfl,.inl rfl,?_,trivial⟩
  refine nwB_mk _ _ _ _ _ _ _ _ _ _ ⟨?_,trivial⟩
  exact .nil
 obtain ⟨v3,hv3⟩:∃ v3,cnt=v3:=⟨_,rfl⟩
 rw [hv3]
 simp only [List.cons_append,List.nil_append]
 have hst:=hi_start c (v3+1)
 rw [hn,hR] at hst
 refine go_loopW (σ:=Nat × Rc) (fun y cnt=>⟨mkT 0 150 [(1,.pt 0 0 0 0),(4,.pt 2 2 0 0),(6,.pt 3 v3 0 0),(7,.fn 196 [.pt 2 2 0 0,.pt 3 v3 0 0]),(31,.vw c.ze (c.ens.map enA)),(32,.sc (.int .i64 c.ens.length)),(33,.sc (.int .i64 y.1))],
   (hgH ⟨true,0,36,7,[cdA c],false⟩ dead 1 2 v3 y.2).take 5,cnt⟩)
  (fun y=>y.1≤c.ens.length∧HI c y.1 (-1) y.2) (fun y=>c.ens.length - y.1) (0,⟨R,[],0,v3+1⟩) ⟨Nat.zero_le _,hst⟩ ?_ ?_ rfl ?_
 ·simp (maxSteps:=10000000) only [bnC,bnS,↓reduceIte,reduceCtorEq,Nat.reduceAdd,Nat.reduceEqDiff,mkT,lkT]
 ·simp only [hgH]
  simp (maxSteps:=10000000) only [bnC,bnS,cdA_eq,hRl]
 clear hst hR hRl hn q1
 rintro ⟨j,r⟩ cn ⟨hj,hI⟩ ih
 simp only at hj hI
 have hbd:=hI.mea
 have hnl:=hI.nle
 have hle:=hI.len
 have hins:=hq.ins
 by_cases hj':j < c.ens.length
 ·have h1:decide ((j:Int) < (c.ens.length:Int))=true:=by rw [decide_eq_true_eq]; omega
  have h2:decide (j < c.ens.length)=true:=by rw [decide_eq_true_eq]; omega
  have w1:IntKind.i64.wrap ((j:Int)+1)=((j+1:Nat):Int):=by rw [wrap64 (by omega) (by omega)]; omega
  have hm:=getD_mem hj'
  have hne:=fun r2 h=>hi_ent (r:=r2) (k:=j) (c:=c) h hj'
  obtain ⟨x,hx⟩:∃ x,c.ens.getD j default=x:=⟨_,rfl⟩
  rw [hx] at hm hne
  have hp:=hLd.ent x hm
  have E:=e196 x.pc 0 r ⟨true,0,36,7,[cdA c],false⟩ ⟨true,cn,99,4,[enA x],false⟩ 1 2 v3 (cn+1) hp hnl (by omega) (by omega)
  obtain ⟨k1,k2⟩:=reach_inv hLd hI (.ent hm) hp (Int.le_refl 0) (cn+1)
  obtain ⟨⟨b,r2⟩,hr2⟩:∃ y,rchF r x.pc 0 (cn+1)=y:=⟨_,rfl⟩
  rw [hr2] at E k1 k2
  simp only [hgH,cdA_eq,enA_eq] at E
  simp only at k1 k2
  refine vc_go ?_
  simp only [hgH,List.take_succ_cons,List.take_zero]
  cases b with
  | false=>
   have e:=k1 rfl
   simp (maxSteps:=10000000) only [mkT,lkT,Nat.reduceAdd,Nat.reduceEqDiff,↓reduceIte,Nat.zero_add]
   simp (maxSteps:=10000000) +contextual -implicitDefEqProofs only [bnC,bnS,St.put,borrow,borrows,pin,↓reduceIte,reduceCtorEq,Nat.reduceAdd,Nat.reduceEqDiff,Int.reduceLT,Nat.reduceLT,bnT,Int.reduceAdd,bnH,hin,hl,enA_eq,cdA_eq,norefs,AV.noref,h1,h2,hx,ldV_mapN,allSz_enA,E,e]
   all_goals done
  | true=>
   obtain ⟨g1,g2,g3,g4,g5⟩:=k2 rfl
   have ih:=fun c=>ih (j+1,r2) c ⟨by simp only; omega,hne r2 g1 ⟨g2,g3⟩⟩ (by simp only; omega)
   simp only [hgH,List.take_succ_cons,List.take_zero] at ih
   simp (maxSteps:=10000000) only [mkT,lkT,Nat.reduceAdd,Nat.reduceEqDiff,↓reduceIte,Nat.zero_add]
   simp (maxSteps:=10000000) +contextual -implicitDefEqProofs only [bnC,bnS,St.put,pin,↓reduceIte,reduceCtorEq,Nat.reduceAdd,Nat.reduceEqDiff,Int.reduceLT,Nat.reduceLT,bnT,Int.reduceAdd,bnH,hin,hl,enA_eq,cdA_eq,norefs,AV.noref,h1,h2,hx,ldV_mapN,allSz_enA,E,w1]
   refine go_weak ?_ ?_ (Nat.le_refl _) (ih _)
   all_goals simp (maxSteps:=10000000) only [bnC,bnS,↓reduceIte,reduceCtorEq,Nat.reduceAdd,Nat.reduceEqDiff,mkT,lkT,cdA_eq]
   all_goals done
 obtain rfl:j=c.ens.length:=by omega
 clear ih hj hj'
 have h1:decide ((c.ens.length:Int) < (c.ens.length:Int))=false:=by simp
 refine vc_go ?_
 simp only [hgH,List.take_succ_cons,List.take_zero]
 simp (maxSteps:=10000000) only [mkT,lkT,Nat.reduceAdd,Nat.reduceEqDiff,↓reduceIte,Nat.zero_add]
 simp (maxSteps:=10000000) +contextual -implicitDefEqProofs only [bnC,bnS,St.put,↓reduceIte,bnH,cdA_eq,h1]
 refine go_loopW (σ:=Rc) (fun y cnt=>⟨mkT 0 150 [(1,.pt 0 0 0 0),(4,.pt 2 2 0 0),(6,.pt 3 v3 0 0),(7,.fn 196 [.pt 2 2 0 0,.pt 3 v3 0 0])],
   (hgH ⟨true,0,36,7,[cdA c],false⟩ dead 1 2 v3 y).take 5,cnt⟩)
  (fun y=>HI c c.ens.length (-1) y) (fun y=>2 * negs y.hs+y.n) r hI ?_ ?_ rfl ?_
 ·simp (maxSteps:=10000000) only [bnC,bnS,↓reduceIte,reduceCtorEq,Nat.reduceAdd,Nat.reduceEqDiff,mkT,lkT]
 ·simp only [hgH]
  simp (maxSteps:=10000000) only [bnC,bnS,cdA_eq]
 clear hI hbd hnl hle h1
 rintro r cn hI ih
 have hbd:=hI.mea
 have hnl:=hI.nle
 have hle:=hI.len
 refine vc_go ?_
 by_cases hr0:r.n=0
 ·have e:=hi_end hLd hI hr0
  have h1:decide ((0:Int) < ((0:Nat):Int))=false:=by decide
  obtain ⟨hs,ws,n,v⟩:=r
  simp only at hr0
  subst hr0
  simp only [hgH,List.take_succ_cons,List.take_zero]
  simp (maxSteps:=10000000) only [mkT,lkT,Nat.reduceAdd,Nat.reduceEqDiff,↓reduceIte,Nat.zero_add]
  simp (maxSteps:=10000000) +contextual -implicitDefEqProofs only [bnC,bnS,St.put,borrow,borrows,↓reduceIte,Int.reduceLT,Nat.reduceLT,bnT,bnH,cdA_eq,e]
  all_goals done
 obtain ⟨m,hm⟩:∃ m,r.n=m+1:=⟨r.n - 1,by omega⟩
 obtain ⟨hP,p0,p1,p2⟩:=hi_pop hI hm
 have hPm:=hP.mea
 obtain ⟨hs,ws,n,v⟩:=r
 simp only at hm hnl hle hbd hP p0 p1 p2 hPm ih
 subst hm
 obtain ⟨p,hp⟩:∃ p:Nat,ws.getD m default=(p:Int):=⟨(ws.getD m default).toNat,by omega⟩
 rw [hp] at hP p0 p1 p2
 have hR:=hP.mark p p0 p1 p2
 obtain ⟨x,hx⟩:∃ x,c.ins.getD p default=x:=⟨_,rfl⟩
 have hxi:insAt c p=x:=by rw [insAt,Int.toNat_natCast]; exact hx
 obtain ⟨h,hh⟩:∃ h,hs.getD p default=h:=⟨_,rfl⟩
 have hh':hAt hs p=h:=by rw [hAt_of,←hh,getD_def (by omega)]
 rw [hh'] at hR p2
 obtain ⟨hR,hR48⟩:=hR
 have hen:=eff_nonneg x.op
 have e1:=e197 x.op
 have hinv:=fun {ex} {r} (hI:HI c c.ens.length ex r) {i h} (hr:Rch c i h) h0 hh=>reach_inv hLd hI (i:=i) (h:=h) hr h0 hh
 have hbad:∀ {q:Prop},¬ okIn x h→heiC c=false:=fun hq'=>bad_in hR (by rw [hxi]; exact hq')
 have hstep:∀ {j h'},okIn x h→(j,h') ∈ succI x p h→Rch c j h'∧0≤j∧0≤h':=fun ho hj=>
  ⟨.step hR p1 (by rw [hxi]; exact ho) (by rw [hxi]; exact hj),succ_pos hLd p0 p1 (by rw [hxi]; exact hj),succ_high ho hj⟩
 have c1:decide ((0:Int) < ((m+1:Nat):Int))=true:=by rw [decide_eq_true_eq]; omega
 have w1:IntKind.i64.wrap (((m+1:Nat):Int) - 1)=(m:Int):=by rw [wrap64 (by omega) (by omega)]; omega
 have c2:decide ((0:Int)≤(m:Int))=true:=by rw [decide_eq_true_eq]; omega
 have c3:decide ((m:Int) < ((m+1:Nat):Int))=true:=by rw [decide_eq_true_eq]; omega
 have c9:decide ((m:Int)≤((m+1:Nat):Int))=true:=by rw [decide_eq_true_eq]; omega
 have c10:decide ((p:Int) < (c.ins.length:Int))=true:=by rw [decide_eq_true_eq]; omega
 have c4:decide (m < ws.length)=true:=by rw [decide_eq_true_eq]; omega
 have c5:decide ((0:Int)≤(p:Int))=true:=by rw [decide_eq_true_eq]; omega
 have c6:decide (p < c.ins.length)=true:=by rw [decide_eq_true_eq]; omega
 have c7:decide ((p:Int) < (hs.length:Int))=true:=by rw [decide_eq_true_eq]; omega
 have c8:decide (p < hs.length)=true:=by rw [decide_eq_true_eq]; omega
 have w2:IntKind.i64.wrap (h - (effO x.op).1)=h - (effO x.op).1:=by rw [wrap64 (by omega) (by omega)]
 have w3:IntKind.i64.wrap (h - (effO x.op).1+(effO x.op).2.1)=h - (effO x.op).1+(effO x.op).2.1:=by rw [wrap64 (by omega) (by omega)]
 obtain ⟨A,hA⟩:∃ A,h - (effO x.op).1+(effO x.op).2.1=A:=⟨_,rfl⟩
 rw [hA] at w3
 have w4:IntKind.i64.wrap ((p:Int)+1)=(p:Int)+1:=by rw [wrap64 (by omega) (by omega)]
 have w5:IntKind.i64.wrap (A - 1)=A - 1:=by rw [wrap64 (by omega) (by omega)]
 have fin:∀ r2:Rc,HI c c.ens.length p r2→(∀ j:Int,0≤j→0≤hAt hs j→hAt r2.hs j=hAt hs j)→okIn x h→(∀ j h',(j,h') ∈ succI x p h→j < c.ins.length∧hAt r2.hs j=h')→HI c c.ens.length (-1) r2:=by
  intro r2 g1 g2 g3 g4
  have e:hAt r2.hs p=h:=by rw [g2 p p0 (by rw [hh']; exact p2),hh']
  refine hi_done g1 ⟨?_,?_⟩
  ·rw [hxi,e]; exact g3
  ·rw [hxi,e]; exact g4
 simp only [hgH,List.take_succ_cons,List.take_zero] at ih ⊢
 by_cases a31:x.op=31
 ·have b31:(x.op == 31)=true:=by rw [beq_iff_eq]; exact a31
  by_cases ho1:(effO x.op).1≤h
  rotate_left
  ·have o1:decide ((effO x.op).1≤h)=false:=by rw [decide_eq_false_iff_not]; exact ho1
   have e:=hbad (q:=True) (fun hk=>ho1 hk.1)
   simp (maxSteps:=10000000) only [mkT,lkT,Nat.reduceAdd,Nat.reduceEqDiff,↓reduceIte,Nat.zero_add]
   simp (maxSteps:=10000000) +contextual -implicitDefEqProofs only [bnC,bnS,guardV,St.put,borrow,borrows,pin,pl,↓reduceIte,reduceCtorEq,Nat.reduceAdd,Int.reduceLT,Nat.reduceLT,bnT,bnX,Int.reduceAdd,bnH,kA_eq,inA_eq,cdA_eq,norefs,AV.noref,c1,w1,c3,c4,hp,c6,hx,c7,c8,c9,c10,hh,e1,w2,w3,hA,allSz_inA,get_mapN,b31,o1,e]
   all_goals done
  have o1:decide ((effO x.op).1≤h)=true:=by rw [decide_eq_true_eq]; exact ho1
  by_cases hz:h=0
  rotate_left
  ·have o2:(h == 0)=false:=by rw [beq_eq_false_iff_ne]; exact hz
   have e:=hbad (q:=True) (fun hk=>hz (hk.2 a31))
   simp (maxSteps:=10000000) only [mkT,lkT,Nat.reduceAdd,Nat.reduceEqDiff,↓reduceIte,Nat.zero_add]
   simp (maxSteps:=10000000) +contextual -implicitDefEqProofs only [bnC,bnS,guardV,St.put,borrow,borrows,pin,pl,↓reduceIte,reduceCtorEq,Nat.reduceAdd,Int.reduceLT,Nat.reduceLT,bnT,bnX,Int.reduceAdd,bnH,kA_eq,inA_eq,cdA_eq,norefs,AV.noref,c1,w1,c3,c4,hp,c6,hx,c7,c8,c9,c10,hh,e1,w2,w3,hA,allSz_inA,get_mapN,b31,o1,o2,e]
   all_goals done
  have o2:(h == 0)=true:=by rw [beq_iff_eq]; exact hz
  have hI2:=fin _ hP (fun _ _ _=>rfl) ⟨ho1,fun _=>hz⟩ (fun j h' hj=>by simp [succI,a31] at hj)
  have ih:=fun c=>ih ⟨hs,ws,m,v⟩ c hI2 (by simp only; omega)
  simp only at ih
  simp (maxSteps:=10000000) only [mkT,lkT,Nat.reduceAdd,Nat.reduceEqDiff,↓reduceIte,Nat.zero_add]
  simp (maxSteps:=10000000) +contextual -implicitDefEqProofs only [bnC,bnS,guardV,St.put,borrow,borrows,pin,pl,↓reduceIte,reduceCtorEq,Nat.reduceAdd,Int.reduceLT,Nat.reduceLT,bnT,bnX,Int.reduceAdd,bnH,kA_eq,inA_eq,cdA_eq,norefs,AV.noref,c1,w1,c3,c4,hp,c6,hx,c7,c8,c9,c10,hh,e1,w2,w3,hA,allSz_inA,get_mapN,b31,o1,o2]
  refine go_weak ?_ ?_ (Nat.le_refl _) (ih _)
  all_goals simp (maxSteps:=10000000) only [bnC,bnS,↓reduceIte,reduceCtorEq,Nat.reduceAdd,Nat.reduceEqDiff,mkT,lkT,cdA_eq]
  all_goals done
 by_cases a12:x.op=12
 ·have b31:(x.op == 31)=false:=by rw [beq_eq_false_iff_ne]; exact a31
  have b12:(x.op == 12)=true:=by rw [beq_iff_eq]; exact a12
  by_cases ho1:(effO x.op).1≤h
  rotate_left
  ·have o1:decide ((effO x.op).1≤h)=false:=by rw [decide_eq_false_iff_not]; exact ho1
   have e:=hbad (q:=True) (fun hk=>ho1 hk.1)
   simp (maxSteps:=10000000) only [mkT,lkT,Nat.reduceAdd,Nat.reduceEqDiff,↓reduceIte,Nat.zero_add]
   simp (maxSteps:=10000000) +contextual -implicitDefEqProofs only [bnC,bnS,guardV,St.put,borrow,borrows,pin,pl,↓reduceIte,reduceCtorEq,Nat.reduceAdd,Int.reduceLT,Nat.reduceLT,bnT,bnX,Int.reduceAdd,bnH,kA_eq,inA_eq,cdA_eq,norefs,AV.noref,c1,w1,c3,c4,hp,c6,hx,c7,c8,c9,c10,hh,e1,w2,w3,hA,callGA_un,allSz_inA,get_mapN,b31,b12,o1,e]
   all_goals done
  have o1:decide ((effO x.op).1≤h)=true:=by rw [decide_eq_true_eq]; exact ho1
  have ho:okIn x h:=⟨ho1,fun hk=>absurd hk a31⟩
  have hef:=eff12 _ a12
  have hs0:=hstep (j:=x.a) (h':=A) ho (by simp [succI,a31,a12]; omega)
  have E0:=e196 x.a A ⟨hs,ws,m,v⟩ ⟨true,0,36,7,[cdA c],false⟩ ⟨true,cn,102,2,[inA x],false⟩ 1 2 v3 (cn+1) hs0.2.1 (by simp only; omega) (by simp only; omega) (by simp only; omega)
  obtain ⟨k1,k2⟩:=hinv hP hs0.1 hs0.2.1 hs0.2.2 (cn+1)
  obtain ⟨⟨b,r0⟩,hr0⟩:∃ y,rchF ⟨hs,ws,m,v⟩ x.a A (cn+1)=y:=⟨_,rfl⟩
  rw [hr0] at E0 k1 k2
  simp only [hgH,cdA_eq,inA_eq] at E0
  simp only at k1 k2
  cases b with
  | false=>
   have e:=k1 rfl
   clear k1 k2 ih fin hinv
   simp (maxSteps:=10000000) only [mkT,lkT,Nat.reduceAdd,Nat.reduceEqDiff,↓reduceIte,Nat.zero_add]
   simp (maxSteps:=10000000) +contextual -implicitDefEqProofs only [bnC,bnS,guardV,St.put,borrow,borrows,pin,pl,↓reduceIte,reduceCtorEq,Nat.reduceAdd,Nat.reduceEqDiff,Int.reduceLT,Nat.reduceLT,bnT,bnX,Int.reduceAdd,bnH,hin,hl,kA_eq,inA_eq,cdA_eq,norefs,AV.noref,c1,w1,c3,c4,hp,c6,hx,c7,c8,c9,c10,hh,e1,w2,w3,hA,allSz_inA,get_mapN,b31,b12,o1,E0,e]
   all_goals done
  | true=>
  obtain ⟨g10,g20,g30,g40,g50⟩:=k2 rfl
  clear k1 k2
  have hI2:=fin _ g10 g40 ho (fun j h' hj=>by
   simp [succI,a31,a12] at hj
   obtain ⟨rfl,hj2⟩:=hj
   exact ⟨g20,by rw [g30]; omega⟩)
  have ih:=fun c=>ih r0 c hI2 (by omega)
  clear fin hinv
  simp (maxSteps:=10000000) only [mkT,lkT,Nat.reduceAdd,Nat.reduceEqDiff,↓reduceIte,Nat.zero_add]
  simp (maxSteps:=10000000) +contextual -implicitDefEqProofs only [bnC,bnS,guardV,St.put,borrow,borrows,pin,pl,↓reduceIte,reduceCtorEq,Nat.reduceAdd,Nat.reduceEqDiff,Int.reduceLT,Nat.reduceLT,bnT,bnX,Int.reduceAdd,bnH,hin,hl,kA_eq,inA_eq,cdA_eq,norefs,AV.noref,c1,w1,c3,c4,hp,c6,hx,c7,c8,c9,c10,hh,e1,w2,w3,hA,allSz_inA,get_mapN,b31,b12,o1,E0]
  refine go_weak ?_ ?_ (Nat.le_refl _) (ih _)
  all_goals simp (maxSteps:=10000000) only [bnC,bnS,↓reduceIte,reduceCtorEq,Nat.reduceAdd,Nat.reduceEqDiff,mkT,lkT,cdA_eq]
  all_goals done
 by_cases a13:x.op=13
 ·have b31:(x.op == 31)=false:=by rw [beq_eq_false_iff_ne]; exact a31
  have b12:(x.op == 12)=false:=by rw [beq_eq_false_iff_ne]; exact a12
  have b13:(x.op == 13)=true:=by rw [beq_iff_eq]; exact a13
  by_cases ho1:(effO x.op).1≤h
  rotate_left
  ·have o1:decide ((effO x.op).1≤h)=false:=by rw [decide_eq_false_iff_not]; exact ho1
   have e:=hbad (q:=True) (fun hk=>ho1 hk.1)
   simp (maxSteps:=10000000) only [mkT,lkT,Nat.reduceAdd,Nat.reduceEqDiff,↓reduceIte,Nat.zero_add]
   simp (maxSteps:=10000000) +contextual -implicitDefEqProofs only [bnC,bnS,guardV,St.put,borrow,borrows,pin,pl,↓reduceIte,reduceCtorEq,Nat.reduceAdd,Int.reduceLT,Nat.reduceLT,bnT,bnX,Int.reduceAdd,bnH,kA_eq,inA_eq,cdA_eq,norefs,AV.noref,c1,w1,c3,c4,hp,c6,hx,c7,c8,c9,c10,hh,e1,w2,w3,hA,callGA_un,allSz_inA,get_mapN,b31,b12,b13,o1,e]
   all_goals done
  have o1:decide ((effO x.op).1≤h)=true:=by rw [decide_eq_true_eq]; exact ho1
  have ho:okIn x h:=⟨ho1,fun hk=>absurd hk a31⟩
  have hef:=eff13 _ a13
  have hs0:=hstep (j:=((p:Int)+1)) (h':=A) ho (by simp [succI,a31,a12,a13]; omega)
  have hs1:=hstep (j:=x.a) (h':=A) ho (by simp [succI,a31,a12,a13]; omega)
  have E0:=e196 ((p:Int)+1) A ⟨hs,ws,m,v⟩ ⟨true,0,36,7,[cdA c],false⟩ ⟨true,cn,102,2,[inA x],false⟩ 1 2 v3 (cn+1) hs0.2.1 (by simp only; omega) (by simp only; omega) (by simp only; omega)
  obtain ⟨k1,k2⟩:=hinv hP hs0.1 hs0.2.1 hs0.2.2 (cn+1)
  obtain ⟨⟨b,r0⟩,hr0⟩:∃ y,rchF ⟨hs,ws,m,v⟩ ((p:Int)+1) A (cn+1)=y:=⟨_,rfl⟩
  rw [hr0] at E0 k1 k2
  simp only [hgH,cdA_eq,inA_eq] at E0
  simp only at k1 k2
  cases b with
  | false=>
   have e:=k1 rfl
   clear k1 k2 ih fin hinv
   simp (maxSteps:=10000000) only [mkT,lkT,Nat.reduceAdd,Nat.reduceEqDiff,↓reduceIte,Nat.zero_add]
   simp (maxSteps:=10000000) +contextual -implicitDefEqProofs only [bnC,bnS,guardV,St.put,borrow,borrows,pin,pl,↓reduceIte,reduceCtorEq,Nat.reduceAdd,Nat.reduceEqDiff,Int.reduceLT,Nat.reduceLT,bnT,bnX,Int.reduceAdd,bnH,hin,hl,kA_eq,inA_eq,cdA_eq,norefs,AV.noref,c1,w1,c3,c4,hp,c6,hx,c7,c8,c9,c10,hh,e1,w2,w3,hA,callGA_un,allSz_inA,get_mapN,b31,b12,b13,o1,w4,E0,e]
   all_goals done
  | true=>
  obtain ⟨g10,g20,g30,g40,g50⟩:=k2 rfl
  clear k1 k2
  have E1:=e196 x.a A r0 ⟨true,0,36,7,[cdA c],false⟩ ⟨true,cn,102,2,[inA x],false⟩ 1 2 v3 (cn+3) hs1.2.1 g10.nle (by have:=g10.mea; omega) (by have:=g10.len; omega)
  obtain ⟨k1,k2⟩:=hinv g10 hs1.1 hs1.2.1 hs1.2.2 (cn+3)
  obtain ⟨⟨b,r1⟩,hr1⟩:∃ y,rchF r0 x.a A (cn+3)=y:=⟨_,rfl⟩
  rw [hr1] at E1 k1 k2
  simp only [hgH,cdA_eq,inA_eq] at E1
  simp only at k1 k2
  cases b with
  | false=>
   have e:=k1 rfl
   clear k1 k2 ih fin hinv
   simp (maxSteps:=10000000) only [mkT,lkT,Nat.reduceAdd,Nat.reduceEqDiff,↓reduceIte,Nat.zero_add]
   simp (maxSteps:=10000000) +contextual -implicitDefEqProofs only [bnC,bnS,guardV,St.put,borrow,borrows,pin,pl,↓reduceIte,reduceCtorEq,Nat.reduceAdd,Nat.reduceEqDiff,Int.reduceLT,Nat.reduceLT,bnT,bnX,Int.reduceAdd,bnH,hin,hl,kA_eq,inA_eq,cdA_eq,norefs,AV.noref,c1,w1,c3,c4,hp,c6,hx,c7,c8,c9,c10,hh,e1,w2,w3,hA,allSz_inA,get_mapN,b31,b12,b13,o1,w4,E0,E1,e]
   all_goals done
  | true=>
  obtain ⟨g11,g21,g31,g41,g51⟩:=k2 rfl
  clear k1 k2
  have hI2:=fin _ g11 (fun j h0 h1=>by rw [g41 j h0 (by rw [g40 j h0 h1]; exact h1),g40 j h0 h1]) ho (fun j h' hj=>by
   simp [succI,a31,a12,a13] at hj
   rcases hj with ⟨rfl,hj2⟩ | ⟨rfl,hj2⟩
   ·exact ⟨g20,by rw [g41 _ (by omega) (by rw [g30]; exact hs0.2.2),g30]; omega⟩
   ·exact ⟨g21,by rw [g31]; omega⟩)
  have ih:=fun c=>ih r1 c hI2 (by omega)
  clear fin hinv
  simp (maxSteps:=10000000) only [mkT,lkT,Nat.reduceAdd,Nat.reduceEqDiff,↓reduceIte,Nat.zero_add]
  simp (maxSteps:=10000000) +contextual -implicitDefEqProofs only [bnC,bnS,guardV,St.put,borrow,borrows,pin,pl,↓reduceIte,reduceCtorEq,Nat.reduceAdd,Nat.reduceEqDiff,Int.reduceLT,Nat.reduceLT,bnT,bnX,Int.reduceAdd,bnH,hin,hl,kA_eq,inA_eq,cdA_eq,norefs,AV.noref,c1,w1,c3,c4,hp,c6,hx,c7,c8,c9,c10,hh,e1,w2,w3,hA,allSz_inA,get_mapN,b31,b12,b13,o1,w4,E0,E1]
  refine go_weak ?_ ?_ (Nat.le_refl _) (ih _)
  all_goals simp (maxSteps:=10000000) only [bnC,bnS,↓reduceIte,reduceCtorEq,Nat.reduceAdd,Nat.reduceEqDiff,mkT,lkT,cdA_eq]
  all_goals done
 by_cases a14:x.op=14
 ·have b31:(x.op == 31)=false:=by rw [beq_eq_false_iff_ne]; exact a31
  have b12:(x.op == 12)=false:=by rw [beq_eq_false_iff_ne]; exact a12
  have b13:(x.op == 13)=false:=by rw [beq_eq_false_iff_ne]; exact a13
  have b14:(x.op == 14)=true:=by rw [beq_iff_eq]; exact a14
  by_cases ho1:(effO x.op).1≤h
  rotate_left
  ·have o1:decide ((effO x.op).1≤h)=false:=by rw [decide_eq_false_iff_not]; exact ho1
   have e:=hbad (q:=True) (fun hk=>ho1 hk.1)
   simp (maxSteps:=10000000) only [mkT,lkT,Nat.reduceAdd,Nat.reduceEqDiff,↓reduceIte,Nat.zero_add]
   simp (maxSteps:=10000000) +contextual -implicitDefEqProofs only [bnC,bnS,guardV,St.put,borrow,borrows,pin,pl,↓reduceIte,reduceCtorEq,Nat.reduceAdd,Int.reduceLT,Nat.reduceLT,bnT,bnX,Int.reduceAdd,bnH,kA_eq,inA_eq,cdA_eq,norefs,AV.noref,c1,w1,c3,c4,hp,c6,hx,c7,c8,c9,c10,hh,e1,w2,w3,hA,callGA_un,allSz_inA,get_mapN,b31,b12,b13,b14,o1,e]
   all_goals done
  have o1:decide ((effO x.op).1≤h)=true:=by rw [decide_eq_true_eq]; exact ho1
  have ho:okIn x h:=⟨ho1,fun hk=>absurd hk a31⟩
  have hef:=eff14 _ a14
  have hs0:=hstep (j:=((p:Int)+1)) (h':=A) ho (by simp [succI,a31,a12,a13,a14]; omega)
  have hs1:=hstep (j:=x.a) (h':=(A - 1)) ho (by simp [succI,a31,a12,a13,a14]; omega)
  have E0:=e196 ((p:Int)+1) A ⟨hs,ws,m,v⟩ ⟨true,0,36,7,[cdA c],false⟩ ⟨true,cn,102,2,[inA x],false⟩ 1 2 v3 (cn+1) hs0.2.1 (by simp only; omega) (by simp only; omega) (by simp only; omega)
  obtain ⟨k1,k2⟩:=hinv hP hs0.1 hs0.2.1 hs0.2.2 (cn+1)
  obtain ⟨⟨b,r0⟩,hr0⟩:∃ y,rchF ⟨hs,ws,m,v⟩ ((p:Int)+1) A (cn+1)=y:=⟨_,rfl⟩
  rw [hr0] at E0 k1 k2
  simp only [hgH,cdA_eq,inA_eq] at E0
  simp only at k1 k2
  cases b with
  | false=>
   have e:=k1 rfl
   clear k1 k2 ih fin hinv
   simp (maxSteps:=10000000) only [mkT,lkT,Nat.reduceAdd,Nat.reduceEqDiff,↓reduceIte,Nat.zero_add]
   simp (maxSteps:=10000000) +contextual -implicitDefEqProofs only [bnC,bnS,guardV,St.put,borrow,borrows,pin,pl,↓reduceIte,reduceCtorEq,Nat.reduceAdd,Nat.reduceEqDiff,Int.reduceLT,Nat.reduceLT,bnT,bnX,Int.reduceAdd,bnH,hin,hl,kA_eq,inA_eq,cdA_eq,norefs,AV.noref,c1,w1,c3,c4,hp,c6,hx,c7,c8,c9,c10,hh,e1,w2,w3,hA,callGA_un,allSz_inA,get_mapN,b31,b12,b13,b14,o1,w4,E0,e]
   all_goals done
  | true=>
  obtain ⟨g10,g20,g30,g40,g50⟩:=k2 rfl
  clear k1 k2
  have E1:=e196 x.a (A - 1) r0 ⟨true,0,36,7,[cdA c],false⟩ ⟨true,cn,102,2,[inA x],false⟩ 1 2 v3 (cn+3) hs1.2.1 g10.nle (by have:=g10.mea; omega) (by have:=g10.len; omega)
  obtain ⟨k1,k2⟩:=hinv g10 hs1.1 hs1.2.1 hs1.2.2 (cn+3)
  obtain ⟨⟨b,r1⟩,hr1⟩:∃ y,rchF r0 x.a (A - 1) (cn+3)=y:=⟨_,rfl⟩
  rw [hr1] at E1 k1 k2
  simp only [hgH,cdA_eq,inA_eq] at E1
  simp only at k1 k2
  cases b with
  | false=>
   have e:=k1 rfl
   clear k1 k2 ih fin hinv
   simp (maxSteps:=10000000) only [mkT,lkT,Nat.reduceAdd,Nat.reduceEqDiff,↓reduceIte,Nat.zero_add]
   simp (maxSteps:=10000000) +contextual -implicitDefEqProofs only [bnC,bnS,guardV,St.put,borrow,borrows,pin,pl,↓reduceIte,reduceCtorEq,Nat.reduceAdd,Nat.reduceEqDiff,Int.reduceLT,Nat.reduceLT,bnT,bnX,Int.reduceAdd,bnH,hin,hl,kA_eq,inA_eq,cdA_eq,norefs,AV.noref,c1,w1,c3,c4,hp,c6,hx,c7,c8,c9,c10,hh,e1,w2,w3,hA,allSz_inA,get_mapN,b31,b12,b13,b14,o1,w4,w5,E0,E1,e]
   all_goals done
  | true=>
  obtain ⟨g11,g21,g31,g41,g51⟩:=k2 rfl
  clear k1 k2
  have hI2:=fin _ g11 (fun j h0 h1=>by rw [g41 j h0 (by rw [g40 j h0 h1]; exact h1),g40 j h0 h1]) ho (fun j h' hj=>by
   simp [succI,a31,a12,a13,a14] at hj
   rcases hj with ⟨rfl,hj2⟩ | ⟨rfl,hj2⟩
   ·exact ⟨g20,by rw [g41 _ (by omega) (by rw [g30]; exact hs0.2.2),g30]; omega⟩
   ·exact ⟨g21,by rw [g31]; omega⟩)
  have ih:=fun c=>ih r1 c hI2 (by omega)
  clear fin hinv
  simp (maxSteps:=10000000) only [mkT,lkT,Nat.reduceAdd,Nat.reduceEqDiff,↓reduceIte,Nat.zero_add]
  simp (maxSteps:=10000000) +contextual -implicitDefEqProofs only [bnC,bnS,guardV,St.put,borrow,borrows,pin,pl,↓reduceIte,reduceCtorEq,Nat.reduceAdd,Nat.reduceEqDiff,Int.reduceLT,Nat.reduceLT,bnT,bnX,Int.reduceAdd,bnH,hin,hl,kA_eq,inA_eq,cdA_eq,norefs,AV.noref,c1,w1,c3,c4,hp,c6,hx,c7,c8,c9,c10,hh,e1,w2,w3,hA,allSz_inA,get_mapN,b31,b12,b13,b14,o1,w4,w5,E0,E1]
  refine go_weak ?_ ?_ (Nat.le_refl _) (ih _)
  all_goals simp (maxSteps:=10000000) only [bnC,bnS,↓reduceIte,reduceCtorEq,Nat.reduceAdd,Nat.reduceEqDiff,mkT,lkT,cdA_eq]
  all_goals done
 have b31:(x.op == 31)=false:=by rw [beq_eq_false_iff_ne]; exact a31
 have b12:(x.op == 12)=false:=by rw [beq_eq_false_iff_ne]; exact a12
 have b13:(x.op == 13)=false:=by rw [beq_eq_false_iff_ne]; exact a13
 have b14:(x.op == 14)=false:=by rw [beq_eq_false_iff_ne]; exact a14
 by_cases ho1:(effO x.op).1≤h
 rotate_left
 ·have o1:decide ((effO x.op).1≤h)=false:=by rw [decide_eq_false_iff_not]; exact ho1
  have e:=hbad (q:=True) (fun hk=>ho1 hk.1)
  simp (maxSteps:=10000000) only [mkT,lkT,Nat.reduceAdd,Nat.reduceEqDiff,↓reduceIte,Nat.zero_add]
  simp (maxSteps:=10000000) +contextual -implicitDefEqProofs only [bnC,bnS,guardV,St.put,borrow,borrows,pin,pl,↓reduceIte,reduceCtorEq,Nat.reduceAdd,Int.reduceLT,Nat.reduceLT,bnT,bnX,Int.reduceAdd,bnH,kA_eq,inA_eq,cdA_eq,norefs,AV.noref,c1,w1,c3,c4,hp,c6,hx,c7,c8,c9,c10,hh,e1,w2,w3,hA,callGA_un,allSz_inA,get_mapN,b31,b12,b13,b14,o1,e]
  all_goals done
 have o1:decide ((effO x.op).1≤h)=true:=by rw [decide_eq_true_eq]; exact ho1
 have ho:okIn x h:=⟨ho1,fun hk=>absurd hk a31⟩
 have hs0:=hstep (j:=((p:Int)+1)) (h':=A) ho (by simp [succI,a31,a12,a13,a14]; omega)
 have E0:=e196 ((p:Int)+1) A ⟨hs,ws,m,v⟩ ⟨true,0,36,7,[cdA c],false⟩ ⟨true,cn,102,2,[inA x],false⟩ 1 2 v3 (cn+1) hs0.2.1 (by simp only; omega) (by simp only; omega) (by simp only; omega)
 obtain ⟨k1,k2⟩:=hinv hP hs0.1 hs0.2.1 hs0.2.2 (cn+1)
 obtain ⟨⟨b,r0⟩,hr0⟩:∃ y,rchF ⟨hs,ws,m,v⟩ ((p:Int)+1) A (cn+1)=y:=⟨_,rfl⟩
 rw [hr0] at E0 k1 k2
 simp only [hgH,cdA_eq,inA_eq] at E0
 simp only at k1 k2
 cases b with
 | false=>
  have e:=k1 rfl
  clear k1 k2 ih fin hinv
  simp (maxSteps:=10000000) only [mkT,lkT,Nat.reduceAdd,Nat.reduceEqDiff,↓reduceIte,Nat.zero_add]
  simp (maxSteps:=10000000) +contextual -implicitDefEqProofs only [bnC,bnS,guardV,St.put,borrow,borrows,pin,pl,↓reduceIte,reduceCtorEq,Nat.reduceAdd,Nat.reduceEqDiff,Int.reduceLT,Nat.reduceLT,bnT,bnX,Int.reduceAdd,bnH,hin,hl,kA_eq,inA_eq,cdA_eq,norefs,AV.noref,c1,w1,c3,c4,hp,c6,hx,c7,c8,c9,c10,hh,e1,w2,w3,hA,allSz_inA,get_mapN,b31,b12,b13,b14,o1,w4,E0,e]
  all_goals done
 | true=>
 obtain ⟨g10,g20,g30,g40,g50⟩:=k2 rfl
 clear k1 k2
 have hI2:=fin _ g10 g40 ho (fun j h' hj=>by
  simp [succI,a31,a12,a13,a14] at hj
  obtain ⟨rfl,hj2⟩:=hj
  exact ⟨g20,by rw [g30]; omega⟩)
 have ih:=fun c=>ih r0 c hI2 (by omega)
 clear fin hinv
 simp (maxSteps:=10000000) only [mkT,lkT,Nat.reduceAdd,Nat.reduceEqDiff,↓reduceIte,Nat.zero_add]
 simp (maxSteps:=10000000) +contextual -implicitDefEqProofs only [bnC,bnS,guardV,St.put,borrow,borrows,pin,pl,↓reduceIte,reduceCtorEq,Nat.reduceAdd,Nat.reduceEqDiff,Int.reduceLT,Nat.reduceLT,bnT,bnX,Int.reduceAdd,bnH,hin,hl,kA_eq,inA_eq,cdA_eq,norefs,AV.noref,c1,w1,c3,c4,hp,c6,hx,c7,c8,c9,c10,hh,e1,w2,w3,hA,allSz_inA,get_mapN,b31,b12,b13,b14,o1,w4,E0]
 refine go_weak ?_ ?_ (Nat.le_refl _) (ih _)
 all_goals simp (maxSteps:=10000000) only [bnC,bnS,↓reduceIte,reduceCtorEq,Nat.reduceAdd,Nat.reduceEqDiff,mkT,lkT,cdA_eq]
 all_goals done
end Go.Proofs.YtdjpkhjaibdogaaGreat
