/-
  Joined texts: BF.
  Conditions: none.
-/
import Derived.Test.YtdjpkhjaibdogaaGreatL29
namespace Go.Proofs.YtdjpkhjaibdogaaGreat
open Go Go.SX
set_option linter.unusedSimpArgs false
set_option linter.unusedVariables false
attribute [local congr] ite_congr
set_option maxRecDepth 100000
set_option maxHeartbeats 8000000
def tgP (c:Cd) (x:In):Bool:=jmpO x.op && !inI x.a 0 (c.ins.length - 1)
def targC (c:Cd):Bool:=!c.ins.any (tgP c) && !c.ens.any (tgB c)
noncomputable def f144:=mkF Fit (fun c=>[cdA c]) (fun c=>bA (targC c))
theorem e144 (c:Cd) (h:Fit c):f144 [cdA c]=some (.sc (.bool (targC c))):=
 (mkF_eq (q:=Fit) (enc:=fun c=>[cdA c]) (out:=fun c=>bA (targC c)) c h (by
  intro b h
  simp only [List.cons.injEq,and_true] at h
  rw [cdA_inj h]) :)
theorem ok144:POk Tryz.prog 144 f144:=pok_mk <| by
 rintro c hq
 obtain ⟨q1,q2,q3,q4,q5,q6,q7,q8⟩:=hq
 have hq:Fit c:=⟨q1,q2,q3,q4,q5,q6,q7,q8⟩
 obtain ⟨v1,v2,v3,v4,v5,v6⟩:=fit_wraps hq
 obtain ⟨F190,k190,e190⟩:=pok_at (hasE1 ok195 (tgB c) [cdA c] c.ze c.ens (fun b _=>e195 c hq b) (by omega))
 simp only [cdA_eq,bA_eq] at e190
 refine pspec_of_go (fEnv_ok ((.cons k190 (.cons ok184 (.cons ok194 .nil)))) (.nil)) rfl Tryz.func144 rfl (by decide) (by kernel_rfl) (by kernel_rfl) ?_
 simp only [Tryz.f144,initSt,List.length_cons,List.length_nil,Nat.reduceAdd,Nat.reduceSub,List.replicate]
 refine vc_go ?_
 simp (maxSteps:=10000000) +contextual -implicitDefEqProofs only [bnC,bnS,St.put,↓reduceIte,reduceCtorEq,Nat.reduceAdd,bnT,Int.reduceAdd,bnH,bA_eq,cdA_eq]
 refine go_loopW (σ:=Nat) (fun k cnt=>⟨mkT 0 31 [(1,.pt 0 0 0 0),(6,.vw c.zi (c.ins.map inA)),(7,.sc (.int .i64 c.ins.length)),(8,.sc (.int .i64 k))],[⟨true,0,36,7,[cdA c],false⟩],cnt⟩)
  (fun k=>k≤c.ins.length∧∀ j,j < k→tgP c (c.ins.getD j default)=false) (fun k=>c.ins.length - k) 0 ⟨by omega,by omega⟩ ?_ ?_ rfl ?_
 ·simp (maxSteps:=10000000) only [bnC,bnS,↓reduceIte,reduceCtorEq,Nat.reduceAdd,Nat.reduceEqDiff,mkT,lkT]
 ·simp (maxSteps:=10000000) only [bnC,bnS,cdA_eq]
 rintro k cnt ⟨hk,hn⟩ ih
 by_cases hk':k < c.ins.length
 rotate_left
 ·obtain rfl:k=c.ins.length:=by omega
  have h1:decide ((c.ins.length:Int) < (c.ins.length:Int))=false:=by simp
  have e:c.ins.any (tgP c)=false:=any_no hn
  refine vc_go ?_
  simp (maxSteps:=10000000) only [mkT,lkT,Nat.reduceAdd,Nat.reduceEqDiff,↓reduceIte,Nat.zero_add]
  simp (maxSteps:=10000000) +contextual -implicitDefEqProofs only [bnC,bnS,St.put,borrow,borrows,pin,pl,↓reduceIte,reduceCtorEq,bnT,bnH,cdA_eq,h1,e190,targC,e]
  all_goals done
 have h1:decide ((k:Int) < (c.ins.length:Int))=true:=by rw [decide_eq_true_eq]; omega
 have h2:decide (k < c.ins.length)=true:=by rw [decide_eq_true_eq]; omega
 have w1:IntKind.i64.wrap ((k:Int)+1)=((k+1:Nat):Int):=by rw [wrap64 (by omega) (by omega)]; omega
 have ih:=fun c=>ih (k+1) c
 have hat:=any_at (p:=tgP c) hk'
 have hne:=till_next hn (k:=k)
 obtain ⟨⟨op,a⟩,hx⟩:∃ x,c.ins.getD k default=x:=⟨_,rfl⟩
 rw [hx] at hat hne
 have x2:=e194 op
 refine vc_go ?_
 cases hj:jmpO op with
 | false=>
  rw [hj] at x2
  have ih:=fun c=>ih c ⟨by omega,hne (by simp [tgP,hj])⟩ (by omega)
  simp (maxSteps:=10000000) only [mkT,lkT,Nat.reduceAdd,Nat.reduceEqDiff,↓reduceIte,Nat.zero_add]
  simp (maxSteps:=10000000) +contextual -implicitDefEqProofs only [bnC,bnS,guardV,St.put,borrow,borrows,pin,pl,↓reduceIte,reduceCtorEq,Nat.reduceAdd,Nat.reduceEqDiff,Int.reduceLT,Nat.reduceLT,bnT,bnX,Int.reduceAdd,bnH,inA_eq,cdA_eq,norefs,AV.noref,h1,h2,hx,ldV_mapN,allSz_inA,x2,w1]
  refine go_weak ?_ ?_ (Nat.le_refl _) (ih _)
  all_goals simp (maxSteps:=10000000) only [bnC,bnS,↓reduceIte,reduceCtorEq,Nat.reduceAdd,Nat.reduceEqDiff,mkT,lkT,cdA_eq]
  all_goals done
 | true=>
  rw [hj] at x2
  cases hi:inI a 0 (c.ins.length - 1) with
  | true=>
   have ih:=fun c=>ih c ⟨by omega,hne (by simp [tgP,hj,hi])⟩ (by omega)
   simp (maxSteps:=10000000) only [mkT,lkT,Nat.reduceAdd,Nat.reduceEqDiff,↓reduceIte,Nat.zero_add]
   simp (maxSteps:=10000000) +contextual -implicitDefEqProofs only [bnC,bnS,guardV,St.put,borrow,borrows,pin,pl,↓reduceIte,reduceCtorEq,Nat.reduceAdd,Nat.reduceEqDiff,Int.reduceLT,Nat.reduceLT,bnT,bnX,Int.reduceAdd,bnH,inA_eq,cdA_eq,norefs,AV.noref,h1,h2,hx,ldV_mapN,allSz_inA,x2,e99,v4,hi,w1]
   refine go_weak ?_ ?_ (Nat.le_refl _) (ih _)
   all_goals simp (maxSteps:=10000000) only [bnC,bnS,↓reduceIte,reduceCtorEq,Nat.reduceAdd,Nat.reduceEqDiff,mkT,lkT,cdA_eq]
   all_goals done
  | false=>
   have e:=hat (by simp [tgP,hj,hi])
   have e2:targC c=false:=by rw [targC,e]; rfl
   simp (maxSteps:=10000000) only [mkT,lkT,Nat.reduceAdd,Nat.reduceEqDiff,↓reduceIte,Nat.zero_add]
   simp (maxSteps:=10000000) +contextual -implicitDefEqProofs only [bnC,bnS,guardV,St.put,borrow,borrows,pin,pl,↓reduceIte,reduceCtorEq,Nat.reduceAdd,Nat.reduceEqDiff,Int.reduceLT,Nat.reduceLT,bnT,bnX,Int.reduceAdd,bnH,inA_eq,cdA_eq,norefs,AV.noref,h1,h2,hx,ldV_mapN,allSz_inA,x2,e99,v4,hi,e2]
   all_goals done
def txX (b:ByteArray):Bool:=!textB b
def enX (c:Cd) (e:En):Bool:=!entB c e
def nmX (c:Cd) (i:In):Bool:=!numB c i
def partR (c:Cd):Bool:=!(c.strs.any txX || c.pri.any prB || c.vars.any vaB || c.ens.any (enX c) || c.ins.any (nmX c))
theorem partR_eq (c:Cd):partR c=partC c:=by
 have:nmX c=insP c:=by funext i; rw [insP_eq]; rfl
 rw [partR,partC,prtB,this]; rfl
theorem ok100:POk Tryz.prog 100 f143:=pok_mk <| by
 rintro c hq
 rw [←partR_eq]
 obtain ⟨q1,q2,q3,q4,q5,q6,q7,q8⟩:=hq
 have hq:Fit c:=⟨q1,q2,q3,q4,q5,q6,q7,q8⟩
 have y2:=fun x=>e192 c hq x
 have y3:=fun x=>e149 c hq x
 simp only [cdA_eq] at y2 y3
 refine pspec_of_go (fEnv_ok ((.cons ok147 (.cons ok99 (.cons ok148 (.cons ok149 .nil))))) (.nil)) rfl Tryz.func100 rfl (by decide) (by kernel_rfl) (by kernel_rfl) ?_
 simp only [Tryz.f100,initSt,List.length_cons,List.length_nil,Nat.reduceAdd,Nat.reduceSub,List.replicate]
 refine vc_go ?_
 simp (maxSteps:=10000000) +contextual -implicitDefEqProofs only [bnC,bnS,St.put,Nat.reduceAdd,Int.reduceAdd,bnH,bA_eq,cdA_eq]
 refine go_loopW (σ:=Nat) (fun k cnt=>⟨mkT 0 80 [(1,.pt 0 0 0 0),(3,.sc (.int .i64 k))],[⟨true,0,36,7,[cdA c],false⟩],cnt⟩)
  (fun k=>k≤c.strs.length∧∀ j,j < k→(txX) (c.strs.getD j default)=false) (fun k=>c.strs.length - k) 0 ⟨by omega,by omega⟩ ?_ ?_ rfl ?_
 ·simp (maxSteps:=10000000) only [bnC,bnS,↓reduceIte,reduceCtorEq,Nat.reduceAdd,Nat.reduceEqDiff,mkT,lkT]
 ·simp (maxSteps:=10000000) only [bnC,bnS,cdA_eq]
 rintro k cnt ⟨hk,hn⟩ ih
 by_cases hk':k < c.strs.length
 ·have h1:decide ((k:Int) < (c.strs.length:Int))=true:=by rw [decide_eq_true_eq]; omega
  have h2:decide (k < c.strs.length)=true:=by rw [decide_eq_true_eq]; omega
  have w1:IntKind.i64.wrap ((k:Int)+1)=((k+1:Nat):Int):=by rw [wrap64 (by omega) (by omega)]; omega
  have ih:=fun c=>ih (k+1) c
  have hat:=any_at (p:=txX) hk'
  have hne:=till_next hn (k:=k)
  have hm:=getD_mem hk'
  obtain ⟨x,hx⟩:∃ x,c.strs.getD k default=x:=⟨_,rfl⟩
  rw [hx] at hat hne hm
  have x1:=e187 x (q8 x hm)
  refine vc_go ?_
  cases hb:(txX) x with
  | true=>
   have e:=hat hb
   have e2:partR c=false:=by rw [partR,e]; rfl
   have hb':textB x=false:=by simpa [txX] using hb
   rw [hb'] at x1
   simp (maxSteps:=10000000) only [mkT,lkT,Nat.reduceAdd,Nat.reduceEqDiff,↓reduceIte,Nat.zero_add]
   simp (maxSteps:=10000000) +contextual -implicitDefEqProofs only [bnC,bnS,St.put,borrow,borrows,pin,pl,↓reduceIte,reduceCtorEq,bnT,bnH,stA_eq,cdA_eq,AV.noref,h1,h2,hx,ldV_mapN,allSz_stA,x1,e2]
   repeat' (first | exact chk_no (by kernel_rfl) | refine ⟨chk_no (by kernel_rfl),?_⟩ | refine And.intro ?_ ?_ | fail)
   all_goals done
  | false=>
   have ih:=fun c=>ih c ⟨by omega,hne hb⟩ (by omega)
   have hb':textB x=true:=by simpa [txX] using hb
   rw [hb'] at x1
   simp (maxSteps:=10000000) only [mkT,lkT,Nat.reduceAdd,Nat.reduceEqDiff,↓reduceIte,Nat.zero_add]
   simp (maxSteps:=10000000) +contextual -implicitDefEqProofs only [bnC,bnS,St.put,borrow,borrows,pin,pl,↓reduceIte,reduceCtorEq,bnT,bnH,stA_eq,cdA_eq,AV.noref,h1,h2,hx,ldV_mapN,allSz_stA,x1,w1]
   repeat' (first | exact chk_no (by kernel_rfl) | refine ⟨chk_no (by kernel_rfl),?_⟩ | refine And.intro ?_ ?_ | fail)
   refine go_weak ?_ ?_ (Nat.le_refl _) (ih _)
   all_goals simp (maxSteps:=10000000) only [bnC,bnS,↓reduceIte,reduceCtorEq,Nat.reduceAdd,Nat.reduceEqDiff,mkT,lkT,cdA_eq]
   all_goals done
 have hkl:k=c.strs.length:=by omega
 subst hkl
 have h1:decide ((c.strs.length:Int) < (c.strs.length:Int))=false:=by simp
 have n3:c.strs.any (txX)=false:=any_no hn
 clear hn ih hk hk'
 refine vc_go ?_
 simp (maxSteps:=10000000) only [mkT,lkT,Nat.reduceAdd,Nat.reduceEqDiff,↓reduceIte,Nat.zero_add]
 simp (maxSteps:=10000000) +contextual -implicitDefEqProofs only [bnC,bnS,St.put,↓reduceIte,reduceCtorEq,bnT,bnH,cdA_eq,h1]
 refine go_loopW (σ:=Nat) (fun k cnt=>⟨mkT 0 80 [(1,.pt 0 0 0 0),(4,.sc (.int .i64 k))],[⟨true,0,36,7,[cdA c],false⟩],cnt⟩)
  (fun k=>k≤c.pri.length∧∀ j,j < k→(prB) (c.pri.getD j default)=false) (fun k=>c.pri.length - k) 0 ⟨by omega,by omega⟩ ?_ ?_ rfl ?_
 ·simp (maxSteps:=10000000) only [bnC,bnS,↓reduceIte,reduceCtorEq,Nat.reduceAdd,Nat.reduceEqDiff,mkT,lkT]
 ·simp (maxSteps:=10000000) only [bnC,bnS,cdA_eq]
 rintro k cnt ⟨hk,hn⟩ ih
 by_cases hk':k < c.pri.length
 ·have h1:decide ((k:Int) < (c.pri.length:Int))=true:=by rw [decide_eq_true_eq]; omega
  have h2:decide (k < c.pri.length)=true:=by rw [decide_eq_true_eq]; omega
  have w1:IntKind.i64.wrap ((k:Int)+1)=((k+1:Nat):Int):=by rw [wrap64 (by omega) (by omega)]; omega
  have ih:=fun c=>ih (k+1) c
  have hat:=any_at (p:=prB) hk'
  have hne:=till_next hn (k:=k)
  have hm:=getD_mem hk'
  obtain ⟨x,hx⟩:∃ x,c.pri.getD k default=x:=⟨_,rfl⟩
  rw [hx] at hat hne hm
  skip
  refine vc_go ?_
  cases hb:(prB) x with
  | true=>
   have e:=hat hb
   have e2:partR c=false:=by rw [partR,e,Bool.or_true]; rfl
   have hb':inI x 0 99=false:=by simpa [prB] using hb
   simp (maxSteps:=10000000) only [mkT,lkT,Nat.reduceAdd,Nat.reduceEqDiff,↓reduceIte,Nat.zero_add]
   simp (maxSteps:=10000000) +contextual -implicitDefEqProofs only [bnC,bnS,St.put,borrow,borrows,pin,pl,↓reduceIte,reduceCtorEq,Nat.reduceEqDiff,bnT,bnH,kA_eq,cdA_eq,AV.noref,h1,h2,hx,ldV_mapN,allSz_kA,e99,hb',e2]
   repeat' (first | exact chk_no (by kernel_rfl) | refine ⟨chk_no (by kernel_rfl),?_⟩ | refine And.intro ?_ ?_ | fail)
   all_goals done
  | false=>
   have ih:=fun c=>ih c ⟨by omega,hne hb⟩ (by omega)
   have hb':inI x 0 99=true:=by simpa [prB] using hb
   simp (maxSteps:=10000000) only [mkT,lkT,Nat.reduceAdd,Nat.reduceEqDiff,↓reduceIte,Nat.zero_add]
   simp (maxSteps:=10000000) +contextual -implicitDefEqProofs only [bnC,bnS,St.put,borrow,borrows,pin,pl,↓reduceIte,reduceCtorEq,Nat.reduceEqDiff,bnT,bnH,kA_eq,cdA_eq,AV.noref,h1,h2,hx,ldV_mapN,allSz_kA,e99,hb',w1]
   repeat' (first | exact chk_no (by kernel_rfl) | refine ⟨chk_no (by kernel_rfl),?_⟩ | refine And.intro ?_ ?_ | fail)
   refine go_weak ?_ ?_ (Nat.le_refl _) (ih _)
   all_goals simp (maxSteps:=10000000) only [bnC,bnS,↓reduceIte,reduceCtorEq,Nat.reduceAdd,Nat.reduceEqDiff,mkT,lkT,cdA_eq]
   all_goals done
 have hkl:k=c.pri.length:=by omega
 subst hkl
 have h1:decide ((c.pri.length:Int) < (c.pri.length:Int))=false:=by simp
 have n4:c.pri.any (prB)=false:=any_no hn
 clear hn ih hk hk'
 refine vc_go ?_
 simp (maxSteps:=10000000) only [mkT,lkT,Nat.reduceAdd,Nat.reduceEqDiff,↓reduceIte,Nat.zero_add]
 simp (maxSteps:=10000000) +contextual -implicitDefEqProofs only [bnC,bnS,St.put,↓reduceIte,reduceCtorEq,bnT,bnH,cdA_eq,h1]
 refine go_loopW (σ:=Nat) (fun k cnt=>⟨mkT 0 80 [(1,.pt 0 0 0 0),(5,.sc (.int .i64 k))],[⟨true,0,36,7,[cdA c],false⟩],cnt⟩)
  (fun k=>k≤c.vars.length∧∀ j,j < k→(vaB) (c.vars.getD j default)=false) (fun k=>c.vars.length - k) 0 ⟨by omega,by omega⟩ ?_ ?_ rfl ?_
 ·simp (maxSteps:=10000000) only [bnC,bnS,↓reduceIte,reduceCtorEq,Nat.reduceAdd,Nat.reduceEqDiff,mkT,lkT]
 ·simp (maxSteps:=10000000) only [bnC,bnS,cdA_eq]
 rintro k cnt ⟨hk,hn⟩ ih
 by_cases hk':k < c.vars.length
 ·have h1:decide ((k:Int) < (c.vars.length:Int))=true:=by rw [decide_eq_true_eq]; omega
  have h2:decide (k < c.vars.length)=true:=by rw [decide_eq_true_eq]; omega
  have w1:IntKind.i64.wrap ((k:Int)+1)=((k+1:Nat):Int):=by rw [wrap64 (by omega) (by omega)]; omega
  have ih:=fun c=>ih (k+1) c
  have hat:=any_at (p:=vaB) hk'
  have hne:=till_next hn (k:=k)
  have hm:=getD_mem hk'
  obtain ⟨x,hx⟩:∃ x,c.vars.getD k default=x:=⟨_,rfl⟩
  rw [hx] at hat hne hm
  skip
  refine vc_go ?_
  cases hb:(vaB) x with
  | true=>
   have e:=hat hb
   have e2:partR c=false:=by rw [partR,e,Bool.or_true]; rfl
   have hb':inI x (-2147483647) 2147483647=false:=by simpa [vaB] using hb
   simp (maxSteps:=10000000) only [mkT,lkT,Nat.reduceAdd,Nat.reduceEqDiff,↓reduceIte,Nat.zero_add]
   simp (maxSteps:=10000000) +contextual -implicitDefEqProofs only [bnC,bnS,St.put,borrow,borrows,pin,pl,↓reduceIte,reduceCtorEq,Nat.reduceEqDiff,bnT,bnH,kA_eq,cdA_eq,AV.noref,h1,h2,hx,ldV_mapN,allSz_kA,e99,hb',e2]
   repeat' (first | exact chk_no (by kernel_rfl) | refine ⟨chk_no (by kernel_rfl),?_⟩ | refine And.intro ?_ ?_ | fail)
   all_goals done
  | false=>
   have ih:=fun c=>ih c ⟨by omega,hne hb⟩ (by omega)
   have hb':inI x (-2147483647) 2147483647=true:=by simpa [vaB] using hb
   simp (maxSteps:=10000000) only [mkT,lkT,Nat.reduceAdd,Nat.reduceEqDiff,↓reduceIte,Nat.zero_add]
   simp (maxSteps:=10000000) +contextual -implicitDefEqProofs only [bnC,bnS,St.put,borrow,borrows,pin,pl,↓reduceIte,reduceCtorEq,Nat.reduceEqDiff,bnT,bnH,kA_eq,cdA_eq,AV.noref,h1,h2,hx,ldV_mapN,allSz_kA,e99,hb',w1]
   repeat' (first | exact chk_no (by kernel_rfl) | refine ⟨chk_no (by kernel_rfl),?_⟩ | refine And.intro ?_ ?_ | fail)
   refine go_weak ?_ ?_ (Nat.le_refl _) (ih _)
   all_goals simp (maxSteps:=10000000) only [bnC,bnS,↓reduceIte,reduceCtorEq,Nat.reduceAdd,Nat.reduceEqDiff,mkT,lkT,cdA_eq]
   all_goals done
 have hkl:k=c.vars.length:=by omega
 subst hkl
 have h1:decide ((c.vars.length:Int) < (c.vars.length:Int))=false:=by simp
 have n5:c.vars.any (vaB)=false:=any_no hn
 clear hn ih hk hk'
 refine vc_go ?_
 simp (maxSteps:=10000000) only [mkT,lkT,Nat.reduceAdd,Nat.reduceEqDiff,↓reduceIte,Nat.zero_add]
 simp (maxSteps:=10000000) +contextual -implicitDefEqProofs only [bnC,bnS,St.put,↓reduceIte,reduceCtorEq,bnT,bnH,cdA_eq,h1]
 refine go_loopW (σ:=Nat) (fun k cnt=>⟨mkT 0 80 [(1,.pt 0 0 0 0),(6,.sc (.int .i64 k))],[⟨true,0,36,7,[cdA c],false⟩],cnt⟩)
  (fun k=>k≤c.ens.length∧∀ j,j < k→(enX c) (c.ens.getD j default)=false) (fun k=>c.ens.length - k) 0 ⟨by omega,by omega⟩ ?_ ?_ rfl ?_
 ·simp (maxSteps:=10000000) only [bnC,bnS,↓reduceIte,reduceCtorEq,Nat.reduceAdd,Nat.reduceEqDiff,mkT,lkT]
 ·simp (maxSteps:=10000000) only [bnC,bnS,cdA_eq]
 rintro k cnt ⟨hk,hn⟩ ih
 by_cases hk':k < c.ens.length
 ·have h1:decide ((k:Int) < (c.ens.length:Int))=true:=by rw [decide_eq_true_eq]; omega
  have h2:decide (k < c.ens.length)=true:=by rw [decide_eq_true_eq]; omega
  have w1:IntKind.i64.wrap ((k:Int)+1)=((k+1:Nat):Int):=by rw [wrap64 (by omega) (by omega)]; omega
  have ih:=fun c=>ih (k+1) c
  have hat:=any_at (p:=enX c) hk'
  have hne:=till_next hn (k:=k)
  have hm:=getD_mem hk'
  obtain ⟨x,hx⟩:∃ x,c.ens.getD k default=x:=⟨_,rfl⟩
  rw [hx] at hat hne hm
  have y2:=y2 x
  simp only [enA_eq] at y2
  refine vc_go ?_
  cases hb:(enX c) x with
  | true=>
   have e:=hat hb
   have e2:partR c=false:=by rw [partR,e,Bool.or_true]; rfl
   have hb':entB c x=false:=by simpa [enX] using hb
   rw [hb'] at y2
   simp (maxSteps:=10000000) only [mkT,lkT,Nat.reduceAdd,Nat.reduceEqDiff,↓reduceIte,Nat.zero_add]
   simp (maxSteps:=10000000) +contextual -implicitDefEqProofs only [bnC,bnS,St.put,borrow,borrows,pin,pl,↓reduceIte,reduceCtorEq,Nat.reduceAdd,Nat.reduceEqDiff,bnT,Int.reduceAdd,bnH,enA_eq,cdA_eq,norefs,AV.noref,h1,h2,hx,ldV_mapN,allSz_enA,y2,e2]
   repeat' (first | exact chk_no (by kernel_rfl) | refine ⟨chk_no (by kernel_rfl),?_⟩ | refine And.intro ?_ ?_ | fail)
   all_goals done
  | false=>
   have ih:=fun c=>ih c ⟨by omega,hne hb⟩ (by omega)
   have hb':entB c x=true:=by simpa [enX] using hb
   rw [hb'] at y2
   simp (maxSteps:=10000000) only [mkT,lkT,Nat.reduceAdd,Nat.reduceEqDiff,↓reduceIte,Nat.zero_add]
   simp (maxSteps:=10000000) +contextual -implicitDefEqProofs only [bnC,bnS,St.put,borrow,borrows,pin,pl,↓reduceIte,reduceCtorEq,Nat.reduceAdd,Nat.reduceEqDiff,bnT,Int.reduceAdd,bnH,enA_eq,cdA_eq,norefs,AV.noref,h1,h2,hx,ldV_mapN,allSz_enA,y2,w1]
   repeat' (first | exact chk_no (by kernel_rfl) | refine ⟨chk_no (by kernel_rfl),?_⟩ | refine And.intro ?_ ?_ | fail)
   refine go_weak ?_ ?_ (Nat.le_refl _) (ih _)
   all_goals simp (maxSteps:=10000000) only [bnC,bnS,↓reduceIte,reduceCtorEq,Nat.reduceAdd,Nat.reduceEqDiff,mkT,lkT,cdA_eq]
   all_goals done
 have hkl:k=c.ens.length:=by omega
 subst hkl
 have h1:decide ((c.ens.length:Int) < (c.ens.length:Int))=false:=by simp
 have n6:c.ens.any (enX c)=false:=any_no hn
 clear hn ih hk hk'
 refine vc_go ?_
 simp (maxSteps:=10000000) only [mkT,lkT,Nat.reduceAdd,Nat.reduceEqDiff,↓reduceIte,Nat.zero_add]
 simp (maxSteps:=10000000) +contextual -implicitDefEqProofs only [bnC,bnS,St.put,↓reduceIte,reduceCtorEq,bnT,bnH,cdA_eq,h1]
 refine go_loopW (σ:=Nat) (fun k cnt=>⟨mkT 0 80 [(1,.pt 0 0 0 0),(7,.sc (.int .i64 k))],[⟨true,0,36,7,[cdA c],false⟩],cnt⟩)
  (fun k=>k≤c.ins.length∧∀ j,j < k→(nmX c) (c.ins.getD j default)=false) (fun k=>c.ins.length - k) 0 ⟨by omega,by omega⟩ ?_ ?_ rfl ?_
 ·simp (maxSteps:=10000000) only [bnC,bnS,↓reduceIte,reduceCtorEq,Nat.reduceAdd,Nat.reduceEqDiff,mkT,lkT]
 ·simp (maxSteps:=10000000) only [bnC,bnS,cdA_eq]
 rintro k cnt ⟨hk,hn⟩ ih
 by_cases hk':k < c.ins.length
 ·have h1:decide ((k:Int) < (c.ins.length:Int))=true:=by rw [decide_eq_true_eq]; omega
  have h2:decide (k < c.ins.length)=true:=by rw [decide_eq_true_eq]; omega
  have w1:IntKind.i64.wrap ((k:Int)+1)=((k+1:Nat):Int):=by rw [wrap64 (by omega) (by omega)]; omega
  have ih:=fun c=>ih (k+1) c
  have hat:=any_at (p:=nmX c) hk'
  have hne:=till_next hn (k:=k)
  have hm:=getD_mem hk'
  obtain ⟨x,hx⟩:∃ x,c.ins.getD k default=x:=⟨_,rfl⟩
  rw [hx] at hat hne hm
  have y3:=y3 x
  simp only [inA_eq] at y3
  refine vc_go ?_
  cases hb:(nmX c) x with
  | true=>
   have e:=hat hb
   have e2:partR c=false:=by rw [partR,e,Bool.or_true]; rfl
   have hb':numB c x=false:=by simpa [nmX] using hb
   rw [hb'] at y3
   simp (maxSteps:=10000000) only [mkT,lkT,Nat.reduceAdd,Nat.reduceEqDiff,↓reduceIte,Nat.zero_add]
   simp (maxSteps:=10000000) +contextual -implicitDefEqProofs only [bnC,bnS,St.put,borrow,borrows,pin,pl,↓reduceIte,reduceCtorEq,Nat.reduceAdd,Nat.reduceEqDiff,bnT,Int.reduceAdd,bnH,inA_eq,cdA_eq,norefs,AV.noref,h1,h2,hx,ldV_mapN,allSz_inA,y3,e2]
   repeat' (first | exact chk_no (by kernel_rfl) | refine ⟨chk_no (by kernel_rfl),?_⟩ | refine And.intro ?_ ?_ | fail)
   all_goals done
  | false=>
   have ih:=fun c=>ih c ⟨by omega,hne hb⟩ (by omega)
   have hb':numB c x=true:=by simpa [nmX] using hb
   rw [hb'] at y3
   simp (maxSteps:=10000000) only [mkT,lkT,Nat.reduceAdd,Nat.reduceEqDiff,↓reduceIte,Nat.zero_add]
   simp (maxSteps:=10000000) +contextual -implicitDefEqProofs only [bnC,bnS,St.put,borrow,borrows,pin,pl,↓reduceIte,reduceCtorEq,Nat.reduceAdd,Nat.reduceEqDiff,bnT,Int.reduceAdd,bnH,inA_eq,cdA_eq,norefs,AV.noref,h1,h2,hx,ldV_mapN,allSz_inA,y3,w1]
   repeat' (first | exact chk_no (by kernel_rfl) | refine ⟨chk_no (by kernel_rfl),?_⟩ | refine And.intro ?_ ?_ | fail)
   refine go_weak ?_ ?_ (Nat.le_refl _) (ih _)
   all_goals simp (maxSteps:=10000000) only [bnC,bnS,↓reduceIte,reduceCtorEq,Nat.reduceAdd,Nat.reduceEqDiff,mkT,lkT,cdA_eq]
   all_goals done
 have hkl:k=c.ins.length:=by omega
 subst hkl
 have h1:decide ((c.ins.length:Int) < (c.ins.length:Int))=false:=by simp
 have n7:c.ins.any (nmX c)=false:=any_no hn
 clear hn ih hk hk'
 refine vc_go ?_
 simp (maxSteps:=10000000) only [mkT,lkT,Nat.reduceAdd,Nat.reduceEqDiff,↓reduceIte,Nat.zero_add]
 simp (maxSteps:=10000000) +contextual -implicitDefEqProofs only [bnC,bnS,St.put,↓reduceIte,reduceCtorEq,bnT,bnH,cdA_eq,h1,partR,n3,n4,n5,n6,n7]
 all_goals done
theorem kind7 (op:Int):((effO op).2.2 == 7)=jmpO op:=by
 rcases op_cases op with (rfl | rfl | rfl | rfl | rfl | rfl | rfl | rfl | rfl | rfl | rfl | rfl | rfl | rfl | rfl | rfl | rfl | rfl | rfl | rfl | rfl | rfl | rfl | rfl | rfl | rfl | rfl | rfl | rfl | rfl | rfl) | h
 rotate_right
 have h1:=h 1 (by decide) (by decide)
 have g1:(op=1)=False:=by simpa using h1
 have h2:=h 2 (by decide) (by decide)
 have g2:(op=2)=False:=by simpa using h2
 have h3:=h 3 (by decide) (by decide)
 have g3:(op=3)=False:=by simpa using h3
 have h4:=h 4 (by decide) (by decide)
 have g4:(op=4)=False:=by simpa using h4
 have h5:=h 5 (by decide) (by decide)
 have g5:(op=5)=False:=by simpa using h5
 have h6:=h 6 (by decide) (by decide)
 have g6:(op=6)=False:=by simpa using h6
 have h7:=h 7 (by decide) (by decide)
 have g7:(op=7)=False:=by simpa using h7
 have h8:=h 8 (by decide) (by decide)
 have g8:(op=8)=False:=by simpa using h8
 have h9:=h 9 (by decide) (by decide)
 have g9:(op=9)=False:=by simpa using h9
 have h10:=h 10 (by decide) (by decide)
 have g10:(op=10)=False:=by simpa using h10
 have h11:=h 11 (by decide) (by decide)
 have g11:(op=11)=False:=by simpa using h11
 have h12:=h 12 (by decide) (by decide)
 have g12:(op=12)=False:=by simpa using h12
 have h13:=h 13 (by decide) (by decide)
 have g13:(op=13)=False:=by simpa using h13
 have h14:=h 14 (by decide) (by decide)
 have g14:(op=14)=False:=by simpa using h14
 have h15:=h 15 (by decide) (by decide)
 have g15:(op=15)=False:=by simpa using h15
 have h16:=h 16 (by decide) (by decide)
 have g16:(op=16)=False:=by simpa using h16
 have h17:=h 17 (by decide) (by decide)
 have g17:(op=17)=False:=by simpa using h17
 have h18:=h 18 (by decide) (by decide)
 have g18:(op=18)=False:=by simpa using h18
 have h19:=h 19 (by decide) (by decide)
 have g19:(op=19)=False:=by simpa using h19
 have h20:=h 20 (by decide) (by decide)
 have g20:(op=20)=False:=by simpa using h20
 have h21:=h 21 (by decide) (by decide)
 have g21:(op=21)=False:=by simpa using h21
 have h22:=h 22 (by decide) (by decide)
 have g22:(op=22)=False:=by simpa using h22
 have h23:=h 23 (by decide) (by decide)
 have g23:(op=23)=False:=by simpa using h23
 have h24:=h 24 (by decide) (by decide)
 have g24:(op=24)=False:=by simpa using h24
 have h25:=h 25 (by decide) (by decide)
 have g25:(op=25)=False:=by simpa using h25
 have h26:=h 26 (by decide) (by decide)
 have g26:(op=26)=False:=by simpa using h26
 have h27:=h 27 (by decide) (by decide)
 have g27:(op=27)=False:=by simpa using h27
 have h28:=h 28 (by decide) (by decide)
 have g28:(op=28)=False:=by simpa using h28
 have h29:=h 29 (by decide) (by decide)
 have g29:(op=29)=False:=by simpa using h29
 have h30:=h 30 (by decide) (by decide)
 have g30:(op=30)=False:=by simpa using h30
 have h31:=h 31 (by decide) (by decide)
 have g31:(op=31)=False:=by simpa using h31
 ·simp [effO,jmpO,h1,g1,h2,g2,h3,g3,h4,g4,h5,g5,h6,g6,h7,g7,h8,g8,h9,g9,h10,g10,h11,g11,h12,g12,h13,g13,h14,g14,h15,g15,h16,g16,h17,g17,h18,g18,h19,g19,h20,g20,h21,g21,h22,g22,h23,g23,h24,g24,h25,g25,h26,g26,h27,g27,h28,g28,h29,g29,h30,g30,h31,g31]
 all_goals rfl
theorem ok101:POk Tryz.prog 101 f144:=pok_mk <| by
 rintro c hq
 obtain ⟨q1,q2,q3,q4,q5,q6,q7,q8⟩:=hq
 have hq:Fit c:=⟨q1,q2,q3,q4,q5,q6,q7,q8⟩
 obtain ⟨v1,v2,v3,v4,v5,v6⟩:=fit_wraps hq
 refine pspec_of_go (fEnv_ok ((.cons ok150 (.cons ok99 .nil))) (.nil)) rfl Tryz.func101 rfl (by decide) (by kernel_rfl) (by kernel_rfl) ?_
 simp only [Tryz.f101,initSt,List.length_cons,List.length_nil,Nat.reduceAdd,Nat.reduceSub,List.replicate]
 refine vc_go ?_
 simp (maxSteps:=10000000) +contextual -implicitDefEqProofs only [bnC,bnS,St.put,Nat.reduceAdd,Int.reduceAdd,bnH,bA_eq,cdA_eq]
 refine go_loopW (σ:=Nat) (fun k cnt=>⟨mkT 0 61 [(1,.pt 0 0 0 0),(3,.sc (.int .i64 k))],[⟨true,0,36,7,[cdA c],false⟩],cnt⟩)
  (fun k=>k≤c.ins.length∧∀ j,j < k→(tgP c) (c.ins.getD j default)=false) (fun k=>c.ins.length - k) 0 ⟨by omega,by omega⟩ ?_ ?_ rfl ?_
 ·simp (maxSteps:=10000000) only [bnC,bnS,↓reduceIte,reduceCtorEq,Nat.reduceAdd,Nat.reduceEqDiff,mkT,lkT]
 ·simp (maxSteps:=10000000) only [bnC,bnS,cdA_eq]
 rintro k cnt ⟨hk,hn⟩ ih
 by_cases hk':k < c.ins.length
 ·have h1:decide ((k:Int) < (c.ins.length:Int))=true:=by rw [decide_eq_true_eq]; omega
  have h2:decide (k < c.ins.length)=true:=by rw [decide_eq_true_eq]; omega
  have w1:IntKind.i64.wrap ((k:Int)+1)=((k+1:Nat):Int):=by rw [wrap64 (by omega) (by omega)]; omega
  have ih:=fun c=>ih (k+1) c
  have hat:=any_at (p:=tgP c) hk'
  have hne:=till_next hn (k:=k)
  have hm:=getD_mem hk'
  obtain ⟨⟨op,a⟩,hx⟩:∃ x,c.ins.getD k default=x:=⟨_,rfl⟩
  rw [hx] at hat hne hm
  have x1:=e150 op
  have k7:=kind7 op
  refine vc_go ?_
  cases hb:(tgP c) ⟨op,a⟩ with
  | true=>
   have e:=hat hb
   have e2:targC c=false:=by rw [targC,e]; rfl
   simp only [tgP,Bool.and_eq_true,Bool.not_eq_true'] at hb
   obtain ⟨hb1,hb2⟩:=hb
   rw [hb1] at k7
   simp (maxSteps:=10000000) only [mkT,lkT,Nat.reduceAdd,Nat.reduceEqDiff,↓reduceIte,Nat.zero_add]
   simp (maxSteps:=10000000) +contextual -implicitDefEqProofs only [bnC,bnS,guardV,St.put,borrow,borrows,pin,pl,↓reduceIte,reduceCtorEq,Nat.reduceAdd,Nat.reduceEqDiff,bnT,Int.reduceAdd,bnH,inA_eq,cdA_eq,AV.noref,h1,h2,hx,ldV_mapN,allSz_inA,x1,e99,v4,k7,hb2,e2]
   repeat' (first | exact chk_no (by kernel_rfl) | refine ⟨chk_no (by kernel_rfl),?_⟩ | refine And.intro ?_ ?_ | fail)
   all_goals done
  | false=>
   have ih:=fun c=>ih c ⟨by omega,hne hb⟩ (by omega)
   simp only [tgP] at hb
   cases hb1:jmpO op with
   | false=>
    rw [hb1] at k7
    simp (maxSteps:=10000000) only [mkT,lkT,Nat.reduceAdd,Nat.reduceEqDiff,↓reduceIte,Nat.zero_add]
    simp (maxSteps:=10000000) +contextual -implicitDefEqProofs only [bnC,bnS,guardV,St.put,borrow,borrows,pin,pl,↓reduceIte,reduceCtorEq,Nat.reduceAdd,Nat.reduceEqDiff,bnT,Int.reduceAdd,bnH,inA_eq,cdA_eq,AV.noref,h1,h2,hx,ldV_mapN,allSz_inA,x1,k7,w1]
    repeat' (first | exact chk_no (by kernel_rfl) | refine ⟨chk_no (by kernel_rfl),?_⟩ | refine And.intro ?_ ?_ | fail)
    refine go_weak ?_ ?_ (Nat.le_refl _) (ih _)
    all_goals simp (maxSteps:=10000000) only [bnC,bnS,↓reduceIte,reduceCtorEq,Nat.reduceAdd,Nat.reduceEqDiff,mkT,lkT,cdA_eq]
   | true=>
   rw [hb1] at k7 hb
   have hb2:inI a 0 (c.ins.length - 1)=true:=by simpa using hb
   simp (maxSteps:=10000000) only [mkT,lkT,Nat.reduceAdd,Nat.reduceEqDiff,↓reduceIte,Nat.zero_add]
   simp (maxSteps:=10000000) +contextual -implicitDefEqProofs only [bnC,bnS,guardV,St.put,borrow,borrows,pin,pl,↓reduceIte,reduceCtorEq,Nat.reduceAdd,Nat.reduceEqDiff,bnT,Int.reduceAdd,bnH,inA_eq,cdA_eq,AV.noref,h1,h2,hx,ldV_mapN,allSz_inA,x1,e99,v4,k7,hb2,w1]
   repeat' (first | exact chk_no (by kernel_rfl) | refine ⟨chk_no (by kernel_rfl),?_⟩ | refine And.intro ?_ ?_ | fail)
   refine go_weak ?_ ?_ (Nat.le_refl _) (ih _)
   all_goals simp (maxSteps:=10000000) only [bnC,bnS,↓reduceIte,reduceCtorEq,Nat.reduceAdd,Nat.reduceEqDiff,mkT,lkT,cdA_eq]
   all_goals done
 have hkl:k=c.ins.length:=by omega
 subst hkl
 have h1:decide ((c.ins.length:Int) < (c.ins.length:Int))=false:=by simp
 have n3:c.ins.any (tgP c)=false:=any_no hn
 clear hn ih hk hk'
 refine vc_go ?_
 simp (maxSteps:=10000000) only [mkT,lkT,Nat.reduceAdd,Nat.reduceEqDiff,↓reduceIte,Nat.zero_add]
 simp (maxSteps:=10000000) +contextual -implicitDefEqProofs only [bnC,bnS,St.put,↓reduceIte,reduceCtorEq,bnT,bnH,cdA_eq,h1]
 refine go_loopW (σ:=Nat) (fun k cnt=>⟨mkT 0 61 [(1,.pt 0 0 0 0),(7,.sc (.int .i64 k))],[⟨true,0,36,7,[cdA c],false⟩],cnt⟩)
  (fun k=>k≤c.ens.length∧∀ j,j < k→(tgB c) (c.ens.getD j default)=false) (fun k=>c.ens.length - k) 0 ⟨by omega,by omega⟩ ?_ ?_ rfl ?_
 ·simp (maxSteps:=10000000) only [bnC,bnS,↓reduceIte,reduceCtorEq,Nat.reduceAdd,Nat.reduceEqDiff,mkT,lkT]
 ·simp (maxSteps:=10000000) only [bnC,bnS,cdA_eq]
 rintro k cnt ⟨hk,hn⟩ ih
 by_cases hk':k < c.ens.length
 ·have h1:decide ((k:Int) < (c.ens.length:Int))=true:=by rw [decide_eq_true_eq]; omega
  have h2:decide (k < c.ens.length)=true:=by rw [decide_eq_true_eq]; omega
  have w1:IntKind.i64.wrap ((k:Int)+1)=((k+1:Nat):Int):=by rw [wrap64 (by omega) (by omega)]; omega
  have ih:=fun c=>ih (k+1) c
  have hat:=any_at (p:=tgB c) hk'
  have hne:=till_next hn (k:=k)
  have hm:=getD_mem hk'
  obtain ⟨x,hx⟩:∃ x,c.ens.getD k default=x:=⟨_,rfl⟩
  rw [hx] at hat hne hm
  skip
  refine vc_go ?_
  cases hb:(tgB c) x with
  | true=>
   have e:=hat hb
   have e2:targC c=false:=by rw [targC,e]; simp
   have hb':inI x.pc 0 (c.ins.length - 1)=false:=by simpa [tgB] using hb
   simp (maxSteps:=10000000) only [mkT,lkT,Nat.reduceAdd,Nat.reduceEqDiff,↓reduceIte,Nat.zero_add]
   simp (maxSteps:=10000000) +contextual -implicitDefEqProofs only [bnC,bnS,St.put,borrow,borrows,pin,pl,↓reduceIte,reduceCtorEq,Nat.reduceAdd,Nat.reduceEqDiff,bnT,Int.reduceAdd,bnH,enA_eq,cdA_eq,AV.noref,h1,h2,hx,ldV_mapN,allSz_enA,e99,v4,hb',e2]
   repeat' (first | exact chk_no (by kernel_rfl) | refine ⟨chk_no (by kernel_rfl),?_⟩ | refine And.intro ?_ ?_ | fail)
   all_goals done
  | false=>
   have ih:=fun c=>ih c ⟨by omega,hne hb⟩ (by omega)
   have hb':inI x.pc 0 (c.ins.length - 1)=true:=by simpa [tgB] using hb
   simp (maxSteps:=10000000) only [mkT,lkT,Nat.reduceAdd,Nat.reduceEqDiff,↓reduceIte,Nat.zero_add]
   simp (maxSteps:=10000000) +contextual -implicitDefEqProofs only [bnC,bnS,St.put,borrow,borrows,pin,pl,↓reduceIte,reduceCtorEq,Nat.reduceAdd,Nat.reduceEqDiff,bnT,Int.reduceAdd,bnH,enA_eq,cdA_eq,AV.noref,h1,h2,hx,ldV_mapN,allSz_enA,e99,v4,hb',w1]
   repeat' (first | exact chk_no (by kernel_rfl) | refine ⟨chk_no (by kernel_rfl),?_⟩ | refine And.intro ?_ ?_ | fail)
   refine go_weak ?_ ?_ (Nat.le_refl _) (ih _)
   all_goals simp (maxSteps:=10000000) only [bnC,bnS,↓reduceIte,reduceCtorEq,Nat.reduceAdd,Nat.reduceEqDiff,mkT,lkT,cdA_eq]
   all_goals done
 have hkl:k=c.ens.length:=by omega
 subst hkl
 have h1:decide ((c.ens.length:Int) < (c.ens.length:Int))=false:=by simp
 have n7:c.ens.any (tgB c)=false:=any_no hn
 clear hn ih hk hk'
 refine vc_go ?_
 simp (maxSteps:=10000000) only [mkT,lkT,Nat.reduceAdd,Nat.reduceEqDiff,↓reduceIte,Nat.zero_add]
 simp (maxSteps:=10000000) +contextual -implicitDefEqProofs only [bnC,bnS,St.put,↓reduceIte,reduceCtorEq,bnT,bnH,cdA_eq,h1,targC,n3,n7]
 all_goals done
end Go.Proofs.YtdjpkhjaibdogaaGreat
