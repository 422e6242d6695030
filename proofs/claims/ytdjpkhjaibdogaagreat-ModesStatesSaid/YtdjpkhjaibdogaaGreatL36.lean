/-
  Joined texts: CF, MA, CG.
  Conditions: none.
-/
import Derived.Test.YtdjpkhjaibdogaaGreatL35
import Derived.Test.YtdjpkhjaibdogaaGreatL27
import Derived.Test.YtdjpkhjaibdogaaGreatL21
namespace Go.Proofs.YtdjpkhjaibdogaaGreat
open Go Go.SX
set_option linter.unusedSimpArgs false
set_option linter.unusedVariables false
attribute [local congr] ite_congr
set_option maxRecDepth 100000
set_option maxHeartbeats 8000000
theorem ord_ref (p l:Lo):(decide (l.mo < p.mo) || (p.mo == l.mo) && decide (l.la≤p.la))=decide (0≤ordL p l):=by
 have h:=ordL_lt p l
 rw [Bool.eq_iff_iff]
 simp only [Bool.or_eq_true,Bool.and_eq_true,decide_eq_true_eq,beq_iff_eq]
 omega
theorem ok41:POk Tryz.prog 41 f40:=pok_mk <| by
 rintro ⟨c,s⟩ hq
 have hq:Fit c:=hq
 have x1:=e77 c (envV s cx0) hq
 simp only [cdA_eq,vnA_eq,rsA_eq,cxA_eq,envV,cx0] at x1
 simp only
 refine pspec_of_go (gEnv_ok (lit:=false) (pm:=fun _=>none) (.cons ok81 (.cons ok61 (.cons ok82 .nil))) .nil .nil .nil) rfl Tryz.func41 rfl (by decide) (by kernel_rfl) (by kernel_rfl) ?_
 simp only [Tryz.f41,initSt,List.length_cons,List.length_nil,Nat.reduceAdd,Nat.reduceSub,List.replicate]
 refine go_lenA 1 rfl fun hlen=>?_
 have hll:s.lamps.length < 9223372036854775808:=by
  have:=hlen s.zm (s.lamps.map loA) (by simp [rsA])
  simp [maxLen] at this; omega
 clear hlen
 refine vc_go ?_
 have hcx:(⟨s.zv,s.vars,s.zl,s.left,0,s.act,0,0⟩:Vn)=envV s cx0:=rfl
 cases h1:envB c ⟨s.zv,s.vars,s.zl,s.left,0,s.act,0,0⟩ with
 | false=>
  have e:stateB c s=false:=by rw [stateB,←hcx,h1]; rfl
  rw [h1] at x1
  simp (maxSteps:=10000000) +contextual -implicitDefEqProofs only [bnC,bnS,guardV,St.put,borrow,borrows,pin,pl,↓reduceIte,reduceCtorEq,Nat.reduceAdd,Nat.reduceLeDiff,bnT,Int.reduceAdd,bnH,bA_eq,cdA_eq,rsA_eq,x1,e]
  repeat' (first | exact chk_no (by kernel_rfl) | refine ⟨chk_no (by kernel_rfl),?_⟩ | refine And.intro ?_ ?_ | fail)
  all_goals done
 | true=>
 have hv:=env_valid h1
 have hlm:=valid_len hv
 rw [h1] at x1
 cases h2:decide (s.fau < 0) with
 | true=>
  have e:stateB c s=false:=by
   simp only [decide_eq_true_eq] at h2
   rw [stateB,decide_eq_false (by omega:¬ 0≤s.fau)]; simp
  simp (maxSteps:=10000000) +contextual -implicitDefEqProofs only [bnC,bnS,guardV,St.put,borrow,borrows,pin,pl,↓reduceIte,reduceCtorEq,Nat.reduceAdd,Nat.reduceLeDiff,bnT,Int.reduceAdd,bnH,bA_eq,cdA_eq,rsA_eq,x1,h2,e]
  repeat' (first | exact chk_no (by kernel_rfl) | refine ⟨chk_no (by kernel_rfl),?_⟩ | refine And.intro ?_ ?_ | fail)
  all_goals done
 | false=>
 cases h3:decide ((2147483647:Int) < s.fau) with
 | true=>
  have e:stateB c s=false:=by
   simp only [decide_eq_true_eq] at h3
   rw [stateB,decide_eq_false (by omega:¬ s.fau≤2147483647)]; simp
  simp (maxSteps:=10000000) +contextual -implicitDefEqProofs only [bnC,bnS,guardV,St.put,borrow,borrows,pin,pl,↓reduceIte,reduceCtorEq,Nat.reduceAdd,Nat.reduceLeDiff,bnT,Int.reduceAdd,bnH,bA_eq,cdA_eq,rsA_eq,x1,h2,h3,e]
  repeat' (first | exact chk_no (by kernel_rfl) | refine ⟨chk_no (by kernel_rfl),?_⟩ | refine And.intro ?_ ?_ | fail)
  all_goals done
 | false=>
 have h4:(decide (0≤s.fau) && decide (s.fau≤2147483647))=true:=by
  simp only [decide_eq_false_iff_not] at h2 h3
  simp; omega
 simp (maxSteps:=10000000) +contextual -implicitDefEqProofs only [bnC,bnS,guardV,St.put,borrow,borrows,pin,pl,↓reduceIte,reduceCtorEq,Nat.reduceAdd,Nat.reduceLeDiff,bnT,Int.reduceAdd,bnH,bA_eq,cdA_eq,rsA_eq,x1,h2,h3]
 repeat' (first | exact chk_no (by kernel_rfl) | refine ⟨chk_no (by kernel_rfl),?_⟩ | refine And.intro ?_ ?_ | fail)
 clear x1 h2 h3
 refine go_loopW (σ:=Nat) (fun k cnt=>⟨mkT 0 101 [(2,.pt 0 0 0 0),(3,.pt 1 1 0 0),(5,.sc (.int .i64 k))],[⟨true,0,36,7,[cdA c],false⟩,⟨true,1,41,5,[rsA s],false⟩],cnt⟩)
  (fun k=>k≤s.lamps.length∧∀ j,j < k→loBad c s j=false) (fun k=>s.lamps.length - k) 0 ⟨by omega,by omega⟩ ?_ ?_ rfl ?_
 ·simp (maxSteps:=10000000) only [bnC,bnS,↓reduceIte,reduceCtorEq,Nat.reduceAdd,Nat.reduceEqDiff,mkT,lkT]
 ·simp (maxSteps:=10000000) only [bnC,bnS,cdA_eq,rsA_eq]
 rintro k cnt ⟨hk,hn⟩ ih
 by_cases hk':k < s.lamps.length
 rotate_left
 ·obtain rfl:k=s.lamps.length:=by omega
  have g1:decide ((s.lamps.length:Int) < (s.lamps.length:Int))=false:=by simp
  have e:=stateB_yes (c:=c) (s:=s) hn
  rw [←hcx,h1,h4] at e
  refine vc_go ?_
  simp (maxSteps:=10000000) only [mkT,lkT,Nat.reduceAdd,Nat.reduceEqDiff,↓reduceIte,Nat.zero_add]
  simp (maxSteps:=10000000) +contextual -implicitDefEqProofs only [bnC,bnS,St.put,↓reduceIte,reduceCtorEq,bnT,bnH,cdA_eq,rsA_eq,g1,e]
  all_goals done
 have g1:decide ((k:Int) < (s.lamps.length:Int))=true:=by rw [decide_eq_true_eq]; omega
 have g2:decide (k < s.lamps.length)=true:=by rw [decide_eq_true_eq]; omega
 have w1:IntKind.i64.wrap ((k:Int)+1)=((k+1:Nat):Int):=by rw [wrap64 (by omega) (by omega)]; omega
 have hno:loBad c s k=true→stateB c s=false:=stateB_no hk'
 have ih:=fun hb cc=>ih (k+1) cc ⟨by omega,till_next hn hb⟩ (by omega)
 have hb:loBad c s k=(loX c s (s.lamps.getD k default) || loY s k):=rfl
 have hY:loY s k=(decide ((0:Int) < (k:Int)) && decide (0≤ordL (s.lamps.getD (k - 1) default) (s.lamps.getD k default))):=rfl
 obtain ⟨o,ho⟩:∃ o,s.lamps.getD k default=o:=⟨_,rfl⟩
 rw [ho] at hb hY
 have x3:=e79 o.se
 simp only [lmA_eq] at x3
 refine vc_go ?_
 cases c1:decide (o.mo < 0) with
 | true=>
  have e:=hno (by rw [hb]; simp [loX,c1])
  simp (maxSteps:=10000000) only [mkT,lkT,Nat.reduceAdd,Nat.reduceEqDiff,↓reduceIte,Nat.zero_add]
  simp (maxSteps:=10000000) +contextual -implicitDefEqProofs only [bnC,bnS,guardV,St.put,borrow,borrows,pin,pl,↓reduceIte,reduceCtorEq,Nat.reduceAdd,Nat.reduceEqDiff,Int.reduceLT,Nat.reduceLT,bnT,Int.reduceAdd,bnH,cdA_eq,loA_eq,rsA_eq,norefs,AV.noref,g1,g2,ho,ldV_mapN,allSz_loA,c1,e]
  repeat' (first | exact chk_no (by kernel_rfl) | refine ⟨chk_no (by kernel_rfl),?_⟩ | refine And.intro ?_ ?_ | fail)
  all_goals done
 | false=>
 cases c2:decide ((c.pri.length:Int)≤o.mo) with
 | true=>
  have e:=hno (by rw [hb]; simp [loX,c2])
  simp (maxSteps:=10000000) only [mkT,lkT,Nat.reduceAdd,Nat.reduceEqDiff,↓reduceIte,Nat.zero_add]
  simp (maxSteps:=10000000) +contextual -implicitDefEqProofs only [bnC,bnS,guardV,St.put,borrow,borrows,pin,pl,↓reduceIte,reduceCtorEq,Nat.reduceAdd,Nat.reduceEqDiff,Int.reduceLT,Nat.reduceLT,bnT,Int.reduceAdd,bnH,cdA_eq,loA_eq,rsA_eq,norefs,AV.noref,g1,g2,ho,ldV_mapN,allSz_loA,c1,c2,e]
  repeat' (first | exact chk_no (by kernel_rfl) | refine ⟨chk_no (by kernel_rfl),?_⟩ | refine And.intro ?_ ?_ | fail)
  all_goals done
 | false=>
 have x4:=e58 s o.mo (by simp only [decide_eq_false_iff_not] at c1 c2; omega)
 simp only [rsA_eq] at x4
 cases c3:(!actB s.act o.mo || decide (o.la < 0) || decide ((64:Int)≤o.la) || !lampB o.se) with
 | true=>
  have e:=hno (by rw [hb]; simp only [loX,c1,c2,Bool.false_or,c3,Bool.true_or])
  simp (maxSteps:=10000000) only [mkT,lkT,Nat.reduceAdd,Nat.reduceEqDiff,↓reduceIte,Nat.zero_add]
  simp (maxSteps:=10000000) +contextual -implicitDefEqProofs only [bnC,bnS,guardV,St.put,borrow,borrows,pin,pl,↓reduceIte,reduceCtorEq,Nat.reduceAdd,Nat.reduceEqDiff,Int.reduceLT,Nat.reduceLT,bnT,Int.reduceAdd,bnH,cdA_eq,loA_eq,rsA_eq,norefs,AV.noref,g1,g2,ho,ldV_mapN,allSz_loA,c1,c2,x4,x3,c3,e]
  repeat' (first | exact chk_no (by kernel_rfl) | refine ⟨chk_no (by kernel_rfl),?_⟩ | refine And.intro ?_ ?_ | fail)
  all_goals done
 | false=>
 have hX:loX c s o=false:=by simp only [loX,c1,c2,Bool.false_or,c3]
 rw [hX,Bool.false_or] at hb
 by_cases hk0:0 < k
 rotate_left
 ·have c4:decide ((0:Int) < (k:Int))=false:=by rw [decide_eq_false_iff_not]; omega
  rw [c4,Bool.false_and] at hY
  rw [hY] at hb
  have ih:=ih hb
  simp (maxSteps:=10000000) only [mkT,lkT,Nat.reduceAdd,Nat.reduceEqDiff,↓reduceIte,Nat.zero_add]
  simp (maxSteps:=10000000) +contextual -implicitDefEqProofs only [bnC,bnS,guardV,St.put,borrow,borrows,pin,pl,↓reduceIte,reduceCtorEq,Nat.reduceAdd,Nat.reduceEqDiff,Int.reduceLT,Nat.reduceLT,bnT,Int.reduceAdd,bnH,cdA_eq,loA_eq,rsA_eq,norefs,AV.noref,g1,g2,ho,ldV_mapN,allSz_loA,c1,c2,x4,x3,c3,c4,w1]
  repeat' (first | exact chk_no (by kernel_rfl) | refine ⟨chk_no (by kernel_rfl),?_⟩ | refine And.intro ?_ ?_ | fail)
  refine go_weak ?_ ?_ (Nat.le_refl _) (ih _)
  all_goals simp (maxSteps:=10000000) only [bnC,bnS,↓reduceIte,reduceCtorEq,Nat.reduceAdd,Nat.reduceEqDiff,mkT,lkT,cdA_eq,rsA_eq]
  all_goals done
 have c4:decide ((0:Int) < (k:Int))=true:=by rw [decide_eq_true_eq]; omega
 have w2:IntKind.i64.wrap ((k:Int) - 1)=((k - 1:Nat):Int):=by rw [wrap64 (by omega) (by omega)]; omega
 have g3:decide (((k - 1:Nat):Int) < (s.lamps.length:Int))=true:=by rw [decide_eq_true_eq]; omega
 have g4:decide (k - 1 < s.lamps.length)=true:=by rw [decide_eq_true_eq]; omega
 obtain ⟨o',ho'⟩:∃ o',s.lamps.getD (k - 1) default=o':=⟨_,rfl⟩
 rw [ho',c4,Bool.true_and] at hY
 have x5:=ord_ref o' o
 cases c5:decide (0≤ordL o' o) with
 | true=>
  rw [c5] at hY x5
  rw [hY] at hb
  have e:=hno hb
  simp (maxSteps:=10000000) only [mkT,lkT,Nat.reduceAdd,Nat.reduceEqDiff,↓reduceIte,Nat.zero_add]
  simp (maxSteps:=10000000) +contextual -implicitDefEqProofs only [bnC,bnS,guardV,St.put,borrow,borrows,pin,pl,↓reduceIte,reduceCtorEq,Nat.reduceAdd,Nat.reduceEqDiff,Int.reduceLT,Nat.reduceLT,bnT,Int.reduceAdd,bnH,cdA_eq,loA_eq,rsA_eq,norefs,AV.noref,g1,g2,g3,g4,ho,ho',ldV_mapN,allSz_loA,c1,c2,x4,x3,c3,c4,x5,w2,e]
  repeat' (first | exact chk_no (by kernel_rfl) | refine ⟨chk_no (by kernel_rfl),?_⟩ | refine And.intro ?_ ?_ | fail)
  all_goals done
 | false=>
  rw [c5] at hY x5
  rw [hY] at hb
  have ih:=ih hb
  simp (maxSteps:=10000000) only [mkT,lkT,Nat.reduceAdd,Nat.reduceEqDiff,↓reduceIte,Nat.zero_add]
  simp (maxSteps:=10000000) +contextual -implicitDefEqProofs only [bnC,bnS,guardV,St.put,borrow,borrows,pin,pl,↓reduceIte,reduceCtorEq,Nat.reduceAdd,Nat.reduceEqDiff,Int.reduceLT,Nat.reduceLT,bnT,Int.reduceAdd,bnH,cdA_eq,loA_eq,rsA_eq,norefs,AV.noref,g1,g2,g3,g4,ho,ho',ldV_mapN,allSz_loA,c1,c2,x4,x3,c3,c4,x5,w1,w2]
  repeat' (first | exact chk_no (by kernel_rfl) | refine ⟨chk_no (by kernel_rfl),?_⟩ | refine And.intro ?_ ?_ | fail)
  refine go_weak ?_ ?_ (Nat.le_refl _) (ih _)
  all_goals simp (maxSteps:=10000000) only [bnC,bnS,↓reduceIte,reduceCtorEq,Nat.reduceAdd,Nat.reduceEqDiff,mkT,lkT,cdA_eq,rsA_eq]
  all_goals done
def sameR (a b:Rs):Bool:=decide (a.vars=b.vars) && decide (a.left=b.left) && (a.act == b.act) && decide (a.lamps=b.lamps) && (a.fau == b.fau)
noncomputable def f39:=mkF (fun _:Rs × Rs=>True) (fun p=>[rsA p.1,rsA p.2]) (fun p=>bA (sameR p.1 p.2))
theorem e39 (a b:Rs):f39 [rsA a,rsA b]=some (.sc (.bool (sameR a b))):=
 (mkF_eq (q:=fun _:Rs × Rs=>True) (enc:=fun p=>[rsA p.1,rsA p.2]) (out:=fun p=>bA (sameR p.1 p.2)) (a,b) trivial (by
  rintro ⟨x,y⟩ h
  simp only [List.cons.injEq,and_true] at h
  rw [rsA_inj h.1,rsA_inj h.2]) :)
theorem ok39:POk Tryz.prog 39 f39:=pok_mk <| by
 rintro ⟨a,b⟩ -
 refine pspec_of_go (fEnv_ok ((.cons ok75 (.cons ok76 .nil))) (.nil)) rfl Tryz.func39 rfl (by decide) (by kernel_rfl) (by kernel_rfl) ?_
 simp only [Tryz.f39,initSt,List.length_cons,List.length_nil,Nat.reduceAdd,Nat.reduceSub,List.replicate]
 refine vc_go ?_
 simp (maxSteps:=10000000) +contextual -implicitDefEqProofs only [bnC,bnS,guardV,St.put,borrow,borrows,pin,pl,↓reduceIte,reduceCtorEq,Nat.reduceAdd,Nat.reduceEqDiff,bnT,Int.reduceAdd,bnH,bA_eq,rsA_eq,e75,e76,sameR]
 repeat' (first | exact chk_no (by kernel_rfl) | refine ⟨chk_no (by kernel_rfl),?_⟩ | refine And.intro ?_ ?_ | fail)
 all_goals done
theorem ok26:POk Tryz.prog 26 f39:=pok_mk <| by
 rintro ⟨a,b⟩ -
 refine pspec_of_go (fEnv_ok ((.cons ok70 .nil)) (.nil)) rfl Tryz.func26 rfl (by decide) (by kernel_rfl) (by kernel_rfl) ?_
 simp only [Tryz.f26,initSt,List.length_cons,List.length_nil,Nat.reduceAdd,Nat.reduceSub,List.replicate]
 refine go_lenA 0 rfl fun hlen=>?_
 have hla:a.lamps.length < 9223372036854775808:=by
  have:=hlen a.zm (a.lamps.map loA) (by simp [rsA])
  simp [maxLen] at this; omega
 clear hlen
 refine vc_go ?_
 cases c1:(!decide (a.vars=b.vars) || !decide (a.left=b.left) || (a.act != b.act) || (a.fau != b.fau) || ((a.lamps.length:Int) != (b.lamps.length:Int))) with
 | true=>
  have e:sameR a b=false:=by
   rw [Bool.eq_false_iff]
   intro hh
   simp only [sameR,Bool.and_eq_true,decide_eq_true_eq,beq_iff_eq] at hh
   obtain ⟨⟨⟨⟨h1,h2⟩,h3⟩,h4⟩,h5⟩:=hh
   simp [h1,h2,h3,h4,h5] at c1
  simp (maxSteps:=10000000) +contextual -implicitDefEqProofs only [bnC,bnS,guardV,St.put,borrow,borrows,pin,pl,↓reduceIte,reduceCtorEq,Nat.reduceAdd,bnT,Int.reduceAdd,bnH,bA_eq,rsA_eq,e75,c1,e]
  all_goals done
 | false=>
 have c2:=c1
 simp only [Bool.or_eq_false_iff,Bool.not_eq_false',decide_eq_true_eq,bne_eq_false_iff_eq] at c2
 obtain ⟨⟨⟨⟨h1,h2⟩,h3⟩,h4⟩,h5⟩:=c2
 have he:a.lamps.length=b.lamps.length:=by omega
 have hE:sameR a b=decide (a.lamps=b.lamps):=by simp [sameR,h1,h2,h3,h4]
 rw [hE]
 simp (maxSteps:=10000000) +contextual -implicitDefEqProofs only [bnC,bnS,guardV,St.put,borrow,borrows,pin,pl,↓reduceIte,reduceCtorEq,Nat.reduceAdd,bnT,Int.reduceAdd,bnH,bA_eq,rsA_eq,e75,c1]
 clear c1
 refine go_loopW (σ:=Nat) (fun k cnt=>⟨mkT 0 61 [(2,.pt 0 0 0 0),(3,.pt 1 1 0 0),(5,.sc (.int .i64 k))],[⟨true,0,41,5,[rsA a],false⟩,⟨true,1,41,5,[rsA b],false⟩],cnt⟩)
  (fun k=>k≤a.lamps.length∧∀ j,j < k→a.lamps.getD j default=b.lamps.getD j default) (fun k=>a.lamps.length - k) 0 ⟨by omega,by omega⟩ ?_ ?_ rfl ?_
 ·simp (maxSteps:=10000000) only [bnC,bnS,↓reduceIte,reduceCtorEq,Nat.reduceAdd,Nat.reduceEqDiff,mkT,lkT]
 ·simp (maxSteps:=10000000) only [bnC,bnS,rsA_eq]
 rintro k cnt ⟨hk,hn⟩ ih
 refine vc_go ?_
 by_cases hk':k < a.lamps.length
 ·have h2:decide ((k:Int) < (a.lamps.length:Int))=true:=by rw [decide_eq_true_eq]; omega
  have h3:decide (k < a.lamps.length)=true:=by rw [decide_eq_true_eq]; omega
  have h4:decide ((k:Int) < (b.lamps.length:Int))=true:=by rw [decide_eq_true_eq]; omega
  have h5:decide (k < b.lamps.length)=true:=by rw [decide_eq_true_eq]; omega
  have w1:IntKind.i64.wrap ((k:Int)+1)=((k+1:Nat):Int):=by rw [wrap64 (by omega) (by omega)]; omega
  have hne:=till_next (p:=fun j=>a.lamps.getD j default=b.lamps.getD j default) hn (k:=k)
  have hdf:a.lamps.getD k default≠b.lamps.getD k default→decide (a.lamps=b.lamps)=false:=fun hv=>by rw [decide_eq_false_iff_not]; intro h; exact hv (by rw [h])
  obtain ⟨x,hx⟩:∃ x,a.lamps.getD k default=x:=⟨_,rfl⟩
  obtain ⟨y,hy⟩:∃ y,b.lamps.getD k default=y:=⟨_,rfl⟩
  simp only [hx,hy] at hne hdf
  by_cases hv:x=y
  ·have ih:=fun c=>ih (k+1) c ⟨by omega,hne hv⟩ (by omega)
   have hv':((x.mo == y.mo) && ((x.la == y.la) && ((x.se.lv == y.se.lv) && ((x.se.on == y.se.on) && ((x.se.off == y.se.off) && (x.se.si == y.se.si))))))=true:=by subst hv; simp
   simp (maxSteps:=10000000) only [mkT,lkT,Nat.reduceAdd,Nat.reduceEqDiff,↓reduceIte,Nat.zero_add]
   simp (maxSteps:=10000000) +contextual -implicitDefEqProofs only [bnC,bnS,St.put,↓reduceIte,reduceCtorEq,Nat.reduceAdd,bnT,Int.reduceAdd,bnH,loA_eq,rsA_eq,norefs,AV.noref,h2,h3,h4,h5,allSz_loA,ldV_mapN,hx,hy,w1,hv']
   repeat' (first | exact chk_no (by kernel_rfl) | refine ⟨chk_no (by kernel_rfl),?_⟩ | refine And.intro ?_ ?_ | fail)
   refine go_weak ?_ ?_ (Nat.le_refl _) (ih _)
   all_goals simp (maxSteps:=10000000) only [bnC,bnS,↓reduceIte,reduceCtorEq,Nat.reduceAdd,Nat.reduceEqDiff,mkT,lkT,rsA_eq]
   all_goals done
  ·have h6:=hdf hv
   have hv':((x.mo == y.mo) && ((x.la == y.la) && ((x.se.lv == y.se.lv) && ((x.se.on == y.se.on) && ((x.se.off == y.se.off) && (x.se.si == y.se.si))))))=false:=by
    rw [Bool.eq_false_iff]; intro hh; simp only [Bool.and_eq_true,beq_iff_eq] at hh; exact hv (ext_Lo hh)
   simp (maxSteps:=10000000) only [mkT,lkT,Nat.reduceAdd,Nat.reduceEqDiff,↓reduceIte,Nat.zero_add]
   simp (maxSteps:=10000000) +contextual -implicitDefEqProofs only [bnC,bnS,St.put,↓reduceIte,reduceCtorEq,Nat.reduceAdd,bnT,Int.reduceAdd,bnH,loA_eq,rsA_eq,norefs,AV.noref,h2,h3,h4,h5,allSz_loA,ldV_mapN,hx,hy,hv',h6]
   repeat' (first | exact chk_no (by kernel_rfl) | refine ⟨chk_no (by kernel_rfl),?_⟩ | refine And.intro ?_ ?_ | fail)
   all_goals done
 ·have hkl:k=a.lamps.length:=by omega
  subst hkl
  have h2:decide ((a.lamps.length:Int) < (a.lamps.length:Int))=false:=by simp
  have h3:decide (a.lamps=b.lamps)=true:=by rw [decide_eq_true_eq]; exact eq_of_getD he hn
  simp (maxSteps:=10000000) only [mkT,lkT,Nat.reduceAdd,Nat.reduceEqDiff,↓reduceIte,Nat.zero_add]
  simp (maxSteps:=10000000) +contextual -implicitDefEqProofs only [bnC,bnS,St.put,↓reduceIte,reduceCtorEq,bnT,bnH,rsA_eq,h2,h3]
  all_goals done
end Go.Proofs.YtdjpkhjaibdogaaGreat

namespace Go.Proofs.YtdjpkhjaibdogaaGreat
open Go Go.SX
set_option linter.unusedSimpArgs false
set_option linter.unusedVariables false
attribute [local congr] ite_congr
set_option maxRecDepth 100000
set_option maxHeartbeats 8000000
theorem sl34:isSlT Tryz.prog 34=true:=by kernel_rfl
theorem clone54_nil (cap:Nat) (H:List Blk) (cnt:Nat):HSpec Tryz.prog 54 [.sc (.slice none 0 cap)] H cnt (.vw true []) H cnt:=by
 refine hspecW_of_go (gEnv_ok (lit:=false) (pm:=fun _=>none) .nil .nil .nil .nil) rfl Tryz.func54 rfl (by decide) (by kernel_rfl) ?_
 simp only [Tryz.f54,initSt,List.length_cons,List.length_nil,Nat.reduceAdd,Nat.reduceSub,List.replicate]
 refine vc_go ?_
 simp (maxSteps:=10000000) +contextual -implicitDefEqProofs only [bnC,bnS,St.put,↓reduceIte,bnH,sl34]
 repeat' (first | exact chk_no (by kernel_rfl) | refine ⟨chk_no (by kernel_rfl),?_⟩ | refine And.intro ?_ ?_ | fail)
 all_goals first | rfl | trivial | omega | exact .refl _ | exact wkH_app _ _ _ | exact .sl0 _ _ _ (by simp [liveB]) | skip
 all_goals done
theorem clone54_no (cap:Nat) (H:List Blk) (cnt:Nat):HSpec Tryz.prog 54 [.sc (.slice none 0 cap)] H cnt (.sl H.length (cnt+1) 0 0) (H++[⟨true,cnt+1,3,1,[],false⟩]) (cnt+2):=
 own0 (clone54_nil cap H cnt) (cnt+1) 3 1 (cnt+2) (by omega) (by omega)
theorem clone54_so (a:Addr) (cap:Nat) (H:List Blk) (cnt:Nat):HSpec Tryz.prog 54 [.sc (.slice (some a) 0 cap)] H cnt (.sl H.length (cnt+1) 0 0) (H++[⟨true,cnt+1,3,1,[],false⟩]) (cnt+2):=by
 refine hspecW_of_go (gEnv_ok (lit:=false) (pm:=fun _=>none) .nil .nil .nil .nil) rfl Tryz.func54 rfl (by decide) (by kernel_rfl) ?_
 simp only [Tryz.f54,initSt,List.length_cons,List.length_nil,Nat.reduceAdd,Nat.reduceSub,List.replicate]
 refine vc_go ?_
 simp (maxSteps:=10000000) +contextual -implicitDefEqProofs only [bnC,bnS,St.put,↓reduceIte,Nat.reduceMul,Int.reduceLT,Nat.reduceLT,bnT,Int.reduceMul,bnH,sl34,List.getElem?_concat_length,set_last']
 repeat' (first | exact chk_no (by kernel_rfl) | refine ⟨chk_no (by kernel_rfl),?_⟩ | refine And.intro ?_ ?_ | fail)
 all_goals first | rfl | trivial | omega | exact .refl _ | exact wkH_app _ _ _ | exact .sl0 _ _ _ (by simp [liveB]) | skip
 all_goals done
theorem sl39:isSlT Tryz.prog 39=true:=by kernel_rfl
theorem clone152_nil (cap:Nat) (H:List Blk) (cnt:Nat):HSpec Tryz.prog 152 [.sc (.slice none 0 cap)] H cnt (.vw true []) H cnt:=by
 refine hspecW_of_go (gEnv_ok (lit:=false) (pm:=fun _=>none) .nil .nil .nil .nil) rfl Tryz.func152 rfl (by decide) (by kernel_rfl) ?_
 simp only [Tryz.f152,initSt,List.length_cons,List.length_nil,Nat.reduceAdd,Nat.reduceSub,List.replicate]
 refine vc_go ?_
 simp (maxSteps:=10000000) +contextual -implicitDefEqProofs only [bnC,bnS,St.put,↓reduceIte,bnH,sl39]
 repeat' (first | exact chk_no (by kernel_rfl) | refine ⟨chk_no (by kernel_rfl),?_⟩ | refine And.intro ?_ ?_ | fail)
 all_goals first | rfl | trivial | omega | exact .refl _ | exact wkH_app _ _ _ | exact .sl0 _ _ _ (by simp [liveB]) | skip
 all_goals done
theorem clone152_no (cap:Nat) (H:List Blk) (cnt:Nat):HSpec Tryz.prog 152 [.sc (.slice none 0 cap)] H cnt (.sl H.length (cnt+1) 0 0) (H++[⟨true,cnt+1,82,6,[],false⟩]) (cnt+2):=
 own0 (clone152_nil cap H cnt) (cnt+1) 82 6 (cnt+2) (by omega) (by omega)
theorem clone152_so (a:Addr) (cap:Nat) (H:List Blk) (cnt:Nat):HSpec Tryz.prog 152 [.sc (.slice (some a) 0 cap)] H cnt (.sl H.length (cnt+1) 0 0) (H++[⟨true,cnt+1,82,6,[],false⟩]) (cnt+2):=by
 refine hspecW_of_go (gEnv_ok (lit:=false) (pm:=fun _=>none) .nil .nil .nil .nil) rfl Tryz.func152 rfl (by decide) (by kernel_rfl) ?_
 simp only [Tryz.f152,initSt,List.length_cons,List.length_nil,Nat.reduceAdd,Nat.reduceSub,List.replicate]
 refine vc_go ?_
 simp (maxSteps:=10000000) +contextual -implicitDefEqProofs only [bnC,bnS,St.put,↓reduceIte,Nat.reduceAdd,Nat.reduceMul,Int.reduceLT,Nat.reduceLT,bnT,Int.reduceAdd,Int.reduceMul,bnH,sl39,List.getElem?_concat_length,set_last']
 repeat' (first | exact chk_no (by kernel_rfl) | refine ⟨chk_no (by kernel_rfl),?_⟩ | refine And.intro ?_ ?_ | fail)
 all_goals first | rfl | trivial | omega | exact .refl _ | exact wkH_app _ _ _ | exact .sl0 _ _ _ (by simp [liveB]) | skip
 all_goals done
end Go.Proofs.YtdjpkhjaibdogaaGreat

namespace Go.Proofs.YtdjpkhjaibdogaaGreat
open Go Go.SX
set_option linter.unusedSimpArgs false
set_option linter.unusedVariables false
attribute [local congr] ite_congr
set_option maxRecDepth 100000
set_option maxHeartbeats 8000000
theorem freshs_k64 (l:List Int):freshs (l.map (kA .i64))=true:=freshs_map (f:=kA .i64) (fun _=>by simp [kA,AV.fresh]) l
theorem freshs_rep (n:Nat) (v:Value):freshs (List.replicate n (.sc v))=true:=by
 induction n with
 | zero=>rfl
 | succ n ih=>rw [List.replicate_succ]; simp [freshs,AV.fresh,ih]
theorem hok_atP {P:Program} {g:Nat} {args:List AV} {H:List Blk} {c:Nat} {r:AV} {H':List Blk} {c':Nat} (h:HSpec P g args H c r H' c'):∃ F,HOk P g F∧F args H c=some (r,H',c'):=
 ⟨mkH (fun _:Unit=>True) (fun _=>(args,H,c)) (fun _=>(r,H',c')),hok_mk (fun _ _=>h),mkH_eq (q:=fun _:Unit=>True) (enc:=fun _=>(args,H,c)) (out:=fun _=>(r,H',c')) () trivial (fun _ _ _=>rfl)⟩
theorem clone54_spec (z:Bool) (l:List Int) (H:List Blk) (cnt:Nat) (hs:l.length≤1000000):
  HSpec Tryz.prog 54 [.vw z (l.map (kA .i64))] H cnt (.sl H.length (cnt+1) 0 l.length) (H++[⟨true,cnt+1,3,1,l.map (kA .i64),false⟩]) (cnt+2):=by
 cases l with
 | nil=>exact nilcase (fun cap=>clone54_no cap H cnt) (fun a cap=>clone54_so a cap H cnt)
 | cons a r=>
  refine hspecW_of_go (gEnv_ok (lit:=false) (pm:=fun _=>none) .nil .nil .nil .nil) rfl Tryz.func54 rfl (by decide) (by kernel_rfl) ?_
  simp only [Tryz.f54,initSt,List.length_cons,List.length_nil,Nat.reduceAdd,Nat.reduceSub,List.replicate]
  refine vc_go ?_
  have hr:decide ((r.length+1) * 8≤140737488355328)=true:=by rw [decide_eq_true_eq]; simp only [List.length_cons] at hs; omega
  have hn:norefs (r.map (kA .i64))=true:=norefs_k64 r
  simp (maxSteps:=10000000) +contextual -implicitDefEqProofs only [bnC,bnS,St.put,↓reduceIte,Nat.reduceMul,Int.reduceLT,Nat.reduceLT,bnT,Int.reduceMul,bnH,kA_eq,norefs,AV.noref,sl34,List.getElem?_concat_length,set_last',hn,allSz_kA,hr]
  repeat' (first | exact chk_no (by kernel_rfl) | refine ⟨chk_no (by kernel_rfl),?_⟩ | refine And.intro ?_ ?_ | fail)
  all_goals first | rfl | trivial | omega | exact .refl _ | skip
  all_goals done
noncomputable def newS (c:Cd):Rs × Int:=if validC c=0 then (⟨false,c.vars,false,List.replicate c.tim.toNat 0,0,true,[],0⟩,0) else (⟨true,[],true,[],0,true,[],0⟩,1)
noncomputable def f20:=mkF Fit (fun c=>[cdA c]) (fun c=>.tu [rsA (newS c).1,kA .i64 (newS c).2])
theorem e20 (c:Cd) (h:Fit c):f20 [cdA c]=some (.tu [rsA (newS c).1,.sc (.int .i64 (newS c).2)]):=
 (mkF_eq (q:=Fit) (enc:=fun c=>[cdA c]) (out:=fun c=>.tu [rsA (newS c).1,kA .i64 (newS c).2]) c h (by
  intro b h
  simp only [List.cons.injEq,and_true] at h
  rw [cdA_inj h]) :)
theorem newS_no {c:Cd} (h:validC c≠0):newS c=(⟨true,[],true,[],0,true,[],0⟩,1):=by rw [newS,if_neg h]
theorem newS_ok {c:Cd} (h:validC c=0):newS c=(⟨false,c.vars,false,List.replicate c.tim.toNat 0,0,true,[],0⟩,0):=by rw [newS,if_pos h]
theorem noref_new (c:Cd):(AV.tu [rsA (newS c).1,kA .i64 (newS c).2]).noref=true:=by simp [kA,AV.noref,norefs,noref_rsA]
theorem ok20:FOk Tryz.prog 20 f20:=fok_mk <| by
 rintro c hq
 have x1:=e53 c hq
 simp only [cdA_eq] at x1
 by_cases h:validC c=0
 rotate_left
 ·have b1:(validC c != 0)=true:=by simpa using h
  refine fspecW_of_go (gEnv_ok (lit:=false) (pm:=fun _=>none) (.cons ok53 .nil) .nil .nil .nil) rfl Tryz.func20 rfl (by decide) (by kernel_rfl) (noref_new c) ?_
  simp only [Tryz.f20,initSt,List.length_cons,List.length_nil,Nat.reduceAdd,Nat.reduceSub,List.replicate]
  rw [newS_no h]
  refine vc_go ?_
  simp (maxSteps:=10000000) +contextual -implicitDefEqProofs only [bnC,bnS,St.put,borrow,borrows,pin,pl,↓reduceIte,Nat.reduceAdd,Int.reduceLT,Nat.reduceLT,bnT,Int.reduceAdd,bnH,kA_eq,cdA_eq,rsA_eq,x1,b1]
  repeat' (first | exact chk_no (by kernel_rfl) | refine ⟨chk_no (by kernel_rfl),?_⟩ | refine And.intro ?_ ?_ | fail)
  all_goals first | rfl | skip
  all_goals done
 have hlm:=valid_len h
 have b1:(validC c != 0)=false:=by simp [h]
 rw [newS_ok h]
 obtain ⟨F54,k54,e54⟩:=hok_atP (clone54_spec c.zv c.vars [⟨true,0,36,7,[cdA c],false⟩,⟨true,1,41,5,[rsA ⟨true,[],true,[],0,true,[],0⟩],false⟩] 2 (by omega))
 simp only [cdA_eq,rsA_eq,List.cons_append,List.nil_append,List.length_cons,List.length_nil,List.map_nil,Nat.reduceAdd] at e54
 have hsz:decide (c.tim * 8≤140737488355328)=true:=by rw [decide_eq_true_eq]; omega
 have hsz2:decide (c.tim≤c.tim)=true:=by rw [decide_eq_true_eq]; omega
 have g0:decide ((0:Int)≤c.tim)=true:=by rw [decide_eq_true_eq]; omega
 have ht1:List.take c.vars.length (c.vars.map (kA .i64))=c.vars.map (kA .i64):=List.take_of_length_le (by simp)
 have ht2:List.take c.tim.toNat (List.replicate c.tim.toNat (AV.sc (.int .i64 0)))=(List.replicate c.tim.toNat 0).map (kA .i64):=by rw [List.take_of_length_le (by simp),List.map_replicate]; rfl
 refine fspecW_of_go (gEnv_ok (lit:=false) (pm:=fun _=>none) (.cons ok53 .nil) .nil .nil (.cons k54 .nil)) rfl Tryz.func20 rfl (by decide) (by kernel_rfl) (by simp [kA,AV.noref,norefs,noref_rsA]) ?_
 simp only [Tryz.f20,initSt,List.length_cons,List.length_nil,Nat.reduceAdd,Nat.reduceSub,List.replicate]
 refine vc_go ?_
 simp (maxSteps:=10000000) +contextual -implicitDefEqProofs only [bnC,bnS,St.put,borrow,borrows,pin,pl,↓reduceIte,reduceCtorEq,Nat.reduceAdd,Nat.reduceLeDiff,Nat.reduceEqDiff,Int.reduceLT,Nat.reduceLT,bnT,Int.reduceAdd,bnH,hin,hl,kA_eq,cdA_eq,rsA_eq,x1,b1,e54,hsz,hsz2,g0,ht1,ht2]
 repeat' (first | exact chk_no (by kernel_rfl) | refine ⟨chk_no (by kernel_rfl),?_⟩ | refine And.intro ?_ ?_ | fail)
 all_goals first | (simp [AV.freshIn,freshsIn,liveB,freshs,AV.fresh,freshs_k64,freshs_rep]; done) | skip
 all_goals done
noncomputable def f21:=mkF (fun c:Cd=>Fit c∧c.vars≠[]) (fun c=>[cdA c]) (fun c=>.tu [rsA (newS c).1,kA .i64 (newS c).2])
theorem e21 (c:Cd) (h:Fit c) (hv:c.vars≠[]):f21 [cdA c]=some (.tu [rsA (newS c).1,.sc (.int .i64 (newS c).2)]):=
 (mkF_eq (q:=fun c:Cd=>Fit c∧c.vars≠[]) (enc:=fun c=>[cdA c]) (out:=fun c=>.tu [rsA (newS c).1,kA .i64 (newS c).2]) c ⟨h,hv⟩ (by
  intro b h
  simp only [List.cons.injEq,and_true] at h
  rw [cdA_inj h]) :)
theorem ok21:FOk Tryz.prog 21 f21:=fok_mk <| by
 rintro c ⟨hq,hne⟩
 have x1:=e53 c hq
 simp only [cdA_eq] at x1
 by_cases h:validC c=0
 rotate_left
 ·have b1:(validC c != 0)=true:=by simpa using h
  refine fspecW_of_go (gEnv_ok (lit:=false) (pm:=fun _=>none) (.cons ok55 .nil) .nil .nil .nil) rfl Tryz.func21 rfl (by decide) (by kernel_rfl) (noref_new c) ?_
  simp only [Tryz.f21,initSt,List.length_cons,List.length_nil,Nat.reduceAdd,Nat.reduceSub,List.replicate]
  rw [newS_no h]
  refine vc_go ?_
  simp (maxSteps:=10000000) +contextual -implicitDefEqProofs only [bnC,bnS,St.put,borrow,borrows,pin,pl,↓reduceIte,Nat.reduceAdd,Int.reduceLT,Nat.reduceLT,bnT,Int.reduceAdd,bnH,kA_eq,cdA_eq,rsA_eq,x1,b1]
  repeat' (first | exact chk_no (by kernel_rfl) | refine ⟨chk_no (by kernel_rfl),?_⟩ | refine And.intro ?_ ?_ | fail)
  all_goals first | rfl | skip
  all_goals done
 have hlm:=valid_len h
 have b1:(validC c != 0)=false:=by simp [h]
 rw [newS_ok h]
 have hsz:decide (c.tim * 8≤140737488355328)=true:=by rw [decide_eq_true_eq]; omega
 have hsz2:decide (c.tim≤c.tim)=true:=by rw [decide_eq_true_eq]; omega
 have g0:decide ((0:Int)≤c.tim)=true:=by rw [decide_eq_true_eq]; omega
 have ht2:List.take c.tim.toNat (List.replicate c.tim.toNat (AV.sc (.int .i64 0)))=(List.replicate c.tim.toNat 0).map (kA .i64):=by rw [List.take_of_length_le (by simp),List.map_replicate]; rfl
 refine fspecW_of_go (gEnv_ok (lit:=false) (pm:=fun _=>none) (.cons ok55 .nil) .nil .nil .nil) rfl Tryz.func21 rfl (by decide) (by kernel_rfl) (by simp [kA,AV.noref,norefs,noref_rsA]) ?_
 simp only [Tryz.f21,initSt,List.length_cons,List.length_nil,Nat.reduceAdd,Nat.reduceSub,List.replicate]
 refine vc_go ?_
 cases hv:c.vars with
 | nil=>exact absurd hv hne
 | cons a r=>
  have hz:decide ((r.length+1) * 8≤140737488355328)=true:=by rw [decide_eq_true_eq]; rw [hv] at hlm; simp only [List.length_cons] at hlm; omega
  have hn:norefs (r.map (kA .i64))=true:=norefs_k64 r
  have ht3:List.take r.length (r.map (kA .i64))=r.map (kA .i64):=List.take_of_length_le (by simp)
  simp only [hv,List.map_cons,kA_eq] at x1
  simp (maxSteps:=10000000) +contextual -implicitDefEqProofs only [bnC,bnS,St.put,borrow,borrows,pin,pl,↓reduceIte,reduceCtorEq,Nat.reduceAdd,Nat.reduceLeDiff,Int.reduceLT,Nat.reduceLT,bnT,Int.reduceAdd,bnH,kA_eq,cdA_eq,rsA_eq,norefs,AV.noref,x1,b1,hv,hsz,hsz2,g0,ht2,ht3,hz,hn,allSz_kA]
  repeat' (first | exact chk_no (by kernel_rfl) | refine ⟨chk_no (by kernel_rfl),?_⟩ | refine And.intro ?_ ?_ | fail)
  all_goals first | (simp [AV.freshIn,freshsIn,liveB,freshs,AV.fresh,freshs_k64,freshs_rep]; done) | skip
  all_goals done
end Go.Proofs.YtdjpkhjaibdogaaGreat
