/-
  Joined texts: CC, CD, CE.
  Conditions: none.
-/
import Derived.Test.YtdjpkhjaibdogaaGreatL34
namespace Go.Proofs.YtdjpkhjaibdogaaGreat
open Go Go.SX
set_option linter.unusedSimpArgs false
set_option linter.unusedVariables false
attribute [local congr] ite_congr
set_option maxRecDepth 100000
set_option maxHeartbeats 8000000
def clampI (n:Int):Int:=if n < -2147483647 then -2147483647 else if 2147483647 < n then 2147483647 else n
theorem clampI_ne (n:Int):(n != clampI n)=badB (-2147483647) n:=by
 rw [Bool.eq_iff_iff]
 simp only [bne_iff_ne,ne_eq,badB,Bool.or_eq_true,decide_eq_true_eq,clampI]
 split
 ·omega
 ·split <;> omega
theorem max_min (n:Int):max (-2147483647) (min 2147483647 n)=clampI n:=by
 unfold clampI; split
 ·omega
 ·split <;> omega
noncomputable def f119:=mkF (fun _:Int=>True) (fun x=>[kA .i64 x]) (fun x=>kA .i64 (clampI x))
theorem e119 (x:Int):f119 [.sc (.int .i64 x)]=some (.sc (.int .i64 (clampI x))):=
 (mkF_eq (q:=fun _:Int=>True) (enc:=fun x=>[kA .i64 x]) (out:=fun x=>kA .i64 (clampI x)) x trivial (by intro y h; simp only [List.cons.injEq,and_true] at h; rw [kA_inj h]) :)
theorem ok119:POk Tryz.prog 119 f119:=pok_mk <| by
 rintro x -
 refine pspec_of_go (fEnv_ok (.nil) (.nil)) rfl Tryz.func119 rfl (by decide) (by kernel_rfl) (by kernel_rfl) ?_
 simp only [Tryz.f119,initSt,List.length_cons,List.length_nil,Nat.reduceAdd,Nat.reduceSub,List.replicate]
 refine vc_go ?_
 simp (maxSteps:=10000000) +contextual -implicitDefEqProofs only [bnC,bnS,St.put,bnH,kA_eq,max_min]
 all_goals done
theorem ok81:POk Tryz.prog 81 f77:=pok_mk <| by
 rintro ⟨c,v⟩ hq
 have hq:Fit c:=hq
 have x1:=e53 c hq
 simp only [cdA_eq] at x1
 have hsh:(0:Int)≤(c.pri.length:Int):=Int.natCast_nonneg _
 have hpl:=hq.pri
 have wp:IntKind.u64.wrap (c.pri.length:Int)=(c.pri.length:Int):=wrap_u64s (by omega) (by omega)
 simp only
 have p1:(decide (v.pl' < 0) || decide ((2147483647:Int) < v.pl'))=badB 0 v.pl':=rfl
 have p2:(decide (v.ba < 0) || decide ((2147483647:Int) < v.ba))=badB 0 v.ba:=rfl
 cases hb:((validC c != 0) || ((v.vars.length:Int) != (c.vars.length:Int)) || ((v.left.length:Int) != c.tim) || (ishr .u32 v.act c.pri.length != 0) || decide (v.pl' < 0) || decide ((2147483647:Int) < v.pl') || decide (v.ba < 0) || decide ((2147483647:Int) < v.ba)) with
 | true=>
  have hE:envB c v=false:=by
   rw [Bool.eq_false_iff]
   intro hh
   simp only [envB,badB,Bool.and_eq_true,beq_iff_eq,Bool.not_eq_true',Bool.or_eq_false_iff,decide_eq_false_iff_not] at hh
   simp only [Bool.or_eq_true,decide_eq_true_eq,bne_iff_ne,ne_eq] at hb
   omega
  rw [hE]
  refine pspec_of_go (gEnv_ok (lit:=false) (pm:=fun _=>none) (.cons ok55 .nil) .nil .nil .nil) rfl Tryz.func81 rfl (by decide) (by kernel_rfl) (by kernel_rfl) ?_
  simp only [Tryz.f81,initSt,List.length_cons,List.length_nil,Nat.reduceAdd,Nat.reduceSub,List.replicate]
  refine vc_go ?_
  simp (maxSteps:=10000000) +contextual -implicitDefEqProofs only [bnC,bnS,guardV,St.put,borrow,borrows,pin,pl,↓reduceIte,reduceCtorEq,Nat.reduceAdd,bnT,Int.reduceAdd,bnH,bA_eq,cdA_eq,vnA_eq,x1,hsh,wp,hb]
  all_goals done
 | false=>
 have hb2:=hb
 simp only [Bool.or_eq_false_iff,decide_eq_false_iff_not,bne_eq_false_iff_eq] at hb2
 obtain ⟨⟨⟨⟨⟨⟨⟨h1,h2⟩,h3⟩,h4⟩,h5⟩,h6⟩,h7⟩,h8⟩:=hb2
 have hlm:=valid_len h1
 have hE:envB c v=(!v.vars.any (badB (-2147483647)) && !v.left.any (badB 0)):=by
  have e1:badB 0 v.pl'=false:=by simp [badB]; omega
  have e2:badB 0 v.ba=false:=by simp [badB]; omega
  simp only [envB,h1,h2,h3,h4,e1,e2,beq_self_eq_true,Bool.true_and,Bool.not_false,Bool.and_true]
 rw [hE]
 refine pspec_of_go (gEnv_ok (lit:=false) (pm:=fun _=>none) (.cons ok55 (.cons ok119 .nil)) .nil .nil .nil) rfl Tryz.func81 rfl (by decide) (by kernel_rfl) (by kernel_rfl) ?_
 simp only [Tryz.f81,initSt,List.length_cons,List.length_nil,Nat.reduceAdd,Nat.reduceSub,List.replicate]
 refine vc_go ?_
 simp (maxSteps:=10000000) +contextual -implicitDefEqProofs only [bnC,bnS,guardV,St.put,borrow,borrows,pin,pl,↓reduceIte,reduceCtorEq,Nat.reduceAdd,bnT,Int.reduceAdd,bnH,bA_eq,cdA_eq,vnA_eq,x1,hsh,wp,hb]
 clear hb p1 p2 x1 wp
 refine go_loopW (σ:=Nat) (fun k cnt=>⟨mkT 0 97 [(3,.pt 1 1 0 0),(5,.sc (.int .i64 k))],[dead,⟨true,1,104,6,[vnA v],false⟩],cnt⟩)
  (fun k=>k≤v.vars.length∧∀ j,j < k→badB (-2147483647) (v.vars.getD j default)=false) (fun k=>v.vars.length - k) 0 ⟨by omega,by omega⟩ ?_ ?_ rfl ?_
 ·simp (maxSteps:=10000000) only [bnC,bnS,↓reduceIte,reduceCtorEq,Nat.reduceAdd,Nat.reduceEqDiff,mkT,lkT]
 ·simp only [dead]
  simp (maxSteps:=10000000) only [bnC,bnS,vnA_eq]
 rintro k cnt ⟨hk,hn⟩ ih
 by_cases hk':k < v.vars.length
 ·have g1:decide ((k:Int) < (v.vars.length:Int))=true:=by rw [decide_eq_true_eq]; omega
  have g2:decide (k < v.vars.length)=true:=by rw [decide_eq_true_eq]; omega
  have w1:IntKind.i64.wrap ((k:Int)+1)=((k+1:Nat):Int):=by rw [wrap64 (by omega) (by omega)]; omega
  have hat:=any_at (p:=badB (-2147483647)) hk'
  have hne:=till_next hn (k:=k)
  obtain ⟨x,hx⟩:∃ x,v.vars.getD k default=x:=⟨_,rfl⟩
  rw [hx] at hat hne
  have x2:=e119 x
  have x3:=clampI_ne x
  refine vc_go ?_
  simp only [dead] at ih ⊢
  cases h9:badB (-2147483647) x with
  | true=>
   have e:=hat h9
   rw [h9] at x3
   rw [e]
   simp (maxSteps:=10000000) only [mkT,lkT,Nat.reduceAdd,Nat.reduceEqDiff,↓reduceIte,Nat.zero_add]
   simp (maxSteps:=10000000) +contextual -implicitDefEqProofs only [bnC,bnS,St.put,borrow,borrows,pin,pl,↓reduceIte,reduceCtorEq,Nat.reduceAdd,Nat.reduceEqDiff,bnT,Int.reduceAdd,bnH,hin,kA_eq,vnA_eq,AV.noref,g1,g2,hx,x2,x3,ldV_mapN,allSz_kA]
   repeat' (first | exact chk_no (by kernel_rfl) | refine ⟨chk_no (by kernel_rfl),?_⟩ | refine And.intro ?_ ?_ | fail)
   all_goals done
  | false=>
   have ih:=fun c=>ih (k+1) c ⟨by omega,hne h9⟩ (by omega)
   rw [h9] at x3
   simp (maxSteps:=10000000) only [mkT,lkT,Nat.reduceAdd,Nat.reduceEqDiff,↓reduceIte,Nat.zero_add]
   simp (maxSteps:=10000000) +contextual -implicitDefEqProofs only [bnC,bnS,St.put,borrow,borrows,pin,pl,↓reduceIte,reduceCtorEq,Nat.reduceAdd,Nat.reduceEqDiff,bnT,Int.reduceAdd,bnH,hin,kA_eq,vnA_eq,AV.noref,g1,g2,hx,x2,x3,w1,ldV_mapN,allSz_kA]
   repeat' (first | exact chk_no (by kernel_rfl) | refine ⟨chk_no (by kernel_rfl),?_⟩ | refine And.intro ?_ ?_ | fail)
   refine go_weak ?_ ?_ (Nat.le_refl _) (ih _)
   all_goals simp (maxSteps:=10000000) only [bnC,bnS,↓reduceIte,reduceCtorEq,Nat.reduceAdd,Nat.reduceEqDiff,mkT,lkT,vnA_eq]
   all_goals done
 have hkl:k=v.vars.length:=by omega
 subst hkl
 have g1:decide ((v.vars.length:Int) < (v.vars.length:Int))=false:=by simp
 have n1:v.vars.any (badB (-2147483647))=false:=any_no hn
 rw [n1]
 clear hn ih hk hk'
 refine vc_go ?_
 simp only [dead]
 simp (maxSteps:=10000000) only [mkT,lkT,Nat.reduceAdd,Nat.reduceEqDiff,↓reduceIte,Nat.zero_add]
 simp (maxSteps:=10000000) +contextual -implicitDefEqProofs only [bnC,bnS,St.put,↓reduceIte,reduceCtorEq,bnT,bnH,vnA_eq,g1]
 refine go_loopW (σ:=Nat) (fun k cnt=>⟨mkT 0 97 [(3,.pt 1 1 0 0),(6,.sc (.int .i64 k))],[dead,⟨true,1,104,6,[vnA v],false⟩],cnt⟩)
  (fun k=>k≤v.left.length∧∀ j,j < k→badB 0 (v.left.getD j default)=false) (fun k=>v.left.length - k) 0 ⟨by omega,by omega⟩ ?_ ?_ rfl ?_
 ·simp (maxSteps:=10000000) only [bnC,bnS,↓reduceIte,reduceCtorEq,Nat.reduceAdd,Nat.reduceEqDiff,mkT,lkT]
 ·simp only [dead]
  simp (maxSteps:=10000000) only [bnC,bnS,vnA_eq]
 rintro k cnt ⟨hk,hn⟩ ih
 by_cases hk':k < v.left.length
 ·have g1:decide ((k:Int) < (v.left.length:Int))=true:=by rw [decide_eq_true_eq]; omega
  have g2:decide (k < v.left.length)=true:=by rw [decide_eq_true_eq]; omega
  have w1:IntKind.i64.wrap ((k:Int)+1)=((k+1:Nat):Int):=by rw [wrap64 (by omega) (by omega)]; omega
  have hat:=any_at (p:=badB 0) hk'
  have hne:=till_next hn (k:=k)
  obtain ⟨x,hx⟩:∃ x,v.left.getD k default=x:=⟨_,rfl⟩
  rw [hx] at hat hne
  refine vc_go ?_
  simp only [dead] at ih ⊢
  cases h9:badB 0 x with
  | true=>
   have e:=hat h9
   simp only [badB] at h9
   rw [e]
   simp (maxSteps:=10000000) only [mkT,lkT,Nat.reduceAdd,Nat.reduceEqDiff,↓reduceIte,Nat.zero_add]
   simp (maxSteps:=10000000) +contextual -implicitDefEqProofs only [bnC,bnS,guardV,St.put,↓reduceIte,reduceCtorEq,bnT,bnH,kA_eq,vnA_eq,AV.noref,g1,g2,hx,h9,ldV_mapN,allSz_kA]
   repeat' (first | exact chk_no (by kernel_rfl) | refine ⟨chk_no (by kernel_rfl),?_⟩ | refine And.intro ?_ ?_ | fail)
   all_goals done
  | false=>
   have ih:=fun c=>ih (k+1) c ⟨by omega,hne h9⟩ (by omega)
   simp only [badB] at h9
   simp (maxSteps:=10000000) only [mkT,lkT,Nat.reduceAdd,Nat.reduceEqDiff,↓reduceIte,Nat.zero_add]
   simp (maxSteps:=10000000) +contextual -implicitDefEqProofs only [bnC,bnS,guardV,St.put,↓reduceIte,reduceCtorEq,bnT,bnH,kA_eq,vnA_eq,AV.noref,g1,g2,hx,h9,w1,ldV_mapN,allSz_kA]
   repeat' (first | exact chk_no (by kernel_rfl) | refine ⟨chk_no (by kernel_rfl),?_⟩ | refine And.intro ?_ ?_ | fail)
   refine go_weak ?_ ?_ (Nat.le_refl _) (ih _)
   all_goals simp (maxSteps:=10000000) only [bnC,bnS,↓reduceIte,reduceCtorEq,Nat.reduceAdd,Nat.reduceEqDiff,mkT,lkT,vnA_eq]
   all_goals done
 have hkl:k=v.left.length:=by omega
 subst hkl
 have g1:decide ((v.left.length:Int) < (v.left.length:Int))=false:=by simp
 have n2:v.left.any (badB 0)=false:=any_no hn
 rw [n2]
 clear hn ih hk hk'
 refine vc_go ?_
 simp only [dead]
 simp (maxSteps:=10000000) only [mkT,lkT,Nat.reduceAdd,Nat.reduceEqDiff,↓reduceIte,Nat.zero_add]
 simp (maxSteps:=10000000) +contextual -implicitDefEqProofs only [bnC,bnS,St.put,↓reduceIte,reduceCtorEq,bnT,bnH,vnA_eq,g1]
 all_goals done
end Go.Proofs.YtdjpkhjaibdogaaGreat

namespace Go.Proofs.YtdjpkhjaibdogaaGreat
open Go Go.SX
set_option linter.unusedSimpArgs false
set_option linter.unusedVariables false
attribute [local congr] ite_congr
set_option maxRecDepth 100000
set_option maxHeartbeats 8000000
structure Ef where
 k:Int
 a:Int
 b:Int
 c:Int
 t:ByteArray
 deriving DecidableEq
instance:Inhabited Ef:=⟨⟨0,0,0,0,⟨#[]⟩⟩⟩
theorem eq_of_getD {α:Type} [Inhabited α] {a b:List α} (hl:a.length=b.length) (h:∀ j,j < a.length→a.getD j default=b.getD j default):a=b:=by
 refine List.ext_getElem hl fun i h1 h2=>?_
 have:=h i h1
 rw [List.getD_eq_getElem?_getD,List.getD_eq_getElem?_getD,List.getElem?_eq_getElem h1,List.getElem?_eq_getElem h2] at this
 exact this
theorem ext_Lo {x y:Lo} (h:x.mo=y.mo∧x.la=y.la∧x.se.lv=y.se.lv∧x.se.on=y.se.on∧x.se.off=y.se.off∧x.se.si=y.se.si):x=y:=by
 obtain ⟨a,b,⟨c,d,e,f⟩⟩:=x; obtain ⟨a',b',⟨c',d',e',f'⟩⟩:=y; simp_all
theorem bytes_beq (a b:ByteArray):((a == b)=true)=(a=b):=by
 obtain ⟨x⟩:=a
 obtain ⟨y⟩:=b
 refine propext ?_
 show (x == y)=true↔_
 simp
noncomputable def f75:=mkF (fun _:(Bool × List Int) × (Bool × List Int)=>True) (fun p=>[.vw p.1.1 (p.1.2.map (kA .i64)),.vw p.2.1 (p.2.2.map (kA .i64))]) (fun p=>bA (decide (p.1.2=p.2.2)))
theorem e75 (z:Bool) (a:List Int) (z':Bool) (b:List Int):f75 [.vw z (a.map (kA .i64)),.vw z' (b.map (kA .i64))]=some (.sc (.bool (decide (a=b)))):=
 (mkF_eq (q:=fun _:(Bool × List Int) × (Bool × List Int)=>True) (enc:=fun p=>[.vw p.1.1 (p.1.2.map (kA .i64)),.vw p.2.1 (p.2.2.map (kA .i64))]) (out:=fun p=>bA (decide (p.1.2=p.2.2))) ((z,a),(z',b)) trivial (by
  rintro ⟨⟨y1,y2⟩,⟨y3,y4⟩⟩ h
  simp only [List.cons.injEq,AV.vw.injEq,map_kA64,and_true] at h
  rw [h.1.1,h.1.2,h.2.1,h.2.2]) :)
theorem ok75:POk Tryz.prog 75 f75:=pok_mk <| by
 rintro ⟨⟨z,a⟩,⟨z',b⟩⟩ -
 refine pspec_of_go (fEnv_ok (.nil) (.nil)) rfl Tryz.func75 rfl (by decide) (by kernel_rfl) (by kernel_rfl) ?_
 simp only [Tryz.f75,initSt,List.length_cons,List.length_nil,Nat.reduceAdd,Nat.reduceSub,List.replicate]
 refine go_len 0 rfl fun hlen=>?_
 have hla:a.length < 9223372036854775808:=by simp [maxLen] at hlen; omega
 refine vc_go ?_
 by_cases he:a.length=b.length
 rotate_left
 ·have h1:((a.length:Int) != (b.length:Int))=true:=by simp; omega
  have h2:decide (a=b)=false:=by rw [decide_eq_false_iff_not]; intro h; exact he (by rw [h])
  simp (maxSteps:=10000000) +contextual -implicitDefEqProofs only [bnC,bnS,St.put,↓reduceIte,bnT,bA_eq,h1,h2]
 have h1:((a.length:Int) != (b.length:Int))=false:=by simp; omega
 simp (maxSteps:=10000000) +contextual -implicitDefEqProofs only [bnC,bnS,St.put,↓reduceIte,bnT,bA_eq,h1]
 refine go_loopW (σ:=Nat) (fun k cnt=>⟨mkT 0 26 [(0,.vw z (a.map (kA .i64))),(1,.vw z' (b.map (kA .i64))),(12,.sc (.int .i64 a.length)),(13,.sc (.int .i64 k))],[],cnt⟩)
  (fun k=>k≤a.length∧∀ j,j < k→a.getD j default=b.getD j default) (fun k=>a.length - k) 0 ⟨by omega,by omega⟩ ?_ trivial rfl ?_
 ·simp (maxSteps:=10000000) only [bnC,bnS,↓reduceIte,reduceCtorEq,Nat.reduceAdd,Nat.reduceEqDiff,mkT,lkT]
 rintro k cnt ⟨hk,hn⟩ ih
 refine vc_go ?_
 by_cases hk':k < a.length
 ·have h2:decide ((k:Int) < (a.length:Int))=true:=by rw [decide_eq_true_eq]; omega
  have h3:decide (k < a.length)=true:=by rw [decide_eq_true_eq]; omega
  have h4:decide ((k:Int) < (b.length:Int))=true:=by rw [decide_eq_true_eq]; omega
  have h5:decide (k < b.length)=true:=by rw [decide_eq_true_eq]; omega
  have w1:IntKind.i64.wrap ((k:Int)+1)=((k+1:Nat):Int):=by rw [wrap64 (by omega) (by omega)]; omega
  have hne:=till_next (p:=fun j=>a.getD j default=b.getD j default) hn (k:=k)
  have hdf:a.getD k default≠b.getD k default→decide (a=b)=false:=fun hv=>by rw [decide_eq_false_iff_not]; intro h; exact hv (by rw [h])
  obtain ⟨x,hx⟩:∃ x,a.getD k default=x:=⟨_,rfl⟩
  obtain ⟨y,hy⟩:∃ y,b.getD k default=y:=⟨_,rfl⟩
  simp only [hx,hy] at hne hdf
  by_cases hv:x=y
  ·have ih:=fun c=>ih (k+1) c ⟨by omega,hne hv⟩ (by omega)
   have hv':(x != y)=false:=by simpa using hv
   simp (maxSteps:=10000000) only [mkT,lkT,Nat.reduceAdd,Nat.reduceEqDiff,↓reduceIte,Nat.zero_add]
   simp (maxSteps:=10000000) +contextual -implicitDefEqProofs only [bnC,bnS,St.put,↓reduceIte,Nat.reduceAdd,bnT,Int.reduceAdd,kA_eq,AV.noref,h2,h3,h4,h5,allSz_kA,ldV_mapN,hx,hy,w1,hv']
   repeat' (first | exact chk_no (by kernel_rfl) | refine ⟨chk_no (by kernel_rfl),?_⟩ | refine And.intro ?_ ?_ | fail)
   refine go_weak ?_ ?_ (Nat.le_refl _) (ih _)
   all_goals simp (maxSteps:=10000000) only [bnC,bnS,↓reduceIte,reduceCtorEq,Nat.reduceAdd,Nat.reduceEqDiff,mkT,lkT]
   all_goals done
  ·have h6:=hdf hv
   have hv':(x != y)=true:=by simpa using hv
   simp (maxSteps:=10000000) only [mkT,lkT,Nat.reduceAdd,Nat.reduceEqDiff,↓reduceIte,Nat.zero_add]
   simp (maxSteps:=10000000) +contextual -implicitDefEqProofs only [bnC,bnS,St.put,↓reduceIte,Nat.reduceAdd,bnT,Int.reduceAdd,kA_eq,AV.noref,h2,h3,h4,h5,allSz_kA,ldV_mapN,hx,hy,hv',h6]
   repeat' (first | exact chk_no (by kernel_rfl) | refine ⟨chk_no (by kernel_rfl),?_⟩ | refine And.intro ?_ ?_ | fail)
   all_goals done
 ·have hkl:k=a.length:=by omega
  subst hkl
  have h2:decide ((a.length:Int) < (a.length:Int))=false:=by simp
  have h3:decide (a=b)=true:=by rw [decide_eq_true_eq]; exact eq_of_getD he hn
  simp (maxSteps:=10000000) only [mkT,lkT,Nat.reduceAdd,Nat.reduceEqDiff,↓reduceIte,Nat.zero_add]
  simp (maxSteps:=10000000) +contextual -implicitDefEqProofs only [bnC,bnS,St.put,↓reduceIte,h2,h3]
  all_goals done
theorem ok70:POk Tryz.prog 70 f75:=pok_mk <| by
 rintro ⟨⟨z,a⟩,⟨z',b⟩⟩ -
 refine pspec_of_go (fEnv_ok (.nil) (.nil)) rfl Tryz.func70 rfl (by decide) (by kernel_rfl) (by kernel_rfl) ?_
 simp only [Tryz.f70,initSt,List.length_cons,List.length_nil,Nat.reduceAdd,Nat.reduceSub,List.replicate]
 refine go_len 0 rfl fun hlen=>?_
 have hla:a.length < 9223372036854775808:=by simp [maxLen] at hlen; omega
 refine vc_go ?_
 by_cases he:a.length=b.length
 rotate_left
 ·have h1:((a.length:Int) != (b.length:Int))=true:=by simp; omega
  have h2:decide (a=b)=false:=by rw [decide_eq_false_iff_not]; intro h; exact he (by rw [h])
  simp (maxSteps:=10000000) +contextual -implicitDefEqProofs only [bnC,bnS,St.put,↓reduceIte,bnT,bA_eq,h1,h2]
 have h1:((a.length:Int) != (b.length:Int))=false:=by simp; omega
 simp (maxSteps:=10000000) +contextual -implicitDefEqProofs only [bnC,bnS,St.put,↓reduceIte,bnT,bA_eq,h1]
 refine go_loopW (σ:=Nat) (fun k cnt=>⟨mkT 0 26 [(0,.vw z (a.map (kA .i64))),(1,.vw z' (b.map (kA .i64))),(5,.sc (.int .i64 k))],[],cnt⟩)
  (fun k=>k≤a.length∧∀ j,j < k→a.getD j default=b.getD j default) (fun k=>a.length - k) 0 ⟨by omega,by omega⟩ ?_ trivial rfl ?_
 ·simp (maxSteps:=10000000) only [bnC,bnS,↓reduceIte,reduceCtorEq,Nat.reduceAdd,Nat.reduceEqDiff,mkT,lkT]
 rintro k cnt ⟨hk,hn⟩ ih
 refine vc_go ?_
 by_cases hk':k < a.length
 ·have h2:decide ((k:Int) < (a.length:Int))=true:=by rw [decide_eq_true_eq]; omega
  have h3:decide (k < a.length)=true:=by rw [decide_eq_true_eq]; omega
  have h4:decide ((k:Int) < (b.length:Int))=true:=by rw [decide_eq_true_eq]; omega
  have h5:decide (k < b.length)=true:=by rw [decide_eq_true_eq]; omega
  have w1:IntKind.i64.wrap ((k:Int)+1)=((k+1:Nat):Int):=by rw [wrap64 (by omega) (by omega)]; omega
  have hne:=till_next (p:=fun j=>a.getD j default=b.getD j default) hn (k:=k)
  have hdf:a.getD k default≠b.getD k default→decide (a=b)=false:=fun hv=>by rw [decide_eq_false_iff_not]; intro h; exact hv (by rw [h])
  obtain ⟨x,hx⟩:∃ x,a.getD k default=x:=⟨_,rfl⟩
  obtain ⟨y,hy⟩:∃ y,b.getD k default=y:=⟨_,rfl⟩
  simp only [hx,hy] at hne hdf
  by_cases hv:x=y
  ·have ih:=fun c=>ih (k+1) c ⟨by omega,hne hv⟩ (by omega)
   have hv':(x != y)=false:=by simpa using hv
   simp (maxSteps:=10000000) only [mkT,lkT,Nat.reduceAdd,Nat.reduceEqDiff,↓reduceIte,Nat.zero_add]
   simp (maxSteps:=10000000) +contextual -implicitDefEqProofs only [bnC,bnS,St.put,↓reduceIte,Nat.reduceAdd,bnT,Int.reduceAdd,kA_eq,AV.noref,h2,h3,h4,h5,allSz_kA,ldV_mapN,hx,hy,w1,hv']
   repeat' (first | exact chk_no (by kernel_rfl) | refine ⟨chk_no (by kernel_rfl),?_⟩ | refine And.intro ?_ ?_ | fail)
   refine go_weak ?_ ?_ (Nat.le_refl _) (ih _)
   all_goals simp (maxSteps:=10000000) only [bnC,bnS,↓reduceIte,reduceCtorEq,Nat.reduceAdd,Nat.reduceEqDiff,mkT,lkT]
   all_goals done
  ·have h6:=hdf hv
   have hv':(x != y)=true:=by simpa using hv
   simp (maxSteps:=10000000) only [mkT,lkT,Nat.reduceAdd,Nat.reduceEqDiff,↓reduceIte,Nat.zero_add]
   simp (maxSteps:=10000000) +contextual -implicitDefEqProofs only [bnC,bnS,St.put,↓reduceIte,Nat.reduceAdd,bnT,Int.reduceAdd,kA_eq,AV.noref,h2,h3,h4,h5,allSz_kA,ldV_mapN,hx,hy,hv',h6]
   repeat' (first | exact chk_no (by kernel_rfl) | refine ⟨chk_no (by kernel_rfl),?_⟩ | refine And.intro ?_ ?_ | fail)
   all_goals done
 ·have hkl:k=a.length:=by omega
  subst hkl
  have h2:decide ((a.length:Int) < (a.length:Int))=false:=by simp
  have h3:decide (a=b)=true:=by rw [decide_eq_true_eq]; exact eq_of_getD he hn
  simp (maxSteps:=10000000) only [mkT,lkT,Nat.reduceAdd,Nat.reduceEqDiff,↓reduceIte,Nat.zero_add]
  simp (maxSteps:=10000000) +contextual -implicitDefEqProofs only [bnC,bnS,St.put,↓reduceIte,bnT,h2,h3]
  all_goals done
noncomputable def f76:=mkF (fun _:(Bool × List Lo) × (Bool × List Lo)=>True) (fun p=>[.vw p.1.1 (p.1.2.map loA),.vw p.2.1 (p.2.2.map loA)]) (fun p=>bA (decide (p.1.2=p.2.2)))
theorem e76 (z:Bool) (a:List Lo) (z':Bool) (b:List Lo):f76 [.vw z (a.map loA),.vw z' (b.map loA)]=some (.sc (.bool (decide (a=b)))):=
 (mkF_eq (q:=fun _:(Bool × List Lo) × (Bool × List Lo)=>True) (enc:=fun p=>[.vw p.1.1 (p.1.2.map loA),.vw p.2.1 (p.2.2.map loA)]) (out:=fun p=>bA (decide (p.1.2=p.2.2))) ((z,a),(z',b)) trivial (by
  rintro ⟨⟨y1,y2⟩,⟨y3,y4⟩⟩ h
  simp only [List.cons.injEq,AV.vw.injEq,map_loA,and_true] at h
  rw [h.1.1,h.1.2,h.2.1,h.2.2]) :)
theorem ok76:POk Tryz.prog 76 f76:=pok_mk <| by
 rintro ⟨⟨z,a⟩,⟨z',b⟩⟩ -
 refine pspec_of_go (fEnv_ok (.nil) (.nil)) rfl Tryz.func76 rfl (by decide) (by kernel_rfl) (by kernel_rfl) ?_
 simp only [Tryz.f76,initSt,List.length_cons,List.length_nil,Nat.reduceAdd,Nat.reduceSub,List.replicate]
 refine go_len 0 rfl fun hlen=>?_
 have hla:a.length < 9223372036854775808:=by simp [maxLen] at hlen; omega
 refine vc_go ?_
 by_cases he:a.length=b.length
 rotate_left
 ·have h1:((a.length:Int) != (b.length:Int))=true:=by simp; omega
  have h2:decide (a=b)=false:=by rw [decide_eq_false_iff_not]; intro h; exact he (by rw [h])
  simp (maxSteps:=10000000) +contextual -implicitDefEqProofs only [bnC,bnS,St.put,↓reduceIte,bnT,bA_eq,h1,h2]
 have h1:((a.length:Int) != (b.length:Int))=false:=by simp; omega
 simp (maxSteps:=10000000) +contextual -implicitDefEqProofs only [bnC,bnS,St.put,↓reduceIte,bnT,bA_eq,h1]
 refine go_loopW (σ:=Nat) (fun k cnt=>⟨mkT 0 26 [(0,.vw z (a.map loA)),(1,.vw z' (b.map loA)),(12,.sc (.int .i64 a.length)),(13,.sc (.int .i64 k))],[],cnt⟩)
  (fun k=>k≤a.length∧∀ j,j < k→a.getD j default=b.getD j default) (fun k=>a.length - k) 0 ⟨by omega,by omega⟩ ?_ trivial rfl ?_
 ·simp (maxSteps:=10000000) only [bnC,bnS,↓reduceIte,reduceCtorEq,Nat.reduceAdd,Nat.reduceEqDiff,mkT,lkT]
 rintro k cnt ⟨hk,hn⟩ ih
 refine vc_go ?_
 by_cases hk':k < a.length
 ·have h2:decide ((k:Int) < (a.length:Int))=true:=by rw [decide_eq_true_eq]; omega
  have h3:decide (k < a.length)=true:=by rw [decide_eq_true_eq]; omega
  have h4:decide ((k:Int) < (b.length:Int))=true:=by rw [decide_eq_true_eq]; omega
  have h5:decide (k < b.length)=true:=by rw [decide_eq_true_eq]; omega
  have w1:IntKind.i64.wrap ((k:Int)+1)=((k+1:Nat):Int):=by rw [wrap64 (by omega) (by omega)]; omega
  have hne:=till_next (p:=fun j=>a.getD j default=b.getD j default) hn (k:=k)
  have hdf:a.getD k default≠b.getD k default→decide (a=b)=false:=fun hv=>by rw [decide_eq_false_iff_not]; intro h; exact hv (by rw [h])
  obtain ⟨x,hx⟩:∃ x,a.getD k default=x:=⟨_,rfl⟩
  obtain ⟨y,hy⟩:∃ y,b.getD k default=y:=⟨_,rfl⟩
  simp only [hx,hy] at hne hdf
  by_cases hv:x=y
  ·have ih:=fun c=>ih (k+1) c ⟨by omega,hne hv⟩ (by omega)
   have hv':((x.mo == y.mo) && ((x.la == y.la) && ((x.se.lv == y.se.lv) && ((x.se.on == y.se.on) && ((x.se.off == y.se.off) && (x.se.si == y.se.si))))))=true:=by subst hv; simp [bytes_beq]
   simp (maxSteps:=10000000) only [mkT,lkT,Nat.reduceAdd,Nat.reduceEqDiff,↓reduceIte,Nat.zero_add]
   simp (maxSteps:=10000000) +contextual -implicitDefEqProofs only [bnC,bnS,St.put,↓reduceIte,Nat.reduceAdd,bnT,Int.reduceAdd,bnH,loA_eq,norefs,AV.noref,h2,h3,h4,h5,allSz_loA,ldV_mapN,hx,hy,w1,hv']
   repeat' (first | exact chk_no (by kernel_rfl) | refine ⟨chk_no (by kernel_rfl),?_⟩ | refine And.intro ?_ ?_ | fail)
   refine go_weak ?_ ?_ (Nat.le_refl _) (ih _)
   all_goals simp (maxSteps:=10000000) only [bnC,bnS,↓reduceIte,reduceCtorEq,Nat.reduceAdd,Nat.reduceEqDiff,mkT,lkT]
   all_goals done
  ·have h6:=hdf hv
   have hv':((x.mo == y.mo) && ((x.la == y.la) && ((x.se.lv == y.se.lv) && ((x.se.on == y.se.on) && ((x.se.off == y.se.off) && (x.se.si == y.se.si))))))=false:=by rw [Bool.eq_false_iff]; intro hh; simp only [Bool.and_eq_true,beq_iff_eq,bytes_beq] at hh; exact hv (ext_Lo hh)
   simp (maxSteps:=10000000) only [mkT,lkT,Nat.reduceAdd,Nat.reduceEqDiff,↓reduceIte,Nat.zero_add]
   simp (maxSteps:=10000000) +contextual -implicitDefEqProofs only [bnC,bnS,St.put,↓reduceIte,Nat.reduceAdd,bnT,Int.reduceAdd,bnH,loA_eq,norefs,AV.noref,h2,h3,h4,h5,allSz_loA,ldV_mapN,hx,hy,hv',h6]
   repeat' (first | exact chk_no (by kernel_rfl) | refine ⟨chk_no (by kernel_rfl),?_⟩ | refine And.intro ?_ ?_ | fail)
   all_goals done
 ·have hkl:k=a.length:=by omega
  subst hkl
  have h2:decide ((a.length:Int) < (a.length:Int))=false:=by simp
  have h3:decide (a=b)=true:=by rw [decide_eq_true_eq]; exact eq_of_getD he hn
  simp (maxSteps:=10000000) only [mkT,lkT,Nat.reduceAdd,Nat.reduceEqDiff,↓reduceIte,Nat.zero_add]
  simp (maxSteps:=10000000) +contextual -implicitDefEqProofs only [bnC,bnS,St.put,↓reduceIte,h2,h3]
  all_goals done
end Go.Proofs.YtdjpkhjaibdogaaGreat

namespace Go.Proofs.YtdjpkhjaibdogaaGreat
open Go Go.SX
set_option linter.unusedSimpArgs false
set_option linter.unusedVariables false
attribute [local congr] ite_congr
set_option maxRecDepth 100000
set_option maxHeartbeats 8000000
def cx0:Cx:=⟨0,0,0,0⟩
def loX (c:Cd) (s:Rs) (o:Lo):Bool:=decide (o.mo < 0) || decide ((c.pri.length:Int)≤o.mo) || !actB s.act o.mo || decide (o.la < 0) || decide ((64:Int)≤o.la) || !lampB o.se
def loY (s:Rs) (i:Nat):Bool:=decide ((0:Int) < (i:Int)) && decide (0≤ordL (s.lamps.getD (i - 1) default) (s.lamps.getD i default))
def loBad (c:Cd) (s:Rs) (i:Nat):Bool:=loX c s (s.lamps.getD i default) || loY s i
noncomputable def stateB (c:Cd) (s:Rs):Bool:=envB c (envV s cx0) && (decide (0≤s.fau) && decide (s.fau≤2147483647)) && !(List.range s.lamps.length).any (loBad c s)
theorem stateB_no {c:Cd} {s:Rs} {i:Nat} (hi:i < s.lamps.length) (h:loBad c s i=true):stateB c s=false:=by
 rw [stateB,range_any.2 ⟨i,hi,h⟩]; simp
theorem stateB_yes {c:Cd} {s:Rs} (h:∀ i,i < s.lamps.length→loBad c s i=false):stateB c s=(envB c (envV s cx0) && (decide (0≤s.fau) && decide (s.fau≤2147483647))):=by
 have:(List.range s.lamps.length).any (loBad c s)=false:=by
  rw [Bool.eq_false_iff]
  intro hc
  obtain ⟨i,hi,h2⟩:=range_any.1 hc
  rw [h i hi] at h2; cases h2
 rw [stateB,this]; simp
theorem env_valid {c:Cd} {v:Vn} (h:envB c v=true):validC c=0:=by
 simp only [envB,Bool.and_eq_true,beq_iff_eq] at h
 exact h.1.1.1.1.1.1.1
def csQ (p:Cd × Rs):Prop:=Fit p.1
noncomputable def f40:=mkF csQ (fun p=>[cdA p.1,rsA p.2]) (fun p=>bA (stateB p.1 p.2))
theorem e40 (c:Cd) (s:Rs) (h:Fit c):f40 [cdA c,rsA s]=some (.sc (.bool (stateB c s))):=
 (mkF_eq (q:=csQ) (enc:=fun p=>[cdA p.1,rsA p.2]) (out:=fun p=>bA (stateB p.1 p.2)) (c,s) h (by
  rintro ⟨a,b⟩ h
  simp only [List.cons.injEq,and_true] at h
  rw [cdA_inj h.1,rsA_inj h.2]) :)
theorem ok40:POk Tryz.prog 40 f40:=pok_mk <| by
 rintro ⟨c,s⟩ hq
 have hq:Fit c:=hq
 have x1:=e77 c (envV s cx0) hq
 have x2:=e78 s cx0
 simp only [cdA_eq,vnA_eq,rsA_eq,cxA_eq,envV,cx0] at x1 x2
 simp only
 refine pspec_of_go (gEnv_ok (lit:=false) (pm:=fun _=>none) (.cons ok77 (.cons ok58 (.cons ok79 (.cons ok80 .nil)))) (.cons ok78 .nil) .nil .nil) rfl Tryz.func40 rfl (by decide) (by kernel_rfl) (by kernel_rfl) ?_
 simp only [Tryz.f40,initSt,List.length_cons,List.length_nil,Nat.reduceAdd,Nat.reduceSub,List.replicate]
 refine go_lenA 1 rfl fun hlen=>?_
 have hll:s.lamps.length < 9223372036854775808:=by
  have:=hlen s.zm (s.lamps.map loA) (by simp [rsA])
  simp [maxLen] at this; omega
 clear hlen
 refine vc_go ?_
 have hcx:(⟨s.zv,s.vars,s.zl,s.left,0,s.act,0,0⟩:Vn)=envV s cx0:=rfl
 cases h1:envB c ⟨s.zv,s.vars,s.zl,s.left,0,s.act,0,0⟩ with
 | false=>
  have e:stateB c s=false:=by rw [stateB,←hcx,h1]; rfl
  rw [h1] at x1
  simp (maxSteps:=10000000) +contextual -implicitDefEqProofs only [bnC,bnS,guardV,St.put,borrow,borrows,pin,pl,↓reduceIte,reduceCtorEq,Nat.reduceAdd,Nat.reduceEqDiff,bnT,Int.reduceAdd,bnH,hin,bA_eq,cdA_eq,rsA_eq,norefs,AV.noref,x1,x2,e]
  repeat' (first | exact chk_no (by kernel_rfl) | refine ⟨chk_no (by kernel_rfl),?_⟩ | refine And.intro ?_ ?_ | fail)
  all_goals done
 | true=>
 have hv:=env_valid h1
 have hlm:=valid_len hv
 rw [h1] at x1
 cases h2:decide (s.fau < 0) with
 | true=>
  have e:stateB c s=false:=by
   simp only [decide_eq_true_eq] at h2
   rw [stateB,decide_eq_false (by omega:¬ 0≤s.fau)]; simp
  simp (maxSteps:=10000000) +contextual -implicitDefEqProofs only [bnC,bnS,guardV,St.put,borrow,borrows,pin,pl,↓reduceIte,reduceCtorEq,Nat.reduceAdd,Nat.reduceEqDiff,bnT,Int.reduceAdd,bnH,hin,bA_eq,cdA_eq,rsA_eq,norefs,AV.noref,x1,x2,h2,e]
  repeat' (first | exact chk_no (by kernel_rfl) | refine ⟨chk_no (by kernel_rfl),?_⟩ | refine And.intro ?_ ?_ | fail)
  all_goals done
 | false=>
 cases h3:decide ((2147483647:Int) < s.fau) with
 | true=>
  have e:stateB c s=false:=by
   simp only [decide_eq_true_eq] at h3
   rw [stateB,decide_eq_false (by omega:¬ s.fau≤2147483647)]; simp
  simp (maxSteps:=10000000) +contextual -implicitDefEqProofs only [bnC,bnS,guardV,St.put,borrow,borrows,pin,pl,↓reduceIte,reduceCtorEq,Nat.reduceAdd,Nat.reduceEqDiff,bnT,Int.reduceAdd,bnH,hin,bA_eq,cdA_eq,rsA_eq,norefs,AV.noref,x1,x2,h2,h3,e]
  repeat' (first | exact chk_no (by kernel_rfl) | refine ⟨chk_no (by kernel_rfl),?_⟩ | refine And.intro ?_ ?_ | fail)
  all_goals done
 | false=>
 have h4:(decide (0≤s.fau) && decide (s.fau≤2147483647))=true:=by
  simp only [decide_eq_false_iff_not] at h2 h3
  simp; omega
 simp (maxSteps:=10000000) +contextual -implicitDefEqProofs only [bnC,bnS,guardV,St.put,borrow,borrows,pin,pl,↓reduceIte,reduceCtorEq,Nat.reduceAdd,Nat.reduceEqDiff,bnT,Int.reduceAdd,bnH,hin,bA_eq,cdA_eq,rsA_eq,norefs,AV.noref,x1,x2,h2,h3]
 repeat' (first | exact chk_no (by kernel_rfl) | refine ⟨chk_no (by kernel_rfl),?_⟩ | refine And.intro ?_ ?_ | fail)
 clear x1 x2 h2 h3
 refine go_loopW (σ:=Nat) (fun k cnt=>⟨mkT 0 81 [(2,.pt 0 0 0 0),(3,.pt 1 1 0 0),(24,.vw s.zm (s.lamps.map loA)),(25,.sc (.int .i64 s.lamps.length)),(26,.sc (.int .i64 k))],[⟨true,0,36,7,[cdA c],false⟩,⟨true,1,41,5,[rsA s],false⟩],cnt⟩)
  (fun k=>k≤s.lamps.length∧∀ j,j < k→loBad c s j=false) (fun k=>s.lamps.length - k) 0 ⟨by omega,by omega⟩ ?_ ?_ rfl ?_
 ·simp (maxSteps:=10000000) only [bnC,bnS,↓reduceIte,reduceCtorEq,Nat.reduceAdd,Nat.reduceEqDiff,mkT,lkT]
 ·simp (maxSteps:=10000000) only [bnC,bnS,cdA_eq,rsA_eq]
 rintro k cnt ⟨hk,hn⟩ ih
 by_cases hk':k < s.lamps.length
 rotate_left
 ·obtain rfl:k=s.lamps.length:=by omega
  have g1:decide ((s.lamps.length:Int) < (s.lamps.length:Int))=false:=by simp
  have e:=stateB_yes (c:=c) (s:=s) hn
  rw [←hcx,h1,h4] at e
  refine vc_go ?_
  simp (maxSteps:=10000000) only [mkT,lkT,Nat.reduceAdd,Nat.reduceEqDiff,↓reduceIte,Nat.zero_add]
  simp (maxSteps:=10000000) +contextual -implicitDefEqProofs only [bnC,bnS,St.put,↓reduceIte,bnH,cdA_eq,rsA_eq,g1,e]
  all_goals done
 have g1:decide ((k:Int) < (s.lamps.length:Int))=true:=by rw [decide_eq_true_eq]; omega
 have g2:decide (k < s.lamps.length)=true:=by rw [decide_eq_true_eq]; omega
 have w1:IntKind.i64.wrap ((k:Int)+1)=((k+1:Nat):Int):=by rw [wrap64 (by omega) (by omega)]; omega
 have hno:loBad c s k=true→stateB c s=false:=stateB_no hk'
 have ih:=fun hb cc=>ih (k+1) cc ⟨by omega,till_next hn hb⟩ (by omega)
 have hb:loBad c s k=(loX c s (s.lamps.getD k default) || loY s k):=rfl
 have hY:loY s k=(decide ((0:Int) < (k:Int)) && decide (0≤ordL (s.lamps.getD (k - 1) default) (s.lamps.getD k default))):=rfl
 obtain ⟨o,ho⟩:∃ o,s.lamps.getD k default=o:=⟨_,rfl⟩
 rw [ho] at hb hY
 have x3:=e79 o.se
 simp only [lmA_eq] at x3
 refine vc_go ?_
 cases c1:decide (o.mo < 0) with
 | true=>
  have e:=hno (by rw [hb]; simp [loX,c1])
  simp (maxSteps:=10000000) only [mkT,lkT,Nat.reduceAdd,Nat.reduceEqDiff,↓reduceIte,Nat.zero_add]
  simp (maxSteps:=10000000) +contextual -implicitDefEqProofs only [bnC,bnS,guardV,St.put,borrow,borrows,pin,pl,↓reduceIte,reduceCtorEq,Nat.reduceAdd,Nat.reduceEqDiff,Int.reduceLT,Nat.reduceLT,bnT,Int.reduceAdd,bnH,hin,cdA_eq,loA_eq,rsA_eq,norefs,AV.noref,g1,g2,ho,ldV_mapN,allSz_loA,c1,e]
  repeat' (first | exact chk_no (by kernel_rfl) | refine ⟨chk_no (by kernel_rfl),?_⟩ | refine And.intro ?_ ?_ | fail)
  all_goals done
 | false=>
 cases c2:decide ((c.pri.length:Int)≤o.mo) with
 | true=>
  have e:=hno (by rw [hb]; simp [loX,c2])
  simp (maxSteps:=10000000) only [mkT,lkT,Nat.reduceAdd,Nat.reduceEqDiff,↓reduceIte,Nat.zero_add]
  simp (maxSteps:=10000000) +contextual -implicitDefEqProofs only [bnC,bnS,guardV,St.put,borrow,borrows,pin,pl,↓reduceIte,reduceCtorEq,Nat.reduceAdd,Nat.reduceEqDiff,Int.reduceLT,Nat.reduceLT,bnT,Int.reduceAdd,bnH,hin,cdA_eq,loA_eq,rsA_eq,norefs,AV.noref,g1,g2,ho,ldV_mapN,allSz_loA,c1,c2,e]
  repeat' (first | exact chk_no (by kernel_rfl) | refine ⟨chk_no (by kernel_rfl),?_⟩ | refine And.intro ?_ ?_ | fail)
  all_goals done
 | false=>
 have x4:=e58 s o.mo (by simp only [decide_eq_false_iff_not] at c1 c2; omega)
 simp only [rsA_eq] at x4
 cases c3:(!actB s.act o.mo || decide (o.la < 0) || decide ((64:Int)≤o.la) || !lampB o.se) with
 | true=>
  have e:=hno (by rw [hb]; simp only [loX,c1,c2,Bool.false_or,c3,Bool.true_or])
  simp (maxSteps:=10000000) only [mkT,lkT,Nat.reduceAdd,Nat.reduceEqDiff,↓reduceIte,Nat.zero_add]
  simp (maxSteps:=10000000) +contextual -implicitDefEqProofs only [bnC,bnS,guardV,St.put,borrow,borrows,pin,pl,↓reduceIte,reduceCtorEq,Nat.reduceAdd,Nat.reduceEqDiff,Int.reduceLT,Nat.reduceLT,bnT,Int.reduceAdd,bnH,hin,cdA_eq,loA_eq,rsA_eq,norefs,AV.noref,g1,g2,ho,ldV_mapN,allSz_loA,c1,c2,x4,x3,c3,e]
  repeat' (first | exact chk_no (by kernel_rfl) | refine ⟨chk_no (by kernel_rfl),?_⟩ | refine And.intro ?_ ?_ | fail)
  all_goals done
 | false=>
 have hX:loX c s o=false:=by simp only [loX,c1,c2,Bool.false_or,c3]
 rw [hX,Bool.false_or] at hb
 by_cases hk0:0 < k
 rotate_left
 ·have c4:decide ((0:Int) < (k:Int))=false:=by rw [decide_eq_false_iff_not]; omega
  rw [c4,Bool.false_and] at hY
  rw [hY] at hb
  have ih:=ih hb
  simp (maxSteps:=10000000) only [mkT,lkT,Nat.reduceAdd,Nat.reduceEqDiff,↓reduceIte,Nat.zero_add]
  simp (maxSteps:=10000000) +contextual -implicitDefEqProofs only [bnC,bnS,guardV,St.put,borrow,borrows,pin,pl,↓reduceIte,reduceCtorEq,Nat.reduceAdd,Nat.reduceEqDiff,Int.reduceLT,Nat.reduceLT,bnT,Int.reduceAdd,bnH,hin,cdA_eq,loA_eq,rsA_eq,norefs,AV.noref,g1,g2,ho,ldV_mapN,allSz_loA,c1,c2,x4,x3,c3,c4,w1]
  repeat' (first | exact chk_no (by kernel_rfl) | refine ⟨chk_no (by kernel_rfl),?_⟩ | refine And.intro ?_ ?_ | fail)
  refine go_weak ?_ ?_ (Nat.le_refl _) (ih _)
  all_goals simp (maxSteps:=10000000) only [bnC,bnS,↓reduceIte,reduceCtorEq,Nat.reduceAdd,Nat.reduceEqDiff,mkT,lkT,cdA_eq,rsA_eq]
  all_goals done
 have c4:decide ((0:Int) < (k:Int))=true:=by rw [decide_eq_true_eq]; omega
 have w2:IntKind.i64.wrap ((k:Int) - 1)=((k - 1:Nat):Int):=by rw [wrap64 (by omega) (by omega)]; omega
 have g3:decide (((k - 1:Nat):Int) < (s.lamps.length:Int))=true:=by rw [decide_eq_true_eq]; omega
 have g4:decide (k - 1 < s.lamps.length)=true:=by rw [decide_eq_true_eq]; omega
 obtain ⟨o',ho'⟩:∃ o',s.lamps.getD (k - 1) default=o':=⟨_,rfl⟩
 rw [ho',c4,Bool.true_and] at hY
 have x5:=e80 o' o
 simp only [loA_eq] at x5
 cases c5:decide (0≤ordL o' o) with
 | true=>
  rw [c5] at hY
  rw [hY] at hb
  have e:=hno hb
  simp (maxSteps:=10000000) only [mkT,lkT,Nat.reduceAdd,Nat.reduceEqDiff,↓reduceIte,Nat.zero_add]
  simp (maxSteps:=10000000) +contextual -implicitDefEqProofs only [bnC,bnS,guardV,St.put,borrow,borrows,pin,pl,↓reduceIte,reduceCtorEq,Nat.reduceAdd,Nat.reduceEqDiff,Int.reduceLT,Nat.reduceLT,bnT,Int.reduceAdd,bnH,hin,cdA_eq,loA_eq,rsA_eq,norefs,AV.noref,g1,g2,g3,g4,ho,ho',ldV_mapN,allSz_loA,c1,c2,x4,x3,c3,c4,x5,c5,w2,e]
  repeat' (first | exact chk_no (by kernel_rfl) | refine ⟨chk_no (by kernel_rfl),?_⟩ | refine And.intro ?_ ?_ | fail)
  all_goals done
 | false=>
  rw [c5] at hY
  rw [hY] at hb
  have ih:=ih hb
  simp (maxSteps:=10000000) only [mkT,lkT,Nat.reduceAdd,Nat.reduceEqDiff,↓reduceIte,Nat.zero_add]
  simp (maxSteps:=10000000) +contextual -implicitDefEqProofs only [bnC,bnS,guardV,St.put,borrow,borrows,pin,pl,↓reduceIte,reduceCtorEq,Nat.reduceAdd,Nat.reduceEqDiff,Int.reduceLT,Nat.reduceLT,bnT,Int.reduceAdd,bnH,hin,cdA_eq,loA_eq,rsA_eq,norefs,AV.noref,g1,g2,g3,g4,ho,ho',ldV_mapN,allSz_loA,c1,c2,x4,x3,c3,c4,x5,c5,w1,w2]
  repeat' (first | exact chk_no (by kernel_rfl) | refine ⟨chk_no (by kernel_rfl),?_⟩ | refine And.intro ?_ ?_ | fail)
  refine go_weak ?_ ?_ (Nat.le_refl _) (ih _)
  all_goals simp (maxSteps:=10000000) only [bnC,bnS,↓reduceIte,reduceCtorEq,Nat.reduceAdd,Nat.reduceEqDiff,mkT,lkT,cdA_eq,rsA_eq]
  all_goals done
end Go.Proofs.YtdjpkhjaibdogaaGreat
