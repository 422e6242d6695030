/-
  Joined texts: EY.
  Conditions: none.
-/
import Derived.Test.YtdjpkhjaibdogaaGreatL53
import Derived.Test.YtdjpkhjaibdogaaGreatL54
namespace Go.Proofs.YtdjpkhjaibdogaaGreat
open Go Go.SX
set_option linter.unusedSimpArgs false
set_option linter.unusedVariables false
attribute [local congr] ite_congr
set_option maxRecDepth 100000
set_option maxHeartbeats 8000000
def brkC (p:(Bool × List Nat) × (Bool × List Nat)):Cd:=brL p.2.2 3 0 (madeC p.1)
theorem brL_ok {m:List Nat} (hm:∀ x ∈ m,x < 256):∀ (n i j:Nat) {c:Cd},BrOk c j→∃ j',j'≤j+n∧BrOk (brL m n i c) j'
 | 0,i,j,c,h=>⟨j,Nat.le_refl _,h⟩
 | n+1,i,j,c,h=>by
  have h1:=brk_ok hm (i:=i) h
  rw [brL]
  split
  ·split
   ·exact ⟨j+1,by omega,h1⟩
   ·obtain ⟨j',g1,g2⟩:=brL_ok hm n (i+3) (j+1) h1
    exact ⟨j',by omega,g2⟩
  ·exact ⟨j,by omega,h⟩
theorem brk_fit (p:(Bool × List Nat) × (Bool × List Nat)) (h:u8Q p.1) (h':u8Q p.2):Fit (brkC p)∧(brkC p).vars=[0,5,-3]:=by
 obtain ⟨j,h1,h2⟩:=brL_ok (m:=p.2.2) h' 3 0 0 (brok_zero p.1 h).1
 have:=h2.ins
 have:=h2.ens
 have:=h2.pri
 have:=h2.strs
 have:=h2.tim
 have:=h2.evs
 have hv:=h2.vars
 refine ⟨⟨by unfold brkC; omega,by unfold brkC; omega,by unfold brkC; omega,by unfold brkC; omega,?_,by unfold brkC; omega,by unfold brkC; omega,fun b hb=>?_⟩,hv⟩
 ·unfold brkC; rw [hv]; simp
 ·have:=h2.str b hb; omega
noncomputable def f37:=mkF (fun p:(Bool × List Nat) × (Bool × List Nat)=>u8Q p.1∧u8Q p.2) (fun p=>[.vw p.1.1 (p.1.2.map uA),.vw p.2.1 (p.2.2.map uA)]) (fun p=>cdA (brkC p))
theorem e37 (z:Bool) (l:List Nat) (h:∀ x ∈ l,x < 256) (zm:Bool) (m:List Nat) (hm:∀ x ∈ m,x < 256):f37 [.vw z (l.map uA),.vw zm (m.map uA)]=some (cdA (brkC ((z,l),(zm,m)))):=
 (mkF_eq (q:=fun p:(Bool × List Nat) × (Bool × List Nat)=>u8Q p.1∧u8Q p.2) (enc:=fun p=>[.vw p.1.1 (p.1.2.map uA),.vw p.2.1 (p.2.2.map uA)]) (out:=fun p=>cdA (brkC p)) ((z,l),(zm,m)) ⟨h,hm⟩ (by
  rintro ⟨⟨z',l'⟩,⟨zm',m'⟩⟩ h
  simp only [List.cons.injEq,AV.vw.injEq,map_uA,and_true] at h
  obtain ⟨⟨rfl,rfl⟩,rfl,rfl⟩:=h
  rfl) :)
theorem ok37:FOk Tryz.prog 37 f37:=fok_mk <| by
 rintro ⟨⟨z,l⟩,⟨zm,m⟩⟩ ⟨h1,h2⟩
 exact broken_spec z l zm m h1 h2
theorem law12_spec (hs13:PSpec Tryz.prog 13 [] (.sc (.bool true))) (z:Bool) (l:List Nat) (hl8:∀ x ∈ l,x < 256) (zm:Bool) (m:List Nat) (hm8:∀ x ∈ m,x < 256) (raw:Rs):
  PSpec Tryz.prog 12 [.vw z (l.map uA),.vw zm (m.map uA),rsA raw] (.sc (.bool true)):=by
 obtain ⟨F13,k13,E13⟩:=pok_at hs13
 have E14:=e14 z l hl8
 have E37:=e37 z l hl8 zm m hm8
 have h0:=madeC_fit (z,l) hl8
 have h1:=brk_fit ((z,l),(zm,m)) hl8 hm8
 obtain ⟨C,hC⟩:∃ C:Nat→Cd,C=fun i=>if i=1 then brkC ((z,l),(zm,m)) else madeC (z,l):=⟨_,rfl⟩
 have hC0:madeC (z,l)=C 0:=by rw [hC]; rfl
 have hC1:brkC ((z,l),(zm,m))=C 1:=by rw [hC]; rfl
 have hCf:∀ i,Fit (C i)∧(C i).vars=[0,5,-3]:=fun i=>by rw [hC]; simp only; split <;> assumption
 rw [hC0] at E14 h0
 rw [hC1] at E37 h1
 clear hC hC0 hC1 h0 h1
 simp only [rsA_eq]
 refine pspec_of_go (gEnv_ok (lit:=false) (pm:=fun _=>none) (.cons k13 (.cons ok39 (.cons ok26 (.cons ok40 (.cons ok41 .nil))))) (.cons ok15 (.cons ok33 (.cons ok38 .nil))) (.cons ok14 (.cons ok37 (.cons ok20 (.cons ok21 .nil)))) .nil) rfl Tryz.func12 rfl (by decide) (by kernel_rfl) (by kernel_rfl) ?_
 simp only [Tryz.f12,initSt,List.length_cons,List.length_nil,Nat.reduceAdd,Nat.reduceSub,List.replicate]
 refine vc_go ?_
 simp (maxSteps:=10000000) +contextual -implicitDefEqProofs only [bnC,bnS,St.put,Nat.reduceAdd,Int.reduceAdd,bnH]
 refine go_loopW (σ:=Nat) (fun i cnt=>⟨mkT 0 114 [(0,.vw z (l.map uA)),(1,.vw zm (m.map uA)),(5,.pt 0 0 0 0),(6,.sc (.bool false)),(7,.sc (.int .i64 (i:Int)))],[⟨true,0,41,5,[rsA raw],false⟩],cnt⟩)
  (fun i=>i≤2) (fun i=>2 - i) 0 (Nat.zero_le _) ?_ ?_ rfl ?_
 ·simp (maxSteps:=10000000) only [bnC,bnS,↓reduceIte,reduceCtorEq,Nat.reduceAdd,Nat.reduceEqDiff,mkT,lkT]
 ·simp (maxSteps:=10000000) only [bnC,bnS,rsA_eq]
 rintro i cnt hi ih
 have hi:i≤2:=hi
 by_cases hi':i < 2
 rotate_left
 ·obtain rfl:i=2:=by omega
  have h1:decide (((2:Nat):Int) < 2)=false:=by decide
  clear ih
  refine vc_go ?_
  simp (maxSteps:=10000000) only [mkT,lkT,Nat.reduceAdd,Nat.reduceEqDiff,↓reduceIte,Nat.zero_add]
  simp (maxSteps:=10000000) +contextual -implicitDefEqProofs only [bnC,bnS,St.put,borrows,pin,pl,↓reduceIte,Int.reduceLT,Nat.reduceLT,bnH,rsA_eq,E13]
  all_goals done
 have h1:decide ((i:Int) < 2)=true:=by rw [decide_eq_true_eq]; omega
 have h2:decide (i < 2)=true:=by rw [decide_eq_true_eq]; omega
 have w1:IntKind.i64.wrap ((i:Int)+1)=((i+1:Nat):Int):=by rw [wrap64 (by omega) (by omega)]; omega
 have ih:=fun c=>ih (i+1) c (show i+1≤2 by omega) (show 2 - (i+1) < 2 - i by omega)
 have key:∀ (c:Cd),c=C i→True:=fun _ _=>trivial
 obtain ⟨hq,hv⟩:=hCf i
 have hne:(C i).vars≠[]:=by rw [hv]; simp
 have E20:=e20 (C i) hq
 have E21:=e21 (C i) hq hne
 have E33:=e33 (C i) hq
 have E15:=e15 (C i) hq zm m hm8
 have E40:=e40 (C i) (stateC (C i) m) hq
 have E40r:=e40 (C i) raw hq
 have E39:=e39 (newS (C i)).1 (newS (C i)).1
 have E39a:=e39 (stateC (C i) m) (stateC (C i) m)
 have E39b:=e39 (stateC (C i) m) raw
 have hsame:∀ s,sameR s s=true:=fun s=>by simp [sameR]
 rw [hsame] at E39 E39a
 have hn3:=norefs_nI (ordO (C i))
 have hol:(ordO (C i)).length≤100000:=by
  by_cases hvv:validC (C i)=0
  ·rw [ordO_ok hvv,ordC_len hvv]; exact hq.pri
  ·rw [ordO_no hvv]; simp
 obtain ⟨b,hb⟩:∃ b,((i:Int) == 1)=b:=⟨_,rfl⟩
 have hA:(b=false∧C 0=C i)∨(b=true∧C 1=C i):=by
  have hi2:i=0∨i=1:=by omega
  rcases hi2 with rfl | rfl
  ·exact .inl ⟨by rw [←hb]; decide,rfl⟩
  ·exact .inr ⟨by rw [←hb]; decide,rfl⟩
 clear hCf key
 rcases hA with ⟨rfl,hA⟩ | ⟨rfl,hA⟩
 ·rw [hA] at E14
  clear E37 hA
  generalize C i=c at *
  refine vc_go ?_
  simp (maxSteps:=10000000) only [mkT,lkT,Nat.reduceAdd,Nat.reduceEqDiff,↓reduceIte,Nat.zero_add]
  simp only [cdA_eq,rsA_eq] at E14 E20 E21 E33 E15 E40 E40r E39 E39a E39b
  simp (maxSteps:=10000000) +contextual -implicitDefEqProofs only [bnC,bnS,guardV,St.put,borrow,borrows,pin,pl,↓reduceIte,Nat.reduceAdd,Nat.reduceEqDiff,Int.reduceLT,Nat.reduceLT,bnT,Int.reduceAdd,bnH,hin,rsA_eq,norefs,AV.noref,h1,hb,E14,E20,E21,E33,E39]
  generalize cnt+1+1+1=cnt3
  refine go_loopW (σ:=Nat) (fun k cnt'=>⟨mkT 0 114 [(0,.vw z (l.map uA)),(1,.vw zm (m.map uA)),(5,.pt 0 0 0 0),(6,.sc (.bool false)),(7,.sc (.int .i64 (i:Int))),(8,.pt 1 cnt 0 0),(13,.vw false ((ordO c).map nI)),(14,.vw false ((ordO c).map nI)),(15,.sc (.int .i64 (k:Int)))],
    [⟨true,0,41,5,[rsA raw],false⟩,⟨true,cnt,36,7,[cdA c],false⟩],cnt'⟩)
   (fun k=>k≤(ordO c).length) (fun k=>(ordO c).length - k) 0 (Nat.zero_le _) ?_ ?_ rfl ?_
  ·simp (maxSteps:=10000000) only [bnC,bnS,↓reduceIte,reduceCtorEq,Nat.reduceAdd,Nat.reduceEqDiff,mkT,lkT]
  ·simp (maxSteps:=10000000) only [bnC,bnS,rsA_eq,cdA_eq]
  rintro k cnt' hk ihk
  have hk:k≤(ordO c).length:=hk
  by_cases hk':k < (ordO c).length
  ·have k1:decide ((k:Int) < ((ordO c).length:Int))=true:=by rw [decide_eq_true_eq]; omega
   have k2:decide (k < (ordO c).length)=true:=by rw [decide_eq_true_eq]; omega
   have w2:IntKind.i64.wrap ((k:Int)+1)=((k+1:Nat):Int):=by rw [wrap64 (by omega) (by omega)]; omega
   have ihk:=fun c'=>ihk (k+1) c' (show k+1≤(ordO c).length by omega) (show (ordO c).length - (k+1) < (ordO c).length - k by omega)
   refine vc_go ?_
   simp (maxSteps:=10000000) only [mkT,lkT,Nat.reduceAdd,Nat.reduceEqDiff,↓reduceIte,Nat.zero_add]
   simp (maxSteps:=10000000) +contextual -implicitDefEqProofs only [bnC,bnS,St.put,↓reduceIte,Nat.reduceAdd,bnT,Int.reduceAdd,bnH,cdA_eq,rsA_eq,AV.noref,k1,k2,w2,allSz_nI,get_mapN,nI_eq]
   refine go_weak ?_ ?_ (Nat.le_refl _) (ihk _)
   all_goals simp (maxSteps:=10000000) only [bnC,bnS,↓reduceIte,reduceCtorEq,Nat.reduceAdd,Nat.reduceEqDiff,mkT,lkT,rsA_eq,cdA_eq]
   all_goals done
  obtain rfl:k=(ordO c).length:=by omega
  have k1:decide (((ordO c).length:Int) < ((ordO c).length:Int))=false:=by simp
  clear ihk
  refine vc_go ?_
  simp (maxSteps:=10000000) only [mkT,lkT,Nat.reduceAdd,Nat.reduceEqDiff,↓reduceIte,Nat.zero_add]
  simp (maxSteps:=10000000) +contextual -implicitDefEqProofs only [bnC,bnS,guardV,St.put,borrow,borrows,pin,pl,↓reduceIte,Nat.reduceAdd,Nat.reduceEqDiff,Int.reduceLT,Nat.reduceLT,bnT,Int.reduceAdd,bnH,hin,cdA_eq,rsA_eq,norefs,AV.noref,k1,w1,E15,E40,E40r,E39a,E39b]
  refine go_weak ?_ ?_ (Nat.le_refl _) (ih _)
  all_goals simp (maxSteps:=10000000) only [bnC,bnS,↓reduceIte,reduceCtorEq,Nat.reduceAdd,Nat.reduceEqDiff,mkT,lkT,rsA_eq]
  all_goals done
 ·rw [hA] at E37
  clear hA
  generalize C 0=c0 at *
  generalize C i=c at *
  refine vc_go ?_
  simp (maxSteps:=10000000) only [mkT,lkT,Nat.reduceAdd,Nat.reduceEqDiff,↓reduceIte,Nat.zero_add]
  simp only [cdA_eq,rsA_eq] at E14 E37 E20 E21 E33 E15 E40 E40r E39 E39a E39b
  simp (maxSteps:=10000000) +contextual -implicitDefEqProofs only [bnC,bnS,guardV,St.put,borrow,borrows,pin,pl,↓reduceIte,Nat.reduceAdd,Nat.reduceEqDiff,Int.reduceLT,Nat.reduceLT,bnT,Int.reduceAdd,bnH,hin,rsA_eq,norefs,AV.noref,h1,hb,E14,E37,E20,E21,E33,E39]
  generalize cnt+1+1+1=cnt3
  refine go_loopW (σ:=Nat) (fun k cnt'=>⟨mkT 0 114 [(0,.vw z (l.map uA)),(1,.vw zm (m.map uA)),(5,.pt 0 0 0 0),(6,.sc (.bool false)),(7,.sc (.int .i64 (i:Int))),(8,.pt 1 cnt 0 0),(13,.vw false ((ordO c).map nI)),(14,.vw false ((ordO c).map nI)),(15,.sc (.int .i64 (k:Int)))],
    [⟨true,0,41,5,[rsA raw],false⟩,⟨true,cnt,36,7,[cdA c],false⟩],cnt'⟩)
   (fun k=>k≤(ordO c).length) (fun k=>(ordO c).length - k) 0 (Nat.zero_le _) ?_ ?_ rfl ?_
  ·simp (maxSteps:=10000000) only [bnC,bnS,↓reduceIte,reduceCtorEq,Nat.reduceAdd,Nat.reduceEqDiff,mkT,lkT]
  ·simp (maxSteps:=10000000) only [bnC,bnS,rsA_eq,cdA_eq]
  rintro k cnt' hk ihk
  have hk:k≤(ordO c).length:=hk
  by_cases hk':k < (ordO c).length
  ·have k1:decide ((k:Int) < ((ordO c).length:Int))=true:=by rw [decide_eq_true_eq]; omega
   have k2:decide (k < (ordO c).length)=true:=by rw [decide_eq_true_eq]; omega
   have w2:IntKind.i64.wrap ((k:Int)+1)=((k+1:Nat):Int):=by rw [wrap64 (by omega) (by omega)]; omega
   have ihk:=fun c'=>ihk (k+1) c' (show k+1≤(ordO c).length by omega) (show (ordO c).length - (k+1) < (ordO c).length - k by omega)
   refine vc_go ?_
   simp (maxSteps:=10000000) only [mkT,lkT,Nat.reduceAdd,Nat.reduceEqDiff,↓reduceIte,Nat.zero_add]
   simp (maxSteps:=10000000) +contextual -implicitDefEqProofs only [bnC,bnS,St.put,↓reduceIte,Nat.reduceAdd,bnT,Int.reduceAdd,bnH,cdA_eq,rsA_eq,AV.noref,k1,k2,w2,allSz_nI,get_mapN,nI_eq]
   refine go_weak ?_ ?_ (Nat.le_refl _) (ihk _)
   all_goals simp (maxSteps:=10000000) only [bnC,bnS,↓reduceIte,reduceCtorEq,Nat.reduceAdd,Nat.reduceEqDiff,mkT,lkT,rsA_eq,cdA_eq]
   all_goals done
  obtain rfl:k=(ordO c).length:=by omega
  have k1:decide (((ordO c).length:Int) < ((ordO c).length:Int))=false:=by simp
  clear ihk
  refine vc_go ?_
  simp (maxSteps:=10000000) only [mkT,lkT,Nat.reduceAdd,Nat.reduceEqDiff,↓reduceIte,Nat.zero_add]
  simp (maxSteps:=10000000) +contextual -implicitDefEqProofs only [bnC,bnS,guardV,St.put,borrow,borrows,pin,pl,↓reduceIte,Nat.reduceAdd,Nat.reduceEqDiff,Int.reduceLT,Nat.reduceLT,bnT,Int.reduceAdd,bnH,hin,cdA_eq,rsA_eq,norefs,AV.noref,k1,w1,E15,E40,E40r,E39a,E39b]
  refine go_weak ?_ ?_ (Nat.le_refl _) (ih _)
  all_goals simp (maxSteps:=10000000) only [bnC,bnS,↓reduceIte,reduceCtorEq,Nat.reduceAdd,Nat.reduceEqDiff,mkT,lkT,rsA_eq]
  all_goals done
theorem ok12:POk Tryz.prog 12 (mkF (fun p:(Bool × List Nat) × (Bool × List Nat) × Rs=>u8Q p.1∧u8Q p.2.1) (fun p=>[.vw p.1.1 (p.1.2.map uA),.vw p.2.1.1 (p.2.1.2.map uA),rsA p.2.2]) (fun _=>.sc (.bool true))):=pok_mk <| by
 rintro ⟨⟨z,l⟩,⟨zm,m⟩,raw⟩ ⟨h1,h2⟩
 exact law12_spec sane13 z l h1 zm m h2 raw
end Go.Proofs.YtdjpkhjaibdogaaGreat
