/-
  Joined texts: BN, CA, CB.
  Conditions: none.
-/
import Derived.Test.YtdjpkhjaibdogaaGreatL33
import Derived.Test.YtdjpkhjaibdogaaGreatL21
namespace Go.Proofs.YtdjpkhjaibdogaaGreat
open Go Go.SX
set_option linter.unusedSimpArgs false
set_option linter.unusedVariables false
attribute [local congr] ite_congr
set_option maxRecDepth 100000
set_option maxHeartbeats 8000000
noncomputable def f53:=mkF Fit (fun c=>[cdA c]) (fun c=>kA .i64 (validC c))
theorem e53 (c:Cd) (h:Fit c):f53 [cdA c]=some (.sc (.int .i64 (validC c))):=
 (mkF_eq (q:=Fit) (enc:=fun c=>[cdA c]) (out:=fun c=>kA .i64 (validC c)) c h (by
  intro b h
  simp only [List.cons.injEq,and_true] at h
  rw [cdA_inj h]) :)
theorem ok53:POk Tryz.prog 53 f53:=pok_mk <| by
 rintro c hq
 obtain ⟨F98,k98,e98⟩:=vok_atP (verify_spec c hq)
 simp only [cdA_eq,kA_eq] at e98
 refine pspec_of_go (gEnv_ok (lit:=false) (pm:=fun _=>none) .nil (.cons k98 .nil) .nil .nil) rfl Tryz.func53 rfl (by decide) (by kernel_rfl) (by kernel_rfl) ?_
 simp only [Tryz.f53,initSt,List.length_cons,List.length_nil,Nat.reduceAdd,Nat.reduceSub,List.replicate]
 refine vc_go ?_
 simp (maxSteps:=10000000) +contextual -implicitDefEqProofs only [bnC,bnS,St.put,pin,pl,↓reduceIte,Nat.reduceAdd,bnT,Int.reduceAdd,bnH,hin,kA_eq,cdA_eq,norefs,AV.noref,e98]
 all_goals done
theorem limC_eq (c:Cd):(decide ((4000:Int) < c.ins.length) || decide ((200:Int) < c.strs.length) || decide ((512:Int) < c.ens.length) || decide ((16:Int) < c.pri.length) || decide ((128:Int) < c.vars.length) || !inI c.tim 0 128 || !inI c.evs 0 128)=!limC c:=by
 have h:∀ a b:Int,decide (a < b)=!decide (b≤a):=fun a b=>by
  by_cases c:a < b
  ·rw [decide_eq_true c,decide_eq_false (by omega)]; rfl
  ·rw [decide_eq_false c,decide_eq_true (by omega)]; rfl
 rw [limC]
 simp only [h,Bool.not_and]
theorem ok55:POk Tryz.prog 55 f53:=pok_mk <| by
 rintro c hq
 have hens:=hq.ens
 have x2:=e143 c hq
 have x3:=e144 c hq
 simp only [cdA_eq] at x2 x3
 have x4:=fun a b=>e102 a b
 simp only [enA_eq] at x4
 have hlm:=limC_eq c
 by_cases ht:targC c=true
 rotate_left
 ·rw [Bool.not_eq_true] at ht
  refine pspec_of_go (fEnv_ok ((.cons ok99 (.cons ok100 (.cons ok101 .nil)))) (.nil)) rfl Tryz.func55 rfl (by decide) (by kernel_rfl) (by kernel_rfl) ?_
  simp only [Tryz.f55,initSt,List.length_cons,List.length_nil,Nat.reduceAdd,Nat.reduceSub,List.replicate]
  refine vc_go ?_
  rw [ht] at x3
  cases h1:limC c with
  | false=>
   rw [h1] at hlm
   simp (maxSteps:=10000000) +contextual -implicitDefEqProofs only [bnC,bnS,guardV,St.put,borrow,borrows,pin,pl,↓reduceIte,reduceCtorEq,Nat.reduceAdd,bnT,Int.reduceAdd,bnH,kA_eq,cdA_eq,e99,hlm,validC,h1]
   all_goals done
  | true=>
  rw [h1] at hlm
  cases h2:partC c with
  | false=>
   rw [h2] at x2
   simp (maxSteps:=10000000) +contextual -implicitDefEqProofs only [bnC,bnS,guardV,St.put,borrow,borrows,pin,pl,↓reduceIte,reduceCtorEq,Nat.reduceAdd,Nat.reduceEqDiff,bnT,Int.reduceAdd,bnH,kA_eq,cdA_eq,e99,hlm,x2,validC,h1,h2]
   all_goals done
  | true=>
  rw [h2] at x2
  simp (maxSteps:=10000000) +contextual -implicitDefEqProofs only [bnC,bnS,guardV,St.put,borrow,borrows,pin,pl,↓reduceIte,reduceCtorEq,Nat.reduceAdd,Nat.reduceEqDiff,bnT,Int.reduceAdd,bnH,kA_eq,cdA_eq,e99,hlm,x2,x3,validC,h1,h2,ht]
  all_goals done
 obtain ⟨F103,k103,e103⟩:=vok_atP (refheights_spec c hq (lead_of ht))
 simp only [cdA_eq,bA_eq] at e103
 refine pspec_of_go (gEnv_ok (lit:=false) (pm:=fun _=>none) (.cons ok99 (.cons ok100 (.cons ok101 (.cons ok102 .nil)))) (.cons k103 .nil) .nil .nil) rfl Tryz.func55 rfl (by decide) (by kernel_rfl) (by kernel_rfl) ?_
 simp only [Tryz.f55,initSt,List.length_cons,List.length_nil,Nat.reduceAdd,Nat.reduceSub,List.replicate]
 refine vc_go ?_
 rw [ht] at x3
 cases h1:limC c with
 | false=>
  rw [h1] at hlm
  simp (maxSteps:=10000000) +contextual -implicitDefEqProofs only [bnC,bnS,guardV,St.put,borrow,borrows,pin,pl,↓reduceIte,reduceCtorEq,Nat.reduceAdd,bnT,Int.reduceAdd,bnH,kA_eq,cdA_eq,e99,hlm,validC,h1]
  all_goals done
 | true=>
 rw [h1] at hlm
 cases h2:partC c with
 | false=>
  rw [h2] at x2
  simp (maxSteps:=10000000) +contextual -implicitDefEqProofs only [bnC,bnS,guardV,St.put,borrow,borrows,pin,pl,↓reduceIte,reduceCtorEq,Nat.reduceAdd,Nat.reduceEqDiff,bnT,Int.reduceAdd,bnH,kA_eq,cdA_eq,e99,hlm,x2,validC,h1,h2]
  all_goals done
 | true=>
 rw [h2] at x2
 simp (maxSteps:=10000000) +contextual -implicitDefEqProofs only [bnC,bnS,guardV,St.put,borrow,borrows,pin,pl,↓reduceIte,reduceCtorEq,Nat.reduceAdd,Nat.reduceEqDiff,bnT,Int.reduceAdd,bnH,kA_eq,cdA_eq,e99,hlm,x2,x3]
 refine go_loopW (σ:=Nat) (fun k cnt=>⟨mkT 0 79 [(1,.pt 0 0 0 0),(3,.sc (.int .i64 ((k+1:Nat):Int)))],[⟨true,0,36,7,[cdA c],false⟩],cnt⟩)
  (fun k=>(k+1≤c.ens.length∨k=0)∧∀ j,j < k→lessN c j=true) (fun k=>c.ens.length - k) 0 ⟨by omega,by omega⟩ ?_ ?_ rfl ?_
 ·simp (maxSteps:=10000000) only [bnC,bnS,↓reduceIte,reduceCtorEq,Nat.reduceAdd,Nat.reduceEqDiff,mkT,lkT]
 ·simp (maxSteps:=10000000) only [bnC,bnS,cdA_eq]
 rintro k cnt ⟨hk,hn⟩ ih
 by_cases hk':k+1 < c.ens.length
 rotate_left
 ·have h3:decide (((k+1:Nat):Int) < (c.ens.length:Int))=false:=by rw [decide_eq_false_iff_not]; omega
  have e:=sortC_yes (c:=c) (fun j hj=>hn j (by omega))
  refine vc_go ?_
  cases h4:heiC c with
  | false=>
   rw [h4] at e103
   simp (maxSteps:=10000000) only [mkT,lkT,Nat.reduceAdd,Nat.reduceEqDiff,↓reduceIte,Nat.zero_add]
   simp (maxSteps:=10000000) +contextual -implicitDefEqProofs only [bnC,bnS,St.put,pin,pl,↓reduceIte,reduceCtorEq,Nat.reduceAdd,Nat.reduceEqDiff,bnT,Int.reduceAdd,bnH,hin,cdA_eq,norefs,AV.noref,h3,e103,validC,h1,h2,ht,e,h4]
   all_goals done
  | true=>
   rw [h4] at e103
   simp (maxSteps:=10000000) only [mkT,lkT,Nat.reduceAdd,Nat.reduceEqDiff,↓reduceIte,Nat.zero_add]
   simp (maxSteps:=10000000) +contextual -implicitDefEqProofs only [bnC,bnS,St.put,pin,pl,↓reduceIte,reduceCtorEq,Nat.reduceAdd,Nat.reduceEqDiff,bnT,Int.reduceAdd,bnH,hin,cdA_eq,norefs,AV.noref,h3,e103,validC,h1,h2,ht,e,h4]
   all_goals done
 have h3:decide (((k+1:Nat):Int) < (c.ens.length:Int))=true:=by rw [decide_eq_true_eq]; omega
 have h4:decide (k+1 < c.ens.length)=true:=by rw [decide_eq_true_eq]; omega
 have h5:decide (k < c.ens.length)=true:=by rw [decide_eq_true_eq]; omega
 have h6:decide ((k:Int) < (c.ens.length:Int))=true:=by rw [decide_eq_true_eq]; omega
 have w1:IntKind.i64.wrap (((k+1:Nat):Int)+1)=((k+1+1:Nat):Int):=by rw [wrap64 (by omega) (by omega)]; omega
 have w2:IntKind.i64.wrap (((k+1:Nat):Int) - 1)=(k:Int):=by rw [wrap64 (by omega) (by omega)]; omega
 have x4:=x4 (c.ens.getD k default) (c.ens.getD (k+1) default)
 have hle:lessE (c.ens.getD k default) (c.ens.getD (k+1) default)=lessN c k:=rfl
 rw [hle] at x4
 obtain ⟨a,ha⟩:∃ a,c.ens.getD k default=a:=⟨_,rfl⟩
 obtain ⟨b,hb⟩:∃ b,c.ens.getD (k+1) default=b:=⟨_,rfl⟩
 rw [ha,hb] at x4
 clear hle
 refine vc_go ?_
 cases h7:lessN c k with
 | false=>
  rw [h7] at x4
  have e:=sortC_no hk' h7
  simp (maxSteps:=10000000) only [mkT,lkT,Nat.reduceAdd,Nat.reduceEqDiff,↓reduceIte,Nat.zero_add]
  simp (maxSteps:=10000000) +contextual -implicitDefEqProofs only [bnC,bnS,St.put,borrow,borrows,pin,pl,↓reduceIte,reduceCtorEq,Nat.reduceAdd,Nat.reduceEqDiff,bnT,Int.reduceAdd,bnH,hin,enA_eq,cdA_eq,norefs,AV.noref,h3,h4,h5,h6,w2,ha,hb,x4,ldV_mapN,allSz_enA,validC,h1,h2,ht,e]
  repeat' (first | exact chk_no (by kernel_rfl) | refine ⟨chk_no (by kernel_rfl),?_⟩ | refine And.intro ?_ ?_ | fail)
  all_goals done
 | true=>
  rw [h7] at x4
  have ih:=fun c=>ih (k+1) c ⟨by omega,till_next hn h7⟩ (by omega)
  simp (maxSteps:=10000000) only [mkT,lkT,Nat.reduceAdd,Nat.reduceEqDiff,↓reduceIte,Nat.zero_add]
  simp (maxSteps:=10000000) +contextual -implicitDefEqProofs only [bnC,bnS,St.put,borrow,borrows,pin,pl,↓reduceIte,reduceCtorEq,Nat.reduceAdd,Nat.reduceEqDiff,bnT,Int.reduceAdd,bnH,hin,enA_eq,cdA_eq,norefs,AV.noref,h3,h4,h5,h6,w1,w2,ha,hb,x4,ldV_mapN,allSz_enA]
  repeat' (first | exact chk_no (by kernel_rfl) | refine ⟨chk_no (by kernel_rfl),?_⟩ | refine And.intro ?_ ?_ | fail)
  refine go_weak ?_ ?_ (Nat.le_refl _) (ih _)
  all_goals simp (maxSteps:=10000000) only [bnC,bnS,↓reduceIte,reduceCtorEq,Nat.reduceAdd,Nat.reduceEqDiff,mkT,lkT,cdA_eq]
  all_goals done
end Go.Proofs.YtdjpkhjaibdogaaGreat

namespace Go.Proofs.YtdjpkhjaibdogaaGreat
open Go Go.SX
set_option linter.unusedSimpArgs false
set_option linter.unusedVariables false
attribute [local congr] ite_congr
set_option maxRecDepth 100000
set_option maxHeartbeats 8000000
structure Lm where
 lv:Int
 on:Int
 off:Int
 si:Int
 deriving DecidableEq
instance:Inhabited Lm:=⟨⟨0,0,0,0⟩⟩
def lmA (x:Lm):AV:=.ag [kA .i64 x.lv,kA .i64 x.on,kA .i64 x.off,kA .i64 x.si]
theorem lmA_eq (x:Lm):lmA x=.ag [.sc (.int .i64 x.lv),.sc (.int .i64 x.on),.sc (.int .i64 x.off),.sc (.int .i64 x.si)]:=rfl
theorem lmA_inj {x y:Lm} (h:lmA x=lmA y):x=y:=by
 cases x; cases y; simp_all [lmA,kA]
structure Lo where
 mo:Int
 la:Int
 se:Lm
 deriving DecidableEq
instance:Inhabited Lo:=⟨⟨0,0,default⟩⟩
def loA (x:Lo):AV:=.ag [kA .i64 x.mo,kA .i64 x.la,kA .i64 x.se.lv,kA .i64 x.se.on,kA .i64 x.se.off,kA .i64 x.se.si]
theorem loA_eq (x:Lo):loA x=.ag [.sc (.int .i64 x.mo),.sc (.int .i64 x.la),.sc (.int .i64 x.se.lv),.sc (.int .i64 x.se.on),.sc (.int .i64 x.se.off),.sc (.int .i64 x.se.si)]:=rfl
theorem loA_inj {x y:Lo} (h:loA x=loA y):x=y:=by
 obtain ⟨a,b,⟨c,d,e,f⟩⟩:=x; obtain ⟨a',b',⟨c',d',e',f'⟩⟩:=y; simp_all [loA,kA]
theorem map_loA {l m:List Lo}:l.map loA=m.map loA↔l=m:=⟨map_inj (fun _ _=>loA_inj),fun h=>by rw [h]⟩
theorem allSz_loA (l:List Lo):allSz 6 (l.map loA)=true:=allSz_map (f:=loA) (fun _=>rfl) l
structure Rs where
 zv:Bool
 vars:List Int
 zl:Bool
 left:List Int
 act:Int
 zm:Bool
 lamps:List Lo
 fau:Int
instance:Inhabited Rs:=⟨⟨true,[],true,[],0,true,[],0⟩⟩
def rsA (s:Rs):AV:=.ag [.vw s.zv (s.vars.map (kA .i64)),.vw s.zl (s.left.map (kA .i64)),.sc (.int .u32 s.act),.vw s.zm (s.lamps.map loA),kA .i64 s.fau]
theorem rsA_eq (s:Rs):rsA s=.ag [.vw s.zv (s.vars.map (kA .i64)),.vw s.zl (s.left.map (kA .i64)),.sc (.int .u32 s.act),.vw s.zm (s.lamps.map loA),.sc (.int .i64 s.fau)]:=rfl
theorem rsA_inj {x y:Rs} (h:rsA x=rsA y):x=y:=by
 cases x; cases y; simp_all [rsA,kA,map_kA64,map_loA]
theorem noref_rsA (s:Rs):(rsA s).noref=true:=by simp [rsA,kA,AV.noref,norefs]
structure Vn where
 zv:Bool
 vars:List Int
 zl:Bool
 left:List Int
 clo:Int
 act:Int
 pl':Int
 ba:Int
instance:Inhabited Vn:=⟨⟨true,[],true,[],0,0,0,0⟩⟩
def vnA (v:Vn):AV:=.ag [.vw v.zv (v.vars.map (kA .i64)),.vw v.zl (v.left.map (kA .i64)),.sc (.int .u64 v.clo),.sc (.int .u32 v.act),kA .i64 v.pl',kA .i64 v.ba]
theorem vnA_eq (v:Vn):vnA v=.ag [.vw v.zv (v.vars.map (kA .i64)),.vw v.zl (v.left.map (kA .i64)),.sc (.int .u64 v.clo),.sc (.int .u32 v.act),.sc (.int .i64 v.pl'),.sc (.int .i64 v.ba)]:=rfl
theorem vnA_inj {x y:Vn} (h:vnA x=vnA y):x=y:=by
 cases x; cases y; simp_all [vnA,kA,map_kA64]
theorem noref_vnA (s:Vn):(vnA s).noref=true:=by simp [vnA,kA,AV.noref,norefs]
structure Cx where
 ti:Int
 clo:Int
 pl':Int
 ba:Int
instance:Inhabited Cx:=⟨⟨0,0,0,0⟩⟩
def cxA (v:Cx):AV:=.ag [kA .i64 v.ti,.sc (.int .u64 v.clo),kA .i64 v.pl',kA .i64 v.ba]
theorem cxA_eq (v:Cx):cxA v=.ag [.sc (.int .i64 v.ti),.sc (.int .u64 v.clo),.sc (.int .i64 v.pl'),.sc (.int .i64 v.ba)]:=rfl
theorem cxA_inj {x y:Cx} (h:cxA x=cxA y):x=y:=by
 cases x; cases y; simp_all [cxA,kA]
structure Ev where
 tr:Int
 ix:Int
 mo:Int
 deriving DecidableEq
instance:Inhabited Ev:=⟨⟨0,0,0⟩⟩
noncomputable def f155:=mkF (fun _:Int=>True) (fun x=>[kA .i64 x]) (fun _=>bA false)
theorem e155 (x:Int):f155 [.sc (.int .i64 x)]=some (.sc (.bool false)):=
 (mkF_eq (q:=fun _:Int=>True) (enc:=fun x=>[kA .i64 x]) (out:=fun _=>bA false) x trivial (by intro y h; simpa [kA] using h) :)
theorem ok155:POk Tryz.prog 155 f155:=pok_mk <| by
 rintro x -
 refine pspec_of_go (fEnv_ok (.nil) (.nil)) rfl Tryz.func155 rfl (by decide) (by kernel_rfl) (by kernel_rfl) ?_
 simp only [Tryz.f155,initSt,List.length_cons,List.length_nil,Nat.reduceAdd,Nat.reduceSub,List.replicate]
 refine vc_go ?_
 simp (maxSteps:=10000000) +contextual -implicitDefEqProofs only [bnC,bnS,St.put,kA_eq,bA_eq]
def cmpI (x y:Int):Int:=if x < y then -1 else if y < x then 1 else 0
theorem cmpI_lt (x y:Int):cmpI x y < 0↔x < y:=by
 unfold cmpI; split
 ·omega
 ·split <;> omega
noncomputable def f112:=mkF (fun _:Int × Int=>True) (fun p=>[kA .i64 p.1,kA .i64 p.2]) (fun p=>kA .i64 (cmpI p.1 p.2))
theorem e112 (x y:Int):f112 [.sc (.int .i64 x),.sc (.int .i64 y)]=some (.sc (.int .i64 (cmpI x y))):=
 (mkF_eq (q:=fun _:Int × Int=>True) (enc:=fun p=>[kA .i64 p.1,kA .i64 p.2]) (out:=fun p=>kA .i64 (cmpI p.1 p.2)) (x,y) trivial (by rintro ⟨a,b⟩ h; simp_all [kA]) :)
theorem ok112:POk Tryz.prog 112 f112:=pok_mk <| by
 rintro ⟨x,y⟩ -
 refine pspec_of_go (fEnv_ok ((.cons ok155 .nil)) (.nil)) rfl Tryz.func112 rfl (by decide) (by kernel_rfl) (by kernel_rfl) ?_
 simp only [Tryz.f112,initSt,List.length_cons,List.length_nil,Nat.reduceAdd,Nat.reduceSub,List.replicate]
 refine vc_go ?_
 rcases Int.lt_trichotomy x y with h | h | h
 ·have hc:cmpI x y=-1:=by simp [cmpI,h]
  simp (maxSteps:=10000000) +contextual -implicitDefEqProofs only [bnC,bnS,St.put,borrow,borrows,pin,pl,↓reduceIte,bnH,kA_eq,e155,h,hc]
 ·have hc:cmpI x y=0:=by simp [cmpI,h]
  have h1:¬ x < y:=by omega
  have h2:¬ y < x:=by omega
  simp (maxSteps:=10000000) +contextual -implicitDefEqProofs only [bnC,bnS,St.put,borrow,borrows,pin,pl,↓reduceIte,bnH,kA_eq,e155,h1,h2,hc]
 ·have h1:¬ x < y:=by omega
  have hc:cmpI x y=1:=by simp [cmpI,h,h1]
  simp (maxSteps:=10000000) +contextual -implicitDefEqProofs only [bnC,bnS,St.put,borrow,borrows,pin,pl,↓reduceIte,bnH,kA_eq,e155,h,h1,hc]
def orN (l:List Int):Int:=(l.find? (fun x=>x != 0)).getD 0
theorem orN_at {l:List Int} {k:Nat} (hk:k < l.length) (h:(l.getD k default != 0)=true) (hn:∀ j,j < k→(l.getD j default != 0)=false):orN l=l.getD k default:=by
 have:l.find? (fun x=>x != 0)=some (l.getD k default):=by
  rw [List.find?_eq_some_iff_getElem]
  refine ⟨h,k,hk,by rw [List.getD_eq_getElem?_getD,List.getElem?_eq_getElem hk]; rfl,fun j hj=>?_⟩
  have:=hn j hj
  rw [List.getD_eq_getElem?_getD,List.getElem?_eq_getElem (by omega)] at this
  simpa using this
 rw [orN,this]; rfl
theorem orN_no {l:List Int} (hn:∀ j,j < l.length→(l.getD j default != 0)=false):orN l=0:=by
 have:l.find? (fun x=>x != 0)=none:=by
  rw [List.find?_eq_none]
  intro x hx
  obtain ⟨j,hj,rfl⟩:=List.getElem_of_mem hx
  have:=hn j hj
  rw [List.getD_eq_getElem?_getD,List.getElem?_eq_getElem hj] at this
  simpa using this
 rw [orN,this]; rfl
noncomputable def f118:=mkF (fun l:Bool × List Int=>l.2.length≤1000000) (fun l=>[.vw l.1 (l.2.map (kA .i64))]) (fun l=>kA .i64 (orN l.2))
theorem e118 (z:Bool) (a b:Int):f118 [.vw z [.sc (.int .i64 a),.sc (.int .i64 b)]]=some (.sc (.int .i64 (orN [a,b]))):=
 (mkF_eq (q:=fun l:Bool × List Int=>l.2.length≤1000000) (enc:=fun l=>[.vw l.1 (l.2.map (kA .i64))]) (out:=fun l=>kA .i64 (orN l.2)) (z,[a,b]) (by simp) (by
  rintro ⟨x,y⟩ h
  simp only [List.cons.injEq,AV.vw.injEq,map_kA64,and_true] at h
  rw [h.1,h.2]) :)
theorem ok118:POk Tryz.prog 118 f118:=pok_mk <| by
 rintro ⟨z,l⟩ hq
 simp only at hq
 refine pspec_of_go (fEnv_ok (.nil) (.nil)) rfl Tryz.func118 rfl (by decide) (by kernel_rfl) (by kernel_rfl) ?_
 simp only [Tryz.f118,initSt,List.length_cons,List.length_nil,Nat.reduceAdd,Nat.reduceSub,List.replicate]
 refine vc_go ?_
 simp (maxSteps:=10000000) +contextual -implicitDefEqProofs only [bnC,bnS,St.put,bnT,kA_eq]
 refine go_loopW (σ:=Nat) (fun k cnt=>⟨mkT 0 18 [(3,.sc (.int .i64 0)),(6,.vw z (l.map (kA .i64))),(7,.sc (.int .i64 l.length)),(8,.sc (.int .i64 k))],[],cnt⟩)
  (fun k=>k≤l.length∧∀ j,j < k→(l.getD j default != 0)=false) (fun k=>l.length - k) 0 ⟨by omega,by omega⟩ ?_ trivial rfl ?_
 ·simp (maxSteps:=10000000) only [bnC,bnS,↓reduceIte,reduceCtorEq,Nat.reduceAdd,Nat.reduceEqDiff,mkT,lkT]
 rintro k cnt ⟨hk,hn⟩ ih
 refine vc_go ?_
 by_cases hk':k < l.length
 ·have h1:decide ((k:Int) < (l.length:Int))=true:=by rw [decide_eq_true_eq]; omega
  have h2:decide (k < l.length)=true:=by rw [decide_eq_true_eq]; omega
  have w1:IntKind.i64.wrap ((k:Int)+1)=((k+1:Nat):Int):=by rw [wrap64 (by omega) (by omega)]; omega
  cases h3:l.getD k default != 0 with
  | true=>
   have e:=orN_at hk' h3 hn
   obtain ⟨x,hx⟩:∃ x,l.getD k default=x:=⟨_,rfl⟩
   rw [hx] at h3 e
   simp (maxSteps:=10000000) only [mkT,lkT,Nat.reduceAdd,Nat.reduceEqDiff,↓reduceIte,Nat.zero_add]
   simp (maxSteps:=10000000) +contextual -implicitDefEqProofs only [bnC,bnS,St.put,↓reduceIte,bnT,kA_eq,AV.noref,h1,h2,hx,h3,e,ldV_mapN,allSz_kA]
   all_goals done
  | false=>
   have ih:=fun c=>ih (k+1) c ⟨by omega,till_next hn h3⟩ (by omega)
   obtain ⟨x,hx⟩:∃ x,l.getD k default=x:=⟨_,rfl⟩
   rw [hx] at h3
   simp (maxSteps:=10000000) only [mkT,lkT,Nat.reduceAdd,Nat.reduceEqDiff,↓reduceIte,Nat.zero_add]
   simp (maxSteps:=10000000) +contextual -implicitDefEqProofs only [bnC,bnS,St.put,↓reduceIte,bnT,kA_eq,AV.noref,h1,h2,hx,h3,w1,ldV_mapN,allSz_kA]
   refine go_weak ?_ ?_ (Nat.le_refl _) (ih _)
   all_goals simp (maxSteps:=10000000) only [bnC,bnS,↓reduceIte,reduceCtorEq,Nat.reduceAdd,Nat.reduceEqDiff,mkT,lkT]
   all_goals done
 ·have hkl:k=l.length:=by omega
  subst hkl
  have h1:decide ((l.length:Int) < (l.length:Int))=false:=by simp
  have e:=orN_no hn
  simp (maxSteps:=10000000) only [mkT,lkT,Nat.reduceAdd,Nat.reduceEqDiff,↓reduceIte,Nat.zero_add]
  simp (maxSteps:=10000000) +contextual -implicitDefEqProofs only [bnC,bnS,St.put,↓reduceIte,h1,e]
  all_goals done
def ordL (a b:Lo):Int:=orN [cmpI a.mo b.mo,cmpI a.la b.la]
theorem orN_two (a b:Int):orN [a,b]=if a=0 then b else a:=by
 by_cases h:a=0
 ·subst h
  by_cases h2:b=0
  ·subst h2; rfl
  ·simp [orN,h2]
 ·simp [orN,h]
theorem ordL_lt (a b:Lo):ordL a b < 0↔a.mo < b.mo∨a.mo=b.mo∧a.la < b.la:=by
 rw [ordL,orN_two]
 have h1:=cmpI_lt a.mo b.mo
 have h2:=cmpI_lt a.la b.la
 have h3:cmpI a.mo b.mo=0↔a.mo=b.mo:=by
  unfold cmpI; split
  ·omega
  ·split <;> omega
 split
 ·rename_i h; rw [h2]; have:=h3.1 h; omega
 ·rename_i h; rw [h1]; have:a.mo≠b.mo:=fun hh=>h (h3.2 hh); omega
noncomputable def f80:=mkF (fun _:Lo × Lo=>True) (fun p=>[loA p.1,loA p.2]) (fun p=>kA .i64 (ordL p.1 p.2))
theorem e80 (a b:Lo):f80 [loA a,loA b]=some (.sc (.int .i64 (ordL a b))):=
 (mkF_eq (q:=fun _:Lo × Lo=>True) (enc:=fun p=>[loA p.1,loA p.2]) (out:=fun p=>kA .i64 (ordL p.1 p.2)) (a,b) trivial (by
  rintro ⟨x,y⟩ h
  simp only [List.cons.injEq,and_true] at h
  rw [loA_inj h.1,loA_inj h.2]) :)
theorem ok80:POk Tryz.prog 80 f80:=pok_mk <| by
 rintro ⟨a,b⟩ -
 refine pspec_of_go (fEnv_ok ((.cons ok112 (.cons ok118 .nil))) (.nil)) rfl Tryz.func80 rfl (by decide) (by kernel_rfl) (by kernel_rfl) ?_
 simp only [Tryz.f80,initSt,List.length_cons,List.length_nil,Nat.reduceAdd,Nat.reduceSub,List.replicate]
 refine vc_go ?_
 simp (maxSteps:=10000000) +contextual -implicitDefEqProofs only [bnC,bnS,St.put,borrow,borrows,pin,pl,↓reduceIte,reduceCtorEq,Nat.reduceAdd,Nat.reduceLeDiff,Nat.reduceEqDiff,Nat.reduceMul,Int.reduceLT,Nat.reduceLT,bnT,Int.reduceAdd,Int.reduceMul,bnH,kA_eq,loA_eq,norefs,AV.noref,e112,e118,ordL]
 repeat' (first | exact chk_no (by kernel_rfl) | refine ⟨chk_no (by kernel_rfl),?_⟩ | refine And.intro ?_ ?_ | fail)
 all_goals done
def tickB (t:Int):Bool:=decide (0≤t) && decide (t≤1099511627776)
noncomputable def f117:=mkF (fun _:Int=>True) (fun x=>[kA .i64 x]) (fun x=>bA (tickB x))
theorem e117 (x:Int):f117 [.sc (.int .i64 x)]=some (.sc (.bool (tickB x))):=
 (mkF_eq (q:=fun _:Int=>True) (enc:=fun x=>[kA .i64 x]) (out:=fun x=>bA (tickB x)) x trivial (by intro y h; simp only [List.cons.injEq,and_true] at h; rw [kA_inj h]) :)
theorem ok117:POk Tryz.prog 117 f117:=pok_mk <| by
 rintro x -
 refine pspec_of_go (fEnv_ok (.nil) (.nil)) rfl Tryz.func117 rfl (by decide) (by kernel_rfl) (by kernel_rfl) ?_
 simp only [Tryz.f117,initSt,List.length_cons,List.length_nil,Nat.reduceAdd,Nat.reduceSub,List.replicate]
 refine vc_go ?_
 simp (maxSteps:=10000000) +contextual -implicitDefEqProofs only [bnC,bnS,guardV,St.put,↓reduceIte,kA_eq,bA_eq,tickB]
def lampB (x:Lm):Bool:=decide (0≤x.lv∧x.lv≤8∧(0≤x.si∧x.si≤1099511627776)∧0≤x.off∧x.off≤1000∧((x.off=0∧x.on=0)∨(0 < x.off∧1≤x.on∧x.on≤1000)))
noncomputable def f79:=mkF (fun _:Lm=>True) (fun x=>[lmA x]) (fun x=>bA (lampB x))
theorem e79 (x:Lm):f79 [lmA x]=some (.sc (.bool (lampB x))):=
 (mkF_eq (q:=fun _:Lm=>True) (enc:=fun x=>[lmA x]) (out:=fun x=>bA (lampB x)) x trivial (by intro y h; simp only [List.cons.injEq,and_true] at h; rw [lmA_inj h]) :)
theorem ok79:POk Tryz.prog 79 f79:=pok_mk <| by
 rintro ⟨l,n,f,c⟩ -
 refine pspec_of_go (fEnv_ok ((.cons ok117 .nil)) (.nil)) rfl Tryz.func79 rfl (by decide) (by kernel_rfl) (by kernel_rfl) ?_
 simp only [Tryz.f79,initSt,List.length_cons,List.length_nil,Nat.reduceAdd,Nat.reduceSub,List.replicate]
 refine vc_go ?_
 simp (maxSteps:=10000000) +contextual -implicitDefEqProofs only [bnC,bnS,guardV,St.put,borrow,borrows,pin,pl,↓reduceIte,reduceCtorEq,Nat.reduceAdd,bnT,Int.reduceAdd,bnH,bA_eq,lmA_eq,e117]
 simp only [lampB,tickB]
 repeat' (refine ite_both (fun h=>?_) (fun h=>?_))
 all_goals refine congrArg (fun b=>AV.sc (.bool b)) (Bool.eq_iff_iff.2 ?_)
 all_goals simp only [Bool.or_eq_true,Bool.and_eq_true,Bool.not_eq_true',decide_eq_true_eq,decide_eq_false_iff_not,beq_iff_eq,Bool.false_eq_true,false_iff,true_iff,Bool.and_eq_false_iff] at *
 all_goals omega
theorem ok82:POk Tryz.prog 82 f79:=pok_mk <| by
 rintro ⟨l,n,f,c⟩ -
 refine pspec_of_go (fEnv_ok (.nil) (.nil)) rfl Tryz.func82 rfl (by decide) (by kernel_rfl) (by kernel_rfl) ?_
 simp only [Tryz.f82,initSt,List.length_cons,List.length_nil,Nat.reduceAdd,Nat.reduceSub,List.replicate]
 refine vc_go ?_
 simp (maxSteps:=10000000) +contextual -implicitDefEqProofs only [bnC,bnS,guardV,St.put,↓reduceIte,reduceCtorEq,Nat.reduceAdd,bnT,Int.reduceAdd,bnH,bA_eq,lmA_eq]
 simp only [lampB]
 repeat' (refine ite_both (fun h=>?_) (fun h=>?_))
 all_goals refine congrArg (fun b=>AV.sc (.bool b)) (Bool.eq_iff_iff.2 ?_)
 all_goals simp only [Bool.or_eq_true,Bool.and_eq_true,Bool.not_eq_true',decide_eq_true_eq,decide_eq_false_iff_not,beq_iff_eq,Bool.false_eq_true,false_iff,true_iff,Bool.and_eq_false_iff] at *
 all_goals omega
def actB (a m:Int):Bool:=ibit .and .u32 (ishr .u32 a m) 1 == 1
def atQ (p:Rs × Int):Prop:=0≤p.2∧p.2≤1000000
noncomputable def f58:=mkF atQ (fun p=>[rsA p.1,kA .i64 p.2]) (fun p=>bA (actB p.1.act p.2))
theorem e58 (s:Rs) (m:Int) (h:0≤m∧m≤1000000):f58 [rsA s,.sc (.int .i64 m)]=some (.sc (.bool (actB s.act m))):=
 (mkF_eq (q:=atQ) (enc:=fun p=>[rsA p.1,kA .i64 p.2]) (out:=fun p=>bA (actB p.1.act p.2)) (s,m) h (by
  rintro ⟨x,y⟩ h
  simp only [List.cons.injEq,and_true] at h
  rw [rsA_inj h.1,kA_inj h.2]) :)
theorem ok58:POk Tryz.prog 58 f58:=pok_mk <| by
 rintro ⟨s,m⟩ ⟨h0,h1⟩
 simp only at h0 h1
 refine pspec_of_go (fEnv_ok (.nil) (.nil)) rfl Tryz.func58 rfl (by decide) (by kernel_rfl) (by kernel_rfl) ?_
 simp only [Tryz.f58,initSt,List.length_cons,List.length_nil,Nat.reduceAdd,Nat.reduceSub,List.replicate]
 refine vc_go ?_
 simp (maxSteps:=10000000) +contextual -implicitDefEqProofs only [bnC,bnS,St.put,↓reduceIte,reduceCtorEq,Nat.reduceAdd,bnT,Int.reduceAdd,bnH,kA_eq,bA_eq,rsA_eq,h0,actB]
 all_goals done
theorem ok61:POk Tryz.prog 61 f58:=pok_mk <| by
 rintro ⟨s,m⟩ ⟨h0,h1⟩
 simp only at h0 h1
 have w:IntKind.u64.wrap m=m:=wrap_u64s (by omega) (by omega)
 refine pspec_of_go (fEnv_ok (.nil) (.nil)) rfl Tryz.func61 rfl (by decide) (by kernel_rfl) (by kernel_rfl) ?_
 simp only [Tryz.f61,initSt,List.length_cons,List.length_nil,Nat.reduceAdd,Nat.reduceSub,List.replicate]
 refine vc_go ?_
 simp (maxSteps:=10000000) +contextual -implicitDefEqProofs only [bnC,bnS,St.put,↓reduceIte,reduceCtorEq,Nat.reduceAdd,bnT,Int.reduceAdd,bnH,kA_eq,bA_eq,rsA_eq,h0,actB,w]
 all_goals done
def envV (s:Rs) (x:Cx):Vn:=⟨s.zv,s.vars,s.zl,s.left,x.clo,s.act,x.pl',x.ba⟩
noncomputable def f78:=mkF (fun _:Rs × Cx=>True) (fun p=>[rsA p.1,cxA p.2]) (fun p=>vnA (envV p.1 p.2))
theorem e78 (s:Rs) (x:Cx):f78 [rsA s,cxA x]=some (vnA (envV s x)):=
 (mkF_eq (q:=fun _:Rs × Cx=>True) (enc:=fun p=>[rsA p.1,cxA p.2]) (out:=fun p=>vnA (envV p.1 p.2)) (s,x) trivial (by
  rintro ⟨a,b⟩ h
  simp only [List.cons.injEq,and_true] at h
  rw [rsA_inj h.1,cxA_inj h.2]) :)
theorem ok78:VOk Tryz.prog 78 f78:=vok_mk <| by
 rintro ⟨s,x⟩ -
 refine vspecW_of_go (gEnv_ok (lit:=false) (pm:=fun _=>none) .nil .nil .nil .nil) rfl Tryz.func78 rfl (by decide) (by kernel_rfl) (noref_vnA _) ?_
 simp only [Tryz.f78,initSt,List.length_cons,List.length_nil,Nat.reduceAdd,Nat.reduceSub,List.replicate]
 refine vc_go ?_
 simp (maxSteps:=10000000) +contextual -implicitDefEqProofs only [bnC,bnS,St.put,borrow,borrows,↓reduceIte,reduceCtorEq,Nat.reduceAdd,Nat.reduceLeDiff,Int.reduceLT,Nat.reduceLT,bnT,Int.reduceAdd,bnH,rsA_eq,vnA_eq,cxA_eq,envV]
 all_goals done
end Go.Proofs.YtdjpkhjaibdogaaGreat

namespace Go.Proofs.YtdjpkhjaibdogaaGreat
open Go Go.SX
set_option linter.unusedSimpArgs false
set_option linter.unusedVariables false
attribute [local congr] ite_congr
set_option maxRecDepth 100000
set_option maxHeartbeats 8000000
def badB (lo n:Int):Bool:=decide (n < lo) || decide ((2147483647:Int) < n)
noncomputable def f114:=mkF (fun _:Int=>True) (fun x=>[kA .i64 x]) (fun x=>.fn 115 [.vp [kA .i64 x] 0 0])
theorem e114 (x:Int):f114 [.sc (.int .i64 x)]=some (.fn 115 [.vp [.sc (.int .i64 x)] 0 0]):=
 (mkF_eq (q:=fun _:Int=>True) (enc:=fun x=>[kA .i64 x]) (out:=fun x=>.fn 115 [.vp [kA .i64 x] 0 0]) x trivial (by intro y h; simp only [List.cons.injEq,and_true] at h; rw [kA_inj h]) :)
theorem ok114:VOk Tryz.prog 114 f114:=vok_mk <| by
 rintro x -
 refine vspecW_of_go (gEnv_ok (lit:=false) (pm:=fun _=>none) .nil .nil .nil .nil) rfl Tryz.func114 rfl (by decide) (by kernel_rfl) (by simp [AV.noref,norefs]) ?_
 simp only [Tryz.f114,initSt,List.length_cons,List.length_nil,Nat.reduceAdd,Nat.reduceSub,List.replicate]
 refine vc_go ?_
 simp (maxSteps:=10000000) +contextual -implicitDefEqProofs only [bnC,bnS,St.put,borrow,borrows,↓reduceIte,bnH,kA_eq]
 all_goals done
noncomputable def f115:=mkF (fun _:Int × Int=>True) (fun p=>[kA .i64 p.1,.vp [kA .i64 p.2] 0 0]) (fun p=>bA (badB p.2 p.1))
theorem e115 (n lo:Int):f115 [kA .i64 n,.vp [.sc (.int .i64 lo)] 0 0]=some (bA (badB lo n)):=
 (mkF_eq (q:=fun _:Int × Int=>True) (enc:=fun p=>[kA .i64 p.1,.vp [kA .i64 p.2] 0 0]) (out:=fun p=>bA (badB p.2 p.1)) (n,lo) trivial (by
  rintro ⟨a,b⟩ h
  simp only [List.cons.injEq,AV.vp.injEq,and_true] at h
  rw [kA_inj h.1,kA_inj h.2]) :)
theorem ok115:POk Tryz.prog 115 f115:=pok_mk <| by
 rintro ⟨n,lo⟩ -
 refine pspec_of_go (fEnv_ok (.nil) (.nil)) rfl Tryz.func115 rfl (by decide) (by kernel_rfl) (by kernel_rfl) ?_
 simp only [Tryz.f115,initSt,List.length_cons,List.length_nil,Nat.reduceAdd,Nat.reduceSub,List.replicate]
 refine vc_go ?_
 simp (maxSteps:=10000000) +contextual -implicitDefEqProofs only [bnC,bnS,guardV,St.put,↓reduceIte,bnT,kA_eq,bA_eq,AV.noref,badB]
 all_goals done
noncomputable def envB (c:Cd) (v:Vn):Bool:=(validC c == 0) && ((v.vars.length:Int) == c.vars.length) && ((v.left.length:Int) == c.tim) && !v.vars.any (badB (-2147483647)) && !v.left.any (badB 0) && (ishr .u32 v.act c.pri.length == 0) && !badB 0 v.pl' && !badB 0 v.ba
theorem valid_lim {c:Cd} (h:validC c=0):limC c=true∧partC c=true∧targC c=true∧sortC c=true∧heiC c=true:=by
 unfold validC at h
 split at h
 ·cases h
 ·rename_i h1
  split at h
  ·cases h
  ·rename_i h2
   split at h
   ·cases h
   ·rename_i h3
    split at h
    ·cases h
    ·rename_i h4
     split at h
     ·cases h
     ·rename_i h5
      exact ⟨by simpa using h1,by simpa using h2,by simpa using h3,by simpa using h4,by simpa using h5⟩
theorem valid_len {c:Cd} (h:validC c=0):c.ins.length≤4000∧c.strs.length≤200∧c.ens.length≤512∧c.pri.length≤16∧c.vars.length≤128∧(0≤c.tim∧c.tim≤128)∧0≤c.evs∧c.evs≤128:=by
 have:=(valid_lim h).1
 simp only [limC,Bool.and_eq_true,decide_eq_true_eq] at this
 obtain ⟨⟨⟨⟨⟨⟨h1,h2⟩,h3⟩,h4⟩,h5⟩,h6⟩,h7⟩:=this
 have h6:=inI_iff.1 h6
 have h7:=inI_iff.1 h7
 omega
def vnQ (p:Cd × Vn):Prop:=Fit p.1
noncomputable def f77:=mkF vnQ (fun p=>[cdA p.1,vnA p.2]) (fun p=>bA (envB p.1 p.2))
theorem e77 (c:Cd) (v:Vn) (h:Fit c):f77 [cdA c,vnA v]=some (.sc (.bool (envB c v))):=
 (mkF_eq (q:=vnQ) (enc:=fun p=>[cdA p.1,vnA p.2]) (out:=fun p=>bA (envB p.1 p.2)) (c,v) h (by
  rintro ⟨a,b⟩ h
  simp only [List.cons.injEq,and_true] at h
  rw [cdA_inj h.1,vnA_inj h.2]) :)
theorem ok77:POk Tryz.prog 77 f77:=pok_mk <| by
 rintro ⟨c,v⟩ hq
 have hq:Fit c:=hq
 have x1:=e53 c hq
 simp only [cdA_eq] at x1
 have hsh:(0:Int)≤(c.pri.length:Int):=Int.natCast_nonneg _
 by_cases h:validC c=0∧(v.vars.length:Int)=c.vars.length∧(v.left.length:Int)=c.tim
 rotate_left
 ·have hE:envB c v=false:=by
   rw [Bool.eq_false_iff]
   intro hh
   simp only [envB,Bool.and_eq_true,beq_iff_eq] at hh
   exact h ⟨hh.1.1.1.1.1.1.1,hh.1.1.1.1.1.1.2,hh.1.1.1.1.1.2⟩
  simp only
  rw [hE]
  refine pspec_of_go (gEnv_ok (lit:=false) (pm:=fun _=>none) (.cons ok53 .nil) (.cons ok114 .nil) .nil .nil) rfl Tryz.func77 rfl (by decide) (by kernel_rfl) (by kernel_rfl) ?_
  simp only [Tryz.f77,initSt,List.length_cons,List.length_nil,Nat.reduceAdd,Nat.reduceSub,List.replicate]
  refine vc_go ?_
  cases h1:(validC c == 0) with
  | false=>
   simp (maxSteps:=10000000) +contextual -implicitDefEqProofs only [bnC,bnS,guardV,St.put,borrow,borrows,pin,pl,↓reduceIte,reduceCtorEq,Nat.reduceAdd,Nat.reduceEqDiff,bnT,Int.reduceAdd,bnH,hin,callGA_un,bA_eq,cdA_eq,vnA_eq,norefs,AV.noref,x1,h1]
   repeat' (first | exact chk_no (by kernel_rfl) | refine ⟨chk_no (by kernel_rfl),?_⟩ | refine And.intro ?_ ?_ | fail)
   all_goals done
  | true=>
  cases h2:((v.vars.length:Int) == (c.vars.length:Int)) with
  | false=>
   simp (maxSteps:=10000000) +contextual -implicitDefEqProofs only [bnC,bnS,guardV,St.put,borrow,borrows,pin,pl,↓reduceIte,reduceCtorEq,Nat.reduceAdd,Nat.reduceEqDiff,bnT,Int.reduceAdd,bnH,hin,callGA_un,bA_eq,cdA_eq,vnA_eq,norefs,AV.noref,x1,h1,h2]
   repeat' (first | exact chk_no (by kernel_rfl) | refine ⟨chk_no (by kernel_rfl),?_⟩ | refine And.intro ?_ ?_ | fail)
   all_goals done
  | true=>
  cases h3:((v.left.length:Int) == c.tim) with
  | false=>
   simp (maxSteps:=10000000) +contextual -implicitDefEqProofs only [bnC,bnS,guardV,St.put,borrow,borrows,pin,pl,↓reduceIte,reduceCtorEq,Nat.reduceAdd,Nat.reduceEqDiff,bnT,Int.reduceAdd,bnH,hin,callGA_un,bA_eq,cdA_eq,vnA_eq,norefs,AV.noref,x1,h1,h2,h3]
   repeat' (first | exact chk_no (by kernel_rfl) | refine ⟨chk_no (by kernel_rfl),?_⟩ | refine And.intro ?_ ?_ | fail)
   all_goals done
  | true=>
   simp only [beq_iff_eq] at h1 h2 h3
   exact absurd ⟨h1,h2,h3⟩ h
 obtain ⟨h1,h2,h3⟩:=h
 have hl:=valid_len h1
 have b1:(validC c == 0)=true:=by simp [h1]
 have b2:((v.vars.length:Int) == (c.vars.length:Int))=true:=by simp [h2]
 have b3:((v.left.length:Int) == c.tim)=true:=by simp [h3]
 obtain ⟨F116,k116,e116,e116'⟩:=pok_at2 (hasI1 ok115 (badB (-2147483647)) [kA .i64 (-2147483647)] v.zv v.vars (fun b _=>e115 b (-2147483647)) (by omega)) (hasI1 ok115 (badB 0) [kA .i64 0] v.zl v.left (fun b _=>e115 b 0) (by omega)) (by simp [kA])
 simp only [kA_eq,bA_eq] at e116 e116'
 have x2:=e115 v.pl' 0
 have x3:=e115 v.ba 0
 simp only [kA_eq,bA_eq] at x2 x3
 have hE:envB c v=(!v.vars.any (badB (-2147483647)) && !v.left.any (badB 0) && (ishr .u32 v.act c.pri.length == 0) && !badB 0 v.pl' && !badB 0 v.ba):=by
  simp only [envB,b1,b2,b3,Bool.true_and]
 simp only
 rw [hE]
 clear hl
 refine pspec_of_go (gEnv_ok (lit:=false) (pm:=fun _=>none) (.cons ok53 (.cons k116 (.cons ok115 .nil))) (.cons ok114 .nil) .nil .nil) rfl Tryz.func77 rfl (by decide) (by kernel_rfl) (by kernel_rfl) ?_
 simp only [Tryz.f77,initSt,List.length_cons,List.length_nil,Nat.reduceAdd,Nat.reduceSub,List.replicate]
 refine vc_go ?_
 cases c1:v.vars.any (badB (-2147483647)) with
 | true=>
  rw [c1] at e116
  simp (maxSteps:=10000000) +contextual -implicitDefEqProofs only [bnC,bnS,guardV,St.put,borrow,borrows,pin,pl,↓reduceIte,reduceCtorEq,Nat.reduceAdd,Nat.reduceEqDiff,bnT,Int.reduceAdd,bnH,hin,callGA_un,bA_eq,cdA_eq,vnA_eq,norefs,AV.noref,x1,b1,b2,b3,e114,e116]
  repeat' (first | exact chk_no (by kernel_rfl) | refine ⟨chk_no (by kernel_rfl),?_⟩ | refine And.intro ?_ ?_ | fail)
  all_goals done
 | false=>
 rw [c1] at e116
 cases c2:v.left.any (badB 0) with
 | true=>
  rw [c2] at e116'
  simp (maxSteps:=10000000) +contextual -implicitDefEqProofs only [bnC,bnS,guardV,St.put,borrow,borrows,pin,pl,↓reduceIte,reduceCtorEq,Nat.reduceAdd,Nat.reduceEqDiff,bnT,Int.reduceAdd,bnH,hin,callGA_un,bA_eq,cdA_eq,vnA_eq,norefs,AV.noref,x1,b1,b2,b3,e114,e116,e116']
  repeat' (first | exact chk_no (by kernel_rfl) | refine ⟨chk_no (by kernel_rfl),?_⟩ | refine And.intro ?_ ?_ | fail)
  all_goals done
 | false=>
 rw [c2] at e116'
 cases c3:(ishr .u32 v.act c.pri.length == 0) with
 | false=>
  simp (maxSteps:=10000000) +contextual -implicitDefEqProofs only [bnC,bnS,guardV,St.put,borrow,borrows,pin,pl,↓reduceIte,reduceCtorEq,Nat.reduceAdd,Nat.reduceEqDiff,bnT,Int.reduceAdd,bnH,hin,callGA_un,bA_eq,cdA_eq,vnA_eq,norefs,AV.noref,x1,b1,b2,b3,hsh,e114,e116,e116',c3]
  repeat' (first | exact chk_no (by kernel_rfl) | refine ⟨chk_no (by kernel_rfl),?_⟩ | refine And.intro ?_ ?_ | fail)
  all_goals done
 | true=>
 cases c4:badB 0 v.pl' with
 | true=>
  rw [c4] at x2
  simp (maxSteps:=10000000) +contextual -implicitDefEqProofs only [bnC,bnS,guardV,St.put,borrow,borrows,pin,pl,↓reduceIte,reduceCtorEq,Nat.reduceAdd,Nat.reduceEqDiff,bnT,Int.reduceAdd,bnH,hin,callGA_un,bA_eq,cdA_eq,vnA_eq,norefs,AV.noref,x1,b1,b2,b3,hsh,e114,e116,e116',c3,x2]
  repeat' (first | exact chk_no (by kernel_rfl) | refine ⟨chk_no (by kernel_rfl),?_⟩ | refine And.intro ?_ ?_ | fail)
  all_goals done
 | false=>
  rw [c4] at x2
  simp (maxSteps:=10000000) +contextual -implicitDefEqProofs only [bnC,bnS,guardV,St.put,borrow,borrows,pin,pl,↓reduceIte,reduceCtorEq,Nat.reduceAdd,Nat.reduceEqDiff,bnT,Int.reduceAdd,bnH,hin,bA_eq,cdA_eq,vnA_eq,norefs,AV.noref,x1,b1,b2,b3,hsh,e114,e116,e116',c3,x2,x3]
  repeat' (first | exact chk_no (by kernel_rfl) | refine ⟨chk_no (by kernel_rfl),?_⟩ | refine And.intro ?_ ?_ | fail)
  all_goals done
end Go.Proofs.YtdjpkhjaibdogaaGreat
