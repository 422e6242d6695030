/-
  Joined texts: BD, BE.
  Conditions: none.
-/
import Derived.Test.YtdjpkhjaibdogaaGreatL28
namespace Go.Proofs.YtdjpkhjaibdogaaGreat
open Go Go.SX
set_option linter.unusedSimpArgs false
set_option linter.unusedVariables false
attribute [local congr] ite_congr
set_option maxRecDepth 100000
set_option maxHeartbeats 8000000
def byN (b:ByteArray) (i:Nat):Nat:=(b.data.toList.getD i 0).toNat
theorem lenD_str (H:List Blk) (b:ByteArray) (ag sz by' z fl):lenD Tryz.prog 9 H (.sc (.string b)) (some ⟨ag,sz,by',z,none,none,fl⟩)=some (.sc (.int .i64 b.size)):=by
 have h:spure Tryz.prog (Builtin.len_ #[9] 0 #[.string b])=some (goInt b.size):=by
  unfold spure Builtin.len_
  simp [rd_bind,rd_pure,rd_underlying,un9]
 simp only [lenD,conc,h]
 rfl
theorem iaD_str (b:ByteArray) (k:IntKind) (i:Nat) (h:decide (i < b.size)=true) (ag sz by' z fl):iaD Tryz.prog 9 (.sc (.string b)) (.sc (.int k i)) (some ⟨ag,sz,by',z,none,none,fl⟩)=some (.sc (.int .u8 (byN b i))):=by
 simp only [decide_eq_true_eq] at h
 have h:spure Tryz.prog (Instr.index 9 (.string b) (.int k i))=some (.int .u8 (byN b i)):=by
  unfold spure Instr.index
  have hl:i < b.data.toList.length:=h
  have h3:b[i]?=some (b.data.toList.getD i 0):=by
   rw [getElem?_pos b i h,List.getD_eq_getElem?_getD,List.getElem?_eq_getElem hl,Option.getD_some]; rfl
  have h0:(0:Int)≤(i:Int):=Int.natCast_nonneg i
  simp only [rd_bind,asIntOf,rd_pure,Option.bind_some,rd_underlying,un9,if_pos h0,Int.toNat_natCast,h3,byN]
 simp only [iaD,conc,h]
 rfl
def badY (b:ByteArray) (i:Nat):Bool:=decide ((byN b i:Int) < 32) || decide ((126:Int) < (byN b i:Int))
def textB (b:ByteArray):Bool:=!(List.range b.size).any (badY b) && decide ((b.size:Int)≤32)
theorem range_any {p:Nat→Bool} {n:Nat}:(List.range n).any p=true↔∃ i,i < n∧p i=true:=by simp
theorem textB_no {b:ByteArray} {i:Nat} (hi:i < b.size) (h:badY b i=true):textB b=false:=by
 rw [textB,range_any.2 ⟨i,hi,h⟩]; rfl
theorem textB_yes {b:ByteArray} (h:∀ i,i < b.size→badY b i=false):textB b=decide ((b.size:Int)≤32):=by
 have:(List.range b.size).any (badY b)=false:=by
  rw [Bool.eq_false_iff]
  intro hc
  obtain ⟨i,hi,h2⟩:=range_any.1 hc
  rw [h i hi] at h2; cases h2
 rw [textB,this]; rfl
noncomputable def f187:=mkF (fun b:ByteArray=>b.size≤100000) (fun b=>[stA b]) (fun b=>bA (textB b))
theorem e187 (b:ByteArray) (h:b.size≤100000):f187 [.sc (.string b)]=some (.sc (.bool (textB b))):=
 (mkF_eq (q:=fun b:ByteArray=>b.size≤100000) (enc:=fun b=>[stA b]) (out:=fun b=>bA (textB b)) b h (by intro y h; simp only [List.cons.injEq,and_true] at h; rw [stA_inj h]) :)
theorem ok187:POk Tryz.prog 187 f187:=pok_mk <| by
 rintro b hb
 refine pspec_of_go (fEnv_ok (.nil) (.nil)) rfl Tryz.func187 rfl (by decide) (by kernel_rfl) (by kernel_rfl) ?_
 simp only [Tryz.f187,initSt,List.length_cons,List.length_nil,Nat.reduceAdd,Nat.reduceSub,List.replicate]
 refine vc_go ?_
 simp (maxSteps:=10000000) +contextual -implicitDefEqProofs only [bnC,bnS,St.put,bA_eq,stA_eq]
 refine go_loopW (σ:=Nat) (fun r cnt=>⟨mkT 0 23 [(0,.sc (.string b)),(3,.sc (.int .i64 r))],[],cnt⟩)
  (fun r=>r≤b.size∧∀ j,j < r→badY b j=false) (fun r=>b.size - r) 0 ⟨by omega,by omega⟩ ?_ trivial rfl ?_
 ·simp (maxSteps:=10000000) only [bnC,bnS,↓reduceIte,reduceCtorEq,Nat.reduceAdd,Nat.reduceEqDiff,mkT,lkT]
 rintro r cnt ⟨hr,hn⟩ ih
 refine vc_go ?_
 by_cases hr':r < b.size
 ·have h1:decide ((r:Int) < (b.size:Int))=true:=by rw [decide_eq_true_eq]; omega
  have h2:decide (r < b.size)=true:=by rw [decide_eq_true_eq]; omega
  have w1:IntKind.i64.wrap ((r:Int)+1)=((r+1:Nat):Int):=by rw [wrap64 (by omega) (by omega)]; omega
  have hi:=iaD_str b .i64 r h2
  obtain ⟨v,hv⟩:∃ v,byN b r=v:=⟨_,rfl⟩
  have hd:=hn
  cases hb2:badY b r with
  | true=>
   have e:=textB_no hr' hb2
   simp only [badY,hv] at hb2
   cases c1:decide ((v:Int) < 32) with
   | true=>
    simp (maxSteps:=10000000) only [mkT,lkT,Nat.reduceAdd,Nat.reduceEqDiff,↓reduceIte,Nat.zero_add]
    simp (maxSteps:=10000000) +contextual -implicitDefEqProofs only [bnC,bnS,guardV,St.put,↓reduceIte,bnT,h1,lenD_str,hi,hv,c1,e]
    all_goals done
   | false=>
    rw [c1,Bool.false_or] at hb2
    simp (maxSteps:=10000000) only [mkT,lkT,Nat.reduceAdd,Nat.reduceEqDiff,↓reduceIte,Nat.zero_add]
    simp (maxSteps:=10000000) +contextual -implicitDefEqProofs only [bnC,bnS,guardV,St.put,↓reduceIte,bnT,h1,lenD_str,hi,hv,c1,hb2,e]
    all_goals done
  | false=>
   have e:=till_next hn hb2
   simp only [badY,hv,Bool.or_eq_false_iff] at hb2
   simp (maxSteps:=10000000) only [mkT,lkT,Nat.reduceAdd,Nat.reduceEqDiff,↓reduceIte,Nat.zero_add]
   simp (maxSteps:=10000000) +contextual -implicitDefEqProofs only [bnC,bnS,guardV,St.put,↓reduceIte,bnT,h1,lenD_str,hi,hv,hb2.1,hb2.2,w1]
   refine go_weak ?_ ?_ (Nat.le_refl _) (ih (r+1) cnt ⟨by omega,e⟩ (by omega))
   ·simp (maxSteps:=10000000) only [bnC,bnS,↓reduceIte,reduceCtorEq,Nat.reduceAdd,Nat.reduceEqDiff,mkT,lkT]
   ·trivial
 ·have hrl:r=b.size:=by omega
  subst hrl
  have h1:decide ((b.size:Int) < (b.size:Int))=false:=by simp
  have e:=textB_yes hn
  simp (maxSteps:=10000000) only [mkT,lkT,Nat.reduceAdd,Nat.reduceEqDiff,↓reduceIte,Nat.zero_add]
  simp (maxSteps:=10000000) +contextual -implicitDefEqProofs only [bnC,bnS,St.put,↓reduceIte,bnT,h1,lenD_str,e]
  all_goals done
theorem ok147:POk Tryz.prog 147 f187:=pok_mk <| by
 rintro b hb
 refine pspec_of_go (fEnv_ok (.nil) (.nil)) rfl Tryz.func147 rfl (by decide) (by kernel_rfl) (by kernel_rfl) ?_
 simp only [Tryz.f147,initSt,List.length_cons,List.length_nil,Nat.reduceAdd,Nat.reduceSub,List.replicate]
 refine vc_go ?_
 simp (maxSteps:=10000000) +contextual -implicitDefEqProofs only [bnC,bnS,St.put,bA_eq,stA_eq]
 refine go_loopW (σ:=Nat) (fun r cnt=>⟨mkT 0 23 [(0,.sc (.string b)),(3,.sc (.int .i64 r))],[],cnt⟩)
  (fun r=>r≤b.size∧∀ j,j < r→badY b j=false) (fun r=>b.size - r) 0 ⟨by omega,by omega⟩ ?_ trivial rfl ?_
 ·simp (maxSteps:=10000000) only [bnC,bnS,↓reduceIte,reduceCtorEq,Nat.reduceAdd,Nat.reduceEqDiff,mkT,lkT]
 rintro r cnt ⟨hr,hn⟩ ih
 refine vc_go ?_
 by_cases hr':r < b.size
 ·have h1:decide ((r:Int) < (b.size:Int))=true:=by rw [decide_eq_true_eq]; omega
  have h2:decide (r < b.size)=true:=by rw [decide_eq_true_eq]; omega
  have w1:IntKind.i64.wrap ((r:Int)+1)=((r+1:Nat):Int):=by rw [wrap64 (by omega) (by omega)]; omega
  have hi:=iaD_str b .i64 r h2
  obtain ⟨v,hv⟩:∃ v,byN b r=v:=⟨_,rfl⟩
  have hd:=hn
  cases hb2:badY b r with
  | true=>
   have e:=textB_no hr' hb2
   simp only [badY,hv] at hb2
   cases c1:decide ((v:Int) < 32) with
   | true=>
    simp (maxSteps:=10000000) only [mkT,lkT,Nat.reduceAdd,Nat.reduceEqDiff,↓reduceIte,Nat.zero_add]
    simp (maxSteps:=10000000) +contextual -implicitDefEqProofs only [bnC,bnS,guardV,St.put,↓reduceIte,bnT,h1,lenD_str,hi,hv,c1,e]
    all_goals done
   | false=>
    rw [c1,Bool.false_or] at hb2
    simp (maxSteps:=10000000) only [mkT,lkT,Nat.reduceAdd,Nat.reduceEqDiff,↓reduceIte,Nat.zero_add]
    simp (maxSteps:=10000000) +contextual -implicitDefEqProofs only [bnC,bnS,guardV,St.put,↓reduceIte,bnT,h1,lenD_str,hi,hv,c1,hb2,e]
    all_goals done
  | false=>
   have e:=till_next hn hb2
   simp only [badY,hv,Bool.or_eq_false_iff] at hb2
   simp (maxSteps:=10000000) only [mkT,lkT,Nat.reduceAdd,Nat.reduceEqDiff,↓reduceIte,Nat.zero_add]
   simp (maxSteps:=10000000) +contextual -implicitDefEqProofs only [bnC,bnS,guardV,St.put,↓reduceIte,bnT,h1,lenD_str,hi,hv,hb2.1,hb2.2,w1]
   refine go_weak ?_ ?_ (Nat.le_refl _) (ih (r+1) cnt ⟨by omega,e⟩ (by omega))
   ·simp (maxSteps:=10000000) only [bnC,bnS,↓reduceIte,reduceCtorEq,Nat.reduceAdd,Nat.reduceEqDiff,mkT,lkT]
   ·trivial
 ·have hrl:r=b.size:=by omega
  subst hrl
  have h1:decide ((b.size:Int) < (b.size:Int))=false:=by simp
  have e:=textB_yes hn
  simp (maxSteps:=10000000) only [mkT,lkT,Nat.reduceAdd,Nat.reduceEqDiff,↓reduceIte,Nat.zero_add]
  simp (maxSteps:=10000000) +contextual -implicitDefEqProofs only [bnC,bnS,St.put,↓reduceIte,bnT,h1,lenD_str,e]
  all_goals done
noncomputable def f186:=mkF (fun b:ByteArray=>b.size≤100000) (fun b=>[stA b]) (fun b=>bA (!textB b))
theorem e186 (b:ByteArray) (h:b.size≤100000):f186 [stA b]=some (bA (!textB b)):=
 (mkF_eq (q:=fun b:ByteArray=>b.size≤100000) (enc:=fun b=>[stA b]) (out:=fun b=>bA (!textB b)) b h (by intro y h; simp only [List.cons.injEq,and_true] at h; rw [stA_inj h]) :)
theorem ok186:POk Tryz.prog 186 f186:=pok_mk <| by
 rintro b hb
 refine pspec_of_go (fEnv_ok ((.cons ok187 .nil)) (.nil)) rfl Tryz.func186 rfl (by decide) (by kernel_rfl) (by kernel_rfl) ?_
 simp only [Tryz.f186,initSt,List.length_cons,List.length_nil,Nat.reduceAdd,Nat.reduceSub,List.replicate]
 refine vc_go ?_
 simp (maxSteps:=10000000) +contextual -implicitDefEqProofs only [bnC,bnS,St.put,borrow,borrows,pin,pl,↓reduceIte,bnH,bA_eq,stA_eq,e187 b hb]
def prB (x:Int):Bool:=!inI x 0 99
noncomputable def f188:=mkF (fun _:Int=>True) (fun x=>[kA .i64 x]) (fun x=>bA (prB x))
theorem e188 (x:Int):f188 [kA .i64 x]=some (bA (prB x)):=
 (mkF_eq (q:=fun _:Int=>True) (enc:=fun x=>[kA .i64 x]) (out:=fun x=>bA (prB x)) x trivial (by intro y h; simp only [List.cons.injEq,and_true] at h; rw [kA_inj h]) :)
theorem ok188:POk Tryz.prog 188 f188:=pok_mk <| by
 rintro x -
 refine pspec_of_go (fEnv_ok ((.cons ok184 .nil)) (.nil)) rfl Tryz.func188 rfl (by decide) (by kernel_rfl) (by kernel_rfl) ?_
 simp only [Tryz.f188,initSt,List.length_cons,List.length_nil,Nat.reduceAdd,Nat.reduceSub,List.replicate]
 refine vc_go ?_
 simp (maxSteps:=10000000) +contextual -implicitDefEqProofs only [bnC,bnS,St.put,borrow,borrows,pin,pl,↓reduceIte,bnH,kA_eq,bA_eq,e99,prB]
def vaB (x:Int):Bool:=!inI x (-2147483647) 2147483647
noncomputable def f189:=mkF (fun _:Int=>True) (fun x=>[kA .i64 x]) (fun x=>bA (vaB x))
theorem e189 (x:Int):f189 [kA .i64 x]=some (bA (vaB x)):=
 (mkF_eq (q:=fun _:Int=>True) (enc:=fun x=>[kA .i64 x]) (out:=fun x=>bA (vaB x)) x trivial (by intro y h; simp only [List.cons.injEq,and_true] at h; rw [kA_inj h]) :)
theorem ok189:POk Tryz.prog 189 f189:=pok_mk <| by
 rintro x -
 refine pspec_of_go (fEnv_ok ((.cons ok184 .nil)) (.nil)) rfl Tryz.func189 rfl (by decide) (by kernel_rfl) (by kernel_rfl) ?_
 simp only [Tryz.f189,initSt,List.length_cons,List.length_nil,Nat.reduceAdd,Nat.reduceSub,List.replicate]
 refine vc_go ?_
 simp (maxSteps:=10000000) +contextual -implicitDefEqProofs only [bnC,bnS,St.put,borrow,borrows,pin,pl,↓reduceIte,bnH,kA_eq,bA_eq,e99,vaB]
def entB (c:Cd) (e:En):Bool:=inI e.mo 0 (c.pri.length - 1) &&
 (if e.tr=1∨e.tr=2 then e.ix == 0 else if e.tr=3∨e.tr=4 then inI e.ix 0 63 else if e.tr=5 then inI e.ix 0 (c.tim - 1) else if e.tr=6 then inI e.ix 0 (c.evs - 1) else false)
noncomputable def f192:=mkF (fun p:Cd × En=>Fit p.1) (fun p=>[cdA p.1,enA p.2]) (fun p=>bA (entB p.1 p.2))
theorem e192 (c:Cd) (h:Fit c) (x:En):f192 [cdA c,enA x]=some (.sc (.bool (entB c x))):=
 (mkF_eq (q:=fun p:Cd × En=>Fit p.1) (enc:=fun p=>[cdA p.1,enA p.2]) (out:=fun p=>bA (entB p.1 p.2)) (c,x) h (by
  rintro ⟨a,b⟩ h
  simp only [List.cons.injEq,and_true] at h
  rw [cdA_inj h.1,enA_inj h.2]) :)
theorem ok192:POk Tryz.prog 192 f192:=pok_mk <| by
 rintro ⟨c,⟨mo,tr,ix,pc⟩⟩ hq
 simp only at hq
 obtain ⟨w1,w2,w3,w4,w5,w6⟩:=fit_wraps hq
 refine pspec_of_go (fEnv_ok ((.cons ok184 .nil)) (.nil)) rfl Tryz.func192 rfl (by decide) (by kernel_rfl) (by kernel_rfl) ?_
 simp only [Tryz.f192,initSt,List.length_cons,List.length_nil,Nat.reduceAdd,Nat.reduceSub,List.replicate]
 refine vc_go ?_
 cases h0:inI mo 0 (c.pri.length - 1) with
 | false=>
  simp (maxSteps:=10000000) +contextual -implicitDefEqProofs only [bnC,bnS,St.put,borrow,borrows,pin,pl,↓reduceIte,reduceCtorEq,Nat.reduceAdd,bnT,Int.reduceAdd,bnH,bA_eq,enA_eq,cdA_eq,e99,w2,h0,entB]
  all_goals done
 | true=>
 rcases (by omega:tr=1∨tr=2∨tr=3∨tr=4∨tr=5∨tr=6∨(tr < 1∨6 < tr)) with rfl | rfl | rfl | rfl | rfl | rfl | h
 rotate_right
 ·have h1:(tr == 1)=false:=by rw [beq_eq_false_iff_ne]; omega
  have h2:(tr == 2)=false:=by rw [beq_eq_false_iff_ne]; omega
  have h3:(tr == 3)=false:=by rw [beq_eq_false_iff_ne]; omega
  have h4:(tr == 4)=false:=by rw [beq_eq_false_iff_ne]; omega
  have h5:(tr == 5)=false:=by rw [beq_eq_false_iff_ne]; omega
  have h6:(tr == 6)=false:=by rw [beq_eq_false_iff_ne]; omega
  have g:entB c ⟨mo,tr,ix,pc⟩=false:=by
   unfold entB
   rw [if_neg (by simp only; omega),if_neg (by simp only; omega),if_neg (by simp only; omega),if_neg (by simp only; omega),Bool.and_false]
  rw [g]
  clear h
  simp (maxSteps:=10000000) +contextual -implicitDefEqProofs only [bnC,bnS,St.put,borrow,borrows,pin,pl,↓reduceIte,reduceCtorEq,Nat.reduceAdd,bnT,Int.reduceAdd,bnH,bA_eq,enA_eq,cdA_eq,e99,w2,h0,h1,h2,h3,h4,h5,h6]
  all_goals done
 all_goals simp (maxSteps:=10000000) +contextual -implicitDefEqProofs only [bnC,bnS,St.put,borrow,borrows,pin,pl,↓reduceIte,reduceCtorEq,Nat.reduceAdd,Int.reduceEq,Nat.reduceBEq,bnT,Int.reduceAdd,bnH,bA_eq,enA_eq,cdA_eq,Int.reduceBEq,e99,w2,w5,w6,h0,entB]
 all_goals done
theorem ok148:POk Tryz.prog 148 f192:=pok_mk <| by
 rintro ⟨c,⟨mo,tr,ix,pc⟩⟩ hq
 simp only at hq
 obtain ⟨w1,w2,w3,w4,w5,w6⟩:=fit_wraps hq
 refine pspec_of_go (fEnv_ok ((.cons ok99 .nil)) (.nil)) rfl Tryz.func148 rfl (by decide) (by kernel_rfl) (by kernel_rfl) ?_
 simp only [Tryz.f148,initSt,List.length_cons,List.length_nil,Nat.reduceAdd,Nat.reduceSub,List.replicate]
 refine vc_go ?_
 cases h0:inI mo 0 (c.pri.length - 1) with
 | false=>
  simp (maxSteps:=10000000) +contextual -implicitDefEqProofs only [bnC,bnS,St.put,borrow,borrows,pin,pl,↓reduceIte,reduceCtorEq,Nat.reduceAdd,bnT,Int.reduceAdd,bnH,bA_eq,enA_eq,cdA_eq,e99,w2,h0,entB]
  all_goals done
 | true=>
 rcases (by omega:tr=1∨tr=2∨tr=3∨tr=4∨tr=5∨tr=6∨(tr < 1∨6 < tr)) with rfl | rfl | rfl | rfl | rfl | rfl | h
 rotate_right
 ·have h1:(tr == 1)=false:=by rw [beq_eq_false_iff_ne]; omega
  have h2:(tr == 2)=false:=by rw [beq_eq_false_iff_ne]; omega
  have h3:(tr == 3)=false:=by rw [beq_eq_false_iff_ne]; omega
  have h4:(tr == 4)=false:=by rw [beq_eq_false_iff_ne]; omega
  have h5:(tr == 5)=false:=by rw [beq_eq_false_iff_ne]; omega
  have h6:(tr == 6)=false:=by rw [beq_eq_false_iff_ne]; omega
  have g:entB c ⟨mo,tr,ix,pc⟩=false:=by
   unfold entB
   rw [if_neg (by simp only; omega),if_neg (by simp only; omega),if_neg (by simp only; omega),if_neg (by simp only; omega),Bool.and_false]
  rw [g]
  clear h
  simp (maxSteps:=10000000) +contextual -implicitDefEqProofs only [bnC,bnS,St.put,borrow,borrows,pin,pl,↓reduceIte,reduceCtorEq,Nat.reduceAdd,bnT,Int.reduceAdd,bnH,bA_eq,enA_eq,cdA_eq,e99,w2,h0,h1,h2,h3,h4,h5,h6]
  all_goals done
 all_goals simp (maxSteps:=10000000) +contextual -implicitDefEqProofs only [bnC,bnS,St.put,borrow,borrows,pin,pl,↓reduceIte,reduceCtorEq,Nat.reduceAdd,Int.reduceEq,Nat.reduceBEq,bnT,Int.reduceAdd,bnH,bA_eq,enA_eq,cdA_eq,Int.reduceBEq,e99,w2,w5,w6,h0,entB]
 all_goals done
noncomputable def f191:=mkF (fun p:En × Cd=>Fit p.2) (fun p=>[enA p.1,.vp [cdA p.2] 0 0]) (fun p=>bA (!entB p.2 p.1))
theorem e191 (c:Cd) (h:Fit c) (x:En):f191 [enA x,.vp [cdA c] 0 0]=some (bA (!entB c x)):=
 (mkF_eq (q:=fun p:En × Cd=>Fit p.2) (enc:=fun p=>[enA p.1,.vp [cdA p.2] 0 0]) (out:=fun p=>bA (!entB p.2 p.1)) (x,c) h (by
  rintro ⟨a,b⟩ h
  simp only [List.cons.injEq,AV.vp.injEq,and_true] at h
  rw [cdA_inj h.2,enA_inj h.1]) :)
theorem ok191:POk Tryz.prog 191 f191:=pok_mk <| by
 rintro ⟨x,c⟩ hq
 simp only at hq
 have e1:=e192 c hq x
 simp only [cdA_eq,enA_eq] at e1
 refine pspec_of_go (fEnv_ok ((.cons ok192 .nil)) (.nil)) rfl Tryz.func191 rfl (by decide) (by kernel_rfl) (by kernel_rfl) ?_
 simp only [Tryz.f191,initSt,List.length_cons,List.length_nil,Nat.reduceAdd,Nat.reduceSub,List.replicate]
 refine vc_go ?_
 simp (maxSteps:=10000000) +contextual -implicitDefEqProofs only [bnC,bnS,St.put,borrow,borrows,pin,pl,↓reduceIte,Nat.reduceAdd,bnT,Int.reduceAdd,bnH,bA_eq,enA_eq,cdA_eq,norefs,AV.noref,e1]
 all_goals done
def tgB (c:Cd) (e:En):Bool:=!inI e.pc 0 (c.ins.length - 1)
noncomputable def f195:=mkF (fun p:En × Cd=>Fit p.2) (fun p=>[enA p.1,.vp [cdA p.2] 0 0]) (fun p=>bA (tgB p.2 p.1))
theorem e195 (c:Cd) (h:Fit c) (x:En):f195 [enA x,.vp [cdA c] 0 0]=some (bA (tgB c x)):=
 (mkF_eq (q:=fun p:En × Cd=>Fit p.2) (enc:=fun p=>[enA p.1,.vp [cdA p.2] 0 0]) (out:=fun p=>bA (tgB p.2 p.1)) (x,c) h (by
  rintro ⟨a,b⟩ h
  simp only [List.cons.injEq,AV.vp.injEq,and_true] at h
  rw [cdA_inj h.2,enA_inj h.1]) :)
theorem ok195:POk Tryz.prog 195 f195:=pok_mk <| by
 rintro ⟨x,c⟩ hq
 simp only at hq
 obtain ⟨w1,w2,w3,w4,w5,w6⟩:=fit_wraps hq
 refine pspec_of_go (fEnv_ok ((.cons ok184 .nil)) (.nil)) rfl Tryz.func195 rfl (by decide) (by kernel_rfl) (by kernel_rfl) ?_
 simp only [Tryz.f195,initSt,List.length_cons,List.length_nil,Nat.reduceAdd,Nat.reduceSub,List.replicate]
 refine vc_go ?_
 simp (maxSteps:=10000000) +contextual -implicitDefEqProofs only [bnC,bnS,St.put,borrow,borrows,pin,pl,↓reduceIte,reduceCtorEq,Nat.reduceAdd,bnT,Int.reduceAdd,bnH,bA_eq,enA_eq,cdA_eq,AV.noref,e99,w4,tgB]
 all_goals done
def limC (c:Cd):Bool:=decide ((c.ins.length:Int)≤4000) && decide ((c.strs.length:Int)≤200) && decide ((c.ens.length:Int)≤512) && decide ((c.pri.length:Int)≤16) && decide ((c.vars.length:Int)≤128) && inI c.tim 0 128 && inI c.evs 0 128
noncomputable def f142:=mkF Fit (fun c=>[cdA c]) (fun c=>bA (limC c))
theorem e142 (c:Cd) (h:Fit c):f142 [cdA c]=some (.sc (.bool (limC c))):=
 (mkF_eq (q:=Fit) (enc:=fun c=>[cdA c]) (out:=fun c=>bA (limC c)) c h (by
  intro b h
  simp only [List.cons.injEq,and_true] at h
  rw [cdA_inj h]) :)
theorem ok142:POk Tryz.prog 142 f142:=pok_mk <| by
 rintro c hq
 refine pspec_of_go (fEnv_ok ((.cons ok184 .nil)) (.nil)) rfl Tryz.func142 rfl (by decide) (by kernel_rfl) (by kernel_rfl) ?_
 simp only [Tryz.f142,initSt,List.length_cons,List.length_nil,Nat.reduceAdd,Nat.reduceSub,List.replicate]
 refine vc_go ?_
 simp (maxSteps:=10000000) +contextual -implicitDefEqProofs only [bnC,bnS,guardV,St.put,borrow,borrows,pin,pl,↓reduceIte,reduceCtorEq,Nat.reduceAdd,bnT,Int.reduceAdd,bnH,bA_eq,cdA_eq,e99,limC,Bool.and_assoc]
 all_goals done
end Go.Proofs.YtdjpkhjaibdogaaGreat

namespace Go.Proofs.YtdjpkhjaibdogaaGreat
open Go Go.SX
set_option linter.unusedSimpArgs false
set_option linter.unusedVariables false
attribute [local congr] ite_congr
set_option maxRecDepth 100000
set_option maxHeartbeats 8000000
theorem pok_at2 {P:Program} {f:Nat} {a1 a2:List AV} {r1 r2:AV} (h1:PSpec P f a1 r1) (h2:PSpec P f a2 r2) (hne:a2≠a1):∃ F,POk P f F∧F a1=some r1∧F a2=some r2:=by
 refine ⟨fun a=>open Classical in if a=a1 then some r1 else if a=a2 then some r2 else none,?_,by simp,by simp [hne]⟩
 intro a v hv
 simp only at hv
 split at hv
 ·rename_i e; subst e; cases hv; exact h1
 ·split at hv
  ·rename_i e; subst e; cases hv; exact h2
  ·cases hv
def insP (c:Cd) (x:In):Bool:=!jmpO x.op && !inI x.a (spanC c x.op).1 (spanC c x.op).2
theorem insP_eq (c:Cd) (x:In):insP c x=!numB c x:=by
 obtain ⟨op,a⟩:=x
 rcases op_cases op with (rfl | rfl | rfl | rfl | rfl | rfl | rfl | rfl | rfl | rfl | rfl | rfl | rfl | rfl | rfl | rfl | rfl | rfl | rfl | rfl | rfl | rfl | rfl | rfl | rfl | rfl | rfl | rfl | rfl | rfl | rfl) | h
 rotate_right
 have h1:=h 1 (by decide) (by decide)
 have g1:(op=1)=False:=by simpa using h1
 have h2:=h 2 (by decide) (by decide)
 have g2:(op=2)=False:=by simpa using h2
 have h3:=h 3 (by decide) (by decide)
 have g3:(op=3)=False:=by simpa using h3
 have h4:=h 4 (by decide) (by decide)
 have g4:(op=4)=False:=by simpa using h4
 have h5:=h 5 (by decide) (by decide)
 have g5:(op=5)=False:=by simpa using h5
 have h6:=h 6 (by decide) (by decide)
 have g6:(op=6)=False:=by simpa using h6
 have h7:=h 7 (by decide) (by decide)
 have g7:(op=7)=False:=by simpa using h7
 have h8:=h 8 (by decide) (by decide)
 have g8:(op=8)=False:=by simpa using h8
 have h9:=h 9 (by decide) (by decide)
 have g9:(op=9)=False:=by simpa using h9
 have h10:=h 10 (by decide) (by decide)
 have g10:(op=10)=False:=by simpa using h10
 have h11:=h 11 (by decide) (by decide)
 have g11:(op=11)=False:=by simpa using h11
 have h12:=h 12 (by decide) (by decide)
 have g12:(op=12)=False:=by simpa using h12
 have h13:=h 13 (by decide) (by decide)
 have g13:(op=13)=False:=by simpa using h13
 have h14:=h 14 (by decide) (by decide)
 have g14:(op=14)=False:=by simpa using h14
 have h15:=h 15 (by decide) (by decide)
 have g15:(op=15)=False:=by simpa using h15
 have h16:=h 16 (by decide) (by decide)
 have g16:(op=16)=False:=by simpa using h16
 have h17:=h 17 (by decide) (by decide)
 have g17:(op=17)=False:=by simpa using h17
 have h18:=h 18 (by decide) (by decide)
 have g18:(op=18)=False:=by simpa using h18
 have h19:=h 19 (by decide) (by decide)
 have g19:(op=19)=False:=by simpa using h19
 have h20:=h 20 (by decide) (by decide)
 have g20:(op=20)=False:=by simpa using h20
 have h21:=h 21 (by decide) (by decide)
 have g21:(op=21)=False:=by simpa using h21
 have h22:=h 22 (by decide) (by decide)
 have g22:(op=22)=False:=by simpa using h22
 have h23:=h 23 (by decide) (by decide)
 have g23:(op=23)=False:=by simpa using h23
 have h24:=h 24 (by decide) (by decide)
 have g24:(op=24)=False:=by simpa using h24
 have h25:=h 25 (by decide) (by decide)
 have g25:(op=25)=False:=by simpa using h25
 have h26:=h 26 (by decide) (by decide)
 have g26:(op=26)=False:=by simpa using h26
 have h27:=h 27 (by decide) (by decide)
 have g27:(op=27)=False:=by simpa using h27
 have h28:=h 28 (by decide) (by decide)
 have g28:(op=28)=False:=by simpa using h28
 have h29:=h 29 (by decide) (by decide)
 have g29:(op=29)=False:=by simpa using h29
 have h30:=h 30 (by decide) (by decide)
 have g30:(op=30)=False:=by simpa using h30
 have h31:=h 31 (by decide) (by decide)
 have g31:(op=31)=False:=by simpa using h31
 ·simp [insP,numB,effO,spanC,jmpO,inI,h1,g1,h2,g2,h3,g3,h4,g4,h5,g5,h6,g6,h7,g7,h8,g8,h9,g9,h10,g10,h11,g11,h12,g12,h13,g13,h14,g14,h15,g15,h16,g16,h17,g17,h18,g18,h19,g19,h20,g20,h21,g21,h22,g22,h23,g23,h24,g24,h25,g25,h26,g26,h27,g27,h28,g28,h29,g29,h30,g30,h31,g31]
  omega
 all_goals simp [insP,numB,effO,spanC,jmpO,inI]
 all_goals first | done | rw [Bool.eq_iff_iff]; simp; omega
def prtB (c:Cd):Bool:=c.strs.any (fun b=>!textB b) || c.pri.any prB || c.vars.any vaB || c.ens.any (fun e=>!entB c e)
def insN (c:Cd) (k:Nat):Bool:=prtB c || (c.ins.take k).any (insP c)
def partC (c:Cd):Bool:=!(prtB c || c.ins.any (insP c))
theorem insN_zero (c:Cd):insN c 0=prtB c:=by simp [insN]
theorem take_any {α:Type} [Inhabited α] {p:α→Bool} {l:List α} {k:Nat} (h:k < l.length):(l.take (k+1)).any p=((l.take k).any p || p (l.getD k default)):=by
 rw [List.take_succ_eq_append_getElem h,List.any_append,List.getD_eq_getElem?_getD,List.getElem?_eq_getElem h]; simp
theorem insN_succ (c:Cd) {k:Nat} (h:k < c.ins.length):insN c (k+1)=(insN c k || insP c (c.ins.getD k default)):=by
 rw [insN,insN,take_any h,Bool.or_assoc]
theorem insN_all (c:Cd):insN c c.ins.length=(prtB c || c.ins.any (insP c)):=by rw [insN,List.take_length]
noncomputable def f143:=mkF Fit (fun c=>[cdA c]) (fun c=>bA (partC c))
theorem e143 (c:Cd) (h:Fit c):f143 [cdA c]=some (.sc (.bool (partC c))):=
 (mkF_eq (q:=Fit) (enc:=fun c=>[cdA c]) (out:=fun c=>bA (partC c)) c h (by
  intro b h
  simp only [List.cons.injEq,and_true] at h
  rw [cdA_inj h]) :)
theorem ok143:POk Tryz.prog 143 f143:=pok_mk <| by
 rintro c hq
 obtain ⟨q1,q2,q3,q4,q5,q6,q7,q8⟩:=hq
 have hq:Fit c:=⟨q1,q2,q3,q4,q5,q6,q7,q8⟩
 obtain ⟨F185,k185,e185⟩:=pok_at (hasS0 ok186 (fun b=>!textB b) c.zs c.strs (fun b hb=>e186 b (q8 b hb)) (by omega))
 obtain ⟨F116,k116,e116,e116'⟩:=pok_at2 (hasI0 ok188 prB c.zp c.pri (fun b _=>e188 b) (by omega)) (hasI0 ok189 vaB c.zv c.vars (fun b _=>e189 b) (by omega)) (by simp)
 obtain ⟨F190,k190,e190⟩:=pok_at (hasE1 ok191 (fun e=>!entB c e) [cdA c] c.ze c.ens (fun b _=>e191 c hq b) (by omega))
 have x1:=fun op=>e193 c hq op
 simp only [cdA_eq,bA_eq] at e190 e185 e116 e116' x1
 refine pspec_of_go (fEnv_ok ((.cons k185 (.cons k116 (.cons k190 (.cons ok193 (.cons ok184 (.cons ok194 .nil))))))) (.nil)) rfl Tryz.func143 rfl (by decide) (by kernel_rfl) (by kernel_rfl) ?_
 simp only [Tryz.f143,initSt,List.length_cons,List.length_nil,Nat.reduceAdd,Nat.reduceSub,List.replicate]
 refine vc_go ?_
 have hp:prtB c=(c.strs.any (fun b=>!textB b) || c.pri.any prB || c.vars.any vaB || c.ens.any (fun e=>!entB c e)):=rfl
 have hpc:partC c=!insN c c.ins.length:=by rw [insN_all]; rfl
 rw [hpc]
 obtain ⟨b1,hb1⟩:∃ b,c.strs.any (fun b=>!textB b)=b:=⟨_,rfl⟩
 obtain ⟨b2,hb2⟩:∃ b,c.pri.any prB=b:=⟨_,rfl⟩
 obtain ⟨b3,hb3⟩:∃ b,c.vars.any vaB=b:=⟨_,rfl⟩
 obtain ⟨b4,hb4⟩:∃ b,c.ens.any (fun e=>!entB c e)=b:=⟨_,rfl⟩
 rw [hb1] at e185 hp
 rw [hb2] at e116 hp
 rw [hb3] at e116' hp
 rw [hb4] at e190 hp
 clear hb1 hb2 hb3 hb4 hpc
 have h0:=insN_zero c
 rw [hp] at h0
 clear hp
 have hs:=fun k (hk:k < c.ins.length)=>insN_succ c hk
 obtain ⟨W,hW⟩:∃ W,insN c=W:=⟨_,rfl⟩
 rw [hW] at h0 hs ⊢
 clear hW
 simp (maxSteps:=10000000) +contextual -implicitDefEqProofs only [bnC,bnS,guardV,St.put,borrow,borrows,pin,pl,↓reduceIte,reduceCtorEq,Nat.reduceAdd,Nat.reduceEqDiff,bnT,Int.reduceAdd,bnH,bA_eq,cdA_eq,e185,e116,e116',e190]
 refine go_loopW (σ:=Nat) (fun k cnt=>⟨mkT 0 59 [(1,.pt 0 0 0 0),(3,.sc (.bool (W k))),(28,.vw c.zi (c.ins.map inA)),(29,.sc (.int .i64 c.ins.length)),(30,.sc (.int .i64 k))],[⟨true,0,36,7,[cdA c],false⟩],cnt⟩)
  (fun k=>k≤c.ins.length) (fun k=>c.ins.length - k) 0 (Nat.zero_le _) ?_ ?_ rfl ?_
 ·simp (maxSteps:=10000000) only [bnC,bnS,↓reduceIte,reduceCtorEq,Nat.reduceAdd,Nat.reduceEqDiff,mkT,lkT,h0]
 ·simp (maxSteps:=10000000) only [bnC,bnS,cdA_eq]
 rintro k cnt hk ih
 by_cases hk':k < c.ins.length
 rotate_left
 ·obtain rfl:k=c.ins.length:=by omega
  have h1:decide ((c.ins.length:Int) < (c.ins.length:Int))=false:=by simp
  refine vc_go ?_
  simp (maxSteps:=10000000) only [mkT,lkT,Nat.reduceAdd,Nat.reduceEqDiff,↓reduceIte,Nat.zero_add]
  simp (maxSteps:=10000000) +contextual -implicitDefEqProofs only [bnC,bnS,St.put,↓reduceIte,cdA_eq,h1]
  all_goals done
 have h1:decide ((k:Int) < (c.ins.length:Int))=true:=by rw [decide_eq_true_eq]; omega
 have h2:decide (k < c.ins.length)=true:=by rw [decide_eq_true_eq]; omega
 have w1:IntKind.i64.wrap ((k:Int)+1)=((k+1:Nat):Int):=by rw [wrap64 (by omega) (by omega)]; omega
 have hs:=hs k hk'
 have ih:=fun c=>ih (k+1) c hk' (by omega)
 rw [hs] at ih
 obtain ⟨⟨op,a⟩,hx⟩:∃ x,c.ins.getD k default=x:=⟨_,rfl⟩
 rw [hx] at ih
 have x1:=x1 op
 have x2:=e194 op
 obtain ⟨w,hw⟩:∃ w,W k=w:=⟨_,rfl⟩
 rw [hw] at ih ⊢
 simp only [insP] at ih
 refine vc_go ?_
 cases w with
 | true=>
  simp (maxSteps:=10000000) only [mkT,lkT,Nat.reduceAdd,Nat.reduceEqDiff,↓reduceIte,Nat.zero_add]
  simp (maxSteps:=10000000) +contextual -implicitDefEqProofs only [bnC,bnS,guardV,St.put,borrow,borrows,pin,pl,↓reduceIte,reduceCtorEq,Nat.reduceAdd,Nat.reduceEqDiff,Int.reduceLT,Nat.reduceLT,bnT,bnX,Int.reduceAdd,bnH,inA_eq,cdA_eq,norefs,AV.noref,h1,h2,hx,ldV_mapN,allSz_inA,x1,w1]
  refine go_weak ?_ ?_ (Nat.le_refl _) (ih _)
  all_goals simp (maxSteps:=10000000) only [bnC,bnS,↓reduceIte,reduceCtorEq,Nat.reduceAdd,Nat.reduceEqDiff,mkT,lkT,cdA_eq]
  all_goals done
 | false=>
  cases hj:jmpO op with
  | true=>
   rw [hj] at x2 ih
   simp (maxSteps:=10000000) only [mkT,lkT,Nat.reduceAdd,Nat.reduceEqDiff,↓reduceIte,Nat.zero_add]
   simp (maxSteps:=10000000) +contextual -implicitDefEqProofs only [bnC,bnS,guardV,St.put,borrow,borrows,pin,pl,↓reduceIte,reduceCtorEq,Nat.reduceAdd,Nat.reduceEqDiff,Int.reduceLT,Nat.reduceLT,bnT,bnX,Int.reduceAdd,bnH,inA_eq,cdA_eq,norefs,AV.noref,h1,h2,hx,ldV_mapN,allSz_inA,x1,x2,w1]
   refine go_weak ?_ ?_ (Nat.le_refl _) (ih _)
   all_goals simp (maxSteps:=10000000) only [bnC,bnS,↓reduceIte,reduceCtorEq,Nat.reduceAdd,Nat.reduceEqDiff,mkT,lkT,cdA_eq]
   all_goals done
  | false=>
   rw [hj] at x2 ih
   simp (maxSteps:=10000000) only [mkT,lkT,Nat.reduceAdd,Nat.reduceEqDiff,↓reduceIte,Nat.zero_add]
   simp (maxSteps:=10000000) +contextual -implicitDefEqProofs only [bnC,bnS,guardV,St.put,borrow,borrows,pin,pl,↓reduceIte,reduceCtorEq,Nat.reduceAdd,Nat.reduceEqDiff,Int.reduceLT,Nat.reduceLT,bnT,bnX,Int.reduceAdd,bnH,inA_eq,cdA_eq,norefs,AV.noref,h1,h2,hx,ldV_mapN,allSz_inA,x1,x2,e99,w1]
   refine go_weak ?_ ?_ (Nat.le_refl _) (ih _)
   all_goals simp (maxSteps:=10000000) only [bnC,bnS,↓reduceIte,reduceCtorEq,Nat.reduceAdd,Nat.reduceEqDiff,mkT,lkT,cdA_eq]
   all_goals done
end Go.Proofs.YtdjpkhjaibdogaaGreat
