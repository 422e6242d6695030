/-
  Joined texts: EF, EG, EH, EI, EJ, EK, EL, EM.
  Conditions: none.
-/
import Derived.Test.YtdjpkhjaibdogaaGreatL42
namespace Go.Proofs.YtdjpkhjaibdogaaGreat
open Go Go.SX
set_option linter.unusedSimpArgs false
set_option linter.unusedVariables false
attribute [local congr] ite_congr
set_option maxRecDepth 100000
set_option maxHeartbeats 8000000
def nx (l:List Nat) (i n:Nat):Nat:=if l.length≤i then 0 else l.getD i default % n
theorem nx_lt {l:List Nat} {i n:Nat} (h:0 < n):nx l i n < n:=by
 unfold nx; split
 ·exact h
 ·exact Nat.mod_lt _ h
def nxQ (p:(Bool × List Nat) × Nat × Nat):Prop:=(∀ x ∈ p.1.2,x < 256)∧0 < p.2.2∧p.2.2≤1000∧p.2.1≤1000000
noncomputable def f84:=mkF nxQ (fun p=>[.vw p.1.1 (p.1.2.map uA),.sc (.int .i64 (p.2.1:Int)),.sc (.int .i64 (p.2.2:Int))]) (fun p=>.sc (.int .i64 (nx p.1.2 p.2.1 p.2.2:Nat)))
theorem e84 (z:Bool) (l:List Nat) (i n:Nat) (N:Int) (hN:N=(n:Int)) (h:∀ x ∈ l,x < 256) (h1:0 < n) (h2:n≤1000) (h3:i≤1000000):
  f84 [.vw z (l.map uA),.sc (.int .i64 (i:Int)),.sc (.int .i64 N)]=some (.sc (.int .i64 (nx l i n:Nat))):=by
 subst hN
 exact (mkF_eq (q:=nxQ) (enc:=fun p=>[.vw p.1.1 (p.1.2.map uA),.sc (.int .i64 (p.2.1:Int)),.sc (.int .i64 (p.2.2:Int))]) (out:=fun p=>.sc (.int .i64 (nx p.1.2 p.2.1 p.2.2:Nat))) ((z,l),i,n) ⟨h,h1,h2,h3⟩ (by
  rintro ⟨⟨a,b⟩,c,d⟩ h
  simp only [List.cons.injEq,AV.vw.injEq,AV.sc.injEq,Value.int.injEq,map_uA,and_true,true_and] at h
  obtain ⟨⟨rfl,rfl⟩,h1,h2⟩:=h
  obtain rfl:c=i:=by omega
  obtain rfl:d=n:=by omega
  rfl) :)
theorem ok84:POk Tryz.prog 84 f84:=pok_mk <| by
 rintro ⟨⟨z,l⟩,i,n⟩ ⟨h,h1,h2,h3⟩
 simp only at h h1 h2 h3 ⊢
 have hu:=u8ok h i
 refine pspec_of_go (fEnv_ok (.nil) (.nil)) rfl Tryz.func84 rfl (by decide) (by kernel_rfl) (by kernel_rfl) ?_
 simp only [Tryz.f84,initSt,List.length_cons,List.length_nil,Nat.reduceAdd,Nat.reduceSub,List.replicate]
 refine vc_go ?_
 by_cases hi:l.length≤i
 ·have g1:decide ((l.length:Int)≤(i:Int))=true:=by rw [decide_eq_true_eq]; omega
  rw [nx,if_pos hi]
  simp (maxSteps:=10000000) +contextual -implicitDefEqProofs only [bnC,bnS,St.put,↓reduceIte,bnT,g1]
  all_goals done
 ·have g1:decide ((l.length:Int)≤(i:Int))=false:=by rw [decide_eq_false_iff_not]; omega
  have g2:decide ((i:Int) < (l.length:Int))=true:=by rw [decide_eq_true_eq]; omega
  have g3:decide (i < l.length)=true:=by rw [decide_eq_true_eq]; omega
  obtain ⟨x,hx⟩:∃ x,l.getD i default=x:=⟨_,rfl⟩
  rw [hx] at hu
  have w3:IntKind.i64.wrap (x:Int)=(x:Int):=wrap64 (by omega) (by omega)
  have hz:¬ (n:Int)=0:=by omega
  have hr:Int.tmod (x:Int) (n:Int)=((x % n:Nat):Int):=rfl
  rw [nx,if_neg hi,hx]
  simp (maxSteps:=10000000) +contextual -implicitDefEqProofs only [bnC,bnS,St.put,↓reduceIte,ne_eq,bnT,AV.noref,g1,g2,g3,w3,hx,hz,hr,allSz_uA,uA_eq,get_mapN]
  all_goals done
def evN (i:Nat):Int:=[0,1,2,7,-1,-5,100,2147483647,-2147483647,65536].getD i 0
def etN (i:Nat):Int:=[0,0,1,50,2147483647].getD i 0
theorem ev_get {q:Nat} (h:q < 10):([.sc (.int .i64 0),.sc (.int .i64 1),.sc (.int .i64 2),.sc (.int .i64 7),.sc (.int .i64 (-1)),.sc (.int .i64 (-5)),.sc (.int .i64 100),.sc (.int .i64 2147483647),.sc (.int .i64 (-2147483647)),.sc (.int .i64 65536)]:List AV)[q]?=some (.sc (.int .i64 (evN q))):=by
 have:q=0∨q=1∨q=2∨q=3∨q=4∨q=5∨q=6∨q=7∨q=8∨q=9:=by omega
 rcases this with rfl | rfl | rfl | rfl | rfl | rfl | rfl | rfl | rfl | rfl <;> rfl
theorem et_get {q:Nat} (h:q < 5):([.sc (.int .i64 0),.sc (.int .i64 0),.sc (.int .i64 1),.sc (.int .i64 50),.sc (.int .i64 2147483647)]:List AV)[q]?=some (.sc (.int .i64 (etN q))):=by
 have:q=0∨q=1∨q=2∨q=3∨q=4:=by omega
 rcases this with rfl | rfl | rfl | rfl | rfl <;> rfl
def evL (l:List Nat) (n:Nat):List Int:=(List.range n).map fun i=>evN (nx l i 10)
def etL (l:List Nat) (k n:Nat):List Int:=(List.range n).map fun i=>etN (nx l (k+i) 5)
def cloN (l:List Nat) (k:Nat):Nat→Int
 | 0=>0
 | i+1=>ibit .or .u64 (ishl .u64 (cloN l k i) 8) (IntKind.u64.wrap (nx l (k+i) 256:Nat))
def timN (c:Cd):Nat:=(min c.tim 200).toNat
def actN (c:Cd) (l:List Nat):Int:=
 ibit .and .u32 (IntKind.u32.wrap (nx l (c.vars.length+timN c+8) 256:Nat)) (IntKind.u32.wrap (ishl .u32 1 ((min c.pri.length 16:Nat):Int) - 1))
def envC (c:Cd) (l:List Nat):Vn:=
 let k:=c.vars.length+timN c
 ⟨false,evL l c.vars.length,false,etL l c.vars.length (timN c),cloN l k 8,actN c l,(nx l (k+9) 5:Nat),(nx l (k+10) 4:Nat)⟩
theorem env_spec (c:Cd) (hq:Fit c) (z:Bool) (l:List Nat) (h8:∀ x ∈ l,x < 256):FSpec Tryz.prog 44 [cdA c,.vw z (l.map uA)] (vnA (envC c l)):=by
 have hfv:=hq.vars
 have hft:=hq.tim
 have hfp:=hq.pri
 obtain ⟨RES,hRES⟩:∃ R,envC c l=R:=⟨_,rfl⟩
 rw [hRES]
 refine fspecW_of_go (gEnv_ok (lit:=false) (pm:=fun _=>none) (.cons ok84 .nil) .nil .nil .nil) rfl Tryz.func44 rfl (by decide) (by kernel_rfl) (noref_vnA _) ?_
 simp only [Tryz.f44,initSt,List.length_cons,List.length_nil,Nat.reduceAdd,Nat.reduceSub,List.replicate]
 refine vc_go ?_
 simp (maxSteps:=10000000) +contextual -implicitDefEqProofs only [bnC,bnS,St.put,Nat.reduceAdd,bnT,Int.reduceAdd,bnH,cdA_eq,vnA_eq]
 refine go_weak (T':=mkT 0 96 [(1,.vw z (l.map uA)),(2,.pt 0 0 0 0),(4,.pt 1 1 0 0),(5,.pt 2 2 0 0),(6,.sc (.int .i64 0))]) (H':=[⟨true,0,36,7,[cdA c],false⟩,⟨true,1,104,6,[.ag [.vw true [],.vw true [],.sc (.int .u64 0),.sc (.int .u32 0),.sc (.int .i64 0),.sc (.int .i64 0)]],false⟩,⟨true,2,104,6,[.ag [.vw true [],.vw true [],.sc (.int .u64 0),.sc (.int .u32 0),.sc (.int .i64 0),.sc (.int .i64 0)]],false⟩]) ?_ ?_ (Nat.le_refl _) ?_
 ·simp (maxSteps:=10000000) only [bnC,bnS,↓reduceIte,reduceCtorEq,Nat.reduceAdd,Nat.reduceEqDiff,mkT,lkT]
 ·simp (maxSteps:=10000000) only [bnC,bnS,cdA_eq]
 refine go_nil (T':=mkT 0 96 [(1,.vw z (l.map uA)),(2,.pt 0 0 0 0),(4,.pt 1 1 0 0),(5,.pt 2 2 0 0),(6,.sc (.int .i64 0))]) (H':=[⟨true,0,36,7,[cdA c],false⟩,⟨true,1,104,6,[.ag [.vw true [],.vw true [],.sc (.int .u64 0),.sc (.int .u32 0),.sc (.int .i64 0),.sc (.int .i64 0)]],false⟩,⟨true,2,104,6,[.ag [.sl 3 3 0 0,.vw true [],.sc (.int .u64 0),.sc (.int .u32 0),.sc (.int .i64 0),.sc (.int .i64 0)]],false⟩]) 3 3 1 4 (by omega) (by omega) (nwL_refl _ _ _) ?_ ?_
 ·simp only [nwH_cons,nwH_nil,and_true]
  exact ⟨.inl rfl,.inl rfl,nwB_mk _ _ _ _ _ _ _ _ _ _ ⟨nwV_ag ⟨.nil,nwL_refl _ _ _⟩,trivial⟩⟩
 simp only [List.cons_append,List.nil_append,List.length_cons,List.length_nil,Nat.reduceAdd]
 refine go_nil (T':=mkT 0 96 [(1,.vw z (l.map uA)),(2,.pt 0 0 0 0),(4,.pt 1 1 0 0),(5,.pt 2 2 0 0),(6,.sc (.int .i64 0))]) (H':=[⟨true,0,36,7,[cdA c],false⟩,⟨true,1,104,6,[.ag [.vw true [],.vw true [],.sc (.int .u64 0),.sc (.int .u32 0),.sc (.int .i64 0),.sc (.int .i64 0)]],false⟩,⟨true,2,104,6,[.ag [.sl 3 3 0 0,.sl 4 4 0 0,.sc (.int .u64 0),.sc (.int .u32 0),.sc (.int .i64 0),.sc (.int .i64 0)]],false⟩,⟨true,3,3,1,[],false⟩]) 4 3 1 5 (by omega) (by omega) (nwL_refl _ _ _) ?_ ?_
 ·simp only [nwH_cons,nwH_nil,and_true]
  exact ⟨.inl rfl,.inl rfl,nwB_mk _ _ _ _ _ _ _ _ _ _ ⟨nwV_ag ⟨.refl _,.nil,nwL_refl _ _ _⟩,trivial⟩,.inl rfl⟩
 simp only [List.cons_append,List.nil_append,List.length_cons,List.length_nil,Nat.reduceAdd]
 refine go_loopW (σ:=Nat × Nat) (fun y cnt=>⟨mkT 0 96 [(1,.vw z (l.map uA)),(2,.pt 0 0 0 0),(4,.pt 1 1 0 0),(5,.pt 2 2 0 0),(6,.sc (.int .i64 (y.1:Int)))],
  [⟨true,0,36,7,[cdA c],false⟩,⟨true,1,104,6,[.ag [.vw true [],.vw true [],.sc (.int .u64 0),.sc (.int .u32 0),.sc (.int .i64 0),.sc (.int .i64 0)]],false⟩,⟨true,2,104,6,[.ag [.sl 3 y.2 0 y.1,.sl 4 4 0 0,.sc (.int .u64 0),.sc (.int .u32 0),.sc (.int .i64 0),.sc (.int .i64 0)]],false⟩,⟨true,y.2,3,1,(evL l y.1).map (kA .i64),false⟩,⟨true,4,3,1,[],false⟩],cnt⟩)
  (fun y=>y.1≤c.vars.length) (fun y=>c.vars.length - y.1) (0,3) (Nat.zero_le _) ?_ ?_ rfl ?_
 ·simp (maxSteps:=10000000) only [bnC,bnS,↓reduceIte,reduceCtorEq,Nat.reduceAdd,Nat.reduceEqDiff,mkT,lkT]
 ·simp (maxSteps:=10000000) only [bnC,bnS,cdA_eq,evL,List.range_zero]
 rintro ⟨k,v3⟩ cnt hk ih
 simp only at hk
 by_cases hk':k < c.vars.length
 ·have h1:decide ((k:Int) < (c.vars.length:Int))=true:=by rw [decide_eq_true_eq]; omega
  have w1:IntKind.i64.wrap ((k:Int)+1)=((k+1:Nat):Int):=by rw [wrap64 (by omega) (by omega)]; omega
  have E1:=e84 z l k 10 10 rfl h8 (by omega) (by omega) (by omega)
  have hq1:=nx_lt (l:=l) (i:=k) (n:=10) (by omega)
  have ha:(evL l k).map (kA .i64)++[AV.sc (.int .i64 (evN (nx l k 10)))]=(evL l (k+1)).map (kA .i64):=by rw [evL,evL,List.range_succ,List.map_append,List.map_append]; rfl
  obtain ⟨q,hq1'⟩:∃ q,nx l k 10=q:=⟨_,rfl⟩
  rw [hq1'] at E1 hq1 ha
  have g1:decide ((q:Int) < 10)=true:=by rw [decide_eq_true_eq]; omega
  have g2:=ev_get hq1
  have hln:(evL l k).length=k:=by simp [evL]
  have hsz:decide ((k+1) * 8≤140737488355328)=true:=by rw [decide_eq_true_eq]; omega
  have ht:List.take k ((evL l k).map (kA .i64))=(evL l k).map (kA .i64):=List.take_of_length_le (by simp [hln])
  have ih:=fun v c=>ih (k+1,v) c (by simp only; omega) (by simp only; omega)
  simp only at ih
  refine vc_go ?_
  simp (maxSteps:=10000000) only [mkT,lkT,Nat.reduceAdd,Nat.reduceEqDiff,↓reduceIte,Nat.zero_add]
  simp (maxSteps:=10000000) +contextual -implicitDefEqProofs only [bnC,bnS,St.put,borrow,borrows,pin,pl,↓reduceIte,reduceCtorEq,Nat.reduceAdd,Nat.reduceLeDiff,Nat.reduceMul,Int.reduceLT,Nat.reduceLT,bnT,Int.reduceAdd,Int.reduceMul,bnH,hin,cdA_eq,norefs,AV.noref,h1,w1,E1,g1,g2,rep10,hsz,ht,ha]
  repeat' (first | exact chk_no (by kernel_rfl) | refine ⟨chk_no (by kernel_rfl),?_⟩ | refine And.intro ?_ ?_ | fail)
  refine go_weak ?_ ?_ (Nat.le_refl _) (ih (cnt+1+1) _)
  all_goals simp (maxSteps:=10000000) only [bnC,bnS,↓reduceIte,reduceCtorEq,Nat.reduceAdd,Nat.reduceEqDiff,mkT,lkT,cdA_eq]
  all_goals done
 obtain rfl:k=c.vars.length:=by omega
 have h1:decide ((c.vars.length:Int) < (c.vars.length:Int))=false:=by simp
 clear ih
 refine vc_go ?_
 simp (maxSteps:=10000000) only [mkT,lkT,Nat.reduceAdd,Nat.reduceEqDiff,↓reduceIte,Nat.zero_add]
 simp (maxSteps:=10000000) +contextual -implicitDefEqProofs only [bnC,bnS,St.put,↓reduceIte,reduceCtorEq,bnT,bnH,cdA_eq,h1]
 clear h1
 refine go_loopW (σ:=Nat × Nat) (fun y cnt=>⟨mkT 0 96 [(1,.vw z (l.map uA)),(2,.pt 0 0 0 0),(4,.pt 1 1 0 0),(5,.pt 2 2 0 0),(7,.sc (.int .i64 c.vars.length)),(8,.sc (.int .i64 (y.1:Int)))],
  [⟨true,0,36,7,[cdA c],false⟩,⟨true,1,104,6,[.ag [.vw true [],.vw true [],.sc (.int .u64 0),.sc (.int .u32 0),.sc (.int .i64 0),.sc (.int .i64 0)]],false⟩,⟨true,2,104,6,[.ag [.sl 3 v3 0 c.vars.length,.sl 4 y.2 0 y.1,.sc (.int .u64 0),.sc (.int .u32 0),.sc (.int .i64 0),.sc (.int .i64 0)]],false⟩,⟨true,v3,3,1,(evL l c.vars.length).map (kA .i64),false⟩,⟨true,y.2,3,1,(etL l c.vars.length y.1).map (kA .i64),false⟩],cnt⟩)
  (fun y=>y.1≤timN c) (fun y=>timN c - y.1) (0,4) (Nat.zero_le _) ?_ ?_ rfl ?_
 ·simp (maxSteps:=10000000) only [bnC,bnS,↓reduceIte,reduceCtorEq,Nat.reduceAdd,Nat.reduceEqDiff,mkT,lkT]
 ·simp (maxSteps:=10000000) only [bnC,bnS,cdA_eq,etL,List.range_zero]
 clear hk
 rintro ⟨k,v4⟩ cnt hk ih
 simp only at hk
 have htn:timN c≤200:=by unfold timN; omega
 by_cases hk':k < timN c
 ·have h1:decide ((k:Int) < min c.tim 200)=true:=by
   rw [decide_eq_true_eq]; unfold timN at hk'; omega
  have w1:IntKind.i64.wrap ((k:Int)+1)=((k+1:Nat):Int):=by rw [wrap64 (by omega) (by omega)]; omega
  have w2:IntKind.i64.wrap ((c.vars.length:Int)+(k:Int))=((c.vars.length+k:Nat):Int):=by rw [wrap64 (by omega) (by omega)]; omega
  have E1:=e84 z l (c.vars.length+k) 5 5 rfl h8 (by omega) (by omega) (by omega)
  have hq1:=nx_lt (l:=l) (i:=c.vars.length+k) (n:=5) (by omega)
  have ha:(etL l c.vars.length k).map (kA .i64)++[AV.sc (.int .i64 (etN (nx l (c.vars.length+k) 5)))]=(etL l c.vars.length (k+1)).map (kA .i64):=by rw [etL,etL,List.range_succ,List.map_append,List.map_append]; rfl
  obtain ⟨q,hq1'⟩:∃ q,nx l (c.vars.length+k) 5=q:=⟨_,rfl⟩
  rw [hq1'] at E1 hq1 ha
  have g1:decide ((q:Int) < 5)=true:=by rw [decide_eq_true_eq]; omega
  have g2:=et_get hq1
  have hln:(etL l c.vars.length k).length=k:=by simp [etL]
  have hsz:decide ((k+1) * 8≤140737488355328)=true:=by rw [decide_eq_true_eq]; omega
  have ht:List.take k ((etL l c.vars.length k).map (kA .i64))=(etL l c.vars.length k).map (kA .i64):=List.take_of_length_le (by simp [hln])
  have ih:=fun v c=>ih (k+1,v) c (by simp only; omega) (by simp only; omega)
  simp only at ih
  refine vc_go ?_
  simp (maxSteps:=10000000) only [mkT,lkT,Nat.reduceAdd,Nat.reduceEqDiff,↓reduceIte,Nat.zero_add]
  simp (maxSteps:=10000000) +contextual -implicitDefEqProofs only [bnC,bnS,St.put,borrow,borrows,pin,pl,↓reduceIte,reduceCtorEq,Nat.reduceAdd,Nat.reduceLeDiff,Nat.reduceMul,Int.reduceLT,Nat.reduceLT,bnT,Int.reduceAdd,Int.reduceMul,bnH,hin,cdA_eq,norefs,AV.noref,h1,w1,w2,E1,g1,g2,hsz,ht,ha]
  repeat' (first | exact chk_no (by kernel_rfl) | refine ⟨chk_no (by kernel_rfl),?_⟩ | refine And.intro ?_ ?_ | fail)
  refine go_weak ?_ ?_ (Nat.le_refl _) (ih (cnt+1+1) _)
  all_goals simp (maxSteps:=10000000) only [bnC,bnS,↓reduceIte,reduceCtorEq,Nat.reduceAdd,Nat.reduceEqDiff,mkT,lkT,cdA_eq]
  all_goals done
 obtain rfl:k=timN c:=by omega
 have h1:decide (((timN c:Nat):Int) < min c.tim 200)=false:=by
  rw [decide_eq_false_iff_not]; unfold timN; omega
 have w2:IntKind.i64.wrap ((c.vars.length:Int)+((timN c:Nat):Int))=((c.vars.length+timN c:Nat):Int):=by rw [wrap64 (by omega) (by omega)]; omega
 clear ih
 refine vc_go ?_
 simp (maxSteps:=10000000) only [mkT,lkT,Nat.reduceAdd,Nat.reduceEqDiff,↓reduceIte,Nat.zero_add]
 simp (maxSteps:=10000000) +contextual -implicitDefEqProofs only [bnC,bnS,St.put,↓reduceIte,reduceCtorEq,bnT,bnH,cdA_eq,h1,w2]
 clear h1 w2
 obtain ⟨m,hm⟩:∃ m,c.vars.length+timN c=m:=⟨_,rfl⟩
 simp only [hm]
 refine go_loopW (σ:=Nat) (fun y cnt=>⟨mkT 0 96 [(1,.vw z (l.map uA)),(2,.pt 0 0 0 0),(4,.pt 1 1 0 0),(5,.pt 2 2 0 0),(7,.sc (.int .i64 m)),(9,.sc (.int .i64 (y:Int)))],
  [⟨true,0,36,7,[cdA c],false⟩,⟨true,1,104,6,[.ag [.vw true [],.vw true [],.sc (.int .u64 0),.sc (.int .u32 0),.sc (.int .i64 0),.sc (.int .i64 0)]],false⟩,⟨true,2,104,6,[.ag [.sl 3 v3 0 c.vars.length,.sl 4 v4 0 (timN c),.sc (.int .u64 (cloN l m y)),.sc (.int .u32 0),.sc (.int .i64 0),.sc (.int .i64 0)]],false⟩,⟨true,v3,3,1,(evL l c.vars.length).map (kA .i64),false⟩,⟨true,v4,3,1,(etL l c.vars.length (timN c)).map (kA .i64),false⟩],cnt⟩)
  (fun y=>y≤8) (fun y=>8 - y) 0 (Nat.zero_le _) ?_ ?_ rfl ?_
 ·simp (maxSteps:=10000000) only [bnC,bnS,↓reduceIte,reduceCtorEq,Nat.reduceAdd,Nat.reduceEqDiff,mkT,lkT]
 ·simp (maxSteps:=10000000) only [bnC,bnS,cdA_eq,cloN]
 clear hk
 rintro k cnt hk ih
 have hk:k≤8:=hk
 have hml:m≤200000:=by omega
 by_cases hk':k < 8
 ·have h1:decide ((k:Int) < 8)=true:=by rw [decide_eq_true_eq]; omega
  have w1:IntKind.i64.wrap ((k:Int)+1)=((k+1:Nat):Int):=by rw [wrap64 (by omega) (by omega)]; omega
  have w2:IntKind.i64.wrap ((m:Int)+(k:Int))=((m+k:Nat):Int):=by rw [wrap64 (by omega) (by omega)]; omega
  have E1:=e84 z l (m+k) 256 256 rfl h8 (by omega) (by omega) (by omega)
  have hcs:cloN l m (k+1)=ibit .or .u64 (ishl .u64 (cloN l m k) 8) (IntKind.u64.wrap (nx l (m+k) 256:Nat)):=rfl
  have ih:=fun c=>ih (k+1) c (show k+1≤8 by omega) (show 8 - (k+1) < 8 - k by omega)
  simp only [hcs] at ih
  refine vc_go ?_
  simp (maxSteps:=10000000) only [mkT,lkT,Nat.reduceAdd,Nat.reduceEqDiff,↓reduceIte,Nat.zero_add]
  simp (maxSteps:=10000000) +contextual -implicitDefEqProofs only [bnC,bnS,St.put,borrow,borrows,pin,pl,↓reduceIte,reduceCtorEq,Nat.reduceAdd,Nat.reduceLeDiff,Int.reduceLT,Nat.reduceLT,bnT,Int.reduceAdd,bnH,hin,cdA_eq,h1,w1,w2,E1]
  repeat' (first | exact chk_no (by kernel_rfl) | refine ⟨chk_no (by kernel_rfl),?_⟩ | refine And.intro ?_ ?_ | fail)
  refine go_weak ?_ ?_ (Nat.le_refl _) (ih _)
  all_goals simp (maxSteps:=10000000) only [bnC,bnS,↓reduceIte,reduceCtorEq,Nat.reduceAdd,Nat.reduceEqDiff,mkT,lkT,cdA_eq]
  all_goals done
 obtain rfl:k=8:=by omega
 have h1:decide (((8:Nat):Int) < 8)=false:=by decide
 have w8:IntKind.i64.wrap ((m:Int)+8)=((m+8:Nat):Int):=by rw [wrap64 (by omega) (by omega)]; omega
 have w9:IntKind.i64.wrap ((m:Int)+9)=((m+9:Nat):Int):=by rw [wrap64 (by omega) (by omega)]; omega
 have w10:IntKind.i64.wrap ((m:Int)+10)=((m+10:Nat):Int):=by rw [wrap64 (by omega) (by omega)]; omega
 have E1:=e84 z l (m+8) 256 256 rfl h8 (by omega) (by omega) (by omega)
 have E2:=e84 z l (m+9) 5 5 rfl h8 (by omega) (by omega) (by omega)
 have E3:=e84 z l (m+10) 4 4 rfl h8 (by omega) (by omega) (by omega)
 clear ih
 have hln:(etL l c.vars.length (timN c)).length=timN c:=by simp [etL]
 have hln3:(evL l c.vars.length).length=c.vars.length:=by simp [evL]
 have ht:List.take (timN c) ((etL l c.vars.length (timN c)).map (kA .i64))=(etL l c.vars.length (timN c)).map (kA .i64):=List.take_of_length_le (by simp [hln])
 have ht3:List.take c.vars.length ((evL l c.vars.length).map (kA .i64))=(evL l c.vars.length).map (kA .i64):=List.take_of_length_le (by simp [hln3])
 have hR:RES=⟨false,evL l c.vars.length,false,etL l c.vars.length (timN c),cloN l m 8,actN c l,(nx l (m+9) 5:Nat),(nx l (m+10) 4:Nat)⟩:=by rw [←hRES,←hm]; rfl
 rw [hR]
 have hmin:min (c.pri.length:Int) 16=((min c.pri.length 16:Nat):Int):=by omega
 have hmw:IntKind.u64.wrap ((min c.pri.length 16:Nat):Int)=((min c.pri.length 16:Nat):Int):=wrap_u64s (by omega) (by omega)
 have hact:actN c l=ibit .and .u32 (IntKind.u32.wrap (nx l (m+8) 256:Nat)) (IntKind.u32.wrap (ishl .u32 1 ((min c.pri.length 16:Nat):Int) - 1)):=by rw [actN,hm]
 refine vc_go ?_
 simp (maxSteps:=10000000) only [mkT,lkT,Nat.reduceAdd,Nat.reduceEqDiff,↓reduceIte,Nat.zero_add]
 simp (maxSteps:=10000000) +contextual -implicitDefEqProofs only [bnC,bnS,St.put,borrow,borrows,pin,pl,↓reduceIte,reduceCtorEq,Nat.reduceAdd,Nat.reduceLeDiff,Int.reduceLT,Nat.reduceLT,bnT,Int.reduceAdd,bnH,hin,cdA_eq,w8,w9,w10,E1,E2,E3,ht,ht3,hmin,hmw,←hact]
 repeat' (first | exact chk_no (by kernel_rfl) | refine ⟨chk_no (by kernel_rfl),?_⟩ | refine And.intro ?_ ?_ | fail)
 all_goals first | (simp [AV.freshIn,freshsIn,liveB,freshs,AV.fresh,freshs_k64]; done) | skip
 all_goals done
def cuQ (p:Cd × Bool × List Nat):Prop:=Fit p.1∧∀ x ∈ p.2.2,x < 256
noncomputable def f44:=mkF cuQ (fun p=>[cdA p.1,.vw p.2.1 (p.2.2.map uA)]) (fun p=>vnA (envC p.1 p.2.2))
theorem e44 (c:Cd) (h:Fit c) (z:Bool) (l:List Nat) (h8:∀ x ∈ l,x < 256):f44 [cdA c,.vw z (l.map uA)]=some (vnA (envC c l)):=
 (mkF_eq (q:=cuQ) (enc:=fun p=>[cdA p.1,.vw p.2.1 (p.2.2.map uA)]) (out:=fun p=>vnA (envC p.1 p.2.2)) (c,z,l) ⟨h,h8⟩ (by
  rintro ⟨a,b,d⟩ h
  simp only [List.cons.injEq,AV.vw.injEq,map_uA,and_true] at h
  rw [cdA_inj h.1,h.2.1,h.2.2]) :)
theorem ok44:FOk Tryz.prog 44 f44:=fok_mk <| by
 rintro ⟨c,z,l⟩ ⟨h1,h2⟩
 exact env_spec c h1 z l h2
end Go.Proofs.YtdjpkhjaibdogaaGreat

namespace Go.Proofs.YtdjpkhjaibdogaaGreat
open Go Go.SX
set_option linter.unusedSimpArgs false
set_option linter.unusedVariables false
attribute [local congr] ite_congr
set_option maxRecDepth 100000
set_option maxHeartbeats 8000000
def stQ (l:List Nat) (act:Int) (n:Nat):Bool:=actB act (n / 3:Nat) && decide (n < l.length) && decide (0 < l.getD n default % 3)
def stX (l:List Nat) (n:Nat):Lo:=⟨(n / 3:Nat),(9 * (n % 3):Nat),⟨(l.getD n default % 9:Nat),0,0,0⟩⟩
def stN (l:List Nat) (act:Int):Nat→List Lo
 | 0=>[]
 | n+1=>if stQ l act n then stN l act n++[stX l n] else stN l act n
theorem stN_len (l:List Nat) (act:Int):∀ n,(stN l act n).length≤n
 | 0=>by simp [stN]
 | n+1=>by
  have:=stN_len l act n
  rw [stN]; split
  ·simp; omega
  ·omega
def stateC (c:Cd) (l:List Nat):Rs:=⟨false,(envC c l).vars,false,(envC c l).left,(envC c l).act,false,stN l (envC c l).act (3 * c.pri.length),0⟩
theorem state_spec (c:Cd) (hq:Fit c) (z:Bool) (l:List Nat) (h8:∀ x ∈ l,x < 256):VSpec Tryz.prog 15 [cdA c,.vw z (l.map uA)] (rsA (stateC c l)):=by
 have hfp:=hq.pri
 have E1:=e44 c hq z l h8
 have hE:(envC c l).zv=false∧(envC c l).zl=false:=⟨rfl,rfl⟩
 obtain ⟨RES,hRES⟩:∃ R,stateC c l=R:=⟨_,rfl⟩
 rw [hRES]
 rw [stateC] at hRES
 generalize envC c l=V at E1 hE hRES
 have hR:RES=⟨false,V.vars,false,V.left,V.act,false,stN l V.act (3 * c.pri.length),0⟩:=hRES.symm
 rw [hR]
 clear hR hRES
 simp only [cdA_eq,vnA_eq,hE.1,hE.2] at E1
 refine vspecW_of_go (gEnv_ok (lit:=false) (pm:=fun _=>none) .nil .nil (.cons ok44 .nil) .nil) rfl Tryz.func15 rfl (by decide) (by kernel_rfl) (noref_rsA _) ?_
 simp only [Tryz.f15,initSt,List.length_cons,List.length_nil,Nat.reduceAdd,Nat.reduceSub,List.replicate]
 refine vc_go ?_
 simp (maxSteps:=10000000) +contextual -implicitDefEqProofs only [bnC,bnS,St.put,borrow,borrows,pin,pl,↓reduceIte,reduceCtorEq,Nat.reduceAdd,Nat.reduceLeDiff,Int.reduceLT,Nat.reduceLT,bnT,Int.reduceAdd,bnH,hin,cdA_eq,rsA_eq,E1]
 refine go_weak (T':=mkT 0 73 [(1,.vw z (l.map uA)),(2,.pt 0 0 0 0),(4,.pt 1 1 0 0),(5,.pt 2 2 0 0),(6,.pt 3 3 0 0),(7,.sc (.int .i64 0))]) (H':=[⟨true,0,36,7,[cdA c],false⟩,⟨true,1,41,5,[.ag [.vw true [],.vw true [],.sc (.int .u32 0),.vw true [],.sc (.int .i64 0)]],false⟩,⟨true,2,104,6,[vnA V],false⟩,⟨true,3,41,5,[.ag [.vw false (V.vars.map (kA .i64)),.vw false (V.left.map (kA .i64)),.sc (.int .u32 V.act),.vw true [],.sc (.int .i64 0)]],false⟩]) ?_ ?_ (Nat.le_refl _) ?_
 ·simp (maxSteps:=10000000) only [bnC,bnS,↓reduceIte,reduceCtorEq,Nat.reduceAdd,Nat.reduceEqDiff,mkT,lkT]
 ·simp (maxSteps:=10000000) only [bnC,bnS,cdA_eq,vnA_eq,hE.1,hE.2]
 refine go_nil (T':=mkT 0 73 [(1,.vw z (l.map uA)),(2,.pt 0 0 0 0),(4,.pt 1 1 0 0),(5,.pt 2 2 0 0),(6,.pt 3 3 0 0),(7,.sc (.int .i64 0))]) (H':=[⟨true,0,36,7,[cdA c],false⟩,⟨true,1,41,5,[.ag [.vw true [],.vw true [],.sc (.int .u32 0),.vw true [],.sc (.int .i64 0)]],false⟩,⟨true,2,104,6,[vnA V],false⟩,⟨true,3,41,5,[.ag [.vw false (V.vars.map (kA .i64)),.vw false (V.left.map (kA .i64)),.sc (.int .u32 V.act),.sl 4 4 0 0,.sc (.int .i64 0)]],false⟩]) 4 82 6 5 (by omega) (by omega) (nwL_refl _ _ _) ?_ ?_
 ·simp only [nwH_cons,nwH_nil,and_true]
  exact ⟨.inl rfl,.inl rfl,.inl rfl,nwB_mk _ _ _ _ _ _ _ _ _ _ ⟨nwV_ag ⟨.refl _,.refl _,.refl _,.nil,nwL_refl _ _ _⟩,trivial⟩⟩
 simp only [List.cons_append,List.nil_append,List.length_cons,List.length_nil,Nat.reduceAdd]
 refine go_loopW (σ:=Nat × Nat) (fun y cnt=>⟨mkT 0 73 [(1,.vw z (l.map uA)),(2,.pt 0 0 0 0),(4,.pt 1 1 0 0),(5,.pt 2 2 0 0),(6,.pt 3 3 0 0),(7,.sc (.int .i64 (y.1:Int)))],
  [⟨true,0,36,7,[cdA c],false⟩,⟨true,1,41,5,[.ag [.vw true [],.vw true [],.sc (.int .u32 0),.vw true [],.sc (.int .i64 0)]],false⟩,⟨true,2,104,6,[vnA V],false⟩,⟨true,3,41,5,[.ag [.vw false (V.vars.map (kA .i64)),.vw false (V.left.map (kA .i64)),.sc (.int .u32 V.act),.sl 4 y.2 0 (stN l V.act (3 * y.1)).length,.sc (.int .i64 0)]],false⟩,⟨true,y.2,82,6,(stN l V.act (3 * y.1)).map loA,false⟩],cnt⟩)
  (fun y=>y.1≤c.pri.length) (fun y=>c.pri.length - y.1) (0,4) (Nat.zero_le _) ?_ ?_ rfl ?_
 ·simp (maxSteps:=10000000) only [bnC,bnS,↓reduceIte,reduceCtorEq,Nat.reduceAdd,Nat.reduceEqDiff,mkT,lkT]
 ·simp (maxSteps:=10000000) only [bnC,bnS,cdA_eq,vnA_eq,hE.1,hE.2,stN]
 rintro ⟨m,v4⟩ cnt hm ih
 simp only at hm
 by_cases hm':m < c.pri.length
 rotate_left
 ·obtain rfl:m=c.pri.length:=by omega
  have h1:decide ((c.pri.length:Int) < (c.pri.length:Int))=false:=by simp
  have ht:List.take (stN l V.act (3 * c.pri.length)).length ((stN l V.act (3 * c.pri.length)).map loA)=(stN l V.act (3 * c.pri.length)).map loA:=List.take_of_length_le (by simp)
  clear ih
  refine vc_go ?_
  simp (maxSteps:=10000000) only [mkT,lkT,Nat.reduceAdd,Nat.reduceEqDiff,↓reduceIte,Nat.zero_add]
  simp (maxSteps:=10000000) +contextual -implicitDefEqProofs only [bnC,bnS,St.put,borrow,borrows,↓reduceIte,reduceCtorEq,Nat.reduceAdd,Int.reduceLT,Nat.reduceLT,bnT,Int.reduceAdd,bnH,cdA_eq,vnA_eq,h1,ht]
  all_goals done
 have h1:decide ((m:Int) < (c.pri.length:Int))=true:=by rw [decide_eq_true_eq]; omega
 have w1:IntKind.i64.wrap ((m:Int)+1)=((m+1:Nat):Int):=by rw [wrap64 (by omega) (by omega)]; omega
 have w3:IntKind.i64.wrap (3 * (m:Int))=((3 * m:Nat):Int):=by rw [wrap64 (by omega) (by omega)]; omega
 have wm:IntKind.u64.wrap (m:Int)=(m:Int):=wrap_u64s (by omega) (by omega)
 have ih:=fun v c=>ih (m+1,v) c (by simp only; omega) (by simp only; omega)
 simp only at ih
 refine vc_go ?_
 simp (maxSteps:=10000000) only [mkT,lkT,Nat.reduceAdd,Nat.reduceEqDiff,↓reduceIte,Nat.zero_add]
 simp (maxSteps:=10000000) +contextual -implicitDefEqProofs only [bnC,bnS,St.put,↓reduceIte,reduceCtorEq,bnT,bnH,cdA_eq,vnA_eq,h1]
 refine go_loopW (σ:=Nat × Nat) (fun y cnt=>⟨mkT 0 73 [(1,.vw z (l.map uA)),(2,.pt 0 0 0 0),(4,.pt 1 1 0 0),(5,.pt 2 2 0 0),(6,.pt 3 3 0 0),(7,.sc (.int .i64 (m:Int))),(8,.sc (.int .i64 (y.1:Int)))],
  [⟨true,0,36,7,[cdA c],false⟩,⟨true,1,41,5,[.ag [.vw true [],.vw true [],.sc (.int .u32 0),.vw true [],.sc (.int .i64 0)]],false⟩,⟨true,2,104,6,[vnA V],false⟩,⟨true,3,41,5,[.ag [.vw false (V.vars.map (kA .i64)),.vw false (V.left.map (kA .i64)),.sc (.int .u32 V.act),.sl 4 y.2 0 (stN l V.act (3 * m+y.1)).length,.sc (.int .i64 0)]],false⟩,⟨true,y.2,82,6,(stN l V.act (3 * m+y.1)).map loA,false⟩],cnt⟩)
  (fun y=>y.1≤3) (fun y=>3 - y.1) (0,v4) (Nat.zero_le _) ?_ ?_ rfl ?_
 ·simp (maxSteps:=10000000) only [bnC,bnS,↓reduceIte,reduceCtorEq,Nat.reduceAdd,Nat.reduceEqDiff,mkT,lkT]
 ·simp (maxSteps:=10000000) only [bnC,bnS,cdA_eq,vnA_eq,hE.1,hE.2,Nat.add_zero]
 rintro ⟨k,v⟩ cnt' hk ih2
 simp only at hk
 by_cases hk':k < 3
 rotate_left
 ·obtain rfl:k=3:=by omega
  have h2:decide (((3:Nat):Int) < 3)=false:=by decide
  have h3:3 * (m+1)=3 * m+3:=by omega
  simp only [h3] at ih
  clear ih2
  refine vc_go ?_
  simp (maxSteps:=10000000) only [mkT,lkT,Nat.reduceAdd,Nat.reduceEqDiff,↓reduceIte,Nat.zero_add]
  simp (maxSteps:=10000000) +contextual -implicitDefEqProofs only [bnC,bnS,St.put,↓reduceIte,Int.reduceLT,Nat.reduceLT,bnH,cdA_eq,vnA_eq,w1]
  refine go_weak ?_ ?_ (Nat.le_refl _) (ih v _)
  all_goals simp (maxSteps:=10000000) only [bnC,bnS,↓reduceIte,reduceCtorEq,Nat.reduceAdd,Nat.reduceEqDiff,mkT,lkT,cdA_eq,vnA_eq,hE.1,hE.2]
  all_goals done
 have h2:decide ((k:Int) < 3)=true:=by rw [decide_eq_true_eq]; omega
 have w2:IntKind.i64.wrap ((k:Int)+1)=((k+1:Nat):Int):=by rw [wrap64 (by omega) (by omega)]; omega
 have w4:IntKind.i64.wrap (((3 * m:Nat):Int)+(k:Int))=((3 * m+k:Nat):Int):=by rw [wrap64 (by omega) (by omega)]; omega
 have ih2:=fun v c=>ih2 (k+1,v) c (by simp only; omega) (by simp only; omega)
 have hS:stN l V.act (3 * m+(k+1))=if stQ l V.act (3 * m+k) then stN l V.act (3 * m+k)++[stX l (3 * m+k)] else stN l V.act (3 * m+k):=rfl
 have hd:(3 * m+k) / 3=m:=by omega
 have hd2:(3 * m+k) % 3=k:=by omega
 simp only at ih2
 obtain ⟨n,hn⟩:∃ n,3 * m+k=n:=⟨_,rfl⟩
 rw [hn] at hd hd2
 have hQ:stQ l V.act n=(actB V.act m && decide (n < l.length) && decide (0 < l.getD n default % 3)):=by rw [stQ,hd]
 have hX:stX l n=⟨(m:Int),(9 * k:Nat),⟨(l.getD n default % 9:Nat),0,0,0⟩⟩:=by rw [stX,hd,hd2]
 have hll:=stN_len l V.act n
 simp only [hn] at w4 hS
 cases c1:ibit .and .u32 (ishr .u32 V.act m) 1 == 1 with
 | false=>
  have hq0:stQ l V.act n=false:=by rw [hQ,actB,c1]; rfl
  rw [hq0] at hS
  simp only [hS] at ih2
  refine vc_go ?_
  simp (maxSteps:=10000000) only [mkT,lkT,Nat.reduceAdd,Nat.reduceEqDiff,↓reduceIte,Nat.zero_add]
  simp (maxSteps:=10000000) +contextual -implicitDefEqProofs only [bnC,bnS,guardV,St.put,↓reduceIte,reduceCtorEq,bnT,bnH,cdA_eq,vnA_eq,h2,w2,w3,w4,wm,c1,hn]
  refine go_weak ?_ ?_ (Nat.le_refl _) (ih2 v _)
  all_goals simp (maxSteps:=10000000) only [bnC,bnS,↓reduceIte,reduceCtorEq,Nat.reduceAdd,Nat.reduceEqDiff,mkT,lkT,cdA_eq,vnA_eq,hE.1,hE.2]
  all_goals done
 | true=>
 cases c2:decide (n < l.length) with
 | false=>
  have hq0:stQ l V.act n=false:=by rw [hQ,c2]; simp
  have c2':decide ((n:Int) < (l.length:Int))=false:=by
   rw [decide_eq_false_iff_not] at c2 ⊢; omega
  rw [hq0] at hS
  simp only [hS] at ih2
  refine vc_go ?_
  simp (maxSteps:=10000000) only [mkT,lkT,Nat.reduceAdd,Nat.reduceEqDiff,↓reduceIte,Nat.zero_add]
  simp (maxSteps:=10000000) +contextual -implicitDefEqProofs only [bnC,bnS,guardV,St.put,↓reduceIte,reduceCtorEq,bnT,bnH,cdA_eq,vnA_eq,h2,w2,w3,w4,wm,c1,c2',hn]
  refine go_weak ?_ ?_ (Nat.le_refl _) (ih2 v _)
  all_goals simp (maxSteps:=10000000) only [bnC,bnS,↓reduceIte,reduceCtorEq,Nat.reduceAdd,Nat.reduceEqDiff,mkT,lkT,cdA_eq,vnA_eq,hE.1,hE.2]
  all_goals done
 | true=>
 have hu:=u8ok h8 n
 have c2':decide ((n:Int) < (l.length:Int))=true:=by
  rw [decide_eq_true_eq] at c2 ⊢; omega
 obtain ⟨x,hx⟩:∃ x,l.getD n default=x:=⟨_,rfl⟩
 rw [hx] at hu hQ hX
 have hr:Int.tmod (x:Int) 3=((x % 3:Nat):Int):=rfl
 have hr9:Int.tmod (x:Int) 9=((x % 9:Nat):Int):=rfl
 have wx:IntKind.i64.wrap (x:Int)=(x:Int):=wrap64 (by omega) (by omega)
 have wk:IntKind.i64.wrap (9 * (k:Int))=((9 * k:Nat):Int):=by rw [wrap64 (by omega) (by omega)]; omega
 cases c3:decide (0 < x % 3) with
 | false=>
  have hq0:stQ l V.act n=false:=by rw [hQ,c3]; simp
  have c3':decide ((0:Int) < ((x % 3:Nat):Int))=false:=by
   rw [decide_eq_false_iff_not] at c3 ⊢; omega
  rw [hq0] at hS
  simp only [hS] at ih2
  refine vc_go ?_
  simp (maxSteps:=10000000) only [mkT,lkT,Nat.reduceAdd,Nat.reduceEqDiff,↓reduceIte,Nat.zero_add]
  simp (maxSteps:=10000000) +contextual -implicitDefEqProofs only [bnC,bnS,guardV,St.put,↓reduceIte,reduceCtorEq,Int.reduceEq,ne_eq,bnT,bnH,cdA_eq,vnA_eq,AV.noref,h2,w2,w3,w4,wm,c1,c2,c2',hx,hr,c3',hn,allSz_uA,ldV_mapN,uA_eq]
  refine go_weak ?_ ?_ (Nat.le_refl _) (ih2 v _)
  all_goals simp (maxSteps:=10000000) only [bnC,bnS,↓reduceIte,reduceCtorEq,Nat.reduceAdd,Nat.reduceEqDiff,mkT,lkT,cdA_eq,vnA_eq,hE.1,hE.2]
  all_goals done
 | true=>
  have hq0:stQ l V.act n=true:=by rw [hQ,actB,c1,c2,c3]; rfl
  have c3':decide ((0:Int) < ((x % 3:Nat):Int))=true:=by
   rw [decide_eq_true_eq] at c3 ⊢; omega
  rw [hq0] at hS
  simp only [if_true] at hS
  simp only [hS,List.length_append,List.length_cons,List.length_nil,Nat.zero_add] at ih2
  have hsz:decide (((stN l V.act n).length+1) * 48≤140737488355328)=true:=by rw [decide_eq_true_eq]; omega
  have ht:List.take (stN l V.act n).length ((stN l V.act n).map loA)=(stN l V.act n).map loA:=List.take_of_length_le (by simp)
  have ha:(stN l V.act n).map loA++[.ag [.sc (.int .i64 m),.sc (.int .i64 (9 * k:Nat)),.sc (.int .i64 (x % 9:Nat)),.sc (.int .i64 0),.sc (.int .i64 0),.sc (.int .i64 0)]]=(stN l V.act n++[stX l n]).map loA:=by rw [List.map_append,hX]; rfl
  refine vc_go ?_
  simp (maxSteps:=10000000) only [mkT,lkT,Nat.reduceAdd,Nat.reduceEqDiff,↓reduceIte,Nat.zero_add]
  simp (maxSteps:=10000000) +contextual -implicitDefEqProofs only [bnC,bnS,guardV,St.put,↓reduceIte,reduceCtorEq,Nat.reduceAdd,Nat.reduceLeDiff,Nat.reduceMul,Int.reduceEq,Int.reduceLT,ne_eq,Nat.reduceLT,bnT,Int.reduceAdd,Int.reduceMul,bnH,cdA_eq,vnA_eq,norefs,AV.noref,h2,w2,w3,w4,wm,c1,c2,c2',hx,hr,hr9,wx,wk,c3',hn,allSz_uA,ldV_mapN,uA_eq,hsz,ht,ha]
  repeat' (first | exact chk_no (by kernel_rfl) | refine ⟨chk_no (by kernel_rfl),?_⟩ | refine And.intro ?_ ?_ | fail)
  refine go_weak ?_ ?_ (Nat.le_refl _) (ih2 (cnt'+1) _)
  all_goals simp (maxSteps:=10000000) only [bnC,bnS,↓reduceIte,reduceCtorEq,Nat.reduceAdd,Nat.reduceEqDiff,mkT,lkT,cdA_eq,vnA_eq,hE.1,hE.2]
  all_goals done
noncomputable def f15:=mkF cuQ (fun p=>[cdA p.1,.vw p.2.1 (p.2.2.map uA)]) (fun p=>rsA (stateC p.1 p.2.2))
theorem e15 (c:Cd) (h:Fit c) (z:Bool) (l:List Nat) (h8:∀ x ∈ l,x < 256):f15 [cdA c,.vw z (l.map uA)]=some (rsA (stateC c l)):=
 (mkF_eq (q:=cuQ) (enc:=fun p=>[cdA p.1,.vw p.2.1 (p.2.2.map uA)]) (out:=fun p=>rsA (stateC p.1 p.2.2)) (c,z,l) ⟨h,h8⟩ (by
  rintro ⟨a,b,d⟩ h
  simp only [List.cons.injEq,AV.vw.injEq,map_uA,and_true] at h
  rw [cdA_inj h.1,h.2.1,h.2.2]) :)
theorem ok15:VOk Tryz.prog 15 f15:=vok_mk <| by
 rintro ⟨c,z,l⟩ ⟨h1,h2⟩
 exact state_spec c h1 z l h2
end Go.Proofs.YtdjpkhjaibdogaaGreat

namespace Go.Proofs.YtdjpkhjaibdogaaGreat
open Go Go.SX
set_option linter.unusedSimpArgs false
set_option linter.unusedVariables false
attribute [local congr] ite_congr
set_option maxRecDepth 100000
set_option maxHeartbeats 8000000
def mt (j:Nat) (p:Nat × Lo):Bool:=(p.2.mo == (p.1:Int)) && (p.2.la == (j:Int))
def hitP (ps:List (Nat × Lo)) (j:Nat):Option Lm:=(ps.find? (mt j)).map (·.2.se)
structure LpI (ps:List (Nat × Lo)) (out:List Lm) (S:Nat):Prop where
 len:out.length=64
 lt:S < 2 ^ 64
 at_:∀ j,j < 64→out.getD j default=(hitP ps j).getD default∧S.testBit j=(hitP ps j).isSome
end Go.Proofs.YtdjpkhjaibdogaaGreat

namespace Go.Proofs.YtdjpkhjaibdogaaGreat
open Go Go.SX
set_option linter.unusedSimpArgs false
set_option linter.unusedVariables false
attribute [local congr] ite_congr
set_option maxRecDepth 100000
set_option maxHeartbeats 8000000
def lstP (ps:List (Nat × Lo)) (j:Nat):Option Lm:=hitP ps.reverse j
structure LqI (ps:List (Nat × Lo)) (out:List Lm):Prop where
 len:out.length=64
 at_:∀ j,j < 64→out.getD j default=(lstP ps j).getD default
end Go.Proofs.YtdjpkhjaibdogaaGreat

namespace Go.Proofs.YtdjpkhjaibdogaaGreat
open Go Go.SX
set_option linter.unusedSimpArgs false
set_option linter.unusedVariables false
set_option maxRecDepth 100000
def c0:Cd:=⟨false,[],false,[goB,overB],false,[],false,[0,0],false,[0,5,-3],2,2⟩
end Go.Proofs.YtdjpkhjaibdogaaGreat

namespace Go.Proofs.YtdjpkhjaibdogaaGreat
open Go Go.SX
set_option linter.unusedSimpArgs false
set_option linter.unusedVariables false
set_option maxRecDepth 100000
structure CodI (ins:List In) (ens:List En):Prop where
 ex:∃ g:Nat→Int,g ins.length=-1∧(∀ k,k < ins.length→insP c0 (ins.getD k default)=false∧okIn (ins.getD k default) (g k)∧0≤g k∧g k≤48∧
  ∀ p ∈ succI (ins.getD k default) ((k:Nat):Int) (g k),∃ q,q≤ins.length∧p=((q:Int),g q))∧∀ e ∈ ens,∃ q,q < ins.length∧e.pc=(q:Int)∧g q=0
def sameK (a b:En):Prop:=a.mo=b.mo∧a.tr=b.tr∧a.ix=b.ix
structure EnsI (ens:List En) (i:Nat):Prop where
 key:∀ e ∈ ens,∃ j,j < i∧sameK e (keyL.getD j default)
 pw:ens.Pairwise fun a b=>lessE a b=true
end Go.Proofs.YtdjpkhjaibdogaaGreat

namespace Go.Proofs.YtdjpkhjaibdogaaGreat
open Go Go.SX
set_option linter.unusedSimpArgs false
set_option linter.unusedVariables false
set_option maxRecDepth 100000
end Go.Proofs.YtdjpkhjaibdogaaGreat

namespace Go.Proofs.YtdjpkhjaibdogaaGreat
open Go Go.SX
set_option linter.unusedSimpArgs false
set_option linter.unusedVariables false
attribute [local congr] ite_congr
set_option maxRecDepth 100000
set_option maxHeartbeats 8000000
end Go.Proofs.YtdjpkhjaibdogaaGreat
