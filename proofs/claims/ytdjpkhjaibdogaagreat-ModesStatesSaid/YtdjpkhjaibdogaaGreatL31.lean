/-
  Joined texts: BG, BH, BI.
  Conditions: none.
-/
import Derived.Test.YtdjpkhjaibdogaaGreatL30
import Derived.Test.YtdjpkhjaibdogaaGreatL21
namespace Go.Proofs.YtdjpkhjaibdogaaGreat
open Go Go.SX
set_option linter.unusedSimpArgs false
set_option linter.unusedVariables false
set_option maxRecDepth 100000
def succI (x:In) (i h:Int):List (Int × Int):=
 if x.op=31 then [] else if x.op=12 then [(x.a,h)] else if x.op=13 then [(i+1,h - 1),(x.a,h - 1)] else if x.op=14 then [(i+1,h),(x.a,h - 1)]
 else [(i+1,h - (effO x.op).1+(effO x.op).2.1)]
def okIn (x:In) (h:Int):Prop:=(effO x.op).1≤h∧(x.op=31→h=0)
def insAt (c:Cd) (i:Int):In:=c.ins.getD i.toNat default
inductive Rch (c:Cd):Int→Int→Prop
 | ent {e:En} (h:e ∈ c.ens):Rch c e.pc 0
 | step {i h j h':Int} (r:Rch c i h) (hi:i < c.ins.length) (ho:okIn (insAt c i) h) (hs:(j,h') ∈ succI (insAt c i) i h):Rch c j h'
structure Good (c:Cd):Prop where
 fits:∀ i h,Rch c i h→i < c.ins.length∧h≤48∧okIn (insAt c i) h
 one:∀ i h h',Rch c i h→Rch c i h'→h=h'
noncomputable def heiC (c:Cd):Bool:=open Classical in decide (Good c)
theorem heiC_true {c:Cd} (h:Good c):heiC c=true:=by simp [heiC,h]
theorem heiC_false {c:Cd} (h:¬ Good c):heiC c=false:=by simp [heiC,h]
theorem bad_end {c:Cd} {i h:Int} (r:Rch c i h) (hi:¬ i < c.ins.length):heiC c=false:=heiC_false fun g=>hi (g.fits i h r).1
theorem bad_high {c:Cd} {i h:Int} (r:Rch c i h) (hh:¬ h≤48):heiC c=false:=heiC_false fun g=>hh (g.fits i h r).2.1
theorem bad_in {c:Cd} {i h:Int} (r:Rch c i h) (hh:¬ okIn (insAt c i) h):heiC c=false:=heiC_false fun g=>hh (g.fits i h r).2.2
theorem bad_two {c:Cd} {i h h':Int} (r:Rch c i h) (r':Rch c i h') (hh:h≠h'):heiC c=false:=heiC_false fun g=>hh (g.one i h h' r r')
def hAt (hs:List Int) (i:Int):Int:=hs.getD i.toNat (-1)
structure Lead (c:Cd):Prop where
 ent:∀ e ∈ c.ens,0≤e.pc
 ins:∀ i,i < c.ins.length→jmpO (c.ins.getD i default).op=true→0≤(c.ins.getD i default).a
theorem lead_of {c:Cd} (h:targC c=true):Lead c:=by
 simp only [targC,Bool.and_eq_true,Bool.not_eq_true'] at h
 obtain ⟨h1,h2⟩:=h
 refine ⟨fun e he=>?_,fun i hi hj=>?_⟩
 ·have:=List.any_eq_false.1 h2 e he
  simp only [tgB,Bool.not_eq_true,Bool.not_eq_false'] at this
  exact (inI_iff.1 this).1
 ·have:=List.any_eq_false.1 h1 _ (getD_mem hi)
  simp only [tgP,hj,Bool.true_and,Bool.not_eq_true,Bool.not_eq_false'] at this
  exact (inI_iff.1 this).1
theorem succ_pos {c:Cd} (hl:Lead c) {i h j h':Int} (hi:0≤i) (hi':i < c.ins.length) (hs:(j,h') ∈ succI (insAt c i) i h):0≤j:=by
 have hk:i.toNat < c.ins.length:=by omega
 have hx:=hl.ins i.toNat hk
 unfold succI at hs
 by_cases h1:(insAt c i).op=31
 ·simp [h1] at hs
 by_cases h2:(insAt c i).op=12
 ·simp [h1,h2] at hs
  have:=hx (show jmpO (insAt c i).op=true by simp [jmpO,h2])
  rw [hs.1]; exact this
 by_cases h3:(insAt c i).op=13
 ·simp [h1,h2,h3] at hs
  have:=hx (show jmpO (insAt c i).op=true by simp [jmpO,h3])
  rcases hs with hs | hs
  ·omega
  ·rw [hs.1]; exact this
 by_cases h4:(insAt c i).op=14
 ·simp [h1,h2,h3,h4] at hs
  have:=hx (show jmpO (insAt c i).op=true by simp [jmpO,h4])
  rcases hs with hs | hs
  ·omega
  ·rw [hs.1]; exact this
 ·simp [h1,h2,h3,h4] at hs
  omega
theorem eff_nonneg (op:Int):0≤(effO op).1∧0≤(effO op).2.1∧(effO op).1≤2∧(effO op).2.1≤1:=by
 have key:∀ {p:Int × Int × Int→Prop} (op:Int),(∀ k:Int,1≤k→k≤31→p (effO k))→p (0,0,-1)→p (effO op):=by
  intro p op h1 h2
  by_cases h:1≤op∧op≤31
  ·exact h1 op h.1 h.2
  ·have:effO op=(0,0,-1):=by
    unfold effO
    iterate 31 rw [if_neg (by omega)]
   rw [this]; exact h2
 refine key (p:=fun e=>0≤e.1∧0≤e.2.1∧e.1≤2∧e.2.1≤1) op (fun k h1 h2=>?_) (by decide)
 rcases op_cases k with h | h
 ·rcases h with rfl | rfl | rfl | rfl | rfl | rfl | rfl | rfl | rfl | rfl | rfl | rfl | rfl | rfl | rfl | rfl | rfl | rfl | rfl | rfl | rfl | rfl | rfl | rfl | rfl | rfl | rfl | rfl | rfl | rfl | rfl <;> decide
 ·have:=h k h1 h2
  simp at this
theorem eff14 (op:Int) (h:op=14):(effO op).1=1∧(effO op).2.1=1:=by subst h; decide
theorem eff13 (op:Int) (h:op=13):(effO op).1=1∧(effO op).2.1=0:=by subst h; decide
theorem eff12 (op:Int) (h:op=12):(effO op).1=0∧(effO op).2.1=0:=by subst h; decide
theorem succ_high {x:In} {i h j h':Int} (ho:okIn x h) (hs:(j,h') ∈ succI x i h):0≤h':=by
 have h0:=eff_nonneg x.op
 have ho1:=ho.1
 unfold succI at hs
 by_cases h1:x.op=31
 ·simp [h1] at hs
 by_cases h2:x.op=12
 ·simp [h1,h2] at hs
  omega
 by_cases h3:x.op=13
 ·have:=eff13 _ h3
  simp [h1,h2,h3] at hs
  omega
 by_cases h4:x.op=14
 ·have:=eff14 _ h4
  simp [h1,h2,h3,h4] at hs
  omega
 ·simp [h1,h2,h3,h4] at hs
  omega
theorem good_closed {c:Cd} {hs:List Int} (he:∀ e ∈ c.ens,e.pc < c.ins.length∧hAt hs e.pc=0)
  (hc:∀ i:Int,0≤i→i < c.ins.length→0≤hAt hs i→hAt hs i≤48∧okIn (insAt c i) (hAt hs i)∧∀ j h',(j,h') ∈ succI (insAt c i) i (hAt hs i)→j < c.ins.length∧hAt hs j=h')
  (hl:Lead c):Good c:=by
 have key:∀ i h,Rch c i h→0≤i∧i < c.ins.length∧hAt hs i=h∧0≤h:=by
  intro i h r
  induction r with
  | ent he'=>exact ⟨hl.ent _ he',(he _ he').1,(he _ he').2,Int.le_refl _⟩
  | step r hi ho hs' ih=>
   obtain ⟨g1,g2,g3,g4⟩:=ih
   have:=hc _ g1 g2 (by rw [g3]; exact g4)
   rw [g3] at this
   obtain ⟨k1,k2,k3⟩:=this
   exact ⟨succ_pos hl g1 g2 hs',(k3 _ _ hs').1,(k3 _ _ hs').2,succ_high ho hs'⟩
 refine ⟨fun i h r=>?_,fun i h h' r r'=>?_⟩
 ·obtain ⟨g1,g2,g3,g4⟩:=key i h r
  have:=hc i g1 g2 (by rw [g3]; exact g4)
  rw [g3] at this
  exact ⟨g2,this.1,this.2.1⟩
 ·rw [←(key i h r).2.2.1,←(key i h' r').2.2.1]
end Go.Proofs.YtdjpkhjaibdogaaGreat

namespace Go.Proofs.YtdjpkhjaibdogaaGreat
open Go Go.SX
set_option linter.unusedSimpArgs false
set_option linter.unusedVariables false
attribute [local congr] ite_congr
set_option maxRecDepth 100000
set_option maxHeartbeats 8000000
structure Rc where
 hs:List Int
 ws:List Int
 n:Nat
 v:Nat
def rchF (r:Rc) (i h:Int) (cnt:Nat):Bool × Rc:=
 if i < r.hs.length∧h≤48∧¬ (0≤hAt r.hs i∧hAt r.hs i≠h) then
  if hAt r.hs i < 0 then (true,⟨r.hs.set i.toNat h,r.ws.take r.n++[i],r.n+1,cnt+1⟩) else (true,r)
 else (false,r)
def hgH (b0 e:Blk) (v1 v2 v3:Nat) (r:Rc):List Blk:=
 [b0,⟨true,v1,3,1,r.hs.map (kA .i64),false⟩,⟨true,v2,34,1,[.sl 1 v1 0 r.hs.length],false⟩,⟨true,v3,34,1,[.sl 4 r.v 0 r.n],false⟩,⟨true,r.v,3,1,r.ws.map (kA .i64),false⟩,e]
theorem hAt_of {hs:List Int} {i:Nat}:hAt hs (i:Int)=hs.getD i (-1):=by simp [hAt]
theorem getD_def {hs:List Int} {i:Nat} (h:i < hs.length) (d:Int):hs.getD i default=hs.getD i d:=by
 rw [List.getD_eq_getElem?_getD,List.getD_eq_getElem?_getD,List.getElem?_eq_getElem h]; rfl
theorem reach_spec (i h:Int) (r:Rc) (b0 e:Blk) (v1 v2 v3 cnt:Nat) (hi:0≤i) (hn:r.n≤r.ws.length) (hl:r.n≤1000000) (hl2:r.hs.length≤1000000):
  HSpec Tryz.prog 196 [.sc (.int .i64 i),.sc (.int .i64 h),.pt 2 v2 0 0,.pt 3 v3 0 0] (hgH b0 e v1 v2 v3 r) cnt (.sc (.bool (rchF r i h cnt).1)) (hgH b0 e v1 v2 v3 (rchF r i h cnt).2) (cnt+2):=by
 obtain ⟨hs,ws,n,v⟩:=r
 simp only at hn hl hl2
 obtain ⟨k,rfl⟩:∃ k:Nat,i=(k:Int):=⟨i.toNat,by omega⟩
 refine hspecW_of_go (gEnv_ok (lit:=false) (pm:=fun _=>none) .nil .nil .nil .nil) rfl Tryz.func196 rfl (by decide) (by kernel_rfl) ?_
 simp only [Tryz.f196,initSt,List.length_cons,List.length_nil,Nat.reduceAdd,Nat.reduceSub,List.replicate]
 unfold hgH
 simp only
 by_cases c1:k < hs.length
 rotate_left
 ·have h1:decide ((hs.length:Int)≤(k:Int))=true:=by rw [decide_eq_true_eq]; omega
  have e1:rchF ⟨hs,ws,n,v⟩ k h cnt=(false,⟨hs,ws,n,v⟩):=by
   rw [rchF,if_neg]; intro hh; have:=hh.1; simp only at this; omega
  rw [e1]
  refine vc_go ?_
  simp (maxSteps:=10000000) +contextual -implicitDefEqProofs only [bnC,bnS,guardV,St.put,↓reduceIte,Nat.reduceAdd,bnT,Int.reduceAdd,bnH,h1]
  all_goals first | rfl | trivial | omega | exact .refl _ | skip
  all_goals done
 have h1:decide ((hs.length:Int)≤(k:Int))=false:=by rw [decide_eq_false_iff_not]; omega
 by_cases c2:h≤48
 rotate_left
 ·have h2:decide ((48:Int) < h)=true:=by rw [decide_eq_true_eq]; omega
  have e1:rchF ⟨hs,ws,n,v⟩ k h cnt=(false,⟨hs,ws,n,v⟩):=by
   rw [rchF,if_neg]; intro hh; exact c2 hh.2.1
  rw [e1]
  refine vc_go ?_
  simp (maxSteps:=10000000) +contextual -implicitDefEqProofs only [bnC,bnS,guardV,St.put,↓reduceIte,Nat.reduceAdd,bnT,Int.reduceAdd,bnH,h1,h2]
  all_goals first | rfl | trivial | omega | exact .refl _ | skip
  all_goals done
 have h2:decide ((48:Int) < h)=false:=by rw [decide_eq_false_iff_not]; omega
 have g1:decide ((0:Int)≤(k:Int))=true:=by rw [decide_eq_true_eq]; omega
 have g2:decide ((k:Int) < (hs.length:Int))=true:=by rw [decide_eq_true_eq]; omega
 have g3:decide (k < hs.length)=true:=by rw [decide_eq_true_eq]; omega
 obtain ⟨x,hx⟩:∃ x,hs.getD k default=x:=⟨_,rfl⟩
 have hx':hAt hs k=x:=by rw [hAt_of,←hx,getD_def c1]
 by_cases c3:0≤x
 ·have h3:decide ((0:Int)≤x)=true:=by rw [decide_eq_true_eq]; exact c3
  by_cases c4:x=h
  ·have h4:(x != h)=false:=by simp [c4]
   have h5:decide (x < (0:Int))=false:=by rw [decide_eq_false_iff_not]; omega
   have e1:rchF ⟨hs,ws,n,v⟩ k h cnt=(true,⟨hs,ws,n,v⟩):=by
    rw [rchF,if_pos,if_neg]
    ·simp only [hx']; omega
    ·simp only [hx']; refine ⟨by omega,c2,by omega⟩
   rw [e1]
   refine vc_go ?_
   simp (maxSteps:=10000000) +contextual -implicitDefEqProofs only [bnC,bnS,guardV,St.put,↓reduceIte,Nat.reduceAdd,bnT,Int.reduceAdd,bnH,kA_eq,h1,h2,g2,g3,hx,h3,h4,h5,get_mapN]
   all_goals first | rfl | trivial | omega | exact .refl _ | skip
   all_goals done
  ·have h4:(x != h)=true:=by simpa using c4
   have e1:rchF ⟨hs,ws,n,v⟩ k h cnt=(false,⟨hs,ws,n,v⟩):=by
    rw [rchF,if_neg]; simp only [hx']; omega
   rw [e1]
   refine vc_go ?_
   simp (maxSteps:=10000000) +contextual -implicitDefEqProofs only [bnC,bnS,guardV,St.put,↓reduceIte,Nat.reduceAdd,bnT,Int.reduceAdd,bnH,kA_eq,h1,h2,g2,g3,hx,h3,h4,get_mapN]
   all_goals first | rfl | trivial | omega | exact .refl _ | skip
   all_goals done
 ·have h3:decide ((0:Int)≤x)=false:=by rw [decide_eq_false_iff_not]; exact c3
  have h5:decide (x < (0:Int))=true:=by rw [decide_eq_true_eq]; omega
  have e1:rchF ⟨hs,ws,n,v⟩ k h cnt=(true,⟨hs.set k h,ws.take n++[(k:Int)],n+1,cnt+1⟩):=by
   rw [rchF,if_pos,if_pos]
   ·simp
   ·simp only [hx']; omega
   ·simp only [hx']; refine ⟨by omega,c2,by omega⟩
  rw [e1]
  have ht:List.take n (ws.map (kA .i64))=(ws.take n).map (kA .i64):=by rw [List.map_take]
  have hsz:decide ((n+1) * 8≤140737488355328)=true:=by rw [decide_eq_true_eq]; omega
  have hm:(hs.map (kA .i64)).set k (AV.sc (.int .i64 h))=(hs.set k h).map (kA .i64):=by rw [List.map_set]; rfl
  have ha:(ws.take n).map (kA .i64)++[AV.sc (.int .i64 (k:Int))]=(ws.take n++[(k:Int)]).map (kA .i64):=by rw [List.map_append]; rfl
  refine vc_go ?_
  simp (maxSteps:=10000000) +contextual -implicitDefEqProofs only [bnC,bnS,guardV,St.put,↓reduceIte,Nat.reduceAdd,Nat.reduceLeDiff,Nat.reduceMul,Int.reduceLT,Nat.reduceLT,bnT,Int.reduceAdd,Int.reduceMul,bnH,kA_eq,h1,h2,g2,g3,hx,h3,h5,get_mapN,ht,hsz,hm,ha,List.length_set]
  all_goals first | rfl | trivial | omega | exact .refl _ | skip
  all_goals done
end Go.Proofs.YtdjpkhjaibdogaaGreat

namespace Go.Proofs.YtdjpkhjaibdogaaGreat
open Go Go.SX
set_option linter.unusedSimpArgs false
set_option linter.unusedVariables false
set_option maxRecDepth 100000
def negs (hs:List Int):Nat:=(hs.filter (fun x=>decide (x < 0))).length
theorem negs_le (hs:List Int):negs hs≤hs.length:=List.length_filter_le _ _
theorem negs_set:∀ {hs:List Int} {k:Nat} {h:Int},k < hs.length→hs.getD k (-1) < 0→0≤h→negs (hs.set k h)+1=negs hs
 | [],k,h,hk,_,_=>by simp at hk
 | x::hs,0,h,_,hx,hh=>by
  simp at hx
  unfold negs
  rw [List.set_cons_zero,List.filter_cons_of_neg (by simp; omega),List.filter_cons_of_pos (by simp; omega)]
  simp
 | x::hs,k+1,h,hk,hx,hh=>by
  have ih:=negs_set (hs:=hs) (k:=k) (h:=h) (by simpa using hk) (by simpa using hx) hh
  unfold negs at ih ⊢
  rw [List.set_cons_succ]
  by_cases c:x < 0
  ·rw [List.filter_cons_of_pos (by simpa using c),List.filter_cons_of_pos (by simpa using c)]
   simp only [List.length_cons]; omega
  ·rw [List.filter_cons_of_neg (by simpa using c),List.filter_cons_of_neg (by simpa using c)]
   exact ih
theorem hAt_set {hs:List Int} {i j h:Int} (hi:0≤i) (hi':i < hs.length) (hj:0≤j):hAt (hs.set i.toNat h) j=if j=i then h else hAt hs j:=by
 unfold hAt
 rw [List.getD_eq_getElem?_getD,List.getD_eq_getElem?_getD,List.getElem?_set]
 by_cases c:j=i
 ·subst c
  rw [if_pos rfl,if_pos (by omega),if_pos rfl]; rfl
 ·rw [if_neg (by omega),if_neg c]
def Clo (c:Cd) (hs:List Int) (i:Int):Prop:=okIn (insAt c i) (hAt hs i)∧∀ j h',(j,h') ∈ succI (insAt c i) i (hAt hs i)→j < c.ins.length∧hAt hs j=h'
structure HI (c:Cd) (k:Nat) (ex:Int) (r:Rc):Prop where
 len:r.hs.length=c.ins.length
 nle:r.n≤r.ws.length
 mea:2 * negs r.hs+r.n≤2 * c.ins.length
 mark:∀ i:Int,0≤i→i < c.ins.length→0≤hAt r.hs i→Rch c i (hAt r.hs i)∧hAt r.hs i≤48
 wait:∀ x ∈ r.ws.take r.n,0≤x∧x < c.ins.length∧0≤hAt r.hs x
 ents:∀ j,j < k→(c.ens.getD j default).pc < c.ins.length∧hAt r.hs (c.ens.getD j default).pc=0
 clos:∀ i:Int,0≤i→i < c.ins.length→0≤hAt r.hs i→i ∈ r.ws.take r.n∨i=ex∨Clo c r.hs i
theorem clo_mono {c:Cd} (hl:Lead c) {hs hs':List Int} (hp:∀ j:Int,0≤j→0≤hAt hs j→hAt hs' j=hAt hs j) {i:Int} (hi:0≤i) (hi':i < c.ins.length) (h0:0≤hAt hs i) (h:Clo c hs i):Clo c hs' i:=by
 have e:=hp i hi h0
 refine ⟨by rw [e]; exact h.1,fun j h' hj=>?_⟩
 rw [e] at hj
 obtain ⟨g1,g2⟩:=h.2 j h' hj
 have h1:=succ_high h.1 hj
 have h2:=succ_pos hl hi hi' hj
 exact ⟨g1,by rw [hp j h2 (by rw [g2]; exact h1),g2]⟩
theorem reach_inv {c:Cd} (hl:Lead c) {k:Nat} {ex:Int} {r:Rc} (hi:HI c k ex r) {i h:Int} (hr:Rch c i h) (h0:0≤i) (hh:0≤h) (cnt:Nat):
  ((rchF r i h cnt).1=false→heiC c=false)∧((rchF r i h cnt).1=true→HI c k ex (rchF r i h cnt).2∧i < c.ins.length∧hAt (rchF r i h cnt).2.hs i=h∧
   (∀ j:Int,0≤j→0≤hAt r.hs j→hAt (rchF r i h cnt).2.hs j=hAt r.hs j)∧2 * negs (rchF r i h cnt).2.hs+(rchF r i h cnt).2.n≤2 * negs r.hs+r.n):=by
 have hlen:=hi.len
 by_cases c1:i < c.ins.length
 rotate_left
 ·have e:rchF r i h cnt=(false,r):=by rw [rchF,if_neg]; intro hc; rw [hlen] at hc; exact c1 hc.1
  rw [e]
  exact ⟨fun _=>bad_end hr c1,fun h=>by cases h⟩
 by_cases c2:h≤48
 rotate_left
 ·have e:rchF r i h cnt=(false,r):=by rw [rchF,if_neg]; intro hc; exact c2 hc.2.1
  rw [e]
  exact ⟨fun _=>bad_high hr c2,fun h=>by cases h⟩
 by_cases c3:0≤hAt r.hs i
 ·by_cases c4:hAt r.hs i=h
  ·have e:rchF r i h cnt=(true,r):=by
    rw [rchF,if_pos,if_neg]
    ·omega
    ·rw [hlen]; exact ⟨c1,c2,fun hc=>hc.2 c4⟩
   rw [e]
   exact ⟨fun h=>(by cases h),fun _=>⟨hi,c1,c4,fun j _ _=>rfl,Nat.le_refl _⟩⟩
  ·have e:rchF r i h cnt=(false,r):=by rw [rchF,if_neg]; intro hc; exact hc.2.2 ⟨c3,c4⟩
   rw [e]
   exact ⟨fun _=>bad_two hr (hi.mark i h0 c1 c3).1 (fun h=>c4 h.symm),fun h=>by cases h⟩
 ·have hi2:i < r.hs.length:=by rw [hlen]; exact c1
  have e:rchF r i h cnt=(true,⟨r.hs.set i.toNat h,r.ws.take r.n++[i],r.n+1,cnt+1⟩):=by
   rw [rchF,if_pos,if_pos]
   ·omega
   ·rw [hlen]; exact ⟨c1,c2,fun hc=>c3 hc.1⟩
  have hs':∀ j:Int,0≤j→hAt (r.hs.set i.toNat h) j=if j=i then h else hAt r.hs j:=fun j hj=>hAt_set h0 hi2 hj
  have hp:∀ j:Int,0≤j→0≤hAt r.hs j→hAt (r.hs.set i.toNat h) j=hAt r.hs j:=fun j hj h1=>by
   rw [hs' j hj,if_neg]; rintro rfl; exact c3 h1
  have hneg:=negs_set (hs:=r.hs) (k:=i.toNat) (h:=h) (by omega) (by unfold hAt at c3; omega) hh
  have htk:(r.ws.take r.n++[i]).take (r.n+1)=r.ws.take r.n++[i]:=List.take_of_length_le (by simp; omega)
  have hmea:=hi.mea
  rw [e]
  refine ⟨fun h=>(by cases h),fun _=>⟨⟨?_,?_,?_,?_,?_,?_,?_⟩,c1,?_,hp,?_⟩⟩
  ·simp [hlen]
  ·have:=hi.nle; simp; omega
  ·simp only; omega
  ·intro j hj hj' hj2
   simp only at hj2 ⊢
   rw [hs' j hj] at hj2 ⊢
   split
   ·rename_i hji; subst hji; exact ⟨hr,c2⟩
   ·rename_i hji
    rw [if_neg hji] at hj2
    exact hi.mark j hj hj' hj2
  ·intro x hx
   simp only [htk] at hx
   rcases List.mem_append.1 hx with hx | hx
   ·obtain ⟨g1,g2,g3⟩:=hi.wait x hx
    exact ⟨g1,g2,by rw [hp x g1 g3]; exact g3⟩
   ·simp only [List.mem_singleton] at hx
    subst hx
    exact ⟨h0,c1,by rw [hs' x h0,if_pos rfl]; exact hh⟩
  ·intro j hj
   obtain ⟨g1,g2⟩:=hi.ents j hj
   refine ⟨g1,?_⟩
   simp only
   by_cases hm:(c.ens.getD j default).pc < 0
   ·by_cases hj2:j < c.ens.length
    ·have:=hl.ent _ (getD_mem hj2); omega
    ·rw [List.getD_eq_getElem?_getD,List.getElem?_eq_none (by omega)] at hm
     simp [default,instInhabitedEn] at hm
   ·rw [hp _ (by omega) (by rw [g2]; omega),g2]
  ·intro j hj hj' hj2
   simp only [htk] at hj2 ⊢
   by_cases hji:j=i
   ·exact .inl (List.mem_append_right _ (List.mem_singleton.2 hji))
   ·rw [hs' j hj,if_neg hji] at hj2
    rcases hi.clos j hj hj' hj2 with h1 | h1 | h1
    ·exact .inl (List.mem_append_left _ h1)
    ·exact .inr (.inl h1)
    ·exact .inr (.inr (clo_mono hl hp hj hj' hj2 h1))
  ·simp only; rw [hs' i h0,if_pos rfl]
  ·simp only; omega
theorem hi_start (c:Cd) (v:Nat):HI c 0 (-1) ⟨List.replicate c.ins.length (-1),[],0,v⟩:=by
 have hm:∀ i:Int,hAt (List.replicate c.ins.length (-1)) i=-1:=fun i=>by
  unfold hAt
  rw [List.getD_eq_getElem?_getD]
  by_cases h:i.toNat < c.ins.length
  ·rw [List.getElem?_replicate,if_pos h]; rfl
  ·rw [List.getElem?_replicate,if_neg h]; rfl
 refine ⟨by simp,Nat.le_refl _,?_,fun i _ _ h=>?_,fun x hx=>by simp at hx,fun j hj=>by omega,fun i _ _ h=>?_⟩
 ·have:=negs_le (List.replicate c.ins.length (-1)); simp at this; simp only; omega
 ·simp only [hm] at h; omega
 ·simp only [hm] at h; omega
theorem hi_ent {c:Cd} {k:Nat} {r:Rc} (h:HI c k (-1) r) (hk:k < c.ens.length) (h1:(c.ens.getD k default).pc < c.ins.length∧hAt r.hs (c.ens.getD k default).pc=0):HI c (k+1) (-1) r:=
 ⟨h.len,h.nle,h.mea,h.mark,h.wait,fun j hj=>by
  rcases Nat.lt_or_ge j k with h' | h'
  ·exact h.ents j h'
  ·obtain rfl:j=k:=by omega
   exact h1,h.clos⟩
theorem hi_pop {c:Cd} {k n:Nat} {r:Rc} (h:HI c k (-1) r) (hn:r.n=n+1):HI c k (r.ws.getD n default) ⟨r.hs,r.ws,n,r.v⟩∧0≤r.ws.getD n default∧r.ws.getD n default < c.ins.length∧0≤hAt r.hs (r.ws.getD n default):=by
 have hnl:=h.nle
 have hx:r.ws.getD n default=r.ws[n]'(by omega):=by rw [List.getD_eq_getElem?_getD,List.getElem?_eq_getElem (by omega)]; rfl
 have ht:r.ws.take r.n=r.ws.take n++[r.ws.getD n default]:=by rw [hn,List.take_succ_eq_append_getElem (by omega),hx]
 have hw:=h.wait (r.ws.getD n default) (by rw [ht]; exact List.mem_append_right _ (List.mem_singleton.2 rfl))
 have hmea:=h.mea
 refine ⟨⟨h.len,by simp only; omega,by simp only; omega,h.mark,fun x hx'=>h.wait x (by rw [ht]; exact List.mem_append_left _ hx'),h.ents,fun i h0 h1 h2=>?_⟩,hw⟩
 rcases h.clos i h0 h1 h2 with h3 | h3 | h3
 ·rw [ht] at h3
  rcases List.mem_append.1 h3 with h3 | h3
  ·exact .inl h3
  ·exact .inr (.inl (List.mem_singleton.1 h3))
 ·omega
 ·exact .inr (.inr h3)
theorem hi_done {c:Cd} {k:Nat} {ex:Int} {r:Rc} (h:HI c k ex r) (h1:Clo c r.hs ex):HI c k (-1) r:=
 ⟨h.len,h.nle,h.mea,h.mark,h.wait,h.ents,fun i h0 h2 h3=>by
  rcases h.clos i h0 h2 h3 with h4 | h4 | h4
  ·exact .inl h4
  ·exact .inr (.inr (by rw [h4]; exact h1))
  ·exact .inr (.inr h4)⟩
theorem hi_end {c:Cd} (hl:Lead c) {r:Rc} (h:HI c c.ens.length (-1) r) (hn:r.n=0):heiC c=true:=by
 refine heiC_true (good_closed (hs:=r.hs) (fun e he=>?_) (fun i h0 h1 h2=>?_) hl)
 ·obtain ⟨j,hj,rfl⟩:=List.getElem_of_mem he
  have:=h.ents j hj
  rwa [List.getD_eq_getElem?_getD,List.getElem?_eq_getElem hj] at this
 ·obtain ⟨g1,g2⟩:=h.mark i h0 h1 h2
  rcases h.clos i h0 h1 h2 with h3 | h3 | h3
  ·rw [hn] at h3; simp at h3
  ·omega
  ·exact ⟨g2,h3.1,h3.2⟩
end Go.Proofs.YtdjpkhjaibdogaaGreat
