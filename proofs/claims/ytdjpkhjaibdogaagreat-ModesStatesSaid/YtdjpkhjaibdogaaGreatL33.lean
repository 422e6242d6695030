/-
  Joined texts: BL, BM.
  Conditions: none.
-/
import Derived.Test.YtdjpkhjaibdogaaGreatL32
namespace Go.Proofs.YtdjpkhjaibdogaaGreat
open Go Go.SX
set_option linter.unusedSimpArgs false
set_option linter.unusedVariables false
attribute [local congr] ite_congr
set_option maxRecDepth 100000
set_option maxHeartbeats 8000000
def spA (p:Int × Int):AV:=.ag [kA .i64 p.1,kA .i64 p.2]
theorem spA_eq (p:Int × Int):spA p=.ag [.sc (.int .i64 p.1),.sc (.int .i64 p.2)]:=rfl
theorem allSz_spA (l:List (Int × Int)):allSz 2 (l.map spA)=true:=allSz_map (f:=spA) (fun _=>rfl) l
theorem norefs_spA (l:List (Int × Int)):norefs (l.map spA)=true:=norefs_map (f:=spA) (fun _=>by simp [spA,kA,AV.noref,norefs]) l
def afQ (p:In × Int × Int):Prop:=(0≤p.2.1∧p.2.1≤1000000)∧-1000≤p.2.2∧p.2.2≤1000
noncomputable def f151:=mkF afQ (fun p=>[inA p.1,kA .i64 p.2.1,kA .i64 p.2.2]) (fun p=>.vw false ((succI p.1 p.2.1 p.2.2).map spA))
theorem e151 (x:In) (i h:Int) (hq:afQ (x,i,h)):f151 [inA x,.sc (.int .i64 i),.sc (.int .i64 h)]=some (.vw false ((succI x i h).map spA)):=
 (mkF_eq (q:=afQ) (enc:=fun p=>[inA p.1,kA .i64 p.2.1,kA .i64 p.2.2]) (out:=fun p=>.vw false ((succI p.1 p.2.1 p.2.2).map spA)) (x,i,h) hq (by
  rintro ⟨a,b,d⟩ h
  simp only [List.cons.injEq,and_true] at h
  rw [inA_inj h.1,kA_inj h.2.1,kA_inj h.2.2]) :)
theorem ok151:VOk Tryz.prog 151 f151:=vok_mk <| by
 rintro ⟨x,i,h⟩ ⟨⟨q1,q2⟩,q3,q4⟩
 simp only at q1 q2 q3 q4 ⊢
 have hen:=eff_nonneg x.op
 have w1:IntKind.i64.wrap (i+1)=i+1:=by rw [wrap64 (by omega) (by omega)]
 have w2:IntKind.i64.wrap (h - 1)=h - 1:=by rw [wrap64 (by omega) (by omega)]
 have w3:IntKind.i64.wrap (h - (effO x.op).1)=h - (effO x.op).1:=by rw [wrap64 (by omega) (by omega)]
 have w4:IntKind.i64.wrap (h - (effO x.op).1+(effO x.op).2.1)=h - (effO x.op).1+(effO x.op).2.1:=by rw [wrap64 (by omega) (by omega)]
 have x1:=e150 x.op
 refine vspecW_of_go (gEnv_ok (lit:=false) (pm:=fun _=>none) (.cons ok150 .nil) .nil .nil .nil) rfl Tryz.func151 rfl (by decide) (by kernel_rfl) (by simp [AV.noref,norefs_spA]) ?_
 simp only [Tryz.f151,initSt,List.length_cons,List.length_nil,Nat.reduceAdd,Nat.reduceSub,List.replicate]
 refine vc_go ?_
 by_cases a31:x.op=31
 ·have b31:(x.op == 31)=true:=by rw [beq_iff_eq]; exact a31
  have hs:succI x i h=[]:=by simp [succI,a31]
  rw [hs]
  simp (maxSteps:=10000000) +contextual -implicitDefEqProofs only [bnC,bnS,St.put,borrow,borrows,pin,pl,↓reduceIte,reduceCtorEq,Nat.reduceAdd,bnT,Int.reduceAdd,bnH,kA_eq,inA_eq,x1,b31]
  all_goals done
 have b31:(x.op == 31)=false:=by rw [beq_eq_false_iff_ne]; exact a31
 by_cases a12:x.op=12
 ·have b12:(x.op == 12)=true:=by rw [beq_iff_eq]; exact a12
  have hs:succI x i h=[(x.a,h)]:=by simp [succI,a12]
  rw [hs]
  simp (maxSteps:=10000000) +contextual -implicitDefEqProofs only [bnC,bnS,St.put,borrow,borrows,pin,pl,↓reduceIte,reduceCtorEq,Nat.reduceAdd,Nat.reduceLeDiff,Nat.reduceMul,Int.reduceLT,Nat.reduceLT,bnT,bnX,Int.reduceAdd,Int.reduceMul,bnH,kA_eq,inA_eq,x1,b31,b12,spA_eq]
  all_goals done
 have b12:(x.op == 12)=false:=by rw [beq_eq_false_iff_ne]; exact a12
 by_cases a13:x.op=13
 ·have b13:(x.op == 13)=true:=by rw [beq_iff_eq]; exact a13
  have hs:succI x i h=[(i+1,h - 1),(x.a,h - 1)]:=by simp [succI,a13]
  rw [hs]
  simp (maxSteps:=10000000) +contextual -implicitDefEqProofs only [bnC,bnS,St.put,borrow,borrows,pin,pl,↓reduceIte,reduceCtorEq,Nat.reduceAdd,Nat.reduceLeDiff,Nat.reduceMul,Int.reduceLT,Nat.reduceLT,bnT,bnX,Int.reduceAdd,Int.reduceMul,bnH,kA_eq,inA_eq,x1,b31,b12,b13,w1,w2,spA_eq]
  all_goals done
 have b13:(x.op == 13)=false:=by rw [beq_eq_false_iff_ne]; exact a13
 by_cases a14:x.op=14
 ·have b14:(x.op == 14)=true:=by rw [beq_iff_eq]; exact a14
  have hs:succI x i h=[(i+1,h),(x.a,h - 1)]:=by simp [succI,a14]
  rw [hs]
  simp (maxSteps:=10000000) +contextual -implicitDefEqProofs only [bnC,bnS,St.put,borrow,borrows,pin,pl,↓reduceIte,reduceCtorEq,Nat.reduceAdd,Nat.reduceLeDiff,Nat.reduceMul,Int.reduceLT,Nat.reduceLT,bnT,bnX,Int.reduceAdd,Int.reduceMul,bnH,kA_eq,inA_eq,x1,b31,b12,b13,b14,w1,w2,spA_eq]
  all_goals done
 have b14:(x.op == 14)=false:=by rw [beq_eq_false_iff_ne]; exact a14
 have hs:succI x i h=[(i+1,h - (effO x.op).1+(effO x.op).2.1)]:=by simp [succI,a31,a12,a13,a14]
 rw [hs]
 simp (maxSteps:=10000000) +contextual -implicitDefEqProofs only [bnC,bnS,St.put,borrow,borrows,pin,pl,↓reduceIte,reduceCtorEq,Nat.reduceAdd,Nat.reduceLeDiff,Nat.reduceMul,Int.reduceLT,Nat.reduceLT,bnT,bnX,Int.reduceAdd,Int.reduceMul,bnH,kA_eq,inA_eq,x1,b31,b12,b13,b14,w1,w3,w4,spA_eq]
 all_goals done
structure HJ (c:Cd) (k:Nat) (hs:List Int) (td:List (Int × Int)):Prop where
 len:hs.length=c.ins.length
 mea:3 * negs hs+td.length≤3 * c.ins.length+k
 mark:∀ i:Int,0≤i→i < c.ins.length→0≤hAt hs i→Rch c i (hAt hs i)∧hAt hs i≤48∧okIn (insAt c i) (hAt hs i)
 wait:∀ x ∈ td,Rch c x.1 x.2∧0≤x.1∧0≤x.2
 ents:∀ j,j < k→((c.ens.getD j default).pc,0) ∈ td∨(c.ens.getD j default).pc < c.ins.length∧hAt hs (c.ens.getD j default).pc=0
 clos:∀ i:Int,0≤i→i < c.ins.length→0≤hAt hs i→∀ j h',(j,h') ∈ succI (insAt c i) i (hAt hs i)→(j,h') ∈ td∨j < c.ins.length∧hAt hs j=h'
theorem hj_start (c:Cd):HJ c 0 (List.replicate c.ins.length (-1)) []:=by
 have hm:∀ i:Int,hAt (List.replicate c.ins.length (-1)) i=-1:=fun i=>by
  unfold hAt
  rw [List.getD_eq_getElem?_getD]
  by_cases h:i.toNat < c.ins.length
  ·rw [List.getElem?_replicate,if_pos h]; rfl
  ·rw [List.getElem?_replicate,if_neg h]; rfl
 refine ⟨by simp,?_,fun i _ _ h=>?_,fun x hx=>by simp at hx,fun j hj=>by omega,fun i _ _ h=>?_⟩
 ·have:=negs_le (List.replicate c.ins.length (-1)); simp at this; simp; omega
 ·rw [hm] at h; omega
 ·rw [hm] at h; omega
theorem hj_ent {c:Cd} (hL:Lead c) {k:Nat} {hs:List Int} {td:List (Int × Int)} (h:HJ c k hs td) (hk:k < c.ens.length):HJ c (k+1) hs (td++[((c.ens.getD k default).pc,0)]):=by
 have hmea:=h.mea
 refine ⟨h.len,by simp; omega,h.mark,fun x hx=>?_,fun j hj=>?_,fun i h0 h1 h2 j h' hj=>?_⟩
 ·rcases List.mem_append.1 hx with hx | hx
  ·exact h.wait x hx
  ·simp only [List.mem_singleton] at hx
   subst hx
   exact ⟨.ent (getD_mem hk),hL.ent _ (getD_mem hk),Int.le_refl _⟩
 ·rcases Nat.lt_or_ge j k with hj' | hj'
  ·exact (h.ents j hj').imp (List.mem_append_left _) id
  ·obtain rfl:j=k:=by omega
   exact .inl (List.mem_append_right _ (List.mem_singleton.2 rfl))
 ·exact (h.clos i h0 h1 h2 j h' hj).imp (List.mem_append_left _) id
theorem hj_end {c:Cd} (hL:Lead c) {hs:List Int} (h:HJ c c.ens.length hs []):heiC c=true:=by
 refine heiC_true (good_closed (hs:=hs) (fun e he=>?_) (fun i h0 h1 h2=>?_) hL)
 ·obtain ⟨j,hj,rfl⟩:=List.getElem_of_mem he
  have:=h.ents j hj
  rw [List.getD_eq_getElem?_getD,List.getElem?_eq_getElem hj] at this
  rcases this with h1 | h1
  ·cases h1
  ·exact h1
 ·obtain ⟨g1,g2,g3⟩:=h.mark i h0 h1 h2
  exact ⟨g2,g3,fun j h' hj=>by
   rcases h.clos i h0 h1 h2 j h' hj with h1 | h1
   ·cases h1
   ·exact h1⟩
theorem hj_drop {c:Cd} {k:Nat} {hs:List Int} {td:List (Int × Int)} {i h:Int} (hJ:HJ c k hs (td++[(i,h)])) (h1:i < c.ins.length) (h2:hAt hs i=h):HJ c k hs td:=by
 have hmea:=hJ.mea
 have key:∀ {j h':Int},(j,h') ∈ td++[(i,h)]∨j < c.ins.length∧hAt hs j=h'→(j,h') ∈ td∨j < c.ins.length∧hAt hs j=h':=by
  intro j h' hh
  rcases hh with hh | hh
  ·rcases List.mem_append.1 hh with hh | hh
   ·exact .inl hh
   ·simp only [List.mem_singleton,Prod.mk.injEq] at hh
    rw [hh.1,hh.2]; exact .inr ⟨h1,h2⟩
  ·exact .inr hh
 refine ⟨hJ.len,by simp at hmea; omega,hJ.mark,fun x hx=>hJ.wait x (List.mem_append_left _ hx),fun j hj=>key (hJ.ents j hj),fun i' g0 g1 g2 j h' hj=>key (hJ.clos i' g0 g1 g2 j h' hj)⟩
theorem hj_mark {c:Cd} (hL:Lead c) {k:Nat} {hs:List Int} {td:List (Int × Int)} {i h:Int} (hJ:HJ c k hs (td++[(i,h)])) (h1:i < c.ins.length) (h2:h≤48) (h3:¬ 0≤hAt hs i) (ho:okIn (insAt c i) h):
  HJ c k (hs.set i.toNat h) (td++succI (insAt c i) i h)∧negs (hs.set i.toNat h)+1=negs hs:=by
 have hmea:=hJ.mea
 obtain ⟨hr,hi,hh⟩:=hJ.wait (i,h) (List.mem_append_right _ (List.mem_singleton.2 rfl))
 simp only at hr hi hh
 have hl:=hJ.len
 have hneg:=negs_set (hs:=hs) (k:=i.toNat) (h:=h) (by omega) (by unfold hAt at h3; omega) hh
 have hs':∀ j:Int,0≤j→hAt (hs.set i.toNat h) j=if j=i then h else hAt hs j:=fun j hj=>hAt_set hi (by omega) hj
 have hp:∀ j:Int,0≤j→0≤hAt hs j→hAt (hs.set i.toNat h) j=hAt hs j:=fun j hj g=>by
  rw [hs' j hj,if_neg]; rintro rfl; exact h3 g
 have hsl:(succI (insAt c i) i h).length≤2:=by
  unfold succI
  split
  ·simp
  ·split
   ·simp
   ·split
    ·simp
    ·split <;> simp
 have key:∀ {j h':Int},0≤j→0≤h'→(j,h') ∈ td++[(i,h)]∨j < c.ins.length∧hAt hs j=h'→(j,h') ∈ td++succI (insAt c i) i h∨j < c.ins.length∧hAt (hs.set i.toNat h) j=h':=by
  intro j h' g0 g0' hx
  rcases hx with hx | hx
  ·rcases List.mem_append.1 hx with hx | hx
   ·exact .inl (List.mem_append_left _ hx)
   ·simp only [List.mem_singleton,Prod.mk.injEq] at hx
    rw [hx.1,hx.2]; exact .inr ⟨h1,by rw [hs' i hi,if_pos rfl]⟩
  ·exact .inr ⟨hx.1,by rw [hp j g0 (by rw [hx.2]; exact g0'),hx.2]⟩
 refine ⟨⟨by simp [hl],by simp at hmea ⊢; omega,?_,?_,?_,?_⟩,hneg⟩
 ·intro j hj hj' hj2
  rw [hs' j hj] at hj2 ⊢
  split
  ·rename_i hji; subst hji; exact ⟨hr,h2,ho⟩
  ·rename_i hji
   rw [if_neg hji] at hj2
   exact hJ.mark j hj hj' hj2
 ·intro x hx
  rcases List.mem_append.1 hx with hx | hx
  ·exact hJ.wait x (List.mem_append_left _ hx)
  ·obtain ⟨j,h'⟩:=x
   exact ⟨.step hr h1 ho hx,succ_pos hL hi h1 hx,succ_high ho hx⟩
 ·intro j hj
  by_cases hj2:j < c.ens.length
  ·exact key (hL.ent _ (getD_mem hj2)) (Int.le_refl _) (hJ.ents j hj)
  ·have e0:(c.ens.getD j default).pc=0:=by rw [List.getD_eq_getElem?_getD,List.getElem?_eq_none (by omega)]; rfl
   rw [e0]
   have:=hJ.ents j hj
   rw [e0] at this
   exact key (Int.le_refl _) (Int.le_refl _) this
 ·intro j hj hj' hj2 q h' hq
  rw [hs' j hj] at hj2 hq
  by_cases hji:j=i
  ·subst hji
   rw [if_pos rfl] at hq
   exact .inl (List.mem_append_right _ hq)
  ·rw [if_neg hji] at hq hj2
   obtain ⟨g1,g2,g3⟩:=hJ.mark j hj hj' hj2
   exact key (succ_pos hL hj hj' hq) (succ_high g3 hq) (hJ.clos j hj hj' hj2 q h' hq)
end Go.Proofs.YtdjpkhjaibdogaaGreat

namespace Go.Proofs.YtdjpkhjaibdogaaGreat
open Go Go.SX
set_option linter.unusedSimpArgs false
set_option linter.unusedVariables false
attribute [local congr] ite_congr
set_option maxRecDepth 100000
set_option maxHeartbeats 8000000
theorem vok_atP {P:Program} {f:Nat} {args:List AV} {r:AV} (h:VSpec P f args r):∃ F,VOk P f F∧F args=some r:=by
 refine ⟨fun a=>open Classical in if a=args then some r else none,?_,by simp⟩
 intro a v hv
 simp only at hv
 split at hv
 ·rename_i e; subst e; cases hv; exact h
 ·cases hv
theorem fok_atP {P:Program} {f:Nat} {args:List AV} {r:AV} (h:FSpec P f args r):∃ F,FOk P f F∧F args=some r:=by
 refine ⟨fun a=>open Classical in if a=args then some r else none,?_,by simp⟩
 intro a v hv
 simp only at hv
 split at hv
 ·rename_i e; subst e; cases hv; exact h
 ·cases hv
structure Tq where
 hs:List Int
 ws:List (Int × Int)
 n:Nat
 v:Nat
def tqH (c:Cd) (r:Tq):List Blk:=[⟨true,0,36,7,[cdA c],false⟩,⟨true,1,3,1,r.hs.map (kA .i64),false⟩,⟨true,r.v,218,2,r.ws.map spA,false⟩]
theorem take_app1 {α:Type} {ws:List α} {n:Nat} (h:n≤ws.length) (l:List α):(ws.take n++l).take (n+l.length)=ws.take n++l:=List.take_of_length_le (by simp; omega)
theorem refheights_spec (c:Cd) (hq:Fit c) (hLd:Lead c):VSpec Tryz.prog 103 [cdA c] (.tu [.jk,bA (heiC c)]):=by
 obtain ⟨q1,q2,q3,q4,q5,q6,q7,q8⟩:=hq
 refine vspecW_of_go (gEnv_ok (lit:=false) (pm:=fun _=>none) (.cons ok150 .nil) (.cons ok151 .nil) .nil .nil) rfl Tryz.func103 rfl (by decide) (by kernel_rfl) (by simp [bA,AV.noref,norefs]) ?_
 simp only [Tryz.f103,initSt,List.length_cons,List.length_nil,Nat.reduceAdd,Nat.reduceSub,List.replicate]
 have hsz:decide ((c.ins.length:Int) * 8≤140737488355328)=true:=by rw [decide_eq_true_eq]; omega
 have hsz2:decide ((c.ins.length:Int)≤(c.ins.length:Int))=true:=by rw [decide_eq_true_eq]; omega
 have g0:decide ((0:Int)≤(c.ins.length:Int))=true:=by rw [decide_eq_true_eq]; omega
 refine vc_go ?_
 simp (maxSteps:=10000000) +contextual -implicitDefEqProofs only [bnC,bnS,St.put,↓reduceIte,reduceCtorEq,Nat.reduceAdd,Int.reduceLT,Nat.reduceLT,bnT,Int.reduceAdd,bnH,bA_eq,cdA_eq,hsz,hsz2]
 have hst:=hj_start c
 obtain ⟨n,hn⟩:∃ n,c.ins.length=n:=⟨_,rfl⟩
 simp only [hn] at hsz hsz2 g0 hst ⊢
 refine go_loopW (σ:=Nat) (fun k cnt=>⟨mkT 0 123 [(1,.pt 0 0 0 0),(4,.sl 1 1 0 n),(5,.sc (.int .i64 k))],
   [⟨true,0,36,7,[cdA c],false⟩,⟨true,1,3,1,(List.replicate k (-1)++List.replicate (n - k) 0).map (kA .i64),false⟩],cnt⟩)
  (fun k=>k≤n) (fun k=>n - k) 0 (Nat.zero_le _) ?_ ?_ rfl ?_
 ·simp (maxSteps:=10000000) only [bnC,bnS,↓reduceIte,reduceCtorEq,Nat.reduceAdd,Nat.reduceEqDiff,mkT,lkT]
 ·simp (maxSteps:=10000000) only [bnC,bnS,kA_eq,cdA_eq,List.map_replicate]
 rintro k cnt hk ih
 by_cases hk':k < n
 ·have h1:decide ((k:Int) < (n:Int))=true:=by rw [decide_eq_true_eq]; omega
  have h2:decide ((0:Int)≤(k:Int))=true:=by rw [decide_eq_true_eq]; omega
  have w1:IntKind.i64.wrap ((k:Int)+1)=((k+1:Nat):Int):=by rw [wrap64 (by omega) (by omega)]; omega
  have h3:decide (k < (List.replicate k (-1:Int)++List.replicate (n - k) 0).length)=true:=by rw [decide_eq_true_eq]; simp; omega
  have hm:((List.replicate k (-1:Int)++List.replicate (n - k) 0).map (kA .i64)).set k (AV.sc (.int .i64 (-1)))=(List.replicate (k+1) (-1:Int)++List.replicate (n - (k+1)) 0).map (kA .i64):=by
   rw [←rep_set hk',List.map_set]; rfl
  obtain ⟨L,hL⟩:∃ L,List.replicate k (-1:Int)++List.replicate (n - k) 0=L:=⟨_,rfl⟩
  rw [hL] at h3 hm ⊢
  refine vc_go ?_
  simp (maxSteps:=10000000) only [mkT,lkT,Nat.reduceAdd,Nat.reduceEqDiff,↓reduceIte,Nat.zero_add]
  simp (maxSteps:=10000000) +contextual -implicitDefEqProofs only [bnC,bnS,St.put,↓reduceIte,Int.reduceLT,Nat.reduceLT,bnT,bnH,kA_eq,cdA_eq,h1,h3,w1,hm,get_mapN]
  refine go_weak ?_ ?_ (Nat.le_refl _) (ih (k+1) _ (by omega) (by omega))
  all_goals simp (maxSteps:=10000000) only [bnC,bnS,↓reduceIte,reduceCtorEq,Nat.reduceAdd,Nat.reduceEqDiff,List.replicate_succ,mkT,lkT,kA_eq,cdA_eq]
  all_goals done
 obtain rfl:k=n:=by omega
 clear ih hk hk' hsz hsz2 g0
 have h1:decide ((k:Int) < (k:Int))=false:=by simp
 rw [Nat.sub_self,List.replicate_zero,List.append_nil]
 obtain ⟨R,hR⟩:∃ R,List.replicate k (-1:Int)=R:=⟨_,rfl⟩
 rw [hR] at hst ⊢
 have hRl:R.length=k:=by rw [←hR]; simp
 refine vc_go ?_
 simp (maxSteps:=10000000) only [mkT,lkT,Nat.reduceAdd,Nat.reduceEqDiff,↓reduceIte,Nat.zero_add]
 simp (maxSteps:=10000000) +contextual -implicitDefEqProofs only [bnC,bnS,St.put,↓reduceIte,bnT,bnH,cdA_eq,h1]
 refine go_weak (T':=mkT 0 123 [(1,.pt 0 0 0 0),(4,.sl 1 1 0 k),(6,.vw true []),(7,.sc (.int .i64 ((0:Nat):Int)))]) ?_ (weakH_refl _) (Nat.le_refl _) ?_
 ·simp (maxSteps:=10000000) only [bnC,bnS,↓reduceIte,reduceCtorEq,Nat.reduceAdd,Nat.reduceEqDiff,mkT,lkT]
 refine go_nil (T':=mkT 0 123 [(1,.pt 0 0 0 0),(4,.sl 1 1 0 k),(6,.sl 2 cnt 0 0),(7,.sc (.int .i64 ((0:Nat):Int)))]) cnt 218 2 (cnt+1) (by omega) (by omega) ?_ (nwH_refl _ _ _) ?_
 ·simp (maxSteps:=10000000) only [mkT,lkT,Nat.reduceAdd,Nat.reduceEqDiff,↓reduceIte,Nat.zero_add]
  simp only [nwL_cons,nwL_nil,nwV_self,nwV_nil,and_self,and_true,List.length_cons,List.length_nil,Nat.reduceAdd]
 simp only [List.cons_append,List.nil_append]
 refine go_loopW (σ:=Nat × Tq) (fun y cnt=>⟨mkT 0 123 [(1,.pt 0 0 0 0),(4,.sl 1 1 0 k),(6,.sl 2 y.2.v 0 y.2.n),(7,.sc (.int .i64 y.1))],tqH c y.2,cnt⟩)
  (fun y=>y.1≤c.ens.length∧y.2.hs=R∧y.2.n≤y.2.ws.length∧HJ c y.1 R (y.2.ws.take y.2.n)) (fun y=>c.ens.length - y.1) (0,⟨R,[],0,cnt⟩) ⟨Nat.zero_le _,rfl,Nat.le_refl _,hst⟩ (weakT_refl _) ?_ rfl ?_
 ·simp only [tqH]
  simp (maxSteps:=10000000) only [bnC,bnS,cdA_eq]
 clear hst hR hRl
 rintro ⟨j,⟨hs,ws,n,v⟩⟩ cn ⟨hj,hR,hnl,hI⟩ ih
 simp only at hj hR hnl hI
 subst hR
 have hbd:=hI.mea
 have hlen:=hI.len
 have htl:(ws.take n).length=n:=by rw [List.length_take]; omega
 rw [htl] at hbd
 by_cases hj':j < c.ens.length
 ·have h1:decide ((j:Int) < (c.ens.length:Int))=true:=by rw [decide_eq_true_eq]; omega
  have h2:decide (j < c.ens.length)=true:=by rw [decide_eq_true_eq]; omega
  have w1:IntKind.i64.wrap ((j:Int)+1)=((j+1:Nat):Int):=by rw [wrap64 (by omega) (by omega)]; omega
  have hne:=hj_ent hLd hI hj'
  obtain ⟨x,hx⟩:∃ x,c.ens.getD j default=x:=⟨_,rfl⟩
  rw [hx] at hne
  have ht:List.take n (ws.map spA)=(ws.take n).map spA:=by rw [List.map_take]
  have hsz:decide ((n+1) * 16≤140737488355328)=true:=by rw [decide_eq_true_eq]; omega
  have ha:(ws.take n).map spA++[AV.ag [AV.sc (.int .i64 x.pc),AV.sc (.int .i64 0)]]=(ws.take n++[(x.pc,(0:Int))]).map spA:=by rw [List.map_append]; rfl
  have ih:=fun v c=>ih (j+1,⟨hs,ws.take n++[(x.pc,0)],n+1,v⟩) c ⟨by simp only; omega,rfl,by simp; omega,by simp only; rw [show n+1=n+[((x.pc:Int),(0:Int))].length from rfl,take_app1 hnl]; exact hne⟩ (by simp only; omega)
  simp only [tqH] at ih ⊢
  refine vc_go ?_
  simp (maxSteps:=10000000) only [mkT,lkT,Nat.reduceAdd,Nat.reduceEqDiff,↓reduceIte,Nat.zero_add]
  simp (maxSteps:=10000000) +contextual -implicitDefEqProofs only [bnC,bnS,St.put,↓reduceIte,reduceCtorEq,Nat.reduceAdd,Nat.reduceLeDiff,Nat.reduceMul,Int.reduceLT,Nat.reduceLT,bnT,bnX,Int.reduceAdd,Int.reduceMul,bnH,enA_eq,cdA_eq,AV.noref,h1,h2,hx,ldV_mapN,allSz_enA,w1,ht,hsz,ha]
  refine go_weak ?_ ?_ (Nat.le_refl _) (ih (cn+1) _)
  all_goals simp (maxSteps:=10000000) only [bnC,bnS,↓reduceIte,reduceCtorEq,Nat.reduceAdd,Nat.reduceEqDiff,mkT,lkT,cdA_eq]
  all_goals done
 obtain rfl:j=c.ens.length:=by omega
 clear ih hj hj'
 have h1:decide ((c.ens.length:Int) < (c.ens.length:Int))=false:=by simp
 refine vc_go ?_
 simp only [tqH]
 simp (maxSteps:=10000000) only [mkT,lkT,Nat.reduceAdd,Nat.reduceEqDiff,↓reduceIte,Nat.zero_add]
 simp (maxSteps:=10000000) +contextual -implicitDefEqProofs only [bnC,bnS,St.put,↓reduceIte,reduceCtorEq,bnT,bnH,cdA_eq,h1]
 refine go_loopW (σ:=Tq) (fun y cnt=>⟨mkT 0 123 [(1,.pt 0 0 0 0),(4,.sl 1 1 0 k),(6,.sl 2 y.v 0 y.n)],tqH c y,cnt⟩)
  (fun y=>y.n≤y.ws.length∧HJ c c.ens.length y.hs (y.ws.take y.n)) (fun y=>3 * negs y.hs+y.n) ⟨hs,ws,n,v⟩ ⟨hnl,hI⟩ ?_ ?_ rfl ?_
 ·simp (maxSteps:=10000000) only [bnC,bnS,↓reduceIte,reduceCtorEq,Nat.reduceAdd,Nat.reduceEqDiff,mkT,lkT]
 ·simp only [tqH]
  simp (maxSteps:=10000000) only [bnC,bnS,cdA_eq]
 clear hI hbd hnl hlen h1 htl
 rintro ⟨hs,ws,n,v⟩ cn ⟨hnl,hI⟩ ih
 simp only at hnl hI ih
 have hbd:=hI.mea
 have hlen:=hI.len
 have htl:(ws.take n).length=n:=by rw [List.length_take]; omega
 rw [htl] at hbd
 rw [hn] at hlen
 simp only [tqH] at ih ⊢
 refine vc_go ?_
 by_cases hr0:n=0
 ·subst hr0
  have e:=hj_end hLd (by simpa using hI)
  have h1:decide ((0:Int) < ((0:Nat):Int))=false:=by decide
  simp (maxSteps:=10000000) only [mkT,lkT,Nat.reduceAdd,Nat.reduceEqDiff,↓reduceIte,Nat.zero_add]
  simp (maxSteps:=10000000) +contextual -implicitDefEqProofs only [bnC,bnS,St.put,borrow,borrows,↓reduceIte,Int.reduceLT,Nat.reduceLT,bnX,bnH,cdA_eq,e]
  all_goals done
 obtain ⟨m,rfl⟩:∃ m,n=m+1:=⟨n - 1,by omega⟩
 have htk:ws.take (m+1)=ws.take m++[ws.getD m default]:=by rw [List.take_succ_eq_append_getElem (by omega),List.getD_eq_getElem?_getD,List.getElem?_eq_getElem (by omega)]; rfl
 obtain ⟨⟨i,h⟩,hp⟩:∃ p,ws.getD m default=p:=⟨_,rfl⟩
 rw [hp] at htk
 rw [htk] at hI
 obtain ⟨hR,p0,p2⟩:=hI.wait (i,h) (List.mem_append_right _ (List.mem_singleton.2 rfl))
 simp only at hR p0 p2
 obtain ⟨p,rfl⟩:∃ p:Nat,i=(p:Int):=⟨i.toNat,by omega⟩
 have c1:decide ((0:Int) < ((m+1:Nat):Int))=true:=by rw [decide_eq_true_eq]; omega
 have w1:IntKind.i64.wrap (((m+1:Nat):Int) - 1)=(m:Int):=by rw [wrap64 (by omega) (by omega)]; omega
 have c2:decide ((0:Int)≤(m:Int))=true:=by rw [decide_eq_true_eq]; omega
 have c3:decide ((m:Int) < ((m+1:Nat):Int))=true:=by rw [decide_eq_true_eq]; omega
 have c9:decide ((m:Int)≤((m+1:Nat):Int))=true:=by rw [decide_eq_true_eq]; omega
 have c4:decide (m < ws.length)=true:=by rw [decide_eq_true_eq]; omega
 by_cases d1:p < k
 rotate_left
 ·have e:=bad_end hR (by omega)
  have b1:decide ((k:Int)≤(p:Int))=true:=by rw [decide_eq_true_eq]; omega
  simp (maxSteps:=10000000) only [mkT,lkT,Nat.reduceAdd,Nat.reduceEqDiff,↓reduceIte,Nat.zero_add]
  simp (maxSteps:=10000000) +contextual -implicitDefEqProofs only [bnC,bnS,guardV,St.put,borrow,borrows,↓reduceIte,reduceCtorEq,Nat.reduceAdd,Int.reduceLT,Nat.reduceLT,bnT,bnX,Int.reduceAdd,bnH,cdA_eq,spA_eq,c1,w1,c3,c4,c9,hp,get_mapN,b1,e]
  all_goals done
 have b1:decide ((k:Int)≤(p:Int))=false:=by rw [decide_eq_false_iff_not]; omega
 by_cases d2:h≤48
 rotate_left
 ·have e:=bad_high hR d2
  have b2:decide ((48:Int) < h)=true:=by rw [decide_eq_true_eq]; omega
  simp (maxSteps:=10000000) only [mkT,lkT,Nat.reduceAdd,Nat.reduceEqDiff,↓reduceIte,Nat.zero_add]
  simp (maxSteps:=10000000) +contextual -implicitDefEqProofs only [bnC,bnS,guardV,St.put,borrow,borrows,↓reduceIte,reduceCtorEq,Nat.reduceAdd,Int.reduceLT,Nat.reduceLT,bnT,bnX,Int.reduceAdd,bnH,cdA_eq,spA_eq,c1,w1,c3,c4,c9,hp,get_mapN,b1,b2,e]
  all_goals done
 have b2:decide ((48:Int) < h)=false:=by rw [decide_eq_false_iff_not]; omega
 have c5:decide ((0:Int)≤(p:Int))=true:=by rw [decide_eq_true_eq]; omega
 have c6:decide (p < c.ins.length)=true:=by rw [decide_eq_true_eq]; omega
 have c7:decide ((p:Int) < (k:Int))=true:=by rw [decide_eq_true_eq]; omega
 have c8:decide (p < hs.length)=true:=by rw [decide_eq_true_eq]; omega
 have c10:decide ((p:Int) < (c.ins.length:Int))=true:=by rw [decide_eq_true_eq]; omega
 obtain ⟨g,hg⟩:∃ g,hs.getD p default=g:=⟨_,rfl⟩
 have hg':hAt hs p=g:=by rw [hAt_of,←hg,getD_def (by omega)]
 by_cases d3:0≤g
 ·have b3:decide ((0:Int)≤g)=true:=by rw [decide_eq_true_eq]; exact d3
  by_cases d4:g=h
  ·have b4:(g != h)=false:=by simp [d4]
   have ih:=fun c=>ih ⟨hs,ws,m,v⟩ c ⟨by simp only; omega,hj_drop hI (by omega) (by rw [hg',d4])⟩ (by simp only; omega)
   simp only at ih
   simp (maxSteps:=10000000) only [mkT,lkT,Nat.reduceAdd,Nat.reduceEqDiff,↓reduceIte,Nat.zero_add]
   simp (maxSteps:=10000000) +contextual -implicitDefEqProofs only [bnC,bnS,guardV,St.put,↓reduceIte,reduceCtorEq,Nat.reduceAdd,Int.reduceLT,Nat.reduceLT,bnT,bnX,Int.reduceAdd,bnH,kA_eq,cdA_eq,spA_eq,c1,w1,c3,c4,c9,hp,get_mapN,b1,b2,c7,c8,hg,b3,b4]
   repeat' (first | exact chk_no (by kernel_rfl) | refine ⟨chk_no (by kernel_rfl),?_⟩ | refine And.intro ?_ ?_ | fail)
   refine go_weak ?_ ?_ (Nat.le_refl _) (ih _)
   all_goals simp (maxSteps:=10000000) only [bnC,bnS,↓reduceIte,reduceCtorEq,Nat.reduceAdd,Nat.reduceEqDiff,mkT,lkT,cdA_eq]
   all_goals done
  ·have b4:(g != h)=true:=by simpa using d4
   have e:=bad_two hR (hI.mark p p0 (by omega) (by rw [hg']; exact d3)).1 (by rw [hg']; exact fun hh=>d4 hh.symm)
   simp (maxSteps:=10000000) only [mkT,lkT,Nat.reduceAdd,Nat.reduceEqDiff,↓reduceIte,Nat.zero_add]
   simp (maxSteps:=10000000) +contextual -implicitDefEqProofs only [bnC,bnS,guardV,St.put,borrow,borrows,↓reduceIte,reduceCtorEq,Nat.reduceAdd,Int.reduceLT,Nat.reduceLT,bnT,bnX,Int.reduceAdd,bnH,kA_eq,cdA_eq,spA_eq,c1,w1,c3,c4,c9,hp,get_mapN,b1,b2,c7,c8,hg,b3,b4,e]
   repeat' (first | exact chk_no (by kernel_rfl) | refine ⟨chk_no (by kernel_rfl),?_⟩ | refine And.intro ?_ ?_ | fail)
   all_goals done
 have b3:decide ((0:Int)≤g)=false:=by rw [decide_eq_false_iff_not]; exact d3
 obtain ⟨x,hx⟩:∃ x,c.ins.getD p default=x:=⟨_,rfl⟩
 have hxi:insAt c p=x:=by rw [insAt,Int.toNat_natCast]; exact hx
 have hm:(hs.map (kA .i64)).set p (AV.sc (.int .i64 h))=(hs.set p h).map (kA .i64):=by rw [List.map_set]; rfl
 have x1:=e150 x.op
 by_cases d4:(effO x.op).1≤h
 rotate_left
 ·have e:=bad_in hR (fun hh=>d4 (by rw [hxi] at hh; exact hh.1))
  have b4:decide (h < (effO x.op).1)=true:=by rw [decide_eq_true_eq]; omega
  simp (maxSteps:=10000000) only [mkT,lkT,Nat.reduceAdd,Nat.reduceEqDiff,↓reduceIte,Nat.zero_add]
  simp (maxSteps:=10000000) +contextual -implicitDefEqProofs only [bnC,bnS,guardV,St.put,borrow,borrows,pin,pl,↓reduceIte,reduceCtorEq,Nat.reduceAdd,Int.reduceLT,Nat.reduceLT,bnT,bnX,Int.reduceAdd,bnH,kA_eq,inA_eq,cdA_eq,spA_eq,norefs,AV.noref,c1,w1,c3,c4,c9,hp,get_mapN,b1,b2,c6,c7,c8,c10,hg,b3,hx,hm,x1,b4,allSz_inA,e]
  all_goals done
 have b4:decide (h < (effO x.op).1)=false:=by rw [decide_eq_false_iff_not]; omega
 by_cases d5:x.op=31∧h≠0
 ·have e:=bad_in hR (fun hh=>d5.2 (by rw [hxi] at hh; exact hh.2 d5.1))
  have b5:(x.op == 31)=true:=by rw [beq_iff_eq]; exact d5.1
  have b6:(h != 0)=true:=by simpa using d5.2
  simp (maxSteps:=10000000) only [mkT,lkT,Nat.reduceAdd,Nat.reduceEqDiff,↓reduceIte,Nat.zero_add]
  simp (maxSteps:=10000000) +contextual -implicitDefEqProofs only [bnC,bnS,guardV,St.put,borrow,borrows,pin,pl,↓reduceIte,reduceCtorEq,Nat.reduceAdd,Int.reduceLT,Nat.reduceLT,bnT,bnX,Int.reduceAdd,bnH,kA_eq,inA_eq,cdA_eq,spA_eq,norefs,AV.noref,c1,w1,c3,c4,c9,hp,get_mapN,b1,b2,c6,c7,c8,c10,hg,b3,hx,hm,x1,b4,b5,b6,allSz_inA,e]
  all_goals done
 have ho:okIn (insAt c p) h:=by
  rw [hxi]
  exact ⟨d4,fun hh=>by
   by_cases hz:h=0
   ·exact hz
   ·exact absurd ⟨hh,hz⟩ d5⟩
 obtain ⟨hI2,hng⟩:=hj_mark hLd hI (by omega) d2 (by rw [hg']; exact d3) ho
 rw [hxi] at hI2
 have hE:=e151 x p h ⟨⟨p0,by simp only; omega⟩,by simp only; omega,by simp only; omega⟩
 obtain ⟨S,hS⟩:∃ S,succI x p h=S:=⟨_,rfl⟩
 rw [hS] at hI2 hE
 simp only [inA_eq] at hE
 have hSl:S.length≤2:=by
  rw [←hS]; unfold succI
  split
  ·simp
  ·split
   ·simp
   ·split
    ·simp
    ·split <;> simp
 have ih:=fun v c=>ih ⟨hs.set p h,ws.take m++S,m+S.length,v⟩ c ⟨by simp; omega,by simp only; rw [take_app1 (by omega)]; exact hI2⟩ (by simp only; rw [Int.toNat_natCast] at hng; omega)
 simp only at ih
 have ht:List.take m (ws.map spA)=(ws.take m).map spA:=by rw [List.map_take]
 have hsz:decide ((m+S.length) * 16≤140737488355328)=true:=by rw [decide_eq_true_eq]; omega
 have ha:(ws.take m).map spA++S.map spA=(ws.take m++S).map spA:=by rw [List.map_append]
 clear hI hI2 hR hS hng
 cases b5:(x.op == 31) with
 | true=>
  have b6:(h != 0)=false:=by
   have:x.op=31:=by simpa using b5
   have:h=0:=by
    by_cases hz:h=0
    ·exact hz
    ·exact absurd ⟨this,hz⟩ d5
   simp [this]
  simp (maxSteps:=10000000) only [mkT,lkT,Nat.reduceAdd,Nat.reduceEqDiff,↓reduceIte,Nat.zero_add]
  simp (maxSteps:=10000000) +contextual -implicitDefEqProofs only [bnC,bnS,guardV,St.put,borrow,borrows,pin,pl,↓reduceIte,reduceCtorEq,Nat.reduceAdd,Nat.reduceEqDiff,Int.reduceLT,Nat.reduceLT,bnT,bnX,Int.reduceAdd,bnH,hin,kA_eq,inA_eq,cdA_eq,spA_eq,norefs,AV.noref,c1,w1,c3,c4,c9,hp,get_mapN,b1,b2,c6,c7,c8,c10,hg,b3,hx,hm,x1,b4,b5,b6,allSz_inA,allSz_spA,norefs_spA,hE,ht,hsz,ha]
  refine go_weak ?_ ?_ (Nat.le_refl _) (ih (cn+1+1) _)
  all_goals simp (maxSteps:=10000000) only [bnC,bnS,↓reduceIte,reduceCtorEq,Nat.reduceAdd,Nat.reduceEqDiff,mkT,lkT,cdA_eq]
  all_goals done
 | false=>
  simp (maxSteps:=10000000) only [mkT,lkT,Nat.reduceAdd,Nat.reduceEqDiff,↓reduceIte,Nat.zero_add]
  simp (maxSteps:=10000000) +contextual -implicitDefEqProofs only [bnC,bnS,guardV,St.put,borrow,borrows,pin,pl,↓reduceIte,reduceCtorEq,Nat.reduceAdd,Nat.reduceEqDiff,Int.reduceLT,Nat.reduceLT,bnT,bnX,Int.reduceAdd,bnH,hin,kA_eq,inA_eq,cdA_eq,spA_eq,norefs,AV.noref,c1,w1,c3,c4,c9,hp,get_mapN,b1,b2,c6,c7,c8,c10,hg,b3,hx,hm,x1,b4,b5,allSz_inA,allSz_spA,norefs_spA,hE,ht,hsz,ha]
  refine go_weak ?_ ?_ (Nat.le_refl _) (ih (cn+1+1) _)
  all_goals simp (maxSteps:=10000000) only [bnC,bnS,↓reduceIte,reduceCtorEq,Nat.reduceAdd,Nat.reduceEqDiff,mkT,lkT,cdA_eq]
  all_goals done
def lessN (c:Cd) (k:Nat):Bool:=lessE (c.ens.getD k default) (c.ens.getD (k+1) default)
def sortC (c:Cd):Bool:=!(List.range (c.ens.length - 1)).any (fun k=>!lessN c k)
theorem sortC_no {c:Cd} {k:Nat} (hk:k+1 < c.ens.length) (h:lessN c k=false):sortC c=false:=by
 have:(List.range (c.ens.length - 1)).any (fun k=>!lessN c k)=true:=List.any_eq_true.2 ⟨k,List.mem_range.2 (by omega),by simp [h]⟩
 rw [sortC,this]; rfl
theorem sortC_yes {c:Cd} (h:∀ k,k+1 < c.ens.length→lessN c k=true):sortC c=true:=by
 have:(List.range (c.ens.length - 1)).any (fun k=>!lessN c k)=false:=by
  rw [List.any_eq_false]
  intro k hk
  rw [List.mem_range] at hk
  simp [h k (by omega)]
 rw [sortC,this]; rfl
noncomputable def validC (c:Cd):Int:=if limC c=false then 9 else if partC c=false then 51 else if targC c=false then 54 else if sortC c=false then 66 else if heiC c=false then 53 else 0
theorem verify_spec (c:Cd) (hq:Fit c):VSpec Tryz.prog 98 [cdA c] (.tu [.jk,kA .i64 (validC c)]):=by
 have hens:=hq.ens
 have x1:=e142 c hq
 have x2:=e143 c hq
 have x3:=e144 c hq
 simp only [cdA_eq] at x1 x2 x3
 have x4:=fun a b=>e102 a b
 simp only [enA_eq] at x4
 by_cases ht:targC c=true
 rotate_left
 ·rw [Bool.not_eq_true] at ht
  refine vspecW_of_go (gEnv_ok (lit:=false) (pm:=fun _=>none) (.cons ok142 (.cons ok143 (.cons ok144 .nil))) .nil .nil .nil) rfl Tryz.func98 rfl (by decide) (by kernel_rfl) (by simp [kA,AV.noref,norefs]) ?_
  simp only [Tryz.f98,initSt,List.length_cons,List.length_nil,Nat.reduceAdd,Nat.reduceSub,List.replicate]
  refine vc_go ?_
  rw [ht] at x3
  cases h1:limC c with
  | false=>
   rw [h1] at x1
   simp (maxSteps:=10000000) +contextual -implicitDefEqProofs only [bnC,bnS,St.put,borrow,borrows,pin,pl,↓reduceIte,Nat.reduceAdd,bnT,Int.reduceAdd,bnH,kA_eq,cdA_eq,x1,validC,h1]
   all_goals done
  | true=>
  rw [h1] at x1
  cases h2:partC c with
  | false=>
   rw [h2] at x2
   simp (maxSteps:=10000000) +contextual -implicitDefEqProofs only [bnC,bnS,St.put,borrow,borrows,pin,pl,↓reduceIte,Nat.reduceAdd,Nat.reduceEqDiff,bnT,Int.reduceAdd,bnH,kA_eq,cdA_eq,x1,x2,validC,h1,h2]
   all_goals done
  | true=>
  rw [h2] at x2
  simp (maxSteps:=10000000) +contextual -implicitDefEqProofs only [bnC,bnS,St.put,borrow,borrows,pin,pl,↓reduceIte,Nat.reduceAdd,Nat.reduceEqDiff,bnT,Int.reduceAdd,bnH,kA_eq,cdA_eq,x1,x2,x3,validC,h1,h2,ht]
  all_goals done
 obtain ⟨F146,k146,e146⟩:=vok_atP (heights_spec c hq (lead_of ht))
 simp only [cdA_eq,bA_eq] at e146
 refine vspecW_of_go (gEnv_ok (lit:=false) (pm:=fun _=>none) (.cons ok142 (.cons ok143 (.cons ok144 (.cons ok145 .nil)))) (.cons k146 .nil) .nil .nil) rfl Tryz.func98 rfl (by decide) (by kernel_rfl) (by simp [kA,AV.noref,norefs]) ?_
 simp only [Tryz.f98,initSt,List.length_cons,List.length_nil,Nat.reduceAdd,Nat.reduceSub,List.replicate]
 refine vc_go ?_
 rw [ht] at x3
 cases h1:limC c with
 | false=>
  rw [h1] at x1
  simp (maxSteps:=10000000) +contextual -implicitDefEqProofs only [bnC,bnS,St.put,borrow,borrows,pin,pl,↓reduceIte,Nat.reduceAdd,bnT,Int.reduceAdd,bnH,kA_eq,cdA_eq,x1,validC,h1]
  all_goals done
 | true=>
 rw [h1] at x1
 cases h2:partC c with
 | false=>
  rw [h2] at x2
  simp (maxSteps:=10000000) +contextual -implicitDefEqProofs only [bnC,bnS,St.put,borrow,borrows,pin,pl,↓reduceIte,Nat.reduceAdd,Nat.reduceEqDiff,bnT,Int.reduceAdd,bnH,kA_eq,cdA_eq,x1,x2,validC,h1,h2]
  all_goals done
 | true=>
 rw [h2] at x2
 simp (maxSteps:=10000000) +contextual -implicitDefEqProofs only [bnC,bnS,St.put,borrow,borrows,pin,pl,↓reduceIte,Nat.reduceAdd,Nat.reduceEqDiff,bnT,Int.reduceAdd,bnH,kA_eq,cdA_eq,x1,x2,x3]
 refine go_loopW (σ:=Nat) (fun k cnt=>⟨mkT 0 47 [(1,.pt 0 0 0 0),(4,.sc (.int .i64 ((k+1:Nat):Int)))],[⟨true,0,36,7,[cdA c],false⟩],cnt⟩)
  (fun k=>(k+1≤c.ens.length∨k=0)∧∀ j,j < k→lessN c j=true) (fun k=>c.ens.length - k) 0 ⟨by omega,by omega⟩ ?_ ?_ rfl ?_
 ·simp (maxSteps:=10000000) only [bnC,bnS,↓reduceIte,reduceCtorEq,Nat.reduceAdd,Nat.reduceEqDiff,mkT,lkT]
 ·simp (maxSteps:=10000000) only [bnC,bnS,cdA_eq]
 rintro k cnt ⟨hk,hn⟩ ih
 by_cases hk':k+1 < c.ens.length
 rotate_left
 ·have h3:decide (((k+1:Nat):Int) < (c.ens.length:Int))=false:=by rw [decide_eq_false_iff_not]; omega
  have e:=sortC_yes (c:=c) (fun j hj=>hn j (by omega))
  refine vc_go ?_
  cases h4:heiC c with
  | false=>
   rw [h4] at e146
   simp (maxSteps:=10000000) only [mkT,lkT,Nat.reduceAdd,Nat.reduceEqDiff,↓reduceIte,Nat.zero_add]
   simp (maxSteps:=10000000) +contextual -implicitDefEqProofs only [bnC,bnS,St.put,borrow,borrows,pin,pl,↓reduceIte,reduceCtorEq,Nat.reduceAdd,Nat.reduceEqDiff,bnT,Int.reduceAdd,bnH,hin,cdA_eq,norefs,AV.noref,h3,e146,validC,h1,h2,ht,e,h4]
   all_goals done
  | true=>
   rw [h4] at e146
   simp (maxSteps:=10000000) only [mkT,lkT,Nat.reduceAdd,Nat.reduceEqDiff,↓reduceIte,Nat.zero_add]
   simp (maxSteps:=10000000) +contextual -implicitDefEqProofs only [bnC,bnS,St.put,borrow,borrows,pin,pl,↓reduceIte,reduceCtorEq,Nat.reduceAdd,Nat.reduceEqDiff,bnT,Int.reduceAdd,bnH,hin,cdA_eq,norefs,AV.noref,h3,e146,validC,h1,h2,ht,e,h4]
   all_goals done
 have h3:decide (((k+1:Nat):Int) < (c.ens.length:Int))=true:=by rw [decide_eq_true_eq]; omega
 have h4:decide (k+1 < c.ens.length)=true:=by rw [decide_eq_true_eq]; omega
 have h5:decide (k < c.ens.length)=true:=by rw [decide_eq_true_eq]; omega
 have h6:decide ((k:Int) < (c.ens.length:Int))=true:=by rw [decide_eq_true_eq]; omega
 have w1:IntKind.i64.wrap (((k+1:Nat):Int)+1)=((k+1+1:Nat):Int):=by rw [wrap64 (by omega) (by omega)]; omega
 have w2:IntKind.i64.wrap (((k+1:Nat):Int) - 1)=(k:Int):=by rw [wrap64 (by omega) (by omega)]; omega
 have x4:=x4 (c.ens.getD k default) (c.ens.getD (k+1) default)
 have hl:lessE (c.ens.getD k default) (c.ens.getD (k+1) default)=lessN c k:=rfl
 rw [hl] at x4
 obtain ⟨a,ha⟩:∃ a,c.ens.getD k default=a:=⟨_,rfl⟩
 obtain ⟨b,hb⟩:∃ b,c.ens.getD (k+1) default=b:=⟨_,rfl⟩
 rw [ha,hb] at x4
 clear hl
 refine vc_go ?_
 cases h7:lessN c k with
 | false=>
  rw [h7] at x4
  have e:=sortC_no hk' h7
  simp (maxSteps:=10000000) only [mkT,lkT,Nat.reduceAdd,Nat.reduceEqDiff,↓reduceIte,Nat.zero_add]
  simp (maxSteps:=10000000) +contextual -implicitDefEqProofs only [bnC,bnS,St.put,borrow,borrows,pin,pl,↓reduceIte,reduceCtorEq,Nat.reduceAdd,Nat.reduceEqDiff,bnT,Int.reduceAdd,bnH,hin,enA_eq,cdA_eq,norefs,AV.noref,h3,h4,h5,h6,w2,ha,hb,x4,ldV_mapN,allSz_enA,validC,h1,h2,ht,e]
  repeat' (first | exact chk_no (by kernel_rfl) | refine ⟨chk_no (by kernel_rfl),?_⟩ | refine And.intro ?_ ?_ | fail)
  all_goals done
 | true=>
  rw [h7] at x4
  have ih:=fun c=>ih (k+1) c ⟨by omega,till_next hn h7⟩ (by omega)
  simp (maxSteps:=10000000) only [mkT,lkT,Nat.reduceAdd,Nat.reduceEqDiff,↓reduceIte,Nat.zero_add]
  simp (maxSteps:=10000000) +contextual -implicitDefEqProofs only [bnC,bnS,St.put,borrow,borrows,pin,pl,↓reduceIte,reduceCtorEq,Nat.reduceAdd,Nat.reduceEqDiff,bnT,Int.reduceAdd,bnH,hin,enA_eq,cdA_eq,norefs,AV.noref,h3,h4,h5,h6,w1,w2,ha,hb,x4,ldV_mapN,allSz_enA]
  repeat' (first | exact chk_no (by kernel_rfl) | refine ⟨chk_no (by kernel_rfl),?_⟩ | refine And.intro ?_ ?_ | fail)
  refine go_weak ?_ ?_ (Nat.le_refl _) (ih _)
  all_goals simp (maxSteps:=10000000) only [bnC,bnS,↓reduceIte,reduceCtorEq,Nat.reduceAdd,Nat.reduceEqDiff,mkT,lkT,cdA_eq]
  all_goals done
end Go.Proofs.YtdjpkhjaibdogaaGreat
