/-
  Joined texts: EA.
  Conditions: none.
-/
import Derived.Test.YtdjpkhjaibdogaaGreatL38
namespace Go.Proofs.YtdjpkhjaibdogaaGreat
open Go Go.SX
set_option linter.unusedSimpArgs false
set_option linter.unusedVariables false
attribute [local congr] ite_congr
set_option maxRecDepth 100000
set_option maxHeartbeats 8000000
noncomputable def hF (P:Program) (g:Nat) (D:List AV→List Blk→Nat→AV→List Blk→Nat→Prop) (args:List AV) (H:List Blk) (cnt:Nat):Option (AV × List Blk × Nat):=
 open Classical in if h:∃ p:AV × List Blk × Nat,HSpec P g args H cnt p.1 p.2.1 p.2.2∧D args H cnt p.1 p.2.1 p.2.2 then some h.choose else none
theorem hF_ok (P:Program) (g:Nat) (D:List AV→List Blk→Nat→AV→List Blk→Nat→Prop):HOk P g (hF P g D):=by
 intro args H cnt r H' cnt' h
 unfold hF at h
 split at h
 ·rename_i hx
  have h2:=hx.choose_spec.1
  injection h with h
  rw [h] at h2
  exact h2
 ·cases h
theorem hF_eq {P:Program} {g:Nat} {D:List AV→List Blk→Nat→AV→List Blk→Nat→Prop} {args:List AV} {H:List Blk} {cnt:Nat} {r:AV} {H':List Blk} {cnt':Nat} (h:HSpec P g args H cnt r H' cnt') (hd:D args H cnt r H' cnt'):
  ∃ r H' cnt',hF P g D args H cnt=some (r,H',cnt')∧D args H cnt r H' cnt':=by
 have hx:∃ p:AV × List Blk × Nat,HSpec P g args H cnt p.1 p.2.1 p.2.2∧D args H cnt p.1 p.2.1 p.2.2:=⟨(r,H',cnt'),h,hd⟩
 refine ⟨hx.choose.1,hx.choose.2.1,hx.choose.2.2,?_,hx.choose_spec.2⟩
 unfold hF
 rw [dif_pos hx]
def uA (x:Nat):AV:=.sc (.int .u8 (x:Int))
theorem uA_eq (x:Nat):uA x=.sc (.int .u8 (x:Int)):=rfl
theorem allSz_uA (l:List Nat):allSz 1 (l.map uA)=true:=allSz_map (f:=uA) (fun _=>rfl) l
theorem norefs_uA (l:List Nat):norefs (l.map uA)=true:=norefs_map (f:=uA) (fun _=>by simp [uA,AV.noref]) l
theorem uA_inj {x y:Nat} (h:uA x=uA y):x=y:=by
 simp only [uA,AV.sc.injEq,Value.int.injEq,true_and] at h; omega
theorem map_uA {l m:List Nat}:l.map uA=m.map uA↔l=m:=⟨map_inj (fun _ _=>uA_inj),fun h=>by rw [h]⟩
structure Tp where
 z:Bool
 l:List Nat
 v:Nat
structure TpOk (t:Tp):Prop where
 u:∀ i,t.l.getD i default < 256
 len:t.l.length≤200
def tpB (t:Tp) (a:Nat):Blk:=⟨true,t.v,96,2,[.ag [.vw t.z (t.l.map uA),kA .i64 (a:Int)]],false⟩
theorem tpB_eq (t:Tp) (a:Nat):tpB t a=⟨true,t.v,96,2,[.ag [.vw t.z (t.l.map uA),.sc (.int .i64 (a:Int))]],false⟩:=rfl
theorem tpB_inj {t u:Tp} {a b:Nat} (h:tpB t a=tpB u b):t=u∧a=b:=by
 obtain ⟨z,l,v⟩:=t; obtain ⟨z',l',v'⟩:=u
 simp only [tpB,kA,Blk.mk.injEq,List.cons.injEq,AV.ag.injEq,AV.vw.injEq,AV.sc.injEq,Value.int.injEq,map_uA,and_true,true_and] at h
 obtain ⟨rfl,⟨rfl,rfl⟩,h⟩:=h
 exact ⟨rfl,by omega⟩
def tNx (t:Tp) (a n:Nat):Nat:=if a < t.l.length then t.l.getD a default % n else 0
def tAt (t:Tp) (a:Nat):Nat:=if a < t.l.length then a+1 else a
theorem tNx_lt {t:Tp} {a n:Nat} (h:0 < n):tNx t a n < n:=by
 unfold tNx; split
 ·exact Nat.mod_lt _ h
 ·exact h
def D42 (args:List AV) (H:List Blk) (cnt:Nat) (r:AV) (H':List Blk) (cnt':Nat):Prop:=
 ∀ (t:Tp) (a:Nat) (n:Nat) (R:List Blk),args=[.pt 0 t.v 0 0,.sc (.int .i64 (n:Int))]→H=tpB t a::R→r=.sc (.int .i64 (tNx t a n:Nat))∧H'=tpB t (tAt t a)::R∧cnt'=cnt
theorem next_spec (t:Tp) (ht:TpOk t) (a n:Nat) (hn:0 < n) (hn':n≤1000) (ha:a≤1000) (R:List Blk) (cnt:Nat):
  HSpec Tryz.prog 42 [.pt 0 t.v 0 0,.sc (.int .i64 (n:Int))] (tpB t a::R) cnt (.sc (.int .i64 (tNx t a n:Nat))) (tpB t (tAt t a)::R) cnt:=by
 have hu:=ht.u a
 have hll:=ht.len
 refine hspecW_of_go (gEnv_ok (lit:=false) (pm:=fun _=>none) .nil .nil .nil .nil) rfl Tryz.func42 rfl (by decide) (by kernel_rfl) ?_
 simp only [Tryz.f42,initSt,List.length_cons,List.length_nil,Nat.reduceAdd,Nat.reduceSub,List.replicate]
 simp only [tpB_eq,tNx,tAt]
 refine vc_go ?_
 by_cases h:a < t.l.length
 ·have h1:decide ((t.l.length:Int)≤(a:Int))=false:=by rw [decide_eq_false_iff_not]; omega
  have h2:decide (a < t.l.length)=true:=by rw [decide_eq_true_eq]; omega
  have w1:IntKind.i64.wrap ((a:Int)+1)=((a+1:Nat):Int):=by rw [wrap64 (by omega) (by omega)]; omega
  have w2:IntKind.i64.wrap (((a+1:Nat):Int) - 1)=(a:Int):=by rw [wrap64 (by omega) (by omega)]; omega
  have h3:decide ((a:Int) < (t.l.length:Int))=true:=by rw [decide_eq_true_eq]; omega
  obtain ⟨x,hx⟩:∃ x,t.l.getD a default=x:=⟨_,rfl⟩
  rw [hx] at hu
  have w3:IntKind.i64.wrap (x:Int)=(x:Int):=wrap64 (by omega) (by omega)
  have hz:¬ (n:Int)=0:=by omega
  have hr:Int.tmod (x:Int) (n:Int)=((x % n:Nat):Int):=rfl
  rw [if_pos h,if_pos h,hx]
  simp (maxSteps:=10000000) +contextual -implicitDefEqProofs only [bnC,bnS,St.put,↓reduceIte,reduceCtorEq,Nat.reduceAdd,Int.reduceLT,ne_eq,Nat.reduceLT,bnT,Int.reduceAdd,bnH,AV.noref,h1,h2,h3,w1,w2,w3,hx,allSz_uA,uA_eq,get_mapN,hz,hr]
  all_goals done
 ·have h1:decide ((t.l.length:Int)≤(a:Int))=true:=by rw [decide_eq_true_eq]; omega
  rw [if_neg h,if_neg h]
  simp (maxSteps:=10000000) +contextual -implicitDefEqProofs only [bnC,bnS,St.put,↓reduceIte,reduceCtorEq,Nat.reduceAdd,bnT,Int.reduceAdd,bnH,h1]
  all_goals done
theorem tAt_le {t:Tp} (ht:TpOk t) {a:Nat} (h:a≤200):tAt t a≤200:=by
 have:=ht.len
 unfold tAt; split <;> omega
noncomputable def f42:=hF Tryz.prog 42 D42
theorem ok42:HOk Tryz.prog 42 f42:=hF_ok _ _ _
theorem e42 (t:Tp) (ht:TpOk t) (a n:Nat) (N:Int) (hN:N=(n:Int)) (hn:0 < n) (hn':n≤1000) (ha:a≤200) (R:List Blk) (cnt:Nat):
  f42 [.pt 0 t.v 0 0,.sc (.int .i64 N)] (⟨true,t.v,96,2,[.ag [.vw t.z (t.l.map uA),.sc (.int .i64 (a:Int))]],false⟩::R) cnt=
   some (.sc (.int .i64 (tNx t a n:Nat)),⟨true,t.v,96,2,[.ag [.vw t.z (t.l.map uA),.sc (.int .i64 (tAt t a:Nat))]],false⟩::R,cnt):=by
 subst hN
 obtain ⟨r,H',c',e,d⟩:=hF_eq (D:=D42) (next_spec t ht a n hn hn' (by omega) R cnt) (by
  intro t' a' n' R' h1 h2
  simp only [List.cons.injEq,and_true,AV.sc.injEq,Value.int.injEq,true_and] at h1 h2
  obtain ⟨⟨rfl,rfl⟩,rfl⟩:=And.intro (tpB_inj h2.1) h2.2
  obtain rfl:n=n':=by omega
  exact ⟨rfl,rfl,rfl⟩)
 obtain ⟨rfl,rfl,rfl⟩:=d t a n R rfl rfl
 exact e
def numV (i:Nat):Int:=[0,1,2,3,-1,7,1000,2147483647,-2147483647,65536].getD i 0
def leafV (t:Tp) (k a:Nat):In:=
 if k=1 then ⟨2,tNx t a 3⟩ else if k=2 then ⟨4,tNx t a 64⟩ else if k=3 then ⟨5,tNx t a 2⟩ else if k=4 then ⟨6,tNx t a 2⟩ else if k=5 then ⟨7+(tNx t a 2:Nat),0⟩ else ⟨1,numV (tNx t a 10)⟩
def tVal (t:Tp):Nat→Nat→List In × Nat
 | 0,a=>([leafV t (if 5 < tNx t a 9 then 0 else tNx t a 9) (tAt t a)],tAt t (tAt t a))
 | d+1,a=>
  let k:=tNx t a 9
  let b:=tAt t a
  if k=6 then let x:=tVal t d b; (x.1++[⟨9+(tNx t x.2 2:Nat),0⟩],tAt t x.2)
  else if k=7∨k=8 then let x:=tVal t d b; let y:=tVal t d x.2; (x.1++y.1++[⟨11,12+(tNx t y.2 13:Nat)⟩],tAt t y.2)
  else ([leafV t k b],tAt t b)
theorem tVal_le {t:Tp} (ht:TpOk t):∀ (d:Nat) {a:Nat},a≤200→(tVal t d a).2≤200
 | 0,a,h=>tAt_le ht (tAt_le ht h)
 | d+1,a,h=>by
  have h1:=tAt_le ht h
  rw [tVal]
  split
  ·exact tAt_le ht (tVal_le ht d h1)
  ·split
   ·exact tAt_le ht (tVal_le ht d (tVal_le ht d h1))
   ·exact tAt_le ht h1
theorem tVal_len (t:Tp):∀ (d:Nat) (a:Nat),(tVal t d a).1.length+1≤2 ^ (d+1)
 | 0,a=>by simp [tVal]
 | d+1,a=>by
  have h0:2 ^ (d+1+1)=2 ^ (d+1)+2 ^ (d+1):=by omega
  have h9:0 < 2 ^ (d+1):=Nat.two_pow_pos _
  rw [tVal]
  split
  ·have:=tVal_len t d (tAt t a)
   simp only [List.length_append,List.length_cons,List.length_nil]; omega
  ·split
   ·have:=tVal_len t d (tAt t a)
    have:=tVal_len t d (tVal t d (tAt t a)).2
    simp only [List.length_append,List.length_cons,List.length_nil]; omega
   ·simp only [List.length_cons,List.length_nil]; omega
theorem wkH_tail (H0:List Blk) {A B:List Blk} (h:WkH H0 A B):∀ R:List Blk,WkH H0 (R++A) (R++B)
 | []=>h
 | x::R=>by
  rw [List.cons_append,List.cons_append,wkH_cons]
  exact ⟨.inr (.inl rfl),wkH_tail H0 h R⟩
theorem wkH_tmp (H0 R:List Blk) (v t e:Nat) (es:List AV) (p q:Bool) (h:noJk es=true):WkH H0 (R++[⟨true,v,t,e,es,p⟩]) (R++[⟨true,v,t,e,es,q⟩]):=
 wkH_tail H0 (by rw [wkH_cons]; exact ⟨.inr (.inr (by rw [wkB_mk]; exact ⟨rfl,rfl,rfl,rfl,wkL_refl _ _,h⟩)),by rw [wkH_nil]; trivial⟩) R
theorem wkH_tmp2 (H0 R:List Blk) (x:Blk) (v t e:Nat) (es:List AV) (p q:Bool) (h:noJk es=true):WkH H0 (R++[x,⟨true,v,t,e,es,p⟩]) (R++[x,⟨true,v,t,e,es,q⟩]):=
 wkH_tail H0 (by rw [wkH_cons]; exact ⟨.inr (.inl rfl),wkH_tmp H0 [] v t e es p q h⟩) R
def insB (v:Nat) (l:List In):Blk:=⟨true,v,102,2,l.map inA,false⟩
theorem insB_eq (v:Nat) (l:List In):insB v l=⟨true,v,102,2,l.map inA,false⟩:=rfl
theorem rep9 (z:AV):List.replicate 9 z=[z,z,z,z,z,z,z,z,z]:=rfl
theorem rep10 (z:AV):List.replicate 10 z=[z,z,z,z,z,z,z,z,z,z]:=rfl
theorem num_get {q:Nat} (h:q < 10):([.sc (.int .i64 0),.sc (.int .i64 1),.sc (.int .i64 2),.sc (.int .i64 3),.sc (.int .i64 (-1)),.sc (.int .i64 7),.sc (.int .i64 1000),.sc (.int .i64 2147483647),.sc (.int .i64 (-2147483647)),.sc (.int .i64 65536)]:List AV)[q]?=some (.sc (.int .i64 (numV q))):=by
 have:q=0∨q=1∨q=2∨q=3∨q=4∨q=5∨q=6∨q=7∨q=8∨q=9:=by omega
 rcases this with rfl | rfl | rfl | rfl | rfl | rfl | rfl | rfl | rfl | rfl <;> rfl
theorem leaf_spec (t:Tp) (ht:TpOk t) (d a:Nat) (ha:a≤200) (k:Nat) (hk:tNx t a 9=k) (hd:d=0∧5 < k∨k≤5) (R:List Blk) (cnt:Nat):
  ∃ P ver cnt',HSpec Tryz.prog 83 [.pt 0 t.v 0 0,.sc (.int .i64 (d:Int))] (tpB t a::R) cnt (.sl (R.length+P.length+1) ver 0 1) (tpB t (tAt t (tAt t a))::(R++(P++[insB ver [leafV t (if 5 < k then 0 else k) (tAt t a)]]))) cnt':=by
 by_cases hsel:k=0∨5 < k
 rotate_left
 refine ⟨[],cnt,cnt+1,?_⟩
 have hk9:k < 9:=by rw [←hk]; exact tNx_lt (by omega)
 have hb:=tAt_le ht ha
 have E0:=e42 t ht a 9 9 rfl (by omega) (by omega) ha R cnt
 rw [hk] at E0
 obtain ⟨b,hb'⟩:∃ b,tAt t a=b:=⟨_,rfl⟩
 rw [hb'] at hb E0 ⊢
 have E1:=fun n N h h1 h2=>e42 t ht b n N h h1 h2 hb
 refine hspecW_of_go (gEnv_ok (lit:=false) (pm:=fun _=>none) .nil .nil .nil (.cons ok42 .nil)) rfl Tryz.func83 rfl (by decide) (by kernel_rfl) ?_
 simp only [Tryz.f83,initSt,List.length_cons,List.length_nil,Nat.reduceAdd,Nat.reduceSub,List.replicate]
 simp only [tpB_eq,insB_eq,List.nil_append,List.append_nil,Nat.add_zero]
 obtain ⟨K,hK⟩:∃ K:Int,(k:Int)=K:=⟨_,rfl⟩
 rw [hK] at E0
 obtain ⟨c0,hc0⟩:∃ c0,decide ((d:Int)≤0)=c0:=⟨_,rfl⟩
 ·rw [if_neg (by omega)]
  have hc:c0=true∨c0=false:=by cases c0 <;> simp
  have hk6:k=1∨k=2∨k=3∨k=4∨k=5:=by omega
  rcases hk6 with h | h | h | h | h
  ·obtain rfl:K=1:=by omega
   have hlf:leafV t k b=⟨2,tNx t b 3⟩:=by subst h; rfl
   rw [hlf]
   have E2:=E1 3 3 rfl (by omega) (by omega) R cnt
   rcases hc with rfl | rfl
   all_goals refine vc_go ?_
   all_goals simp (maxSteps:=10000000) +contextual -implicitDefEqProofs only [bnC,bnS,guardV,St.put,pin,↓reduceIte,Nat.reduceAdd,Nat.reduceLeDiff,Nat.reduceMul,Int.reduceLT,Nat.reduceLT,bnT,bnX,Int.reduceAdd,Int.reduceMul,bnH,hin,hl,inA_eq,E0,E2,hc0]
   all_goals exact wkH_tmp _ _ _ _ _ _ _ _ rfl
   all_goals done
  ·obtain rfl:K=2:=by omega
   have hlf:leafV t k b=⟨4,tNx t b 64⟩:=by subst h; rfl
   rw [hlf]
   have E2:=E1 64 64 rfl (by omega) (by omega) R cnt
   rcases hc with rfl | rfl
   all_goals refine vc_go ?_
   all_goals simp (maxSteps:=10000000) +contextual -implicitDefEqProofs only [bnC,bnS,guardV,St.put,pin,↓reduceIte,Nat.reduceAdd,Nat.reduceLeDiff,Nat.reduceMul,Int.reduceLT,Nat.reduceBEq,Nat.reduceLT,bnT,bnX,Int.reduceAdd,Int.reduceMul,bnH,hin,hl,inA_eq,Int.reduceBEq,E0,E2,hc0]
   all_goals exact wkH_tmp _ _ _ _ _ _ _ _ rfl
   all_goals done
  ·obtain rfl:K=3:=by omega
   have hlf:leafV t k b=⟨5,tNx t b 2⟩:=by subst h; rfl
   rw [hlf]
   have E2:=E1 2 2 rfl (by omega) (by omega) R cnt
   rcases hc with rfl | rfl
   all_goals refine vc_go ?_
   all_goals simp (maxSteps:=10000000) +contextual -implicitDefEqProofs only [bnC,bnS,guardV,St.put,pin,↓reduceIte,Nat.reduceAdd,Nat.reduceLeDiff,Nat.reduceMul,Int.reduceLT,Nat.reduceBEq,Nat.reduceLT,bnT,bnX,Int.reduceAdd,Int.reduceMul,bnH,hin,hl,inA_eq,Int.reduceBEq,E0,E2,hc0]
   all_goals exact wkH_tmp _ _ _ _ _ _ _ _ rfl
   all_goals done
  ·obtain rfl:K=4:=by omega
   have hlf:leafV t k b=⟨6,tNx t b 2⟩:=by subst h; rfl
   rw [hlf]
   have E2:=E1 2 2 rfl (by omega) (by omega) R cnt
   rcases hc with rfl | rfl
   all_goals refine vc_go ?_
   all_goals simp (maxSteps:=10000000) +contextual -implicitDefEqProofs only [bnC,bnS,guardV,St.put,pin,↓reduceIte,Nat.reduceAdd,Nat.reduceLeDiff,Nat.reduceMul,Int.reduceLT,Nat.reduceBEq,Nat.reduceLT,bnT,bnX,Int.reduceAdd,Int.reduceMul,bnH,hin,hl,inA_eq,Int.reduceBEq,E0,E2,hc0]
   all_goals exact wkH_tmp _ _ _ _ _ _ _ _ rfl
   all_goals done
  ·obtain rfl:K=5:=by omega
   have hlf:leafV t k b=⟨7+(tNx t b 2:Nat),0⟩:=by subst h; rfl
   rw [hlf]
   have E2:=E1 2 2 rfl (by omega) (by omega) R cnt
   have w7:IntKind.i64.wrap (7+((tNx t b 2:Nat):Int))=7+((tNx t b 2:Nat):Int):=by
    have:=tNx_lt (t:=t) (a:=b) (n:=2) (by omega)
    exact wrap64 (by omega) (by omega)
   rcases hc with rfl | rfl
   all_goals refine vc_go ?_
   all_goals simp (maxSteps:=10000000) +contextual -implicitDefEqProofs only [bnC,bnS,guardV,St.put,pin,↓reduceIte,Nat.reduceAdd,Nat.reduceLeDiff,Nat.reduceMul,Int.reduceLT,Nat.reduceBEq,Nat.reduceLT,bnT,bnX,Int.reduceAdd,Int.reduceMul,bnH,hin,hl,inA_eq,Int.reduceBEq,E0,E2,hc0,w7]
   all_goals exact wkH_tmp _ _ _ _ _ _ _ _ rfl
   all_goals done
 refine ⟨[⟨true,cnt,3,1,[.sc (.int .i64 0),.sc (.int .i64 1),.sc (.int .i64 2),.sc (.int .i64 3),.sc (.int .i64 (-1)),.sc (.int .i64 7),.sc (.int .i64 1000),.sc (.int .i64 2147483647),.sc (.int .i64 (-2147483647)),.sc (.int .i64 65536)],true⟩],cnt+1,cnt+2,?_⟩
 have hk9:k < 9:=by rw [←hk]; exact tNx_lt (by omega)
 have hb:=tAt_le ht ha
 have E0:=e42 t ht a 9 9 rfl (by omega) (by omega) ha R cnt
 rw [hk] at E0
 obtain ⟨b,hb'⟩:∃ b,tAt t a=b:=⟨_,rfl⟩
 rw [hb'] at hb E0 ⊢
 have E1:=fun n N h h1 h2=>e42 t ht b n N h h1 h2 hb
 refine hspecW_of_go (gEnv_ok (lit:=false) (pm:=fun _=>none) .nil .nil .nil (.cons ok42 .nil)) rfl Tryz.func83 rfl (by decide) (by kernel_rfl) ?_
 simp only [Tryz.f83,initSt,List.length_cons,List.length_nil,Nat.reduceAdd,Nat.reduceSub,List.replicate]
 simp only [tpB_eq,insB_eq,List.cons_append,List.nil_append]
 obtain ⟨K,hK⟩:∃ K:Int,(k:Int)=K:=⟨_,rfl⟩
 rw [hK] at E0
 obtain ⟨c0,hc0⟩:∃ c0,decide ((d:Int)≤0)=c0:=⟨_,rfl⟩
 have hlf:leafV t (if 5 < k then 0 else k) b=⟨1,numV (tNx t b 10)⟩:=by
  rcases hsel with h | h
  ·subst h; rfl
  ·rw [if_pos h]; rfl
 rw [hlf]
 have E2:=E1 10 10 rfl (by omega) (by omega)
 have hq:=tNx_lt (t:=t) (a:=b) (n:=10) (by omega)
 obtain ⟨q,hq'⟩:∃ q,tNx t b 10=q:=⟨_,rfl⟩
 simp only [hq'] at hq E2 ⊢
 have g1:decide ((q:Int) < 10)=true:=by rw [decide_eq_true_eq]; omega
 have g2:=num_get hq
 by_cases h5:k=0
 ·obtain rfl:K=0:=by omega
  cases c0
  all_goals refine vc_go ?_
  all_goals simp (maxSteps:=10000000) +contextual -implicitDefEqProofs only [bnC,bnS,guardV,St.put,pin,↓reduceIte,Nat.reduceAdd,Nat.reduceLeDiff,Nat.reduceMul,Int.reduceLT,Nat.reduceBEq,Nat.reduceLT,bnT,bnX,Int.reduceAdd,Int.reduceMul,bnH,hin,hl,inA_eq,Int.reduceBEq,E0,E2,hc0,g1,g2,rep10,List.getElem?_concat_length,List.append_assoc,List.length_append]
  all_goals exact wkH_tmp2 _ _ _ _ _ _ _ _ _ rfl
  all_goals done
 ·obtain rfl:d=0:=by omega
  obtain rfl:c0=true:=by rw [←hc0]; rfl
  have c1:decide ((5:Int) < K)=true:=by rw [decide_eq_true_eq]; omega
  refine vc_go ?_
  simp (maxSteps:=10000000) +contextual -implicitDefEqProofs only [bnC,bnS,guardV,St.put,pin,↓reduceIte,Nat.reduceAdd,Nat.reduceLeDiff,Nat.reduceMul,Int.reduceLT,Nat.reduceBEq,Nat.reduceLT,bnT,bnX,Int.reduceAdd,Int.reduceMul,bnH,hin,hl,inA_eq,Int.reduceBEq,E0,E2,c1,g1,g2,rep10,List.getElem?_concat_length,List.append_assoc,List.length_append]
  all_goals exact wkH_tmp2 _ _ _ _ _ _ _ _ _ rfl
  all_goals done
def D83 (args:List AV) (H:List Blk) (cnt:Nat) (r:AV) (H':List Blk) (cnt':Nat):Prop:=
 ∀ (t:Tp) (a d:Nat) (R:List Blk),args=[.pt 0 t.v 0 0,.sc (.int .i64 (d:Int))]→H=tpB t a::R→
  ∃ P ver,r=.sl (R.length+P.length+1) ver 0 (tVal t d a).1.length∧H'=tpB t (tVal t d a).2::(R++(P++[insB ver (tVal t d a).1]))
noncomputable def f83:=hF Tryz.prog 83 D83
theorem ok83:HOk Tryz.prog 83 f83:=hF_ok _ _ _
theorem at83 (t:Tp) (d a:Nat) (D:Int) (hD:D=(d:Int)) (R:List Blk) (cnt:Nat) (h:∃ P ver cnt',HSpec Tryz.prog 83 [.pt 0 t.v 0 0,.sc (.int .i64 (d:Int))] (tpB t a::R) cnt (.sl (R.length+P.length+1) ver 0 (tVal t d a).1.length) (tpB t (tVal t d a).2::(R++(P++[insB ver (tVal t d a).1]))) cnt'):
  ∃ P ver cnt',f83 [.pt 0 t.v 0 0,.sc (.int .i64 D)] (⟨true,t.v,96,2,[.ag [.vw t.z (t.l.map uA),.sc (.int .i64 (a:Int))]],false⟩::R) cnt=
   some (.sl (R.length+P.length+1) ver 0 (tVal t d a).1.length,⟨true,t.v,96,2,[.ag [.vw t.z (t.l.map uA),.sc (.int .i64 ((tVal t d a).2:Int))]],false⟩::(R++(P++[⟨true,ver,102,2,(tVal t d a).1.map inA,false⟩])),cnt'):=by
 subst hD
 obtain ⟨P,ver,c',h⟩:=h
 obtain ⟨r,H',c',e,d'⟩:=hF_eq (D:=D83) h (by
  intro t' a' d' R' h1 h2
  simp only [List.cons.injEq,and_true,AV.sc.injEq,Value.int.injEq,true_and] at h1 h2
  obtain ⟨⟨rfl,rfl⟩,rfl⟩:=And.intro (tpB_inj h2.1) h2.2
  obtain rfl:d=d':=by omega
  exact ⟨P,ver,rfl,rfl⟩)
 obtain ⟨P,ver,rfl,rfl⟩:=d' t a d R rfl rfl
 exact ⟨P,ver,c',e⟩
theorem app0 (Q l:List Blk) (x:Blk):(Q++(x::l))[Q.length]?=some x:=by simp
theorem app1 (Q l:List Blk) (x y:Blk):(Q++(x::y::l))[Q.length+1]?=some y:=by simp
theorem st0' (Q l:List Blk) (x z:Blk):(Q++(x::l)).set Q.length z=Q++(z::l):=by simp
theorem apP (Q P l:List Blk) (x y:Blk) {i:Nat} (h:i=Q.length+P.length+1):(Q++(x::(P++(y::l))))[i]?=some y:=by
 subst h
 rw [Nat.add_assoc,List.getElem?_append_right (by omega),Nat.add_sub_cancel_left,List.getElem?_cons_succ,app0]
theorem apP1 (Q P l:List Blk) (x y:Blk):(Q++(x::(P++(y::l))))[Q.length+1+P.length]?=some y:=apP _ _ _ _ _ (by omega)
theorem apP2 (Q P l:List Blk) (x y z:Blk) {i:Nat} (h:i=Q.length+P.length+2):(Q++(x::(P++(y::z::l))))[i]?=some z:=by
 have:=apP Q (P++[y]) l x z (i:=i) (by simp; omega)
 simpa using this
theorem apP3 (Q P l:List Blk) (x y z:Blk):(Q++(x::(P++(y::z::l))))[Q.length+(P.length+1+1)]?=some z:=apP2 _ _ _ _ _ _ (by omega)
theorem eq12 (a b:Nat):(a+(b+1+1)+1=a+(b+2+1))=True:=eq_true (by omega)
theorem dlP (Q P:List Blk) (t x y z:Blk):(t::(Q++x::(P++[y,z]))).dropLast=t::(Q++x::(P++[y])):=by
 rw [show t::(Q++x::(P++[y,z]))=(t::(Q++x::(P++[y])))++[z] by simp,List.dropLast_concat]
theorem wkH_cut (H0 R l:List Blk) (x:Blk):WkH H0 (R++x::l) (R++[x]):=
 wkH_tail H0 (by rw [wkH_cons]; exact ⟨.inr (.inl rfl),by rw [wkH_nil]; trivial⟩) R
theorem sc0 (Q l:List Blk) (t x z:Blk):(t::(Q++(x::l))).set (Q.length+1) z=t::(Q++(z::l)):=by
 rw [List.set_cons_succ,st0']
theorem dl2 (Q:List Blk) (t x y:Blk):(t::(Q++[x,y])).dropLast=t::(Q++[x]):=by
 rw [show t::(Q++[x,y])=(t::(Q++[x]))++[y] by simp,List.dropLast_concat]
theorem value_spec (t:Tp) (ht:TpOk t):∀ (d a:Nat) (_:d≤5) (_:a≤200) (R:List Blk) (cnt:Nat),∃ P ver cnt',HSpec Tryz.prog 83 [.pt 0 t.v 0 0,.sc (.int .i64 (d:Int))] (tpB t a::R) cnt (.sl (R.length+P.length+1) ver 0 (tVal t d a).1.length) (tpB t (tVal t d a).2::(R++(P++[insB ver (tVal t d a).1]))) cnt'
 | 0,a,hd,ha,R,cnt=>by
  have hk:tNx t a 9 < 9:=tNx_lt (by omega)
  exact leaf_spec t ht 0 a ha _ rfl (by omega) R cnt
 | d+1,a,hd,ha,R,cnt=>by
  have hk:tNx t a 9 < 9:=tNx_lt (by omega)
  obtain ⟨k,hk'⟩:∃ k,tNx t a 9=k:=⟨_,rfl⟩
  by_cases h5:k≤5
  ·have:=leaf_spec t ht (d+1) a ha _ hk' (by omega) R cnt
   have h1:tVal t (d+1) a=([leafV t k (tAt t a)],tAt t (tAt t a)):=by
    rw [tVal,hk',if_neg (by omega),if_neg (by omega)]
   rw [h1]
   rw [if_neg (by omega)] at this
   exact this
  have hb:=tAt_le ht ha
  have E0:=e42 t ht a 9 9 rfl (by omega) (by omega) ha R cnt
  rw [hk'] at E0
  obtain ⟨K,hK⟩:∃ K:Int,(k:Int)=K:=⟨_,rfl⟩
  rw [hK] at E0
  have c0:decide (((d+1:Nat):Int)≤0)=false:=by rw [decide_eq_false_iff_not]; omega
  have w0:IntKind.i64.wrap (((d+1:Nat):Int) - 1)=(d:Int):=by rw [wrap64 (by omega) (by omega)]; omega
  have hl1:=tVal_len t d (tAt t a)
  have hp:2 ^ (d+1)≤2 ^ 5:=Nat.pow_le_pow_right (by omega) (by omega)
  have hx2:=tVal_le ht d hb
  obtain ⟨P,ver,c1,E1⟩:=at83 t d (tAt t a) (d:Int) rfl R cnt (value_spec t ht d (tAt t a) (by omega) hb R cnt)
  obtain ⟨Q,hQ,hQl⟩:∃ Q,R++P=Q∧R.length+P.length=Q.length:=⟨_,rfl,by simp⟩
  by_cases h6:k=6
  ·have h1:tVal t (d+1) a=((tVal t d (tAt t a)).1++[⟨9+(tNx t (tVal t d (tAt t a)).2 2:Nat),0⟩],tAt t (tVal t d (tAt t a)).2):=by
    rw [tVal,hk',if_pos h6]
   rw [h1]
   obtain rfl:K=6:=by omega
   have E2:=e42 t ht (tVal t d (tAt t a)).2 2 2 rfl (by omega) (by omega) hx2 (Q++[⟨true,ver,102,2,(tVal t d (tAt t a)).1.map inA,false⟩]) c1
   have w9:IntKind.i64.wrap (9+((tNx t (tVal t d (tAt t a)).2 2:Nat):Int))=9+((tNx t (tVal t d (tAt t a)).2 2:Nat):Int):=by
    have:=tNx_lt (t:=t) (a:=(tVal t d (tAt t a)).2) (n:=2) (by omega)
    exact wrap64 (by omega) (by omega)
   obtain ⟨X,hX⟩:∃ X,(tVal t d (tAt t a)).1=X:=⟨_,rfl⟩
   obtain ⟨y,hy⟩:∃ y,(tVal t d (tAt t a)).2=y:=⟨_,rfl⟩
   rw [hX] at hl1
   simp only [hX,hy] at E1 E2 w9 ⊢
   have hsz:decide ((X.length+1) * 16≤140737488355328)=true:=by rw [decide_eq_true_eq]; omega
   have htk:List.take X.length (X.map inA)=X.map inA:=List.take_of_length_le (by simp)
   refine ⟨P,c1+1,c1+2,?_⟩
   rw [←List.append_assoc,hQ,hQl]
   rw [←List.append_assoc,hQ,hQl] at E1
   have hma:X.map inA++[.ag [.sc (.int .i64 (9+((tNx t y 2:Nat):Int))),.sc (.int .i64 0)]]=(X++[(⟨9+((tNx t y 2:Nat):Int),0⟩:In)]).map inA:=by rw [List.map_append]; rfl
   refine hspecW_of_go (gEnv_ok (lit:=false) (pm:=fun _=>none) .nil .nil .nil (.cons ok42 (.cons ok83 .nil))) rfl Tryz.func83 rfl (by decide) (by kernel_rfl) ?_
   simp only [Tryz.f83,initSt,List.length_cons,List.length_nil,Nat.reduceAdd,Nat.reduceSub,List.replicate]
   simp only [tpB_eq,insB_eq]
   refine vc_go ?_
   simp (maxSteps:=10000000) +contextual -implicitDefEqProofs only [bnC,bnS,guardV,St.put,pin,↓reduceIte,Nat.reduceAdd,Nat.reduceLeDiff,Nat.reduceEqDiff,Nat.reduceMul,Int.reduceLT,Nat.reduceBEq,Nat.reduceLT,bnT,bnX,Int.reduceAdd,Int.reduceMul,bnH,hin,hl,Int.reduceBEq,E0,E1,E2,c0,w0,w9,hsz,htk,hma,List.append_assoc,app0,app1,sc0,dl2,List.length_append]
   all_goals try exact ⟨.refl _,wkH_cut _ _ _ _⟩
   all_goals first | (rw [wkH_cons]; exact ⟨.inr (.inl rfl),wkH_cut _ _ _ _⟩) | exact wkH_cut _ _ _ _ | exact .refl _ | exact wkH_self _ _ | skip
   all_goals done
  ·have h78:k=7∨k=8:=by omega
   have h1:tVal t (d+1) a=((tVal t d (tAt t a)).1++(tVal t d (tVal t d (tAt t a)).2).1++[⟨11,12+(tNx t (tVal t d (tVal t d (tAt t a)).2).2 13:Nat)⟩],tAt t (tVal t d (tVal t d (tAt t a)).2).2):=by
    rw [tVal,hk',if_neg h6,if_pos h78]
   rw [h1]
   have hl2:=tVal_len t d (tVal t d (tAt t a)).2
   have hx3:=tVal_le ht d hx2
   obtain ⟨P2,ver2,c2,E2⟩:=at83 t d (tVal t d (tAt t a)).2 (d:Int) rfl (Q++[⟨true,ver,102,2,(tVal t d (tAt t a)).1.map inA,false⟩]) c1 (value_spec t ht d _ (by omega) hx2 _ c1)
   have E3:=e42 t ht (tVal t d (tVal t d (tAt t a)).2).2 13 13 rfl (by omega) (by omega) hx3
   have w9:IntKind.i64.wrap (12+((tNx t (tVal t d (tVal t d (tAt t a)).2).2 13:Nat):Int))=12+((tNx t (tVal t d (tVal t d (tAt t a)).2).2 13:Nat):Int):=by
    have:=tNx_lt (t:=t) (a:=(tVal t d (tVal t d (tAt t a)).2).2) (n:=13) (by omega)
    exact wrap64 (by omega) (by omega)
   obtain ⟨X,hX⟩:∃ X,(tVal t d (tAt t a)).1=X:=⟨_,rfl⟩
   obtain ⟨y,hy⟩:∃ y,(tVal t d (tAt t a)).2=y:=⟨_,rfl⟩
   rw [hX] at hl1
   rw [hy] at hl2
   simp only [hX,hy] at E1 E2 E3 w9 ⊢
   obtain ⟨Y,hY⟩:∃ Y,(tVal t d y).1=Y:=⟨_,rfl⟩
   obtain ⟨u,hu⟩:∃ u,(tVal t d y).2=u:=⟨_,rfl⟩
   rw [hY] at hl2
   simp only [hY,hu] at E2 E3 w9 ⊢
   have hsz:decide ((X.length+Y.length) * 16≤140737488355328)=true:=by rw [decide_eq_true_eq]; omega
   have hsz2:decide ((X.length+Y.length+1) * 16≤140737488355328)=true:=by rw [decide_eq_true_eq]; omega
   have htk:List.take X.length (X.map inA)=X.map inA:=List.take_of_length_le (by simp)
   have htk2:List.take Y.length (Y.map inA)=Y.map inA:=List.take_of_length_le (by simp)
   have htk3:List.take (X.length+Y.length) (X.map inA++Y.map inA)=X.map inA++Y.map inA:=List.take_of_length_le (by simp)
   have hma:X.map inA++(Y.map inA++[.ag [.sc (.int .i64 11),.sc (.int .i64 (12+((tNx t u 13:Nat):Int)))]])=(X++(Y++[(⟨11,12+((tNx t u 13:Nat):Int)⟩:In)])).map inA:=by rw [List.map_append,List.map_append]; rfl
   refine ⟨P,c2+2,c2+3,?_⟩
   rw [←List.append_assoc R P,hQ,hQl]
   rw [←List.append_assoc,hQ,hQl] at E1
   have hK:K=7∨K=8:=by omega
   refine hspecW_of_go (gEnv_ok (lit:=false) (pm:=fun _=>none) .nil .nil .nil (.cons ok42 (.cons ok83 .nil))) rfl Tryz.func83 rfl (by decide) (by kernel_rfl) ?_
   simp only [Tryz.f83,initSt,List.length_cons,List.length_nil,Nat.reduceAdd,Nat.reduceSub,List.replicate]
   simp only [tpB_eq,insB_eq]
   rcases hK with rfl | rfl
   all_goals refine vc_go ?_
   all_goals simp (maxSteps:=10000000) +contextual -implicitDefEqProofs only [bnC,bnS,guardV,St.put,pin,↓reduceIte,Nat.reduceAdd,Nat.reduceLeDiff,Nat.reduceEqDiff,Nat.reduceMul,Int.reduceLT,Nat.reduceBEq,Nat.reduceLT,bnT,bnX,Int.reduceAdd,Int.reduceMul,bnH,hin,hl,Int.reduceBEq,E0,E1,E2,E3,c0,w0,w9,hsz,hsz2,htk,htk2,htk3,hma,apP1,apP3,eq12,dlP,allSz_inA,List.append_assoc,app0,sc0,List.length_append]
   all_goals try exact ⟨.refl _,wkH_cut _ _ _ _⟩
   all_goals first | (rw [wkH_cons]; exact ⟨.inr (.inl rfl),wkH_cut _ _ _ _⟩) | exact wkH_cut _ _ _ _ | exact .refl _ | exact wkH_self _ _ | skip
   all_goals done
end Go.Proofs.YtdjpkhjaibdogaaGreat
