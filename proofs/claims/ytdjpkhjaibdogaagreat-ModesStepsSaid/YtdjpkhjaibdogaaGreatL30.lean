/-
  Lemmas towards ModesSteps (joined texts: EA, FD, FE).
  Conditions: none.
-/
import Derived.Test.YtdjpkhjaibdogaaGreatL01
import Derived.Test.YtdjpkhjaibdogaaGreatL02
import Derived.Test.YtdjpkhjaibdogaaGreatL29
set_option linter.unusedSimpArgs false
set_option linter.unusedVariables false
set_option maxRecDepth 100000
set_option maxHeartbeats 8000000
namespace Go.Proofs.YtdjpkhjaibdogaaGreat
open Go Go.SX
attribute [local congr] ite_congr
noncomputable def hF (P:Program) (g:Nat) (D:List AV→List Blk→Nat→AV→List Blk→Nat→Prop) (args:List AV) (H:List Blk) (cnt:Nat):Option (AV × List Blk × Nat):=
 open Classical in if h:∃ p:AV × List Blk × Nat,HSpec P g args H cnt p.1 p.2.1 p.2.2∧D args H cnt p.1 p.2.1 p.2.2 then some h.choose else none
theorem Ik (P:Program) (g:Nat) (D:List AV→List Blk→Nat→AV→List Blk→Nat→Prop):Mu P g (hF P g D):=by
 intro args H cnt r H' cnt' h
 unfold hF at h
 split at h
 ·rename_i hx
  have h2:=hx.choose_spec.1
  injection h with h
  rw [h] at h2
  exact h2
 ·cases h
theorem Il {P:Program} {g:Nat} {D:List AV→List Blk→Nat→AV→List Blk→Nat→Prop} {args:List AV} {H:List Blk} {cnt:Nat} {r:AV} {H':List Blk} {cnt':Nat} (h:HSpec P g args H cnt r H' cnt') (hd:D args H cnt r H' cnt'):
  ∃ r H' cnt',hF P g D args H cnt=some (r,H',cnt')∧D args H cnt r H' cnt':=by
 have hx:∃ p:AV × List Blk × Nat,HSpec P g args H cnt p.1 p.2.1 p.2.2∧D args H cnt p.1 p.2.1 p.2.2:=⟨(r,H',cnt'),h,hd⟩
 refine ⟨hx.choose.1,hx.choose.2.1,hx.choose.2.2,?_,hx.choose_spec.2⟩
 unfold hF
 rw [dif_pos hx]
def uA (x:Nat):AV:=.sc (.int .u8 (x:Int))
theorem XU (x:Nat):uA x=.sc (.int .u8 (x:Int)):=rfl
theorem Jg (l:List Nat):C9 1 (l.map uA)=true:=DH (f:=uA) (fun _=>rfl) l
theorem Afb (l:List Nat):norefs (l.map uA)=true:=Da (f:=uA) (fun _=>by simp [uA,AV.noref]) l
theorem Awr {x y:Nat} (h:uA x=uA y):x=y:=by
 simp only [uA,AV.sc.injEq,Value.int.injEq,CY] at h; omega
theorem N6 {l m:List Nat}:l.map uA=m.map uA↔l=m:=⟨DY (fun _ _=>Awr),fun h=>by rw [h]⟩
structure Tp where
 z:Bool
 l:List Nat
 v:Nat
structure TpOk (t:Tp):Prop where
 u:∀ i,t.l.getD i default < 256
 len:t.l.length≤200
def Pb (t:Tp) (a:Nat):Blk:=⟨true,t.v,96,2,[.ag [.vw t.z (t.l.map uA),kA .i64 (a:Int)]],false⟩
theorem N7 (t:Tp) (a:Nat):Pb t a=⟨true,t.v,96,2,[.ag [.vw t.z (t.l.map uA),.sc (.int .i64 (a:Int))]],false⟩:=rfl
theorem PB {t u:Tp} {a b:Nat} (h:Pb t a=Pb u b):t=u∧a=b:=by
 obtain ⟨z,l,v⟩:=t; obtain ⟨z',l',v'⟩:=u
 simp only [Pb,kA,Blk.mk.injEq,lx96,AV.ag.injEq,AV.vw.injEq,AV.sc.injEq,Value.int.injEq,N6,Ay,CY] at h
 obtain ⟨rfl,⟨rfl,rfl⟩,h⟩:=h
 exact ⟨rfl,by omega⟩
def Dk (t:Tp) (a n:Nat):Nat:=if a < t.l.length then t.l.getD a default % n else 0
def Cr (t:Tp) (a:Nat):Nat:=if a < t.l.length then a+1 else a
theorem Fh {t:Tp} {a n:Nat} (h:0 < n):Dk t a n < n:=by
 unfold Dk; split
 ·exact Nat.mod_lt _ h
 ·exact h
def D42 (args:List AV) (H:List Blk) (cnt:Nat) (r:AV) (H':List Blk) (cnt':Nat):Prop:=
 ∀ (t:Tp) (a:Nat) (n:Nat) (R:List Blk),args=[.pt 0 t.v 0 0,.sc (.int .i64 (n:Int))]→H=Pb t a::R→r=.sc (.int .i64 (Dk t a n:Nat))∧H'=Pb t (Cr t a)::R∧cnt'=cnt
theorem Afc (t:Tp) (ht:TpOk t) (a n:Nat) (hn:0 < n) (hn':n≤1000) (ha:a≤1000) (R:List Blk) (cnt:Nat):
  HSpec Tryz.prog 42 [.pt 0 t.v 0 0,.sc (.int .i64 (n:Int))] (Pb t a::R) cnt (.sc (.int .i64 (Dk t a n:Nat))) (Pb t (Cr t a)::R) cnt:=by
 have hu:=ht.u a
 have hll:=ht.len
 refine Ag (Aj (lit:=false) (pm:=fun _=>none) .nil .nil .nil .nil) rfl Tryz.func42 rfl (by decide) (by kernel_rfl) ?_
 simp only [Tryz.f42,Af,lx53,lx63,Nat.reduceAdd,Nat.reduceSub,List.replicate]
 simp only [N7,Dk,Cr]
 refine Aa ?_
 by_cases h:a < t.l.length
 ·have h1:decide ((t.l.length:Int)≤(a:Int))=false:=by rw [BT]; omega
  have h2:decide (a < t.l.length)=true:=Ae
  have w1:IntKind.i64.wrap ((a:Int)+1)=((a+1:Nat):Int):=AA
  have w2:IntKind.i64.wrap (((a+1:Nat):Int) - 1)=(a:Int):=AA
  have h3:decide ((a:Int) < (t.l.length:Int))=true:=Ae
  obtain ⟨x,hx⟩:∃ x,t.l.getD a default=x:=⟨_,rfl⟩
  rw [hx] at hu
  have w3:IntKind.i64.wrap (x:Int)=(x:Int):=Bd (by omega) (by omega)
  have hz:¬ (n:Int)=0:=Ah
  have hr:Int.tmod (x:Int) (n:Int)=((x % n:Nat):Int):=rfl
  rw [if_pos h,if_pos h,hx]
  exact zE1 (G0 h1 h2 h3 w1 w2 w3 hx hz hr @Jg @XU @Ax)
  all_goals done
 ·have h1:decide ((t.l.length:Int)≤(a:Int))=true:=by rw [AN]; omega
  rw [if_neg h,if_neg h]
  exact zE1 h1
  all_goals done
theorem B8 {t:Tp} (ht:TpOk t) {a:Nat} (h:a≤200):Cr t a≤200:=by
 have:=ht.len
 unfold Cr; split <;> omega
noncomputable def f42:=hF Tryz.prog 42 D42
theorem RR:Mu Tryz.prog 42 f42:=Ik _ _ _
theorem e42 (t:Tp) (ht:TpOk t) (a n:Nat) (N:Int) (hN:N=(n:Int)) (hn:0 < n) (hn':n≤1000) (ha:a≤200) (R:List Blk) (cnt:Nat):
  f42 [.pt 0 t.v 0 0,.sc (.int .i64 N)] (⟨true,t.v,96,2,[.ag [.vw t.z (t.l.map uA),.sc (.int .i64 (a:Int))]],false⟩::R) cnt=
   some (.sc (.int .i64 (Dk t a n:Nat)),⟨true,t.v,96,2,[.ag [.vw t.z (t.l.map uA),.sc (.int .i64 (Cr t a:Nat))]],false⟩::R,cnt):=by
 subst hN
 obtain ⟨r,H',c',e,d⟩:=Il (D:=D42) (Afc t ht a n hn hn' (by omega) R cnt) (by
  intro t' a' n' R' h1 h2
  simp only [lx96,Ay,AV.sc.injEq,Value.int.injEq,CY] at h1 h2
  obtain ⟨⟨rfl,rfl⟩,rfl⟩:=And.intro (PB h2.1) h2.2
  obtain rfl:n=n':=Ah
  exact ⟨rfl,rfl,rfl⟩)
 obtain ⟨rfl,rfl,rfl⟩:=d t a n R rfl rfl
 exact e
def Aws (i:Nat):Int:=[0,1,2,3,-1,7,1000,2147483647,-2147483647,65536].getD i 0
def LH (t:Tp) (k a:Nat):In:=
 if k=1 then ⟨2,Dk t a 3⟩ else if k=2 then ⟨4,Dk t a 64⟩ else if k=3 then ⟨5,Dk t a 2⟩ else if k=4 then ⟨6,Dk t a 2⟩ else if k=5 then ⟨7+(Dk t a 2:Nat),0⟩ else ⟨1,Aws (Dk t a 10)⟩
def AJ (t:Tp):Nat→Nat→List In × Nat
 | 0,a=>([LH t (if 5 < Dk t a 9 then 0 else Dk t a 9) (Cr t a)],Cr t (Cr t a))
 | d+1,a=>
  let k:=Dk t a 9
  let b:=Cr t a
  if k=6 then let x:=AJ t d b; (x.1++[⟨9+(Dk t x.2 2:Nat),0⟩],Cr t x.2)
  else if k=7∨k=8 then let x:=AJ t d b; let y:=AJ t d x.2; (x.1++y.1++[⟨11,12+(Dk t y.2 13:Nat)⟩],Cr t y.2)
  else ([LH t k b],Cr t b)
theorem Dh {t:Tp} (ht:TpOk t):∀ (d:Nat) {a:Nat},a≤200→(AJ t d a).2≤200
 | 0,a,h=>B8 ht (B8 ht h)
 | d+1,a,h=>by
  have h1:=B8 ht h
  rw [AJ]
  split
  ·exact B8 ht (Dh ht d h1)
  ·split
   ·exact B8 ht (Dh ht d (Dh ht d h1))
   ·exact B8 ht h1
theorem C1 (t:Tp):∀ (d:Nat) (a:Nat),(AJ t d a).1.length+1≤2 ^ (d+1)
 | 0,a=>by simp [AJ]
 | d+1,a=>by
  have h0:2 ^ (d+1+1)=2 ^ (d+1)+2 ^ (d+1):=Ah
  have h9:0 < 2 ^ (d+1):=Nat.two_pow_pos _
  rw [AJ]
  split
  ·have:=C1 t d (Cr t a)
   exact Amr
  ·split
   ·have:=C1 t d (Cr t a)
    have:=C1 t d (AJ t d (Cr t a)).2
    exact Amr
   ·simp only [lx53,lx63]; omega
theorem Jh (H0:List Blk) {A B:List Blk} (h:Xg H0 A B):∀ R:List Blk,Xg H0 (R++A) (R++B)
 | []=>h
 | x::R=>by
  rw [lx91,lx91,Ck]
  exact ⟨.inr (.inl rfl),Jh H0 h R⟩
theorem Nn (H0 R:List Blk) (v t e:Nat) (es:List AV) (p q:Bool) (h:G6 es=true):Xg H0 (R++[⟨true,v,t,e,es,p⟩]) (R++[⟨true,v,t,e,es,q⟩]):=
 Jh H0 (by rw [Ck]; exact ⟨.inr (.inr (by rw [YH]; exact ⟨rfl,rfl,rfl,rfl,M6 _ _,h⟩)),by rw [KW]; trivial⟩) R
theorem XV (H0 R:List Blk) (x:Blk) (v t e:Nat) (es:List AV) (p q:Bool) (h:G6 es=true):Xg H0 (R++[x,⟨true,v,t,e,es,p⟩]) (R++[x,⟨true,v,t,e,es,q⟩]):=
 Jh H0 (by rw [Ck]; exact ⟨.inr (.inl rfl),Nn H0 [] v t e es p q h⟩) R
def Rr (v:Nat) (l:List In):Blk:=⟨true,v,102,2,l.map B9,false⟩
theorem No (v:Nat) (l:List In):Rr v l=⟨true,v,102,2,l.map B9,false⟩:=rfl
theorem Bj2 (z:AV):List.replicate 9 z=[z,z,z,z,z,z,z,z,z]:=rfl
theorem Aks (z:AV):List.replicate 10 z=[z,z,z,z,z,z,z,z,z,z]:=rfl
theorem Aox {q:Nat} (h:q < 10):([.sc (.int .i64 0),.sc (.int .i64 1),.sc (.int .i64 2),.sc (.int .i64 3),.sc (.int .i64 (-1)),.sc (.int .i64 7),.sc (.int .i64 1000),.sc (.int .i64 2147483647),.sc (.int .i64 (-2147483647)),.sc (.int .i64 65536)]:List AV)[q]?=some (.sc (.int .i64 (Aws q))):=by
 exact Azl
theorem Tx (t:Tp) (ht:TpOk t) (d a:Nat) (ha:a≤200) (k:Nat) (hk:Dk t a 9=k) (hd:d=0∧5 < k∨k≤5) (R:List Blk) (cnt:Nat):
  ∃ P ver cnt',HSpec Tryz.prog 83 [.pt 0 t.v 0 0,.sc (.int .i64 (d:Int))] (Pb t a::R) cnt (.sl (R.length+P.length+1) ver 0 1) (Pb t (Cr t (Cr t a))::(R++(P++[Rr ver [LH t (if 5 < k then 0 else k) (Cr t a)]]))) cnt':=by
 by_cases hsel:k=0∨5 < k
 rotate_left
 refine ⟨[],cnt,cnt+1,?_⟩
 have hk9:k < 9:=by rw [←hk]; exact Fh (by omega)
 have hb:=B8 ht ha
 have E0:=e42 t ht a 9 9 rfl (by omega) (by omega) ha R cnt
 rw [hk] at E0
 obtain ⟨b,hb'⟩:∃ b,Cr t a=b:=⟨_,rfl⟩
 rw [hb'] at hb E0 ⊢
 have E1:=fun n N h h1 h2=>e42 t ht b n N h h1 h2 hb
 refine Ag (Aj (lit:=false) (pm:=fun _=>none) .nil .nil .nil (.cons RR .nil)) rfl Tryz.func83 rfl (by decide) (by kernel_rfl) ?_
 refine Amt ?_
 simp only [N7,No,lx64,lx66,Jm]
 obtain ⟨K,hK⟩:∃ K:Int,(k:Int)=K:=⟨_,rfl⟩
 rw [hK] at E0
 obtain ⟨c0,Cq⟩:∃ c0,decide ((d:Int)≤0)=c0:=⟨_,rfl⟩
 ·rw [if_neg (by omega)]
  have hc:c0=true∨c0=false:=by cases c0 <;> simp
  have hk6:k=1∨k=2∨k=3∨k=4∨k=5:=Ah
  rcases hk6 with h | h | h | h | h
  ·obtain rfl:K=1:=by omega
   have hlf:LH t k b=⟨2,Dk t b 3⟩:=by subst h; rfl
   rw [hlf]
   have E2:=E1 3 3 rfl (by omega) (by omega) R cnt
   rcases hc with rfl | rfl
   all_goals refine Aa ?_
   all_goals simp (maxSteps:=10000000) +contextual -implicitDefEqProofs only [AY,AW,Au,St.put,DO,↓reduceIte,Nat.reduceAdd,Nat.reduceLeDiff,Nat.reduceMul,Int.reduceLT,Nat.reduceLT,Dc,Pw,Int.reduceAdd,Int.reduceMul,CK,E6,hl,AM,E0,E2,Cq]
   all_goals exact Nn _ _ _ _ _ _ _ _ rfl
   all_goals done
  ·obtain rfl:K=2:=by omega
   have hlf:LH t k b=⟨4,Dk t b 64⟩:=by subst h; rfl
   rw [hlf]
   have E2:=E1 64 64 rfl (by omega) (by omega) R cnt
   exact Aul
  ·obtain rfl:K=3:=by omega
   have hlf:LH t k b=⟨5,Dk t b 2⟩:=by subst h; rfl
   rw [hlf]
   have E2:=E1 2 2 rfl (by omega) (by omega) R cnt
   exact Aul
  ·obtain rfl:K=4:=by omega
   have hlf:LH t k b=⟨6,Dk t b 2⟩:=by subst h; rfl
   rw [hlf]
   have E2:=E1 2 2 rfl (by omega) (by omega) R cnt
   exact Aul
  ·obtain rfl:K=5:=by omega
   have hlf:LH t k b=⟨7+(Dk t b 2:Nat),0⟩:=by subst h; rfl
   rw [hlf]
   have E2:=E1 2 2 rfl (by omega) (by omega) R cnt
   have w7:IntKind.i64.wrap (7+((Dk t b 2:Nat):Int))=7+((Dk t b 2:Nat):Int):=by
    have:=Fh (t:=t) (a:=b) (n:=2) (by omega)
    exact Bd (by omega) (by omega)
   rcases hc with rfl | rfl
   all_goals refine Aa ?_
   all_goals simp (maxSteps:=10000000) +contextual -implicitDefEqProofs only [AY,AW,Au,St.put,DO,↓reduceIte,Nat.reduceAdd,Nat.reduceLeDiff,Nat.reduceMul,Int.reduceLT,Nat.reduceBEq,Nat.reduceLT,Dc,Pw,Int.reduceAdd,Int.reduceMul,CK,E6,hl,AM,Int.reduceBEq,E0,E2,Cq,w7]
   all_goals exact Nn _ _ _ _ _ _ _ _ rfl
   all_goals done
 refine ⟨[⟨true,cnt,3,1,[.sc (.int .i64 0),.sc (.int .i64 1),.sc (.int .i64 2),.sc (.int .i64 3),.sc (.int .i64 (-1)),.sc (.int .i64 7),.sc (.int .i64 1000),.sc (.int .i64 2147483647),.sc (.int .i64 (-2147483647)),.sc (.int .i64 65536)],true⟩],cnt+1,cnt+2,?_⟩
 have hk9:k < 9:=by rw [←hk]; exact Fh (by omega)
 have hb:=B8 ht ha
 have E0:=e42 t ht a 9 9 rfl (by omega) (by omega) ha R cnt
 rw [hk] at E0
 obtain ⟨b,hb'⟩:∃ b,Cr t a=b:=⟨_,rfl⟩
 rw [hb'] at hb E0 ⊢
 have E1:=fun n N h h1 h2=>e42 t ht b n N h h1 h2 hb
 refine Ag (Aj (lit:=false) (pm:=fun _=>none) .nil .nil .nil (.cons RR .nil)) rfl Tryz.func83 rfl (by decide) (by kernel_rfl) ?_
 refine Amt ?_
 simp only [N7,No,lx91,lx64]
 obtain ⟨K,hK⟩:∃ K:Int,(k:Int)=K:=⟨_,rfl⟩
 rw [hK] at E0
 obtain ⟨c0,Cq⟩:∃ c0,decide ((d:Int)≤0)=c0:=⟨_,rfl⟩
 have hlf:LH t (if 5 < k then 0 else k) b=⟨1,Aws (Dk t b 10)⟩:=by
  rcases hsel with h | h
  ·subst h; rfl
  ·rw [if_pos h]; rfl
 rw [hlf]
 have E2:=E1 10 10 rfl (by omega) (by omega)
 have hq:=Fh (t:=t) (a:=b) (n:=10) (by omega)
 obtain ⟨q,hq'⟩:∃ q,Dk t b 10=q:=⟨_,rfl⟩
 simp only [hq'] at hq E2 ⊢
 have g1:decide ((q:Int) < 10)=true:=Ae
 have g2:=Aox hq
 by_cases h5:k=0
 ·obtain rfl:K=0:=by omega
  cases c0
  all_goals refine Aa ?_
  all_goals simp (maxSteps:=10000000) +contextual -implicitDefEqProofs only [AY,AW,Au,St.put,DO,↓reduceIte,Nat.reduceAdd,Nat.reduceLeDiff,Nat.reduceMul,Int.reduceLT,Nat.reduceBEq,Nat.reduceLT,Dc,Pw,Int.reduceAdd,Int.reduceMul,CK,E6,hl,AM,Int.reduceBEq,E0,E2,Cq,g1,g2,Aks,lx3,lx4,lx5]
  all_goals exact XV _ _ _ _ _ _ _ _ _ rfl
  all_goals done
 ·obtain rfl:d=0:=by omega
  obtain rfl:c0=true:=by rw [←Cq]; rfl
  have c1:decide ((5:Int) < K)=true:=Ae
  refine Aa ?_
  refine O3 (a8 E0 E2 c1 g1 g2 @Pw @AM @Aks) ?_
  all_goals exact XV _ _ _ _ _ _ _ _ _ rfl
  all_goals done
def D83 (args:List AV) (H:List Blk) (cnt:Nat) (r:AV) (H':List Blk) (cnt':Nat):Prop:=
 ∀ (t:Tp) (a d:Nat) (R:List Blk),args=[.pt 0 t.v 0 0,.sc (.int .i64 (d:Int))]→H=Pb t a::R→
  ∃ P ver,r=.sl (R.length+P.length+1) ver 0 (AJ t d a).1.length∧H'=Pb t (AJ t d a).2::(R++(P++[Rr ver (AJ t d a).1]))
noncomputable def f83:=hF Tryz.prog 83 D83
theorem Zb:Mu Tryz.prog 83 f83:=Ik _ _ _
theorem Afd (t:Tp) (d a:Nat) (D:Int) (hD:D=(d:Int)) (R:List Blk) (cnt:Nat) (h:∃ P ver cnt',HSpec Tryz.prog 83 [.pt 0 t.v 0 0,.sc (.int .i64 (d:Int))] (Pb t a::R) cnt (.sl (R.length+P.length+1) ver 0 (AJ t d a).1.length) (Pb t (AJ t d a).2::(R++(P++[Rr ver (AJ t d a).1]))) cnt'):
  ∃ P ver cnt',f83 [.pt 0 t.v 0 0,.sc (.int .i64 D)] (⟨true,t.v,96,2,[.ag [.vw t.z (t.l.map uA),.sc (.int .i64 (a:Int))]],false⟩::R) cnt=
   some (.sl (R.length+P.length+1) ver 0 (AJ t d a).1.length,⟨true,t.v,96,2,[.ag [.vw t.z (t.l.map uA),.sc (.int .i64 ((AJ t d a).2:Int))]],false⟩::(R++(P++[⟨true,ver,102,2,(AJ t d a).1.map B9,false⟩])),cnt'):=by
 subst hD
 obtain ⟨P,ver,c',h⟩:=h
 obtain ⟨r,H',c',e,d'⟩:=Il (D:=D83) h (by
  intro t' a' d' R' h1 h2
  simp only [lx96,Ay,AV.sc.injEq,Value.int.injEq,CY] at h1 h2
  obtain ⟨⟨rfl,rfl⟩,rfl⟩:=And.intro (PB h2.1) h2.2
  obtain rfl:d=d':=Ah
  exact ⟨P,ver,rfl,rfl⟩)
 obtain ⟨P,ver,rfl,rfl⟩:=d' t a d R rfl rfl
 exact ⟨P,ver,c',e⟩
theorem Fi (Q l:List Blk) (x:Blk):(Q++(x::l))[Q.length]?=some x:=Bc
theorem Ji (Q l:List Blk) (x y:Blk):(Q++(x::y::l))[Q.length+1]?=some y:=Bc
theorem Rt (Q l:List Blk) (x y z:Blk):(Q++(x::y::z::l))[Q.length+1+1]?=some z:=by
 rw [Hh,lx62 (by omega),Ol]; rfl
theorem N8 (Q l:List Blk) (x z:Blk):(Q++(x::l)).set Q.length z=Q++(z::l):=Bc
theorem N9 (Q l:List Blk) (x y z:Blk):(Q++(x::y::l)).set (Q.length+1) z=Q++(x::z::l):=by
 rw [lx119 _ _ (by omega),Ol]; rfl
theorem apP (Q P l:List Blk) (x y:Blk) {i:Nat} (h:i=Q.length+P.length+1):(Q++(x::(P++(y::l))))[i]?=some y:=by
 subst h
 rw [Hh,lx62 (by omega),Ol,lx54,Fi]
theorem Aoy (Q P l:List Blk) (x y:Blk):(Q++(x::(P++(y::l))))[Q.length+1+P.length]?=some y:=apP _ _ _ _ _ (by omega)
theorem Bj3 (Q P l:List Blk) (x y z:Blk) {i:Nat} (h:i=Q.length+P.length+2):(Q++(x::(P++(y::z::l))))[i]?=some z:=by
 have:=apP Q (P++[y]) l x z (i:=i) (by simp; omega)
 simpa using this
theorem Aoz (Q P l:List Blk) (x y z:Blk):(Q++(x::(P++(y::z::l))))[Q.length+(P.length+1+1)]?=some z:=Bj3 _ _ _ _ _ _ (by omega)
theorem Ap0 (a b:Nat):(a+(b+1+1)+1=a+(b+2+1))=True:=eq_true (by omega)
theorem dlP (Q P:List Blk) (t x y z:Blk):(t::(Q++x::(P++[y,z]))).dropLast=t::(Q++x::(P++[y])):=by
 rw [show t::(Q++x::(P++[y,z]))=(t::(Q++x::(P++[y])))++[z] by simp,List.dropLast_concat]
theorem La (H0 R l:List Blk) (x:Blk):Xg H0 (R++x::l) (R++[x]):=
 Jh H0 (by rw [Ck]; exact ⟨.inr (.inl rfl),by rw [KW]; trivial⟩) R
theorem sc0 (Q l:List Blk) (t x z:Blk):(t::(Q++(x::l))).set (Q.length+1) z=t::(Q++(z::l)):=by
 rw [lx11,N8]
theorem sc1 (Q l:List Blk) (t x y z:Blk):(t::(Q++(x::y::l))).set (Q.length+1+1) z=t::(Q++(x::z::l)):=by
 rw [lx11,N9]
theorem dl1 (Q:List Blk) (t x:Blk):(t::(Q++[x])).dropLast=t::Q:=by
 rw [←lx91,List.dropLast_concat]
theorem dl2 (Q:List Blk) (t x y:Blk):(t::(Q++[x,y])).dropLast=t::(Q++[x]):=by
 rw [show t::(Q++[x,y])=(t::(Q++[x]))++[y] by simp,List.dropLast_concat]
theorem dl3 (Q:List Blk) (t x y z:Blk):(t::(Q++[x,y,z])).dropLast=t::(Q++[x,y]):=by
 rw [show t::(Q++[x,y,z])=(t::(Q++[x,y]))++[z] by simp,List.dropLast_concat]
theorem GC (t:Tp) (ht:TpOk t):∀ (d a:Nat) (_:d≤5) (_:a≤200) (R:List Blk) (cnt:Nat),∃ P ver cnt',HSpec Tryz.prog 83 [.pt 0 t.v 0 0,.sc (.int .i64 (d:Int))] (Pb t a::R) cnt (.sl (R.length+P.length+1) ver 0 (AJ t d a).1.length) (Pb t (AJ t d a).2::(R++(P++[Rr ver (AJ t d a).1]))) cnt'
 | 0,a,hd,ha,R,cnt=>by
  have hk:Dk t a 9 < 9:=Fh (by omega)
  exact Tx t ht 0 a ha _ rfl (by omega) R cnt
 | d+1,a,hd,ha,R,cnt=>by
  have hk:Dk t a 9 < 9:=Fh (by omega)
  obtain ⟨k,hk'⟩:∃ k,Dk t a 9=k:=⟨_,rfl⟩
  by_cases h5:k≤5
  ·have:=Tx t ht (d+1) a ha _ hk' (by omega) R cnt
   have h1:AJ t (d+1) a=([LH t k (Cr t a)],Cr t (Cr t a)):=by
    rw [AJ,hk',if_neg (by omega),if_neg (by omega)]
   rw [h1]
   rw [if_neg (by omega)] at this
   exact this
  have hb:=B8 ht ha
  have E0:=e42 t ht a 9 9 rfl (by omega) (by omega) ha R cnt
  rw [hk'] at E0
  obtain ⟨K,hK⟩:∃ K:Int,(k:Int)=K:=⟨_,rfl⟩
  rw [hK] at E0
  have c0:decide (((d+1:Nat):Int)≤0)=false:=Gg
  have w0:IntKind.i64.wrap (((d+1:Nat):Int) - 1)=(d:Int):=AA
  have hl1:=C1 t d (Cr t a)
  have hp:2 ^ (d+1)≤2 ^ 5:=Nat.pow_le_pow_right (by omega) (by omega)
  have hx2:=Dh ht d hb
  obtain ⟨P,ver,c1,E1⟩:=Afd t d (Cr t a) (d:Int) rfl R cnt (GC t ht d (Cr t a) (by omega) hb R cnt)
  obtain ⟨Q,hQ,hQl⟩:∃ Q,R++P=Q∧R.length+P.length=Q.length:=⟨_,rfl,by simp⟩
  by_cases h6:k=6
  ·have h1:AJ t (d+1) a=((AJ t d (Cr t a)).1++[⟨9+(Dk t (AJ t d (Cr t a)).2 2:Nat),0⟩],Cr t (AJ t d (Cr t a)).2):=by
    rw [AJ,hk',if_pos h6]
   rw [h1]
   obtain rfl:K=6:=Ah
   have E2:=e42 t ht (AJ t d (Cr t a)).2 2 2 rfl (by omega) (by omega) hx2 (Q++[⟨true,ver,102,2,(AJ t d (Cr t a)).1.map B9,false⟩]) c1
   have w9:IntKind.i64.wrap (9+((Dk t (AJ t d (Cr t a)).2 2:Nat):Int))=9+((Dk t (AJ t d (Cr t a)).2 2:Nat):Int):=by
    have:=Fh (t:=t) (a:=(AJ t d (Cr t a)).2) (n:=2) (by omega)
    exact Bd (by omega) (by omega)
   obtain ⟨X,hX⟩:∃ X,(AJ t d (Cr t a)).1=X:=⟨_,rfl⟩
   obtain ⟨y,hy⟩:∃ y,(AJ t d (Cr t a)).2=y:=⟨_,rfl⟩
   rw [hX] at hl1
   simp only [hX,hy] at E1 E2 w9 ⊢
   have hsz:decide ((X.length+1) * 16≤140737488355328)=true:=Ae
   have htk:List.take X.length (X.map B9)=X.map B9:=lx118 (by simp)
   refine ⟨P,c1+1,c1+2,?_⟩
   rw [←lx4,hQ,hQl]
   rw [←lx4,hQ,hQl] at E1
   have hma:X.map B9++[.ag [.sc (.int .i64 (9+((Dk t y 2:Nat):Int))),.sc (.int .i64 0)]]=(X++[(⟨9+((Dk t y 2:Nat):Int),0⟩:In)]).map B9:=R0
   refine Ag (Aj (lit:=false) (pm:=fun _=>none) .nil .nil .nil (.cons RR (.cons Zb .nil))) rfl Tryz.func83 rfl (by decide) (by kernel_rfl) ?_
   refine Amt ?_
   simp only [N7,No]
   refine Aa ?_
   simp (maxSteps:=10000000) +contextual -implicitDefEqProofs only [AY,AW,Au,St.put,DO,↓reduceIte,Nat.reduceAdd,Nat.reduceLeDiff,Nat.reduceEqDiff,Nat.reduceMul,Int.reduceLT,Nat.reduceBEq,Nat.reduceLT,Dc,Pw,Int.reduceAdd,Int.reduceMul,CK,E6,hl,Int.reduceBEq,E0,E1,E2,c0,w0,w9,hsz,htk,hma,lx4,Fi,Ji,sc0,dl2,lx5]
   all_goals exact Azp
  ·have h78:k=7∨k=8:=by omega
   have h1:AJ t (d+1) a=((AJ t d (Cr t a)).1++(AJ t d (AJ t d (Cr t a)).2).1++[⟨11,12+(Dk t (AJ t d (AJ t d (Cr t a)).2).2 13:Nat)⟩],Cr t (AJ t d (AJ t d (Cr t a)).2).2):=by
    rw [AJ,hk',if_neg h6,if_pos h78]
   rw [h1]
   have hl2:=C1 t d (AJ t d (Cr t a)).2
   have hx3:=Dh ht d hx2
   obtain ⟨P2,ver2,c2,E2⟩:=Afd t d (AJ t d (Cr t a)).2 (d:Int) rfl (Q++[⟨true,ver,102,2,(AJ t d (Cr t a)).1.map B9,false⟩]) c1 (GC t ht d _ (by omega) hx2 _ c1)
   have E3:=e42 t ht (AJ t d (AJ t d (Cr t a)).2).2 13 13 rfl (by omega) (by omega) hx3
   have w9:IntKind.i64.wrap (12+((Dk t (AJ t d (AJ t d (Cr t a)).2).2 13:Nat):Int))=12+((Dk t (AJ t d (AJ t d (Cr t a)).2).2 13:Nat):Int):=by
    have:=Fh (t:=t) (a:=(AJ t d (AJ t d (Cr t a)).2).2) (n:=13) (by omega)
    exact Bd (by omega) (by omega)
   obtain ⟨X,hX⟩:∃ X,(AJ t d (Cr t a)).1=X:=⟨_,rfl⟩
   obtain ⟨y,hy⟩:∃ y,(AJ t d (Cr t a)).2=y:=⟨_,rfl⟩
   rw [hX] at hl1
   rw [hy] at hl2
   simp only [hX,hy] at E1 E2 E3 w9 ⊢
   obtain ⟨Y,hY⟩:∃ Y,(AJ t d y).1=Y:=⟨_,rfl⟩
   obtain ⟨u,hu⟩:∃ u,(AJ t d y).2=u:=⟨_,rfl⟩
   rw [hY] at hl2
   simp only [hY,hu] at E2 E3 w9 ⊢
   have hsz:decide ((X.length+Y.length) * 16≤140737488355328)=true:=Ae
   have hsz2:decide ((X.length+Y.length+1) * 16≤140737488355328)=true:=Ae
   have htk:List.take X.length (X.map B9)=X.map B9:=lx118 (by simp)
   have htk2:List.take Y.length (Y.map B9)=Y.map B9:=lx118 (by simp)
   have htk3:List.take (X.length+Y.length) (X.map B9++Y.map B9)=X.map B9++Y.map B9:=lx118 (by simp)
   have hma:X.map B9++(Y.map B9++[.ag [.sc (.int .i64 11),.sc (.int .i64 (12+((Dk t u 13:Nat):Int)))]])=(X++(Y++[(⟨11,12+((Dk t u 13:Nat):Int)⟩:In)])).map B9:=by rw [lx12,lx12]; rfl
   refine Av4 ?_
   rw [←lx4,hQ,hQl] at E1
   have hK:K=7∨K=8:=Ah
   refine Ag (Aj (lit:=false) (pm:=fun _=>none) .nil .nil .nil (.cons RR (.cons Zb .nil))) rfl Tryz.func83 rfl (by decide) (by kernel_rfl) ?_
   refine Amt ?_
   simp only [N7,No]
   rcases hK with rfl | rfl
   all_goals refine Aa ?_
   all_goals simp (maxSteps:=10000000) +contextual -implicitDefEqProofs only [AY,AW,Au,St.put,DO,↓reduceIte,Nat.reduceAdd,Nat.reduceLeDiff,Nat.reduceEqDiff,Nat.reduceMul,Int.reduceLT,Nat.reduceBEq,Nat.reduceLT,Dc,Pw,Int.reduceAdd,Int.reduceMul,CK,E6,hl,Int.reduceBEq,E0,E1,E2,E3,c0,w0,w9,hsz,hsz2,htk,htk2,htk3,hma,Aoy,Aoz,Ap0,dlP,AD,lx4,Fi,sc0,lx5]
   all_goals exact Azp
theorem Ch (a x:Blk) (R:List Blk):Dn (a::(R++[x]))=x.els:=by rw [←lx91,DG]
structure Mk0 where
 c0:AV
 c1:AV
 c2:AV
 c3:AV
 c4:AV
 c5:AV
 c6:AV
 c7:AV
 c8:AV
 c9:AV
 c10:AV
 c11:AV
 c12:AV
 c13:AV
 c14:AV
 B1:Blk
 R:List Blk
 w:Nat
def U6 (k:Mk0) (sv ev:AV) (B2 B3:Blk):List Blk:=⟨true,k.w,253,17,[.ag [k.c0,k.c1,k.c2,k.c3,k.c4,k.c5,k.c6,k.c7,k.c8,k.c9,k.c10,k.c11,k.c12,k.c13,k.c14,sv,ev]],false⟩::k.B1::B2::B3::k.R
theorem UM {k k':Mk0} {sv ev sv' ev':AV} {B2 B3 B2' B3':Blk} (h:U6 k sv ev B2 B3=U6 k' sv' ev' B2' B3'):k=k'∧sv=sv'∧ev=ev'∧B2=B2'∧B3=B3':=by
 cases k; cases k'
 simp only [U6,lx96,Blk.mk.injEq,AV.ag.injEq,Ay,CY] at h
 simp_all
def Rv (v:Nat) (E:List AV) (f:Bool):Blk:=⟨true,v,3,1,E,f⟩
theorem PC {v v':Nat} {E E':List AV} {f f':Bool} (h:Rv v E f=Rv v' E' f'):v=v'∧E=E'∧f=f':=by simpa [Rv] using h
structure Pt where
 k:Mk0
 ev:AV
 B3:Blk
 s:Nat
 n:Nat
 E:List AV
 f:Bool
 x:Int
 cnt:Nat
noncomputable def f227:=Yk (fun p:Pt=>p.n≤100000) (fun p=>([.pt 0 p.k.w 0 0,kA .i64 p.x],U6 p.k (.sl 2 p.s 0 p.n) p.ev (Rv p.s p.E p.f) p.B3,p.cnt))
 (fun p=>(.tu [],U6 p.k (.sl 2 (p.cnt+1) 0 (p.n+1)) p.ev (Rv (p.cnt+1) (p.E.take p.n++[kA .i64 p.x]) false) p.B3,p.cnt+2))
theorem Bj4 (c0 c1 c2 c3 c4 c5 c6 c7 c8 c9 c10 c11 c12 c13 c14:AV) (B1:Blk) (R:List Blk) (w:Nat) (ev:AV) (B3:Blk) (s n:Nat) (E:List AV) (f:Bool) (x:Int) (cnt:Nat) (hn:n≤100000):
  f227 [.pt 0 w 0 0,.sc (.int .i64 x)] (⟨true,w,253,17,[.ag [c0,c1,c2,c3,c4,c5,c6,c7,c8,c9,c10,c11,c12,c13,c14,.sl 2 s 0 n,ev]],false⟩::B1::⟨true,s,3,1,E,f⟩::B3::R) cnt=
   some (.tu [],⟨true,w,253,17,[.ag [c0,c1,c2,c3,c4,c5,c6,c7,c8,c9,c10,c11,c12,c13,c14,.sl 2 (cnt+1) 0 (n+1),ev]],false⟩::B1::⟨true,cnt+1,3,1,E.take n++[.sc (.int .i64 x)],false⟩::B3::R,cnt+2):=
 (Hk (q:=fun p:Pt=>p.n≤100000) (enc:=fun p=>([.pt 0 p.k.w 0 0,kA .i64 p.x],U6 p.k (.sl 2 p.s 0 p.n) p.ev (Rv p.s p.E p.f) p.B3,p.cnt))
  (out:=fun p=>(.tu [],U6 p.k (.sl 2 (p.cnt+1) 0 (p.n+1)) p.ev (Rv (p.cnt+1) (p.E.take p.n++[kA .i64 p.x]) false) p.B3,p.cnt+2)) ⟨⟨c0,c1,c2,c3,c4,c5,c6,c7,c8,c9,c10,c11,c12,c13,c14,B1,R,w⟩,ev,B3,s,n,E,f,x,cnt⟩ hn (by
  rintro ⟨k,ev',B3',s',n',E',f',x',cnt'⟩ _ h
  simp only [lx40,lx96,Ay] at h
  obtain ⟨⟨_,h1⟩,h2,h3⟩:=h
  obtain ⟨rfl,g1,rfl,g2,rfl⟩:=UM h2
  simp only [AV.sl.injEq,CY] at g1
  obtain ⟨rfl,rfl⟩:=g1
  obtain ⟨_,rfl,rfl⟩:=PC g2
  obtain rfl:=Bx h1
  obtain rfl:=h3
  rfl) :)
theorem Beb:Mu Tryz.prog 227 f227:=Hl <| by
 rintro ⟨⟨c0,c1,c2,c3,c4,c5,c6,c7,c8,c9,c10,c11,c12,c13,c14,B1,R,w⟩,ev,B3,s,n,E,f,x,cnt⟩ hq
 simp only at hq
 have hz:decide ((n+1) * 8≤140737488355328)=true:=Ae
 refine Ag (Aj (lit:=true) (pm:=fun _=>none) .nil .nil .nil .nil) rfl Tryz.func227 rfl (by decide) (by kernel_rfl) ?_
 simp only [Tryz.f227,Af,lx53,lx63,Nat.reduceAdd,Nat.reduceSub,List.replicate]
 simp only [U6,Rv]
 refine Aa ?_
 refine Hr (a2 hz @Ch) ?_
 exact .refl _
structure Tk where
 k:Mk0
 ev:AV
 B3:Blk
 s:Nat
 n:Nat
 E:List AV
 f:Bool
 x:Int
 cnt:Nat
def tkQ (p:Tk):Prop:=p.n≤100000∧p.E[p.n]?=some (kA .i64 p.x)
noncomputable def f228:=Yk tkQ (fun p=>([.pt 0 p.k.w 0 0],U6 p.k (.sl 2 p.s 0 (p.n+1)) p.ev (Rv p.s p.E p.f) p.B3,p.cnt))
 (fun p=>(kA .i64 p.x,U6 p.k (.sl 2 p.s 0 p.n) p.ev (Rv p.s p.E p.f) p.B3,p.cnt))
theorem Ap1 (c0 c1 c2 c3 c4 c5 c6 c7 c8 c9 c10 c11 c12 c13 c14:AV) (B1:Blk) (R:List Blk) (w:Nat) (ev:AV) (B3:Blk) (s n:Nat) (E:List AV) (f:Bool) (x:Int) (cnt:Nat) (hn:n≤100000) (hx:E[n]?=some (.sc (.int .i64 x))):
  f228 [.pt 0 w 0 0] (⟨true,w,253,17,[.ag [c0,c1,c2,c3,c4,c5,c6,c7,c8,c9,c10,c11,c12,c13,c14,.sl 2 s 0 (n+1),ev]],false⟩::B1::⟨true,s,3,1,E,f⟩::B3::R) cnt=
   some (.sc (.int .i64 x),⟨true,w,253,17,[.ag [c0,c1,c2,c3,c4,c5,c6,c7,c8,c9,c10,c11,c12,c13,c14,.sl 2 s 0 n,ev]],false⟩::B1::⟨true,s,3,1,E,f⟩::B3::R,cnt):=
 (Hk (q:=tkQ) (enc:=fun p=>([.pt 0 p.k.w 0 0],U6 p.k (.sl 2 p.s 0 (p.n+1)) p.ev (Rv p.s p.E p.f) p.B3,p.cnt))
  (out:=fun p=>(kA .i64 p.x,U6 p.k (.sl 2 p.s 0 p.n) p.ev (Rv p.s p.E p.f) p.B3,p.cnt)) ⟨⟨c0,c1,c2,c3,c4,c5,c6,c7,c8,c9,c10,c11,c12,c13,c14,B1,R,w⟩,ev,B3,s,n,E,f,x,cnt⟩ ⟨hn,hx⟩ (by
  rintro ⟨k,ev',B3',s',n',E',f',x',cnt'⟩ ⟨_,hx'⟩ h
  simp only [lx40,lx96,Ay] at h hx'
  obtain ⟨_,h2,h3⟩:=h
  obtain ⟨rfl,g1,rfl,g2,rfl⟩:=UM h2
  simp only [AV.sl.injEq,CY,Nat.add_right_cancel_iff] at g1
  obtain ⟨rfl,rfl⟩:=g1
  obtain ⟨_,rfl,rfl⟩:=PC g2
  rw [hx] at hx'
  obtain rfl:=Bx (Option.some.inj hx')
  obtain rfl:=h3
  rfl) :)
theorem Bec:Mu Tryz.prog 228 f228:=Hl <| by
 rintro ⟨⟨c0,c1,c2,c3,c4,c5,c6,c7,c8,c9,c10,c11,c12,c13,c14,B1,R,w⟩,ev,B3,s,n,E,f,x,cnt⟩ ⟨hq,hx⟩
 simp only at hq hx
 have w1:IntKind.i64.wrap (((n+1:Nat):Int) - 1)=(n:Int):=AA
 have h1:decide ((n:Int) < ((n+1:Nat):Int))=true:=Ae
 have h2:decide ((n:Int)≤((n+1:Nat):Int))=true:=Ae
 refine Ag (Aj (lit:=true) (pm:=fun _=>none) .nil .nil .nil .nil) rfl Tryz.func228 rfl (by decide) (by kernel_rfl) ?_
 simp only [Tryz.f228,Af,lx53,lx63,Nat.reduceAdd,Nat.reduceSub,List.replicate]
 simp only [U6,Rv]
 exact Aqe
structure Pe where
 k:Mk0
 sv:AV
 B2:Blk
 s:Nat
 n:Nat
 E:List AV
 f:Bool
 i:In
 b:Int
 c:Int
 cnt:Nat
def eB:ByteArray:=⟨#[]⟩
noncomputable def f231:=Yk (fun p:Pe=>p.n≤100000) (fun p=>([.pt 0 p.k.w 0 0,B9 p.i,kA .i64 p.b,kA .i64 p.c],U6 p.k p.sv (.sl 3 p.s 0 p.n) p.B2 ⟨true,p.s,73,5,p.E,p.f⟩,p.cnt))
 (fun p=>(.tu [],U6 p.k p.sv (.sl 3 (p.cnt+2) 0 (p.n+1)) p.B2 ⟨true,p.cnt+2,73,5,p.E.take p.n++[Dd ⟨p.i.op,p.i.a,p.b,p.c,eB⟩],false⟩,p.cnt+3))
theorem Bj5 (c0 c1 c2 c3 c4 c5 c6 c7 c8 c9 c10 c11 c12 c13 c14:AV) (B1:Blk) (R:List Blk) (w:Nat) (sv:AV) (B2:Blk) (s n:Nat) (E:List AV) (f:Bool) (op a b c:Int) (cnt:Nat) (hn:n≤100000):
  f231 [.pt 0 w 0 0,.ag [.sc (.int .i64 op),.sc (.int .i64 a)],.sc (.int .i64 b),.sc (.int .i64 c)] (⟨true,w,253,17,[.ag [c0,c1,c2,c3,c4,c5,c6,c7,c8,c9,c10,c11,c12,c13,c14,sv,.sl 3 s 0 n]],false⟩::B1::B2::⟨true,s,73,5,E,f⟩::R) cnt=
   some (.tu [],⟨true,w,253,17,[.ag [c0,c1,c2,c3,c4,c5,c6,c7,c8,c9,c10,c11,c12,c13,c14,sv,.sl 3 (cnt+2) 0 (n+1)]],false⟩::B1::B2::⟨true,cnt+2,73,5,E.take n++[.ag [.sc (.int .i64 op),.sc (.int .i64 a),.sc (.int .i64 b),.sc (.int .i64 c),.sc (.string eB)]],false⟩::R,cnt+3):=
 (Hk (q:=fun p:Pe=>p.n≤100000) (enc:=fun p=>([.pt 0 p.k.w 0 0,B9 p.i,kA .i64 p.b,kA .i64 p.c],U6 p.k p.sv (.sl 3 p.s 0 p.n) p.B2 ⟨true,p.s,73,5,p.E,p.f⟩,p.cnt))
  (out:=fun p=>(.tu [],U6 p.k p.sv (.sl 3 (p.cnt+2) 0 (p.n+1)) p.B2 ⟨true,p.cnt+2,73,5,p.E.take p.n++[Dd ⟨p.i.op,p.i.a,p.b,p.c,eB⟩],false⟩,p.cnt+3)) ⟨⟨c0,c1,c2,c3,c4,c5,c6,c7,c8,c9,c10,c11,c12,c13,c14,B1,R,w⟩,sv,B2,s,n,E,f,⟨op,a⟩,b,c,cnt⟩ hn (by
  rintro ⟨k,sv',B2',s',n',E',f',i',b',c',cnt'⟩ _ h
  simp only [lx40,lx96,Ay] at h
  obtain ⟨⟨_,h1,h4,h5⟩,h2,h3⟩:=h
  obtain ⟨rfl,rfl,g1,rfl,g2⟩:=UM h2
  simp only [AV.sl.injEq,CY] at g1
  obtain ⟨rfl,rfl⟩:=g1
  simp only [Blk.mk.injEq,CY] at g2
  obtain ⟨rfl,rfl⟩:=g2
  obtain rfl:=Px h1
  obtain rfl:=Bx h4
  obtain rfl:=Bx h5
  obtain rfl:=h3
  rfl) :)
theorem Bed:Mu Tryz.prog 231 f231:=Hl <| by
 rintro ⟨⟨c0,c1,c2,c3,c4,c5,c6,c7,c8,c9,c10,c11,c12,c13,c14,B1,R,w⟩,sv,B2,s,n,E,f,⟨op,a⟩,b,c,cnt⟩ hq
 simp only at hq
 have hz:decide ((n+1) * 48≤140737488355328)=true:=Ae
 refine Ag (Aj (lit:=true) (pm:=fun _=>none) .nil .nil .nil .nil) rfl Tryz.func231 rfl (by decide) (by kernel_rfl) ?_
 simp only [Tryz.f231,Af,lx53,lx63,Nat.reduceAdd,Nat.reduceSub,List.replicate]
 simp only [U6,eB]
 exact Ayx
structure Rk0 where
 c0:AV
 c1:AV
 c2:AV
 c3:AV
 c4:AV
 c5:AV
 c6:AV
 c7:AV
 c8:AV
 c9:AV
 c10:AV
 c11:AV
 c12:AV
 c13:AV
 c14:AV
 c15:AV
 c16:AV
 B1:Blk
 R:List Blk
 w:Nat
def U7 (k:Rk0) (sv ev:AV) (B2 B3:Blk):List Blk:=⟨true,k.w,269,19,[.ag [k.c0,k.c1,k.c2,k.c3,k.c4,k.c5,k.c6,k.c7,k.c8,k.c9,k.c10,k.c11,k.c12,k.c13,sv,ev,k.c14,k.c15,k.c16]],false⟩::k.B1::B2::B3::k.R
theorem UN {k k':Rk0} {sv ev sv' ev':AV} {B2 B3 B2' B3':Blk} (h:U7 k sv ev B2 B3=U7 k' sv' ev' B2' B3'):k=k'∧sv=sv'∧ev=ev'∧B2=B2'∧B3=B3':=by
 cases k; cases k'
 simp only [U7,lx96,Blk.mk.injEq,AV.ag.injEq,Ay,CY] at h
 simp_all
structure Ptr where
 k:Rk0
 ev:AV
 B3:Blk
 s:Nat
 n:Nat
 E:List AV
 f:Bool
 x:Int
 cnt:Nat
noncomputable def f241:=Yk (fun p:Ptr=>p.n≤100000) (fun p=>([.pt 0 p.k.w 0 0,kA .i64 p.x],U7 p.k (.sl 2 p.s 0 p.n) p.ev (Rv p.s p.E p.f) p.B3,p.cnt))
 (fun p=>(.tu [],U7 p.k (.sl 2 (p.cnt+1) 0 (p.n+1)) p.ev (Rv (p.cnt+1) (p.E.take p.n++[kA .i64 p.x]) false) p.B3,p.cnt+2))
theorem Bj6 (c0 c1 c2 c3 c4 c5 c6 c7 c8 c9 c10 c11 c12 c13 c14 c15 c16:AV) (B1:Blk) (R:List Blk) (w:Nat) (ev:AV) (B3:Blk) (s n:Nat) (E:List AV) (f:Bool) (x:Int) (cnt:Nat) (hn:n≤100000):
  f241 [.pt 0 w 0 0,.sc (.int .i64 x)] (⟨true,w,269,19,[.ag [c0,c1,c2,c3,c4,c5,c6,c7,c8,c9,c10,c11,c12,c13,.sl 2 s 0 n,ev,c14,c15,c16]],false⟩::B1::⟨true,s,3,1,E,f⟩::B3::R) cnt=
   some (.tu [],⟨true,w,269,19,[.ag [c0,c1,c2,c3,c4,c5,c6,c7,c8,c9,c10,c11,c12,c13,.sl 2 (cnt+1) 0 (n+1),ev,c14,c15,c16]],false⟩::B1::⟨true,cnt+1,3,1,E.take n++[.sc (.int .i64 x)],false⟩::B3::R,cnt+2):=
 (Hk (q:=fun p:Ptr=>p.n≤100000) (enc:=fun p=>([.pt 0 p.k.w 0 0,kA .i64 p.x],U7 p.k (.sl 2 p.s 0 p.n) p.ev (Rv p.s p.E p.f) p.B3,p.cnt))
  (out:=fun p=>(.tu [],U7 p.k (.sl 2 (p.cnt+1) 0 (p.n+1)) p.ev (Rv (p.cnt+1) (p.E.take p.n++[kA .i64 p.x]) false) p.B3,p.cnt+2)) ⟨⟨c0,c1,c2,c3,c4,c5,c6,c7,c8,c9,c10,c11,c12,c13,c14,c15,c16,B1,R,w⟩,ev,B3,s,n,E,f,x,cnt⟩ hn (by
  rintro ⟨k,ev',B3',s',n',E',f',x',cnt'⟩ _ h
  simp only [lx40,lx96,Ay] at h
  obtain ⟨⟨_,h1⟩,h2,h3⟩:=h
  obtain ⟨rfl,g1,rfl,g2,rfl⟩:=UN h2
  simp only [AV.sl.injEq,CY] at g1
  obtain ⟨rfl,rfl⟩:=g1
  obtain ⟨_,rfl,rfl⟩:=PC g2
  obtain rfl:=Bx h1
  obtain rfl:=h3
  rfl) :)
theorem Bee:Mu Tryz.prog 241 f241:=Hl <| by
 rintro ⟨⟨c0,c1,c2,c3,c4,c5,c6,c7,c8,c9,c10,c11,c12,c13,c14,c15,c16,B1,R,w⟩,ev,B3,s,n,E,f,x,cnt⟩ hq
 simp only at hq
 have hz:decide ((n+1) * 8≤140737488355328)=true:=Ae
 refine Ag (Aj (lit:=true) (pm:=fun _=>none) .nil .nil .nil .nil) rfl Tryz.func241 rfl (by decide) (by kernel_rfl) ?_
 simp only [Tryz.f241,Af,lx53,lx63,Nat.reduceAdd,Nat.reduceSub,List.replicate]
 simp only [U7,Rv]
 refine Aa ?_
 refine Hr (a2 hz @Ch) ?_
 exact .refl _
structure Tkr where
 k:Rk0
 ev:AV
 B3:Blk
 s:Nat
 n:Nat
 E:List AV
 f:Bool
 x:Int
 cnt:Nat
def tkR (p:Tkr):Prop:=p.n≤100000∧p.E[p.n]?=some (kA .i64 p.x)
noncomputable def f242:=Yk tkR (fun p=>([.pt 0 p.k.w 0 0],U7 p.k (.sl 2 p.s 0 (p.n+1)) p.ev (Rv p.s p.E p.f) p.B3,p.cnt))
 (fun p=>(kA .i64 p.x,U7 p.k (.sl 2 p.s 0 p.n) p.ev (Rv p.s p.E p.f) p.B3,p.cnt))
theorem Ap2 (c0 c1 c2 c3 c4 c5 c6 c7 c8 c9 c10 c11 c12 c13 c14 c15 c16:AV) (B1:Blk) (R:List Blk) (w:Nat) (ev:AV) (B3:Blk) (s n:Nat) (E:List AV) (f:Bool) (x:Int) (cnt:Nat) (hn:n≤100000) (hx:E[n]?=some (.sc (.int .i64 x))):
  f242 [.pt 0 w 0 0] (⟨true,w,269,19,[.ag [c0,c1,c2,c3,c4,c5,c6,c7,c8,c9,c10,c11,c12,c13,.sl 2 s 0 (n+1),ev,c14,c15,c16]],false⟩::B1::⟨true,s,3,1,E,f⟩::B3::R) cnt=
   some (.sc (.int .i64 x),⟨true,w,269,19,[.ag [c0,c1,c2,c3,c4,c5,c6,c7,c8,c9,c10,c11,c12,c13,.sl 2 s 0 n,ev,c14,c15,c16]],false⟩::B1::⟨true,s,3,1,E,f⟩::B3::R,cnt):=
 (Hk (q:=tkR) (enc:=fun p=>([.pt 0 p.k.w 0 0],U7 p.k (.sl 2 p.s 0 (p.n+1)) p.ev (Rv p.s p.E p.f) p.B3,p.cnt))
  (out:=fun p=>(kA .i64 p.x,U7 p.k (.sl 2 p.s 0 p.n) p.ev (Rv p.s p.E p.f) p.B3,p.cnt)) ⟨⟨c0,c1,c2,c3,c4,c5,c6,c7,c8,c9,c10,c11,c12,c13,c14,c15,c16,B1,R,w⟩,ev,B3,s,n,E,f,x,cnt⟩ ⟨hn,hx⟩ (by
  rintro ⟨k,ev',B3',s',n',E',f',x',cnt'⟩ ⟨_,hx'⟩ h
  simp only [lx40,lx96,Ay] at h hx'
  obtain ⟨_,h2,h3⟩:=h
  obtain ⟨rfl,g1,rfl,g2,rfl⟩:=UN h2
  simp only [AV.sl.injEq,CY,Nat.add_right_cancel_iff] at g1
  obtain ⟨rfl,rfl⟩:=g1
  obtain ⟨_,rfl,rfl⟩:=PC g2
  rw [hx] at hx'
  obtain rfl:=Bx (Option.some.inj hx')
  obtain rfl:=h3
  rfl) :)
theorem Bef:Mu Tryz.prog 242 f242:=Hl <| by
 rintro ⟨⟨c0,c1,c2,c3,c4,c5,c6,c7,c8,c9,c10,c11,c12,c13,c14,c15,c16,B1,R,w⟩,ev,B3,s,n,E,f,x,cnt⟩ ⟨hq,hx⟩
 simp only at hq hx
 have w1:IntKind.i64.wrap (((n+1:Nat):Int) - 1)=(n:Int):=AA
 have h1:decide ((n:Int) < ((n+1:Nat):Int))=true:=Ae
 have h2:decide ((n:Int)≤((n+1:Nat):Int))=true:=Ae
 refine Ag (Aj (lit:=true) (pm:=fun _=>none) .nil .nil .nil .nil) rfl Tryz.func242 rfl (by decide) (by kernel_rfl) ?_
 simp only [Tryz.f242,Af,lx53,lx63,Nat.reduceAdd,Nat.reduceSub,List.replicate]
 simp only [U7,Rv]
 exact Aqe
structure Per where
 k:Rk0
 sv:AV
 B2:Blk
 s:Nat
 n:Nat
 E:List AV
 f:Bool
 x:Ef
 cnt:Nat
noncomputable def f245:=Yk (fun p:Per=>p.n≤100000) (fun p=>([.pt 0 p.k.w 0 0,Dd p.x],U7 p.k p.sv (.sl 3 p.s 0 p.n) p.B2 ⟨true,p.s,73,5,p.E,p.f⟩,p.cnt))
 (fun p=>(.tu [],U7 p.k p.sv (.sl 3 (p.cnt+2) 0 (p.n+1)) p.B2 ⟨true,p.cnt+2,73,5,p.E.take p.n++[Dd p.x],false⟩,p.cnt+3))
theorem Bj7 (c0 c1 c2 c3 c4 c5 c6 c7 c8 c9 c10 c11 c12 c13 c14 c15 c16:AV) (B1:Blk) (R:List Blk) (w:Nat) (sv:AV) (B2:Blk) (s n:Nat) (E:List AV) (f:Bool) (op a b c:Int) (t:ByteArray) (cnt:Nat) (hn:n≤100000):
  f245 [.pt 0 w 0 0,.ag [.sc (.int .i64 op),.sc (.int .i64 a),.sc (.int .i64 b),.sc (.int .i64 c),.sc (.string t)]] (⟨true,w,269,19,[.ag [c0,c1,c2,c3,c4,c5,c6,c7,c8,c9,c10,c11,c12,c13,sv,.sl 3 s 0 n,c14,c15,c16]],false⟩::B1::B2::⟨true,s,73,5,E,f⟩::R) cnt=
   some (.tu [],⟨true,w,269,19,[.ag [c0,c1,c2,c3,c4,c5,c6,c7,c8,c9,c10,c11,c12,c13,sv,.sl 3 (cnt+2) 0 (n+1),c14,c15,c16]],false⟩::B1::B2::⟨true,cnt+2,73,5,E.take n++[.ag [.sc (.int .i64 op),.sc (.int .i64 a),.sc (.int .i64 b),.sc (.int .i64 c),(.sc (.string t))]],false⟩::R,cnt+3):=
 (Hk (q:=fun p:Per=>p.n≤100000) (enc:=fun p=>([.pt 0 p.k.w 0 0,Dd p.x],U7 p.k p.sv (.sl 3 p.s 0 p.n) p.B2 ⟨true,p.s,73,5,p.E,p.f⟩,p.cnt))
  (out:=fun p=>(.tu [],U7 p.k p.sv (.sl 3 (p.cnt+2) 0 (p.n+1)) p.B2 ⟨true,p.cnt+2,73,5,p.E.take p.n++[Dd p.x],false⟩,p.cnt+3)) ⟨⟨c0,c1,c2,c3,c4,c5,c6,c7,c8,c9,c10,c11,c12,c13,c14,c15,c16,B1,R,w⟩,sv,B2,s,n,E,f,⟨op,a,b,c,t⟩,cnt⟩ hn (by
  rintro ⟨k,sv',B2',s',n',E',f',x',cnt'⟩ _ h
  simp only [lx40,lx96,Ay] at h
  obtain ⟨⟨_,h1⟩,h2,h3⟩:=h
  obtain ⟨rfl,rfl,g1,rfl,g2⟩:=UN h2
  simp only [AV.sl.injEq,CY] at g1
  obtain ⟨rfl,rfl⟩:=g1
  simp only [Blk.mk.injEq,CY] at g2
  obtain ⟨rfl,rfl⟩:=g2
  obtain rfl:=Nj h1
  obtain rfl:=h3
  rfl) :)
theorem Beg:Mu Tryz.prog 245 f245:=Hl <| by
 rintro ⟨⟨c0,c1,c2,c3,c4,c5,c6,c7,c8,c9,c10,c11,c12,c13,c14,c15,c16,B1,R,w⟩,sv,B2,s,n,E,f,⟨op,a,b,c,t⟩,cnt⟩ hq
 simp only at hq
 have hz:decide ((n+1) * 48≤140737488355328)=true:=Ae
 refine Ag (Aj (lit:=true) (pm:=fun _=>none) .nil .nil .nil .nil) rfl Tryz.func245 rfl (by decide) (by kernel_rfl) ?_
 simp only [Tryz.f245,Af,lx53,lx63,Nat.reduceAdd,Nat.reduceSub,List.replicate]
 simp only [U7]
 exact Ayx
end Go.Proofs.YtdjpkhjaibdogaaGreat
