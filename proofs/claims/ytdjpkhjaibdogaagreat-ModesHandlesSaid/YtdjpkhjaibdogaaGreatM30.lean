/-
  Lemmas towards ModesHandles (joined texts: EA, FD, FE).
  Conditions: none.
-/
import Derived.Test.YtdjpkhjaibdogaaGreatM01
import Derived.Test.YtdjpkhjaibdogaaGreatM02
import Derived.Test.YtdjpkhjaibdogaaGreatM29
import Derived.Test.YtdjpkhjaibdogaaGreatM28
set_option linter.unusedSimpArgs false
set_option linter.unusedVariables false
set_option maxRecDepth 100000
set_option maxHeartbeats 8000000
namespace Go.Proofs.YtdjpkhjaibdogaaGreat
open Go Go.SX
attribute [local congr] ite_congr
noncomputable def hF (P:Program) (g:Nat) (D:List AV→List Blk→Nat→AV→List Blk→Nat→Prop) (args:List AV) (H:List Blk) (cnt:Nat):Option (AV × List Blk × Nat):=
 open Classical in if h:∃ p:AV × List Blk × Nat,HSpec P g args H cnt p.1 p.2.1 p.2.2∧D args H cnt p.1 p.2.1 p.2.2 then some h.choose else none
theorem JC (P:Program) (g:Nat) (D:List AV→List Blk→Nat→AV→List Blk→Nat→Prop):M8 P g (hF P g D):=by
 intro args H cnt r H' cnt' h
 unfold hF at h
 split at h
 ·rename_i hx
  have h2:=hx.choose_spec.1
  injection h with h
  rw [h] at h2
  exact h2
 ·cases h
theorem JD {P:Program} {g:Nat} {D:List AV→List Blk→Nat→AV→List Blk→Nat→Prop} {args:List AV} {H:List Blk} {cnt:Nat} {r:AV} {H':List Blk} {cnt':Nat} (h:HSpec P g args H cnt r H' cnt') (hd:D args H cnt r H' cnt'):
  ∃ r H' cnt',hF P g D args H cnt=some (r,H',cnt')∧D args H cnt r H' cnt':=by
 have hx:∃ p:AV × List Blk × Nat,HSpec P g args H cnt p.1 p.2.1 p.2.2∧D args H cnt p.1 p.2.1 p.2.2:=⟨(r,H',cnt'),h,hd⟩
 refine ⟨hx.choose.1,hx.choose.2.1,hx.choose.2.2,?_,hx.choose_spec.2⟩
 unfold hF
 rw [dif_pos hx]
def uA (x:Nat):AV:=.sc (.int .u8 (x:Int))
theorem Xd (x:Nat):uA x=.sc (.int .u8 (x:Int)):=rfl
theorem IT (l:List Nat):Db 1 (l.map uA)=true:=D7 (f:=uA) (fun _=>rfl) l
theorem Adm (l:List Nat):norefs (l.map uA)=true:=C4 (f:=uA) (fun _=>by simp [uA,AV.noref]) l
theorem Aue {x y:Nat} (h:uA x=uA y):x=y:=by
 simp only [uA,AV.sc.injEq,Value.int.injEq,Du] at h; omega
theorem No {l m:List Nat}:l.map uA=m.map uA↔l=m:=⟨D8 (fun _ _=>Aue),fun h=>by rw [h]⟩
structure Tp where
 z:Bool
 l:List Nat
 v:Nat
structure TpOk (t:Tp):Prop where
 u:∀ i,t.l.getD i default < 256
 len:t.l.length≤200
def Oo (t:Tp) (a:Nat):Blk:=⟨true,t.v,96,2,[.ag [.vw t.z (t.l.map uA),kA .i64 (a:Int)]],false⟩
theorem Np (t:Tp) (a:Nat):Oo t a=⟨true,t.v,96,2,[.ag [.vw t.z (t.l.map uA),.sc (.int .i64 (a:Int))]],false⟩:=rfl
theorem ON {t u:Tp} {a b:Nat} (h:Oo t a=Oo u b):t=u∧a=b:=by
 obtain ⟨z,l,v⟩:=t; obtain ⟨z',l',v'⟩:=u
 simp only [Oo,kA,Blk.mk.injEq,lx96,AV.ag.injEq,AV.vw.injEq,AV.sc.injEq,Value.int.injEq,No,Az,Du] at h
 obtain ⟨rfl,⟨rfl,rfl⟩,h⟩:=h
 exact ⟨rfl,by omega⟩
def Dc (t:Tp) (a n:Nat):Nat:=if a < t.l.length then t.l.getD a default % n else 0
def Ck (t:Tp) (a:Nat):Nat:=if a < t.l.length then a+1 else a
theorem E7 {t:Tp} {a n:Nat} (h:0 < n):Dc t a n < n:=by
 unfold Dc; split
 ·exact Nat.mod_lt _ h
 ·exact h
def D42 (args:List AV) (H:List Blk) (cnt:Nat) (r:AV) (H':List Blk) (cnt':Nat):Prop:=
 ∀ (t:Tp) (a:Nat) (n:Nat) (R:List Blk),args=[.pt 0 t.v 0 0,.sc (.int .i64 (n:Int))]→H=Oo t a::R→r=.sc (.int .i64 (Dc t a n:Nat))∧H'=Oo t (Ck t a)::R∧cnt'=cnt
theorem Adn (t:Tp) (ht:TpOk t) (a n:Nat) (hn:0 < n) (hn':n≤1000) (ha:a≤1000) (R:List Blk) (cnt:Nat):
  HSpec Tryz.prog 42 [.pt 0 t.v 0 0,.sc (.int .i64 (n:Int))] (Oo t a::R) cnt (.sc (.int .i64 (Dc t a n:Nat))) (Oo t (Ck t a)::R) cnt:=by
 have hu:=ht.u a
 have hll:=ht.len
 refine Ag (Aj (lit:=false) (pm:=fun _=>none) .nil .nil .nil .nil) rfl Tryz.func42 rfl (by decide) (by kernel_rfl) ?_
 simp only [Tryz.f42,Af,lx53,lx63,Nat.reduceAdd,Nat.reduceSub,List.replicate]
 simp only [Np,Dc,Ck]
 refine Ab ?_
 by_cases h:a < t.l.length
 ·have h1:decide ((t.l.length:Int)≤(a:Int))=false:=by rw [Bz]; omega
  have h2:decide (a < t.l.length)=true:=Ae
  have w1:IntKind.i64.wrap ((a:Int)+1)=((a+1:Nat):Int):=Ay
  have w2:IntKind.i64.wrap (((a+1:Nat):Int) - 1)=(a:Int):=Ay
  have h3:decide ((a:Int) < (t.l.length:Int))=true:=Ae
  obtain ⟨x,hx⟩:∃ x,t.l.getD a default=x:=⟨_,rfl⟩
  rw [hx] at hu
  have w3:IntKind.i64.wrap (x:Int)=(x:Int):=Ba (by omega) (by omega)
  have hz:¬ (n:Int)=0:=Ai
  have hr:Int.tmod (x:Int) (n:Int)=((x % n:Nat):Int):=rfl
  rw [if_pos h,if_pos h,hx]
  exact zE1 (G0 h1 h2 h3 w1 w2 w3 hx hz hr @IT @Xd @Ax)
  all_goals done
 ·have h1:decide ((t.l.length:Int)≤(a:Int))=true:=by rw [AR]; omega
  rw [if_neg h,if_neg h]
  exact zE1 h1
  all_goals done
theorem BW {t:Tp} (ht:TpOk t) {a:Nat} (h:a≤200):Ck t a≤200:=by
 have:=ht.len
 unfold Ck; split <;> omega
noncomputable def f42:=hF Tryz.prog 42 D42
theorem Ri:M8 Tryz.prog 42 f42:=JC _ _ _
theorem e42 (t:Tp) (ht:TpOk t) (a n:Nat) (N:Int) (hN:N=(n:Int)) (hn:0 < n) (hn':n≤1000) (ha:a≤200) (R:List Blk) (cnt:Nat):
  f42 [.pt 0 t.v 0 0,.sc (.int .i64 N)] (⟨true,t.v,96,2,[.ag [.vw t.z (t.l.map uA),.sc (.int .i64 (a:Int))]],false⟩::R) cnt=
   some (.sc (.int .i64 (Dc t a n:Nat)),⟨true,t.v,96,2,[.ag [.vw t.z (t.l.map uA),.sc (.int .i64 (Ck t a:Nat))]],false⟩::R,cnt):=by
 subst hN
 obtain ⟨r,H',c',e,d⟩:=JD (D:=D42) (Adn t ht a n hn hn' (by omega) R cnt) (by
  intro t' a' n' R' h1 h2
  simp only [lx96,Az,AV.sc.injEq,Value.int.injEq,Du] at h1 h2
  obtain ⟨⟨rfl,rfl⟩,rfl⟩:=And.intro (ON h2.1) h2.2
  obtain rfl:n=n':=Ai
  exact ⟨rfl,rfl,rfl⟩)
 obtain ⟨rfl,rfl,rfl⟩:=d t a n R rfl rfl
 exact e
def Auf (i:Nat):Int:=[0,1,2,3,-1,7,1000,2147483647,-2147483647,65536].getD i 0
def Le (t:Tp) (k a:Nat):In:=
 if k=1 then ⟨2,Dc t a 3⟩ else if k=2 then ⟨4,Dc t a 64⟩ else if k=3 then ⟨5,Dc t a 2⟩ else if k=4 then ⟨6,Dc t a 2⟩ else if k=5 then ⟨7+(Dc t a 2:Nat),0⟩ else ⟨1,Auf (Dc t a 10)⟩
def AI (t:Tp):Nat→Nat→List In × Nat
 | 0,a=>([Le t (if 5 < Dc t a 9 then 0 else Dc t a 9) (Ck t a)],Ck t (Ck t a))
 | d+1,a=>
  let k:=Dc t a 9
  let b:=Ck t a
  if k=6 then let x:=AI t d b; (x.1++[⟨9+(Dc t x.2 2:Nat),0⟩],Ck t x.2)
  else if k=7∨k=8 then let x:=AI t d b; let y:=AI t d x.2; (x.1++y.1++[⟨11,12+(Dc t y.2 13:Nat)⟩],Ck t y.2)
  else ([Le t k b],Ck t b)
theorem C9 {t:Tp} (ht:TpOk t):∀ (d:Nat) {a:Nat},a≤200→(AI t d a).2≤200
 | 0,a,h=>BW ht (BW ht h)
 | d+1,a,h=>by
  have h1:=BW ht h
  rw [AI]
  split
  ·exact BW ht (C9 ht d h1)
  ·split
   ·exact BW ht (C9 ht d (C9 ht d h1))
   ·exact BW ht h1
theorem CW (t:Tp):∀ (d:Nat) (a:Nat),(AI t d a).1.length+1≤2 ^ (d+1)
 | 0,a=>by simp [AI]
 | d+1,a=>by
  have h0:2 ^ (d+1+1)=2 ^ (d+1)+2 ^ (d+1):=Ai
  have h9:0 < 2 ^ (d+1):=Nat.two_pow_pos _
  rw [AI]
  split
  ·have:=CW t d (Ck t a)
   exact Aki
  ·split
   ·have:=CW t d (Ck t a)
    have:=CW t d (AI t d (Ck t a)).2
    exact Aki
   ·simp only [lx53,lx63]; omega
theorem IU (H0:List Blk) {A B:List Blk} (h:WA H0 A B):∀ R:List Blk,WA H0 (R++A) (R++B)
 | []=>h
 | x::R=>by
  rw [lx91,lx91,Ce]
  exact ⟨.inr (.inl rfl),IU H0 h R⟩
theorem MG (H0 R:List Blk) (v t e:Nat) (es:List AV) (p q:Bool) (h:GC es=true):WA H0 (R++[⟨true,v,t,e,es,p⟩]) (R++[⟨true,v,t,e,es,q⟩]):=
 IU H0 (by rw [Ce]; exact ⟨.inr (.inr (by rw [XV]; exact ⟨rfl,rfl,rfl,rfl,Ml _ _,h⟩)),by rw [Ky]; trivial⟩) R
theorem Xe (H0 R:List Blk) (x:Blk) (v t e:Nat) (es:List AV) (p q:Bool) (h:GC es=true):WA H0 (R++[x,⟨true,v,t,e,es,p⟩]) (R++[x,⟨true,v,t,e,es,q⟩]):=
 IU H0 (by rw [Ce]; exact ⟨.inr (.inl rfl),MG H0 [] v t e es p q h⟩) R
def QS (v:Nat) (l:List In):Blk:=⟨true,v,102,2,l.map BY,false⟩
theorem MH (v:Nat) (l:List In):QS v l=⟨true,v,102,2,l.map BY,false⟩:=rfl
theorem Bgg (z:AV):List.replicate 9 z=[z,z,z,z,z,z,z,z,z]:=rfl
theorem Aj0 (z:AV):List.replicate 10 z=[z,z,z,z,z,z,z,z,z,z]:=rfl
theorem An0 {q:Nat} (h:q < 10):([.sc (.int .i64 0),.sc (.int .i64 1),.sc (.int .i64 2),.sc (.int .i64 3),.sc (.int .i64 (-1)),.sc (.int .i64 7),.sc (.int .i64 1000),.sc (.int .i64 2147483647),.sc (.int .i64 (-2147483647)),.sc (.int .i64 65536)]:List AV)[q]?=some (.sc (.int .i64 (Auf q))):=by
 exact Ax0
theorem SO (t:Tp) (ht:TpOk t) (d a:Nat) (ha:a≤200) (k:Nat) (hk:Dc t a 9=k) (hd:d=0∧5 < k∨k≤5) (R:List Blk) (cnt:Nat):
  ∃ P ver cnt',HSpec Tryz.prog 83 [.pt 0 t.v 0 0,.sc (.int .i64 (d:Int))] (Oo t a::R) cnt (.sl (R.length+P.length+1) ver 0 1) (Oo t (Ck t (Ck t a))::(R++(P++[QS ver [Le t (if 5 < k then 0 else k) (Ck t a)]]))) cnt':=by
 by_cases hsel:k=0∨5 < k
 rotate_left
 refine ⟨[],cnt,cnt+1,?_⟩
 have hk9:k < 9:=by rw [←hk]; exact E7 (by omega)
 have hb:=BW ht ha
 have E0:=e42 t ht a 9 9 rfl (by omega) (by omega) ha R cnt
 rw [hk] at E0
 obtain ⟨b,hb'⟩:∃ b,Ck t a=b:=⟨_,rfl⟩
 rw [hb'] at hb E0 ⊢
 have E1:=fun n N h h1 h2=>e42 t ht b n N h h1 h2 hb
 refine Ag (Aj (lit:=false) (pm:=fun _=>none) .nil .nil .nil (.cons Ri .nil)) rfl Tryz.func83 rfl (by decide) (by kernel_rfl) ?_
 refine Akk ?_
 simp only [Np,MH,lx64,lx66,JF]
 obtain ⟨K,hK⟩:∃ K:Int,(k:Int)=K:=⟨_,rfl⟩
 rw [hK] at E0
 obtain ⟨c0,Cj⟩:∃ c0,decide ((d:Int)≤0)=c0:=⟨_,rfl⟩
 ·rw [if_neg (by omega)]
  have hc:c0=true∨c0=false:=by cases c0 <;> simp
  have hk6:k=1∨k=2∨k=3∨k=4∨k=5:=Ai
  rcases hk6 with h | h | h | h | h
  ·obtain rfl:K=1:=by omega
   have hlf:Le t k b=⟨2,Dc t b 3⟩:=by subst h; rfl
   rw [hlf]
   have E2:=E1 3 3 rfl (by omega) (by omega) R cnt
   rcases hc with rfl | rfl
   all_goals refine Ab ?_
   all_goals simp (maxSteps:=10000000) +contextual -implicitDefEqProofs only [AX,AW,Ap,St.put,DN,↓reduceIte,Nat.reduceAdd,Nat.reduceLeDiff,Nat.reduceMul,Int.reduceLT,Nat.reduceLT,Dd,OI,Int.reduceAdd,Int.reduceMul,CO,E5,hl,AK,E0,E2,Cj]
   all_goals exact MG _ _ _ _ _ _ _ _ rfl
   all_goals done
  ·obtain rfl:K=2:=by omega
   have hlf:Le t k b=⟨4,Dc t b 64⟩:=by subst h; rfl
   rw [hlf]
   have E2:=E1 64 64 rfl (by omega) (by omega) R cnt
   exact As5
  ·obtain rfl:K=3:=by omega
   have hlf:Le t k b=⟨5,Dc t b 2⟩:=by subst h; rfl
   rw [hlf]
   have E2:=E1 2 2 rfl (by omega) (by omega) R cnt
   exact As5
  ·obtain rfl:K=4:=by omega
   have hlf:Le t k b=⟨6,Dc t b 2⟩:=by subst h; rfl
   rw [hlf]
   have E2:=E1 2 2 rfl (by omega) (by omega) R cnt
   exact As5
  ·obtain rfl:K=5:=by omega
   have hlf:Le t k b=⟨7+(Dc t b 2:Nat),0⟩:=by subst h; rfl
   rw [hlf]
   have E2:=E1 2 2 rfl (by omega) (by omega) R cnt
   have w7:IntKind.i64.wrap (7+((Dc t b 2:Nat):Int))=7+((Dc t b 2:Nat):Int):=by
    have:=E7 (t:=t) (a:=b) (n:=2) (by omega)
    exact Ba (by omega) (by omega)
   rcases hc with rfl | rfl
   all_goals refine Ab ?_
   all_goals simp (maxSteps:=10000000) +contextual -implicitDefEqProofs only [AX,AW,Ap,St.put,DN,↓reduceIte,Nat.reduceAdd,Nat.reduceLeDiff,Nat.reduceMul,Int.reduceLT,Nat.reduceBEq,Nat.reduceLT,Dd,OI,Int.reduceAdd,Int.reduceMul,CO,E5,hl,AK,Int.reduceBEq,E0,E2,Cj,w7]
   all_goals exact MG _ _ _ _ _ _ _ _ rfl
   all_goals done
 refine ⟨[⟨true,cnt,3,1,[.sc (.int .i64 0),.sc (.int .i64 1),.sc (.int .i64 2),.sc (.int .i64 3),.sc (.int .i64 (-1)),.sc (.int .i64 7),.sc (.int .i64 1000),.sc (.int .i64 2147483647),.sc (.int .i64 (-2147483647)),.sc (.int .i64 65536)],true⟩],cnt+1,cnt+2,?_⟩
 have hk9:k < 9:=by rw [←hk]; exact E7 (by omega)
 have hb:=BW ht ha
 have E0:=e42 t ht a 9 9 rfl (by omega) (by omega) ha R cnt
 rw [hk] at E0
 obtain ⟨b,hb'⟩:∃ b,Ck t a=b:=⟨_,rfl⟩
 rw [hb'] at hb E0 ⊢
 have E1:=fun n N h h1 h2=>e42 t ht b n N h h1 h2 hb
 refine Ag (Aj (lit:=false) (pm:=fun _=>none) .nil .nil .nil (.cons Ri .nil)) rfl Tryz.func83 rfl (by decide) (by kernel_rfl) ?_
 refine Akk ?_
 simp only [Np,MH,lx91,lx64]
 obtain ⟨K,hK⟩:∃ K:Int,(k:Int)=K:=⟨_,rfl⟩
 rw [hK] at E0
 obtain ⟨c0,Cj⟩:∃ c0,decide ((d:Int)≤0)=c0:=⟨_,rfl⟩
 have hlf:Le t (if 5 < k then 0 else k) b=⟨1,Auf (Dc t b 10)⟩:=by
  rcases hsel with h | h
  ·subst h; rfl
  ·rw [if_pos h]; rfl
 rw [hlf]
 have E2:=E1 10 10 rfl (by omega) (by omega)
 have hq:=E7 (t:=t) (a:=b) (n:=10) (by omega)
 obtain ⟨q,hq'⟩:∃ q,Dc t b 10=q:=⟨_,rfl⟩
 simp only [hq'] at hq E2 ⊢
 have g1:decide ((q:Int) < 10)=true:=Ae
 have g2:=An0 hq
 by_cases h5:k=0
 ·obtain rfl:K=0:=by omega
  cases c0
  all_goals refine Ab ?_
  all_goals simp (maxSteps:=10000000) +contextual -implicitDefEqProofs only [AX,AW,Ap,St.put,DN,↓reduceIte,Nat.reduceAdd,Nat.reduceLeDiff,Nat.reduceMul,Int.reduceLT,Nat.reduceBEq,Nat.reduceLT,Dd,OI,Int.reduceAdd,Int.reduceMul,CO,E5,hl,AK,Int.reduceBEq,E0,E2,Cj,g1,g2,Aj0,lx3,lx4,lx5]
  all_goals exact Xe _ _ _ _ _ _ _ _ _ rfl
  all_goals done
 ·obtain rfl:d=0:=by omega
  obtain rfl:c0=true:=by rw [←Cj]; rfl
  have c1:decide ((5:Int) < K)=true:=Ae
  refine Ab ?_
  refine Od (a8 E0 E2 c1 g1 g2 @OI @AK @Aj0) ?_
  all_goals exact Xe _ _ _ _ _ _ _ _ _ rfl
  all_goals done
def D83 (args:List AV) (H:List Blk) (cnt:Nat) (r:AV) (H':List Blk) (cnt':Nat):Prop:=
 ∀ (t:Tp) (a d:Nat) (R:List Blk),args=[.pt 0 t.v 0 0,.sc (.int .i64 (d:Int))]→H=Oo t a::R→
  ∃ P ver,r=.sl (R.length+P.length+1) ver 0 (AI t d a).1.length∧H'=Oo t (AI t d a).2::(R++(P++[QS ver (AI t d a).1]))
noncomputable def f83:=hF Tryz.prog 83 D83
theorem Yu:M8 Tryz.prog 83 f83:=JC _ _ _
theorem Ado (t:Tp) (d a:Nat) (D:Int) (hD:D=(d:Int)) (R:List Blk) (cnt:Nat) (h:∃ P ver cnt',HSpec Tryz.prog 83 [.pt 0 t.v 0 0,.sc (.int .i64 (d:Int))] (Oo t a::R) cnt (.sl (R.length+P.length+1) ver 0 (AI t d a).1.length) (Oo t (AI t d a).2::(R++(P++[QS ver (AI t d a).1]))) cnt'):
  ∃ P ver cnt',f83 [.pt 0 t.v 0 0,.sc (.int .i64 D)] (⟨true,t.v,96,2,[.ag [.vw t.z (t.l.map uA),.sc (.int .i64 (a:Int))]],false⟩::R) cnt=
   some (.sl (R.length+P.length+1) ver 0 (AI t d a).1.length,⟨true,t.v,96,2,[.ag [.vw t.z (t.l.map uA),.sc (.int .i64 ((AI t d a).2:Int))]],false⟩::(R++(P++[⟨true,ver,102,2,(AI t d a).1.map BY,false⟩])),cnt'):=by
 subst hD
 obtain ⟨P,ver,c',h⟩:=h
 obtain ⟨r,H',c',e,d'⟩:=JD (D:=D83) h (by
  intro t' a' d' R' h1 h2
  simp only [lx96,Az,AV.sc.injEq,Value.int.injEq,Du] at h1 h2
  obtain ⟨⟨rfl,rfl⟩,rfl⟩:=And.intro (ON h2.1) h2.2
  obtain rfl:d=d':=Ai
  exact ⟨P,ver,rfl,rfl⟩)
 obtain ⟨P,ver,rfl,rfl⟩:=d' t a d R rfl rfl
 exact ⟨P,ver,c',e⟩
theorem Fw (Q l:List Blk) (x:Blk):(Q++(x::l))[Q.length]?=some x:=Bc
theorem IV (Q l:List Blk) (x y:Blk):(Q++(x::y::l))[Q.length+1]?=some y:=Bc
theorem QT (Q l:List Blk) (x y z:Blk):(Q++(x::y::z::l))[Q.length+1+1]?=some z:=by
 rw [G2,lx62 (by omega),Ny]; rfl
theorem QU (Q l:List Blk) (x z:Blk):(Q++(x::l)).set Q.length z=Q++(z::l):=Bc
theorem Nq (Q l:List Blk) (x y z:Blk):(Q++(x::y::l)).set (Q.length+1) z=Q++(x::z::l):=by
 rw [lx119 _ _ (by omega),Ny]; rfl
theorem apP (Q P l:List Blk) (x y:Blk) {i:Nat} (h:i=Q.length+P.length+1):(Q++(x::(P++(y::l))))[i]?=some y:=by
 subst h
 rw [G2,lx62 (by omega),Ny,lx54,Fw]
theorem An1 (Q P l:List Blk) (x y:Blk):(Q++(x::(P++(y::l))))[Q.length+1+P.length]?=some y:=apP _ _ _ _ _ (by omega)
theorem Bgh (Q P l:List Blk) (x y z:Blk) {i:Nat} (h:i=Q.length+P.length+2):(Q++(x::(P++(y::z::l))))[i]?=some z:=by
 have:=apP Q (P++[y]) l x z (i:=i) (by simp; omega)
 simpa using this
theorem An2 (Q P l:List Blk) (x y z:Blk):(Q++(x::(P++(y::z::l))))[Q.length+(P.length+1+1)]?=some z:=Bgh _ _ _ _ _ _ (by omega)
theorem An3 (a b:Nat):(a+(b+1+1)+1=a+(b+2+1))=True:=eq_true (by omega)
theorem dlP (Q P:List Blk) (t x y z:Blk):(t::(Q++x::(P++[y,z]))).dropLast=t::(Q++x::(P++[y])):=by
 rw [show t::(Q++x::(P++[y,z]))=(t::(Q++x::(P++[y])))++[z] by simp,List.dropLast_concat]
theorem KN (H0 R l:List Blk) (x:Blk):WA H0 (R++x::l) (R++[x]):=
 IU H0 (by rw [Ce]; exact ⟨.inr (.inl rfl),by rw [Ky]; trivial⟩) R
theorem sc0 (Q l:List Blk) (t x z:Blk):(t::(Q++(x::l))).set (Q.length+1) z=t::(Q++(z::l)):=by
 rw [lx11,QU]
theorem sc1 (Q l:List Blk) (t x y z:Blk):(t::(Q++(x::y::l))).set (Q.length+1+1) z=t::(Q++(x::z::l)):=by
 rw [lx11,Nq]
theorem dl1 (Q:List Blk) (t x:Blk):(t::(Q++[x])).dropLast=t::Q:=by
 rw [←lx91,List.dropLast_concat]
theorem dl2 (Q:List Blk) (t x y:Blk):(t::(Q++[x,y])).dropLast=t::(Q++[x]):=by
 rw [show t::(Q++[x,y])=(t::(Q++[x]))++[y] by simp,List.dropLast_concat]
theorem dl3 (Q:List Blk) (t x y z:Blk):(t::(Q++[x,y,z])).dropLast=t::(Q++[x,y]):=by
 rw [show t::(Q++[x,y,z])=(t::(Q++[x,y]))++[z] by simp,List.dropLast_concat]
theorem Gj (t:Tp) (ht:TpOk t):∀ (d a:Nat) (_:d≤5) (_:a≤200) (R:List Blk) (cnt:Nat),∃ P ver cnt',HSpec Tryz.prog 83 [.pt 0 t.v 0 0,.sc (.int .i64 (d:Int))] (Oo t a::R) cnt (.sl (R.length+P.length+1) ver 0 (AI t d a).1.length) (Oo t (AI t d a).2::(R++(P++[QS ver (AI t d a).1]))) cnt'
 | 0,a,hd,ha,R,cnt=>by
  have hk:Dc t a 9 < 9:=E7 (by omega)
  exact SO t ht 0 a ha _ rfl (by omega) R cnt
 | d+1,a,hd,ha,R,cnt=>by
  have hk:Dc t a 9 < 9:=E7 (by omega)
  obtain ⟨k,hk'⟩:∃ k,Dc t a 9=k:=⟨_,rfl⟩
  by_cases h5:k≤5
  ·have:=SO t ht (d+1) a ha _ hk' (by omega) R cnt
   have h1:AI t (d+1) a=([Le t k (Ck t a)],Ck t (Ck t a)):=by
    rw [AI,hk',if_neg (by omega),if_neg (by omega)]
   rw [h1]
   rw [if_neg (by omega)] at this
   exact this
  have hb:=BW ht ha
  have E0:=e42 t ht a 9 9 rfl (by omega) (by omega) ha R cnt
  rw [hk'] at E0
  obtain ⟨K,hK⟩:∃ K:Int,(k:Int)=K:=⟨_,rfl⟩
  rw [hK] at E0
  have c0:decide (((d+1:Nat):Int)≤0)=false:=HY
  have w0:IntKind.i64.wrap (((d+1:Nat):Int) - 1)=(d:Int):=Ay
  have hl1:=CW t d (Ck t a)
  have hp:2 ^ (d+1)≤2 ^ 5:=Nat.pow_le_pow_right (by omega) (by omega)
  have hx2:=C9 ht d hb
  obtain ⟨P,ver,c1,E1⟩:=Ado t d (Ck t a) (d:Int) rfl R cnt (Gj t ht d (Ck t a) (by omega) hb R cnt)
  obtain ⟨Q,hQ,hQl⟩:∃ Q,R++P=Q∧R.length+P.length=Q.length:=⟨_,rfl,by simp⟩
  by_cases h6:k=6
  ·have h1:AI t (d+1) a=((AI t d (Ck t a)).1++[⟨9+(Dc t (AI t d (Ck t a)).2 2:Nat),0⟩],Ck t (AI t d (Ck t a)).2):=by
    rw [AI,hk',if_pos h6]
   rw [h1]
   obtain rfl:K=6:=Ai
   have E2:=e42 t ht (AI t d (Ck t a)).2 2 2 rfl (by omega) (by omega) hx2 (Q++[⟨true,ver,102,2,(AI t d (Ck t a)).1.map BY,false⟩]) c1
   have w9:IntKind.i64.wrap (9+((Dc t (AI t d (Ck t a)).2 2:Nat):Int))=9+((Dc t (AI t d (Ck t a)).2 2:Nat):Int):=by
    have:=E7 (t:=t) (a:=(AI t d (Ck t a)).2) (n:=2) (by omega)
    exact Ba (by omega) (by omega)
   obtain ⟨X,hX⟩:∃ X,(AI t d (Ck t a)).1=X:=⟨_,rfl⟩
   obtain ⟨y,hy⟩:∃ y,(AI t d (Ck t a)).2=y:=⟨_,rfl⟩
   rw [hX] at hl1
   simp only [hX,hy] at E1 E2 w9 ⊢
   have hsz:decide ((X.length+1) * 16≤140737488355328)=true:=Ae
   have htk:List.take X.length (X.map BY)=X.map BY:=lx118 (by simp)
   refine ⟨P,c1+1,c1+2,?_⟩
   rw [←lx4,hQ,hQl]
   rw [←lx4,hQ,hQl] at E1
   have hma:X.map BY++[.ag [.sc (.int .i64 (9+((Dc t y 2:Nat):Int))),.sc (.int .i64 0)]]=(X++[(⟨9+((Dc t y 2:Nat):Int),0⟩:In)]).map BY:=Rq
   refine Ag (Aj (lit:=false) (pm:=fun _=>none) .nil .nil .nil (.cons Ri (.cons Yu .nil))) rfl Tryz.func83 rfl (by decide) (by kernel_rfl) ?_
   refine Akk ?_
   simp only [Np,MH]
   refine Ab ?_
   simp (maxSteps:=10000000) +contextual -implicitDefEqProofs only [AX,AW,Ap,St.put,DN,↓reduceIte,Nat.reduceAdd,Nat.reduceLeDiff,Nat.reduceEqDiff,Nat.reduceMul,Int.reduceLT,Nat.reduceBEq,Nat.reduceLT,Dd,OI,Int.reduceAdd,Int.reduceMul,CO,E5,hl,Int.reduceBEq,E0,E1,E2,c0,w0,w9,hsz,htk,hma,lx4,Fw,IV,sc0,dl2,lx5]
   all_goals exact Ax4
  ·have h78:k=7∨k=8:=by omega
   have h1:AI t (d+1) a=((AI t d (Ck t a)).1++(AI t d (AI t d (Ck t a)).2).1++[⟨11,12+(Dc t (AI t d (AI t d (Ck t a)).2).2 13:Nat)⟩],Ck t (AI t d (AI t d (Ck t a)).2).2):=by
    rw [AI,hk',if_neg h6,if_pos h78]
   rw [h1]
   have hl2:=CW t d (AI t d (Ck t a)).2
   have hx3:=C9 ht d hx2
   obtain ⟨P2,ver2,c2,E2⟩:=Ado t d (AI t d (Ck t a)).2 (d:Int) rfl (Q++[⟨true,ver,102,2,(AI t d (Ck t a)).1.map BY,false⟩]) c1 (Gj t ht d _ (by omega) hx2 _ c1)
   have E3:=e42 t ht (AI t d (AI t d (Ck t a)).2).2 13 13 rfl (by omega) (by omega) hx3
   have w9:IntKind.i64.wrap (12+((Dc t (AI t d (AI t d (Ck t a)).2).2 13:Nat):Int))=12+((Dc t (AI t d (AI t d (Ck t a)).2).2 13:Nat):Int):=by
    have:=E7 (t:=t) (a:=(AI t d (AI t d (Ck t a)).2).2) (n:=13) (by omega)
    exact Ba (by omega) (by omega)
   obtain ⟨X,hX⟩:∃ X,(AI t d (Ck t a)).1=X:=⟨_,rfl⟩
   obtain ⟨y,hy⟩:∃ y,(AI t d (Ck t a)).2=y:=⟨_,rfl⟩
   rw [hX] at hl1
   rw [hy] at hl2
   simp only [hX,hy] at E1 E2 E3 w9 ⊢
   obtain ⟨Y,hY⟩:∃ Y,(AI t d y).1=Y:=⟨_,rfl⟩
   obtain ⟨u,hu⟩:∃ u,(AI t d y).2=u:=⟨_,rfl⟩
   rw [hY] at hl2
   simp only [hY,hu] at E2 E3 w9 ⊢
   have hsz:decide ((X.length+Y.length) * 16≤140737488355328)=true:=Ae
   have hsz2:decide ((X.length+Y.length+1) * 16≤140737488355328)=true:=Ae
   have htk:List.take X.length (X.map BY)=X.map BY:=lx118 (by simp)
   have htk2:List.take Y.length (Y.map BY)=Y.map BY:=lx118 (by simp)
   have htk3:List.take (X.length+Y.length) (X.map BY++Y.map BY)=X.map BY++Y.map BY:=lx118 (by simp)
   have hma:X.map BY++(Y.map BY++[.ag [.sc (.int .i64 11),.sc (.int .i64 (12+((Dc t u 13:Nat):Int)))]])=(X++(Y++[(⟨11,12+((Dc t u 13:Nat):Int)⟩:In)])).map BY:=by rw [lx12,lx12]; rfl
   refine Asq ?_
   rw [←lx4,hQ,hQl] at E1
   have hK:K=7∨K=8:=Ai
   refine Ag (Aj (lit:=false) (pm:=fun _=>none) .nil .nil .nil (.cons Ri (.cons Yu .nil))) rfl Tryz.func83 rfl (by decide) (by kernel_rfl) ?_
   refine Akk ?_
   simp only [Np,MH]
   rcases hK with rfl | rfl
   all_goals refine Ab ?_
   all_goals simp (maxSteps:=10000000) +contextual -implicitDefEqProofs only [AX,AW,Ap,St.put,DN,↓reduceIte,Nat.reduceAdd,Nat.reduceLeDiff,Nat.reduceEqDiff,Nat.reduceMul,Int.reduceLT,Nat.reduceBEq,Nat.reduceLT,Dd,OI,Int.reduceAdd,Int.reduceMul,CO,E5,hl,Int.reduceBEq,E0,E1,E2,E3,c0,w0,w9,hsz,hsz2,htk,htk2,htk3,hma,An1,An2,An3,dlP,AB,lx4,Fw,sc0,lx5]
   all_goals exact Ax4
theorem Ca (a x:Blk) (R:List Blk):Dh (a::(R++[x]))=x.els:=by rw [←lx91,DC]
structure Mk0 where
 c0:AV
 c1:AV
 c2:AV
 c3:AV
 c4:AV
 c5:AV
 c6:AV
 c7:AV
 c8:AV
 c9:AV
 c10:AV
 c11:AV
 c12:AV
 c13:AV
 c14:AV
 B1:Blk
 R:List Blk
 w:Nat
def Up (k:Mk0) (sv ev:AV) (B2 B3:Blk):List Blk:=⟨true,k.w,253,17,[.ag [k.c0,k.c1,k.c2,k.c3,k.c4,k.c5,k.c6,k.c7,k.c8,k.c9,k.c10,k.c11,k.c12,k.c13,k.c14,sv,ev]],false⟩::k.B1::B2::B3::k.R
theorem T7 {k k':Mk0} {sv ev sv' ev':AV} {B2 B3 B2' B3':Blk} (h:Up k sv ev B2 B3=Up k' sv' ev' B2' B3'):k=k'∧sv=sv'∧ev=ev'∧B2=B2'∧B3=B3':=by
 cases k; cases k'
 simp only [Up,lx96,Blk.mk.injEq,AV.ag.injEq,Az,Du] at h
 simp_all
def QV (v:Nat) (E:List AV) (f:Bool):Blk:=⟨true,v,3,1,E,f⟩
theorem OO {v v':Nat} {E E':List AV} {f f':Bool} (h:QV v E f=QV v' E' f'):v=v'∧E=E'∧f=f':=by simpa [QV] using h
structure Pt where
 k:Mk0
 ev:AV
 B3:Blk
 s:Nat
 n:Nat
 E:List AV
 f:Bool
 x:Int
 cnt:Nat
noncomputable def f227:=Xz (fun p:Pt=>p.n≤100000) (fun p=>([.pt 0 p.k.w 0 0,kA .i64 p.x],Up p.k (.sl 2 p.s 0 p.n) p.ev (QV p.s p.E p.f) p.B3,p.cnt))
 (fun p=>(.tu [],Up p.k (.sl 2 (p.cnt+1) 0 (p.n+1)) p.ev (QV (p.cnt+1) (p.E.take p.n++[kA .i64 p.x]) false) p.B3,p.cnt+2))
theorem Bgi (c0 c1 c2 c3 c4 c5 c6 c7 c8 c9 c10 c11 c12 c13 c14:AV) (B1:Blk) (R:List Blk) (w:Nat) (ev:AV) (B3:Blk) (s n:Nat) (E:List AV) (f:Bool) (x:Int) (cnt:Nat) (hn:n≤100000):
  f227 [.pt 0 w 0 0,.sc (.int .i64 x)] (⟨true,w,253,17,[.ag [c0,c1,c2,c3,c4,c5,c6,c7,c8,c9,c10,c11,c12,c13,c14,.sl 2 s 0 n,ev]],false⟩::B1::⟨true,s,3,1,E,f⟩::B3::R) cnt=
   some (.tu [],⟨true,w,253,17,[.ag [c0,c1,c2,c3,c4,c5,c6,c7,c8,c9,c10,c11,c12,c13,c14,.sl 2 (cnt+1) 0 (n+1),ev]],false⟩::B1::⟨true,cnt+1,3,1,E.take n++[.sc (.int .i64 x)],false⟩::B3::R,cnt+2):=
 (G5 (q:=fun p:Pt=>p.n≤100000) (enc:=fun p=>([.pt 0 p.k.w 0 0,kA .i64 p.x],Up p.k (.sl 2 p.s 0 p.n) p.ev (QV p.s p.E p.f) p.B3,p.cnt))
  (out:=fun p=>(.tu [],Up p.k (.sl 2 (p.cnt+1) 0 (p.n+1)) p.ev (QV (p.cnt+1) (p.E.take p.n++[kA .i64 p.x]) false) p.B3,p.cnt+2)) ⟨⟨c0,c1,c2,c3,c4,c5,c6,c7,c8,c9,c10,c11,c12,c13,c14,B1,R,w⟩,ev,B3,s,n,E,f,x,cnt⟩ hn (by
  rintro ⟨k,ev',B3',s',n',E',f',x',cnt'⟩ _ h
  simp only [lx40,lx96,Az] at h
  obtain ⟨⟨_,h1⟩,h2,h3⟩:=h
  obtain ⟨rfl,g1,rfl,g2,rfl⟩:=T7 h2
  simp only [AV.sl.injEq,Du] at g1
  obtain ⟨rfl,rfl⟩:=g1
  obtain ⟨_,rfl,rfl⟩:=OO g2
  obtain rfl:=Bt h1
  obtain rfl:=h3
  rfl) :)
theorem Bbn:M8 Tryz.prog 227 f227:=G6 <| by
 rintro ⟨⟨c0,c1,c2,c3,c4,c5,c6,c7,c8,c9,c10,c11,c12,c13,c14,B1,R,w⟩,ev,B3,s,n,E,f,x,cnt⟩ hq
 simp only at hq
 have hz:decide ((n+1) * 8≤140737488355328)=true:=Ae
 refine Ag (Aj (lit:=true) (pm:=fun _=>none) .nil .nil .nil .nil) rfl Tryz.func227 rfl (by decide) (by kernel_rfl) ?_
 simp only [Tryz.f227,Af,lx53,lx63,Nat.reduceAdd,Nat.reduceSub,List.replicate]
 simp only [Up,QV]
 refine Ab ?_
 refine It (a2 hz @Ca) ?_
 exact .refl _
structure Tk where
 k:Mk0
 ev:AV
 B3:Blk
 s:Nat
 n:Nat
 E:List AV
 f:Bool
 x:Int
 cnt:Nat
def tkQ (p:Tk):Prop:=p.n≤100000∧p.E[p.n]?=some (kA .i64 p.x)
noncomputable def f228:=Xz tkQ (fun p=>([.pt 0 p.k.w 0 0],Up p.k (.sl 2 p.s 0 (p.n+1)) p.ev (QV p.s p.E p.f) p.B3,p.cnt))
 (fun p=>(kA .i64 p.x,Up p.k (.sl 2 p.s 0 p.n) p.ev (QV p.s p.E p.f) p.B3,p.cnt))
theorem An4 (c0 c1 c2 c3 c4 c5 c6 c7 c8 c9 c10 c11 c12 c13 c14:AV) (B1:Blk) (R:List Blk) (w:Nat) (ev:AV) (B3:Blk) (s n:Nat) (E:List AV) (f:Bool) (x:Int) (cnt:Nat) (hn:n≤100000) (hx:E[n]?=some (.sc (.int .i64 x))):
  f228 [.pt 0 w 0 0] (⟨true,w,253,17,[.ag [c0,c1,c2,c3,c4,c5,c6,c7,c8,c9,c10,c11,c12,c13,c14,.sl 2 s 0 (n+1),ev]],false⟩::B1::⟨true,s,3,1,E,f⟩::B3::R) cnt=
   some (.sc (.int .i64 x),⟨true,w,253,17,[.ag [c0,c1,c2,c3,c4,c5,c6,c7,c8,c9,c10,c11,c12,c13,c14,.sl 2 s 0 n,ev]],false⟩::B1::⟨true,s,3,1,E,f⟩::B3::R,cnt):=
 (G5 (q:=tkQ) (enc:=fun p=>([.pt 0 p.k.w 0 0],Up p.k (.sl 2 p.s 0 (p.n+1)) p.ev (QV p.s p.E p.f) p.B3,p.cnt))
  (out:=fun p=>(kA .i64 p.x,Up p.k (.sl 2 p.s 0 p.n) p.ev (QV p.s p.E p.f) p.B3,p.cnt)) ⟨⟨c0,c1,c2,c3,c4,c5,c6,c7,c8,c9,c10,c11,c12,c13,c14,B1,R,w⟩,ev,B3,s,n,E,f,x,cnt⟩ ⟨hn,hx⟩ (by
  rintro ⟨k,ev',B3',s',n',E',f',x',cnt'⟩ ⟨_,hx'⟩ h
  simp only [lx40,lx96,Az] at h hx'
  obtain ⟨_,h2,h3⟩:=h
  obtain ⟨rfl,g1,rfl,g2,rfl⟩:=T7 h2
  simp only [AV.sl.injEq,Du,Nat.add_right_cancel_iff] at g1
  obtain ⟨rfl,rfl⟩:=g1
  obtain ⟨_,rfl,rfl⟩:=OO g2
  rw [hx] at hx'
  obtain rfl:=Bt (Option.some.inj hx')
  obtain rfl:=h3
  rfl) :)
theorem Bbo:M8 Tryz.prog 228 f228:=G6 <| by
 rintro ⟨⟨c0,c1,c2,c3,c4,c5,c6,c7,c8,c9,c10,c11,c12,c13,c14,B1,R,w⟩,ev,B3,s,n,E,f,x,cnt⟩ ⟨hq,hx⟩
 simp only at hq hx
 have w1:IntKind.i64.wrap (((n+1:Nat):Int) - 1)=(n:Int):=Ay
 have h1:decide ((n:Int) < ((n+1:Nat):Int))=true:=Ae
 have h2:decide ((n:Int)≤((n+1:Nat):Int))=true:=Ae
 refine Ag (Aj (lit:=true) (pm:=fun _=>none) .nil .nil .nil .nil) rfl Tryz.func228 rfl (by decide) (by kernel_rfl) ?_
 simp only [Tryz.f228,Af,lx53,lx63,Nat.reduceAdd,Nat.reduceSub,List.replicate]
 simp only [Up,QV]
 exact Aob
structure Pe where
 k:Mk0
 sv:AV
 B2:Blk
 s:Nat
 n:Nat
 E:List AV
 f:Bool
 i:In
 b:Int
 c:Int
 cnt:Nat
def eB:ByteArray:=⟨#[]⟩
noncomputable def f231:=Xz (fun p:Pe=>p.n≤100000) (fun p=>([.pt 0 p.k.w 0 0,BY p.i,kA .i64 p.b,kA .i64 p.c],Up p.k p.sv (.sl 3 p.s 0 p.n) p.B2 ⟨true,p.s,73,5,p.E,p.f⟩,p.cnt))
 (fun p=>(.tu [],Up p.k p.sv (.sl 3 (p.cnt+2) 0 (p.n+1)) p.B2 ⟨true,p.cnt+2,73,5,p.E.take p.n++[C6 ⟨p.i.op,p.i.a,p.b,p.c,eB⟩],false⟩,p.cnt+3))
theorem Bgj (c0 c1 c2 c3 c4 c5 c6 c7 c8 c9 c10 c11 c12 c13 c14:AV) (B1:Blk) (R:List Blk) (w:Nat) (sv:AV) (B2:Blk) (s n:Nat) (E:List AV) (f:Bool) (op a b c:Int) (cnt:Nat) (hn:n≤100000):
  f231 [.pt 0 w 0 0,.ag [.sc (.int .i64 op),.sc (.int .i64 a)],.sc (.int .i64 b),.sc (.int .i64 c)] (⟨true,w,253,17,[.ag [c0,c1,c2,c3,c4,c5,c6,c7,c8,c9,c10,c11,c12,c13,c14,sv,.sl 3 s 0 n]],false⟩::B1::B2::⟨true,s,73,5,E,f⟩::R) cnt=
   some (.tu [],⟨true,w,253,17,[.ag [c0,c1,c2,c3,c4,c5,c6,c7,c8,c9,c10,c11,c12,c13,c14,sv,.sl 3 (cnt+2) 0 (n+1)]],false⟩::B1::B2::⟨true,cnt+2,73,5,E.take n++[.ag [.sc (.int .i64 op),.sc (.int .i64 a),.sc (.int .i64 b),.sc (.int .i64 c),.sc (.string eB)]],false⟩::R,cnt+3):=
 (G5 (q:=fun p:Pe=>p.n≤100000) (enc:=fun p=>([.pt 0 p.k.w 0 0,BY p.i,kA .i64 p.b,kA .i64 p.c],Up p.k p.sv (.sl 3 p.s 0 p.n) p.B2 ⟨true,p.s,73,5,p.E,p.f⟩,p.cnt))
  (out:=fun p=>(.tu [],Up p.k p.sv (.sl 3 (p.cnt+2) 0 (p.n+1)) p.B2 ⟨true,p.cnt+2,73,5,p.E.take p.n++[C6 ⟨p.i.op,p.i.a,p.b,p.c,eB⟩],false⟩,p.cnt+3)) ⟨⟨c0,c1,c2,c3,c4,c5,c6,c7,c8,c9,c10,c11,c12,c13,c14,B1,R,w⟩,sv,B2,s,n,E,f,⟨op,a⟩,b,c,cnt⟩ hn (by
  rintro ⟨k,sv',B2',s',n',E',f',i',b',c',cnt'⟩ _ h
  simp only [lx40,lx96,Az] at h
  obtain ⟨⟨_,h1,h4,h5⟩,h2,h3⟩:=h
  obtain ⟨rfl,rfl,g1,rfl,g2⟩:=T7 h2
  simp only [AV.sl.injEq,Du] at g1
  obtain ⟨rfl,rfl⟩:=g1
  simp only [Blk.mk.injEq,Du] at g2
  obtain ⟨rfl,rfl⟩:=g2
  obtain rfl:=OJ h1
  obtain rfl:=Bt h4
  obtain rfl:=Bt h5
  obtain rfl:=h3
  rfl) :)
theorem Bbp:M8 Tryz.prog 231 f231:=G6 <| by
 rintro ⟨⟨c0,c1,c2,c3,c4,c5,c6,c7,c8,c9,c10,c11,c12,c13,c14,B1,R,w⟩,sv,B2,s,n,E,f,⟨op,a⟩,b,c,cnt⟩ hq
 simp only at hq
 have hz:decide ((n+1) * 48≤140737488355328)=true:=Ae
 refine Ag (Aj (lit:=true) (pm:=fun _=>none) .nil .nil .nil .nil) rfl Tryz.func231 rfl (by decide) (by kernel_rfl) ?_
 simp only [Tryz.f231,Af,lx53,lx63,Nat.reduceAdd,Nat.reduceSub,List.replicate]
 simp only [Up,eB]
 exact Awc
structure Rk0 where
 c0:AV
 c1:AV
 c2:AV
 c3:AV
 c4:AV
 c5:AV
 c6:AV
 c7:AV
 c8:AV
 c9:AV
 c10:AV
 c11:AV
 c12:AV
 c13:AV
 c14:AV
 c15:AV
 c16:AV
 B1:Blk
 R:List Blk
 w:Nat
def Uq (k:Rk0) (sv ev:AV) (B2 B3:Blk):List Blk:=⟨true,k.w,269,19,[.ag [k.c0,k.c1,k.c2,k.c3,k.c4,k.c5,k.c6,k.c7,k.c8,k.c9,k.c10,k.c11,k.c12,k.c13,sv,ev,k.c14,k.c15,k.c16]],false⟩::k.B1::B2::B3::k.R
theorem T8 {k k':Rk0} {sv ev sv' ev':AV} {B2 B3 B2' B3':Blk} (h:Uq k sv ev B2 B3=Uq k' sv' ev' B2' B3'):k=k'∧sv=sv'∧ev=ev'∧B2=B2'∧B3=B3':=by
 cases k; cases k'
 simp only [Uq,lx96,Blk.mk.injEq,AV.ag.injEq,Az,Du] at h
 simp_all
structure Ptr where
 k:Rk0
 ev:AV
 B3:Blk
 s:Nat
 n:Nat
 E:List AV
 f:Bool
 x:Int
 cnt:Nat
noncomputable def f241:=Xz (fun p:Ptr=>p.n≤100000) (fun p=>([.pt 0 p.k.w 0 0,kA .i64 p.x],Uq p.k (.sl 2 p.s 0 p.n) p.ev (QV p.s p.E p.f) p.B3,p.cnt))
 (fun p=>(.tu [],Uq p.k (.sl 2 (p.cnt+1) 0 (p.n+1)) p.ev (QV (p.cnt+1) (p.E.take p.n++[kA .i64 p.x]) false) p.B3,p.cnt+2))
theorem Bgk (c0 c1 c2 c3 c4 c5 c6 c7 c8 c9 c10 c11 c12 c13 c14 c15 c16:AV) (B1:Blk) (R:List Blk) (w:Nat) (ev:AV) (B3:Blk) (s n:Nat) (E:List AV) (f:Bool) (x:Int) (cnt:Nat) (hn:n≤100000):
  f241 [.pt 0 w 0 0,.sc (.int .i64 x)] (⟨true,w,269,19,[.ag [c0,c1,c2,c3,c4,c5,c6,c7,c8,c9,c10,c11,c12,c13,.sl 2 s 0 n,ev,c14,c15,c16]],false⟩::B1::⟨true,s,3,1,E,f⟩::B3::R) cnt=
   some (.tu [],⟨true,w,269,19,[.ag [c0,c1,c2,c3,c4,c5,c6,c7,c8,c9,c10,c11,c12,c13,.sl 2 (cnt+1) 0 (n+1),ev,c14,c15,c16]],false⟩::B1::⟨true,cnt+1,3,1,E.take n++[.sc (.int .i64 x)],false⟩::B3::R,cnt+2):=
 (G5 (q:=fun p:Ptr=>p.n≤100000) (enc:=fun p=>([.pt 0 p.k.w 0 0,kA .i64 p.x],Uq p.k (.sl 2 p.s 0 p.n) p.ev (QV p.s p.E p.f) p.B3,p.cnt))
  (out:=fun p=>(.tu [],Uq p.k (.sl 2 (p.cnt+1) 0 (p.n+1)) p.ev (QV (p.cnt+1) (p.E.take p.n++[kA .i64 p.x]) false) p.B3,p.cnt+2)) ⟨⟨c0,c1,c2,c3,c4,c5,c6,c7,c8,c9,c10,c11,c12,c13,c14,c15,c16,B1,R,w⟩,ev,B3,s,n,E,f,x,cnt⟩ hn (by
  rintro ⟨k,ev',B3',s',n',E',f',x',cnt'⟩ _ h
  simp only [lx40,lx96,Az] at h
  obtain ⟨⟨_,h1⟩,h2,h3⟩:=h
  obtain ⟨rfl,g1,rfl,g2,rfl⟩:=T8 h2
  simp only [AV.sl.injEq,Du] at g1
  obtain ⟨rfl,rfl⟩:=g1
  obtain ⟨_,rfl,rfl⟩:=OO g2
  obtain rfl:=Bt h1
  obtain rfl:=h3
  rfl) :)
theorem Bbq:M8 Tryz.prog 241 f241:=G6 <| by
 rintro ⟨⟨c0,c1,c2,c3,c4,c5,c6,c7,c8,c9,c10,c11,c12,c13,c14,c15,c16,B1,R,w⟩,ev,B3,s,n,E,f,x,cnt⟩ hq
 simp only at hq
 have hz:decide ((n+1) * 8≤140737488355328)=true:=Ae
 refine Ag (Aj (lit:=true) (pm:=fun _=>none) .nil .nil .nil .nil) rfl Tryz.func241 rfl (by decide) (by kernel_rfl) ?_
 simp only [Tryz.f241,Af,lx53,lx63,Nat.reduceAdd,Nat.reduceSub,List.replicate]
 simp only [Uq,QV]
 refine Ab ?_
 refine It (a2 hz @Ca) ?_
 exact .refl _
structure Tkr where
 k:Rk0
 ev:AV
 B3:Blk
 s:Nat
 n:Nat
 E:List AV
 f:Bool
 x:Int
 cnt:Nat
def tkR (p:Tkr):Prop:=p.n≤100000∧p.E[p.n]?=some (kA .i64 p.x)
noncomputable def f242:=Xz tkR (fun p=>([.pt 0 p.k.w 0 0],Uq p.k (.sl 2 p.s 0 (p.n+1)) p.ev (QV p.s p.E p.f) p.B3,p.cnt))
 (fun p=>(kA .i64 p.x,Uq p.k (.sl 2 p.s 0 p.n) p.ev (QV p.s p.E p.f) p.B3,p.cnt))
theorem An5 (c0 c1 c2 c3 c4 c5 c6 c7 c8 c9 c10 c11 c12 c13 c14 c15 c16:AV) (B1:Blk) (R:List Blk) (w:Nat) (ev:AV) (B3:Blk) (s n:Nat) (E:List AV) (f:Bool) (x:Int) (cnt:Nat) (hn:n≤100000) (hx:E[n]?=some (.sc (.int .i64 x))):
  f242 [.pt 0 w 0 0] (⟨true,w,269,19,[.ag [c0,c1,c2,c3,c4,c5,c6,c7,c8,c9,c10,c11,c12,c13,.sl 2 s 0 (n+1),ev,c14,c15,c16]],false⟩::B1::⟨true,s,3,1,E,f⟩::B3::R) cnt=
   some (.sc (.int .i64 x),⟨true,w,269,19,[.ag [c0,c1,c2,c3,c4,c5,c6,c7,c8,c9,c10,c11,c12,c13,.sl 2 s 0 n,ev,c14,c15,c16]],false⟩::B1::⟨true,s,3,1,E,f⟩::B3::R,cnt):=
 (G5 (q:=tkR) (enc:=fun p=>([.pt 0 p.k.w 0 0],Uq p.k (.sl 2 p.s 0 (p.n+1)) p.ev (QV p.s p.E p.f) p.B3,p.cnt))
  (out:=fun p=>(kA .i64 p.x,Uq p.k (.sl 2 p.s 0 p.n) p.ev (QV p.s p.E p.f) p.B3,p.cnt)) ⟨⟨c0,c1,c2,c3,c4,c5,c6,c7,c8,c9,c10,c11,c12,c13,c14,c15,c16,B1,R,w⟩,ev,B3,s,n,E,f,x,cnt⟩ ⟨hn,hx⟩ (by
  rintro ⟨k,ev',B3',s',n',E',f',x',cnt'⟩ ⟨_,hx'⟩ h
  simp only [lx40,lx96,Az] at h hx'
  obtain ⟨_,h2,h3⟩:=h
  obtain ⟨rfl,g1,rfl,g2,rfl⟩:=T8 h2
  simp only [AV.sl.injEq,Du,Nat.add_right_cancel_iff] at g1
  obtain ⟨rfl,rfl⟩:=g1
  obtain ⟨_,rfl,rfl⟩:=OO g2
  rw [hx] at hx'
  obtain rfl:=Bt (Option.some.inj hx')
  obtain rfl:=h3
  rfl) :)
theorem Bbr:M8 Tryz.prog 242 f242:=G6 <| by
 rintro ⟨⟨c0,c1,c2,c3,c4,c5,c6,c7,c8,c9,c10,c11,c12,c13,c14,c15,c16,B1,R,w⟩,ev,B3,s,n,E,f,x,cnt⟩ ⟨hq,hx⟩
 simp only at hq hx
 have w1:IntKind.i64.wrap (((n+1:Nat):Int) - 1)=(n:Int):=Ay
 have h1:decide ((n:Int) < ((n+1:Nat):Int))=true:=Ae
 have h2:decide ((n:Int)≤((n+1:Nat):Int))=true:=Ae
 refine Ag (Aj (lit:=true) (pm:=fun _=>none) .nil .nil .nil .nil) rfl Tryz.func242 rfl (by decide) (by kernel_rfl) ?_
 simp only [Tryz.f242,Af,lx53,lx63,Nat.reduceAdd,Nat.reduceSub,List.replicate]
 simp only [Uq,QV]
 exact Aob
structure Per where
 k:Rk0
 sv:AV
 B2:Blk
 s:Nat
 n:Nat
 E:List AV
 f:Bool
 x:Ef
 cnt:Nat
noncomputable def f245:=Xz (fun p:Per=>p.n≤100000) (fun p=>([.pt 0 p.k.w 0 0,C6 p.x],Uq p.k p.sv (.sl 3 p.s 0 p.n) p.B2 ⟨true,p.s,73,5,p.E,p.f⟩,p.cnt))
 (fun p=>(.tu [],Uq p.k p.sv (.sl 3 (p.cnt+2) 0 (p.n+1)) p.B2 ⟨true,p.cnt+2,73,5,p.E.take p.n++[C6 p.x],false⟩,p.cnt+3))
theorem Bgl (c0 c1 c2 c3 c4 c5 c6 c7 c8 c9 c10 c11 c12 c13 c14 c15 c16:AV) (B1:Blk) (R:List Blk) (w:Nat) (sv:AV) (B2:Blk) (s n:Nat) (E:List AV) (f:Bool) (op a b c:Int) (t:ByteArray) (cnt:Nat) (hn:n≤100000):
  f245 [.pt 0 w 0 0,.ag [.sc (.int .i64 op),.sc (.int .i64 a),.sc (.int .i64 b),.sc (.int .i64 c),.sc (.string t)]] (⟨true,w,269,19,[.ag [c0,c1,c2,c3,c4,c5,c6,c7,c8,c9,c10,c11,c12,c13,sv,.sl 3 s 0 n,c14,c15,c16]],false⟩::B1::B2::⟨true,s,73,5,E,f⟩::R) cnt=
   some (.tu [],⟨true,w,269,19,[.ag [c0,c1,c2,c3,c4,c5,c6,c7,c8,c9,c10,c11,c12,c13,sv,.sl 3 (cnt+2) 0 (n+1),c14,c15,c16]],false⟩::B1::B2::⟨true,cnt+2,73,5,E.take n++[.ag [.sc (.int .i64 op),.sc (.int .i64 a),.sc (.int .i64 b),.sc (.int .i64 c),(.sc (.string t))]],false⟩::R,cnt+3):=
 (G5 (q:=fun p:Per=>p.n≤100000) (enc:=fun p=>([.pt 0 p.k.w 0 0,C6 p.x],Uq p.k p.sv (.sl 3 p.s 0 p.n) p.B2 ⟨true,p.s,73,5,p.E,p.f⟩,p.cnt))
  (out:=fun p=>(.tu [],Uq p.k p.sv (.sl 3 (p.cnt+2) 0 (p.n+1)) p.B2 ⟨true,p.cnt+2,73,5,p.E.take p.n++[C6 p.x],false⟩,p.cnt+3)) ⟨⟨c0,c1,c2,c3,c4,c5,c6,c7,c8,c9,c10,c11,c12,c13,c14,c15,c16,B1,R,w⟩,sv,B2,s,n,E,f,⟨op,a,b,c,t⟩,cnt⟩ hn (by
  rintro ⟨k,sv',B2',s',n',E',f',x',cnt'⟩ _ h
  simp only [lx40,lx96,Az] at h
  obtain ⟨⟨_,h1⟩,h2,h3⟩:=h
  obtain ⟨rfl,rfl,g1,rfl,g2⟩:=T8 h2
  simp only [AV.sl.injEq,Du] at g1
  obtain ⟨rfl,rfl⟩:=g1
  simp only [Blk.mk.injEq,Du] at g2
  obtain ⟨rfl,rfl⟩:=g2
  obtain rfl:=MC h1
  obtain rfl:=h3
  rfl) :)
theorem Bbs:M8 Tryz.prog 245 f245:=G6 <| by
 rintro ⟨⟨c0,c1,c2,c3,c4,c5,c6,c7,c8,c9,c10,c11,c12,c13,c14,c15,c16,B1,R,w⟩,sv,B2,s,n,E,f,⟨op,a,b,c,t⟩,cnt⟩ hq
 simp only at hq
 have hz:decide ((n+1) * 48≤140737488355328)=true:=Ae
 refine Ag (Aj (lit:=true) (pm:=fun _=>none) .nil .nil .nil .nil) rfl Tryz.func245 rfl (by decide) (by kernel_rfl) ?_
 simp only [Tryz.f245,Af,lx53,lx63,Nat.reduceAdd,Nat.reduceSub,List.replicate]
 simp only [Uq]
 exact Awc
end Go.Proofs.YtdjpkhjaibdogaaGreat
