/-
  Lemmas towards ModesHandles (joined texts: EB, EC).
  Conditions: none.
-/
import Derived.Test.YtdjpkhjaibdogaaGreatM01
import Derived.Test.YtdjpkhjaibdogaaGreatM30
set_option linter.unusedSimpArgs false
set_option linter.unusedVariables false
set_option maxRecDepth 100000
set_option maxHeartbeats 8000000
namespace Go.Proofs.YtdjpkhjaibdogaaGreat
open Go Go.SX
attribute [local congr] ite_congr
def tLf (t:Tp) (k a:Nat):List In × Nat:=
 if k=1 then ((AI t 1 a).1++[⟨15,0⟩],(AI t 1 a).2)
 else if k=2 then ([⟨16+(Dc t a 3:Nat),(Dc t (Ck t a) 32:Nat)⟩],Ck t (Ck t a))
 else if k=3 then ((AI t 0 a).1++[⟨19,(Dc t (AI t 0 a).2 64:Nat)⟩],Ck t (AI t 0 a).2)
 else if k=4 then ((AI t 0 a).1++(AI t 0 (AI t 0 a).2).1++[⟨20,(Dc t (AI t 0 (AI t 0 a).2).2 64:Nat)⟩],Ck t (AI t 0 (AI t 0 a).2).2)
 else if k=5 then ((AI t 1 a).1++[⟨21,(Dc t (AI t 1 a).2 2:Nat)⟩],Ck t (AI t 1 a).2)
 else if k=6 then ([⟨22,(Dc t a 2:Nat)⟩],Ck t a)
 else if k=7 then ([⟨23+(Dc t a 2:Nat),(Dc t (Ck t a) 2:Nat)⟩],Ck t (Ck t a))
 else if k=8 then ([⟨25,(Dc t a 2:Nat)⟩],Ck t a)
 else if k=9 then ([⟨26+(Dc t a 3:Nat),(Dc t (Ck t a) 64:Nat)⟩],Ck t (Ck t a))
 else if k=10 then ((AI t 1 a).1++[⟨29,(Dc t (AI t 1 a).2 2:Nat)⟩],Ck t (AI t 1 a).2)
 else if k=11 then ([⟨30,0⟩],a)
 else ((AI t 2 a).1++[⟨3,(Dc t (AI t 2 a).2 3:Nat)⟩],Ck t (AI t 2 a).2)
def CP (t:Tp):Nat→Nat→Nat→List In × Nat
 | 0,base,a=>tLf t (if 11 < Dc t a 15 then 0 else Dc t a 15) (Ck t a)
 | d+1,base,a=>
  if Dc t a 15=12 then
   let x:=AI t 1 (Ck t a)
   let y:=CP t d (base+x.1.length+1) x.2
   (x.1++[⟨13,((base+x.1.length+1+y.1.length:Nat):Int)⟩]++y.1,y.2)
  else if Dc t a 15=13∨Dc t a 15=14 then
   let x:=AI t 0 (Ck t a)
   let y:=CP t d (base+x.1.length+1) x.2
   (x.1++[⟨14,((base+x.1.length+2+y.1.length:Nat):Int)⟩]++y.1++[⟨12,((base+x.1.length:Nat):Int)⟩],y.2)
  else tLf t (Dc t a 15) (Ck t a)
theorem Ez {α:Type} {c:Prop} [Decidable c] {x y:α} {p:α→Prop} (h1:p x) (h2:p y):p (if c then x else y):=by split <;> assumption
theorem Aj3 {t:Tp} (ht:TpOk t) (k:Nat) {a:Nat} (h:a≤200):(tLf t k a).2≤200:=by
 unfold tLf
 refine Ez (p:=fun x:List In × Nat=>x.2≤200) ?_ (Ez (p:=fun x:List In × Nat=>x.2≤200) ?_ (Ez (p:=fun x:List In × Nat=>x.2≤200) ?_ (Ez (p:=fun x:List In × Nat=>x.2≤200) ?_ (Ez (p:=fun x:List In × Nat=>x.2≤200) ?_ (Ez (p:=fun x:List In × Nat=>x.2≤200) ?_ (Ez (p:=fun x:List In × Nat=>x.2≤200) ?_ (Ez (p:=fun x:List In × Nat=>x.2≤200) ?_ (Ez (p:=fun x:List In × Nat=>x.2≤200) ?_ (Ez (p:=fun x:List In × Nat=>x.2≤200) ?_ (Ez (p:=fun x:List In × Nat=>x.2≤200) ?_ ?_))))))))))
 all_goals dsimp only
 all_goals first | exact h | exact BW ht h | exact BW ht (BW ht h) | exact C9 (a:=a) ht 1 h | exact BW ht (C9 (a:=a) ht 0 h) | exact BW ht (C9 (a:=a) ht 1 h) | exact BW ht (C9 (a:=a) ht 2 h) | exact BW ht (C9 (a:=(AI t 0 a).2) ht 0 (C9 (a:=a) ht 0 h))
theorem Abo (t:Tp) (k a:Nat):(tLf t k a).1.length≤8:=by
 have h0:=CW t 0 a
 have h1:=CW t 1 a
 have h2:=CW t 2 a
 have h3:=CW t 0 (AI t 0 a).2
 unfold tLf
 refine Ez (p:=fun x:List In × Nat=>x.1.length≤8) ?_ (Ez (p:=fun x:List In × Nat=>x.1.length≤8) ?_ (Ez (p:=fun x:List In × Nat=>x.1.length≤8) ?_ (Ez (p:=fun x:List In × Nat=>x.1.length≤8) ?_ (Ez (p:=fun x:List In × Nat=>x.1.length≤8) ?_ (Ez (p:=fun x:List In × Nat=>x.1.length≤8) ?_ (Ez (p:=fun x:List In × Nat=>x.1.length≤8) ?_ (Ez (p:=fun x:List In × Nat=>x.1.length≤8) ?_ (Ez (p:=fun x:List In × Nat=>x.1.length≤8) ?_ (Ez (p:=fun x:List In × Nat=>x.1.length≤8) ?_ (Ez (p:=fun x:List In × Nat=>x.1.length≤8) ?_ ?_))))))))))
 all_goals simp only [lx5,lx53,lx63]
 all_goals omega
theorem OP {t:Tp} (ht:TpOk t):∀ (d base:Nat) {a:Nat},a≤200→(CP t d base a).2≤200
 | 0,base,a,h=>Aj3 ht _ (BW ht h)
 | d+1,base,a,h=>by
  rw [CP]
  split
  ·exact OP ht d _ (C9 (a:=Ck t a) ht 1 (BW ht h))
  ·split
   ·exact OP ht d _ (C9 (a:=Ck t a) ht 0 (BW ht h))
   ·exact Aj3 ht _ (BW ht h)
theorem IW (t:Tp):∀ (d base a:Nat),(CP t d base a).1.length≤8+4 * d
 | 0,base,a=>Abo t _ _
 | d+1,base,a=>by
  have h0:=CW t 0 (Ck t a)
  have h1:=CW t 1 (Ck t a)
  rw [CP]
  split
  ·have:=IW t d (base+(AI t 1 (Ck t a)).1.length+1) (AI t 1 (Ck t a)).2
   exact Aki
  ·split
   ·have:=IW t d (base+(AI t 0 (Ck t a)).1.length+1) (AI t 0 (Ck t a)).2
    exact Aki
   ·have:=Abo t (Dc t a 15) (Ck t a)
    omega
def Jp (t:Tp) (base d a:Nat) (R:List Blk) (cnt:Nat) (X:List In × Nat):Prop:=
 ∃ P ver cnt',HSpec Tryz.prog 43 [.pt 0 t.v 0 0,.sc (.int .i64 (base:Int)),.sc (.int .i64 (d:Int))] (Oo t a::R) cnt (.sl (R.length+P.length+1) ver 0 X.1.length) (Oo t X.2::(R++(P++[QS ver X.1]))) cnt'
theorem sW {P:Prop} (h:P:=by
 refine Ag (Aj (lit:=false) (pm:=fun _=>none) .nil .nil .nil (.cons Ri (.cons Yu .nil))) rfl Tryz.func43 rfl (by decide) (by kernel_rfl) ?_
 refine qd6 ?_
 try cases c0
 all_goals refine Ab ?_
 all_goals simp (maxSteps:=10000000) +contextual -implicitDefEqProofs only [AX,AW,Ap,St.put,Ao,Al,DN,pl,Array.toList,lx6,lx7,↓reduceIte,reduceCtorEq,Nat.reduceAdd,Nat.reduceLeDiff,Nat.reduceEqDiff,Nat.reduceMul,Int.reduceEq,Int.reduceNe,Int.reduceLE,Int.reduceLT,ne_eq,Nat.reduceBEq,Nat.reduceLT,eq_self,CK,lx8,Dd,OI,Int.reduceToNat,Nat.reduceSub,Int.reduceAdd,Int.reduceMul,Int.reduceSub,CO,E5,hl,AA,AY,AK,Bw,CZ,norefs,AV.noref,Cn,CI,Int.reduceBNe,Int.reduceBEq,E0,E1,E2,E3,w9,hsz,hk1,htk,hma,At5,Cj,Fw,IV,QT,QU,Nq,sc0,sc1,dl1,dl2,dl3,lx4,lx5]
 all_goals first | exact MG _ _ _ _ _ _ _ _ rfl | exact .refl _ | exact Fo _ _ | skip
 all_goals done):P:=h
theorem sA {P:Prop} (h:P:=by
 obtain ⟨X,y⟩:=V
 simp only at hl1 E1 E2 ⊢
 obtain ⟨Q,hQ,hQl⟩:∃ Q,R++P=Q∧R.length+P.length=Q.length:=⟨_,rfl,by simp⟩
 rw [←lx4,hQ,hQl] at E1
 have hsz:decide ((X.length+1) * 16≤140737488355328)=true:=Ae
 have htk:List.take X.length (X.map BY)=X.map BY:=lx118 (by simp)
 have hma:∀ o v:Int,X.map BY++[.ag [.sc (.int .i64 o),.sc (.int .i64 v)]]=(X++[(⟨o,v⟩:In)]).map BY:=fun o v=>by rw [lx12]; rfl
 refine ⟨P,c1+1,c1+2,?_⟩
 rw [←lx4,hQ,hQl]
 refine Ag (Aj (lit:=false) (pm:=fun _=>none) .nil .nil .nil (.cons Ri (.cons Yu .nil))) rfl Tryz.func43 rfl (by decide) (by kernel_rfl) ?_
 refine qd6 ?_
 try cases c0
 all_goals refine Ab ?_
 all_goals simp (maxSteps:=10000000) +contextual -implicitDefEqProofs only [AX,AW,Ap,St.put,Ao,Al,DN,pl,Array.toList,lx6,lx7,↓reduceIte,reduceCtorEq,Nat.reduceAdd,Nat.reduceLeDiff,Nat.reduceEqDiff,Nat.reduceMul,Int.reduceEq,Int.reduceNe,Int.reduceLE,Int.reduceLT,ne_eq,Nat.reduceBEq,Nat.reduceLT,eq_self,CK,lx8,Dd,OI,Int.reduceToNat,Nat.reduceSub,Int.reduceAdd,Int.reduceMul,Int.reduceSub,CO,E5,hl,AA,AY,AK,Bw,CZ,norefs,AV.noref,Cn,CI,Int.reduceBNe,Int.reduceBEq,E0,E1,E2,hsz,hk1,htk,hma,Cj,Fw,IV,QT,QU,Nq,sc0,sc1,dl1,dl2,dl3,lx4,lx5]
 all_goals first | exact .refl _ | exact Fo _ _ | skip
 all_goals done):P:=h
theorem sB {P:Prop} (h:P:=by
 refine ⟨[],cnt,cnt+1,?_⟩
 simp only [lx64,lx63,JF]
 exact sW):P:=h
theorem QX (t:Tp) (ht:TpOk t) (base d a:Nat) (ha:a≤200) (R:List Blk) (cnt j k:Nat) (hk:Dc t a 15=k) (hj:j=k∧k≤11∨j=0∧11 < k∧d=0):Jp t base d a R cnt (tLf t j (Ck t a)):=by
 have hb:=BW ht ha
 have E0:=e42 t ht a 15 15 rfl (by omega) (by omega) ha R cnt
 rw [hk] at E0
 generalize Ck t a=b at hb E0 ⊢
 obtain ⟨c0,Cj⟩:∃ c0,decide ((d:Int)≤0)=c0:=⟨_,rfl⟩
 have n:=trivial
 obtain ⟨E1,E2,E3,w9,hsz,htk,hma,hk1⟩:True∧True∧True∧True∧True∧True∧True∧True:=⟨n,n,n,n,n,n,n,n⟩
 have w:∀ x:Int,0≤x∧x < 100→IntKind.i64.wrap x=x:=fun x h=>Ba (by omega) (by omega)
 have h2:=E7 (t:=t) (a:=b) (n:=2) (by omega)
 have h3:=E7 (t:=t) (a:=b) (n:=3) (by omega)
 have F:=fun y n (N:Int) h g h' h''=>e42 t ht y n N h g h' h''
 have G:=fun v V h (hv:v≤5)=>Ado t v b V h R cnt (Gj t ht v b hv hb R cnt)
 have L:=fun v=>CW t v b
 have M:=fun v=>C9 ht v hb
 have hb':=BW ht hb
 rcases hj with ⟨rfl,hk⟩ | ⟨rfl,h11,hd⟩
 rotate_left
 ·have hk1:decide ((11:Int) < (k:Int))=true:=by rw [AR]; omega
  obtain rfl:c0=true:=by rw [←Cj]; subst hd; rfl
  simp only [tLf,Nat.reduceEqDiff,↓reduceIte]
  exact Ao9
 have:j=0∨j=1∨j=2∨j=3∨j=4∨j=5∨j=6∨j=7∨j=8∨j=9∨j=10∨j=11:=Ai
 rcases this with rfl | rfl | rfl | rfl | rfl | rfl | rfl | rfl | rfl | rfl | rfl | rfl
 all_goals simp only [tLf,Nat.reduceEqDiff,↓reduceIte,Int.cast_ofNat_Int,Int.natCast_zero,Int.natCast_one] at E0 ⊢
 ·exact Ao9
 ·obtain ⟨P,ver,c1,E1⟩:=G 1 1 rfl (by omega)
  have hl1:=L 1
  have E2:=n
  generalize AI t 1 b=V at hl1 E1 E2 ⊢
  exact sA
 ·have E1:=F b 3 3 rfl (by omega) (by omega) hb
  have E2:=F (Ck t b) 32 32 rfl (by omega) (by omega) hb'
  have w9:=w (16+(Dc t b 3:Nat)) (by omega)
  exact sB
 ·obtain ⟨P,ver,c1,E1⟩:=G 0 0 rfl (by omega)
  have hl1:=L 0
  have E2:=F (AI t 0 b).2 64 64 rfl (by omega) (by omega) (M 0)
  generalize AI t 0 b=V at hl1 E1 E2 ⊢
  exact sA
 ·have hl1:=CW t 0 b
  have hx2:=C9 ht 0 hb
  have hl2:=CW t 0 (AI t 0 b).2
  have hx3:=C9 ht 0 hx2
  obtain ⟨P,ver,c1,E1⟩:=G 0 0 rfl (by omega)
  obtain ⟨Q,hQ,hQl⟩:∃ Q,R++P=Q∧R.length+P.length=Q.length:=⟨_,rfl,by simp⟩
  rw [←lx4,hQ,hQl] at E1
  obtain ⟨P2,ver2,c2,E2⟩:=Ado t 0 (AI t 0 b).2 0 rfl (Q++[⟨true,ver,102,2,(AI t 0 b).1.map BY,false⟩]) c1 (Gj t ht 0 _ (by omega) hx2 _ c1)
  have E3:=F (AI t 0 (AI t 0 b).2).2 64 64 rfl (by omega) (by omega) hx3
  generalize AI t 0 b=V at hl1 hl2 E1 E2 E3 ⊢
  obtain ⟨X,y⟩:=V
  simp only at hl1 hl2 E1 E2 E3 ⊢
  generalize AI t 0 y=V at hl2 E2 E3 ⊢
  obtain ⟨Y,u⟩:=V
  simp only at hl2 E2 E3 ⊢
  have hsz:decide ((X.length+Y.length) * 16≤140737488355328)=true:=Ae
  have hsz2:decide ((X.length+Y.length+1) * 16≤140737488355328)=true:=Ae
  have htk:List.take X.length (X.map BY)=X.map BY:=lx118 (by simp)
  have htk2:List.take Y.length (Y.map BY)=Y.map BY:=lx118 (by simp)
  have htk3:List.take (X.length+Y.length) (X.map BY++Y.map BY)=X.map BY++Y.map BY:=lx118 (by simp)
  have hma:X.map BY++(Y.map BY++[.ag [.sc (.int .i64 20),.sc (.int .i64 ((Dc t u 64:Nat):Int))]])=(X++(Y++[(⟨20,((Dc t u 64:Nat):Int)⟩:In)])).map BY:=by rw [lx12,lx12]; rfl
  refine Asq ?_
  refine Ag (Aj (lit:=false) (pm:=fun _=>none) .nil .nil .nil (.cons Ri (.cons Yu .nil))) rfl Tryz.func43 rfl (by decide) (by kernel_rfl) ?_
  refine qd6 ?_
  try cases c0
  all_goals refine Ab ?_
  all_goals simp (maxSteps:=10000000) +contextual -implicitDefEqProofs only [AX,AW,Ap,St.put,DN,↓reduceIte,Nat.reduceAdd,Nat.reduceLeDiff,Nat.reduceEqDiff,Nat.reduceMul,Int.reduceLT,Nat.reduceBEq,Nat.reduceLT,Dd,OI,Int.reduceAdd,Int.reduceMul,CO,E5,hl,Int.reduceBEq,E0,E1,E2,E3,hsz,hsz2,htk,htk2,htk3,hma,An1,An2,An3,dlP,AB,Cj,Fw,sc0,lx4,lx5]
  all_goals try exact ⟨.refl _,KN _ _ _ _⟩
  all_goals done
 ·exact Aoa
 ·have E1:=F b 2 2 rfl (by omega) (by omega) hb
  exact sB
 ·have E1:=F b 2 2 rfl (by omega) (by omega) hb
  have E2:=F (Ck t b) 2 2 rfl (by omega) (by omega) hb'
  have w9:=w (23+(Dc t b 2:Nat)) (by omega)
  exact sB
 ·have E1:=F b 2 2 rfl (by omega) (by omega) hb
  exact sB
 ·have E1:=F b 3 3 rfl (by omega) (by omega) hb
  have E2:=F (Ck t b) 64 64 rfl (by omega) (by omega) hb'
  have w9:=w (26+(Dc t b 3:Nat)) (by omega)
  exact sB
 ·exact Aoa
 ·exact sB
def D43 (args:List AV) (H:List Blk) (cnt:Nat) (r:AV) (H':List Blk) (cnt':Nat):Prop:=
 ∀ (t:Tp) (a d base:Nat) (R:List Blk),args=[.pt 0 t.v 0 0,.sc (.int .i64 (base:Int)),.sc (.int .i64 (d:Int))]→H=Oo t a::R→
  ∃ P ver,r=.sl (R.length+P.length+1) ver 0 (CP t d base a).1.length∧H'=Oo t (CP t d base a).2::(R++(P++[QS ver (CP t d base a).1]))
noncomputable def f43:=hF Tryz.prog 43 D43
theorem Bbv:M8 Tryz.prog 43 f43:=JC _ _ _
theorem Bbw (t:Tp) (d base a:Nat) (D:Int) (hD:D=(d:Int)) (R:List Blk) (cnt:Nat) (h:Jp t base d a R cnt (CP t d base a)):
  ∃ P ver cnt',f43 [.pt 0 t.v 0 0,.sc (.int .i64 (base:Int)),.sc (.int .i64 D)] (⟨true,t.v,96,2,[.ag [.vw t.z (t.l.map uA),.sc (.int .i64 (a:Int))]],false⟩::R) cnt=
   some (.sl (R.length+P.length+1) ver 0 (CP t d base a).1.length,⟨true,t.v,96,2,[.ag [.vw t.z (t.l.map uA),.sc (.int .i64 ((CP t d base a).2:Int))]],false⟩::(R++(P++[⟨true,ver,102,2,(CP t d base a).1.map BY,false⟩])),cnt'):=by
 subst hD
 obtain ⟨P,ver,c',h⟩:=h
 obtain ⟨r,H',c',e,d'⟩:=JD (D:=D43) h (by
  intro t' a' d' b' R' h1 h2
  simp only [lx96,Az,AV.sc.injEq,Value.int.injEq,Du] at h1 h2
  obtain ⟨⟨rfl,rfl⟩,rfl⟩:=And.intro (ON h2.1) h2.2
  obtain rfl:d=d':=Ai
  obtain rfl:base=b':=Ai
  exact ⟨P,ver,rfl,rfl⟩)
 obtain ⟨P,ver,rfl,rfl⟩:=d' t a d base R rfl rfl
 exact ⟨P,ver,c',e⟩
theorem Auk (t:Tp) (ht:TpOk t) (base d a:Nat) (ha:a≤200) (hd:d≤5) (hbs:base≤10000) (R:List Blk) (cnt:Nat) (hk:Dc t a 15=12) (ih:∀ (base' a:Nat) (_:base'≤base+100) (_:a≤200) (R:List Blk) (cnt:Nat),Jp t base' d a R cnt (CP t d base' a)):Jp t base (d+1) a R cnt (CP t (d+1) base a):=by
 have h1:CP t (d+1) base a=((AI t 1 (Ck t a)).1++[⟨13,((base+(AI t 1 (Ck t a)).1.length+1+(CP t d (base+(AI t 1 (Ck t a)).1.length+1) (AI t 1 (Ck t a)).2).1.length:Nat):Int)⟩]++(CP t d (base+(AI t 1 (Ck t a)).1.length+1) (AI t 1 (Ck t a)).2).1,(CP t d (base+(AI t 1 (Ck t a)).1.length+1) (AI t 1 (Ck t a)).2).2):=by
  rw [CP,hk,if_pos rfl]
 rw [h1]
 have hb:=BW ht ha
 have E0:=e42 t ht a 15 15 rfl (by omega) (by omega) ha R cnt
 rw [hk] at E0
 obtain ⟨b,hb'⟩:∃ b,Ck t a=b:=⟨_,rfl⟩
 rw [hb'] at hb E0 ⊢
 have hK:((12:Nat):Int)=12:=rfl
 rw [hK] at E0
 have c0:decide (((d+1:Nat):Int)≤0)=false:=HY
 have w0:IntKind.i64.wrap (((d+1:Nat):Int) - 1)=(d:Int):=Ay
 have hl1:=CW t 1 b
 have hx2:=C9 ht 1 hb
 obtain ⟨P,ver,c1,E1⟩:=Ado t 1 b 1 rfl R cnt (Gj t ht 1 b (by omega) hb R cnt)
 obtain ⟨Q,hQ,hQl⟩:∃ Q,R++P=Q∧R.length+P.length=Q.length:=⟨_,rfl,by simp⟩
 rw [←lx4,hQ,hQl] at E1
 obtain ⟨X,hX⟩:∃ X,(AI t 1 b).1=X:=⟨_,rfl⟩
 obtain ⟨y,hy⟩:∃ y,(AI t 1 b).2=y:=⟨_,rfl⟩
 rw [hX] at hl1
 rw [hy] at hx2
 simp only [hX,hy] at E1 ⊢
 have hX8:X.length≤8:=Ai
 have hl2:=IW t d (base+X.length+1) y
 obtain ⟨P2,ver2,c2,E2⟩:=Bbw t d (base+X.length+1) y (d:Int) rfl (Q++[⟨true,ver,102,2,X.map BY,false⟩]) c1 (ih _ _ (by omega) hx2 _ c1)
 obtain ⟨Y,hY⟩:∃ Y,(CP t d (base+X.length+1) y).1=Y:=⟨_,rfl⟩
 obtain ⟨u,hu⟩:∃ u,(CP t d (base+X.length+1) y).2=u:=⟨_,rfl⟩
 rw [hY] at hl2
 simp only [hY,hu] at E2 ⊢
 have w1:IntKind.i64.wrap ((base:Int)+(X.length:Int))=((base+X.length:Nat):Int):=Ay
 have w2:IntKind.i64.wrap (((base+X.length:Nat):Int)+1)=((base+X.length+1:Nat):Int):=Ay
 have w22:IntKind.i64.wrap (((base+X.length:Nat):Int)+2)=((base+X.length+2:Nat):Int):=Ay
 have w3:IntKind.i64.wrap (((base+X.length+1:Nat):Int)+(Y.length:Int))=((base+X.length+1+Y.length:Nat):Int):=Ay
 have w33:IntKind.i64.wrap (((base+X.length+2:Nat):Int)+(Y.length:Int))=((base+X.length+2+Y.length:Nat):Int):=Ay
 have hsz:decide ((X.length+1) * 16≤140737488355328)=true:=Ae
 have hsz2:decide ((X.length+1+Y.length) * 16≤140737488355328)=true:=Ae
 have hsz3:decide ((X.length+1+Y.length+1) * 16≤140737488355328)=true:=Ae
 have htk:List.take X.length (X.map BY)=X.map BY:=lx118 (by simp)
 have htk2:List.take Y.length (Y.map BY)=Y.map BY:=lx118 (by simp)
 have htk3:∀ i:AV,List.take (X.length+1) (X.map BY++[i])=X.map BY++[i]:=fun i=>lx118 (by simp)
 have htk4:∀ i:AV,List.take (X.length+1+Y.length) (X.map BY++i::Y.map BY)=X.map BY++i::Y.map BY:=fun i=>lx118 (by simp; omega)
 have hma:X.map BY++(AV.ag [.sc (.int .i64 13),.sc (.int .i64 ((base+X.length+1+Y.length:Nat):Int))]::Y.map BY)=(X++(⟨13,((base+X.length+1+Y.length:Nat):Int)⟩::Y)).map BY:=by simp [BY,kA]
 have hle:X.length+(Y.length+1)=X.length+1+Y.length:=Ai
 refine Asq ?_
 refine Ag (Aj (lit:=false) (pm:=fun _=>none) .nil .nil .nil (.cons Ri (.cons Yu (.cons Bbv .nil)))) rfl Tryz.func43 rfl (by decide) (by kernel_rfl) ?_
 refine qd6 ?_
 refine Ab ?_
 simp (maxSteps:=10000000) +contextual -implicitDefEqProofs only [AX,AW,Ap,St.put,DN,↓reduceIte,Nat.reduceAdd,Nat.reduceLeDiff,Nat.reduceEqDiff,Nat.reduceMul,Int.reduceLT,Nat.reduceBEq,Nat.reduceLT,Dd,OI,Int.reduceAdd,Int.reduceMul,CO,E5,hl,Int.reduceBEq,E0,E1,E2,c0,w0,w1,w2,w3,hsz,hsz2,htk,htk2,htk3,hma,hle,Fw,sc0,An1,An2,An3,dlP,AB,lx4,lx5]
 all_goals exact KN _ _ _ _
 all_goals done
theorem Aul (t:Tp) (ht:TpOk t) (base d a:Nat) (ha:a≤200) (hd:d≤5) (hbs:base≤10000) (R:List Blk) (cnt:Nat) (hk:Dc t a 15=13∨Dc t a 15=14) (ih:∀ (base' a:Nat) (_:base'≤base+100) (_:a≤200) (R:List Blk) (cnt:Nat),Jp t base' d a R cnt (CP t d base' a)):Jp t base (d+1) a R cnt (CP t (d+1) base a):=by
 have h1:CP t (d+1) base a=((AI t 0 (Ck t a)).1++[⟨14,((base+(AI t 0 (Ck t a)).1.length+2+(CP t d (base+(AI t 0 (Ck t a)).1.length+1) (AI t 0 (Ck t a)).2).1.length:Nat):Int)⟩]++(CP t d (base+(AI t 0 (Ck t a)).1.length+1) (AI t 0 (Ck t a)).2).1++[⟨12,((base+(AI t 0 (Ck t a)).1.length:Nat):Int)⟩],(CP t d (base+(AI t 0 (Ck t a)).1.length+1) (AI t 0 (Ck t a)).2).2):=by
  rw [CP,if_neg (by omega),if_pos hk]
 rw [h1]
 have hb:=BW ht ha
 have E0:=e42 t ht a 15 15 rfl (by omega) (by omega) ha R cnt
 obtain ⟨b,hb'⟩:∃ b,Ck t a=b:=⟨_,rfl⟩
 rw [hb'] at hb E0 ⊢
 have c0:decide (((d+1:Nat):Int)≤0)=false:=HY
 have w0:IntKind.i64.wrap (((d+1:Nat):Int) - 1)=(d:Int):=Ay
 have hl1:=CW t 0 b
 have hx2:=C9 ht 0 hb
 obtain ⟨P,ver,c1,E1⟩:=Ado t 0 b 0 rfl R cnt (Gj t ht 0 b (by omega) hb R cnt)
 obtain ⟨Q,hQ,hQl⟩:∃ Q,R++P=Q∧R.length+P.length=Q.length:=⟨_,rfl,by simp⟩
 rw [←lx4,hQ,hQl] at E1
 obtain ⟨X,hX⟩:∃ X,(AI t 0 b).1=X:=⟨_,rfl⟩
 obtain ⟨y,hy⟩:∃ y,(AI t 0 b).2=y:=⟨_,rfl⟩
 rw [hX] at hl1
 rw [hy] at hx2
 simp only [hX,hy] at E1 ⊢
 have hX8:X.length≤8:=Ai
 have hl2:=IW t d (base+X.length+1) y
 obtain ⟨P2,ver2,c2,E2⟩:=Bbw t d (base+X.length+1) y (d:Int) rfl (Q++[⟨true,ver,102,2,X.map BY,false⟩]) c1 (ih _ _ (by omega) hx2 _ c1)
 obtain ⟨Y,hY⟩:∃ Y,(CP t d (base+X.length+1) y).1=Y:=⟨_,rfl⟩
 obtain ⟨u,hu⟩:∃ u,(CP t d (base+X.length+1) y).2=u:=⟨_,rfl⟩
 rw [hY] at hl2
 simp only [hY,hu] at E2 ⊢
 have w1:IntKind.i64.wrap ((base:Int)+(X.length:Int))=((base+X.length:Nat):Int):=Ay
 have w2:IntKind.i64.wrap (((base+X.length:Nat):Int)+1)=((base+X.length+1:Nat):Int):=Ay
 have w22:IntKind.i64.wrap (((base+X.length:Nat):Int)+2)=((base+X.length+2:Nat):Int):=Ay
 have w3:IntKind.i64.wrap (((base+X.length+1:Nat):Int)+(Y.length:Int))=((base+X.length+1+Y.length:Nat):Int):=Ay
 have w33:IntKind.i64.wrap (((base+X.length+2:Nat):Int)+(Y.length:Int))=((base+X.length+2+Y.length:Nat):Int):=Ay
 have hsz:decide ((X.length+1) * 16≤140737488355328)=true:=Ae
 have hsz2:decide ((X.length+1+Y.length) * 16≤140737488355328)=true:=Ae
 have hsz3:decide ((X.length+1+Y.length+1) * 16≤140737488355328)=true:=Ae
 have htk:List.take X.length (X.map BY)=X.map BY:=lx118 (by simp)
 have htk2:List.take Y.length (Y.map BY)=Y.map BY:=lx118 (by simp)
 have htk3:∀ i:AV,List.take (X.length+1) (X.map BY++[i])=X.map BY++[i]:=fun i=>lx118 (by simp)
 have htk4:∀ i:AV,List.take (X.length+1+Y.length) (X.map BY++i::Y.map BY)=X.map BY++i::Y.map BY:=fun i=>lx118 (by simp; omega)
 have hma:X.map BY++(AV.ag [.sc (.int .i64 14),.sc (.int .i64 ((base+X.length+2+Y.length:Nat):Int))]::(Y.map BY++[AV.ag [.sc (.int .i64 12),.sc (.int .i64 ((base+X.length:Nat):Int))]]))=(X++(⟨14,((base+X.length+2+Y.length:Nat):Int)⟩::(Y++[(⟨12,((base+X.length:Nat):Int)⟩:In)]))).map BY:=by simp [BY,kA]
 have hle:X.length+(Y.length+1+1)=X.length+1+Y.length+1:=Ai
 refine ⟨P,c2+4,c2+5,?_⟩
 rw [←lx4 R P,hQ,hQl]
 refine Ag (Aj (lit:=false) (pm:=fun _=>none) .nil .nil .nil (.cons Ri (.cons Yu (.cons Bbv .nil)))) rfl Tryz.func43 rfl (by decide) (by kernel_rfl) ?_
 refine qd6 ?_
 rcases hk with hk | hk
 all_goals simp only [hk,Int.cast_ofNat_Int] at E0
 all_goals refine Ab ?_
 all_goals simp (maxSteps:=10000000) +contextual -implicitDefEqProofs only [AX,AW,Ap,St.put,DN,↓reduceIte,Nat.reduceAdd,Nat.reduceLeDiff,Nat.reduceEqDiff,Nat.reduceMul,Int.reduceLT,Nat.reduceBEq,Nat.reduceLT,Dd,OI,Int.reduceAdd,Int.reduceMul,CO,E5,hl,Int.reduceBEq,E0,E1,E2,c0,w0,w1,w2,w22,w33,hsz,hsz2,hsz3,htk,htk2,htk3,htk4,hma,hle,Fw,sc0,An1,An2,An3,dlP,AB,lx4,lx5]
 all_goals exact KN _ _ _ _
 all_goals done
theorem SQ (t:Tp) (ht:TpOk t):∀ (d base a:Nat) (_:d≤5) (_:base+100 * d≤10000) (_:a≤200) (R:List Blk) (cnt:Nat),Jp t base d a R cnt (CP t d base a)
 | 0,base,a,hd,hbs,ha,R,cnt=>by
  have hk:Dc t a 15 < 15:=E7 (by omega)
  by_cases h:Dc t a 15≤11
  ·have:=QX t ht base 0 a ha R cnt _ _ rfl (.inl ⟨rfl,h⟩)
   rw [CP,if_neg (by omega)]
   exact this
  ·rw [CP,if_pos (by omega)]
   exact QX t ht base 0 a ha R cnt 0 _ rfl (.inr ⟨rfl,by omega,rfl⟩)
 | d+1,base,a,hd,hbs,ha,R,cnt=>by
  have hk:Dc t a 15 < 15:=E7 (by omega)
  have ih:=SQ t ht d
  by_cases h:Dc t a 15≤11
  ·have:=QX t ht base (d+1) a ha R cnt _ _ rfl (.inl ⟨rfl,h⟩)
   rw [CP,if_neg (by omega),if_neg (by omega)]
   exact this
  ·have h3:Dc t a 15=12∨Dc t a 15=13∨Dc t a 15=14:=by omega
   rcases h3 with h3 | h3
   ·exact Auk t ht base d a ha (by omega) (by omega) R cnt h3 fun b x hb hx R c=>ih b x (by omega) (by omega) hx R c
   ·exact Aul t ht base d a ha (by omega) (by omega) R cnt h3 fun b x hb hx R c=>ih b x (by omega) (by omega) hx R c
end Go.Proofs.YtdjpkhjaibdogaaGreat
