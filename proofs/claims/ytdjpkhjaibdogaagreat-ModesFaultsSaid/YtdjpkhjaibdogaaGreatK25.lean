/-
  Lemmas towards ModesFaults (joined texts: BK, BL, BM, BN, CA).
  Conditions: none.
-/
import Derived.Test.YtdjpkhjaibdogaaGreatK01
import Derived.Test.YtdjpkhjaibdogaaGreatK02
import Derived.Test.YtdjpkhjaibdogaaGreatK24
import Derived.Test.YtdjpkhjaibdogaaGreatK18
set_option linter.unusedSimpArgs false
set_option linter.unusedVariables false
set_option maxRecDepth 100000
set_option maxHeartbeats 8000000
namespace Go.Proofs.YtdjpkhjaibdogaaGreat
open Go Go.SX
attribute [local congr] ite_congr
theorem D0 (E:Env) (s:St) (d:Option Nat) (want:Bool) (args:List AV) (g:AV):OS E s d want args g .un=gP s d want none g:=rfl
structure RcX where
 i:Int
 h:Int
 r:Rc
 b0:Blk
 e:Blk
 v1:Nat
 v2:Nat
 v3:Nat
 cnt:Nat
def rxQ (x:RcX):Prop:=0≤x.i∧x.r.n≤x.r.ws.length∧x.r.n≤1000000∧x.r.hs.length≤1000000
def rxE (x:RcX):List AV × List Blk × Nat:=([.sc (.int .i64 x.i),.sc (.int .i64 x.h),.pt 2 x.v2 0 0,.pt 3 x.v3 0 0],Nr x.b0 x.e x.v1 x.v2 x.v3 x.r,x.cnt)
noncomputable def rxO (x:RcX):AV × List Blk × Nat:=(.sc (.bool (Dn x.r x.i x.h x.cnt).1),Nr x.b0 x.e x.v1 x.v2 x.v3 (Dn x.r x.i x.h x.cnt).2,x.cnt+2)
theorem Alx {b0 e b0' e':Blk} {v1 v2 v3 v1' v2' v3':Nat} {r r':Rc} (h:Nr b0 e v1 v2 v3 r=Nr b0' e' v1' v2' v3' r'):b0=b0'∧e=e'∧v1=v1'∧v2=v2'∧v3=v3'∧r=r':=by
 obtain ⟨hs,ws,n,v⟩:=r
 obtain ⟨hs',ws',n',v'⟩:=r'
 simp only [Nr,lx96,Blk.mk.injEq,AV.sl.injEq,Ay,D3,HZ] at h
 obtain ⟨h1,⟨h2,h3⟩,⟨h4,h5⟩,⟨h6,h7,h8⟩,⟨h9,h10⟩,h11⟩:=h
 exact ⟨h1,h11,h2,h4,h6,by rw [h3,h8,h9,h10]⟩
noncomputable def f196:=mkH rxQ rxE rxO
theorem XG (i h:Int) (r:Rc) (b0 e:Blk) (v1 v2 v3 cnt:Nat) (hi:0≤i) (hn:r.n≤r.ws.length) (hLd:r.n≤1000000) (hl2:r.hs.length≤1000000):
  f196 [.sc (.int .i64 i),.sc (.int .i64 h),.pt 2 v2 0 0,.pt 3 v3 0 0] (Nr b0 e v1 v2 v3 r) cnt=some (.sc (.bool (Dn r i h cnt).1),Nr b0 e v1 v2 v3 (Dn r i h cnt).2,cnt+2):=
 Ir (q:=rxQ) (enc:=rxE) (out:=rxO) ⟨i,h,r,b0,e,v1,v2,v3,cnt⟩ ⟨hi,hn,hLd,hl2⟩ (by
  rintro ⟨i',h',r',b0',e',v1',v2',v3',cnt'⟩ - he
  simp only [rxE,lx40,lx96,AV.sc.injEq,Value.int.injEq,AV.pt.injEq,Ay,D3] at he
  obtain ⟨⟨a1,a2,a3,a4⟩,a5,a6⟩:=he
  obtain ⟨c1,c2,c3,c4,c5,c6⟩:=Alx a5
  subst a1 a2 c1 c2 c3 c4 c5 c6 a6
  rfl)
theorem Az3:Ql Tryz.prog 196 f196:=It fun x ⟨h1,h2,h3,h4⟩=>XF x.i x.h x.r x.b0 x.e x.v1 x.v2 x.v3 x.cnt h1 h2 h3 h4
theorem Aly {n k:Nat} (h:k < n):(List.replicate k (-1:Int)++List.replicate (n - k) 0).set k (-1)=List.replicate (k+1) (-1)++List.replicate (n - (k+1)) 0:=by
 obtain ⟨m,rfl⟩:∃ m,n=k+(m+1):=⟨n - k - 1,by omega⟩
 have e1:k+(m+1) - k=m+1:=Ah
 have e2:k+(m+1) - (k+1)=m:=Ah
 rw [e1,e2,List.replicate_succ (n:=m),lx119 _ _ (by simp)]
 simp only [List.length_replicate,K3,lx117]
 rw [List.replicate_succ',lx4]; rfl
theorem Tg (c:Cd) (hq:Fit c) (hLd:Lead c):Db Tryz.prog 146 [B5 c] (.tu [.jk,bA (I3 c)]):=by
 obtain ⟨q1,q2,q3,q4,q5,q6,q7,q8⟩:=hq
 have hq:Fit c:=⟨q1,q2,q3,q4,q5,q6,q7,q8⟩
 refine C2 (Am (lit:=false) (pm:=fun _=>none) (.cons Ayt .nil) .nil .nil (.cons Az3 .nil)) rfl Tryz.func146 rfl (by decide) (by kernel_rfl) (by simp [bA,AV.noref,norefs]) ?_
 simp only [Tryz.f146,Af,lx53,lx63,Nat.reduceAdd,Nat.reduceSub,List.replicate]
 have hsz:decide ((c.ins.length:Int) * 8≤140737488355328)=true:=Aj
 have hsz2:decide ((c.ins.length:Int)≤(c.ins.length:Int))=true:=Aj
 have g0:decide ((0:Int)≤(c.ins.length:Int))=true:=Aj
 refine Aa ?_
 refine Nw (a3 hsz hsz2 @Ac) ?_
 obtain ⟨n,hn⟩:∃ n,c.ins.length=n:=⟨_,rfl⟩
 simp only [hn] at hsz hsz2 g0 q1 ⊢
 refine Aw (σ:=Nat) (fun k cnt=>⟨Cg 0 150 [(1,.pt 0 0 0 0),(4,.pt 2 2 0 0),(20,.sl 1 1 0 n),(21,.sc (.int .i64 n)),(22,.sc (.int .i64 k))],
   [⟨true,0,36,7,[B5 c],false⟩,⟨true,1,3,1,(List.replicate k (-1)++List.replicate (n - k) 0).map (kA .i64),false⟩,⟨true,2,34,1,[.sl 1 1 0 n],false⟩],cnt⟩)
  (fun k=>k≤n) (fun k=>n - k) 0 (BX _) ?_ ?_ rfl ?_
 ·exact IZ
 ·simp (maxSteps:=10000000) only [Bk,Bg,AB,Ac,List.map_replicate]
 rintro k cnt hk ih
 by_cases hk':k < n
 ·exact Bcm
 obtain rfl:k=n:=Ah
 clear ih hk hk' hsz hsz2 g0
 have h1:decide ((k:Int) < (k:Int))=false:=Br
 rw [K3,List.replicate_zero,lx66]
 obtain ⟨R,hR⟩:∃ R,List.replicate k (-1:Int)=R:=⟨_,rfl⟩
 rw [hR]
 have hRl:R.length=k:=by rw [←hR]; simp
 refine Bdc ?_
 refine Ix (cnt+1) 3 1 (cnt+2) (by omega) (by omega) (Ct _ _ _) (H':=[⟨true,0,36,7,[B5 c],false⟩,⟨true,1,3,1,R.map (kA .i64),false⟩,⟨true,2,34,1,[.sl 1 1 0 k],false⟩,⟨true,cnt,34,1,[.sl 4 (cnt+1) 0 0],false⟩]) ?_ ?_
 ·refine ⟨.inl rfl,.inl rfl,.inl rfl,?_,trivial⟩
  refine Iy _ _ _ _ _ _ _ _ _ _ ⟨?_,trivial⟩
  exact .nil
 obtain ⟨v3,hv3⟩:∃ v3,cnt=v3:=⟨_,rfl⟩
 rw [hv3]
 refine Avy ?_
 have hst:=Ahl c (v3+1)
 rw [hn,hR] at hst
 refine Aw (σ:=Nat × Rc) (fun y cnt=>⟨Cg 0 150 [(1,.pt 0 0 0 0),(4,.pt 2 2 0 0),(6,.pt 3 v3 0 0),(7,.fn 196 [.pt 2 2 0 0,.pt 3 v3 0 0]),(31,.vw c.ze (c.ens.map DP)),(32,.sc (.int .i64 c.ens.length)),(33,.sc (.int .i64 y.1))],
   (Nr ⟨true,0,36,7,[B5 c],false⟩ dead 1 2 v3 y.2).take 5,cnt⟩)
  (fun y=>y.1≤c.ens.length∧HI c y.1 (-1) y.2) (fun y=>c.ens.length - y.1) (0,⟨R,[],0,v3+1⟩) ⟨BX _,hst⟩ ?_ ?_ rfl ?_
 ·exact IZ
 ·simp only [Nr]
  simp (maxSteps:=10000000) only [Bk,Bg,Ac,hRl]
 clear hst hR hRl hn q1
 rintro ⟨j,r⟩ cn ⟨hj,hI⟩ ih
 simp only at hj hI
 have hbd:=hI.mea
 have hnl:=hI.nle
 have hle:=hI.len
 have hins:=hq.ins
 by_cases hj':j < c.ens.length
 ·have h1:decide ((j:Int) < (c.ens.length:Int))=true:=by rw [AR]; omega
  have h2:decide (j < c.ens.length)=true:=Aj
  have w1:IntKind.i64.wrap ((j:Int)+1)=((j+1:Nat):Int):=AK
  have hm:=CM hj'
  have hne:=fun r2 h=>As8 (r:=r2) (k:=j) (c:=c) h hj'
  obtain ⟨x,hx⟩:∃ x,c.ens.getD j default=x:=⟨_,rfl⟩
  rw [hx] at hm hne
  have hp:=hLd.ent x hm
  have E:=XG x.pc 0 r ⟨true,0,36,7,[B5 c],false⟩ ⟨true,cn,99,4,[DP x],false⟩ 1 2 v3 (cn+1) hp hnl (by omega) (by omega)
  obtain ⟨k1,k2⟩:=RW hLd hI (.ent hm) hp (Int.le_refl 0) (cn+1)
  obtain ⟨⟨b,r2⟩,hr2⟩:∃ y,Dn r x.pc 0 (cn+1)=y:=⟨_,rfl⟩
  rw [hr2] at E k1 k2
  simp only [Nr,Ac,Cf] at E
  simp only at k1 k2
  refine Aa ?_
  simp only [Nr,lx92,lx42]
  cases b with
  | false=>
   have e:=k1 rfl
   refine CL ?_
   exact MU (a8 h1 h2 hx E e @Cf @Ac @Dk)
   all_goals done
  | true=>
   obtain ⟨g1,g2,g3,g4,g5⟩:=k2 rfl
   have ih:=fun c=>ih (j+1,r2) c ⟨by simp only; omega,hne r2 g1 ⟨g2,g3⟩⟩ (by simp only; omega)
   simp only [Nr,lx92,lx42] at ih
   refine CL ?_
   refine Nw (a8 h1 h2 hx E w1 @Cf @Ac @Dk) ?_
   exact I7
 obtain rfl:j=c.ens.length:=Ah
 clear ih hj hj'
 have h1:decide ((c.ens.length:Int) < (c.ens.length:Int))=false:=Br
 refine Aa ?_
 simp only [Nr,lx92,lx42]
 refine CL ?_
 simp (maxSteps:=10000000) +contextual -implicitDefEqProofs only [Bk,Bg,St.put,↓reduceIte,Dq,Ac,h1]
 refine Aw (σ:=Rc) (fun y cnt=>⟨Cg 0 150 [(1,.pt 0 0 0 0),(4,.pt 2 2 0 0),(6,.pt 3 v3 0 0),(7,.fn 196 [.pt 2 2 0 0,.pt 3 v3 0 0])],
   (Nr ⟨true,0,36,7,[B5 c],false⟩ dead 1 2 v3 y).take 5,cnt⟩)
  (fun y=>HI c c.ens.length (-1) y) (fun y=>2 * Qo y.hs+y.n) r hI ?_ ?_ rfl ?_
 ·exact IZ
 ·simp only [Nr]
  exact Aax
 clear hI hbd hnl hle h1
 rintro r cn hI ih
 have hbd:=hI.mea
 have hnl:=hI.nle
 have hle:=hI.len
 refine Aa ?_
 by_cases J8:r.n=0
 ·have e:=Asa hLd hI J8
  have h1:decide ((0:Int) < ((0:Nat):Int))=false:=by decide
  obtain ⟨hs,ws,n,v⟩:=r
  simp only at J8
  subst J8
  simp only [Nr,lx92,lx42]
  exact Avl
 obtain ⟨m,hm⟩:∃ m,r.n=m+1:=⟨r.n - 1,by omega⟩
 obtain ⟨hP,p0,p1,p2⟩:=As9 hI hm
 have hPm:=hP.mea
 obtain ⟨hs,ws,n,v⟩:=r
 simp only at hm hnl hle hbd hP p0 p1 p2 hPm ih
 subst hm
 obtain ⟨p,hp⟩:∃ p:Nat,ws.getD m default=(p:Int):=⟨(ws.getD m default).toNat,by omega⟩
 rw [hp] at hP p0 p1 p2
 have hR:=hP.mark p p0 p1 p2
 obtain ⟨x,hx⟩:∃ x,c.ins.getD p default=x:=⟨_,rfl⟩
 have hxi:AF c p=x:=by rw [AF,K4]; exact hx
 obtain ⟨h,hh⟩:∃ h,hs.getD p default=h:=⟨_,rfl⟩
 have hh':Fj hs p=h:=by rw [Ahj,←hh,Wq (by omega)]
 rw [hh'] at hR p2
 obtain ⟨hR,hR48⟩:=hR
 have hen:=PR x.op
 have e1:=Be6 x.op
 have hinv:=fun {ex} {r} (hI:HI c c.ens.length ex r) {i h} (hr:Rch c i h) h0 hh=>RW hLd hI (i:=i) (h:=h) hr h0 hh
 have hbad:∀ {q:Prop},¬ I2 x h→I3 c=false:=fun hq'=>As7 hR (by rw [hxi]; exact hq')
 have Au:∀ {j h'},I2 x h→(j,h') ∈ Bz x p h→Rch c j h'∧0≤j∧0≤h':=fun ho hj=>
  ⟨.step hR p1 (by rw [hxi]; exact ho) (by rw [hxi]; exact hj),PQ hLd p0 p1 (by rw [hxi]; exact hj),ME ho hj⟩
 have c1:decide ((0:Int) < ((m+1:Nat):Int))=true:=Aj
 have w1:IntKind.i64.wrap (((m+1:Nat):Int) - 1)=(m:Int):=AK
 have c2:decide ((0:Int)≤(m:Int))=true:=Aj
 have c3:decide ((m:Int) < ((m+1:Nat):Int))=true:=Aj
 have c9:decide ((m:Int)≤((m+1:Nat):Int))=true:=Aj
 have c10:decide ((p:Int) < (c.ins.length:Int))=true:=Aj
 have c4:decide (m < ws.length)=true:=Aj
 have c5:decide ((0:Int)≤(p:Int))=true:=Aj
 have c6:decide (p < c.ins.length)=true:=Aj
 have c7:decide ((p:Int) < (hs.length:Int))=true:=Aj
 have c8:decide (p < hs.length)=true:=Aj
 have w2:IntKind.i64.wrap (h - (B6 x.op).1)=h - (B6 x.op).1:=Yn
 have w3:IntKind.i64.wrap (h - (B6 x.op).1+(B6 x.op).2.1)=h - (B6 x.op).1+(B6 x.op).2.1:=Yn
 obtain ⟨A,hA⟩:∃ A,h - (B6 x.op).1+(B6 x.op).2.1=A:=⟨_,rfl⟩
 rw [hA] at w3
 have w4:IntKind.i64.wrap ((p:Int)+1)=(p:Int)+1:=Yn
 have w5:IntKind.i64.wrap (A - 1)=A - 1:=Yn
 have fin:∀ r2:Rc,HI c c.ens.length p r2→(∀ j:Int,0≤j→0≤Fj hs j→Fj r2.hs j=Fj hs j)→I2 x h→(∀ j h',(j,h') ∈ Bz x p h→j < c.ins.length∧Fj r2.hs j=h')→HI c c.ens.length (-1) r2:=by
  intro r2 g1 g2 g3 g4
  have e:Fj r2.hs p=h:=by rw [g2 p p0 (by rw [hh']; exact p2),hh']
  refine Alw g1 ⟨?_,?_⟩
  ·rw [hxi,e]; exact g3
  ·rw [hxi,e]; exact g4
 simp only [Nr,lx92,lx42] at ih ⊢
 by_cases Qa:x.op=31
 ·have b31:(x.op == 31)=true:=by rw [lx85]; exact Qa
  by_cases ho1:(B6 x.op).1≤h
  rotate_left
  ·have o1:decide ((B6 x.op).1≤h)=false:=by rw [BJ]; exact ho1
   have e:=hbad (q:=True) (fun hk=>ho1 hk.1)
   refine CL ?_
   exact MU (a23 c1 w1 c3 c4 hp c6 hx c7 c8 c9 c10 hh e1 w2 w3 hA b31 o1 e @AX @Ac @AJ @AA)
   all_goals done
  have o1:decide ((B6 x.op).1≤h)=true:=TR
  by_cases hz:h=0
  rotate_left
  ·have o2:(h == 0)=false:=by rw [lx113]; exact hz
   have e:=hbad (q:=True) (fun hk=>hz (hk.2 Qa))
   refine CL ?_
   exact MU (a24 c1 w1 c3 c4 hp c6 hx c7 c8 c9 c10 hh e1 w2 w3 hA b31 o1 o2 e @AX @Ac @AJ @AA)
   all_goals done
  have o2:(h == 0)=true:=by rw [lx85]; exact hz
  have hI2:=fin _ hP (fun _ _ _=>rfl) ⟨ho1,fun _=>hz⟩ (fun j h' hj=>by simp [Bz,Qa] at hj)
  have ih:=fun c=>ih ⟨hs,ws,m,v⟩ c hI2 (by simp only; omega)
  simp only at ih
  refine CL ?_
  refine Nw (a23 c1 w1 c3 c4 hp c6 hx c7 c8 c9 c10 hh e1 w2 w3 hA b31 o1 o2 @AX @Ac @AJ @AA) ?_
  exact I7
 by_cases Hd:x.op=12
 ·have b31:(x.op == 31)=false:=by rw [lx113]; exact Qa
  have b12:(x.op == 12)=true:=by rw [lx85]; exact Hd
  by_cases ho1:(B6 x.op).1≤h
  rotate_left
  ·have o1:decide ((B6 x.op).1≤h)=false:=by rw [BJ]; exact ho1
   have e:=hbad (q:=True) (fun hk=>ho1 hk.1)
   refine CL ?_
   exact MU (a25 c1 w1 c3 c4 hp c6 hx c7 c8 c9 c10 hh e1 w2 w3 hA b31 b12 o1 e @AX @Ac @D0 @AJ @AA)
   all_goals done
  have o1:decide ((B6 x.op).1≤h)=true:=TR
  have ho:I2 x h:=⟨ho1,fun hk=>absurd hk Qa⟩
  have hef:=Az2 _ Hd
  have hs0:=Au (j:=x.a) (h':=A) ho (by simp [Bz,Qa,Hd]; omega)
  have E0:=XG x.a A ⟨hs,ws,m,v⟩ ⟨true,0,36,7,[B5 c],false⟩ ⟨true,cn,102,2,[BS x],false⟩ 1 2 v3 (cn+1) hs0.2.1 (by simp only; omega) (by simp only; omega) (by simp only; omega)
  obtain ⟨k1,k2⟩:=hinv hP hs0.1 hs0.2.1 hs0.2.2 (cn+1)
  obtain ⟨⟨b,r0⟩,J8⟩:∃ y,Dn ⟨hs,ws,m,v⟩ x.a A (cn+1)=y:=⟨_,rfl⟩
  rw [J8] at E0 k1 k2
  simp only [Nr,Ac,AX] at E0
  simp only at k1 k2
  cases b with
  | false=>
   have e:=k1 rfl
   clear k1 k2 ih fin hinv
   refine CL ?_
   exact MU (a25 c1 w1 c3 c4 hp c6 hx c7 c8 c9 c10 hh e1 w2 w3 hA b31 b12 o1 E0 e @AX @Ac @AJ @AA)
   all_goals done
  | true=>
  obtain ⟨g10,g20,g30,g40,g50⟩:=k2 rfl
  clear k1 k2
  have hI2:=fin _ g10 g40 ho (fun j h' hj=>by
   simp [Bz,Qa,Hd] at hj
   obtain ⟨rfl,hj2⟩:=hj
   exact ⟨g20,by rw [g30]; omega⟩)
  have ih:=fun c=>ih r0 c hI2 (by omega)
  clear fin hinv
  refine CL ?_
  refine Nw (a24 c1 w1 c3 c4 hp c6 hx c7 c8 c9 c10 hh e1 w2 w3 hA b31 b12 o1 E0 @AX @Ac @AJ @AA) ?_
  exact I7
 by_cases I8:x.op=13
 ·have b31:(x.op == 31)=false:=by rw [lx113]; exact Qa
  have b12:(x.op == 12)=false:=Adx
  have b13:(x.op == 13)=true:=by rw [lx85]; exact I8
  by_cases ho1:(B6 x.op).1≤h
  rotate_left
  ·have o1:decide ((B6 x.op).1≤h)=false:=by rw [BJ]; exact ho1
   have e:=hbad (q:=True) (fun hk=>ho1 hk.1)
   refine CL ?_
   exact MU (a26 c1 w1 c3 c4 hp c6 hx c7 c8 c9 c10 hh e1 w2 w3 hA b31 b12 b13 o1 e @AX @Ac @D0 @AJ @AA)
   all_goals done
  have o1:decide ((B6 x.op).1≤h)=true:=TR
  have ho:I2 x h:=⟨ho1,fun hk=>absurd hk Qa⟩
  have hef:=Aq2 _ I8
  have hs0:=Au (j:=((p:Int)+1)) (h':=A) ho (by simp [Bz,Qa,Hd,I8]; omega)
  have hs1:=Au (j:=x.a) (h':=A) ho (by simp [Bz,Qa,Hd,I8]; omega)
  have E0:=XG ((p:Int)+1) A ⟨hs,ws,m,v⟩ ⟨true,0,36,7,[B5 c],false⟩ ⟨true,cn,102,2,[BS x],false⟩ 1 2 v3 (cn+1) hs0.2.1 (by simp only; omega) (by simp only; omega) (by simp only; omega)
  obtain ⟨k1,k2⟩:=hinv hP hs0.1 hs0.2.1 hs0.2.2 (cn+1)
  obtain ⟨⟨b,r0⟩,J8⟩:∃ y,Dn ⟨hs,ws,m,v⟩ ((p:Int)+1) A (cn+1)=y:=⟨_,rfl⟩
  rw [J8] at E0 k1 k2
  simp only [Nr,Ac,AX] at E0
  simp only at k1 k2
  cases b with
  | false=>
   have e:=k1 rfl
   clear k1 k2 ih fin hinv
   refine CL ?_
   exact MU (a28 c1 w1 c3 c4 hp c6 hx c7 c8 c9 c10 hh e1 w2 w3 hA b31 b12 b13 o1 w4 E0 e @AX @Ac @D0 @AJ @AA)
   all_goals done
  | true=>
  obtain ⟨g10,g20,g30,g40,g50⟩:=k2 rfl
  clear k1 k2
  have E1:=XG x.a A r0 ⟨true,0,36,7,[B5 c],false⟩ ⟨true,cn,102,2,[BS x],false⟩ 1 2 v3 (cn+3) hs1.2.1 g10.nle (by have:=g10.mea; omega) (by have:=g10.len; omega)
  obtain ⟨k1,k2⟩:=hinv g10 hs1.1 hs1.2.1 hs1.2.2 (cn+3)
  obtain ⟨⟨b,r1⟩,hr1⟩:∃ y,Dn r0 x.a A (cn+3)=y:=⟨_,rfl⟩
  rw [hr1] at E1 k1 k2
  simp only [Nr,Ac,AX] at E1
  simp only at k1 k2
  cases b with
  | false=>
   have e:=k1 rfl
   clear k1 k2 ih fin hinv
   refine CL ?_
   exact MU (a28 c1 w1 c3 c4 hp c6 hx c7 c8 c9 c10 hh e1 w2 w3 hA b31 b12 b13 o1 w4 E0 E1 e @AX @Ac @AJ @AA)
   all_goals done
  | true=>
  obtain ⟨g11,g21,g31,g41,g51⟩:=k2 rfl
  clear k1 k2
  have hI2:=fin _ g11 (fun j h0 h1=>by rw [g41 j h0 (by rw [g40 j h0 h1]; exact h1),g40 j h0 h1]) ho (fun j h' hj=>by
   simp [Bz,Qa,Hd,I8] at hj
   rcases hj with ⟨rfl,hj2⟩ | ⟨rfl,hj2⟩
   ·exact ⟨g20,by rw [g41 _ (by omega) (by rw [g30]; exact hs0.2.2),g30]; omega⟩
   ·exact ⟨g21,by rw [g31]; omega⟩)
  have ih:=fun c=>ih r1 c hI2 (by omega)
  clear fin hinv
  refine CL ?_
  refine Nw (a27 c1 w1 c3 c4 hp c6 hx c7 c8 c9 c10 hh e1 w2 w3 hA b31 b12 b13 o1 w4 E0 E1 @AX @Ac @AJ @AA) ?_
  exact I7
 by_cases a14:x.op=14
 ·have b31:(x.op == 31)=false:=by rw [lx113]; exact Qa
  have b12:(x.op == 12)=false:=Adx
  have b13:(x.op == 13)=false:=by rw [lx113]; exact I8
  have b14:(x.op == 14)=true:=by rw [lx85]; exact a14
  by_cases ho1:(B6 x.op).1≤h
  rotate_left
  ·exact Au8
  have o1:decide ((B6 x.op).1≤h)=true:=TR
  have ho:I2 x h:=⟨ho1,fun hk=>absurd hk Qa⟩
  have hef:=Aq1 _ a14
  have hs0:=Au (j:=((p:Int)+1)) (h':=A) ho (by simp [Bz,Qa,Hd,I8,a14]; omega)
  have hs1:=Au (j:=x.a) (h':=(A - 1)) ho (by simp [Bz,Qa,Hd,I8,a14]; omega)
  have E0:=XG ((p:Int)+1) A ⟨hs,ws,m,v⟩ ⟨true,0,36,7,[B5 c],false⟩ ⟨true,cn,102,2,[BS x],false⟩ 1 2 v3 (cn+1) hs0.2.1 (by simp only; omega) (by simp only; omega) (by simp only; omega)
  obtain ⟨k1,k2⟩:=hinv hP hs0.1 hs0.2.1 hs0.2.2 (cn+1)
  obtain ⟨⟨b,r0⟩,J8⟩:∃ y,Dn ⟨hs,ws,m,v⟩ ((p:Int)+1) A (cn+1)=y:=⟨_,rfl⟩
  rw [J8] at E0 k1 k2
  simp only [Nr,Ac,AX] at E0
  simp only at k1 k2
  cases b with
  | false=>
   have e:=k1 rfl
   clear k1 k2 ih fin hinv
   refine CL ?_
   exact MU (a29 c1 w1 c3 c4 hp c6 hx c7 c8 c9 c10 hh e1 w2 w3 hA b31 b12 b13 b14 o1 w4 E0 e @AX @Ac @D0 @AJ @AA)
   all_goals done
  | true=>
  obtain ⟨g10,g20,g30,g40,g50⟩:=k2 rfl
  clear k1 k2
  have E1:=XG x.a (A - 1) r0 ⟨true,0,36,7,[B5 c],false⟩ ⟨true,cn,102,2,[BS x],false⟩ 1 2 v3 (cn+3) hs1.2.1 g10.nle (by have:=g10.mea; omega) (by have:=g10.len; omega)
  obtain ⟨k1,k2⟩:=hinv g10 hs1.1 hs1.2.1 hs1.2.2 (cn+3)
  obtain ⟨⟨b,r1⟩,hr1⟩:∃ y,Dn r0 x.a (A - 1) (cn+3)=y:=⟨_,rfl⟩
  rw [hr1] at E1 k1 k2
  simp only [Nr,Ac,AX] at E1
  simp only at k1 k2
  cases b with
  | false=>
   have e:=k1 rfl
   clear k1 k2 ih fin hinv
   refine CL ?_
   exact MU (a30 c1 w1 c3 c4 hp c6 hx c7 c8 c9 c10 hh e1 w2 w3 hA b31 b12 b13 b14 o1 w4 w5 E0 E1 e @AX @Ac @AJ @AA)
   all_goals done
  | true=>
  obtain ⟨g11,g21,g31,g41,g51⟩:=k2 rfl
  clear k1 k2
  have hI2:=fin _ g11 (fun j h0 h1=>by rw [g41 j h0 (by rw [g40 j h0 h1]; exact h1),g40 j h0 h1]) ho (fun j h' hj=>by
   simp [Bz,Qa,Hd,I8,a14] at hj
   rcases hj with ⟨rfl,hj2⟩ | ⟨rfl,hj2⟩
   ·exact ⟨g20,by rw [g41 _ (by omega) (by rw [g30]; exact hs0.2.2),g30]; omega⟩
   ·exact ⟨g21,by rw [g31]; omega⟩)
  have ih:=fun c=>ih r1 c hI2 (by omega)
  clear fin hinv
  refine CL ?_
  refine Nw (a29 c1 w1 c3 c4 hp c6 hx c7 c8 c9 c10 hh e1 w2 w3 hA b31 b12 b13 b14 o1 w4 w5 E0 E1 @AX @Ac @AJ @AA) ?_
  exact I7
 have b31:(x.op == 31)=false:=by rw [lx113]; exact Qa
 have b12:(x.op == 12)=false:=Adx
 have b13:(x.op == 13)=false:=by rw [lx113]; exact I8
 have b14:(x.op == 14)=false:=by rw [lx113]; exact a14
 by_cases ho1:(B6 x.op).1≤h
 rotate_left
 ·exact Au8
 have o1:decide ((B6 x.op).1≤h)=true:=TR
 have ho:I2 x h:=⟨ho1,fun hk=>absurd hk Qa⟩
 have hs0:=Au (j:=((p:Int)+1)) (h':=A) ho (by simp [Bz,Qa,Hd,I8,a14]; omega)
 have E0:=XG ((p:Int)+1) A ⟨hs,ws,m,v⟩ ⟨true,0,36,7,[B5 c],false⟩ ⟨true,cn,102,2,[BS x],false⟩ 1 2 v3 (cn+1) hs0.2.1 (by simp only; omega) (by simp only; omega) (by simp only; omega)
 obtain ⟨k1,k2⟩:=hinv hP hs0.1 hs0.2.1 hs0.2.2 (cn+1)
 obtain ⟨⟨b,r0⟩,J8⟩:∃ y,Dn ⟨hs,ws,m,v⟩ ((p:Int)+1) A (cn+1)=y:=⟨_,rfl⟩
 rw [J8] at E0 k1 k2
 simp only [Nr,Ac,AX] at E0
 simp only at k1 k2
 cases b with
 | false=>
  have e:=k1 rfl
  clear k1 k2 ih fin hinv
  refine CL ?_
  exact MU (a28 c1 w1 c3 c4 hp c6 hx c7 c8 c9 c10 hh e1 w2 w3 hA b31 b12 b13 b14 o1 w4 E0 e @AX @Ac @AJ @AA)
  all_goals done
 | true=>
 obtain ⟨g10,g20,g30,g40,g50⟩:=k2 rfl
 clear k1 k2
 have hI2:=fin _ g10 g40 ho (fun j h' hj=>by
  simp [Bz,Qa,Hd,I8,a14] at hj
  obtain ⟨rfl,hj2⟩:=hj
  exact ⟨g20,by rw [g30]; omega⟩)
 have ih:=fun c=>ih r0 c hI2 (by omega)
 clear fin hinv
 refine CL ?_
 refine Nw (a27 c1 w1 c3 c4 hp c6 hx c7 c8 c9 c10 hh e1 w2 w3 hA b31 b12 b13 b14 o1 w4 E0 @AX @Ac @AJ @AA) ?_
 exact I7
structure HJ (c:Cd) (k:Nat) (hs:List Int) (td:List (Int × Int)):Prop where
 len:hs.length=c.ins.length
 mea:3 * Qo hs+td.length≤3 * c.ins.length+k
 mark:∀ i:Int,0≤i→i < c.ins.length→0≤Fj hs i→Rch c i (Fj hs i)∧Fj hs i≤48∧I2 (AF c i) (Fj hs i)
 wait:∀ x ∈ td,Rch c x.1 x.2∧0≤x.1∧0≤x.2
 ents:∀ j,j < k→((c.ens.getD j default).pc,0) ∈ td∨(c.ens.getD j default).pc < c.ins.length∧Fj hs (c.ens.getD j default).pc=0
 clos:∀ i:Int,0≤i→i < c.ins.length→0≤Fj hs i→∀ j h',(j,h') ∈ Bz (AF c i) i (Fj hs i)→(j,h') ∈ td∨j < c.ins.length∧Fj hs j=h'
theorem Aa2 {P:Program} {f:Nat} {args:List AV} {r:AV} (h:Db P f args r):∃ F,VOk P f F∧F args=some r:=by
 refine ⟨fun a=>open Classical in if a=args then some r else none,?_,by simp⟩
 intro a v hv
 simp only at hv
 split at hv
 ·rename_i e; subst e; cases hv; exact h
 ·cases hv
theorem Alz {P:Program} {f:Nat} {args:List AV} {r:AV} (h:IQ P f args r):∃ F,FOk P f F∧F args=some r:=by
 refine ⟨fun a=>open Classical in if a=args then some r else none,?_,by simp⟩
 intro a v hv
 simp only at hv
 split at hv
 ·rename_i e; subst e; cases hv; exact h
 ·cases hv
structure Tq where
 hs:List Int
 ws:List (Int × Int)
 n:Nat
 v:Nat
def Jy (c:Cd) (k:Nat):Bool:=H4 (c.ens.getD k default) (c.ens.getD (k+1) default)
def Ns (c:Cd):Bool:=!(List.range (c.ens.length - 1)).any (fun k=>!Jy c k)
theorem Ahm {c:Cd} {k:Nat} (hk:k+1 < c.ens.length) (h:Jy c k=false):Ns c=false:=by
 have:(List.range (c.ens.length - 1)).any (fun k=>!Jy c k)=true:=List.any_eq_true.2 ⟨k,HG.2 (by omega),by simp [h]⟩
 rw [Ns,this]; rfl
theorem Ac6 {c:Cd} (h:∀ k,k+1 < c.ens.length→Jy c k=true):Ns c=true:=by
 have:(List.range (c.ens.length - 1)).any (fun k=>!Jy c k)=false:=by
  rw [lx97]
  intro k hk
  rw [HG] at hk
  simp [h k (by omega)]
 rw [Ns,this]; rfl
noncomputable def Be (c:Cd):Int:=if PO c=false then 9 else if IT c=false then 51 else if G8 c=false then 54 else if Ns c=false then 66 else if I3 c=false then 53 else 0
theorem Ws (c:Cd) (hq:Fit c):Db Tryz.prog 98 [B5 c] (.tu [.jk,kA .i64 (Be c)]):=by
 have hens:=hq.ens
 have x1:=Bef c hq
 have x2:=Beg c hq
 have x3:=Beh c hq
 simp only [Ac] at x1 x2 x3
 have x4:=fun a b=>Be5 a b
 simp only [Cf] at x4
 by_cases ht:G8 c=true
 rotate_left
 ·rw [GY] at ht
  refine C2 (Am (lit:=false) (pm:=fun _=>none) (.cons Apy (.cons Apz (.cons Aq0 .nil))) .nil .nil .nil) rfl Tryz.func98 rfl (by decide) (by kernel_rfl) (by simp [kA,AV.noref,norefs]) ?_
  simp only [Tryz.f98,Af,lx53,lx63,Nat.reduceAdd,Nat.reduceSub,List.replicate]
  refine Aa ?_
  rw [ht] at x3
  cases h1:PO c with
  | false=>
   exact Aun
  | true=>
  rw [h1] at x1
  cases h2:IT c with
  | false=>
   exact Aui
  | true=>
  rw [h2] at x2
  simp (maxSteps:=10000000) +contextual -implicitDefEqProofs only [Bk,Bg,St.put,Ap,Al,D8,pl,↓reduceIte,Nat.reduceAdd,Nat.reduceEqDiff,D5,Int.reduceAdd,Dq,AB,Ac,x1,x2,x3,Be,h1,h2,ht]
  all_goals done
 obtain ⟨F146,k146,e146⟩:=Aa2 (Tg c hq (Als ht))
 simp only [Ac,AU] at e146
 refine C2 (Am (lit:=false) (pm:=fun _=>none) (.cons Apy (.cons Apz (.cons Aq0 (.cons Ayn .nil)))) (.cons k146 .nil) .nil .nil) rfl Tryz.func98 rfl (by decide) (by kernel_rfl) (by simp [kA,AV.noref,norefs]) ?_
 simp only [Tryz.f98,Af,lx53,lx63,Nat.reduceAdd,Nat.reduceSub,List.replicate]
 refine Aa ?_
 rw [ht] at x3
 cases h1:PO c with
 | false=>
  exact Aun
 | true=>
 rw [h1] at x1
 cases h2:IT c with
 | false=>
  exact Aui
 | true=>
 rw [h2] at x2
 refine Nw (a4 x1 x2 x3 @Ac) ?_
 refine Aw (σ:=Nat) (fun k cnt=>⟨Cg 0 47 [(1,.pt 0 0 0 0),(4,.sc (.int .i64 ((k+1:Nat):Int)))],[⟨true,0,36,7,[B5 c],false⟩],cnt⟩)
  (fun k=>(k+1≤c.ens.length∨k=0)∧∀ j,j < k→Jy c j=true) (fun k=>c.ens.length - k) 0 ⟨by omega,by omega⟩ ?_ ?_ rfl ?_
 ·exact IZ
 ·exact Aax
 rintro k cnt ⟨hk,hn⟩ ih
 by_cases hk':k+1 < c.ens.length
 rotate_left
 ·have h3:decide (((k+1:Nat):Int) < (c.ens.length:Int))=false:=by rw [BJ]; omega
  have e:=Ac6 (c:=c) (fun j hj=>hn j (by omega))
  refine Aa ?_
  cases h4:I3 c with
  | false=>
   exact Au7
  | true=>
   exact Au7
 have h3:decide (((k+1:Nat):Int) < (c.ens.length:Int))=true:=Aj
 have h4:decide (k+1 < c.ens.length)=true:=Aj
 have h5:decide (k < c.ens.length)=true:=Aj
 have h6:decide ((k:Int) < (c.ens.length:Int))=true:=Aj
 have w1:IntKind.i64.wrap (((k+1:Nat):Int)+1)=((k+1+1:Nat):Int):=AK
 have w2:IntKind.i64.wrap (((k+1:Nat):Int) - 1)=(k:Int):=AK
 have x4:=x4 (c.ens.getD k default) (c.ens.getD (k+1) default)
 have hl:H4 (c.ens.getD k default) (c.ens.getD (k+1) default)=Jy c k:=rfl
 rw [hl] at x4
 obtain ⟨a,ha⟩:∃ a,c.ens.getD k default=a:=⟨_,rfl⟩
 obtain ⟨b,hb⟩:∃ b,c.ens.getD (k+1) default=b:=⟨_,rfl⟩
 rw [ha,hb] at x4
 clear hl
 refine Aa ?_
 cases h7:Jy c k with
 | false=>
  exact Bcu
 | true=>
  exact Avp
noncomputable def f53:=EP Fit (fun c=>[B5 c]) (fun c=>kA .i64 (Be c))
theorem e53 (c:Cd) (h:Fit c):f53 [B5 c]=some (.sc (.int .i64 (Be c))):=
 (AG (q:=Fit) (enc:=fun c=>[B5 c]) (out:=fun c=>kA .i64 (Be c)) c h (by
  intro b h
  simp only [lx96,Ay] at h
  rw [CV h]) :)
theorem Az4:Eb Tryz.prog 53 f53:=AQ <| by
 rintro c hq
 obtain ⟨F98,k98,e98⟩:=Aa2 (Ws c hq)
 simp only [Ac,AB] at e98
 refine Ab (Am (lit:=false) (pm:=fun _=>none) .nil (.cons k98 .nil) .nil .nil) rfl Tryz.func53 rfl (by decide) (by kernel_rfl) (by kernel_rfl) ?_
 simp only [Tryz.f53,Af,lx53,lx63,Nat.reduceAdd,Nat.reduceSub,List.replicate]
 refine Aa ?_
 exact MU (a2 e98 @Ac)
 all_goals done
structure Lm where
 lv:Int
 on:Int
 off:Int
 si:Int
 deriving DecidableEq
instance:Inhabited Lm:=⟨⟨0,0,0,0⟩⟩
def lmA (x:Lm):AV:=.ag [kA .i64 x.lv,kA .i64 x.on,kA .i64 x.off,kA .i64 x.si]
theorem ID (x:Lm):lmA x=.ag [.sc (.int .i64 x.lv),.sc (.int .i64 x.on),.sc (.int .i64 x.off),.sc (.int .i64 x.si)]:=rfl
theorem Am0 {x y:Lm} (h:lmA x=lmA y):x=y:=by
 cases x; cases y; simp_all [lmA,kA]
structure Lo where
 mo:Int
 la:Int
 se:Lm
 deriving DecidableEq
instance:Inhabited Lo:=⟨⟨0,0,default⟩⟩
def BY (x:Lo):AV:=.ag [kA .i64 x.mo,kA .i64 x.la,kA .i64 x.se.lv,kA .i64 x.se.on,kA .i64 x.se.off,kA .i64 x.se.si]
theorem Bl (x:Lo):BY x=.ag [.sc (.int .i64 x.mo),.sc (.int .i64 x.la),.sc (.int .i64 x.se.lv),.sc (.int .i64 x.se.on),.sc (.int .i64 x.se.off),.sc (.int .i64 x.se.si)]:=rfl
theorem LO {x y:Lo} (h:BY x=BY y):x=y:=by
 obtain ⟨a,b,⟨c,d,e,f⟩⟩:=x; obtain ⟨a',b',⟨c',d',e',f'⟩⟩:=y; simp_all [BY,kA]
theorem LP {l m:List Lo}:l.map BY=m.map BY↔l=m:=⟨DX (fun _ _=>LO),fun h=>by rw [h]⟩
theorem Bq (l:List Lo):CY 6 (l.map BY)=true:=Dy (f:=BY) (fun _=>rfl) l
theorem PS (l:List Lo):norefs (l.map BY)=true:=C8 (f:=BY) (fun _=>by simp [BY,kA,AV.noref,norefs]) l
structure Rs where
 zv:Bool
 vars:List Int
 zl:Bool
 left:List Int
 act:Int
 zm:Bool
 lamps:List Lo
 fau:Int
instance:Inhabited Rs:=⟨⟨true,[],true,[],0,true,[],0⟩⟩
def Hf (s:Rs):AV:=.ag [.vw s.zv (s.vars.map (kA .i64)),.vw s.zl (s.left.map (kA .i64)),.sc (.int .u32 s.act),.vw s.zm (s.lamps.map BY),kA .i64 s.fau]
theorem AL (s:Rs):Hf s=.ag [.vw s.zv (s.vars.map (kA .i64)),.vw s.zl (s.left.map (kA .i64)),.sc (.int .u32 s.act),.vw s.zm (s.lamps.map BY),.sc (.int .i64 s.fau)]:=rfl
theorem JZ {x y:Rs} (h:Hf x=Hf y):x=y:=by
 cases x; cases y; simp_all [Hf,kA,HZ,LP]
theorem Ac7 (s:Rs):(Hf s).noref=true:=by simp [Hf,kA,AV.noref,norefs]
structure Vn where
 zv:Bool
 vars:List Int
 zl:Bool
 left:List Int
 clo:Int
 act:Int
 pl':Int
 ba:Int
instance:Inhabited Vn:=⟨⟨true,[],true,[],0,0,0,0⟩⟩
def Ma (v:Vn):AV:=.ag [.vw v.zv (v.vars.map (kA .i64)),.vw v.zl (v.left.map (kA .i64)),.sc (.int .u64 v.clo),.sc (.int .u32 v.act),kA .i64 v.pl',kA .i64 v.ba]
theorem Bm (v:Vn):Ma v=.ag [.vw v.zv (v.vars.map (kA .i64)),.vw v.zl (v.left.map (kA .i64)),.sc (.int .u64 v.clo),.sc (.int .u32 v.act),.sc (.int .i64 v.pl'),.sc (.int .i64 v.ba)]:=rfl
theorem Aa3 {x y:Vn} (h:Ma x=Ma y):x=y:=by
 cases x; cases y; simp_all [Ma,kA,HZ]
theorem RX (s:Vn):(Ma s).noref=true:=by simp [Ma,kA,AV.noref,norefs]
structure Cx where
 ti:Int
 clo:Int
 pl':Int
 ba:Int
instance:Inhabited Cx:=⟨⟨0,0,0,0⟩⟩
def ND (v:Cx):AV:=.ag [kA .i64 v.ti,.sc (.int .u64 v.clo),kA .i64 v.pl',kA .i64 v.ba]
theorem CJ (v:Cx):ND v=.ag [.sc (.int .i64 v.ti),.sc (.int .u64 v.clo),.sc (.int .i64 v.pl'),.sc (.int .i64 v.ba)]:=rfl
theorem Aa4 {x y:Cx} (h:ND x=ND y):x=y:=by
 cases x; cases y; simp_all [ND,kA]
structure Ev where
 tr:Int
 ix:Int
 mo:Int
 deriving DecidableEq
instance:Inhabited Ev:=⟨⟨0,0,0⟩⟩
def Eh (x:Ev):AV:=.ag [kA .i64 x.tr,kA .i64 x.ix,kA .i64 x.mo]
theorem B4 (x:Ev):Eh x=.ag [.sc (.int .i64 x.tr),.sc (.int .i64 x.ix),.sc (.int .i64 x.mo)]:=rfl
theorem N5 {x y:Ev} (h:Eh x=Eh y):x=y:=by
 cases x; cases y; simp_all [Eh,kA]
theorem Th {l m:List Ev}:l.map Eh=m.map Eh↔l=m:=⟨DX (fun _ _=>N5),fun h=>by rw [h]⟩
theorem DB (l:List Ev):CY 3 (l.map Eh)=true:=Dy (f:=Eh) (fun _=>rfl) l
theorem XH (l:List Ev):norefs (l.map Eh)=true:=C8 (f:=Eh) (fun _=>by simp [Eh,kA,AV.noref,norefs]) l
noncomputable def f155:=EP (fun _:Int=>True) (fun x=>[kA .i64 x]) (fun _=>bA false)
theorem Asb (x:Int):f155 [.sc (.int .i64 x)]=some (.sc (.bool false)):=
 (AG (q:=fun _:Int=>True) (enc:=fun x=>[kA .i64 x]) (out:=fun _=>bA false) x trivial (by intro y h; simpa [kA] using h) :)
theorem Az5:Eb Tryz.prog 155 f155:=AQ <| by
 rintro x -
 refine Ab (Aq (.nil) (.nil)) rfl Tryz.func155 rfl (by decide) (by kernel_rfl) (by kernel_rfl) ?_
 simp only [Tryz.f155,Af,lx53,lx63,Nat.reduceAdd,Nat.reduceSub,List.replicate]
 refine Aa ?_
 simp (maxSteps:=10000000) +contextual -implicitDefEqProofs only [Bk,Bg,St.put,AB,AU]
def Gl (x y:Int):Int:=if x < y then -1 else if y < x then 1 else 0
theorem Aa5 (x y:Int):Gl x y < 0↔x < y:=by
 unfold Gl; split
 ·omega
 ·split <;> omega
noncomputable def f112:=EP (fun _:Int × Int=>True) (fun p=>[kA .i64 p.1,kA .i64 p.2]) (fun p=>kA .i64 (Gl p.1 p.2))
theorem Az6 (x y:Int):f112 [.sc (.int .i64 x),.sc (.int .i64 y)]=some (.sc (.int .i64 (Gl x y))):=
 (AG (q:=fun _:Int × Int=>True) (enc:=fun p=>[kA .i64 p.1,kA .i64 p.2]) (out:=fun p=>kA .i64 (Gl p.1 p.2)) (x,y) trivial (by rintro ⟨a,b⟩ h; simp_all [kA]) :)
theorem Aq3:Eb Tryz.prog 112 f112:=AQ <| by
 rintro ⟨x,y⟩ -
 refine Ab (Aq ((.cons Az5 .nil)) (.nil)) rfl Tryz.func112 rfl (by decide) (by kernel_rfl) (by kernel_rfl) ?_
 simp only [Tryz.f112,Af,lx53,lx63,Nat.reduceAdd,Nat.reduceSub,List.replicate]
 refine Aa ?_
 rcases Int.lt_trichotomy x y with h | h | h
 ·have hc:Gl x y=-1:=by simp [Gl,h]
  exact Mc (a3 h hc @Asb)
 ·have hc:Gl x y=0:=by simp [Gl,h]
  have h1:¬ x < y:=Ah
  have h2:¬ y < x:=Ah
  exact Mc (a4 h1 h2 hc @Asb)
 ·have h1:¬ x < y:=by omega
  have hc:Gl x y=1:=by simp [Gl,h,h1]
  exact Mc (a4 h h1 hc @Asb)
def orN (l:List Int):Int:=(l.find? (fun x=>x != 0)).getD 0
theorem Asc {l:List Int} {k:Nat} (hk:k < l.length) (h:(l.getD k default != 0)=true) (hn:∀ j,j < k→(l.getD j default != 0)=false):orN l=l.getD k default:=by
 have:l.find? (fun x=>x != 0)=some (l.getD k default):=by
  rw [List.find?_eq_some_iff_getElem]
  refine ⟨h,k,hk,by rw [lx80,lx51 hk]; rfl,fun j hj=>?_⟩
  exact Aoj
 rw [orN,this]; rfl
theorem Asd {l:List Int} (hn:∀ j,j < l.length→(l.getD j default != 0)=false):orN l=0:=by
 have:l.find? (fun x=>x != 0)=none:=by
  rw [List.find?_eq_none]
  intro x hx
  obtain ⟨j,hj,rfl⟩:=lx69 hx
  have:=hn j hj
  rw [lx80,lx51 hj] at this
  simpa using this
 rw [orN,this]; rfl
noncomputable def f118:=EP (fun l:Bool × List Int=>l.2.length≤1000000) (fun l=>[.vw l.1 (l.2.map (kA .i64))]) (fun l=>kA .i64 (orN l.2))
theorem Bej (z:Bool) (a b:Int):f118 [.vw z [.sc (.int .i64 a),.sc (.int .i64 b)]]=some (.sc (.int .i64 (orN [a,b]))):=
 (AG (q:=fun l:Bool × List Int=>l.2.length≤1000000) (enc:=fun l=>[.vw l.1 (l.2.map (kA .i64))]) (out:=fun l=>kA .i64 (orN l.2)) (z,[a,b]) (by simp) (by
  rintro ⟨x,y⟩ h
  simp only [lx96,AV.vw.injEq,HZ,Ay] at h
  rw [h.1,h.2]) :)
theorem Az7:Eb Tryz.prog 118 f118:=AQ <| by
 rintro ⟨z,l⟩ hq
 simp only at hq
 refine Ab (Aq (.nil) (.nil)) rfl Tryz.func118 rfl (by decide) (by kernel_rfl) (by kernel_rfl) ?_
 simp only [Tryz.f118,Af,lx53,lx63,Nat.reduceAdd,Nat.reduceSub,List.replicate]
 refine qd4 ?_
 refine Aw (σ:=Nat) (fun k cnt=>⟨Cg 0 18 [(3,.sc (.int .i64 0)),(6,.vw z (l.map (kA .i64))),(7,.sc (.int .i64 l.length)),(8,.sc (.int .i64 k))],[],cnt⟩)
  (fun k=>k≤l.length∧∀ j,j < k→(l.getD j default != 0)=false) (fun k=>l.length - k) 0 ⟨by omega,by omega⟩ ?_ trivial rfl ?_
 ·exact IZ
 rintro k cnt ⟨hk,hn⟩ ih
 refine Aa ?_
 by_cases hk':k < l.length
 ·have h1:decide ((k:Int) < (l.length:Int))=true:=by rw [AR]; omega
  have h2:decide (k < l.length)=true:=Aj
  have w1:IntKind.i64.wrap ((k:Int)+1)=((k+1:Nat):Int):=AK
  cases h3:l.getD k default != 0 with
  | true=>
   have e:=Asc hk' h3 hn
   obtain ⟨x,hx⟩:∃ x,l.getD k default=x:=⟨_,rfl⟩
   rw [hx] at h3 e
   refine CL ?_
   exact Mc (a5 h1 h2 hx h3 e)
   all_goals done
  | false=>
   have ih:=fun c=>ih (k+1) c ⟨by omega,Cl hn h3⟩ (by omega)
   obtain ⟨x,hx⟩:∃ x,l.getD k default=x:=⟨_,rfl⟩
   rw [hx] at h3
   refine CL ?_
   refine Yr (a5 h1 h2 hx h3 w1) ?_
   refine AD ?_ ?_ (Ax _) (ih _)
   all_goals exact Adl
 ·have hkl:k=l.length:=by omega
  subst hkl
  have h1:decide ((l.length:Int) < (l.length:Int))=false:=Br
  have e:=Asd hn
  refine CL ?_
  simp (maxSteps:=10000000) +contextual -implicitDefEqProofs only [Bk,Bg,St.put,↓reduceIte,h1,e]
  all_goals done
def Hz (a b:Lo):Int:=orN [Gl a.mo b.mo,Gl a.la b.la]
theorem Aa6 (a b:Int):orN [a,b]=if a=0 then b else a:=by
 by_cases h:a=0
 ·subst h
  by_cases h2:b=0
  ·subst h2; rfl
  ·simp [orN,h2]
 ·simp [orN,h]
theorem Aa7 (a b:Lo):Hz a b < 0↔a.mo < b.mo∨a.mo=b.mo∧a.la < b.la:=by
 rw [Hz,Aa6]
 have h1:=Aa5 a.mo b.mo
 have h2:=Aa5 a.la b.la
 have h3:Gl a.mo b.mo=0↔a.mo=b.mo:=by
  unfold Gl; split
  ·omega
  ·split <;> omega
 split
 ·rename_i h; rw [h2]; have:=h3.1 h; omega
 ·rename_i h; rw [h1]; have:a.mo≠b.mo:=fun hh=>h (h3.2 hh); omega
noncomputable def f80:=EP (fun _:Lo × Lo=>True) (fun p=>[BY p.1,BY p.2]) (fun p=>kA .i64 (Hz p.1 p.2))
theorem e80 (a b:Lo):f80 [BY a,BY b]=some (.sc (.int .i64 (Hz a b))):=
 (AG (q:=fun _:Lo × Lo=>True) (enc:=fun p=>[BY p.1,BY p.2]) (out:=fun p=>kA .i64 (Hz p.1 p.2)) (a,b) trivial (by
  rintro ⟨x,y⟩ h
  simp only [lx96,Ay] at h
  rw [LO h.1,LO h.2]) :)
theorem Az8:Eb Tryz.prog 80 f80:=AQ <| by
 rintro ⟨a,b⟩ -
 refine Ab (Aq ((.cons Aq3 (.cons Az7 .nil))) (.nil)) rfl Tryz.func80 rfl (by decide) (by kernel_rfl) (by kernel_rfl) ?_
 simp only [Tryz.f80,Af,lx53,lx63,Nat.reduceAdd,Nat.reduceSub,List.replicate]
 refine Aa ?_
 simp (maxSteps:=10000000) +contextual -implicitDefEqProofs only [Bk,Bg,St.put,Ap,Al,D8,pl,↓reduceIte,reduceCtorEq,Nat.reduceAdd,Nat.reduceLeDiff,Nat.reduceEqDiff,Nat.reduceMul,Int.reduceLT,Nat.reduceLT,D5,Int.reduceAdd,Int.reduceMul,Dq,AB,Bl,norefs,AV.noref,Az6,Bej,Hz]
 repeat' (first | exact Ae (by kernel_rfl) | refine ⟨Ae (by kernel_rfl),?_⟩ | refine And.intro ?_ ?_ | fail)
 all_goals done
def Wt (t:Int):Bool:=decide (0≤t) && decide (t≤1099511627776)
noncomputable def f117:=EP (fun _:Int=>True) (fun x=>[kA .i64 x]) (fun x=>bA (Wt x))
theorem Bek (x:Int):f117 [.sc (.int .i64 x)]=some (.sc (.bool (Wt x))):=
 (AG (q:=fun _:Int=>True) (enc:=fun x=>[kA .i64 x]) (out:=fun x=>bA (Wt x)) x trivial (by intro y h; simp only [lx96,Ay] at h; rw [Bt h]) :)
theorem Az9:Eb Tryz.prog 117 f117:=AQ <| by
 rintro x -
 refine Ab (Aq (.nil) (.nil)) rfl Tryz.func117 rfl (by decide) (by kernel_rfl) (by kernel_rfl) ?_
 simp only [Tryz.f117,Af,lx53,lx63,Nat.reduceAdd,Nat.reduceSub,List.replicate]
 refine Aa ?_
 simp (maxSteps:=10000000) +contextual -implicitDefEqProofs only [Bk,Bg,Ao,St.put,↓reduceIte,AB,AU,Wt]
def Kv (x:Lm):Bool:=decide (0≤x.lv∧x.lv≤8∧(0≤x.si∧x.si≤1099511627776)∧0≤x.off∧x.off≤1000∧((x.off=0∧x.on=0)∨(0 < x.off∧1≤x.on∧x.on≤1000)))
noncomputable def f79:=EP (fun _:Lm=>True) (fun x=>[lmA x]) (fun x=>bA (Kv x))
theorem e79 (x:Lm):f79 [lmA x]=some (.sc (.bool (Kv x))):=
 (AG (q:=fun _:Lm=>True) (enc:=fun x=>[lmA x]) (out:=fun x=>bA (Kv x)) x trivial (by intro y h; simp only [lx96,Ay] at h; rw [Am0 h]) :)
theorem Bel:Eb Tryz.prog 79 f79:=AQ <| by
 rintro ⟨l,n,f,c⟩ -
 refine Ab (Aq ((.cons Az9 .nil)) (.nil)) rfl Tryz.func79 rfl (by decide) (by kernel_rfl) (by kernel_rfl) ?_
 simp only [Tryz.f79,Af,lx53,lx63,Nat.reduceAdd,Nat.reduceSub,List.replicate]
 refine Aa ?_
 refine Yr (a2 @ID @Bek) ?_
 simp only [Kv,Wt]
 exact Bcy
def BT (a m:Int):Bool:=DE .and .u32 (He .u32 a m) 1 == 1
def atQ (p:Rs × Int):Prop:=0≤p.2∧p.2≤1000000
noncomputable def f58:=EP atQ (fun p=>[Hf p.1,kA .i64 p.2]) (fun p=>bA (BT p.1.act p.2))
theorem e58 (s:Rs) (m:Int) (h:0≤m∧m≤1000000):f58 [Hf s,.sc (.int .i64 m)]=some (.sc (.bool (BT s.act m))):=
 (AG (q:=atQ) (enc:=fun p=>[Hf p.1,kA .i64 p.2]) (out:=fun p=>bA (BT p.1.act p.2)) (s,m) h (by
  rintro ⟨x,y⟩ h
  simp only [lx96,Ay] at h
  rw [JZ h.1,Bt h.2]) :)
theorem Ac8:Eb Tryz.prog 58 f58:=AQ <| by
 rintro ⟨s,m⟩ ⟨h0,h1⟩
 simp only at h0 h1
 refine Ab (Aq (.nil) (.nil)) rfl Tryz.func58 rfl (by decide) (by kernel_rfl) (by kernel_rfl) ?_
 simp only [Tryz.f58,Af,lx53,lx63,Nat.reduceAdd,Nat.reduceSub,List.replicate]
 refine Aa ?_
 simp (maxSteps:=10000000) +contextual -implicitDefEqProofs only [Bk,Bg,St.put,↓reduceIte,reduceCtorEq,Nat.reduceAdd,D5,Int.reduceAdd,Dq,AB,AU,AL,h0,BT]
 all_goals done
def DQ (s:Rs) (x:Cx):Vn:=⟨s.zv,s.vars,s.zl,s.left,x.clo,s.act,x.pl',x.ba⟩
noncomputable def f78:=EP (fun _:Rs × Cx=>True) (fun p=>[Hf p.1,ND p.2]) (fun p=>Ma (DQ p.1 p.2))
theorem e78 (s:Rs) (x:Cx):f78 [Hf s,ND x]=some (Ma (DQ s x)):=
 (AG (q:=fun _:Rs × Cx=>True) (enc:=fun p=>[Hf p.1,ND p.2]) (out:=fun p=>Ma (DQ p.1 p.2)) (s,x) trivial (by
  rintro ⟨a,b⟩ h
  simp only [lx96,Ay] at h
  rw [JZ h.1,Aa4 h.2]) :)
theorem Bem:VOk Tryz.prog 78 f78:=SC <| by
 rintro ⟨s,x⟩ -
 refine C2 (Am (lit:=false) (pm:=fun _=>none) .nil .nil .nil .nil) rfl Tryz.func78 rfl (by decide) (by kernel_rfl) (RX _) ?_
 simp only [Tryz.f78,Af,lx53,lx63,Nat.reduceAdd,Nat.reduceSub,List.replicate]
 refine Aa ?_
 simp (maxSteps:=10000000) +contextual -implicitDefEqProofs only [Bk,Bg,St.put,Ap,Al,↓reduceIte,reduceCtorEq,Nat.reduceAdd,Nat.reduceLeDiff,Int.reduceLT,Nat.reduceLT,D5,Int.reduceAdd,Dq,AL,Bm,CJ,DQ]
 all_goals done
end Go.Proofs.YtdjpkhjaibdogaaGreat
