/-
  Lemmas towards ModesFaults (joined texts: GM, GN, GO, GP).
  Conditions: none.
-/
import Derived.Test.YtdjpkhjaibdogaaGreatK01
import Derived.Test.YtdjpkhjaibdogaaGreatK02
import Derived.Test.YtdjpkhjaibdogaaGreatK34
import Derived.Test.YtdjpkhjaibdogaaGreatK19
set_option linter.unusedSimpArgs false
set_option linter.unusedVariables false
set_option maxRecDepth 100000
set_option maxHeartbeats 8000000
namespace Go.Proofs.YtdjpkhjaibdogaaGreat
open Go Go.SX
attribute [local congr] ite_congr
def KZ (p:Lo→Bool) (s:List Lo):Nat→List Lo
 | 0=>[]
 | k+1=>if p (s.getD k default)=true then KZ p s k++[s.getD k default] else KZ p s k
theorem L8 (p:Lo→Bool) (s:List Lo):∀ k,(KZ p s k).length≤k
 | 0=>Ax _
 | k+1=>by
  have:=L8 p s k
  rw [KZ]
  split
  ·simp; omega
  ·omega
theorem WU (p:Lo→Bool) (s:List Lo):∀ k,k≤s.length→KZ p s k=(s.take k).filter p
 | 0,_=>by simp [KZ]
 | k+1,h=>by
  have hg:s.getD k default=s[k]:=by rw [lx80,lx51 (by omega)]; rfl
  rw [KZ,WU p s k (by omega),lx115 (by omega),List.filter_append,hg]
  by_cases hp:p s[k]=true
  ·rw [if_pos hp,List.filter_cons_of_pos hp,List.filter_nil]
  ·rw [if_neg hp,List.filter_cons_of_neg hp,List.filter_nil,lx66]
theorem An0 (p:Lo→Bool) (s:List Lo):KZ p s s.length=s.filter p:=by
 rw [WU p s _ (Ax _),lx74]
theorem Aj1 {α:Type} [Inhabited α] (p:α→Bool) (l:List α):(∃ r,r < l.length∧p (l.getD r default)=true∧∀ j,j < r→p (l.getD j default)=false)∨∀ j,j < l.length→p (l.getD j default)=false:=by
 have key:∀ k,k≤l.length→(∃ r,r < l.length∧p (l.getD r default)=true∧∀ j,j < r→p (l.getD j default)=false)∨∀ j,j < k→p (l.getD j default)=false:=by
  intro k
  induction k with
  | zero=>intro _; right; intro j hj; omega
  | succ k ih=>
   intro hk
   rcases ih (by omega) with h | h
   ·exact .inl h
   ·cases hp:p (l.getD k default) with
    | true=>exact .inl ⟨k,by omega,hp,h⟩
    | false=>exact .inr (Cl h hp)
 exact key _ (Ax _)
def X4 (p:Lo→Bool) (s:List Lo) (k:Nat):List Lo:=KZ p s k++s.drop (KZ p s k).length
theorem An1 (p:Lo→Bool) (s:List Lo) (k:Nat) (hk:k≤s.length):(X4 p s k).length=s.length:=by
 have:=L8 p s k
 simp only [X4,lx5,lx93]; omega
theorem At5 (p:Lo→Bool) (s:List Lo) (k:Nat):(X4 p s k).getD k default=s.getD k default:=by
 have:=L8 p s k
 rw [X4,lx80,lx62 this,lx20,lx80]
 congr 2; omega
theorem At6 (p:Lo→Bool) (s:List Lo) (k:Nat) (h:p (s.getD k default)=false):X4 p s (k+1)=X4 p s k:=by
 have e:KZ p s (k+1)=KZ p s k:=by rw [KZ,h,if_neg (by decide)]
 rw [X4,X4,e]
theorem An2 (p:Lo→Bool) (s:List Lo) (k:Nat) (hk:k < s.length) (h:p (s.getD k default)=true):X4 p s (k+1)=(X4 p s k).set (KZ p s k).length (s.getD k default):=by
 have hl:=L8 p s k
 have e:KZ p s (k+1)=KZ p s k++[s.getD k default]:=by rw [KZ,if_pos h]
 simp only [X4,e,lx5,lx53,lx63,BO]
 rw [lx119 _ _ (Ax _),K3]
 have hd:s.drop (KZ p s k).length=s[(KZ p s k).length]::s.drop ((KZ p s k).length+1):=lx75 (by omega)
 rw [hd,lx117,lx4]; rfl
def dlS (p:Lo→Bool) (s:List Lo):List Lo:=s.filter (fun r=>!p r)++List.replicate (s.length - (s.filter (fun r=>!p r)).length) default
theorem Aj2 (p:Lo→Bool) (s:List Lo) (h:∀ j,j < s.length→p (s.getD j default)=false):s.filter (fun r=>!p r)=s:=by
 rw [List.filter_eq_self]
 intro a ha
 obtain ⟨j,hj,rfl⟩:=lx69 ha
 have:=h j hj
 rw [lx80,lx51 hj,lx10] at this
 rw [this]; rfl
theorem An3 (p:Lo→Bool) (s:List Lo) (W:List Lo) (hW:W=s.filter fun r=>!p r) (z:AV) (hz:z=BY default):
  List.take W.length ((W++s.drop W.length).map BY)++List.replicate (s.length - W.length) z++List.drop (W.length+(s.length - W.length)) ((W++s.drop W.length).map BY)=(dlS p s).map BY:=by
 subst hW hz
 have hl:(s.filter fun r=>!p r).length≤s.length:=lx86 _ _
 rw [dlS,lx12,lx12,List.take_left' (by simp),List.map_replicate,List.drop_eq_nil_of_le (by simp),lx66]
theorem MR (b0 b1 b2 b3 b4:Blk) (R:List Blk) (x y:Blk):Ji (b0::b1::b2::b3::b4::(R++[x,y])) (b0::b1::b2::b3::b4::(R++[x])):=by
 have:=RK [y] (b0::b1::b2::b3::b4::(R++[x]))
 simpa only [lx91,lx4,lx64] using this
def Kc (a:Int) (y:Lo):Bool:=y.mo == a
theorem Aj3 (s:List Lo) (k a b d:Int) (t:ByteArray) (b0 b1 b2 b3:Blk) (R:List Blk) (u v cnt:Nat) (hs:s.length≤100000):
  HSpec Tryz.prog 206 [.sl 4 v 0 s.length,.fn 207 [.pt (R.length+1+1+1+1+1) u 0 0]] (b0::b1::b2::b3::⟨true,v,82,6,s.map BY,false⟩::(R++[⟨true,u,73,5,[Ek ⟨k,a,b,d,t⟩],false⟩])) cnt
   (.sl 4 v 0 (s.filter fun r=>!Kc a r).length) (b0::b1::b2::b3::⟨true,v,82,6,(dlS (Kc a) s).map BY,false⟩::(R++[⟨true,u,73,5,[Ek ⟨k,a,b,d,t⟩],false⟩])) (cnt+s.length):=by
 have e207':=fun y=>Azk y ⟨k,a,b,d,t⟩
 obtain ⟨F232,k232,e232⟩:=Fi (Azp Aq8 (Kc a) [Ek ⟨k,a,b,d,t⟩] false s (fun y _=>Azk y ⟨k,a,b,d,t⟩) (by omega))
 simp only [DR,AB] at e207' e232
 refine Ag (Am (lit:=false) (pm:=fun _=>none) (.cons k232 (.cons Aq8 .nil)) .nil .nil .nil) rfl Tryz.func206 rfl (by decide) (by kernel_rfl) ?_
 simp only [Tryz.f206,Af,lx53,lx63,Nat.reduceAdd,Nat.reduceSub,List.replicate]
 obtain ⟨n,hnn⟩:∃ n,s.length=n:=⟨_,rfl⟩
 rw [hnn] at hs ⊢
 have ht:List.take n (s.map BY)=s.map BY:=lx118 (by simp [hnn])
 refine Aa ?_
 rcases Aj1 (Kc a) s with ⟨r,hr,hp,hno⟩ | hno
 rotate_left
 ·have e1:=e232
  rw [SD hno] at e1
  have hW:=Aj2 (Kc a) s hno
  have hD:dlS (Kc a) s=s:=by rw [dlS,hW,K3]; simp
  rw [hW,hD,hnn]
  refine I5 (a2 ht e1) ?_
  repeat' (first | exact Ae (by kernel_rfl) | refine ⟨Ae (by kernel_rfl),?_⟩ | refine And.intro ?_ ?_ | fail)
  all_goals first | exact .refl _ | exact .inl rfl | exact DY _ _ _ | exact Nat.le_add_right _ _ | skip
  all_goals done
 have e1:=e232
 rw [JN hr hp hno] at e1
 rw [hnn] at hr
 have c0:((r:Int) == -1)=false:=by rw [lx113]; omega
 have w0:IntKind.i64.wrap ((r:Int)+1)=((r+1:Nat):Int):=AK
 have hA:=An0 (fun r=>!Kc a r) s
 rw [hnn] at hA
 have hend:=An3 (Kc a) s (KZ (fun r=>!Kc a r) s n) hA (.ag [.sc (.int .i64 0),.sc (.int .i64 0),.sc (.int .i64 0),.sc (.int .i64 0),.sc (.int .i64 0),.sc (.int .i64 0)]) rfl
 rw [←hA]
 have hL:=L8 (fun r=>!Kc a r) s
 have hDl:=An1 (fun r=>!Kc a r) s
 have hDa:=At5 (fun r=>!Kc a r) s
 have hDn:=At6 (fun r=>!Kc a r) s
 have hDy:=An2 (fun r=>!Kc a r) s
 have hK:∀ k,KZ (fun r=>!Kc a r) s (k+1)=if (!Kc a (s.getD k default))=true then KZ (fun r=>!Kc a r) s k++[s.getD k default] else KZ (fun r=>!Kc a r) s k:=fun k=>rfl
 have hD0:X4 (fun r=>!Kc a r) s (r+1)=s∧(KZ (fun r=>!Kc a r) s (r+1)).length=r:=by
  have key:∀ k,k≤r→KZ (fun r=>!Kc a r) s k=s.take k:=by
   intro k
   induction k with
   | zero=>intro _; rfl
   | succ k ih=>
    intro hk
    rw [hK,ih (by omega),hno k (by omega),if_pos (show (!false)=true from rfl),lx115 (by omega)]
    rw [lx80,lx51 (by omega),lx10]
  have e:KZ (fun r=>!Kc a r) s (r+1)=s.take r:=by rw [hK,hp,if_neg (by decide),key r (Ax _)]
  have el:(s.take r).length=r:=by rw [lx68]; omega
  rw [X4,e,el]
  exact ⟨lx67 _ _,rfl⟩
 have hDd:X4 (fun r=>!Kc a r) s n=KZ (fun r=>!Kc a r) s n++s.drop (KZ (fun r=>!Kc a r) s n).length:=rfl
 rw [←hDd,hnn] at hend
 obtain ⟨W,hW⟩:∃ W,KZ (fun r=>!Kc a r) s=W:=⟨_,rfl⟩
 obtain ⟨D,hD⟩:∃ D,X4 (fun r=>!Kc a r) s=D:=⟨_,rfl⟩
 simp only [hW,hD,hnn] at hL hDl hDa hDn hDy hK hD0 hend ⊢
 clear hA hDd
 simp (maxSteps:=10000000) +contextual -implicitDefEqProofs only [Bk,Bg,St.put,Ap,Al,D8,pl,↓reduceIte,Dq,DR,JB,lx5,lx11,ht,e1,c0,w0]
 refine Aw (σ:=Nat × Nat) (fun y _=>⟨Cg 0 42 [(0,.sl 4 v 0 n),(1,.fn 207 [.pt (R.length+1+1+1+1+1) u 0 0]),(5,.sc (.int .i64 (W y.1).length)),(6,.sc (.int .i64 y.1))],b0::b1::b2::b3::⟨true,v,82,6,(D y.1).map BY,false⟩::(R++[⟨true,u,73,5,[Ek ⟨k,a,b,d,t⟩],false⟩]),y.2⟩)
  (fun y=>r < y.1∧y.1≤n∧y.2+r+1≤cnt+y.1) (fun y=>n - y.1) (r+1,cnt) ⟨by simp,by omega,by simp; omega⟩ ?_ ?_ rfl ?_
 ·simp only [hD0.2]
  exact Adh
 ·simp only [hD0.1,DR]
  exact AS _
 rintro ⟨j,c⟩ _ ⟨hk0,hk,hc⟩ ih
 simp only at hk0 hk hc
 have hLk:=hL j
 by_cases hk':j < n
 rotate_left
 ·obtain rfl:j=n:=by omega
  have h2:decide ((j:Int) < (j:Int))=false:=Br
  have q1:decide ((0:Int)≤((W j).length:Int))=true:=Aj
  have q2:decide (((W j).length:Int)≤(j:Int))=true:=Aj
  refine Aa ?_
  refine CL ?_
  refine I5 (a3 h2 q2 hend) ?_
  repeat' (first | exact Ae (by kernel_rfl) | refine ⟨Ae (by kernel_rfl),?_⟩ | refine And.intro ?_ ?_ | fail)
  all_goals first | exact .refl _ | exact .inl rfl | exact DY _ _ _ | exact Nat.le_of_lt (J5 (Nat.lt_succ_of_le (Nat.le_add_right c r)) hc) | skip
  all_goals done
 have h2:decide ((j:Int) < (n:Int))=true:=Aj
 have w1:IntKind.i64.wrap ((j:Int)+1)=((j+1:Nat):Int):=AK
 have hDlk:=hDl j (by omega)
 have hDak:=hDa j
 have hDnk:=hDn j
 have hDyk:=hDy j hk'
 have hKk:=hK j
 have ih:=ih (j+1,c+1) (c+1) ⟨by omega,by omega,by omega⟩ (by omega)
 simp only at ih
 obtain ⟨⟨mo,la,⟨lv,on,off,si⟩⟩,hx⟩:∃ x,s.getD j default=x:=⟨_,rfl⟩
 have e5:=e207' ⟨mo,la,⟨lv,on,off,si⟩⟩
 simp only [Bl,AU] at e5
 have h3:decide (j < (D j).length)=true:=Aj
 have w2:IntKind.i64.wrap (((W j).length:Int)+1)=(((W j).length+1:Nat):Int):=AK
 rw [hx] at hDak hDnk hDyk hKk
 cases hp:(mo == a) with
 | true=>
  have hp':Kc a ⟨mo,la,⟨lv,on,off,si⟩⟩=true:=hp
  rw [hp'] at hDnk hKk
  rw [if_neg (by decide)] at hKk
  rw [hDnk rfl,hKk] at ih
  rw [hp] at e5
  refine Aa ?_
  refine CL ?_
  refine I5 (a5 h2 h3 w1 hDak e5) ?_
  refine AD ?_ ?_ (Ax _) ih
  ·exact Adh
  ·exact MR _ _ _ _ _ _ _ _
 | false=>
  have hp':Kc a ⟨mo,la,⟨lv,on,off,si⟩⟩=false:=hp
  rw [hp'] at hDyk hKk
  rw [if_pos (show (!false)=true from rfl)] at hKk
  rw [hDyk rfl,hKk] at ih
  rw [hp] at e5
  have hm:((D j).map BY).set (W j).length (.ag [.sc (.int .i64 mo),.sc (.int .i64 la),.sc (.int .i64 lv),.sc (.int .i64 on),.sc (.int .i64 off),.sc (.int .i64 si)])=((D j).set (W j).length ⟨mo,la,⟨lv,on,off,si⟩⟩).map BY:=Ym
  have h4:decide ((W j).length < (D j).length)=true:=Aj
  have q1:decide (((W j).length:Int) < (n:Int))=true:=Aj
  obtain ⟨y,hy⟩:∃ y,(D j).getD (W j).length default=y:=⟨_,rfl⟩
  refine Aa ?_
  refine CL ?_
  refine I5 (Hk h2 h3 h4 w1 w2 q1 hDak hy hm e5) ?_
  refine AD ?_ ?_ (Ax _) ih
  ·simp (maxSteps:=10000000) only [Bk,Bg,↓reduceIte,reduceCtorEq,Nat.reduceAdd,Nat.reduceEqDiff,Cg,EX,lx5]
   all_goals done
  ·exact MR _ _ _ _ _ _ _ _
theorem R9 (c:Cd) (x:Cx) (mo i:Int) (se:Lm) (r:Ru) (h:SetQ mo r) (w e p f m:Nat) (R:List Blk) (cnt:Nat):
  ∃ m' cnt',HSpec Tryz.prog 208 [.pt 0 w 0 0,.sc (.int .i64 mo),.sc (.int .i64 i),lmA se] (C5 c x r w e p f m R) cnt (.tu []) (C5 c x (DU r mo i se) w e p f m' R) cnt':=by
 cases hz:BT r.s.act mo with
 | false=>
  have e1:DU r mo i se=r:=by rw [DU,if_neg (by rw [hz]; simp)]
  rw [e1]
  exact ⟨m,_,Amz c x mo i se r h hz w e p f m R cnt⟩
 | true=>
  cases hh:L7 ⟨mo,i,se⟩ r.s.lamps with
  | true=>exact ⟨m,_,Aiz c x mo i se r h hz hh w e p f m R cnt⟩
  | false=>exact ⟨_,_,Aj0 c x mo i se r h hz hh w e p f m R cnt⟩
theorem Aj4 (s:List Lo) (a:Int):(s.filter fun r=>!Kc a r)=R7 s a:=rfl
theorem Acy (s:List Lo) (k a b d:Int) (t:ByteArray) (b0 b1 b2 b3:Blk) (R:List Blk) (u v cnt:Nat) (hs:s.length≤100000):
  HSpec Tryz.prog 206 [.sl 4 v 0 s.length,.fn 207 [.pt (R.length+1+1+1+1+1) u 0 0]] (b0::b1::b2::b3::⟨true,v,82,6,s.map BY,false⟩::(R++[⟨true,u,73,5,[Ek ⟨k,a,b,d,t⟩],false⟩])) cnt
   (.sl 4 (cnt+s.length) 0 (R7 s a).length) (b0::b1::b2::b3::⟨true,cnt+s.length,82,6,(R7 s a).map BY,false⟩::(R++[⟨true,u,73,5,[Ek ⟨k,a,b,d,t⟩],false⟩])) (cnt+s.length+1):=by
 have h:=(Aj3 s k a b d t b0 b1 b2 b3 R u v cnt hs).cut (B:=⟨true,v,82,6,(dlS (Kc a) s).map BY,false⟩) rfl rfl
 have e:List.take (s.filter fun r=>!Kc a r).length ((dlS (Kc a) s).map BY)=(R7 s a).map BY:=by
  rw [dlS,lx12,List.take_left' (by simp)]; rfl
 rw [Aj4] at h e
 rw [e] at h
 exact h
theorem Aj5 {n lo hi:Int} (h:lo≤hi):min (max n lo) hi=D7 n lo hi:=by unfold D7; omega
structure PapQ (m:Int) (e:Ef) (r:Ru):Prop extends AppQ m e r where
 so:Hc r.s.lamps
 le:r.s.lamps.length≤90000
theorem pW {P:Prop} (h:P:=by
 refine Ag (Am (lit:=true) (pm:=fun _=>none) (.cons Aq7 (.cons Ac8 .nil)) .nil .nil .nil) rfl Tryz.func158 rfl (by decide) (by kernel_rfl) ?_
 refine Avz ?_
 simp (maxSteps:=10000000) +contextual -implicitDefEqProofs only [Bk,Bg,Ao,St.put,Ap,Al,D8,pl,Array.toList,lx6,lx7,↓reduceIte,reduceCtorEq,Nat.reduceAdd,Nat.reduceLeDiff,Nat.reduceEqDiff,Nat.reduceMul,Int.reduceEq,Int.reduceNe,Int.reduceLE,Int.reduceLT,ne_eq,Nat.reduceBEq,Nat.reduceLT,eq_self,Cu,lx8,D5,Qc,Int.reduceToNat,Nat.reduceSub,Int.reduceAdd,Int.reduceMul,Int.reduceSub,Dq,Fe,hl,Ch,Bh,Dz,CR,DK,Ci,DL,Di,Cj,Er,Es,B8,BQ,DA,Cr,AW,BR,Bu,Dt,C9,DM,Bv,Et,Bw,Eu,DN,CS,Da,CH,Ew,Fz,Ex,CI,Cb,Ck,Iq,Ey,Ez,F0,F2,DO,KI,KJ,EU,AB,AU,B4,Bl,ID,DR,AL,Ac,Bm,CJ,Ha,norefs,AV.noref,Cs,CQ,Int.reduceBNe,Int.reduceBEq,JB,Qr,WD,WE,WG,dl1,dl2,dl3,lx4,lx5,lx11,Cm,UJ,E58,u64,g1,onB,E205,i0,i1,i2,si,ge,tl,tm,hpo,tpo,Dw,DB,lx12,lx2]
 repeat' (first | exact Ae (by kernel_rfl) | refine ⟨Ae (by kernel_rfl),?_⟩ | refine And.intro ?_ ?_ | fail)
 all_goals first | exact .refl _ | exact .inl rfl | exact DY _ _ _ | skip
 all_goals done):P:=h
theorem pW2 {P:Prop} (h:P:=by
 simp only [C5,Mb,Bl,ID,DR,lx91,lx64,lx4,lx53,lx5,lx63,lx11,lx117,Nat.reduceAdd,BO,WL] at E
 refine Ag (Am (lit:=true) (pm:=fun _=>none) (.cons Aq7 (.cons Ac8 .nil)) .nil .nil (.cons kF .nil)) rfl Tryz.func158 rfl (by decide) (by kernel_rfl) ?_
 refine Avz ?_
 simp (maxSteps:=10000000) +contextual -implicitDefEqProofs only [Bk,Bg,Ao,St.put,Ap,Al,D8,pl,Array.toList,lx6,lx7,↓reduceIte,reduceCtorEq,Nat.reduceAdd,Nat.reduceLeDiff,Nat.reduceEqDiff,Nat.reduceMul,Int.reduceEq,Int.reduceNe,Int.reduceLE,Int.reduceLT,ne_eq,Nat.reduceBEq,Nat.reduceLT,eq_self,Cu,lx8,D5,Qc,Int.reduceToNat,Nat.reduceSub,Int.reduceAdd,Int.reduceMul,Int.reduceSub,Dq,Fe,hl,Ch,Bh,Dz,CR,DK,Ci,DL,Di,Cj,Er,Es,B8,BQ,DA,Cr,AW,BR,Bu,Dt,C9,DM,Bv,Et,Bw,Eu,DN,CS,Da,CH,Ew,Fz,Ex,CI,Cb,Ck,Iq,Ey,Ez,F0,F2,DO,KI,KJ,EU,AB,AU,B4,Bl,ID,DR,AL,Ac,Bm,CJ,Ha,norefs,AV.noref,Cs,CQ,Int.reduceBNe,Int.reduceBEq,JB,Qr,WD,WE,WG,dl1,dl2,dl3,lx4,lx5,lx11,Cm,UJ,E58,u64,g1,WL,E205,E,tl,tm,hpo,tpo,Dw,DB,lx12,lx2]
 repeat' (first | exact Ae (by kernel_rfl) | refine ⟨Ae (by kernel_rfl),?_⟩ | refine And.intro ?_ ?_ | fail)
 all_goals first | exact .refl _ | exact .inl rfl | exact DY _ _ _ | skip
 all_goals done):P:=h
theorem Acz (c:Cd) (x:Cx) (m:Int) (f:Ef) (r:Ru) (h:PapQ m f r) (w e p fv mv:Nat) (R:List Blk) (cnt:Nat):
  ∃ p' m' cnt',HSpec Tryz.prog 158 [.pt 0 w 0 0,.sc (.int .i64 m),Ek f] (C5 c x r w e p fv mv R) cnt (.tu []) (C5 c x (CT x m f r) w e p' fv m' R) cnt':=by
 obtain ⟨⟨h1,h2,h3,h4,h5,h6⟩,h7,h8⟩:=h
 obtain ⟨⟨zv,vars,zl,left,act,zm,lamps,fau⟩,ef,po⟩:=r
 obtain ⟨k,a,b,d,t⟩:=f
 simp only at h1 h2 h4 h5 h6 h7 h8
 have tl:(left.map (kA .i64)).take left.length=left.map (kA .i64):=lx118 (by simp)
 have tm:(lamps.map BY).take lamps.length=lamps.map BY:=lx118 (by simp)
 have hpo:decide ((po.length+1) * 24≤140737488355328)=true:=Aj
 have tpo:(po.map Eh).take po.length=po.map Eh:=lx118 (by simp)
 have E58:=fun a h=>e58 ⟨false,vars,false,left,act,false,lamps,fau⟩ a h
 simp only [AL] at E58
 have E205:=fun lo hi (h:lo≤hi) b=>Aj5 (n:=b) h ▸ Bep b lo hi
 have n:=trivial
 obtain ⟨u64,g1,i0,i1,i2,si,ge⟩:True∧True∧True∧True∧True∧True∧True:=⟨n,n,n,n,n,n,n⟩
 by_cases k1:k=21∨k=22
 ·obtain ⟨g1,g2⟩:=h1 k1
  have i0:decide (0≤a)=true:=by rw [AR]; exact g1
  have i1:decide (a < (left.length:Int))=true:=by rw [AR]; exact g2
  have i2:decide (a.toNat < left.length)=true:=Aj
  have si:∀ v:Int,(left.map (kA .i64)).set a.toNat (.sc (.int .i64 v))=(left.set a.toNat v).map (kA .i64):=fun v=>by rw [List.map_set]; rfl
  have ge:(left.map (kA .i64))[a.toNat]?=some (.sc (.int .i64 (left[a.toNat]'(by omega)))):=by rw [lx23,lx51 (by omega)]; rfl
  have E205:=E205 0 2147483647 (by decide)
  rcases k1 with rfl | rfl
  ·simp only [CT,Int.reduceEq,↓reduceIte]
   exact ⟨p,mv,cnt+1,pW⟩
  ·simp only [CT,Int.reduceEq,↓reduceIte]
   have:D7 0 0 2147483647=0:=rfl
   rw [this]
   exact ⟨p,mv,cnt+1,pW⟩
 by_cases k2:k=23∨k=24
 ·obtain ⟨g1,g2⟩:=h2 k2
  have u64:IntKind.u64.wrap a=a:=JL (by omega) (by omega)
  have E58:=E58 a ⟨by omega,by omega⟩
  cases hz:BT act a with
  | true=>
   rw [hz] at E58
   rcases k2 with rfl | rfl
   ·simp only [CT,hz,Int.reduceEq,↓reduceIte]
    exact ⟨p,mv,cnt+1,pW⟩
   simp only [CT,hz,Int.reduceEq,↓reduceIte]
   obtain ⟨F,kF,E⟩:=D1 (Acy lamps 24 a b d t (Mb c x ⟨⟨zv,vars,zl,left,WL act a,zm,lamps,fau⟩,ef,po⟩ w e p fv mv) ⟨true,e,73,5,ef.map Ek,false⟩ ⟨true,p,46,3,po.map Eh,false⟩ ⟨true,fv,3,1,left.map (kA .i64),false⟩ R cnt mv (cnt+1) (by omega))
   exact ⟨cnt+1+lamps.length+1+1,cnt+1+lamps.length,cnt+1+lamps.length+1+1+1,pW2⟩
  | false=>
   rw [hz] at E58
   rcases k2 with rfl | rfl
   ·simp only [CT,hz,Int.reduceEq,↓reduceIte,Em]
    exact ⟨cnt+1+1,mv,cnt+1+1+1,pW⟩
   simp only [CT,hz,Int.reduceEq,↓reduceIte,Em]
   exact ⟨p,mv,cnt+1,pW⟩
 by_cases k25:k=25
 ·subst k25
  simp only [CT,Int.reduceEq,↓reduceIte]
  exact ⟨cnt+1+1,mv,cnt+1+1+1,pW⟩
 by_cases k19:k=19
 ·subst k19
  have E205:=E205 0 8 (by decide)
  obtain ⟨m',c',hs⟩:=R9 c x m a ⟨D7 b 0 8,0,0,0⟩ ⟨⟨zv,vars,zl,left,act,zm,lamps,fau⟩,ef,po⟩ ⟨h3,h7,h8⟩ w e p fv mv (R++[⟨true,cnt,73,5,[Ek ⟨19,a,b,d,t⟩],false⟩]) (cnt+1)
  exact Aum
 by_cases k20:k=20
 ·subst k20
  have E205:=E205 1 1000 (by decide)
  obtain ⟨m',c',hs⟩:=R9 c x m a ⟨8,D7 b 1 1000,D7 d 1 1000,x.ti⟩ ⟨⟨zv,vars,zl,left,act,zm,lamps,fau⟩,ef,po⟩ ⟨h3,h7,h8⟩ w e p fv mv (R++[⟨true,cnt,73,5,[Ek ⟨20,a,b,d,t⟩],false⟩]) (cnt+1)
  exact Aum
 simp only [not_or] at k1 k2
 have E58:=And.intro (lx113.2 k1.1) (And.intro (lx113.2 k1.2) (And.intro (lx113.2 k2.1) (And.intro (lx113.2 k2.2) (And.intro (lx113.2 k25) (And.intro (lx113.2 k19) (lx113.2 k20))))))
 simp only [CT,k1,k2,k25,k19,k20,↓reduceIte]
 exact ⟨p,mv,cnt+1,pW⟩
theorem TE {c:Cd} {x:Cx} {r r':Ru} (h:KV r=KV r') (w e p f m:Nat) (R:List Blk):C5 c x r w e p f m R=C5 c x r' w e p f m R:=by
 have k:∀ r:Ru,C5 c x r w e p f m R=C5 c x (KV r) w e p f m R:=fun _=>rfl
 rw [k r,k r',h]
def Ba8 (c:Cd) (x:Cx) (m:Int) (args:List AV) (H:List Blk) (cnt:Nat) (a:AV) (H':List Blk) (cnt':Nat):Prop:=
 ∀ (f:Ef) (r:Ru) (w e p fv mv:Nat) (R:List Blk),args=[.pt 0 w 0 0,.sc (.int .i64 m),Ek f]→H=C5 c x r w e p fv mv R→a=.tu []∧∃ p' m',H'=C5 c x (CT x m f r) w e p' fv m' R
noncomputable def f158 (c:Cd) (x:Cx) (m:Int):=hF Tryz.prog 158 (Ba8 c x m)
theorem Ba9 (c:Cd) (x:Cx) (m:Int):Ql Tryz.prog 158 (f158 c x m):=LU _ _ _
theorem Bf5 {c:Cd} {x:Cx} {m:Int} {f:Ef} {r:Ru} (h:PapQ m f r) (w e p fv mv:Nat) (R:List Blk) (cnt:Nat):
  ∃ p' m' cnt',f158 c x m [.pt 0 w 0 0,.sc (.int .i64 m),Ek f] (C5 c x r w e p fv mv R) cnt=some (.tu [],C5 c x (CT x m f r) w e p' fv m' R,cnt'):=by
 obtain ⟨p',m',cnt',h1⟩:=Acz c x m f r h w e p fv mv R cnt
 obtain ⟨a,H',c',g1,g2⟩:=LV (D:=Ba8 c x m) h1 (by
  intro f' r' w2 e2 p2 fv2 mv2 R2 a1 a2
  simp only [lx96,Ay,D3] at a1
  obtain ⟨_,a3⟩:=a1
  obtain rfl:=Ti a3
  obtain ⟨hn,rfl,rfl,rfl,rfl,rfl,rfl⟩:=TD a2
  exact ⟨rfl,p',m',TE (by rw [←(Hw c x).app,←(Hw c x).app,hn]) _ _ _ _ _ _⟩)
 obtain ⟨rfl,p3,m3,rfl⟩:=g2 f r w e p fv mv R rfl rfl
 exact ⟨p3,m3,c',g1⟩
theorem Bf6 (Q l:List Blk) (x y z u:Blk):(Q++(x::y::z::l)).set (Q.length+2) u=Q++(x::y::u::l):=by
 rw [lx119 _ _ (by omega),IK]; rfl
theorem Sa (x:Cx) (zv:Bool) (vars:List Int) (act fau:Int) (fv mv n k:Nat) (H:List Blk) (cnt:Nat):
  HSpec Tryz.prog 78 [.ag [.vw zv (vars.map (kA .i64)),.sl 3 fv 0 n,.sc (.int .u32 act),.sl 4 mv 0 k,.sc (.int .i64 fau)],ND x] H cnt
   (.ag [.vw zv (vars.map (kA .i64)),.sl 3 fv 0 n,.sc (.int .u64 x.clo),.sc (.int .u32 act),.sc (.int .i64 x.pl'),.sc (.int .i64 x.ba)]) H (cnt+3):=by
 refine Ag (Am (lit:=true) (pm:=fun _=>none) .nil .nil .nil .nil) rfl Tryz.func78 rfl (by decide) (by kernel_rfl) ?_
 simp only [Tryz.f78,Af,lx53,lx63,Nat.reduceAdd,Nat.reduceSub,List.replicate]
 refine Aa ?_
 refine I5 @Bf6 ?_
 exact WY
theorem RuI.nfI {c:Cd} {x:Cx} {r:Ru} (h:RuI c x r):RuI c x (KV r):=h.nf rfl
theorem RuI.pap {c:Cd} {x:Cx} {r:Ru} (h:RuI c x r) {m:Int} (hm:0≤m∧m < c.pri.length) {f:Ef} (hf:EfI c f) (hp:r.po.length≤1000000):PapQ m f r:=
 ⟨h.app hm hf hp,h.so,Og h.lmp (by omega)⟩
theorem An4 (c:Cd) (x:Cx) (m:Int) (ev:Ev) (r:Ru) (h:RuI c x r) (hn:ET c m ev.tr ev.ix=none) (w e p fv mv:Nat) (R:List Blk) (cnt:Nat):
  ∃ cnt',HSpec Tryz.prog 113 [.pt 0 w 0 0,.sc (.int .i64 m),Eh ev] (C5 c x r w e p fv mv R) cnt (.sc (.bool false)) (C5 c x r w e p fv mv R) cnt':=by
 have E156:=Asm c h.fit m ev.tr ev.ix
 rw [hn] at E156
 simp only [Ac,AB] at E156
 obtain ⟨⟨zv,vars,zl,left,act,zm,lamps,fau⟩,ef,po⟩:=r
 obtain ⟨tr,ix,mo⟩:=ev
 refine ⟨cnt+1,?_⟩
 refine Ag (Am (lit:=true) (pm:=fun _=>none) (.cons Ahv .nil) .nil .nil .nil) rfl Tryz.func113 rfl (by decide) (by kernel_rfl) ?_
 refine Aqw ?_
 refine I5 E156 ?_
 exact WY
theorem Baa {c:Cd} {x:Cx} {r:Ru} (h:RuI c x r) {m tr ix:Int} {en:En} (hn:ET c m tr ix=some en):
  f157 [B5 c,.sc (.int .i64 en.pc),Ma (DQ (KV r).s x),.sc (.int .i64 1000)]=some (MO (Hi c (DQ r.s x) en.pc)):=by
 rw [Bf4 c en.pc (DQ (KV r).s x) (h.nfI.exe hn),(Hw c x).exe r en.pc]
theorem X5 (c:Cd) (x:Cx) (m:Int) (ev:Ev) (r:Ru) (h:RuI c x r) {en:En} (hn:ET c m ev.tr ev.ix=some en) (hx:Hi c (DQ r.s x) en.pc=none) (w e p fv mv:Nat) (R:List Blk) (cnt:Nat):
  ∃ cnt',HSpec Tryz.prog 113 [.pt 0 w 0 0,.sc (.int .i64 m),Eh ev] (C5 c x r w e p fv mv R) cnt (.sc (.bool false)) (C5 c x (JD r) w e p fv mv R) cnt':=by
 have E156:=Asm c h.fit m ev.tr ev.ix
 have E157:=Baa h hn
 rw [hn] at E156
 rw [hx] at E157
 simp only [Ac,AB,Bm,DQ,KV,MO,pcO,lx34,lx10] at E156 E157
 obtain ⟨F78,k78,E78⟩:=D1 (Sa x false r.s.vars r.s.act r.s.fau fv mv r.s.left.length r.s.lamps.length (C5 c x r w e p fv mv (R++[⟨true,cnt,46,3,[Eh ev],false⟩])) (cnt+1))
 obtain ⟨F105,k105,E105⟩:=D1 (Nu c x r h.fa w e p fv mv (R++[⟨true,cnt,46,3,[Eh ev],false⟩]) (cnt+1+3))
 obtain ⟨⟨zv,vars,zl,left,act,zm,lamps,fau⟩,ef,po⟩:=r
 obtain ⟨tr,ix,mo⟩:=ev
 simp only [C5,Mb,B4,CJ] at E78 E105
 have tl:(left.map (kA .i64)).take left.length=left.map (kA .i64):=lx118 (by simp)
 refine ⟨cnt+1+3,?_⟩
 refine Ag (Am (lit:=true) (pm:=fun _=>none) (.cons Ahv .nil) .nil (.cons Aq9 .nil) (.cons k78 (.cons k105 .nil))) rfl Tryz.func113 rfl (by decide) (by kernel_rfl) ?_
 refine Aqw ?_
 refine I5 (a5 E156 E157 E78 E105 tl) ?_
 exact WY
def exB (v:Nat) (f:Ef):Blk:=⟨true,v,73,5,[Ek f],false⟩
def givT (w:Nat) (m:Int) (l:List Ef) (b:Bool) (i:Int):List AV:=Cg 0 87 [(0,.pt 0 w 0 0),(1,.sc (.int .i64 m)),(10,.vw false (l.map Ek)),(13,.sc (.bool b)),(60,.vw false (l.map Ek)),(61,.sc (.int .i64 l.length)),(62,.sc (.int .i64 i))]
theorem An5 (c:Cd) (x:Cx) (m:Int) (hm:0≤m∧m < c.pri.length) (ev:Ev) (r:Ru) (h:RuI c x r) (hef:r.ef.length≤1000000) (hpo:r.po.length≤900000) {en:En} (hn:ET c m ev.tr ev.ix=some en) {y:List Int × List Ef × Nat} (hx:Hi c (DQ r.s x) en.pc=some y) (w e p fv mv:Nat) (R:List Blk) (cnt:Nat):
  ∃ e' p' m' cnt',HSpec Tryz.prog 113 [.pt 0 w 0 0,.sc (.int .i64 m),Eh ev] (C5 c x r w e p fv mv R) cnt (.sc (.bool (P3 x m r (some y)).2)) (C5 c x (P3 x m r (some y)).1 w e' p' fv m' R) cnt':=by
 have E156:=Asm c h.fit m ev.tr ev.ix
 have E157:=Baa h hn
 obtain ⟨q1,q2,q3,q4⟩:=Ty (h.exe hn) hx
 rw [hn] at E156
 rw [hx] at E157
 have hv:=Aik h q1 q2
 simp only [Ac,AB,Bm,DQ,KV,MO,pcO,lx34,lx10] at E156 E157
 obtain ⟨F78,k78,E78⟩:=D1 (Sa x false r.s.vars r.s.act r.s.fau fv mv r.s.left.length r.s.lamps.length (C5 c x r w e p fv mv (R++[⟨true,cnt,46,3,[Eh ev],false⟩])) (cnt+1))
 obtain ⟨⟨zv,vars,zl,left,act,zm,lamps,fau⟩,ef,po⟩:=r
 obtain ⟨tr,ix,mo⟩:=ev
 obtain ⟨va,l,st⟩:=y
 simp only at q1 q2 q3 q4 E157 hef hpo hv
 obtain ⟨R2,hR2⟩:∃ R2,R++[⟨true,cnt,46,3,[Eh ⟨tr,ix,mo⟩],false⟩]=R2:=⟨_,rfl⟩
 obtain ⟨r0,J8⟩:∃ r0,L1 va ⟨⟨zv,vars,zl,left,act,zm,lamps,fau⟩,ef,po⟩=r0:=⟨_,rfl⟩
 rw [J8] at hv
 have hp0:r0.po=po:=by rw [←J8]; rfl
 obtain ⟨V,hV0,hV⟩:=XV (fun i (a b:Nat × Nat × Nat)=>∀ h:i < l.length,f158 c x m [.pt 0 w 0 0,.sc (.int .i64 m),Ek l[i]] (C5 c x (appL x m (l.take i) r0) w e a.1 fv a.2.1 (R2++[exB a.2.2 l[i]])) (a.2.2+1)=
   some (.tu [],C5 c x (CT x m l[i] (appL x m (l.take i) r0)) w e b.1 fv b.2.1 (R2++[exB a.2.2 l[i]]),b.2.2)) l.length (p,mv,cnt+1+3) (fun i a hi=>by
  have g1:=Tz hm (l.take i) hv (fun f hf=>q4 f (lx38 hf))
  have g2:=Oc x m (l.take i) r0
  rw [lx68,hp0] at g2
  obtain ⟨p2,m2,c2,x1⟩:=Bf5 (c:=c) (x:=x) (g1.pap hm (q4 _ (lx90 hi)) (by omega)) w e a.1 fv a.2.1 (R2++[exB a.2.2 l[i]]) (a.2.2+1)
  exact ⟨(p2,m2,c2),fun _=>x1⟩)
 refine ⟨(V l.length).2.2,(V l.length).1,(V l.length).2.1,(V l.length).2.2+1,?_⟩
 have hr1:P3 x m ⟨⟨zv,vars,zl,left,act,zm,lamps,fau⟩,ef,po⟩ (some (va,l,st))=(XU l (appL x m l r0),l.any (fun f=>f.k == 30)):=by rw [←J8]; rfl
 rw [hr1]
 clear hr1
 simp only [C5,Mb,B4,CJ] at E78
 have tl:(left.map (kA .i64)).take left.length=left.map (kA .i64):=lx118 (by simp)
 refine Ag (Am (lit:=true) (pm:=fun _=>none) (.cons Ahv .nil) .nil (.cons Aq9 .nil) (.cons k78 (.cons (Ba9 c x m) .nil))) rfl Tryz.func113 rfl (by decide) (by kernel_rfl) ?_
 refine Aqw ?_
 refine I5 (a4 E156 E157 E78 tl) ?_
 repeat' (first | exact Ae (by kernel_rfl) | refine ⟨Ae (by kernel_rfl),?_⟩ | refine And.intro ?_ ?_ | fail)
 refine AD (T':=givT w m l false 0) (H':=C5 c x r0 w e p fv mv R2) ?_ ?_ (Ax _) ?_
 ·exact Ao3
 ·subst J8; subst hR2; simp only [C5,Mb,L1,B4,AB]; exact AS _
 refine Aw (σ:=Nat) (fun i _=>⟨givT w m l ((l.take i).any (fun f=>f.k == 30)) i,C5 c x (appL x m (l.take i) r0) w e (V i).1 fv (V i).2.1 R2,(V i).2.2⟩)
  (fun i=>i≤l.length) (fun i=>l.length - i) 0 (BX _) (EM _) (by rw [hV0]; exact AS _) (by rw [hV0]) ?_
 intro i c1 hi ih
 try simp only at hi ih ⊢
 by_cases hlt:i < l.length
 ·have x1:=hV i hlt hlt
  have ih2:=ih (i+1) 0 (by omega) (by omega)
  clear ih hV
  simp only [Aco hlt,Aid hlt] at ih2
  generalize (List.take i l).any (fun f=>f.k == 30)=b at ih2 ⊢
  generalize CT x m l[i] (appL x m (l.take i) r0)=r2 at x1 ih2
  generalize appL x m (l.take i) r0=r1 at x1 ⊢
  generalize V (i+1)=v2 at x1 ih2
  generalize V i=v1 at x1 ⊢
  have hlt':decide ((i:Int) < ((l.length:Nat):Int))=true:=Aj
  have h2:decide (i < l.length)=true:=Aj
  have hg:l.getD i default=l[i]:=by simp [List.getD,hlt]
  generalize l[i]=f at x1 ih2 hg
  obtain ⟨k,a1,a2,a3,t⟩:=f
  have w1:IntKind.i64.wrap ((i:Int)+1)=((i+1:Nat):Int):=AK
  obtain ⟨⟨zv1,vars1,zl1,left1,act1,zm1,lamps1,fau1⟩,ef1,po1⟩:=r1
  obtain ⟨⟨zv2,vars2,zl2,left2,act2,zm2,lamps2,fau2⟩,ef2,po2⟩:=r2
  subst hR2
  simp only [C5,Mb,exB,DR,B4,lx4,lx91,lx64] at x1 ih2 ⊢
  refine Aa ?_
  simp only [givT]
  refine CL ?_
  cases b
  all_goals
   refine I5 (a6 hlt' h2 hg x1 w1 @J1) ?_
   repeat' (first | exact Ae (by kernel_rfl) | refine ⟨Ae (by kernel_rfl),?_⟩ | refine And.intro ?_ ?_ | fail)
   refine AD ?_ ?_ (Ax _) ih2
   ·exact Ao3
   ·exact MR _ _ _ _ _ _ _ _
 ·obtain rfl:i=l.length:=by omega
  clear ih hV
  have hlt':decide ((l.length:Int) < ((l.length:Nat):Int))=false:=Br
  rw [lx74]
  have hef':(appL x m l r0).ef=ef:=by rw [Tw,←J8]; rfl
  generalize appL x m l r0=r1 at hef' ⊢
  obtain ⟨⟨zv',vars',zl',left',act',zm',lamps',fau'⟩,ef',po'⟩:=r1
  simp only at hef'
  subst hef'
  have tef:(ef'.map Ek).take ef'.length=ef'.map Ek:=lx118 (by simp)
  have hsz:decide ((ef'.length+l.length) * 48≤140737488355328)=true:=Aj
  subst hR2
  generalize V l.length=v3
  simp only [C5,Mb,XU]
  refine Aa ?_
  simp only [givT]
  refine CL ?_
  refine I5 (a5 hlt' hsz tef @J1 @PU) ?_
  exact WY
theorem Ad0 (c:Cd) (x:Cx) (m:Int) (hm:0≤m∧m < c.pri.length) (ev:Ev) (r:Ru) (h:RuI c x r) (hef:r.ef.length≤1000000) (hpo:r.po.length≤900000) (w e p fv mv:Nat) (R:List Blk) (cnt:Nat):
  ∃ e' p' m' cnt',HSpec Tryz.prog 113 [.pt 0 w 0 0,.sc (.int .i64 m),Eh ev] (C5 c x r w e p fv mv R) cnt (.sc (.bool (D2 c x m ev r).2)) (C5 c x (D2 c x m ev r).1 w e' p' fv m' R) cnt':=by
 cases hn:ET c m ev.tr ev.ix with
 | none=>
  have hr:D2 c x m ev r=(r,false):=by rw [D2,hn]
  rw [hr]
  obtain ⟨c',h1⟩:=An4 c x m ev r h hn w e p fv mv R cnt
  exact ⟨e,p,mv,c',h1⟩
 | some en=>
  have hr:D2 c x m ev r=P3 x m r (Hi c (DQ r.s x) en.pc):=by rw [D2,hn]
  rw [hr]
  cases hx:Hi c (DQ r.s x) en.pc with
  | none=>
   obtain ⟨c',h1⟩:=X5 c x m ev r h hn hx w e p fv mv R cnt
   exact ⟨e,p,mv,c',h1⟩
  | some y=>exact An5 c x m hm ev r h hef hpo hn hx w e p fv mv R cnt
end Go.Proofs.YtdjpkhjaibdogaaGreat
