/-
  Lemmas towards ModesPriority (joined texts: GM, GN, GO, GP).
  Conditions: none.
-/
import Derived.Test.YtdjpkhjaibdogaaGreatL01
import Derived.Test.YtdjpkhjaibdogaaGreatL02
import Derived.Test.YtdjpkhjaibdogaaGreatL50
import Derived.Test.YtdjpkhjaibdogaaGreatL22
set_option linter.unusedSimpArgs false
set_option linter.unusedVariables false
set_option maxRecDepth 100000
set_option maxHeartbeats 8000000
namespace Go.Proofs.YtdjpkhjaibdogaaGreat
open Go Go.SX
attribute [local congr] ite_congr
def L1 (p:Lo→Bool) (s:List Lo):Nat→List Lo
 | 0=>[]
 | k+1=>if p (s.getD k default)=true then L1 p s k++[s.getD k default] else L1 p s k
theorem Ny (p:Lo→Bool) (s:List Lo):∀ k,(L1 p s k).length≤k
 | 0=>Av _
 | k+1=>by
  have:=Ny p s k
  rw [L1]
  split
  ·simp; omega
  ·omega
theorem Aab (p:Lo→Bool) (s:List Lo):∀ k,k≤s.length→L1 p s k=(s.take k).filter p
 | 0,_=>by simp [L1]
 | k+1,h=>by
  have hg:s.getD k default=s[k]:=Ajw
  rw [L1,Aab p s k (by omega),lx109 (by omega),List.filter_append,hg]
  by_cases hp:p s[k]=true
  ·rw [if_pos hp,List.filter_cons_of_pos hp,List.filter_nil]
  ·rw [if_neg hp,List.filter_cons_of_neg hp,List.filter_nil,lx66]
theorem Aug (p:Lo→Bool) (s:List Lo):L1 p s s.length=s.filter p:=by
 rw [Aab p s _ (Av _),lx73]
theorem Aq2 {α:Type} [Inhabited α] (p:α→Bool) (l:List α):(∃ r,r < l.length∧p (l.getD r default)=true∧∀ j,j < r→p (l.getD j default)=false)∨∀ j,j < l.length→p (l.getD j default)=false:=by
 have key:∀ k,k≤l.length→(∃ r,r < l.length∧p (l.getD r default)=true∧∀ j,j < r→p (l.getD j default)=false)∨∀ j,j < k→p (l.getD j default)=false:=by
  intro k
  induction k with
  | zero=>intro _; right; intro j hj; omega
  | succ k ih=>
   intro hk
   rcases ih (by omega) with h | h
   ·exact .inl h
   ·cases hp:p (l.getD k default) with
    | true=>exact .inl ⟨k,by omega,hp,h⟩
    | false=>exact .inr (De h hp)
 exact key _ (Av _)
def mvN (p:Lo→Bool) (s:List Lo) (k:Nat):List Lo:=L1 p s k++s.drop (L1 p s k).length
theorem Auh (p:Lo→Bool) (s:List Lo) (k:Nat) (hk:k≤s.length):(mvN p s k).length=s.length:=by
 have:=Ny p s k
 simp only [mvN,lx7,lx92]; omega
theorem Bbn (p:Lo→Bool) (s:List Lo) (k:Nat):(mvN p s k).getD k default=s.getD k default:=by
 have:=Ny p s k
 rw [mvN,lx81,lx62 this,lx20,lx81]
 congr 2; omega
theorem Bbo (p:Lo→Bool) (s:List Lo) (k:Nat) (h:p (s.getD k default)=false):mvN p s (k+1)=mvN p s k:=by
 have e:L1 p s (k+1)=L1 p s k:=by rw [L1,h,if_neg (by decide)]
 rw [mvN,mvN,e]
theorem Aui (p:Lo→Bool) (s:List Lo) (k:Nat) (hk:k < s.length) (h:p (s.getD k default)=true):mvN p s (k+1)=(mvN p s k).set (L1 p s k).length (s.getD k default):=by
 have hl:=Ny p s k
 have e:L1 p s (k+1)=L1 p s k++[s.getD k default]:=by rw [L1,if_pos h]
 simp only [mvN,e,lx7,lx52,lx63,CL]
 rw [List.set_append_right _ _ (Av _),Nat.sub_self]
 have hd:s.drop (L1 p s k).length=s[(L1 p s k).length]::s.drop ((L1 p s k).length+1):=lx76 (by omega)
 rw [hd,lx111,lx6]; rfl
def dlS (p:Lo→Bool) (s:List Lo):List Lo:=s.filter (fun r=>!p r)++List.replicate (s.length - (s.filter (fun r=>!p r)).length) default
theorem Aq3 (p:Lo→Bool) (s:List Lo) (h:∀ j,j < s.length→p (s.getD j default)=false):s.filter (fun r=>!p r)=s:=by
 rw [List.filter_eq_self]
 intro a ha
 obtain ⟨j,hj,rfl⟩:=lx69 ha
 have:=h j hj
 rw [lx81,lx50 hj,lx4] at this
 rw [this]; rfl
theorem Auj (p:Lo→Bool) (s:List Lo) (W:List Lo) (hW:W=s.filter fun r=>!p r) (z:AV) (hz:z=B6 default):
  List.take W.length ((W++s.drop W.length).map B6)++List.replicate (s.length - W.length) z++List.drop (W.length+(s.length - W.length)) ((W++s.drop W.length).map B6)=(dlS p s).map B6:=by
 subst hW hz
 have hl:(s.filter fun r=>!p r).length≤s.length:=List.length_filter_le _ _
 rw [dlS,lx10,lx10,List.take_left' (by simp),List.map_replicate,lx75 (by simp),lx66]
theorem Ou (b0 b1 b2 b3 b4:Blk) (R:List Blk) (x y:Blk):JQ (b0::b1::b2::b3::b4::(R++[x,y])) (b0::b1::b2::b3::b4::(R++[x])):=by
 have:=DN [y] (b0::b1::b2::b3::b4::(R++[x]))
 simpa only [lx90,lx6,lx64] using this
def KV (a:Int) (y:Lo):Bool:=y.mo == a
theorem Aq4 (s:List Lo) (k a b d:Int) (t:ByteArray) (b0 b1 b2 b3:Blk) (R:List Blk) (u v cnt:Nat) (hs:s.length≤100000):
  HSpec Tryz.prog 206 [.sl 4 v 0 s.length,.fn 207 [.pt (R.length+1+1+1+1+1) u 0 0]] (b0::b1::b2::b3::⟨true,v,82,6,s.map B6,false⟩::(R++[⟨true,u,73,5,[EJ ⟨k,a,b,d,t⟩],false⟩])) cnt
   (.sl 4 v 0 (s.filter fun r=>!KV a r).length) (b0::b1::b2::b3::⟨true,v,82,6,(dlS (KV a) s).map B6,false⟩::(R++[⟨true,u,73,5,[EJ ⟨k,a,b,d,t⟩],false⟩])) (cnt+s.length):=by
 have e207':=fun y=>Bk5 y ⟨k,a,b,d,t⟩
 obtain ⟨F232,k232,e232⟩:=I9 (Bk6 Axn (KV a) [EJ ⟨k,a,b,d,t⟩] false s (fun y _=>Bk5 y ⟨k,a,b,d,t⟩) (by omega))
 simp only [DK,AL] at e207' e232
 refine Ad (Af (lit:=false) (pm:=fun _=>none) (.cons k232 (.cons Axn .nil)) .nil .nil .nil) rfl Tryz.func206 rfl (by decide) (by kernel_rfl) ?_
 simp only [Tryz.f206,Ae,lx52,lx63,Nat.reduceAdd,Nat.reduceSub,List.replicate]
 obtain ⟨n,hnn⟩:∃ n,s.length=n:=⟨_,rfl⟩
 rw [hnn] at hs ⊢
 have ht:List.take n (s.map B6)=s.map B6:=lx12 (by simp [hnn])
 refine Ac ?_
 rcases Aq2 (KV a) s with ⟨r,hr,hp,hno⟩ | hno
 rotate_left
 ·have e1:=e232
  rw [Vv hno] at e1
  have hW:=Aq3 (KV a) s hno
  have hD:dlS (KV a) s=s:=by rw [dlS,hW,Nat.sub_self]; simp
  rw [hW,hD,hnn]
  refine Lh (a2 ht e1) ?_
  repeat' (first | exact Aa (by kernel_rfl) | refine ⟨Aa (by kernel_rfl),?_⟩ | refine And.intro ?_ ?_ | fail)
  all_goals first | exact .refl _ | exact .inl rfl | exact Ci _ _ _ | exact Nat.le_add_right _ _ | skip
  all_goals done
 have e1:=e232
 rw [Mz hr hp hno] at e1
 rw [hnn] at hr
 have c0:((r:Int) == -1)=false:=JF
 have w0:IntKind.i64.wrap ((r:Int)+1)=((r+1:Nat):Int):=CT
 have hA:=Aug (fun r=>!KV a r) s
 rw [hnn] at hA
 have hend:=Auj (KV a) s (L1 (fun r=>!KV a r) s n) hA (.ag [.sc (.int .i64 0),.sc (.int .i64 0),.sc (.int .i64 0),.sc (.int .i64 0),.sc (.int .i64 0),.sc (.int .i64 0)]) rfl
 rw [←hA]
 have hL:=Ny (fun r=>!KV a r) s
 have hDl:=Auh (fun r=>!KV a r) s
 have hDa:=Bbn (fun r=>!KV a r) s
 have hDn:=Bbo (fun r=>!KV a r) s
 have hDy:=Aui (fun r=>!KV a r) s
 have hK:∀ k,L1 (fun r=>!KV a r) s (k+1)=if (!KV a (s.getD k default))=true then L1 (fun r=>!KV a r) s k++[s.getD k default] else L1 (fun r=>!KV a r) s k:=fun k=>rfl
 have hD0:mvN (fun r=>!KV a r) s (r+1)=s∧(L1 (fun r=>!KV a r) s (r+1)).length=r:=by
  have key:∀ k,k≤r→L1 (fun r=>!KV a r) s k=s.take k:=by
   intro k
   induction k with
   | zero=>intro _; rfl
   | succ k ih=>
    intro hk
    rw [hK,ih (by omega),hno k (by omega),if_pos (show (!false)=true from rfl),lx109 (by omega)]
    rw [lx81,lx50 (by omega),lx4]
  have e:L1 (fun r=>!KV a r) s (r+1)=s.take r:=by rw [hK,hp,if_neg (by decide),key r (Av _)]
  have el:(s.take r).length=r:=by rw [lx68]; omega
  rw [mvN,e,el]
  exact ⟨lx67 _ _,rfl⟩
 have hDd:mvN (fun r=>!KV a r) s n=L1 (fun r=>!KV a r) s n++s.drop (L1 (fun r=>!KV a r) s n).length:=rfl
 rw [←hDd,hnn] at hend
 obtain ⟨W,hW⟩:∃ W,L1 (fun r=>!KV a r) s=W:=⟨_,rfl⟩
 obtain ⟨D,hD⟩:∃ D,mvN (fun r=>!KV a r) s=D:=⟨_,rfl⟩
 simp only [hW,hD,hnn] at hL hDl hDa hDn hDy hK hD0 hend ⊢
 clear hA hDd
 refine Lh (a4 ht e1 c0 w0) ?_
 refine Az (σ:=Nat × Nat) (fun y _=>⟨CW 0 42 [(0,.sl 4 v 0 n),(1,.fn 207 [.pt (R.length+1+1+1+1+1) u 0 0]),(5,.sc (.int .i64 (W y.1).length)),(6,.sc (.int .i64 y.1))],b0::b1::b2::b3::⟨true,v,82,6,(D y.1).map B6,false⟩::(R++[⟨true,u,73,5,[EJ ⟨k,a,b,d,t⟩],false⟩]),y.2⟩)
  (fun y=>r < y.1∧y.1≤n∧y.2+r+1≤cnt+y.1) (fun y=>n - y.1) (r+1,cnt) ⟨by simp,by omega,by simp; omega⟩ ?_ ?_ rfl ?_
 ·simp only [hD0.2]
  exact Ayd
 ·simp only [hD0.1,DK]
  exact Aq _
 rintro ⟨j,c⟩ _ ⟨hk0,hk,hc⟩ ih
 simp only at hk0 hk hc
 have hLk:=hL j
 by_cases hk':j < n
 rotate_left
 ·obtain rfl:j=n:=by omega
  have h2:decide ((j:Int) < (j:Int))=false:=AZ
  have q1:decide ((0:Int)≤((W j).length:Int))=true:=Au
  have q2:decide (((W j).length:Int)≤(j:Int))=true:=Au
  refine Ac ?_
  refine Cb ?_
  refine Lh (a3 h2 q2 hend) ?_
  repeat' (first | exact Aa (by kernel_rfl) | refine ⟨Aa (by kernel_rfl),?_⟩ | refine And.intro ?_ ?_ | fail)
  all_goals first | exact .refl _ | exact .inl rfl | exact Ci _ _ _ | exact Nat.le_of_lt (Lg (Nat.lt_succ_of_le (Nat.le_add_right c r)) hc) | skip
  all_goals done
 have h2:decide ((j:Int) < (n:Int))=true:=Au
 have w1:IntKind.i64.wrap ((j:Int)+1)=((j+1:Nat):Int):=CT
 have hDlk:=hDl j (by omega)
 have hDak:=hDa j
 have hDnk:=hDn j
 have hDyk:=hDy j hk'
 have hKk:=hK j
 have ih:=ih (j+1,c+1) (c+1) ⟨by omega,by omega,by omega⟩ (by omega)
 simp only at ih
 obtain ⟨⟨mo,la,⟨lv,on,off,si⟩⟩,hx⟩:∃ x,s.getD j default=x:=⟨_,rfl⟩
 have e5:=e207' ⟨mo,la,⟨lv,on,off,si⟩⟩
 simp only [BS,Bb] at e5
 have h3:decide (j < (D j).length)=true:=Au
 have w2:IntKind.i64.wrap (((W j).length:Int)+1)=(((W j).length+1:Nat):Int):=CT
 rw [hx] at hDak hDnk hDyk hKk
 cases hp:(mo == a) with
 | true=>
  have hp':KV a ⟨mo,la,⟨lv,on,off,si⟩⟩=true:=hp
  rw [hp'] at hDnk hKk
  rw [if_neg (by decide)] at hKk
  rw [hDnk rfl,hKk] at ih
  rw [hp] at e5
  refine Ac ?_
  refine Cb ?_
  refine Lh (a5 h2 h3 w1 hDak e5) ?_
  refine AB ?_ ?_ (Av _) ih
  ·exact Ayd
  ·exact Ou _ _ _ _ _ _ _ _
 | false=>
  have hp':KV a ⟨mo,la,⟨lv,on,off,si⟩⟩=false:=hp
  rw [hp'] at hDyk hKk
  rw [if_pos (show (!false)=true from rfl)] at hKk
  rw [hDyk rfl,hKk] at ih
  rw [hp] at e5
  have hm:((D j).map B6).set (W j).length (.ag [.sc (.int .i64 mo),.sc (.int .i64 la),.sc (.int .i64 lv),.sc (.int .i64 on),.sc (.int .i64 off),.sc (.int .i64 si)])=((D j).set (W j).length ⟨mo,la,⟨lv,on,off,si⟩⟩).map B6:=by rw [List.map_set]; rfl
  have h4:decide ((W j).length < (D j).length)=true:=Au
  have q1:decide (((W j).length:Int) < (n:Int))=true:=Au
  obtain ⟨y,hy⟩:∃ y,(D j).getD (W j).length default=y:=⟨_,rfl⟩
  refine Ac ?_
  refine Cb ?_
  refine Lh (HO h2 h3 h4 w1 w2 q1 hDak hy hm e5) ?_
  refine AB ?_ ?_ (Av _) ih
  ·simp (maxSteps:=10000000) only [AX,AT,↓reduceIte,reduceCtorEq,Nat.reduceAdd,Nat.reduceEqDiff,CW,Jw,lx7]
   all_goals done
  ·exact Ou _ _ _ _ _ _ _ _
theorem UY (c:Cd) (x:Cx) (mo i:Int) (se:Lm) (r:Ru) (h:SetQ mo r) (w e p f m:Nat) (R:List Blk) (cnt:Nat):
  ∃ m' cnt',HSpec Tryz.prog 208 [.pt 0 w 0 0,.sc (.int .i64 mo),.sc (.int .i64 i),lmA se] (Df c x r w e p f m R) cnt (.tu []) (Df c x (Eh r mo i se) w e p f m' R) cnt':=by
 cases hz:B7 r.s.act mo with
 | false=>
  have e1:Eh r mo i se=r:=by rw [Eh,if_neg (by rw [hz]; simp)]
  rw [e1]
  exact ⟨m,_,Auf c x mo i se r h hz w e p f m R cnt⟩
 | true=>
  cases hh:Nx ⟨mo,i,se⟩ r.s.lamps with
  | true=>exact ⟨m,_,Aq0 c x mo i se r h hz hh w e p f m R cnt⟩
  | false=>exact ⟨_,_,Aq1 c x mo i se r h hz hh w e p f m R cnt⟩
theorem Aq5 (s:List Lo) (a:Int):(s.filter fun r=>!KV a r)=UT s a:=rfl
theorem Aj8 (s:List Lo) (k a b d:Int) (t:ByteArray) (b0 b1 b2 b3:Blk) (R:List Blk) (u v cnt:Nat) (hs:s.length≤100000):
  HSpec Tryz.prog 206 [.sl 4 v 0 s.length,.fn 207 [.pt (R.length+1+1+1+1+1) u 0 0]] (b0::b1::b2::b3::⟨true,v,82,6,s.map B6,false⟩::(R++[⟨true,u,73,5,[EJ ⟨k,a,b,d,t⟩],false⟩])) cnt
   (.sl 4 (cnt+s.length) 0 (UT s a).length) (b0::b1::b2::b3::⟨true,cnt+s.length,82,6,(UT s a).map B6,false⟩::(R++[⟨true,u,73,5,[EJ ⟨k,a,b,d,t⟩],false⟩])) (cnt+s.length+1):=by
 have h:=(Aq4 s k a b d t b0 b1 b2 b3 R u v cnt hs).cut (B:=⟨true,v,82,6,(dlS (KV a) s).map B6,false⟩) rfl rfl
 have e:List.take (s.filter fun r=>!KV a r).length ((dlS (KV a) s).map B6)=(UT s a).map B6:=by
  rw [dlS,lx10,List.take_left' (by simp)]; rfl
 rw [Aq5] at h e
 rw [e] at h
 exact h
theorem Aq6 {n lo hi:Int} (h:lo≤hi):min (max n lo) hi=D7 n lo hi:=by unfold D7; omega
structure PapQ (m:Int) (e:Ef) (r:Ru):Prop extends AppQ m e r where
 so:HN r.s.lamps
 le:r.s.lamps.length≤90000
theorem pW {P:Prop} (h:P:=by
 refine Ad (Af (lit:=true) (pm:=fun _=>none) (.cons Axm (.cons Aid .nil)) .nil .nil .nil) rfl Tryz.func158 rfl (by decide) (by kernel_rfl) ?_
 refine Be4 ?_
 simp (maxSteps:=10000000) +contextual -implicitDefEqProofs only [AX,AT,Ao,St.put,Am,Aj,Ds,pl,Array.toList,lx8,lx9,↓reduceIte,reduceCtorEq,Nat.reduceAdd,Nat.reduceLeDiff,Nat.reduceEqDiff,Nat.reduceMul,Int.reduceEq,Int.reduceNe,Int.reduceLE,Int.reduceLT,ne_eq,Nat.reduceBEq,Nat.reduceLT,eq_self,Cl,ite_self,CS,Se,Int.reduceToNat,Nat.reduceSub,Int.reduceAdd,Int.reduceMul,Int.reduceSub,B9,DO,hl,Bm,Bg,Db,Cp,ET,Cg,JW,Ch,BZ,Lv,Lw,Bo,Bn,CH,GF,C3,Eo,HQ,IQ,HS,IS,Be,Ep,CN,Lx,JX,Hc,HT,Gq,Ly,NP,Lz,Gr,CY,B4,Vw,LB,LC,NQ,NR,JY,Ab1,Ab2,DW,AL,Bb,Cq,BS,HZ,DK,Bf,Ai,Dq,E6,Aon,norefs,AV.noref,Gb,Ha,Int.reduceBNe,Int.reduceBEq,ZO,ZP,Abz,Aik,Ail,dl1,dl2,dl3,lx6,lx7,lx5,Es,Ro,E58,u64,g1,onB,E205,i0,i1,i2,si,ge,tl,tm,hpo,tpo,DH,UL,lx10,lx1]
 repeat' (first | exact Aa (by kernel_rfl) | refine ⟨Aa (by kernel_rfl),?_⟩ | refine And.intro ?_ ?_ | fail)
 all_goals first | exact .refl _ | exact .inl rfl | exact Ci _ _ _ | skip
 all_goals done):P:=h
theorem pW2 {P:Prop} (h:P:=by
 simp only [Df,O9,BS,HZ,DK,lx90,lx64,lx6,lx52,lx7,lx63,lx5,lx111,Nat.reduceAdd,CL,Aa3] at E
 refine Ad (Af (lit:=true) (pm:=fun _=>none) (.cons Axm (.cons Aid .nil)) .nil .nil (.cons kF .nil)) rfl Tryz.func158 rfl (by decide) (by kernel_rfl) ?_
 refine Be4 ?_
 simp (maxSteps:=10000000) +contextual -implicitDefEqProofs only [AX,AT,Ao,St.put,Am,Aj,Ds,pl,Array.toList,lx8,lx9,↓reduceIte,reduceCtorEq,Nat.reduceAdd,Nat.reduceLeDiff,Nat.reduceEqDiff,Nat.reduceMul,Int.reduceEq,Int.reduceNe,Int.reduceLE,Int.reduceLT,ne_eq,Nat.reduceBEq,Nat.reduceLT,eq_self,Cl,ite_self,CS,Se,Int.reduceToNat,Nat.reduceSub,Int.reduceAdd,Int.reduceMul,Int.reduceSub,B9,DO,hl,Bm,Bg,Db,Cp,ET,Cg,JW,Ch,BZ,Lv,Lw,Bo,Bn,CH,GF,C3,Eo,HQ,IQ,HS,IS,Be,Ep,CN,Lx,JX,Hc,HT,Gq,Ly,NP,Lz,Gr,CY,B4,Vw,LB,LC,NQ,NR,JY,Ab1,Ab2,DW,AL,Bb,Cq,BS,HZ,DK,Bf,Ai,Dq,E6,Aon,norefs,AV.noref,Gb,Ha,Int.reduceBNe,Int.reduceBEq,ZO,ZP,Abz,Aik,Ail,dl1,dl2,dl3,lx6,lx7,lx5,Es,Ro,E58,u64,g1,Aa3,E205,E,tl,tm,hpo,tpo,DH,UL,lx10,lx1]
 repeat' (first | exact Aa (by kernel_rfl) | refine ⟨Aa (by kernel_rfl),?_⟩ | refine And.intro ?_ ?_ | fail)
 all_goals first | exact .refl _ | exact .inl rfl | exact Ci _ _ _ | skip
 all_goals done):P:=h
theorem Aj9 (c:Cd) (x:Cx) (m:Int) (f:Ef) (r:Ru) (h:PapQ m f r) (w e p fv mv:Nat) (R:List Blk) (cnt:Nat):
  ∃ p' m' cnt',HSpec Tryz.prog 158 [.pt 0 w 0 0,.sc (.int .i64 m),EJ f] (Df c x r w e p fv mv R) cnt (.tu []) (Df c x (CO x m f r) w e p' fv m' R) cnt':=by
 obtain ⟨⟨h1,h2,h3,h4,h5,h6⟩,h7,h8⟩:=h
 obtain ⟨⟨zv,vars,zl,left,act,zm,lamps,fau⟩,ef,po⟩:=r
 obtain ⟨k,a,b,d,t⟩:=f
 simp only at h1 h2 h4 h5 h6 h7 h8
 have tl:(left.map (kA .i64)).take left.length=left.map (kA .i64):=lx12 (by simp)
 have tm:(lamps.map B6).take lamps.length=lamps.map B6:=lx12 (by simp)
 have hpo:decide ((po.length+1) * 24≤140737488355328)=true:=Au
 have tpo:(po.map Hq).take po.length=po.map Hq:=lx12 (by simp)
 have E58:=fun a h=>e58 ⟨false,vars,false,left,act,false,lamps,fau⟩ a h
 simp only [Bf] at E58
 have E205:=fun lo hi (h:lo≤hi) b=>Aq6 (n:=b) h ▸ Bqa b lo hi
 have n:=trivial
 obtain ⟨u64,g1,i0,i1,i2,si,ge⟩:True∧True∧True∧True∧True∧True∧True:=⟨n,n,n,n,n,n,n⟩
 by_cases k1:k=21∨k=22
 ·obtain ⟨g1,g2⟩:=h1 k1
  have i0:decide (0≤a)=true:=by rw [Bw]; exact g1
  have i1:decide (a < (left.length:Int))=true:=by rw [Bw]; exact g2
  have i2:decide (a.toNat < left.length)=true:=Au
  have si:∀ v:Int,(left.map (kA .i64)).set a.toNat (.sc (.int .i64 v))=(left.set a.toNat v).map (kA .i64):=fun v=>by rw [List.map_set]; rfl
  have ge:(left.map (kA .i64))[a.toNat]?=some (.sc (.int .i64 (left[a.toNat]'(by omega)))):=by rw [lx23,lx50 (by omega)]; rfl
  have E205:=E205 0 2147483647 (by decide)
  rcases k1 with rfl | rfl
  ·simp only [CO,Int.reduceEq,↓reduceIte]
   exact ⟨p,mv,cnt+1,pW⟩
  ·simp only [CO,Int.reduceEq,↓reduceIte]
   have:D7 0 0 2147483647=0:=rfl
   rw [this]
   exact ⟨p,mv,cnt+1,pW⟩
 by_cases k2:k=23∨k=24
 ·obtain ⟨g1,g2⟩:=h2 k2
  have u64:IntKind.u64.wrap a=a:=Ie (by omega) (by omega)
  have E58:=E58 a ⟨by omega,by omega⟩
  cases hz:B7 act a with
  | true=>
   rw [hz] at E58
   rcases k2 with rfl | rfl
   ·simp only [CO,hz,Int.reduceEq,↓reduceIte]
    exact ⟨p,mv,cnt+1,pW⟩
   simp only [CO,hz,Int.reduceEq,↓reduceIte]
   obtain ⟨F,kF,E⟩:=DU (Aj8 lamps 24 a b d t (O9 c x ⟨⟨zv,vars,zl,left,Aa3 act a,zm,lamps,fau⟩,ef,po⟩ w e p fv mv) ⟨true,e,73,5,ef.map EJ,false⟩ ⟨true,p,46,3,po.map Hq,false⟩ ⟨true,fv,3,1,left.map (kA .i64),false⟩ R cnt mv (cnt+1) (by omega))
   exact ⟨cnt+1+lamps.length+1+1,cnt+1+lamps.length,cnt+1+lamps.length+1+1+1,pW2⟩
  | false=>
   rw [hz] at E58
   rcases k2 with rfl | rfl
   ·simp only [CO,hz,Int.reduceEq,↓reduceIte,DD]
    exact ⟨cnt+1+1,mv,cnt+1+1+1,pW⟩
   simp only [CO,hz,Int.reduceEq,↓reduceIte,DD]
   exact ⟨p,mv,cnt+1,pW⟩
 by_cases k25:k=25
 ·subst k25
  simp only [CO,Int.reduceEq,↓reduceIte]
  exact ⟨cnt+1+1,mv,cnt+1+1+1,pW⟩
 by_cases k19:k=19
 ·subst k19
  have E205:=E205 0 8 (by decide)
  obtain ⟨m',c',hs⟩:=UY c x m a ⟨D7 b 0 8,0,0,0⟩ ⟨⟨zv,vars,zl,left,act,zm,lamps,fau⟩,ef,po⟩ ⟨h3,h7,h8⟩ w e p fv mv (R++[⟨true,cnt,73,5,[EJ ⟨19,a,b,d,t⟩],false⟩]) (cnt+1)
  exact Bcx
 by_cases k20:k=20
 ·subst k20
  have E205:=E205 1 1000 (by decide)
  obtain ⟨m',c',hs⟩:=UY c x m a ⟨8,D7 b 1 1000,D7 d 1 1000,x.ti⟩ ⟨⟨zv,vars,zl,left,act,zm,lamps,fau⟩,ef,po⟩ ⟨h3,h7,h8⟩ w e p fv mv (R++[⟨true,cnt,73,5,[EJ ⟨20,a,b,d,t⟩],false⟩]) (cnt+1)
  exact Bcx
 simp only [not_or] at k1 k2
 have E58:=And.intro (lx108.2 k1.1) (And.intro (lx108.2 k1.2) (And.intro (lx108.2 k2.1) (And.intro (lx108.2 k2.2) (And.intro (lx108.2 k25) (And.intro (lx108.2 k19) (lx108.2 k20))))))
 simp only [CO,k1,k2,k25,k19,k20,↓reduceIte]
 exact ⟨p,mv,cnt+1,pW⟩
theorem Ach {c:Cd} {x:Cx} {r r':Ru} (h:UX r=UX r') (w e p f m:Nat) (R:List Blk):Df c x r w e p f m R=Df c x r' w e p f m R:=by
 have k:∀ r:Ru,Df c x r w e p f m R=Df c x (UX r) w e p f m R:=fun _=>rfl
 rw [k r,k r',h]
def Bkz (c:Cd) (x:Cx) (m:Int) (args:List AV) (H:List Blk) (cnt:Nat) (a:AV) (H':List Blk) (cnt':Nat):Prop:=
 ∀ (f:Ef) (r:Ru) (w e p fv mv:Nat) (R:List Blk),args=[.pt 0 w 0 0,.sc (.int .i64 m),EJ f]→H=Df c x r w e p fv mv R→a=.tu []∧∃ p' m',H'=Df c x (CO x m f r) w e p' fv m' R
noncomputable def f158 (c:Cd) (x:Cx) (m:Int):=hF Tryz.prog 158 (Bkz c x m)
theorem Bl0 (c:Cd) (x:Cx) (m:Int):Jo Tryz.prog 158 (f158 c x m):=Ee _ _ _
theorem Bre {c:Cd} {x:Cx} {m:Int} {f:Ef} {r:Ru} (h:PapQ m f r) (w e p fv mv:Nat) (R:List Blk) (cnt:Nat):
  ∃ p' m' cnt',f158 c x m [.pt 0 w 0 0,.sc (.int .i64 m),EJ f] (Df c x r w e p fv mv R) cnt=some (.tu [],Df c x (CO x m f r) w e p' fv m' R,cnt'):=by
 obtain ⟨p',m',cnt',h1⟩:=Aj9 c x m f r h w e p fv mv R cnt
 obtain ⟨a,H',c',g1,g2⟩:=O7 (D:=Bkz c x m) h1 (by
  intro f' r' w2 e2 p2 fv2 mv2 R2 a1 a2
  simp only [lx94,AW,C5] at a1
  obtain ⟨_,a3⟩:=a1
  obtain rfl:=Wj a3
  obtain ⟨hn,rfl,rfl,rfl,rfl,rfl,rfl⟩:=WD a2
  exact ⟨rfl,p',m',Ach (by rw [←(Jg c x).app,←(Jg c x).app,hn]) _ _ _ _ _ _⟩)
 obtain ⟨rfl,p3,m3,rfl⟩:=g2 f r w e p fv mv R rfl rfl
 exact ⟨p3,m3,c',g1⟩
theorem Brf (Q l:List Blk) (x y z u:Blk):(Q++(x::y::z::l)).set (Q.length+2) u=Q++(x::y::u::l):=by
 rw [List.set_append_right _ _ (by omega),KW]; rfl
theorem UZ (x:Cx) (zv:Bool) (vars:List Int) (act fau:Int) (fv mv n k:Nat) (H:List Blk) (cnt:Nat):
  HSpec Tryz.prog 78 [.ag [.vw zv (vars.map (kA .i64)),.sl 3 fv 0 n,.sc (.int .u32 act),.sl 4 mv 0 k,.sc (.int .i64 fau)],ZH x] H cnt
   (.ag [.vw zv (vars.map (kA .i64)),.sl 3 fv 0 n,.sc (.int .u64 x.clo),.sc (.int .u32 act),.sc (.int .i64 x.pl'),.sc (.int .i64 x.ba)]) H (cnt+3):=by
 refine Ad (Af (lit:=true) (pm:=fun _=>none) .nil .nil .nil .nil) rfl Tryz.func78 rfl (by decide) (by kernel_rfl) ?_
 simp only [Tryz.f78,Ae,lx52,lx63,Nat.reduceAdd,Nat.reduceSub,List.replicate]
 refine Ac ?_
 refine Lh @Brf ?_
 exact qc4
theorem RuI.nfI {c:Cd} {x:Cx} {r:Ru} (h:RuI c x r):RuI c x (UX r):=h.nf rfl
theorem RuI.pap {c:Cd} {x:Cx} {r:Ru} (h:RuI c x r) {m:Int} (hm:0≤m∧m < c.pri.length) {f:Ef} (hf:EfI c f) (hp:r.po.length≤1000000):PapQ m f r:=
 ⟨h.app hm hf hp,h.so,Qv h.lmp (by omega)⟩
theorem Auk (c:Cd) (x:Cx) (m:Int) (ev:Ev) (r:Ru) (h:RuI c x r) (hn:Eg c m ev.tr ev.ix=none) (w e p fv mv:Nat) (R:List Blk) (cnt:Nat):
  ∃ cnt',HSpec Tryz.prog 113 [.pt 0 w 0 0,.sc (.int .i64 m),Hq ev] (Df c x r w e p fv mv R) cnt (.sc (.bool false)) (Df c x r w e p fv mv R) cnt':=by
 have E156:=Bb5 c h.fit m ev.tr ev.ix
 rw [hn] at E156
 simp only [Ai,AL] at E156
 obtain ⟨⟨zv,vars,zl,left,act,zm,lamps,fau⟩,ef,po⟩:=r
 obtain ⟨tr,ix,mo⟩:=ev
 refine ⟨cnt+1,?_⟩
 refine Ad (Af (lit:=true) (pm:=fun _=>none) (.cons Aom .nil) .nil .nil .nil) rfl Tryz.func113 rfl (by decide) (by kernel_rfl) ?_
 refine Ayt ?_
 refine Lh E156 ?_
 exact qc4
theorem Bl1 {c:Cd} {x:Cx} {r:Ru} (h:RuI c x r) {m tr ix:Int} {en:En} (hn:Eg c m tr ix=some en):
  f157 [CI c,.sc (.int .i64 en.pc),UK (DR (UX r).s x),.sc (.int .i64 1000)]=some (Om (Hn c (DR r.s x) en.pc)):=by
 rw [Brd c en.pc (DR (UX r).s x) (h.nfI.exe hn),(Jg c x).exe r en.pc]
theorem Aci (c:Cd) (x:Cx) (m:Int) (ev:Ev) (r:Ru) (h:RuI c x r) {en:En} (hn:Eg c m ev.tr ev.ix=some en) (hx:Hn c (DR r.s x) en.pc=none) (w e p fv mv:Nat) (R:List Blk) (cnt:Nat):
  ∃ cnt',HSpec Tryz.prog 113 [.pt 0 w 0 0,.sc (.int .i64 m),Hq ev] (Df c x r w e p fv mv R) cnt (.sc (.bool false)) (Df c x (Tf r) w e p fv mv R) cnt':=by
 have E156:=Bb5 c h.fit m ev.tr ev.ix
 have E157:=Bl1 h hn
 rw [hn] at E156
 rw [hx] at E157
 simp only [Ai,AL,Dq,DR,UX,Om,pcO,lx34,lx4] at E156 E157
 obtain ⟨F78,k78,E78⟩:=DU (UZ x false r.s.vars r.s.act r.s.fau fv mv r.s.left.length r.s.lamps.length (Df c x r w e p fv mv (R++[⟨true,cnt,46,3,[Hq ev],false⟩])) (cnt+1))
 obtain ⟨F105,k105,E105⟩:=DU (Aaa c x r h.fa w e p fv mv (R++[⟨true,cnt,46,3,[Hq ev],false⟩]) (cnt+1+3))
 obtain ⟨⟨zv,vars,zl,left,act,zm,lamps,fau⟩,ef,po⟩:=r
 obtain ⟨tr,ix,mo⟩:=ev
 simp only [Df,O9,Cq,E6] at E78 E105
 have tl:(left.map (kA .i64)).take left.length=left.map (kA .i64):=lx12 (by simp)
 refine ⟨cnt+1+3,?_⟩
 refine Ad (Af (lit:=true) (pm:=fun _=>none) (.cons Aom .nil) .nil (.cons Axt .nil) (.cons k78 (.cons k105 .nil))) rfl Tryz.func113 rfl (by decide) (by kernel_rfl) ?_
 refine Ayt ?_
 refine Lh (a5 E156 E157 E78 E105 tl) ?_
 exact qc4
def exB (v:Nat) (f:Ef):Blk:=⟨true,v,73,5,[EJ f],false⟩
def givT (w:Nat) (m:Int) (l:List Ef) (b:Bool) (i:Int):List AV:=CW 0 87 [(0,.pt 0 w 0 0),(1,.sc (.int .i64 m)),(10,.vw false (l.map EJ)),(13,.sc (.bool b)),(60,.vw false (l.map EJ)),(61,.sc (.int .i64 l.length)),(62,.sc (.int .i64 i))]
theorem Aul (c:Cd) (x:Cx) (m:Int) (hm:0≤m∧m < c.pri.length) (ev:Ev) (r:Ru) (h:RuI c x r) (hef:r.ef.length≤1000000) (hpo:r.po.length≤900000) {en:En} (hn:Eg c m ev.tr ev.ix=some en) {y:List Int × List Ef × Nat} (hx:Hn c (DR r.s x) en.pc=some y) (w e p fv mv:Nat) (R:List Blk) (cnt:Nat):
  ∃ e' p' m' cnt',HSpec Tryz.prog 113 [.pt 0 w 0 0,.sc (.int .i64 m),Hq ev] (Df c x r w e p fv mv R) cnt (.sc (.bool (Pp x m r (some y)).2)) (Df c x (Pp x m r (some y)).1 w e' p' fv m' R) cnt':=by
 have E156:=Bb5 c h.fit m ev.tr ev.ix
 have E157:=Bl1 h hn
 obtain ⟨q1,q2,q3,q4⟩:=Ace (h.exe hn) hx
 rw [hn] at E156
 rw [hx] at E157
 have hv:=Apn h q1 q2
 simp only [Ai,AL,Dq,DR,UX,Om,pcO,lx34,lx4] at E156 E157
 obtain ⟨F78,k78,E78⟩:=DU (UZ x false r.s.vars r.s.act r.s.fau fv mv r.s.left.length r.s.lamps.length (Df c x r w e p fv mv (R++[⟨true,cnt,46,3,[Hq ev],false⟩])) (cnt+1))
 obtain ⟨⟨zv,vars,zl,left,act,zm,lamps,fau⟩,ef,po⟩:=r
 obtain ⟨tr,ix,mo⟩:=ev
 obtain ⟨va,l,st⟩:=y
 simp only at q1 q2 q3 q4 E157 hef hpo hv
 obtain ⟨R2,hR2⟩:∃ R2,R++[⟨true,cnt,46,3,[Hq ⟨tr,ix,mo⟩],false⟩]=R2:=⟨_,rfl⟩
 obtain ⟨r0,Kp⟩:∃ r0,JD va ⟨⟨zv,vars,zl,left,act,zm,lamps,fau⟩,ef,po⟩=r0:=⟨_,rfl⟩
 rw [Kp] at hv
 have hp0:r0.po=po:=by rw [←Kp]; rfl
 obtain ⟨V,hV0,hV⟩:=Api (fun i (a b:Nat × Nat × Nat)=>∀ h:i < l.length,f158 c x m [.pt 0 w 0 0,.sc (.int .i64 m),EJ l[i]] (Df c x (appL x m (l.take i) r0) w e a.1 fv a.2.1 (R2++[exB a.2.2 l[i]])) (a.2.2+1)=
   some (.tu [],Df c x (CO x m l[i] (appL x m (l.take i) r0)) w e b.1 fv b.2.1 (R2++[exB a.2.2 l[i]]),b.2.2)) l.length (p,mv,cnt+1+3) (fun i a hi=>by
  have g1:=Wz hm (l.take i) hv (fun f hf=>q4 f (lx38 hf))
  have g2:=Qu x m (l.take i) r0
  rw [lx68,hp0] at g2
  obtain ⟨p2,m2,c2,x1⟩:=Bre (c:=c) (x:=x) (g1.pap hm (q4 _ (lx89 hi)) (by omega)) w e a.1 fv a.2.1 (R2++[exB a.2.2 l[i]]) (a.2.2+1)
  exact ⟨(p2,m2,c2),fun _=>x1⟩)
 refine ⟨(V l.length).2.2,(V l.length).1,(V l.length).2.1,(V l.length).2.2+1,?_⟩
 have hr1:Pp x m ⟨⟨zv,vars,zl,left,act,zm,lamps,fau⟩,ef,po⟩ (some (va,l,st))=(Po l (appL x m l r0),l.any (fun f=>f.k == 30)):=by rw [←Kp]; rfl
 rw [hr1]
 clear hr1
 simp only [Df,O9,Cq,E6] at E78
 have tl:(left.map (kA .i64)).take left.length=left.map (kA .i64):=lx12 (by simp)
 refine Ad (Af (lit:=true) (pm:=fun _=>none) (.cons Aom .nil) .nil (.cons Axt .nil) (.cons k78 (.cons (Bl0 c x m) .nil))) rfl Tryz.func113 rfl (by decide) (by kernel_rfl) ?_
 refine Ayt ?_
 refine Lh (a4 E156 E157 E78 tl) ?_
 repeat' (first | exact Aa (by kernel_rfl) | refine ⟨Aa (by kernel_rfl),?_⟩ | refine And.intro ?_ ?_ | fail)
 refine AB (T':=givT w m l false 0) (H':=Df c x r0 w e p fv mv R2) ?_ ?_ (Av _) ?_
 ·exact Bdg
 ·subst Kp; subst hR2; simp only [Df,O9,JD,Cq,AL]; exact Aq _
 refine Az (σ:=Nat) (fun i _=>⟨givT w m l ((l.take i).any (fun f=>f.k == 30)) i,Df c x (appL x m (l.take i) r0) w e (V i).1 fv (V i).2.1 R2,(V i).2.2⟩)
  (fun i=>i≤l.length) (fun i=>l.length - i) 0 (Bq _) (Fj _) (by rw [hV0]; exact Aq _) (by rw [hV0]) ?_
 intro i c1 hi ih
 try simp only at hi ih ⊢
 by_cases hlt:i < l.length
 ·have x1:=hV i hlt hlt
  have ih2:=ih (i+1) 0 (by omega) (by omega)
  clear ih hV
  simp only [Aj0 hlt,Aph hlt] at ih2
  generalize (List.take i l).any (fun f=>f.k == 30)=b at ih2 ⊢
  generalize CO x m l[i] (appL x m (l.take i) r0)=r2 at x1 ih2
  generalize appL x m (l.take i) r0=r1 at x1 ⊢
  generalize V (i+1)=v2 at x1 ih2
  generalize V i=v1 at x1 ⊢
  have hlt':decide ((i:Int) < ((l.length:Nat):Int))=true:=Au
  have h2:decide (i < l.length)=true:=Au
  have hg:l.getD i default=l[i]:=by simp [List.getD,hlt]
  generalize l[i]=f at x1 ih2 hg
  obtain ⟨k,a1,a2,a3,t⟩:=f
  have w1:IntKind.i64.wrap ((i:Int)+1)=((i+1:Nat):Int):=CT
  obtain ⟨⟨zv1,vars1,zl1,left1,act1,zm1,lamps1,fau1⟩,ef1,po1⟩:=r1
  obtain ⟨⟨zv2,vars2,zl2,left2,act2,zm2,lamps2,fau2⟩,ef2,po2⟩:=r2
  subst hR2
  simp only [Df,O9,exB,DK,Cq,lx6,lx90,lx64] at x1 ih2 ⊢
  refine Ac ?_
  simp only [givT]
  refine Cb ?_
  cases b
  all_goals
   refine Lh (a6 hlt' h2 hg x1 w1 @Oc) ?_
   repeat' (first | exact Aa (by kernel_rfl) | refine ⟨Aa (by kernel_rfl),?_⟩ | refine And.intro ?_ ?_ | fail)
   refine AB ?_ ?_ (Av _) ih2
   ·exact Bdg
   ·exact Ou _ _ _ _ _ _ _ _
 ·obtain rfl:i=l.length:=by omega
  clear ih hV
  have hlt':decide ((l.length:Int) < ((l.length:Nat):Int))=false:=AZ
  rw [lx73]
  have hef':(appL x m l r0).ef=ef:=by rw [Wx,←Kp]; rfl
  generalize appL x m l r0=r1 at hef' ⊢
  obtain ⟨⟨zv',vars',zl',left',act',zm',lamps',fau'⟩,ef',po'⟩:=r1
  simp only at hef'
  subst hef'
  have tef:(ef'.map EJ).take ef'.length=ef'.map EJ:=lx12 (by simp)
  have hsz:decide ((ef'.length+l.length) * 48≤140737488355328)=true:=Au
  subst hR2
  generalize V l.length=v3
  simp only [Df,O9,Po]
  refine Ac ?_
  simp only [givT]
  refine Cb ?_
  refine Lh (a5 hlt' hsz tef @Oc @Sr) ?_
  exact qc4
theorem Aja (c:Cd) (x:Cx) (m:Int) (hm:0≤m∧m < c.pri.length) (ev:Ev) (r:Ru) (h:RuI c x r) (hef:r.ef.length≤1000000) (hpo:r.po.length≤900000) (w e p fv mv:Nat) (R:List Blk) (cnt:Nat):
  ∃ e' p' m' cnt',HSpec Tryz.prog 113 [.pt 0 w 0 0,.sc (.int .i64 m),Hq ev] (Df c x r w e p fv mv R) cnt (.sc (.bool (DX c x m ev r).2)) (Df c x (DX c x m ev r).1 w e' p' fv m' R) cnt':=by
 cases hn:Eg c m ev.tr ev.ix with
 | none=>
  have hr:DX c x m ev r=(r,false):=by rw [DX,hn]
  rw [hr]
  obtain ⟨c',h1⟩:=Auk c x m ev r h hn w e p fv mv R cnt
  exact ⟨e,p,mv,c',h1⟩
 | some en=>
  have hr:DX c x m ev r=Pp x m r (Hn c (DR r.s x) en.pc):=by rw [DX,hn]
  rw [hr]
  cases hx:Hn c (DR r.s x) en.pc with
  | none=>
   obtain ⟨c',h1⟩:=Aci c x m ev r h hn hx w e p fv mv R cnt
   exact ⟨e,p,mv,c',h1⟩
  | some y=>exact Aul c x m hm ev r h hef hpo hn hx w e p fv mv R cnt
end Go.Proofs.YtdjpkhjaibdogaaGreat
