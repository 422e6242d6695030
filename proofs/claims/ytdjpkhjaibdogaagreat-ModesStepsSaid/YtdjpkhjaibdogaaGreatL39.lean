/-
  Lemmas towards ModesSteps (joined texts: GL, GM, GN, GO, GP).
  Conditions: none.
-/
import Derived.Test.YtdjpkhjaibdogaaGreatL01
import Derived.Test.YtdjpkhjaibdogaaGreatL02
import Derived.Test.YtdjpkhjaibdogaaGreatL38
import Derived.Test.YtdjpkhjaibdogaaGreatL19
set_option linter.unusedSimpArgs false
set_option linter.unusedVariables false
set_option maxRecDepth 100000
set_option maxHeartbeats 8000000
namespace Go.Proofs.YtdjpkhjaibdogaaGreat
open Go Go.SX
attribute [local congr] ite_congr
def Ny (c:Cd) (x:Cx) (r:Ru) (w e p f m:Nat):Blk:=⟨true,w,138,18,[.ag [.vw c.zi (c.ins.map B9),.vw c.zs (c.strs.map stA),.vw c.ze (c.ens.map D8),.vw c.zp (c.pri.map (kA .i64)),.vw c.zv (c.vars.map (kA .i64)),.sc (.int .i64 c.tim),.sc (.int .i64 c.evs),
 .vw false (r.s.vars.map (kA .i64)),.sl 3 f 0 r.s.left.length,.sc (.int .u32 r.s.act),.sl 4 m 0 r.s.lamps.length,.sc (.int .i64 r.s.fau),.sc (.int .i64 x.ti),.sc (.int .u64 x.clo),.sc (.int .i64 x.pl'),.sc (.int .i64 x.ba),.sl 1 e 0 r.ef.length,.sl 2 p 0 r.po.length]],false⟩
def Dx (c:Cd) (x:Cx) (r:Ru) (w e p f m:Nat) (R:List Blk):List Blk:=Ny c x r w e p f m::⟨true,e,73,5,r.ef.map Dd,false⟩::⟨true,p,46,3,r.po.map Cf,false⟩::⟨true,f,3,1,r.s.left.map (kA .i64),false⟩::⟨true,m,82,6,r.s.lamps.map Bp,false⟩::R
theorem U0 {c:Cd} {x:Cx} {r r':Ru} {w e p f m w' e' p' f' m':Nat} {R R':List Blk} (h:Dx c x r w e p f m R=Dx c x r' w' e' p' f' m' R'):II r=II r'∧w=w'∧e=e'∧p=p'∧f=f'∧m=m'∧R=R':=by
 obtain ⟨⟨zv,vars,zl,left,act,zm,lamps,fau⟩,ef,po⟩:=r
 obtain ⟨⟨zv',vars',zl',left',act',zm',lamps',fau'⟩,ef',po'⟩:=r'
 simp only [Dx,Ny,lx96,Blk.mk.injEq,AV.ag.injEq,AV.sl.injEq,AV.vw.injEq,AV.sc.injEq,Value.int.injEq,Ay,CY] at h
 obtain ⟨⟨rfl,g1,⟨rfl,_⟩,rfl,⟨rfl,_⟩,rfl,⟨rfl,_⟩,rfl,_⟩,g2,g3,g4,g5,rfl⟩:=h
 obtain rfl:=ET g1
 obtain rfl:=JN.1 g2.2
 obtain rfl:=K6.1 g3.2
 obtain rfl:=ET g4.2
 obtain rfl:=HB.1 g5.2
 simp [II]
theorem O1 (c:Cd) (x:Cx) (r:Ru) (hf:0≤r.s.fau∧r.s.fau≤2147483647) (w e p f m:Nat) (R:List Blk) (cnt:Nat):
  HSpec Tryz.prog 105 [.pt 0 w 0 0] (Dx c x r w e p f m R) cnt (.tu []) (Dx c x (IT r) w e p f m R) cnt:=by
 obtain ⟨⟨zv,vars,zl,left,act,zm,lamps,fau⟩,ef,po⟩:=r
 simp only at hf
 have w1:IntKind.i64.wrap (fau+1)=fau+1:=Bd (by omega) (by omega)
 refine Ag (Aj (lit:=true) (pm:=fun _=>none) .nil .nil .nil .nil) rfl Tryz.func105 rfl (by decide) (by kernel_rfl) ?_
 simp only [Tryz.f105,Af,lx53,lx63,Nat.reduceAdd,Nat.reduceSub,List.replicate]
 simp only [Dx,Ny,IT]
 refine Aa ?_
 refine J7 w1 ?_
 exact RU
structure SetQ (m:Int) (r:Ru):Prop where
 own:0≤m∧m < 32
 so:Io r.s.lamps
 len:r.s.lamps.length≤90000
theorem Aps (c:Cd) (x:Cx) (mo i:Int) (se:Lm) (r:Ru) (h:SetQ mo r) (hz:BQ r.s.act mo=false) (w e p f m:Nat) (R:List Blk) (cnt:Nat):
  HSpec Tryz.prog 208 [.pt 0 w 0 0,.sc (.int .i64 mo),.sc (.int .i64 i),lmA se] (Dx c x r w e p f m R) cnt (.tu []) (Dx c x r w e p f m R) (cnt+1):=by
 obtain ⟨h1,h2,h3⟩:=h
 obtain ⟨⟨zv,vars,zl,left,act,zm,lamps,fau⟩,ef,po⟩:=r
 simp only at hz h2 h3
 have E58:=e58 ⟨false,vars,false,left,act,false,lamps,fau⟩ mo ⟨by omega,by omega⟩
 simp only [Az,hz] at E58
 have tl:(left.map (kA .i64)).take left.length=left.map (kA .i64):=lx118 (by simp)
 have tm:(lamps.map Bp).take lamps.length=lamps.map Bp:=lx118 (by simp)
 refine Ag (Aj (lit:=true) (pm:=fun _=>none) (.cons Af4 .nil) .nil .nil .nil) rfl Tryz.func208 rfl (by decide) (by kernel_rfl) ?_
 refine Av0 ?_
 refine J7 (a3 E58 tl tm) ?_
 exact RU
theorem Als (c:Cd) (x:Cx) (mo i:Int) (se:Lm) (r:Ru) (h:SetQ mo r) (hz:BQ r.s.act mo=true) (hh:Nu ⟨mo,i,se⟩ r.s.lamps=true) (w e p f m:Nat) (R:List Blk) (cnt:Nat):
  HSpec Tryz.prog 208 [.pt 0 w 0 0,.sc (.int .i64 mo),.sc (.int .i64 i),lmA se] (Dx c x r w e p f m R) cnt (.tu []) (Dx c x (Ec r mo i se) w e p f m R) (cnt+1+1):=by
 have hR:Ec r mo i se={ r with s:={ r.s with zm:=false,lamps:=r.s.lamps.set (Ee ⟨mo,i,se⟩ r.s.lamps) ⟨mo,i,se⟩ } }:=by
  rw [Ec,if_pos hz,Np h.so,RC h.so,if_pos hh]
 rw [hR]
 obtain ⟨h1,h2,h3⟩:=h
 obtain ⟨⟨zv,vars,zl,left,act,zm,lamps,fau⟩,ef,po⟩:=r
 simp only at hz hh h2 h3
 have E58:=e58 ⟨false,vars,false,left,act,false,lamps,fau⟩ mo ⟨by omega,by omega⟩
 have E233:=Bey false lamps ⟨mo,i,se⟩ h2 (by omega)
 have hp:Ee ⟨mo,i,se⟩ lamps < lamps.length:=by
  simp only [Nu,AX,AN] at hh
  exact hh.1
 obtain ⟨lv,on,off,si⟩:=se
 simp only [Az,Bg,hz,bsA,hh] at E58 E233
 generalize Ee ⟨mo,i,⟨lv,on,off,si⟩⟩ lamps=q at *
 have hq:decide ((q:Int) < ((lamps.length:Nat):Int))=true:=Ae
 have hq2:decide (q < lamps.length)=true:=Ae
 have hm:(lamps.map Bp).set q (.ag [.sc (.int .i64 mo),.sc (.int .i64 i),.sc (.int .i64 lv),.sc (.int .i64 on),.sc (.int .i64 off),.sc (.int .i64 si)])=(lamps.set q ⟨mo,i,⟨lv,on,off,si⟩⟩).map Bp:=RZ
 have tl:(left.map (kA .i64)).take left.length=left.map (kA .i64):=lx118 (by simp)
 have tm:(lamps.map Bp).take lamps.length=lamps.map Bp:=lx118 (by simp)
 refine Ag (Aj (lit:=true) (pm:=fun _=>none) (.cons Af4 (.cons Aub .nil)) .nil .nil .nil) rfl Tryz.func208 rfl (by decide) (by kernel_rfl) ?_
 refine Av0 ?_
 refine J7 (a7 E58 E233 tl tm hq hq2 hm) ?_
 exact RU
theorem Alu (c:Cd) (x:Cx) (mo i:Int) (se:Lm) (r:Ru) (h:SetQ mo r) (hz:BQ r.s.act mo=true) (hh:Nu ⟨mo,i,se⟩ r.s.lamps=false) (w e p f m:Nat) (R:List Blk) (cnt:Nat):
  HSpec Tryz.prog 208 [.pt 0 w 0 0,.sc (.int .i64 mo),.sc (.int .i64 i),lmA se] (Dx c x r w e p f m R) cnt (.tu []) (Dx c x (Ec r mo i se) w e p f (cnt+1+1+1) R) (cnt+1+1+1+1):=by
 have hR:Ec r mo i se={ r with s:={ r.s with zm:=false,lamps:=r.s.lamps.take (Ee ⟨mo,i,se⟩ r.s.lamps)++⟨mo,i,se⟩::r.s.lamps.drop (Ee ⟨mo,i,se⟩ r.s.lamps) } }:=by
  rw [Ec,if_pos hz,Np h.so,RC h.so,if_neg (by rw [hh]; simp)]
 rw [hR]
 obtain ⟨h1,h2,h3⟩:=h
 obtain ⟨⟨zv,vars,zl,left,act,zm,lamps,fau⟩,ef,po⟩:=r
 simp only at hz hh h2 h3
 have E58:=e58 ⟨false,vars,false,left,act,false,lamps,fau⟩ mo ⟨by omega,by omega⟩
 have E233:=Bey false lamps ⟨mo,i,se⟩ h2 (by omega)
 have hp:=Ads ⟨mo,i,se⟩ lamps
 obtain ⟨F,kF,E⟩:=Dg (Alq lamps ⟨mo,i,se⟩ (Ee ⟨mo,i,se⟩ lamps) hp (by omega) (Dx c x ⟨⟨zv,vars,zl,left,act,zm,lamps,fau⟩,ef,po⟩ w e p f m (R++[⟨true,cnt,78,4,[lmA se],false⟩,⟨true,cnt+1,82,6,[Bp ⟨mo,i,se⟩],false⟩])) 4 m (cnt+1+1) true rfl (cnt+1+1+1))
 obtain ⟨lv,on,off,si⟩:=se
 simp only [Az,Bg,hz,bsA,hh] at E58 E233
 have hlen:(lamps.take (Ee ⟨mo,i,⟨lv,on,off,si⟩⟩ lamps)++⟨mo,i,⟨lv,on,off,si⟩⟩::lamps.drop (Ee ⟨mo,i,⟨lv,on,off,si⟩⟩ lamps)).length=lamps.length+1:=Ft
 generalize Ee ⟨mo,i,⟨lv,on,off,si⟩⟩ lamps=q at *
 generalize lamps.take q++⟨mo,i,⟨lv,on,off,si⟩⟩::lamps.drop q=L at *
 simp only [Dx,Ny,Bg,Ic,lx91,lx64,lx4,lx53,lx5,lx63,lx11,lx117,Nat.reduceAdd,B6] at E
 have tl:(left.map (kA .i64)).take left.length=left.map (kA .i64):=lx118 (by simp)
 have tm:(lamps.map Bp).take lamps.length=lamps.map Bp:=lx118 (by simp)
 refine Ag (Aj (lit:=true) (pm:=fun _=>none) (.cons Af4 (.cons Aub .nil)) .nil .nil (.cons kF .nil)) rfl Tryz.func208 rfl (by decide) (by kernel_rfl) ?_
 refine Av0 ?_
 refine J7 (a6 E58 E233 E tl tm hlen) ?_
 exact RU
def Mv (p:Lo→Bool) (s:List Lo):Nat→List Lo
 | 0=>[]
 | k+1=>if p (s.getD k default)=true then Mv p s k++[s.getD k default] else Mv p s k
theorem Nv (p:Lo→Bool) (s:List Lo):∀ k,(Mv p s k).length≤k
 | 0=>Ar _
 | k+1=>by
  have:=Nv p s k
  rw [Mv]
  split
  ·simp; omega
  ·omega
theorem Yg (p:Lo→Bool) (s:List Lo):∀ k,k≤s.length→Mv p s k=(s.take k).filter p
 | 0,_=>by simp [Mv]
 | k+1,h=>by
  have hg:s.getD k default=s[k]:=by rw [lx80,lx51 (by omega)]; rfl
  rw [Mv,Yg p s k (by omega),lx115 (by omega),List.filter_append,hg]
  by_cases hp:p s[k]=true
  ·rw [if_pos hp,List.filter_cons_of_pos hp,List.filter_nil]
  ·rw [if_neg hp,List.filter_cons_of_neg hp,List.filter_nil,lx66]
theorem Apt (p:Lo→Bool) (s:List Lo):Mv p s s.length=s.filter p:=by
 rw [Yg p s _ (Ar _),lx74]
theorem Alv {α:Type} [Inhabited α] (p:α→Bool) (l:List α):(∃ r,r < l.length∧p (l.getD r default)=true∧∀ j,j < r→p (l.getD j default)=false)∨∀ j,j < l.length→p (l.getD j default)=false:=by
 have key:∀ k,k≤l.length→(∃ r,r < l.length∧p (l.getD r default)=true∧∀ j,j < r→p (l.getD j default)=false)∨∀ j,j < k→p (l.getD j default)=false:=by
  intro k
  induction k with
  | zero=>intro _; right; intro j hj; omega
  | succ k ih=>
   intro hk
   rcases ih (by omega) with h | h
   ·exact .inl h
   ·cases hp:p (l.getD k default) with
    | true=>exact .inl ⟨k,by omega,hp,h⟩
    | false=>exact .inr (Bl h hp)
 exact key _ (Ar _)
def Zt (p:Lo→Bool) (s:List Lo) (k:Nat):List Lo:=Mv p s k++s.drop (Mv p s k).length
theorem Apu (p:Lo→Bool) (s:List Lo) (k:Nat) (hk:k≤s.length):(Zt p s k).length=s.length:=by
 have:=Nv p s k
 simp only [Zt,lx5,lx93]; omega
theorem Axd (p:Lo→Bool) (s:List Lo) (k:Nat):(Zt p s k).getD k default=s.getD k default:=by
 have:=Nv p s k
 rw [Zt,lx80,lx62 this,lx20,lx80]
 congr 2; omega
theorem Axe (p:Lo→Bool) (s:List Lo) (k:Nat) (h:p (s.getD k default)=false):Zt p s (k+1)=Zt p s k:=by
 have e:Mv p s (k+1)=Mv p s k:=by rw [Mv,h,if_neg (by decide)]
 rw [Zt,Zt,e]
theorem Apv (p:Lo→Bool) (s:List Lo) (k:Nat) (hk:k < s.length) (h:p (s.getD k default)=true):Zt p s (k+1)=(Zt p s k).set (Mv p s k).length (s.getD k default):=by
 have hl:=Nv p s k
 have e:Mv p s (k+1)=Mv p s k++[s.getD k default]:=by rw [Mv,if_pos h]
 simp only [Zt,e,lx5,lx53,lx63,B6]
 rw [lx119 _ _ (Ar _),Mx]
 have hd:s.drop (Mv p s k).length=s[(Mv p s k).length]::s.drop ((Mv p s k).length+1):=lx75 (by omega)
 rw [hd,lx117,lx4]; rfl
def dlS (p:Lo→Bool) (s:List Lo):List Lo:=s.filter (fun r=>!p r)++List.replicate (s.length - (s.filter (fun r=>!p r)).length) default
theorem Alw (p:Lo→Bool) (s:List Lo) (h:∀ j,j < s.length→p (s.getD j default)=false):s.filter (fun r=>!p r)=s:=by
 rw [List.filter_eq_self]
 intro a ha
 obtain ⟨j,hj,rfl⟩:=lx69 ha
 have:=h j hj
 rw [lx80,lx51 hj,lx10] at this
 rw [this]; rfl
theorem Apw (p:Lo→Bool) (s:List Lo) (W:List Lo) (hW:W=s.filter fun r=>!p r) (z:AV) (hz:z=Bp default):
  List.take W.length ((W++s.drop W.length).map Bp)++List.replicate (s.length - W.length) z++List.drop (W.length+(s.length - W.length)) ((W++s.drop W.length).map Bp)=(dlS p s).map Bp:=by
 subst hW hz
 have hl:(s.filter fun r=>!p r).length≤s.length:=lx86 _ _
 rw [dlS,lx12,lx12,List.take_left' (by simp),List.map_replicate,List.drop_eq_nil_of_le (by simp),lx66]
theorem Oj (b0 b1 b2 b3 b4:Blk) (R:List Blk) (x y:Blk):I3 (b0::b1::b2::b3::b4::(R++[x,y])) (b0::b1::b2::b3::b4::(R++[x])):=by
 have:=NP [y] (b0::b1::b2::b3::b4::(R++[x]))
 simpa only [lx91,lx4,lx64] using this
def Li (a:Int) (y:Lo):Bool:=y.mo == a
theorem Alx (s:List Lo) (k a b d:Int) (t:ByteArray) (b0 b1 b2 b3:Blk) (R:List Blk) (u v cnt:Nat) (hs:s.length≤100000):
  HSpec Tryz.prog 206 [.sl 4 v 0 s.length,.fn 207 [.pt (R.length+1+1+1+1+1) u 0 0]] (b0::b1::b2::b3::⟨true,v,82,6,s.map Bp,false⟩::(R++[⟨true,u,73,5,[Dd ⟨k,a,b,d,t⟩],false⟩])) cnt
   (.sl 4 v 0 (s.filter fun r=>!Li a r).length) (b0::b1::b2::b3::⟨true,v,82,6,(dlS (Li a) s).map Bp,false⟩::(R++[⟨true,u,73,5,[Dd ⟨k,a,b,d,t⟩],false⟩])) (cnt+s.length):=by
 have e207':=fun y=>Be2 y ⟨k,a,b,d,t⟩
 obtain ⟨F232,k232,e232⟩:=F9 (Be7 Aty (Li a) [Dd ⟨k,a,b,d,t⟩] false s (fun y _=>Be2 y ⟨k,a,b,d,t⟩) (by omega))
 simp only [DB,AB] at e207' e232
 refine Ag (Aj (lit:=false) (pm:=fun _=>none) (.cons k232 (.cons Aty .nil)) .nil .nil .nil) rfl Tryz.func206 rfl (by decide) (by kernel_rfl) ?_
 simp only [Tryz.f206,Af,lx53,lx63,Nat.reduceAdd,Nat.reduceSub,List.replicate]
 obtain ⟨n,hnn⟩:∃ n,s.length=n:=⟨_,rfl⟩
 rw [hnn] at hs ⊢
 have ht:List.take n (s.map Bp)=s.map Bp:=lx118 (by simp [hnn])
 refine Aa ?_
 rcases Alv (Li a) s with ⟨r,hr,hp,hno⟩ | hno
 rotate_left
 ·have e1:=e232
  rw [Uc hno] at e1
  have hW:=Alw (Li a) s hno
  have hD:dlS (Li a) s=s:=by rw [dlS,hW,Mx]; simp
  rw [hW,hD,hnn]
  refine J7 (a2 ht e1) ?_
  repeat' (first | exact Ad (by kernel_rfl) | refine ⟨Ad (by kernel_rfl),?_⟩ | refine And.intro ?_ ?_ | fail)
  all_goals first | exact .refl _ | exact .inl rfl | exact Df _ _ _ | exact Nat.le_add_right _ _ | skip
  all_goals done
 have e1:=e232
 rw [KT hr hp hno] at e1
 rw [hnn] at hr
 have c0:((r:Int) == -1)=false:=by rw [lx113]; omega
 have w0:IntKind.i64.wrap ((r:Int)+1)=((r+1:Nat):Int):=AA
 have hA:=Apt (fun r=>!Li a r) s
 rw [hnn] at hA
 have hend:=Apw (Li a) s (Mv (fun r=>!Li a r) s n) hA (.ag [.sc (.int .i64 0),.sc (.int .i64 0),.sc (.int .i64 0),.sc (.int .i64 0),.sc (.int .i64 0),.sc (.int .i64 0)]) rfl
 rw [←hA]
 have hL:=Nv (fun r=>!Li a r) s
 have hDl:=Apu (fun r=>!Li a r) s
 have hDa:=Axd (fun r=>!Li a r) s
 have hDn:=Axe (fun r=>!Li a r) s
 have hDy:=Apv (fun r=>!Li a r) s
 have hK:∀ k,Mv (fun r=>!Li a r) s (k+1)=if (!Li a (s.getD k default))=true then Mv (fun r=>!Li a r) s k++[s.getD k default] else Mv (fun r=>!Li a r) s k:=fun k=>rfl
 have hD0:Zt (fun r=>!Li a r) s (r+1)=s∧(Mv (fun r=>!Li a r) s (r+1)).length=r:=by
  have key:∀ k,k≤r→Mv (fun r=>!Li a r) s k=s.take k:=by
   intro k
   induction k with
   | zero=>intro _; rfl
   | succ k ih=>
    intro hk
    rw [hK,ih (by omega),hno k (by omega),if_pos (show (!false)=true from rfl),lx115 (by omega)]
    rw [lx80,lx51 (by omega),lx10]
  have e:Mv (fun r=>!Li a r) s (r+1)=s.take r:=by rw [hK,hp,if_neg (by decide),key r (Ar _)]
  have el:(s.take r).length=r:=by rw [lx68]; omega
  rw [Zt,e,el]
  exact ⟨lx67 _ _,rfl⟩
 have hDd:Zt (fun r=>!Li a r) s n=Mv (fun r=>!Li a r) s n++s.drop (Mv (fun r=>!Li a r) s n).length:=rfl
 rw [←hDd,hnn] at hend
 obtain ⟨W,hW⟩:∃ W,Mv (fun r=>!Li a r) s=W:=⟨_,rfl⟩
 obtain ⟨D,hD⟩:∃ D,Zt (fun r=>!Li a r) s=D:=⟨_,rfl⟩
 simp only [hW,hD,hnn] at hL hDl hDa hDn hDy hK hD0 hend ⊢
 clear hA hDd
 simp (maxSteps:=10000000) +contextual -implicitDefEqProofs only [AY,AW,St.put,Ap,Am,DO,pl,↓reduceIte,CK,DB,Fi,lx5,lx11,ht,e1,c0,w0]
 refine Al (σ:=Nat × Nat) (fun y _=>⟨Bn 0 42 [(0,.sl 4 v 0 n),(1,.fn 207 [.pt (R.length+1+1+1+1+1) u 0 0]),(5,.sc (.int .i64 (W y.1).length)),(6,.sc (.int .i64 y.1))],b0::b1::b2::b3::⟨true,v,82,6,(D y.1).map Bp,false⟩::(R++[⟨true,u,73,5,[Dd ⟨k,a,b,d,t⟩],false⟩]),y.2⟩)
  (fun y=>r < y.1∧y.1≤n∧y.2+r+1≤cnt+y.1) (fun y=>n - y.1) (r+1,cnt) ⟨by simp,by omega,by simp; omega⟩ ?_ ?_ rfl ?_
 ·simp only [hD0.2]
  exact Adx
 ·simp only [hD0.1,DB]
  exact Aw _
 rintro ⟨j,c⟩ _ ⟨hk0,hk,hc⟩ ih
 simp only at hk0 hk hc
 have hLk:=hL j
 by_cases hk':j < n
 rotate_left
 ·obtain rfl:j=n:=by omega
  have h2:decide ((j:Int) < (j:Int))=false:=Bc
  have q1:decide ((0:Int)≤((W j).length:Int))=true:=Ae
  have q2:decide (((W j).length:Int)≤(j:Int))=true:=Ae
  refine Aa ?_
  refine Bq ?_
  refine J7 (a3 h2 q2 hend) ?_
  repeat' (first | exact Ad (by kernel_rfl) | refine ⟨Ad (by kernel_rfl),?_⟩ | refine And.intro ?_ ?_ | fail)
  all_goals first | exact .refl _ | exact .inl rfl | exact Df _ _ _ | exact Nat.le_of_lt (Le (Nat.lt_succ_of_le (Nat.le_add_right c r)) hc) | skip
  all_goals done
 have h2:decide ((j:Int) < (n:Int))=true:=Ae
 have w1:IntKind.i64.wrap ((j:Int)+1)=((j+1:Nat):Int):=AA
 have hDlk:=hDl j (by omega)
 have hDak:=hDa j
 have hDnk:=hDn j
 have hDyk:=hDy j hk'
 have hKk:=hK j
 have ih:=ih (j+1,c+1) (c+1) ⟨by omega,by omega,by omega⟩ (by omega)
 simp only at ih
 obtain ⟨⟨mo,la,⟨lv,on,off,si⟩⟩,hx⟩:∃ x,s.getD j default=x:=⟨_,rfl⟩
 have e5:=e207' ⟨mo,la,⟨lv,on,off,si⟩⟩
 simp only [Bg,AZ] at e5
 have h3:decide (j < (D j).length)=true:=Ae
 have w2:IntKind.i64.wrap (((W j).length:Int)+1)=(((W j).length+1:Nat):Int):=AA
 rw [hx] at hDak hDnk hDyk hKk
 cases hp:(mo == a) with
 | true=>
  have hp':Li a ⟨mo,la,⟨lv,on,off,si⟩⟩=true:=hp
  rw [hp'] at hDnk hKk
  rw [if_neg (by decide)] at hKk
  rw [hDnk rfl,hKk] at ih
  rw [hp] at e5
  refine Aa ?_
  refine Bq ?_
  refine J7 (a5 h2 h3 w1 hDak e5) ?_
  refine Ao ?_ ?_ (Ar _) ih
  ·exact Adx
  ·exact Oj _ _ _ _ _ _ _ _
 | false=>
  have hp':Li a ⟨mo,la,⟨lv,on,off,si⟩⟩=false:=hp
  rw [hp'] at hDyk hKk
  rw [if_pos (show (!false)=true from rfl)] at hKk
  rw [hDyk rfl,hKk] at ih
  rw [hp] at e5
  have hm:((D j).map Bp).set (W j).length (.ag [.sc (.int .i64 mo),.sc (.int .i64 la),.sc (.int .i64 lv),.sc (.int .i64 on),.sc (.int .i64 off),.sc (.int .i64 si)])=((D j).set (W j).length ⟨mo,la,⟨lv,on,off,si⟩⟩).map Bp:=RZ
  have h4:decide ((W j).length < (D j).length)=true:=Ae
  have q1:decide (((W j).length:Int) < (n:Int))=true:=Ae
  obtain ⟨y,hy⟩:∃ y,(D j).getD (W j).length default=y:=⟨_,rfl⟩
  refine Aa ?_
  refine Bq ?_
  refine J7 (Hg h2 h3 h4 w1 w2 q1 hDak hy hm e5) ?_
  refine Ao ?_ ?_ (Ar _) ih
  ·simp (maxSteps:=10000000) only [AY,AW,↓reduceIte,reduceCtorEq,Nat.reduceAdd,Nat.reduceEqDiff,Bn,Dj,lx5]
   all_goals done
  ·exact Oj _ _ _ _ _ _ _ _
theorem TI (c:Cd) (x:Cx) (mo i:Int) (se:Lm) (r:Ru) (h:SetQ mo r) (w e p f m:Nat) (R:List Blk) (cnt:Nat):
  ∃ m' cnt',HSpec Tryz.prog 208 [.pt 0 w 0 0,.sc (.int .i64 mo),.sc (.int .i64 i),lmA se] (Dx c x r w e p f m R) cnt (.tu []) (Dx c x (Ec r mo i se) w e p f m' R) cnt':=by
 cases hz:BQ r.s.act mo with
 | false=>
  have e1:Ec r mo i se=r:=by rw [Ec,if_neg (by rw [hz]; simp)]
  rw [e1]
  exact ⟨m,_,Aps c x mo i se r h hz w e p f m R cnt⟩
 | true=>
  cases hh:Nu ⟨mo,i,se⟩ r.s.lamps with
  | true=>exact ⟨m,_,Als c x mo i se r h hz hh w e p f m R cnt⟩
  | false=>exact ⟨_,_,Alu c x mo i se r h hz hh w e p f m R cnt⟩
theorem Aly (s:List Lo) (a:Int):(s.filter fun r=>!Li a r)=Es s a:=rfl
theorem Afy (s:List Lo) (k a b d:Int) (t:ByteArray) (b0 b1 b2 b3:Blk) (R:List Blk) (u v cnt:Nat) (hs:s.length≤100000):
  HSpec Tryz.prog 206 [.sl 4 v 0 s.length,.fn 207 [.pt (R.length+1+1+1+1+1) u 0 0]] (b0::b1::b2::b3::⟨true,v,82,6,s.map Bp,false⟩::(R++[⟨true,u,73,5,[Dd ⟨k,a,b,d,t⟩],false⟩])) cnt
   (.sl 4 (cnt+s.length) 0 (Es s a).length) (b0::b1::b2::b3::⟨true,cnt+s.length,82,6,(Es s a).map Bp,false⟩::(R++[⟨true,u,73,5,[Dd ⟨k,a,b,d,t⟩],false⟩])) (cnt+s.length+1):=by
 have h:=(Alx s k a b d t b0 b1 b2 b3 R u v cnt hs).cut (B:=⟨true,v,82,6,(dlS (Li a) s).map Bp,false⟩) rfl rfl
 have e:List.take (s.filter fun r=>!Li a r).length ((dlS (Li a) s).map Bp)=(Es s a).map Bp:=by
  rw [dlS,lx12,List.take_left' (by simp)]; rfl
 rw [Aly] at h e
 rw [e] at h
 exact h
theorem Alz {n lo hi:Int} (h:lo≤hi):min (max n lo) hi=CM n lo hi:=by unfold CM; omega
structure PapQ (m:Int) (e:Ef) (r:Ru):Prop extends AppQ m e r where
 so:Io r.s.lamps
 le:r.s.lamps.length≤90000
theorem pW {P:Prop} (h:P:=by
 refine Ag (Aj (lit:=true) (pm:=fun _=>none) (.cons Atx (.cons Af4 .nil)) .nil .nil .nil) rfl Tryz.func158 rfl (by decide) (by kernel_rfl) ?_
 refine Ba7 ?_
 simp (maxSteps:=10000000) +contextual -implicitDefEqProofs only [AY,AW,Au,St.put,Ap,Am,DO,pl,Array.toList,lx6,lx7,↓reduceIte,reduceCtorEq,Nat.reduceAdd,Nat.reduceLeDiff,Nat.reduceEqDiff,Nat.reduceMul,Int.reduceEq,Int.reduceNe,Int.reduceLE,Int.reduceLT,ne_eq,Nat.reduceBEq,Nat.reduceLT,eq_self,CP,lx8,Dc,Pw,Int.reduceToNat,Nat.reduceSub,Int.reduceAdd,Int.reduceMul,Int.reduceSub,CK,E6,hl,Bh,AL,CX,CO,DJ,Bz,Ds,Ca,BJ,DZ,D0,BR,Bb,Dm,Cn,AU,BO,BS,C3,CR,DA,AQ,D1,AR,D2,Dt,Cz,CS,Co,D3,Ey,D4,Cp,Cb,Bk,Hx,D5,D6,Ez,EM,Du,Jy,Jz,Ch,AB,AZ,Be,Bg,Ic,DB,Az,Ab,AS,Cl,Gz,norefs,AV.noref,Ct,CN,Int.reduceBNe,Int.reduceBEq,Fi,Ji,Rt,N8,N9,dl1,dl2,dl3,lx4,lx5,lx11,BV,MQ,E58,u64,g1,onB,E205,i0,i1,i2,si,ge,tl,tm,hpo,tpo,CV,C7,lx12,lx2]
 repeat' (first | exact Ad (by kernel_rfl) | refine ⟨Ad (by kernel_rfl),?_⟩ | refine And.intro ?_ ?_ | fail)
 all_goals first | exact .refl _ | exact .inl rfl | exact Df _ _ _ | skip
 all_goals done):P:=h
theorem pW2 {P:Prop} (h:P:=by
 simp only [Dx,Ny,Bg,Ic,DB,lx91,lx64,lx4,lx53,lx5,lx63,lx11,lx117,Nat.reduceAdd,B6,UP] at E
 refine Ag (Aj (lit:=true) (pm:=fun _=>none) (.cons Atx (.cons Af4 .nil)) .nil .nil (.cons kF .nil)) rfl Tryz.func158 rfl (by decide) (by kernel_rfl) ?_
 refine Ba7 ?_
 simp (maxSteps:=10000000) +contextual -implicitDefEqProofs only [AY,AW,Au,St.put,Ap,Am,DO,pl,Array.toList,lx6,lx7,↓reduceIte,reduceCtorEq,Nat.reduceAdd,Nat.reduceLeDiff,Nat.reduceEqDiff,Nat.reduceMul,Int.reduceEq,Int.reduceNe,Int.reduceLE,Int.reduceLT,ne_eq,Nat.reduceBEq,Nat.reduceLT,eq_self,CP,lx8,Dc,Pw,Int.reduceToNat,Nat.reduceSub,Int.reduceAdd,Int.reduceMul,Int.reduceSub,CK,E6,hl,Bh,AL,CX,CO,DJ,Bz,Ds,Ca,BJ,DZ,D0,BR,Bb,Dm,Cn,AU,BO,BS,C3,CR,DA,AQ,D1,AR,D2,Dt,Cz,CS,Co,D3,Ey,D4,Cp,Cb,Bk,Hx,D5,D6,Ez,EM,Du,Jy,Jz,Ch,AB,AZ,Be,Bg,Ic,DB,Az,Ab,AS,Cl,Gz,norefs,AV.noref,Ct,CN,Int.reduceBNe,Int.reduceBEq,Fi,Ji,Rt,N8,N9,dl1,dl2,dl3,lx4,lx5,lx11,BV,MQ,E58,u64,g1,UP,E205,E,tl,tm,hpo,tpo,CV,C7,lx12,lx2]
 repeat' (first | exact Ad (by kernel_rfl) | refine ⟨Ad (by kernel_rfl),?_⟩ | refine And.intro ?_ ?_ | fail)
 all_goals first | exact .refl _ | exact .inl rfl | exact Df _ _ _ | skip
 all_goals done):P:=h
theorem Afz (c:Cd) (x:Cx) (m:Int) (f:Ef) (r:Ru) (h:PapQ m f r) (w e p fv mv:Nat) (R:List Blk) (cnt:Nat):
  ∃ p' m' cnt',HSpec Tryz.prog 158 [.pt 0 w 0 0,.sc (.int .i64 m),Dd f] (Dx c x r w e p fv mv R) cnt (.tu []) (Dx c x (CI x m f r) w e p' fv m' R) cnt':=by
 obtain ⟨⟨h1,h2,h3,h4,h5,h6⟩,h7,h8⟩:=h
 obtain ⟨⟨zv,vars,zl,left,act,zm,lamps,fau⟩,ef,po⟩:=r
 obtain ⟨k,a,b,d,t⟩:=f
 simp only at h1 h2 h4 h5 h6 h7 h8
 have tl:(left.map (kA .i64)).take left.length=left.map (kA .i64):=lx118 (by simp)
 have tm:(lamps.map Bp).take lamps.length=lamps.map Bp:=lx118 (by simp)
 have hpo:decide ((po.length+1) * 24≤140737488355328)=true:=Ae
 have tpo:(po.map Cf).take po.length=po.map Cf:=lx118 (by simp)
 have E58:=fun a h=>e58 ⟨false,vars,false,left,act,false,lamps,fau⟩ a h
 simp only [Az] at E58
 have E205:=fun lo hi (h:lo≤hi) b=>Alz (n:=b) h ▸ Bit b lo hi
 have n:=trivial
 obtain ⟨u64,g1,i0,i1,i2,si,ge⟩:True∧True∧True∧True∧True∧True∧True:=⟨n,n,n,n,n,n,n⟩
 by_cases k1:k=21∨k=22
 ·obtain ⟨g1,g2⟩:=h1 k1
  have i0:decide (0≤a)=true:=by rw [AN]; exact g1
  have i1:decide (a < (left.length:Int))=true:=by rw [AN]; exact g2
  have i2:decide (a.toNat < left.length)=true:=Ae
  have si:∀ v:Int,(left.map (kA .i64)).set a.toNat (.sc (.int .i64 v))=(left.set a.toNat v).map (kA .i64):=fun v=>by rw [List.map_set]; rfl
  have ge:(left.map (kA .i64))[a.toNat]?=some (.sc (.int .i64 (left[a.toNat]'(by omega)))):=by rw [lx23,lx51 (by omega)]; rfl
  have E205:=E205 0 2147483647 (by decide)
  rcases k1 with rfl | rfl
  ·simp only [CI,Int.reduceEq,↓reduceIte]
   exact ⟨p,mv,cnt+1,pW⟩
  ·simp only [CI,Int.reduceEq,↓reduceIte]
   have:CM 0 0 2147483647=0:=rfl
   rw [this]
   exact ⟨p,mv,cnt+1,pW⟩
 by_cases k2:k=23∨k=24
 ·obtain ⟨g1,g2⟩:=h2 k2
  have u64:IntKind.u64.wrap a=a:=Eg (by omega) (by omega)
  have E58:=E58 a ⟨by omega,by omega⟩
  cases hz:BQ act a with
  | true=>
   rw [hz] at E58
   rcases k2 with rfl | rfl
   ·simp only [CI,hz,Int.reduceEq,↓reduceIte]
    exact ⟨p,mv,cnt+1,pW⟩
   simp only [CI,hz,Int.reduceEq,↓reduceIte]
   obtain ⟨F,kF,E⟩:=Dg (Afy lamps 24 a b d t (Ny c x ⟨⟨zv,vars,zl,left,UP act a,zm,lamps,fau⟩,ef,po⟩ w e p fv mv) ⟨true,e,73,5,ef.map Dd,false⟩ ⟨true,p,46,3,po.map Cf,false⟩ ⟨true,fv,3,1,left.map (kA .i64),false⟩ R cnt mv (cnt+1) (by omega))
   exact ⟨cnt+1+lamps.length+1+1,cnt+1+lamps.length,cnt+1+lamps.length+1+1+1,pW2⟩
  | false=>
   rw [hz] at E58
   rcases k2 with rfl | rfl
   ·simp only [CI,hz,Int.reduceEq,↓reduceIte,Dy]
    exact ⟨cnt+1+1,mv,cnt+1+1+1,pW⟩
   simp only [CI,hz,Int.reduceEq,↓reduceIte,Dy]
   exact ⟨p,mv,cnt+1,pW⟩
 by_cases k25:k=25
 ·subst k25
  simp only [CI,Int.reduceEq,↓reduceIte]
  exact ⟨cnt+1+1,mv,cnt+1+1+1,pW⟩
 by_cases k19:k=19
 ·subst k19
  have E205:=E205 0 8 (by decide)
  obtain ⟨m',c',hs⟩:=TI c x m a ⟨CM b 0 8,0,0,0⟩ ⟨⟨zv,vars,zl,left,act,zm,lamps,fau⟩,ef,po⟩ ⟨h3,h7,h8⟩ w e p fv mv (R++[⟨true,cnt,73,5,[Dd ⟨19,a,b,d,t⟩],false⟩]) (cnt+1)
  exact Azd
 by_cases k20:k=20
 ·subst k20
  have E205:=E205 1 1000 (by decide)
  obtain ⟨m',c',hs⟩:=TI c x m a ⟨8,CM b 1 1000,CM d 1 1000,x.ti⟩ ⟨⟨zv,vars,zl,left,act,zm,lamps,fau⟩,ef,po⟩ ⟨h3,h7,h8⟩ w e p fv mv (R++[⟨true,cnt,73,5,[Dd ⟨20,a,b,d,t⟩],false⟩]) (cnt+1)
  exact Azd
 simp only [not_or] at k1 k2
 have E58:=And.intro (lx113.2 k1.1) (And.intro (lx113.2 k1.2) (And.intro (lx113.2 k2.1) (And.intro (lx113.2 k2.2) (And.intro (lx113.2 k25) (And.intro (lx113.2 k19) (lx113.2 k20))))))
 simp only [CI,k1,k2,k25,k19,k20,↓reduceIte]
 exact ⟨p,mv,cnt+1,pW⟩
theorem U1 {c:Cd} {x:Cx} {r r':Ru} (h:II r=II r') (w e p f m:Nat) (R:List Blk):Dx c x r w e p f m R=Dx c x r' w e p f m R:=by
 have k:∀ r:Ru,Dx c x r w e p f m R=Dx c x (II r) w e p f m R:=fun _=>rfl
 rw [k r,k r',h]
def Bez (c:Cd) (x:Cx) (m:Int) (args:List AV) (H:List Blk) (cnt:Nat) (a:AV) (H':List Blk) (cnt':Nat):Prop:=
 ∀ (f:Ef) (r:Ru) (w e p fv mv:Nat) (R:List Blk),args=[.pt 0 w 0 0,.sc (.int .i64 m),Dd f]→H=Dx c x r w e p fv mv R→a=.tu []∧∃ p' m',H'=Dx c x (CI x m f r) w e p' fv m' R
noncomputable def f158 (c:Cd) (x:Cx) (m:Int):=hF Tryz.prog 158 (Bez c x m)
theorem Bf0 (c:Cd) (x:Cx) (m:Int):Mu Tryz.prog 158 (f158 c x m):=Ik _ _ _
theorem Bjp {c:Cd} {x:Cx} {m:Int} {f:Ef} {r:Ru} (h:PapQ m f r) (w e p fv mv:Nat) (R:List Blk) (cnt:Nat):
  ∃ p' m' cnt',f158 c x m [.pt 0 w 0 0,.sc (.int .i64 m),Dd f] (Dx c x r w e p fv mv R) cnt=some (.tu [],Dx c x (CI x m f r) w e p' fv m' R,cnt'):=by
 obtain ⟨p',m',cnt',h1⟩:=Afz c x m f r h w e p fv mv R cnt
 obtain ⟨a,H',c',g1,g2⟩:=Il (D:=Bez c x m) h1 (by
  intro f' r' w2 e2 p2 fv2 mv2 R2 a1 a2
  simp only [lx96,Ay,CY] at a1
  obtain ⟨_,a3⟩:=a1
  obtain rfl:=Nj a3
  obtain ⟨hn,rfl,rfl,rfl,rfl,rfl,rfl⟩:=U0 a2
  exact ⟨rfl,p',m',U1 (by rw [←(IJ c x).app,←(IJ c x).app,hn]) _ _ _ _ _ _⟩)
 obtain ⟨rfl,p3,m3,rfl⟩:=g2 f r w e p fv mv R rfl rfl
 exact ⟨p3,m3,c',g1⟩
theorem Bjq (Q l:List Blk) (x y z u:Blk):(Q++(x::y::z::l)).set (Q.length+2) u=Q++(x::y::u::l):=by
 rw [lx119 _ _ (by omega),Ol]; rfl
theorem TJ (x:Cx) (zv:Bool) (vars:List Int) (act fau:Int) (fv mv n k:Nat) (H:List Blk) (cnt:Nat):
  HSpec Tryz.prog 78 [.ag [.vw zv (vars.map (kA .i64)),.sl 3 fv 0 n,.sc (.int .u32 act),.sl 4 mv 0 k,.sc (.int .i64 fau)],KF x] H cnt
   (.ag [.vw zv (vars.map (kA .i64)),.sl 3 fv 0 n,.sc (.int .u64 x.clo),.sc (.int .u32 act),.sc (.int .i64 x.pl'),.sc (.int .i64 x.ba)]) H (cnt+3):=by
 refine Ag (Aj (lit:=true) (pm:=fun _=>none) .nil .nil .nil .nil) rfl Tryz.func78 rfl (by decide) (by kernel_rfl) ?_
 simp only [Tryz.f78,Af,lx53,lx63,Nat.reduceAdd,Nat.reduceSub,List.replicate]
 refine Aa ?_
 refine J7 @Bjq ?_
 exact RU
theorem RuI.nfI {c:Cd} {x:Cx} {r:Ru} (h:RuI c x r):RuI c x (II r):=h.nf rfl
theorem RuI.pap {c:Cd} {x:Cx} {r:Ru} (h:RuI c x r) {m:Int} (hm:0≤m∧m < c.pri.length) {f:Ef} (hf:EfI c f) (hp:r.po.length≤1000000):PapQ m f r:=
 ⟨h.app hm hf hp,h.so,Nz h.lmp (by omega)⟩
theorem Apx (c:Cd) (x:Cx) (m:Int) (ev:Ev) (r:Ru) (h:RuI c x r) (hn:Eb c m ev.tr ev.ix=none) (w e p fv mv:Nat) (R:List Blk) (cnt:Nat):
  ∃ cnt',HSpec Tryz.prog 113 [.pt 0 w 0 0,.sc (.int .i64 m),Cf ev] (Dx c x r w e p fv mv R) cnt (.sc (.bool false)) (Dx c x r w e p fv mv R) cnt':=by
 have E156:=Af8 c h.fit m ev.tr ev.ix
 rw [hn] at E156
 simp only [Ab,AB] at E156
 obtain ⟨⟨zv,vars,zl,left,act,zm,lamps,fau⟩,ef,po⟩:=r
 obtain ⟨tr,ix,mo⟩:=ev
 refine ⟨cnt+1,?_⟩
 refine Ag (Aj (lit:=true) (pm:=fun _=>none) (.cons Akm .nil) .nil .nil .nil) rfl Tryz.func113 rfl (by decide) (by kernel_rfl) ?_
 refine Av1 ?_
 refine J7 E156 ?_
 exact RU
theorem Bf1 {c:Cd} {x:Cx} {r:Ru} (h:RuI c x r) {m tr ix:Int} {en:En} (hn:Eb c m tr ix=some en):
  f157 [BP c,.sc (.int .i64 en.pc),J0 (C5 (II r).s x),.sc (.int .i64 1000)]=some (J6 (Gf c (C5 r.s x) en.pc)):=by
 rw [Ax2 c en.pc (C5 (II r).s x) (h.nfI.exe hn),(IJ c x).exe r en.pc]
theorem Zu (c:Cd) (x:Cx) (m:Int) (ev:Ev) (r:Ru) (h:RuI c x r) {en:En} (hn:Eb c m ev.tr ev.ix=some en) (hx:Gf c (C5 r.s x) en.pc=none) (w e p fv mv:Nat) (R:List Blk) (cnt:Nat):
  ∃ cnt',HSpec Tryz.prog 113 [.pt 0 w 0 0,.sc (.int .i64 m),Cf ev] (Dx c x r w e p fv mv R) cnt (.sc (.bool false)) (Dx c x (IT r) w e p fv mv R) cnt':=by
 have E156:=Af8 c h.fit m ev.tr ev.ix
 have E157:=Bf1 h hn
 rw [hn] at E156
 rw [hx] at E157
 simp only [Ab,AB,AS,C5,II,J6,pcO,lx34,lx10] at E156 E157
 obtain ⟨F78,k78,E78⟩:=Dg (TJ x false r.s.vars r.s.act r.s.fau fv mv r.s.left.length r.s.lamps.length (Dx c x r w e p fv mv (R++[⟨true,cnt,46,3,[Cf ev],false⟩])) (cnt+1))
 obtain ⟨F105,k105,E105⟩:=Dg (O1 c x r h.fa w e p fv mv (R++[⟨true,cnt,46,3,[Cf ev],false⟩]) (cnt+1+3))
 obtain ⟨⟨zv,vars,zl,left,act,zm,lamps,fau⟩,ef,po⟩:=r
 obtain ⟨tr,ix,mo⟩:=ev
 simp only [Dx,Ny,Be,Cl] at E78 E105
 have tl:(left.map (kA .i64)).take left.length=left.map (kA .i64):=lx118 (by simp)
 refine ⟨cnt+1+3,?_⟩
 refine Ag (Aj (lit:=true) (pm:=fun _=>none) (.cons Akm .nil) .nil (.cons Au3 .nil) (.cons k78 (.cons k105 .nil))) rfl Tryz.func113 rfl (by decide) (by kernel_rfl) ?_
 refine Av1 ?_
 refine J7 (a5 E156 E157 E78 E105 tl) ?_
 exact RU
def exB (v:Nat) (f:Ef):Blk:=⟨true,v,73,5,[Dd f],false⟩
def givT (w:Nat) (m:Int) (l:List Ef) (b:Bool) (i:Int):List AV:=Bn 0 87 [(0,.pt 0 w 0 0),(1,.sc (.int .i64 m)),(10,.vw false (l.map Dd)),(13,.sc (.bool b)),(60,.vw false (l.map Dd)),(61,.sc (.int .i64 l.length)),(62,.sc (.int .i64 i))]
theorem Apy (c:Cd) (x:Cx) (m:Int) (hm:0≤m∧m < c.pri.length) (ev:Ev) (r:Ru) (h:RuI c x r) (hef:r.ef.length≤1000000) (hpo:r.po.length≤900000) {en:En} (hn:Eb c m ev.tr ev.ix=some en) {y:List Int × List Ef × Nat} (hx:Gf c (C5 r.s x) en.pc=some y) (w e p fv mv:Nat) (R:List Blk) (cnt:Nat):
  ∃ e' p' m' cnt',HSpec Tryz.prog 113 [.pt 0 w 0 0,.sc (.int .i64 m),Cf ev] (Dx c x r w e p fv mv R) cnt (.sc (.bool (Mn x m r (some y)).2)) (Dx c x (Mn x m r (some y)).1 w e' p' fv m' R) cnt':=by
 have E156:=Af8 c h.fit m ev.tr ev.ix
 have E157:=Bf1 h hn
 obtain ⟨q1,q2,q3,q4⟩:=US (h.exe hn) hx
 rw [hn] at E156
 rw [hx] at E157
 have hv:=Al9 h q1 q2
 simp only [Ab,AB,AS,C5,II,J6,pcO,lx34,lx10] at E156 E157
 obtain ⟨F78,k78,E78⟩:=Dg (TJ x false r.s.vars r.s.act r.s.fau fv mv r.s.left.length r.s.lamps.length (Dx c x r w e p fv mv (R++[⟨true,cnt,46,3,[Cf ev],false⟩])) (cnt+1))
 obtain ⟨⟨zv,vars,zl,left,act,zm,lamps,fau⟩,ef,po⟩:=r
 obtain ⟨tr,ix,mo⟩:=ev
 obtain ⟨va,l,st⟩:=y
 simp only at q1 q2 q3 q4 E157 hef hpo hv
 obtain ⟨R2,hR2⟩:∃ R2,R++[⟨true,cnt,46,3,[Cf ⟨tr,ix,mo⟩],false⟩]=R2:=⟨_,rfl⟩
 obtain ⟨r0,Jl⟩:∃ r0,Lg va ⟨⟨zv,vars,zl,left,act,zm,lamps,fau⟩,ef,po⟩=r0:=⟨_,rfl⟩
 rw [Jl] at hv
 have hp0:r0.po=po:=by rw [←Jl]; rfl
 obtain ⟨V,hV0,hV⟩:=Og (fun i (a b:Nat × Nat × Nat)=>∀ h:i < l.length,f158 c x m [.pt 0 w 0 0,.sc (.int .i64 m),Dd l[i]] (Dx c x (appL x m (l.take i) r0) w e a.1 fv a.2.1 (R2++[exB a.2.2 l[i]])) (a.2.2+1)=
   some (.tu [],Dx c x (CI x m l[i] (appL x m (l.take i) r0)) w e b.1 fv b.2.1 (R2++[exB a.2.2 l[i]]),b.2.2)) l.length (p,mv,cnt+1+3) (fun i a hi=>by
  have g1:=UT hm (l.take i) hv (fun f hf=>q4 f (lx38 hf))
  have g2:=PF x m (l.take i) r0
  rw [lx68,hp0] at g2
  obtain ⟨p2,m2,c2,x1⟩:=Bjp (c:=c) (x:=x) (g1.pap hm (q4 _ (lx90 hi)) (by omega)) w e a.1 fv a.2.1 (R2++[exB a.2.2 l[i]]) (a.2.2+1)
  exact ⟨(p2,m2,c2),fun _=>x1⟩)
 refine ⟨(V l.length).2.2,(V l.length).1,(V l.length).2.1,(V l.length).2.2+1,?_⟩
 have hr1:Mn x m ⟨⟨zv,vars,zl,left,act,zm,lamps,fau⟩,ef,po⟩ (some (va,l,st))=(UQ l (appL x m l r0),l.any (fun f=>f.k == 30)):=by rw [←Jl]; rfl
 rw [hr1]
 clear hr1
 simp only [Dx,Ny,Be,Cl] at E78
 have tl:(left.map (kA .i64)).take left.length=left.map (kA .i64):=lx118 (by simp)
 refine Ag (Aj (lit:=true) (pm:=fun _=>none) (.cons Akm .nil) .nil (.cons Au3 .nil) (.cons k78 (.cons (Bf0 c x m) .nil))) rfl Tryz.func113 rfl (by decide) (by kernel_rfl) ?_
 refine Av1 ?_
 refine J7 (a4 E156 E157 E78 tl) ?_
 repeat' (first | exact Ad (by kernel_rfl) | refine ⟨Ad (by kernel_rfl),?_⟩ | refine And.intro ?_ ?_ | fail)
 refine Ao (T':=givT w m l false 0) (H':=Dx c x r0 w e p fv mv R2) ?_ ?_ (Ar _) ?_
 ·exact Arc
 ·subst Jl; subst hR2; simp only [Dx,Ny,Lg,Be,AB]; exact Aw _
 refine Al (σ:=Nat) (fun i _=>⟨givT w m l ((l.take i).any (fun f=>f.k == 30)) i,Dx c x (appL x m (l.take i) r0) w e (V i).1 fv (V i).2.1 R2,(V i).2.2⟩)
  (fun i=>i≤l.length) (fun i=>l.length - i) 0 (Bu _) (CH _) (by rw [hV0]; exact Aw _) (by rw [hV0]) ?_
 intro i c1 hi ih
 try simp only at hi ih ⊢
 by_cases hlt:i < l.length
 ·have x1:=hV i hlt hlt
  have ih2:=ih (i+1) 0 (by omega) (by omega)
  clear ih hV
  simp only [TD hlt,X8 hlt] at ih2
  generalize (List.take i l).any (fun f=>f.k == 30)=b at ih2 ⊢
  generalize CI x m l[i] (appL x m (l.take i) r0)=r2 at x1 ih2
  generalize appL x m (l.take i) r0=r1 at x1 ⊢
  generalize V (i+1)=v2 at x1 ih2
  generalize V i=v1 at x1 ⊢
  have hlt':decide ((i:Int) < ((l.length:Nat):Int))=true:=Ae
  have h2:decide (i < l.length)=true:=Ae
  have hg:l.getD i default=l[i]:=by simp [List.getD,hlt]
  generalize l[i]=f at x1 ih2 hg
  obtain ⟨k,a1,a2,a3,t⟩:=f
  have w1:IntKind.i64.wrap ((i:Int)+1)=((i+1:Nat):Int):=AA
  obtain ⟨⟨zv1,vars1,zl1,left1,act1,zm1,lamps1,fau1⟩,ef1,po1⟩:=r1
  obtain ⟨⟨zv2,vars2,zl2,left2,act2,zm2,lamps2,fau2⟩,ef2,po2⟩:=r2
  subst hR2
  simp only [Dx,Ny,exB,DB,Be,lx4,lx91,lx64] at x1 ih2 ⊢
  refine Aa ?_
  simp only [givT]
  refine Bq ?_
  cases b
  all_goals
   refine J7 (a6 hlt' h2 hg x1 w1 @HP) ?_
   repeat' (first | exact Ad (by kernel_rfl) | refine ⟨Ad (by kernel_rfl),?_⟩ | refine And.intro ?_ ?_ | fail)
   refine Ao ?_ ?_ (Ar _) ih2
   ·exact Arc
   ·exact Oj _ _ _ _ _ _ _ _
 ·obtain rfl:i=l.length:=by omega
  clear ih hV
  have hlt':decide ((l.length:Int) < ((l.length:Nat):Int))=false:=Bc
  rw [lx74]
  have hef':(appL x m l r0).ef=ef:=by rw [PE,←Jl]; rfl
  generalize appL x m l r0=r1 at hef' ⊢
  obtain ⟨⟨zv',vars',zl',left',act',zm',lamps',fau'⟩,ef',po'⟩:=r1
  simp only at hef'
  subst hef'
  have tef:(ef'.map Dd).take ef'.length=ef'.map Dd:=lx118 (by simp)
  have hsz:decide ((ef'.length+l.length) * 48≤140737488355328)=true:=Ae
  subst hR2
  generalize V l.length=v3
  simp only [Dx,Ny,UQ]
  refine Aa ?_
  simp only [givT]
  refine Bq ?_
  refine J7 (a5 hlt' hsz tef @HP @Ig) ?_
  exact RU
theorem Ag0 (c:Cd) (x:Cx) (m:Int) (hm:0≤m∧m < c.pri.length) (ev:Ev) (r:Ru) (h:RuI c x r) (hef:r.ef.length≤1000000) (hpo:r.po.length≤900000) (w e p fv mv:Nat) (R:List Blk) (cnt:Nat):
  ∃ e' p' m' cnt',HSpec Tryz.prog 113 [.pt 0 w 0 0,.sc (.int .i64 m),Cf ev] (Dx c x r w e p fv mv R) cnt (.sc (.bool (CZ c x m ev r).2)) (Dx c x (CZ c x m ev r).1 w e' p' fv m' R) cnt':=by
 cases hn:Eb c m ev.tr ev.ix with
 | none=>
  have hr:CZ c x m ev r=(r,false):=by rw [CZ,hn]
  rw [hr]
  obtain ⟨c',h1⟩:=Apx c x m ev r h hn w e p fv mv R cnt
  exact ⟨e,p,mv,c',h1⟩
 | some en=>
  have hr:CZ c x m ev r=Mn x m r (Gf c (C5 r.s x) en.pc):=by rw [CZ,hn]
  rw [hr]
  cases hx:Gf c (C5 r.s x) en.pc with
  | none=>
   obtain ⟨c',h1⟩:=Zu c x m ev r h hn hx w e p fv mv R cnt
   exact ⟨e,p,mv,c',h1⟩
  | some y=>exact Apy c x m hm ev r h hef hpo hn hx w e p fv mv R cnt
end Go.Proofs.YtdjpkhjaibdogaaGreat
