/-
  Lemmas towards ModesPriority (joined texts: FA, FB, FC, FD, FE).
  Conditions: none.
-/
import Derived.Test.YtdjpkhjaibdogaaGreatL01
import Derived.Test.YtdjpkhjaibdogaaGreatL02
import Derived.Test.YtdjpkhjaibdogaaGreatL28
set_option linter.unusedSimpArgs false
set_option linter.unusedVariables false
set_option maxRecDepth 100000
set_option maxHeartbeats 8000000
namespace Go.Proofs.YtdjpkhjaibdogaaGreat
open Go Go.SX
attribute [local congr] ite_congr
def Gt (b:Bool):Int:=if b=true then 1 else 0
noncomputable def f248:=EF (fun _:Bool=>True) (fun b=>[bA b]) (fun b=>kA .i64 (Gt b))
theorem Z6 (b:Bool):f248 [.sc (.bool b)]=some (.sc (.int .i64 (Gt b))):=
 (AK (q:=fun _:Bool=>True) (enc:=fun b=>[bA b]) (out:=fun b=>kA .i64 (Gt b)) b trivial (by intro y h; simp only [lx94,AW,bA,AV.sc.injEq,Value.bool.injEq] at h; exact h) :)
theorem Axl:DC Tryz.prog 248 f248:=AN <| by
 rintro b -
 refine Ab (AF (.nil) (.nil)) rfl Tryz.func248 rfl (by decide) (by kernel_rfl) (by kernel_rfl) ?_
 simp only [Tryz.f248,Ae,lx52,lx63,Nat.reduceAdd,Nat.reduceSub,List.replicate]
 refine Ac ?_
 cases b <;> simp (maxSteps:=10000000) +contextual -implicitDefEqProofs only [AX,AT,St.put,↓reduceIte,AL,Bb,Gt]
 all_goals done
def Wq (k a:Int):Int:=if k=10 then -AP a else if k=11 then Gt (AP a == 0) else 0
noncomputable def f229:=EF (fun _:Int × Int=>True) (fun p=>[kA .i64 p.1,kA .i64 p.2]) (fun p=>kA .i64 (Wq p.1 p.2))
theorem Bk1 (k a:Int):f229 [.sc (.int .i64 k),.sc (.int .i64 a)]=some (.sc (.int .i64 (Wq k a))):=
 (AK (q:=fun _:Int × Int=>True) (enc:=fun p=>[kA .i64 p.1,kA .i64 p.2]) (out:=fun p=>kA .i64 (Wq p.1 p.2)) (k,a) trivial (by rintro ⟨x,y⟩ h; simp only [lx94,AW] at h; rw [BR h.1,BR h.2]) :)
theorem Bk2:DC Tryz.prog 229 f229:=AN <| by
 rintro ⟨k,a⟩ -
 have x1:=Aie a
 have hc:=G1 a
 obtain ⟨c,hc'⟩:∃ c,AP a=c:=⟨_,rfl⟩
 rw [hc'] at x1 hc
 have w1:IntKind.i64.wrap (0 - c)=-c:=CT
 have x2:=Z6 (c == 0)
 refine Ab (AF ((.cons Ax3 (.cons Axl .nil))) (.nil)) rfl Tryz.func229 rfl (by decide) (by kernel_rfl) (by kernel_rfl) ?_
 simp only [Tryz.f229,Ae,lx52,lx63,Nat.reduceAdd,Nat.reduceSub,List.replicate]
 refine Ac ?_
 by_cases h1:k=10
 ·subst h1
  have hu:Wq 10 a=-c:=by rw [Wq,if_pos rfl,hc']
  exact zF1 (a3 x1 w1 hu)
  all_goals done
 have b1:(k == 10)=false:=by rw [lx108]; exact h1
 by_cases h2:k=11
 ·subst h2
  have hu:Wq 11 a=Gt (c == 0):=by rw [Wq,if_neg (by decide),if_pos rfl,hc']
  exact zF1 (a3 x1 x2 hu)
  all_goals done
 have b2:(k == 11)=false:=by rw [lx108]; exact h2
 have hu:Wq k a=0:=by rw [Wq,if_neg h1,if_neg h2]
 exact zF1 (a4 x1 b1 b2 hu)
 all_goals done
def Di (k a b:Int):Int:=if k=12 then AP (AP a * AP b) else if k=13 then (if AP b=0 then 0 else (AP a).tdiv (AP b)) else if k=14 then (if AP b=0 then 0 else (AP a).tmod (AP b)) else if k=15 then AP (AP a+AP b) else if k=16 then AP (AP a - AP b) else if k=17 then Gt (decide (AP a < AP b)) else if k=18 then Gt (decide (AP a≤AP b)) else if k=19 then Gt (decide (AP b < AP a)) else if k=20 then Gt (decide (AP b≤AP a)) else if k=21 then Gt (AP a == AP b) else if k=22 then Gt (AP a != AP b) else if k=23 then Gt ((AP a != 0) && (AP b != 0)) else if k=24 then Gt ((AP a != 0) || (AP b != 0)) else 0
noncomputable def f230:=EF (fun _:Int × Int × Int=>True) (fun p=>[kA .i64 p.1,kA .i64 p.2.1,kA .i64 p.2.2]) (fun p=>kA .i64 (Di p.1 p.2.1 p.2.2))
theorem Bq9 (k a b:Int):f230 [.sc (.int .i64 k),.sc (.int .i64 a),.sc (.int .i64 b)]=some (.sc (.int .i64 (Di k a b))):=
 (AK (q:=fun _:Int × Int × Int=>True) (enc:=fun p=>[kA .i64 p.1,kA .i64 p.2.1,kA .i64 p.2.2]) (out:=fun p=>kA .i64 (Di p.1 p.2.1 p.2.2)) (k,a,b) trivial (by rintro ⟨x,y,z⟩ h; simp only [lx94,AW] at h; rw [BR h.1,BR h.2.1,BR h.2.2]) :)
theorem Bb3 {x y m:Int} (h0:0≤m) (h1:-m≤x) (h2:x≤m) (h3:-m≤y) (h4:y≤m):-(m * m)≤x * y∧x * y≤m * m:=by
 have hx:x.natAbs≤m.natAbs:=An
 have hy:y.natAbs≤m.natAbs:=An
 have h:=Nat.mul_le_mul hx hy
 rw [←Int.natAbs_mul,←Int.natAbs_mul] at h
 have hm:0≤m * m:=Int.mul_nonneg h0 h0
 generalize x * y=p at *
 generalize m * m=q at *
 omega
theorem Age {x y m:Int} (h1:-m≤x) (h2:x≤m):-m≤x.tdiv y∧x.tdiv y≤m:=by
 have h:(x.tdiv y).natAbs=x.natAbs / y.natAbs:=Int.natAbs_tdiv x y
 have h':=Nat.div_le_self x.natAbs y.natAbs
 generalize x.natAbs / y.natAbs=q at *
 omega
theorem Bk3:DC Tryz.prog 230 f230:=AN <| by
 rintro ⟨k,a,b⟩ -
 have x1:=Aie a
 have x2:=Aie b
 have ha:=G1 a
 have hb:=G1 b
 have hR:∀ r,Di k a b=r→Di k a b=r:=fun _ h=>h
 obtain ⟨c,hc⟩:∃ c,AP a=c:=⟨_,rfl⟩
 obtain ⟨d,hd⟩:∃ d,AP b=d:=⟨_,rfl⟩
 rw [hc] at x1 ha
 rw [hd] at x2 hb
 have hm:=Bb3 (m:=2147483647) (by omega) ha.1 ha.2 hb.1 hb.2
 have hq:=Age (y:=d) ha.1 ha.2
 have w1:IntKind.i64.wrap (c * d)=c * d:=CR (by omega) (by omega)
 have w2:IntKind.i64.wrap (c+d)=c+d:=CR (by omega) (by omega)
 have w3:IntKind.i64.wrap (c - d)=c - d:=CR (by omega) (by omega)
 have w4:IntKind.i64.wrap (c.tdiv d)=c.tdiv d:=CR (by omega) (by omega)
 clear hm hq
 refine Ab (AF ((.cons Ax3 (.cons Axl .nil))) (.nil)) rfl Tryz.func230 rfl (by decide) (by kernel_rfl) (by kernel_rfl) ?_
 simp only [Tryz.f230,Ae,lx52,lx63,Nat.reduceAdd,Nat.reduceSub,List.replicate]
 refine Ac ?_
 by_cases h12:k=12
 ·subst h12
  have hu:Di 12 a b=AP (c * d):=H6
  have x3:=Aie (c * d)
  exact zF1 (a5 x1 x2 hu x3 w1)
  all_goals done
 by_cases h13:k=13
 ·subst h13
  have hu:Di 13 a b=(if d=0 then 0 else c.tdiv d):=H6
  by_cases hz:d=0
  ·subst hz
   rw [if_pos rfl] at hu
   exact zF1 (a3 x1 x2 hu)
   all_goals done
  ·have z1:(d != 0)=true:=by simpa using hz
   have z2:(d == 0)=false:=by simpa using hz
   rw [if_neg hz] at hu
   exact zF1 (a6 x1 x2 hu z1 hz w4)
   all_goals done
 by_cases h14:k=14
 ·subst h14
  have hu:Di 14 a b=(if d=0 then 0 else c.tmod d):=H6
  by_cases hz:d=0
  ·subst hz
   rw [if_pos rfl] at hu
   exact zF1 (a3 x1 x2 hu)
   all_goals done
  ·have z1:(d != 0)=true:=by simpa using hz
   have z2:(d == 0)=false:=by simpa using hz
   rw [if_neg hz] at hu
   exact zF1 (a5 x1 x2 hu z1 hz)
   all_goals done
 by_cases h15:k=15
 ·subst h15
  have hu:Di 15 a b=AP (c+d):=H6
  have x3:=Aie (c+d)
  exact zF1 (a5 x1 x2 hu x3 w2)
  all_goals done
 by_cases h16:k=16
 ·subst h16
  have hu:Di 16 a b=AP (c - d):=H6
  have x3:=Aie (c - d)
  exact zF1 (a5 x1 x2 hu x3 w3)
  all_goals done
 by_cases h17:k=17
 ·subst h17
  have hu:Di 17 a b=Gt (decide (c < d)):=H6
  have x3:=Z6 (decide (c < d))
  exact Ah2
 by_cases h18:k=18
 ·subst h18
  have hu:Di 18 a b=Gt (decide (c≤d)):=H6
  have x3:=Z6 (decide (c≤d))
  exact Ah2
 by_cases h19:k=19
 ·subst h19
  have hu:Di 19 a b=Gt (decide (d < c)):=H6
  have x3:=Z6 (decide (d < c))
  exact Ah2
 by_cases h20:k=20
 ·subst h20
  have hu:Di 20 a b=Gt (decide (d≤c)):=H6
  have x3:=Z6 (decide (d≤c))
  exact Ah2
 by_cases h21:k=21
 ·subst h21
  have hu:Di 21 a b=Gt (c == d):=H6
  have x3:=Z6 (c == d)
  exact Ah2
 by_cases h22:k=22
 ·subst h22
  have hu:Di 22 a b=Gt (c != d):=H6
  have x3:=Z6 (c != d)
  exact Ah2
 by_cases h23:k=23
 ·subst h23
  have hu:Di 23 a b=Gt ((c != 0) && (d != 0)):=H6
  exact Bcl
 by_cases h24:k=24
 ·subst h24
  have hu:Di 24 a b=Gt ((c != 0) || (d != 0)):=H6
  exact Bcl
 have b12:(k == 12)=false:=by rw [lx108]; exact h12
 have b13:(k == 13)=false:=by rw [lx108]; exact h13
 have b14:(k == 14)=false:=by rw [lx108]; exact h14
 have b15:(k == 15)=false:=by rw [lx108]; exact h15
 have b16:(k == 16)=false:=by rw [lx108]; exact h16
 have b17:(k == 17)=false:=by rw [lx108]; exact h17
 have b18:(k == 18)=false:=by rw [lx108]; exact h18
 have b19:(k == 19)=false:=by rw [lx108]; exact h19
 have b20:(k == 20)=false:=by rw [lx108]; exact h20
 have b21:(k == 21)=false:=by rw [lx108]; exact h21
 have b22:(k == 22)=false:=by rw [lx108]; exact h22
 have b23:(k == 23)=false:=by rw [lx108]; exact h23
 have b24:(k == 24)=false:=by rw [lx108]; exact h24
 have hu:Di k a b=0:=by simp only [Di,h12,h13,h14,h15,h16,h17,h18,h19,h20,h21,h22,h23,h24,lx9]
 exact zF1 (a16 x1 x2 hu b12 b13 b14 b15 b16 b17 b18 b19 b20 b21 b22 b23 b24)
 all_goals done
def Ac2 (mo tr ix:Int) (e:En):Bool:=(e.mo == mo) && (e.tr == tr) && (e.ix == ix)
def Eg (c:Cd) (mo tr ix:Int):Option En:=c.ens.find? (Ac2 mo tr ix)
def pcO (o:Option En):Int:=(o.map (·.pc)).getD 0
theorem Agf {p:En→Bool} {l:List En} {r:Nat} (hr:r < l.length) (h:p (l.getD r default)=true) (hn:∀ j,j < r→p (l.getD j default)=false):l.find? p=some (l.getD r default):=by
 have hg:l.getD r default=l[r]:=by rw [lx81,lx50 hr]; rfl
 rw [hg] at h ⊢
 refine List.find?_eq_some_iff_getElem.2 ⟨h,r,hr,rfl,fun j hj=>?_⟩
 exact Auv
theorem Ath {p:En→Bool} {l:List En} (hn:∀ j,j < l.length→p (l.getD j default)=false):l.find? p=none:=by
 refine List.find?_eq_none.2 fun x hx=>?_
 obtain ⟨j,hj,rfl⟩:=List.mem_iff_getElem.1 hx
 have:=hn j hj
 rw [lx81,lx50 hj] at this
 simpa using this
noncomputable def f156:=EF (fun p:Cd × Int × Int × Int=>Fit p.1) (fun p=>[CI p.1,kA .i64 p.2.1,kA .i64 p.2.2.1,kA .i64 p.2.2.2]) (fun p=>.tu [kA .i64 (pcO (Eg p.1 p.2.1 p.2.2.1 p.2.2.2)),bA (Eg p.1 p.2.1 p.2.2.1 p.2.2.2).isSome])
theorem Bb5 (c:Cd) (h:Fit c) (a b d:Int):f156 [CI c,.sc (.int .i64 a),.sc (.int .i64 b),.sc (.int .i64 d)]=some (.tu [.sc (.int .i64 (pcO (Eg c a b d))),.sc (.bool (Eg c a b d).isSome)]):=
 (AK (q:=fun p:Cd × Int × Int × Int=>Fit p.1) (enc:=fun p=>[CI p.1,kA .i64 p.2.1,kA .i64 p.2.2.1,kA .i64 p.2.2.2]) (out:=fun p=>.tu [kA .i64 (pcO (Eg p.1 p.2.1 p.2.2.1 p.2.2.2)),bA (Eg p.1 p.2.1 p.2.2.1 p.2.2.2).isSome]) (c,a,b,d) h (by
  rintro ⟨c',a',b',d'⟩ h
  simp only [lx94,AW] at h
  rw [Dn h.1,BR h.2.1,BR h.2.2.1,BR h.2.2.2]) :)
theorem Aom:DC Tryz.prog 156 f156:=AN <| by
 rintro ⟨c,mo,tr,ix⟩ hq
 have hl:=hq.ens
 simp only at hl ⊢
 refine Ab (AF (.nil) (.nil)) rfl Tryz.func156 rfl (by decide) (by kernel_rfl) (by kernel_rfl) ?_
 simp only [Tryz.f156,Ae,lx52,lx63,Nat.reduceAdd,Nat.reduceSub,List.replicate]
 refine Ac ?_
 refine gF0 ?_
 refine Az (σ:=Nat) (fun r cnt=>⟨CW 0 38 [(1,.sc (.int .i64 mo)),(2,.sc (.int .i64 tr)),(3,.sc (.int .i64 ix)),(13,.vw c.ze (c.ens.map Fw)),(14,.sc (.int .i64 c.ens.length)),(15,.sc (.int .i64 r))],[⟨true,0,36,7,[CI c],false⟩],cnt⟩)
  (fun r=>r≤c.ens.length∧∀ j,j < r→Ac2 mo tr ix (c.ens.getD j default)=false) (fun r=>c.ens.length - r) 0 ⟨by omega,by omega⟩ ?_ ?_ rfl ?_
 ·exact Gm
 ·exact Ajs
 rintro r cnt ⟨hr,hn⟩ ih
 by_cases hr':r < c.ens.length
 rotate_left
 ·obtain rfl:r=c.ens.length:=by omega
  have h1:decide ((c.ens.length:Int) < (c.ens.length:Int))=false:=AZ
  have hf:Eg c mo tr ix=none:=Ath hn
  rw [hf]
  refine Ac ?_
  refine Cb ?_
  simp (maxSteps:=10000000) +contextual -implicitDefEqProofs only [AX,AT,St.put,↓reduceIte,Ai,h1,pcO,lx3,Option.getD_none]
  all_goals done
 have h1:decide ((r:Int) < (c.ens.length:Int))=true:=Au
 have h2:decide (r < c.ens.length)=true:=Au
 have w1:IntKind.i64.wrap ((r:Int)+1)=((r+1:Nat):Int):=CT
 have ih:=fun v c'=>ih (r+1) c' ⟨by omega,v⟩ (by omega)
 have hfa:=fun h=>Agf (p:=Ac2 mo tr ix) hr' h hn
 have htn:=fun h=>De (p:=fun j=>Ac2 mo tr ix (c.ens.getD j default)=false) hn h
 obtain ⟨x,hx⟩:∃ x,c.ens.getD r default=x:=⟨_,rfl⟩
 rw [hx] at hfa htn
 obtain ⟨b1,hb1⟩:∃ b,(x.mo == mo)=b:=⟨_,rfl⟩
 obtain ⟨b2,hb2⟩:∃ b,(x.tr == tr)=b:=⟨_,rfl⟩
 obtain ⟨b3,hb3⟩:∃ b,(x.ix == ix)=b:=⟨_,rfl⟩
 rw [Ac2,hb1,hb2,hb3] at hfa htn
 refine Ac ?_
 refine Cb ?_
 cases b1 <;> cases b2 <;> cases b3
 rotate_left 7
 ·have hf:Eg c mo tr ix=some x:=hfa rfl
  rw [hf]
  simp (maxSteps:=10000000) +contextual -implicitDefEqProofs only [AX,AT,Ao,St.put,↓reduceIte,reduceCtorEq,Nat.reduceAdd,Int.reduceLT,Nat.reduceLT,CS,Int.reduceAdd,B9,Cv,Ai,norefs,AV.noref,h1,h2,Ez,AO,hx,hb1,hb2,hb3,pcO,Option.isSome_some,lx4]
  all_goals done
 all_goals
  have hv:=htn rfl
  refine gF1 (a8 h1 h2 w1 hx hb1 hb2 hb3 @Ez) ?_
  refine AB ?_ ?_ (Av _) (ih hv _)
  all_goals simp (maxSteps:=10000000) only [AX,AT,↓reduceIte,reduceCtorEq,Nat.reduceAdd,Nat.reduceEqDiff,CW,Jw,Ai]
 all_goals done
noncomputable def f205:=EF (fun _:Int × Int × Int=>True) (fun p=>[kA .i64 p.1,kA .i64 p.2.1,kA .i64 p.2.2]) (fun p=>kA .i64 (min (max p.1 p.2.1) p.2.2))
theorem Bqa (n lo hi:Int):f205 [.sc (.int .i64 n),.sc (.int .i64 lo),.sc (.int .i64 hi)]=some (.sc (.int .i64 (min (max n lo) hi))):=
 (AK (q:=fun _:Int × Int × Int=>True) (enc:=fun p=>[kA .i64 p.1,kA .i64 p.2.1,kA .i64 p.2.2]) (out:=fun p=>kA .i64 (min (max p.1 p.2.1) p.2.2)) (n,lo,hi) trivial (by rintro ⟨x,y,z⟩ h; simp only [lx94,AW] at h; rw [BR h.1,BR h.2.1,BR h.2.2]) :)
theorem Axm:DC Tryz.prog 205 f205:=AN <| by
 rintro ⟨n,lo,hi⟩ -
 refine Be2 ?_
 simp (maxSteps:=10000000) +contextual -implicitDefEqProofs only [AX,AT,St.put,B9,AL]
 all_goals done
def KT (x:Cx):Bool:=decide (0≤x.ti) && decide (x.ti≤1099511627776) && decide (0≤x.pl') && decide (x.pl'≤2147483647) && decide (0≤x.ba) && decide (x.ba≤2147483647)
def evB (c:Cd) (e:Ev):Bool:=HY e.tr 1 6 && HY e.mo (-1) (c.pri.length - 1)
def cvQ (p:Cd × Ev):Prop:=Fit p.1
noncomputable def f67:=EF cvQ (fun p=>[CI p.1,Hq p.2]) (fun p=>bA (evB p.1 p.2))
theorem e67 (c:Cd) (h:Fit c) (e:Ev):f67 [CI c,Hq e]=some (.sc (.bool (evB c e))):=
 (AK (q:=cvQ) (enc:=fun p=>[CI p.1,Hq p.2]) (out:=fun p=>bA (evB p.1 p.2)) (c,e) h (by rintro ⟨x,y⟩ h; simp only [lx94,AW] at h; rw [Dn h.1,Wi h.2]) :)
theorem Bqb:DC Tryz.prog 67 f67:=AN <| by
 rintro ⟨c,e⟩ hq
 have hl:=hq.pri
 simp only at hl ⊢
 have w1:IntKind.i64.wrap ((c.pri.length:Int) - 1)=(c.pri.length:Int) - 1:=CR (by omega) (by omega)
 have x1:=e99 e.tr 1 6
 have x2:=e99 e.mo (-1) (c.pri.length - 1)
 refine Ab (AF ((.cons Bag .nil)) (.nil)) rfl Tryz.func67 rfl (by decide) (by kernel_rfl) (by kernel_rfl) ?_
 simp only [Tryz.f67,Ae,lx52,lx63,Nat.reduceAdd,Nat.reduceSub,List.replicate]
 refine Ac ?_
 cases h1:HY e.tr 1 6 <;> rw [h1] at x1 <;> simp (maxSteps:=10000000) +contextual -implicitDefEqProofs only [AX,AT,Ao,St.put,Am,Aj,Ds,pl,↓reduceIte,reduceCtorEq,Nat.reduceAdd,CS,Int.reduceAdd,B9,Bb,Ai,Cq,w1,x1,x2,evB,h1]
 all_goals done
noncomputable def f226:=EF (fun _:En × Int=>True) (fun p=>[Fw p.1,.vp [kA .i64 p.2] 0 0]) (fun p=>bA (p.1.pc == p.2))
theorem Bqc (x:En) (n:Int):f226 [Fw x,.vp [.sc (.int .i64 n)] 0 0]=some (bA (x.pc == n)):=
 (AK (q:=fun _:En × Int=>True) (enc:=fun p=>[Fw p.1,.vp [kA .i64 p.2] 0 0]) (out:=fun p=>bA (p.1.pc == p.2)) (x,n) trivial (by rintro ⟨y,m⟩ h; simp only [lx94,AW,AV.vp.injEq] at h; rw [I8 h.1,BR h.2]) :)
theorem Bk4:DC Tryz.prog 226 f226:=AN <| by
 rintro ⟨x,n⟩ -
 refine Ab (AF (.nil) (.nil)) rfl Tryz.func226 rfl (by decide) (by kernel_rfl) (by kernel_rfl) ?_
 simp only [Tryz.f226,Ae,lx52,lx63,Nat.reduceAdd,Nat.reduceSub,List.replicate]
 refine Ac ?_
 exact zF0
 all_goals done
structure Ed where
 sw:Int
 cl:Bool
deriving Inhabited
def edA (x:Ed):AV:=.ag [kA .i64 x.sw,bA x.cl]
theorem Aon (x:Ed):edA x=.ag [.sc (.int .i64 x.sw),.sc (.bool x.cl)]:=rfl
noncomputable def f207:=EF (fun _:Lo × Ef=>True) (fun p=>[B6 p.1,.vp [EJ p.2] 0 0]) (fun p=>bA (p.1.mo == p.2.a))
theorem Bk5 (x:Lo) (e:Ef):f207 [B6 x,.vp [EJ e] 0 0]=some (bA (x.mo == e.a)):=
 (AK (q:=fun _:Lo × Ef=>True) (enc:=fun p=>[B6 p.1,.vp [EJ p.2] 0 0]) (out:=fun p=>bA (p.1.mo == p.2.a)) (x,e) trivial (by rintro ⟨y,m⟩ h; simp only [lx94,AW,AV.vp.injEq] at h; rw [Ni h.1,Wj h.2]) :)
theorem Axn:DC Tryz.prog 207 f207:=AN <| by
 rintro ⟨x,e⟩ -
 refine Ab (AF (.nil) (.nil)) rfl Tryz.func207 rfl (by decide) (by kernel_rfl) (by kernel_rfl) ?_
 simp only [Tryz.f207,Ae,lx52,lx63,Nat.reduceAdd,Nat.reduceSub,List.replicate]
 refine Ac ?_
 exact zF0
 all_goals done
theorem Bk6 {g:Nat} {F:List AV→Option AV} (ok:DC Tryz.prog g F) (p:Lo→Bool) (es:List AV) (z:Bool) (l:List Lo) (he:∀ x ∈ l,F (B6 x::[.vp es 0 0])=some (bA (p x))) (hlL:l.length≤1000000):
  Ap Tryz.prog 232 [.vw z (l.map B6),.fn g [.vp es 0 0]] (kA .i64 (RL p l)):=by
 refine Ab (AF ((.cons ok .nil)) (.nil)) rfl Tryz.func232 rfl (by decide) (by kernel_rfl) (by kernel_rfl) ?_
 simp only [Tryz.f232,Ae,lx52,lx63,Nat.reduceAdd,Nat.reduceSub,List.replicate]
 refine qd7 ?_
 refine Az (σ:=Nat) (fun r cnt=>⟨CW 0 19 [(0,.vw z (l.map B6)),(1,.fn g [.vp es 0 0]),(7,.sc (.int .i64 l.length)),(8,.sc (.int .i64 r))],[],cnt⟩)
  (fun r=>r≤l.length∧∀ j,j < r→p (l.getD j default)=false) (fun r=>l.length - r) 0 ⟨by omega,by omega⟩ ?_ trivial rfl ?_
 ·exact Gm
 rintro r cnt ⟨hr,hn⟩ ih
 refine Ac ?_
 by_cases hr':r < l.length
 ·have h1:decide ((r:Int) < (l.length:Int))=true:=by rw [Bw]; omega
  have h2:decide (r < l.length)=true:=Au
  have w1:IntKind.i64.wrap ((r:Int)+1)=((r+1:Nat):Int):=CT
  have hm:=DJ hr'
  obtain ⟨x,hx⟩:∃ x,l.getD r default=x:=⟨_,rfl⟩
  have e1:=he x (by rw [←hx]; exact hm)
  simp only [BS,Bb] at e1
  by_cases hv:p (l.getD r default)=true
  ·have e:=Mz (p:=p) hr' hv hn
   rw [hx] at hv
   refine Cb ?_
   exact zF1 (a7 h1 h2 hx e1 hv e @CJ)
  ·rw [Hw] at hv
   have e:=De hn hv
   rw [hx] at hv
   refine Cb ?_
   refine gF1 (a7 h1 h2 hx e1 hv w1 @CJ) ?_
   exact Aco
 ·have hrl:r=l.length:=by omega
  subst hrl
  have h1:decide ((l.length:Int) < (l.length:Int))=false:=AZ
  have e:=Vv (p:=p) hn
  refine Cb ?_
  simp (maxSteps:=10000000) +contextual -implicitDefEqProofs only [AX,AT,St.put,↓reduceIte,h1,e]end Go.Proofs.YtdjpkhjaibdogaaGreat
namespace Go.Proofs.YtdjpkhjaibdogaaGreat
open Go Go.SX
attribute [local congr] ite_congr
theorem DW (a x:Blk) (R:List Blk):Cs (a::(R++[x]))=x.els:=by rw [←lx90,C9]
structure Mk0 where
 c0:AV
 c1:AV
 c2:AV
 c3:AV
 c4:AV
 c5:AV
 c6:AV
 c7:AV
 c8:AV
 c9:AV
 c10:AV
 c11:AV
 c12:AV
 c13:AV
 c14:AV
 B1:Blk
 R:List Blk
 w:Nat
def WJ (k:Mk0) (sv ev:AV) (B2 B3:Blk):List Blk:=⟨true,k.w,253,17,[.ag [k.c0,k.c1,k.c2,k.c3,k.c4,k.c5,k.c6,k.c7,k.c8,k.c9,k.c10,k.c11,k.c12,k.c13,k.c14,sv,ev]],false⟩::k.B1::B2::B3::k.R
theorem Wr {k k':Mk0} {sv ev sv' ev':AV} {B2 B3 B2' B3':Blk} (h:WJ k sv ev B2 B3=WJ k' sv' ev' B2' B3'):k=k'∧sv=sv'∧ev=ev'∧B2=B2'∧B3=B3':=by
 cases k; cases k'
 simp only [WJ,lx94,Blk.mk.injEq,AV.ag.injEq,AW,C5] at h
 simp_all
def skB (v:Nat) (E:List AV) (f:Bool):Blk:=⟨true,v,3,1,E,f⟩
theorem Agg {v v':Nat} {E E':List AV} {f f':Bool} (h:skB v E f=skB v' E' f'):v=v'∧E=E'∧f=f':=by simpa [skB] using h
structure Pt where
 k:Mk0
 ev:AV
 B3:Blk
 s:Nat
 n:Nat
 E:List AV
 f:Bool
 x:Int
 cnt:Nat
noncomputable def f227:=mkH (fun p:Pt=>p.n≤100000) (fun p=>([.pt 0 p.k.w 0 0,kA .i64 p.x],WJ p.k (.sl 2 p.s 0 p.n) p.ev (skB p.s p.E p.f) p.B3,p.cnt))
 (fun p=>(.tu [],WJ p.k (.sl 2 (p.cnt+1) 0 (p.n+1)) p.ev (skB (p.cnt+1) (p.E.take p.n++[kA .i64 p.x]) false) p.B3,p.cnt+2))
theorem Bqd (c0 c1 c2 c3 c4 c5 c6 c7 c8 c9 c10 c11 c12 c13 c14:AV) (B1:Blk) (R:List Blk) (w:Nat) (ev:AV) (B3:Blk) (s n:Nat) (E:List AV) (f:Bool) (x:Int) (cnt:Nat) (hn:n≤100000):
  f227 [.pt 0 w 0 0,.sc (.int .i64 x)] (⟨true,w,253,17,[.ag [c0,c1,c2,c3,c4,c5,c6,c7,c8,c9,c10,c11,c12,c13,c14,.sl 2 s 0 n,ev]],false⟩::B1::⟨true,s,3,1,E,f⟩::B3::R) cnt=
   some (.tu [],⟨true,w,253,17,[.ag [c0,c1,c2,c3,c4,c5,c6,c7,c8,c9,c10,c11,c12,c13,c14,.sl 2 (cnt+1) 0 (n+1),ev]],false⟩::B1::⟨true,cnt+1,3,1,E.take n++[.sc (.int .i64 x)],false⟩::B3::R,cnt+2):=
 (IT (q:=fun p:Pt=>p.n≤100000) (enc:=fun p=>([.pt 0 p.k.w 0 0,kA .i64 p.x],WJ p.k (.sl 2 p.s 0 p.n) p.ev (skB p.s p.E p.f) p.B3,p.cnt))
  (out:=fun p=>(.tu [],WJ p.k (.sl 2 (p.cnt+1) 0 (p.n+1)) p.ev (skB (p.cnt+1) (p.E.take p.n++[kA .i64 p.x]) false) p.B3,p.cnt+2)) ⟨⟨c0,c1,c2,c3,c4,c5,c6,c7,c8,c9,c10,c11,c12,c13,c14,B1,R,w⟩,ev,B3,s,n,E,f,x,cnt⟩ hn (by
  rintro ⟨k,ev',B3',s',n',E',f',x',cnt'⟩ _ h
  simp only [lx40,lx94,AW] at h
  obtain ⟨⟨_,h1⟩,h2,h3⟩:=h
  obtain ⟨rfl,g1,rfl,g2,rfl⟩:=Wr h2
  simp only [AV.sl.injEq,C5] at g1
  obtain ⟨rfl,rfl⟩:=g1
  obtain ⟨_,rfl,rfl⟩:=Agg g2
  obtain rfl:=BR h1
  obtain rfl:=h3
  rfl) :)
theorem Bk7:Jo Tryz.prog 227 f227:=IU <| by
 rintro ⟨⟨c0,c1,c2,c3,c4,c5,c6,c7,c8,c9,c10,c11,c12,c13,c14,B1,R,w⟩,ev,B3,s,n,E,f,x,cnt⟩ hq
 simp only at hq
 have hz:decide ((n+1) * 8≤140737488355328)=true:=Au
 refine Ad (Af (lit:=true) (pm:=fun _=>none) .nil .nil .nil .nil) rfl Tryz.func227 rfl (by decide) (by kernel_rfl) ?_
 simp only [Tryz.f227,Ae,lx52,lx63,Nat.reduceAdd,Nat.reduceSub,List.replicate]
 simp only [WJ,skB]
 refine Ac ?_
 refine gF1 (a7 hz @Ch @BZ @Bo @Be @B4 @DW) ?_
 exact .refl _
structure Tk where
 k:Mk0
 ev:AV
 B3:Blk
 s:Nat
 n:Nat
 E:List AV
 f:Bool
 x:Int
 cnt:Nat
def tkQ (p:Tk):Prop:=p.n≤100000∧p.E[p.n]?=some (kA .i64 p.x)
noncomputable def f228:=mkH tkQ (fun p=>([.pt 0 p.k.w 0 0],WJ p.k (.sl 2 p.s 0 (p.n+1)) p.ev (skB p.s p.E p.f) p.B3,p.cnt))
 (fun p=>(kA .i64 p.x,WJ p.k (.sl 2 p.s 0 p.n) p.ev (skB p.s p.E p.f) p.B3,p.cnt))
theorem Ati (c0 c1 c2 c3 c4 c5 c6 c7 c8 c9 c10 c11 c12 c13 c14:AV) (B1:Blk) (R:List Blk) (w:Nat) (ev:AV) (B3:Blk) (s n:Nat) (E:List AV) (f:Bool) (x:Int) (cnt:Nat) (hn:n≤100000) (hx:E[n]?=some (.sc (.int .i64 x))):
  f228 [.pt 0 w 0 0] (⟨true,w,253,17,[.ag [c0,c1,c2,c3,c4,c5,c6,c7,c8,c9,c10,c11,c12,c13,c14,.sl 2 s 0 (n+1),ev]],false⟩::B1::⟨true,s,3,1,E,f⟩::B3::R) cnt=
   some (.sc (.int .i64 x),⟨true,w,253,17,[.ag [c0,c1,c2,c3,c4,c5,c6,c7,c8,c9,c10,c11,c12,c13,c14,.sl 2 s 0 n,ev]],false⟩::B1::⟨true,s,3,1,E,f⟩::B3::R,cnt):=
 (IT (q:=tkQ) (enc:=fun p=>([.pt 0 p.k.w 0 0],WJ p.k (.sl 2 p.s 0 (p.n+1)) p.ev (skB p.s p.E p.f) p.B3,p.cnt))
  (out:=fun p=>(kA .i64 p.x,WJ p.k (.sl 2 p.s 0 p.n) p.ev (skB p.s p.E p.f) p.B3,p.cnt)) ⟨⟨c0,c1,c2,c3,c4,c5,c6,c7,c8,c9,c10,c11,c12,c13,c14,B1,R,w⟩,ev,B3,s,n,E,f,x,cnt⟩ ⟨hn,hx⟩ (by
  rintro ⟨k,ev',B3',s',n',E',f',x',cnt'⟩ ⟨_,hx'⟩ h
  simp only [lx40,lx94,AW] at h hx'
  obtain ⟨_,h2,h3⟩:=h
  obtain ⟨rfl,g1,rfl,g2,rfl⟩:=Wr h2
  simp only [AV.sl.injEq,C5,Nat.add_right_cancel_iff] at g1
  obtain ⟨rfl,rfl⟩:=g1
  obtain ⟨_,rfl,rfl⟩:=Agg g2
  rw [hx] at hx'
  obtain rfl:=BR (Option.some.inj hx')
  obtain rfl:=h3
  rfl) :)
theorem Bk8:Jo Tryz.prog 228 f228:=IU <| by
 rintro ⟨⟨c0,c1,c2,c3,c4,c5,c6,c7,c8,c9,c10,c11,c12,c13,c14,B1,R,w⟩,ev,B3,s,n,E,f,x,cnt⟩ ⟨hq,hx⟩
 simp only at hq hx
 have w1:IntKind.i64.wrap (((n+1:Nat):Int) - 1)=(n:Int):=CT
 have h1:decide ((n:Int) < ((n+1:Nat):Int))=true:=Au
 have h2:decide ((n:Int)≤((n+1:Nat):Int))=true:=Au
 refine Ad (Af (lit:=true) (pm:=fun _=>none) .nil .nil .nil .nil) rfl Tryz.func228 rfl (by decide) (by kernel_rfl) ?_
 simp only [Tryz.f228,Ae,lx52,lx63,Nat.reduceAdd,Nat.reduceSub,List.replicate]
 simp only [WJ,skB]
 refine Ac ?_
 refine gF1 (a5 w1 h1 h2 hx @Bg) ?_
 repeat' (first | exact Aa (by kernel_rfl) | refine ⟨Aa (by kernel_rfl),?_⟩ | refine And.intro ?_ ?_ | fail)
 all_goals done
structure Pe where
 k:Mk0
 sv:AV
 B2:Blk
 s:Nat
 n:Nat
 E:List AV
 f:Bool
 i:In
 b:Int
 c:Int
 cnt:Nat
def eB:ByteArray:=⟨#[]⟩
noncomputable def f231:=mkH (fun p:Pe=>p.n≤100000) (fun p=>([.pt 0 p.k.w 0 0,Gd p.i,kA .i64 p.b,kA .i64 p.c],WJ p.k p.sv (.sl 3 p.s 0 p.n) p.B2 ⟨true,p.s,73,5,p.E,p.f⟩,p.cnt))
 (fun p=>(.tu [],WJ p.k p.sv (.sl 3 (p.cnt+2) 0 (p.n+1)) p.B2 ⟨true,p.cnt+2,73,5,p.E.take p.n++[EJ ⟨p.i.op,p.i.a,p.b,p.c,eB⟩],false⟩,p.cnt+3))
theorem Bqe (c0 c1 c2 c3 c4 c5 c6 c7 c8 c9 c10 c11 c12 c13 c14:AV) (B1:Blk) (R:List Blk) (w:Nat) (sv:AV) (B2:Blk) (s n:Nat) (E:List AV) (f:Bool) (op a b c:Int) (cnt:Nat) (hn:n≤100000):
  f231 [.pt 0 w 0 0,.ag [.sc (.int .i64 op),.sc (.int .i64 a)],.sc (.int .i64 b),.sc (.int .i64 c)] (⟨true,w,253,17,[.ag [c0,c1,c2,c3,c4,c5,c6,c7,c8,c9,c10,c11,c12,c13,c14,sv,.sl 3 s 0 n]],false⟩::B1::B2::⟨true,s,73,5,E,f⟩::R) cnt=
   some (.tu [],⟨true,w,253,17,[.ag [c0,c1,c2,c3,c4,c5,c6,c7,c8,c9,c10,c11,c12,c13,c14,sv,.sl 3 (cnt+2) 0 (n+1)]],false⟩::B1::B2::⟨true,cnt+2,73,5,E.take n++[.ag [.sc (.int .i64 op),.sc (.int .i64 a),.sc (.int .i64 b),.sc (.int .i64 c),.sc (.string eB)]],false⟩::R,cnt+3):=
 (IT (q:=fun p:Pe=>p.n≤100000) (enc:=fun p=>([.pt 0 p.k.w 0 0,Gd p.i,kA .i64 p.b,kA .i64 p.c],WJ p.k p.sv (.sl 3 p.s 0 p.n) p.B2 ⟨true,p.s,73,5,p.E,p.f⟩,p.cnt))
  (out:=fun p=>(.tu [],WJ p.k p.sv (.sl 3 (p.cnt+2) 0 (p.n+1)) p.B2 ⟨true,p.cnt+2,73,5,p.E.take p.n++[EJ ⟨p.i.op,p.i.a,p.b,p.c,eB⟩],false⟩,p.cnt+3)) ⟨⟨c0,c1,c2,c3,c4,c5,c6,c7,c8,c9,c10,c11,c12,c13,c14,B1,R,w⟩,sv,B2,s,n,E,f,⟨op,a⟩,b,c,cnt⟩ hn (by
  rintro ⟨k,sv',B2',s',n',E',f',i',b',c',cnt'⟩ _ h
  simp only [lx40,lx94,AW] at h
  obtain ⟨⟨_,h1,h4,h5⟩,h2,h3⟩:=h
  obtain ⟨rfl,rfl,g1,rfl,g2⟩:=Wr h2
  simp only [AV.sl.injEq,C5] at g1
  obtain ⟨rfl,rfl⟩:=g1
  simp only [Blk.mk.injEq,C5] at g2
  obtain ⟨rfl,rfl⟩:=g2
  obtain rfl:=Afs h1
  obtain rfl:=BR h4
  obtain rfl:=BR h5
  obtain rfl:=h3
  rfl) :)
theorem Bk9:Jo Tryz.prog 231 f231:=IU <| by
 rintro ⟨⟨c0,c1,c2,c3,c4,c5,c6,c7,c8,c9,c10,c11,c12,c13,c14,B1,R,w⟩,sv,B2,s,n,E,f,⟨op,a⟩,b,c,cnt⟩ hq
 simp only at hq
 have hz:decide ((n+1) * 48≤140737488355328)=true:=Au
 refine Ad (Af (lit:=true) (pm:=fun _=>none) .nil .nil .nil .nil) rfl Tryz.func231 rfl (by decide) (by kernel_rfl) ?_
 simp only [Tryz.f231,Ae,lx52,lx63,Nat.reduceAdd,Nat.reduceSub,List.replicate]
 simp only [WJ,eB]
 refine Ac ?_
 refine gF1 (a7 hz @ET @DW @BU @ZO @ZP @dl2) ?_
 repeat' (first | exact Aa (by kernel_rfl) | refine ⟨Aa (by kernel_rfl),?_⟩ | refine And.intro ?_ ?_ | fail)
 all_goals first | exact .refl _ | exact .inl rfl | exact Ci _ _ _ | omega | trivial | skip
 all_goals done
structure Rk0 where
 c0:AV
 c1:AV
 c2:AV
 c3:AV
 c4:AV
 c5:AV
 c6:AV
 c7:AV
 c8:AV
 c9:AV
 c10:AV
 c11:AV
 c12:AV
 c13:AV
 c14:AV
 c15:AV
 c16:AV
 B1:Blk
 R:List Blk
 w:Nat
structure Ptr where
 k:Rk0
 ev:AV
 B3:Blk
 s:Nat
 n:Nat
 E:List AV
 f:Bool
 x:Int
 cnt:Nat
structure Tkr where
 k:Rk0
 ev:AV
 B3:Blk
 s:Nat
 n:Nat
 E:List AV
 f:Bool
 x:Int
 cnt:Nat
structure Per where
 k:Rk0
 sv:AV
 B2:Blk
 s:Nat
 n:Nat
 E:List AV
 f:Bool
 x:Ef
 cnt:Nat
end Go.Proofs.YtdjpkhjaibdogaaGreat
