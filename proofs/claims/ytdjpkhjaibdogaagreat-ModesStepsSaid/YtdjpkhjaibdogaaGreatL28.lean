/-
  Lemmas towards ModesSteps (joined texts: CE, CF, MA, CG, FA, FB).
  Conditions: none.
-/
import Derived.Test.YtdjpkhjaibdogaaGreatL01
import Derived.Test.YtdjpkhjaibdogaaGreatL02
import Derived.Test.YtdjpkhjaibdogaaGreatL27
import Derived.Test.YtdjpkhjaibdogaaGreatL23
import Derived.Test.YtdjpkhjaibdogaaGreatL18
set_option linter.unusedSimpArgs false
set_option linter.unusedVariables false
set_option maxRecDepth 100000
set_option maxHeartbeats 8000000
namespace Go.Proofs.YtdjpkhjaibdogaaGreat
open Go Go.SX
attribute [local congr] ite_congr
def cx0:Cx:=⟨0,0,0,0⟩
def loX (c:Cd) (s:Rs) (o:Lo):Bool:=decide (o.mo < 0) || decide ((c.pri.length:Int)≤o.mo) || !BQ s.act o.mo || decide (o.la < 0) || decide ((64:Int)≤o.la) || !LG o.se
def loY (s:Rs) (i:Nat):Bool:=decide ((0:Int) < (i:Int)) && decide (0≤IS (s.lamps.getD (i - 1) default) (s.lamps.getD i default))
def IF (c:Cd) (s:Rs) (i:Nat):Bool:=loX c s (s.lamps.getD i default) || loY s i
noncomputable def Bs (c:Cd) (s:Rs):Bool:=Ha c (C5 s cx0) && (decide (0≤s.fau) && decide (s.fau≤2147483647)) && !(List.range s.lamps.length).any (IF c s)
theorem Tv {c:Cd} {s:Rs} {i:Nat} (hi:i < s.lamps.length) (h:IF c s i=true):Bs c s=false:=by
 rw [Bs,Jc.2 ⟨i,hi,h⟩]; simp
theorem Mh {c:Cd} {s:Rs} (h:∀ i,i < s.lamps.length→IF c s i=false):Bs c s=(Ha c (C5 s cx0) && (decide (0≤s.fau) && decide (s.fau≤2147483647))):=by
 have:(List.range s.lamps.length).any (IF c s)=false:=by
  rw [Lj]
  intro hc
  obtain ⟨i,hi,h2⟩:=Jc.1 hc
  rw [h i hi] at h2; cases h2
 rw [Bs,this]; simp
theorem Fo {c:Cd} {v:Vn} (h:Ha c v=true):Bo c=0:=by
 simp only [Ha,AX,lx85] at h
 exact h.1.1.1.1.1.1.1
def csQ (p:Cd × Rs):Prop:=Fit p.1
noncomputable def f40:=Ew csQ (fun p=>[BP p.1,Gb p.2]) (fun p=>bA (Bs p.1 p.2))
theorem e40 (c:Cd) (s:Rs) (h:Fit c):f40 [BP c,Gb s]=some (.sc (.bool (Bs c s))):=
 (AK (q:=csQ) (enc:=fun p=>[BP p.1,Gb p.2]) (out:=fun p=>bA (Bs p.1 p.2)) (c,s) h (by
  rintro ⟨a,b⟩ h
  simp only [lx96,Ay] at h
  rw [CT h.1,JM h.2]) :)
theorem Bdu:DC Tryz.prog 40 f40:=AF <| by
 rintro ⟨c,s⟩ hq
 have hq:Fit c:=hq
 have x1:=e77 c (C5 s cx0) hq
 have x2:=e78 s cx0
 simp only [Ab,AS,Az,Cl,C5,cx0] at x1 x2
 simp only
 refine Ac (Aj (lit:=false) (pm:=fun _=>none) (.cons Bdr (.cons Af4 (.cons Bin (.cons Bdp .nil)))) (.cons Bip .nil) .nil .nil) rfl Tryz.func40 rfl (by decide) (by kernel_rfl) (by kernel_rfl) ?_
 simp only [Tryz.f40,Af,lx53,lx63,Nat.reduceAdd,Nat.reduceSub,List.replicate]
 refine T3 1 rfl fun hlen=>?_
 have hll:s.lamps.length < 9223372036854775808:=by
  have:=hlen s.zm (s.lamps.map Bp) (by simp [Gb])
  simp [maxLen] at this; omega
 clear hlen
 refine Aa ?_
 have hcx:(⟨s.zv,s.vars,s.zl,s.left,0,s.act,0,0⟩:Vn)=C5 s cx0:=rfl
 cases h1:Ha c ⟨s.zv,s.vars,s.zl,s.left,0,s.act,0,0⟩ with
 | false=>
  have e:Bs c s=false:=by rw [Bs,←hcx,h1]; rfl
  rw [h1] at x1
  exact JW (a4 x1 x2 e @Az)
  repeat' (first | exact Ad (by kernel_rfl) | refine ⟨Ad (by kernel_rfl),?_⟩ | refine And.intro ?_ ?_ | fail)
  all_goals done
 | true=>
 have hv:=Fo h1
 have hlm:=B5 hv
 rw [h1] at x1
 cases h2:decide (s.fau < 0) with
 | true=>
  have e:Bs c s=false:=by
   simp only [AN] at h2
   rw [Bs,E8 (by omega:¬ 0≤s.fau)]; simp
  exact JW (a5 x1 x2 h2 e @Az)
  repeat' (first | exact Ad (by kernel_rfl) | refine ⟨Ad (by kernel_rfl),?_⟩ | refine And.intro ?_ ?_ | fail)
  all_goals done
 | false=>
 cases h3:decide ((2147483647:Int) < s.fau) with
 | true=>
  have e:Bs c s=false:=by
   exact As3
  exact JW (a6 x1 x2 h2 h3 e @Az)
  repeat' (first | exact Ad (by kernel_rfl) | refine ⟨Ad (by kernel_rfl),?_⟩ | refine And.intro ?_ ?_ | fail)
  all_goals done
 | false=>
 have h4:(decide (0≤s.fau) && decide (s.fau≤2147483647))=true:=by
  simp only [BT] at h2 h3
  simp; omega
 refine O2 (a5 x1 x2 h2 h3 @Az) ?_
 repeat' (first | exact Ad (by kernel_rfl) | refine ⟨Ad (by kernel_rfl),?_⟩ | refine And.intro ?_ ?_ | fail)
 clear x1 x2 h2 h3
 refine Al (σ:=Nat) (fun k cnt=>⟨Bn 0 81 [(2,.pt 0 0 0 0),(3,.pt 1 1 0 0),(24,.vw s.zm (s.lamps.map Bp)),(25,.sc (.int .i64 s.lamps.length)),(26,.sc (.int .i64 k))],[⟨true,0,36,7,[BP c],false⟩,⟨true,1,41,5,[Gb s],false⟩],cnt⟩)
  (fun k=>k≤s.lamps.length∧∀ j,j < k→IF c s j=false) (fun k=>s.lamps.length - k) 0 ⟨by omega,by omega⟩ ?_ ?_ rfl ?_
 ·exact Gn
 ·simp (maxSteps:=10000000) only [AY,AW,Ab,Az]
 rintro k cnt ⟨hk,hn⟩ ih
 by_cases hk':k < s.lamps.length
 rotate_left
 ·obtain rfl:k=s.lamps.length:=by omega
  have g1:decide ((s.lamps.length:Int) < (s.lamps.length:Int))=false:=Bc
  have e:=Mh (c:=c) (s:=s) hn
  rw [←hcx,h1,h4] at e
  refine Aa ?_
  refine Bq ?_
  simp (maxSteps:=10000000) +contextual -implicitDefEqProofs only [AY,AW,St.put,↓reduceIte,CK,Ab,Az,g1,e]
  all_goals done
 have g1:decide ((k:Int) < (s.lamps.length:Int))=true:=Ae
 have g2:decide (k < s.lamps.length)=true:=Ae
 have w1:IntKind.i64.wrap ((k:Int)+1)=((k+1:Nat):Int):=AA
 have hno:IF c s k=true→Bs c s=false:=Tv hk'
 have ih:=fun hb cc=>ih (k+1) cc ⟨by omega,Bl hn hb⟩ (by omega)
 have hb:IF c s k=(loX c s (s.lamps.getD k default) || loY s k):=rfl
 have hY:loY s k=(decide ((0:Int) < (k:Int)) && decide (0≤IS (s.lamps.getD (k - 1) default) (s.lamps.getD k default))):=rfl
 obtain ⟨o,ho⟩:∃ o,s.lamps.getD k default=o:=⟨_,rfl⟩
 rw [ho] at hb hY
 have x3:=e79 o.se
 simp only [Ic] at x3
 refine Aa ?_
 cases c1:decide (o.mo < 0) with
 | true=>
  exact Ayr
 | false=>
 cases c2:decide ((c.pri.length:Int)≤o.mo) with
 | true=>
  exact Ayq
 | false=>
 have x4:=e58 s o.mo (by simp only [BT] at c1 c2; omega)
 simp only [Az] at x4
 cases c3:(!BQ s.act o.mo || decide (o.la < 0) || decide ((64:Int)≤o.la) || !LG o.se) with
 | true=>
  exact Ayj
 | false=>
 have hX:loX c s o=false:=by simp only [loX,c1,c2,IK,c3]
 rw [hX,IK] at hb
 by_cases hk0:0 < k
 rotate_left
 ·exact Aqs
 have c4:decide ((0:Int) < (k:Int))=true:=Ae
 have w2:IntKind.i64.wrap ((k:Int) - 1)=((k - 1:Nat):Int):=AA
 have g3:decide (((k - 1:Nat):Int) < (s.lamps.length:Int))=true:=Ae
 have g4:decide (k - 1 < s.lamps.length)=true:=Ae
 obtain ⟨o',ho'⟩:∃ o',s.lamps.getD (k - 1) default=o':=⟨_,rfl⟩
 rw [ho',c4,GX] at hY
 have x5:=e80 o' o
 simp only [Bg] at x5
 cases c5:decide (0≤IS o' o) with
 | true=>
  rw [c5] at hY
  rw [hY] at hb
  have e:=hno hb
  refine Bq ?_
  exact JW (a19 g1 g2 g3 g4 ho ho' c1 c2 x4 x3 c3 c4 x5 c5 w2 e @Bg @Az @B4)
  repeat' (first | exact Ad (by kernel_rfl) | refine ⟨Ad (by kernel_rfl),?_⟩ | refine And.intro ?_ ?_ | fail)
  all_goals done
 | false=>
  rw [c5] at hY
  rw [hY] at hb
  have ih:=ih hb
  refine Bq ?_
  refine O2 (a19 g1 g2 g3 g4 ho ho' c1 c2 x4 x3 c3 c4 x5 c5 w1 w2 @Bg @Az @B4) ?_
  exact Auj
theorem Aom (p l:Lo):(decide (l.mo < p.mo) || (p.mo == l.mo) && decide (l.la≤p.la))=decide (0≤IS p l):=by
 have h:=Ad3 p l
 rw [Bool.eq_iff_iff]
 simp only [IW,AX,AN,lx85]
 omega
theorem Awm:DC Tryz.prog 41 f40:=AF <| by
 rintro ⟨c,s⟩ hq
 have hq:Fit c:=hq
 have x1:=e77 c (C5 s cx0) hq
 simp only [Ab,AS,Az,Cl,C5,cx0] at x1
 simp only
 refine Ac (Aj (lit:=false) (pm:=fun _=>none) (.cons Bds (.cons Aoi (.cons Bio .nil))) .nil .nil .nil) rfl Tryz.func41 rfl (by decide) (by kernel_rfl) (by kernel_rfl) ?_
 simp only [Tryz.f41,Af,lx53,lx63,Nat.reduceAdd,Nat.reduceSub,List.replicate]
 refine T3 1 rfl fun hlen=>?_
 have hll:s.lamps.length < 9223372036854775808:=by
  have:=hlen s.zm (s.lamps.map Bp) (by simp [Gb])
  simp [maxLen] at this; omega
 clear hlen
 refine Aa ?_
 have hcx:(⟨s.zv,s.vars,s.zl,s.left,0,s.act,0,0⟩:Vn)=C5 s cx0:=rfl
 cases h1:Ha c ⟨s.zv,s.vars,s.zl,s.left,0,s.act,0,0⟩ with
 | false=>
  have e:Bs c s=false:=by rw [Bs,←hcx,h1]; rfl
  rw [h1] at x1
  exact JW (a3 x1 e @Az)
  repeat' (first | exact Ad (by kernel_rfl) | refine ⟨Ad (by kernel_rfl),?_⟩ | refine And.intro ?_ ?_ | fail)
  all_goals done
 | true=>
 have hv:=Fo h1
 have hlm:=B5 hv
 rw [h1] at x1
 cases h2:decide (s.fau < 0) with
 | true=>
  have e:Bs c s=false:=by
   simp only [AN] at h2
   rw [Bs,E8 (by omega:¬ 0≤s.fau)]; simp
  exact JW (a4 x1 h2 e @Az)
  repeat' (first | exact Ad (by kernel_rfl) | refine ⟨Ad (by kernel_rfl),?_⟩ | refine And.intro ?_ ?_ | fail)
  all_goals done
 | false=>
 cases h3:decide ((2147483647:Int) < s.fau) with
 | true=>
  have e:Bs c s=false:=by
   exact As3
  exact JW (a5 x1 h2 h3 e @Az)
  repeat' (first | exact Ad (by kernel_rfl) | refine ⟨Ad (by kernel_rfl),?_⟩ | refine And.intro ?_ ?_ | fail)
  all_goals done
 | false=>
 have h4:(decide (0≤s.fau) && decide (s.fau≤2147483647))=true:=by
  simp only [BT] at h2 h3
  simp; omega
 refine O2 (a4 x1 h2 h3 @Az) ?_
 repeat' (first | exact Ad (by kernel_rfl) | refine ⟨Ad (by kernel_rfl),?_⟩ | refine And.intro ?_ ?_ | fail)
 clear x1 h2 h3
 refine Al (σ:=Nat) (fun k cnt=>⟨Bn 0 101 [(2,.pt 0 0 0 0),(3,.pt 1 1 0 0),(5,.sc (.int .i64 k))],[⟨true,0,36,7,[BP c],false⟩,⟨true,1,41,5,[Gb s],false⟩],cnt⟩)
  (fun k=>k≤s.lamps.length∧∀ j,j < k→IF c s j=false) (fun k=>s.lamps.length - k) 0 ⟨by omega,by omega⟩ ?_ ?_ rfl ?_
 ·exact Gn
 ·simp (maxSteps:=10000000) only [AY,AW,Ab,Az]
 rintro k cnt ⟨hk,hn⟩ ih
 by_cases hk':k < s.lamps.length
 rotate_left
 ·obtain rfl:k=s.lamps.length:=by omega
  have g1:decide ((s.lamps.length:Int) < (s.lamps.length:Int))=false:=Bc
  have e:=Mh (c:=c) (s:=s) hn
  rw [←hcx,h1,h4] at e
  refine Aa ?_
  refine Bq ?_
  exact JW (a3 g1 e @Az)
  all_goals done
 have g1:decide ((k:Int) < (s.lamps.length:Int))=true:=Ae
 have g2:decide (k < s.lamps.length)=true:=Ae
 have w1:IntKind.i64.wrap ((k:Int)+1)=((k+1:Nat):Int):=AA
 have hno:IF c s k=true→Bs c s=false:=Tv hk'
 have ih:=fun hb cc=>ih (k+1) cc ⟨by omega,Bl hn hb⟩ (by omega)
 have hb:IF c s k=(loX c s (s.lamps.getD k default) || loY s k):=rfl
 have hY:loY s k=(decide ((0:Int) < (k:Int)) && decide (0≤IS (s.lamps.getD (k - 1) default) (s.lamps.getD k default))):=rfl
 obtain ⟨o,ho⟩:∃ o,s.lamps.getD k default=o:=⟨_,rfl⟩
 rw [ho] at hb hY
 have x3:=e79 o.se
 simp only [Ic] at x3
 refine Aa ?_
 cases c1:decide (o.mo < 0) with
 | true=>
  exact Ayr
 | false=>
 cases c2:decide ((c.pri.length:Int)≤o.mo) with
 | true=>
  exact Ayq
 | false=>
 have x4:=e58 s o.mo (by simp only [BT] at c1 c2; omega)
 simp only [Az] at x4
 cases c3:(!BQ s.act o.mo || decide (o.la < 0) || decide ((64:Int)≤o.la) || !LG o.se) with
 | true=>
  exact Ayj
 | false=>
 have hX:loX c s o=false:=by simp only [loX,c1,c2,IK,c3]
 rw [hX,IK] at hb
 by_cases hk0:0 < k
 rotate_left
 ·exact Aqs
 have c4:decide ((0:Int) < (k:Int))=true:=Ae
 have w2:IntKind.i64.wrap ((k:Int) - 1)=((k - 1:Nat):Int):=AA
 have g3:decide (((k - 1:Nat):Int) < (s.lamps.length:Int))=true:=Ae
 have g4:decide (k - 1 < s.lamps.length)=true:=Ae
 obtain ⟨o',ho'⟩:∃ o',s.lamps.getD (k - 1) default=o':=⟨_,rfl⟩
 rw [ho',c4,GX] at hY
 have x5:=Aom o' o
 cases c5:decide (0≤IS o' o) with
 | true=>
  rw [c5] at hY x5
  rw [hY] at hb
  have e:=hno hb
  refine Bq ?_
  exact JW (a18 g1 g2 g3 g4 ho ho' c1 c2 x4 x3 c3 c4 x5 w2 e @Bg @Az @B4)
  repeat' (first | exact Ad (by kernel_rfl) | refine ⟨Ad (by kernel_rfl),?_⟩ | refine And.intro ?_ ?_ | fail)
  all_goals done
 | false=>
  rw [c5] at hY x5
  rw [hY] at hb
  have ih:=ih hb
  refine Bq ?_
  refine O2 (a18 g1 g2 g3 g4 ho ho' c1 c2 x4 x3 c3 c4 x5 w1 w2 @Bg @Az @B4) ?_
  exact Auj
def Nk (a b:Rs):Bool:=decide (a.vars=b.vars) && decide (a.left=b.left) && (a.act == b.act) && decide (a.lamps=b.lamps) && (a.fau == b.fau)
noncomputable def f39:=Ew (fun _:Rs × Rs=>True) (fun p=>[Gb p.1,Gb p.2]) (fun p=>bA (Nk p.1 p.2))
theorem e39 (a b:Rs):f39 [Gb a,Gb b]=some (.sc (.bool (Nk a b))):=
 (AK (q:=fun _:Rs × Rs=>True) (enc:=fun p=>[Gb p.1,Gb p.2]) (out:=fun p=>bA (Nk p.1 p.2)) (a,b) trivial (by
  rintro ⟨x,y⟩ h
  simp only [lx96,Ay] at h
  rw [JM h.1,JM h.2]) :)
theorem Bis:DC Tryz.prog 26 f39:=AF <| by
 rintro ⟨a,b⟩ -
 refine Ac (Aq ((.cons Biq .nil)) (.nil)) rfl Tryz.func26 rfl (by decide) (by kernel_rfl) (by kernel_rfl) ?_
 simp only [Tryz.f26,Af,lx53,lx63,Nat.reduceAdd,Nat.reduceSub,List.replicate]
 refine T3 0 rfl fun hlen=>?_
 have hla:a.lamps.length < 9223372036854775808:=by
  have:=hlen a.zm (a.lamps.map Bp) (by simp [Gb])
  simp [maxLen] at this; omega
 clear hlen
 refine Aa ?_
 cases c1:(!decide (a.vars=b.vars) || !decide (a.left=b.left) || (a.act != b.act) || (a.fau != b.fau) || ((a.lamps.length:Int) != (b.lamps.length:Int))) with
 | true=>
  have e:Nk a b=false:=by
   rw [Lj]
   intro hh
   simp only [Nk,AX,AN,lx85] at hh
   obtain ⟨⟨⟨⟨h1,h2⟩,h3⟩,h4⟩,h5⟩:=hh
   simp [h1,h2,h3,h4,h5] at c1
  exact JW (a4 c1 e @Az @e75)
  all_goals done
 | false=>
 have c2:=c1
 simp only [J8,Lk,AN,bne_eq_false_iff_eq] at c2
 obtain ⟨⟨⟨⟨h1,h2⟩,h3⟩,h4⟩,h5⟩:=c2
 have he:a.lamps.length=b.lamps.length:=Ah
 have hE:Nk a b=decide (a.lamps=b.lamps):=by simp [Nk,h1,h2,h3,h4]
 rw [hE]
 refine O2 (a3 c1 @Az @e75) ?_
 clear c1
 refine Al (σ:=Nat) (fun k cnt=>⟨Bn 0 61 [(2,.pt 0 0 0 0),(3,.pt 1 1 0 0),(5,.sc (.int .i64 k))],[⟨true,0,41,5,[Gb a],false⟩,⟨true,1,41,5,[Gb b],false⟩],cnt⟩)
  (fun k=>k≤a.lamps.length∧∀ j,j < k→a.lamps.getD j default=b.lamps.getD j default) (fun k=>a.lamps.length - k) 0 ⟨by omega,by omega⟩ ?_ ?_ rfl ?_
 ·exact Gn
 ·simp (maxSteps:=10000000) only [AY,AW,Az]
 rintro k cnt ⟨hk,hn⟩ ih
 refine Aa ?_
 by_cases hk':k < a.lamps.length
 ·have h2:decide ((k:Int) < (a.lamps.length:Int))=true:=by rw [AN]; omega
  have h3:decide (k < a.lamps.length)=true:=Ae
  have h4:decide ((k:Int) < (b.lamps.length:Int))=true:=Ae
  have h5:decide (k < b.lamps.length)=true:=Ae
  have w1:IntKind.i64.wrap ((k:Int)+1)=((k+1:Nat):Int):=AA
  have hne:=Bl (p:=fun j=>a.lamps.getD j default=b.lamps.getD j default) hn (k:=k)
  have hdf:a.lamps.getD k default≠b.lamps.getD k default→decide (a.lamps=b.lamps)=false:=fun hv=>by rw [BT]; intro h; exact hv (by rw [h])
  obtain ⟨x,hx⟩:∃ x,a.lamps.getD k default=x:=⟨_,rfl⟩
  obtain ⟨y,hy⟩:∃ y,b.lamps.getD k default=y:=⟨_,rfl⟩
  simp only [hx,hy] at hne hdf
  by_cases hv:x=y
  ·have ih:=fun c=>ih (k+1) c ⟨by omega,hne hv⟩ (by omega)
   have hv':((x.mo == y.mo) && ((x.la == y.la) && ((x.se.lv == y.se.lv) && ((x.se.on == y.se.on) && ((x.se.off == y.se.off) && (x.se.si == y.se.si))))))=true:=by subst hv; simp
   refine Bq ?_
   refine O2 (IL h2 h3 h4 h5 hx hy w1 hv' @Bg @Az @B4) ?_
   repeat' (first | exact Ad (by kernel_rfl) | refine ⟨Ad (by kernel_rfl),?_⟩ | refine And.intro ?_ ?_ | fail)
   refine Ao ?_ ?_ (Ar _) (ih _)
   all_goals simp (maxSteps:=10000000) only [AY,AW,↓reduceIte,reduceCtorEq,Nat.reduceAdd,Nat.reduceEqDiff,Bn,Dj,Az]
   all_goals done
  ·have h6:=hdf hv
   have hv':((x.mo == y.mo) && ((x.la == y.la) && ((x.se.lv == y.se.lv) && ((x.se.on == y.se.on) && ((x.se.off == y.se.off) && (x.se.si == y.se.si))))))=false:=by
    rw [Lj]; intro hh; simp only [AX,lx85] at hh; exact hv (Awk hh)
   refine Bq ?_
   exact JW (IL h2 h3 h4 h5 hx hy hv' h6 @Bg @Az @B4)
   repeat' (first | exact Ad (by kernel_rfl) | refine ⟨Ad (by kernel_rfl),?_⟩ | refine And.intro ?_ ?_ | fail)
   all_goals done
 ·have hkl:k=a.lamps.length:=by omega
  subst hkl
  have h2:decide ((a.lamps.length:Int) < (a.lamps.length:Int))=false:=Bc
  have h3:decide (a.lamps=b.lamps)=true:=by rw [AN]; exact Ro he hn
  refine Bq ?_
  exact JW (a3 h2 h3 @Az)
  all_goals done
theorem Awn:PO Tryz.prog 34=true:=by kernel_rfl
theorem XQ (cap:Nat) (H:List Blk) (cnt:Nat):HSpec Tryz.prog 54 [.sc (.slice none 0 cap)] H cnt (.vw true []) H cnt:=by
 refine Ag (Aj (lit:=false) (pm:=fun _=>none) .nil .nil .nil .nil) rfl Tryz.func54 rfl (by decide) (by kernel_rfl) ?_
 refine Av3 ?_
 simp (maxSteps:=10000000) +contextual -implicitDefEqProofs only [AY,AW,St.put,↓reduceIte,CK,Awn]
 repeat' (first | exact Ad (by kernel_rfl) | refine ⟨Ad (by kernel_rfl),?_⟩ | refine And.intro ?_ ?_ | fail)
 all_goals exact Amp
theorem Mi (cap:Nat) (H:List Blk) (cnt:Nat):HSpec Tryz.prog 54 [.sc (.slice none 0 cap)] H cnt (.sl H.length (cnt+1) 0 0) (H++[⟨true,cnt+1,3,1,[],false⟩]) (cnt+2):=
 Bbc (XQ cap H cnt) (cnt+1) 3 1 (cnt+2) (by omega) (by omega)
theorem Mj (a:Addr) (cap:Nat) (H:List Blk) (cnt:Nat):HSpec Tryz.prog 54 [.sc (.slice (some a) 0 cap)] H cnt (.sl H.length (cnt+1) 0 0) (H++[⟨true,cnt+1,3,1,[],false⟩]) (cnt+2):=by
 refine Ag (Aj (lit:=false) (pm:=fun _=>none) .nil .nil .nil .nil) rfl Tryz.func54 rfl (by decide) (by kernel_rfl) ?_
 refine Av3 ?_
 exact zE1 (a2 @Awn @K1)
 repeat' (first | exact Ad (by kernel_rfl) | refine ⟨Ad (by kernel_rfl),?_⟩ | refine And.intro ?_ ?_ | fail)
 all_goals exact Amp
theorem Awo:PO Tryz.prog 39=true:=by kernel_rfl
theorem UH (cap:Nat) (H:List Blk) (cnt:Nat):HSpec Tryz.prog 152 [.sc (.slice none 0 cap)] H cnt (.vw true []) H cnt:=by
 refine Ag (Aj (lit:=false) (pm:=fun _=>none) .nil .nil .nil .nil) rfl Tryz.func152 rfl (by decide) (by kernel_rfl) ?_
 refine Av2 ?_
 simp (maxSteps:=10000000) +contextual -implicitDefEqProofs only [AY,AW,St.put,↓reduceIte,CK,Awo]
 repeat' (first | exact Ad (by kernel_rfl) | refine ⟨Ad (by kernel_rfl),?_⟩ | refine And.intro ?_ ?_ | fail)
 all_goals exact Amp
theorem KH (cap:Nat) (H:List Blk) (cnt:Nat):HSpec Tryz.prog 152 [.sc (.slice none 0 cap)] H cnt (.sl H.length (cnt+1) 0 0) (H++[⟨true,cnt+1,82,6,[],false⟩]) (cnt+2):=
 Bbc (UH cap H cnt) (cnt+1) 82 6 (cnt+2) (by omega) (by omega)
theorem KI (a:Addr) (cap:Nat) (H:List Blk) (cnt:Nat):HSpec Tryz.prog 152 [.sc (.slice (some a) 0 cap)] H cnt (.sl H.length (cnt+1) 0 0) (H++[⟨true,cnt+1,82,6,[],false⟩]) (cnt+2):=by
 refine Ag (Aj (lit:=false) (pm:=fun _=>none) .nil .nil .nil .nil) rfl Tryz.func152 rfl (by decide) (by kernel_rfl) ?_
 refine Av2 ?_
 exact zE1 (a2 @Awo @K1)
 repeat' (first | exact Ad (by kernel_rfl) | refine ⟨Ad (by kernel_rfl),?_⟩ | refine And.intro ?_ ?_ | fail)
 all_goals exact Amp
theorem Ml (l:List Int):Cj (l.map (kA .i64))=true:=Ep (f:=kA .i64) (fun _=>by simp [kA,AV.fresh]) l
theorem Ih (l:List Lo):Cj (l.map Bp)=true:=Ep (f:=Bp) (fun _=>by simp [Bp,kA,AV.fresh,Cj]) l
theorem Y7 (l:List Ef):Cj (l.map Dd)=true:=Ep (f:=Dd) (fun _=>by simp [Dd,kA,stA,AV.fresh,Cj]) l
theorem Dg {P:Program} {g:Nat} {args:List AV} {H:List Blk} {c:Nat} {r:AV} {H':List Blk} {c':Nat} (h:HSpec P g args H c r H' c'):∃ F,Mu P g F∧F args H c=some (r,H',c'):=
 ⟨Yk (fun _:Unit=>True) (fun _=>(args,H,c)) (fun _=>(r,H',c')),Hl (fun _ _=>h),Hk (q:=fun _:Unit=>True) (enc:=fun _=>(args,H,c)) (out:=fun _=>(r,H',c')) () trivial (fun _ _ _=>rfl)⟩
theorem Nl (z:Bool) (l:List Int) (H:List Blk) (cnt:Nat) (hs:l.length≤1000000):
  HSpec Tryz.prog 54 [.vw z (l.map (kA .i64))] H cnt (.sl H.length (cnt+1) 0 l.length) (H++[⟨true,cnt+1,3,1,l.map (kA .i64),false⟩]) (cnt+2):=by
 cases l with
 | nil=>exact Pp (fun cap=>Mi cap H cnt) (fun a cap=>Mj a cap H cnt)
 | cons a r=>
  refine Ag (Aj (lit:=false) (pm:=fun _=>none) .nil .nil .nil .nil) rfl Tryz.func54 rfl (by decide) (by kernel_rfl) ?_
  refine Av3 ?_
  have hr:decide ((r.length+1) * 8≤140737488355328)=true:=by rw [AN]; simp only [lx53] at hs; omega
  have hn:norefs (r.map (kA .i64))=true:=BV r
  exact JW (a4 hn hr @Awn @K1)
  repeat' (first | exact Ad (by kernel_rfl) | refine ⟨Ad (by kernel_rfl),?_⟩ | refine And.intro ?_ ?_ | fail)
  all_goals exact Yp
theorem RQ (z:Bool) (l:List Lo) (H:List Blk) (cnt:Nat) (hs:l.length≤1000000):
  HSpec Tryz.prog 152 [.vw z (l.map Bp)] H cnt (.sl H.length (cnt+1) 0 l.length) (H++[⟨true,cnt+1,82,6,l.map Bp,false⟩]) (cnt+2):=by
 cases l with
 | nil=>exact Pp (fun cap=>KH cap H cnt) (fun a cap=>KI a cap H cnt)
 | cons a r=>
  refine Ag (Aj (lit:=false) (pm:=fun _=>none) .nil .nil .nil .nil) rfl Tryz.func152 rfl (by decide) (by kernel_rfl) ?_
  refine Av2 ?_
  have hr:decide ((r.length+1) * 48≤140737488355328)=true:=by rw [AN]; simp only [lx53] at hs; omega
  have hn:norefs (r.map Bp)=true:=JL r
  exact JW (a6 hn hr @Bg @Awo @K1 @B4)
  repeat' (first | exact Ad (by kernel_rfl) | refine ⟨Ad (by kernel_rfl),?_⟩ | refine And.intro ?_ ?_ | fail)
  all_goals exact Yp
def Hn (b:Bool):Int:=if b=true then 1 else 0
noncomputable def f248:=Ew (fun _:Bool=>True) (fun b=>[bA b]) (fun b=>kA .i64 (Hn b))
theorem UI (b:Bool):f248 [.sc (.bool b)]=some (.sc (.int .i64 (Hn b))):=
 (AK (q:=fun _:Bool=>True) (enc:=fun b=>[bA b]) (out:=fun b=>kA .i64 (Hn b)) b trivial (by intro y h; simp only [lx96,Ay,bA,AV.sc.injEq,Value.bool.injEq] at h; exact h) :)
theorem Atv:DC Tryz.prog 248 f248:=AF <| by
 rintro b -
 refine Ac (Aq (.nil) (.nil)) rfl Tryz.func248 rfl (by decide) (by kernel_rfl) (by kernel_rfl) ?_
 simp only [Tryz.f248,Af,lx53,lx63,Nat.reduceAdd,Nat.reduceSub,List.replicate]
 exact Aql
theorem Atw:DC Tryz.prog 253 f248:=AF <| by
 rintro b -
 refine Ac (Aq (.nil) (.nil)) rfl Tryz.func253 rfl (by decide) (by kernel_rfl) (by kernel_rfl) ?_
 simp only [Tryz.f253,Af,lx53,lx63,Nat.reduceAdd,Nat.reduceSub,List.replicate]
 exact Aql
def Rp (k a:Int):Int:=if k=10 then -AT a else if k=11 then Hn (AT a == 0) else 0
noncomputable def f229:=Ew (fun _:Int × Int=>True) (fun p=>[kA .i64 p.1,kA .i64 p.2]) (fun p=>kA .i64 (Rp p.1 p.2))
theorem Aon (k a:Int):f229 [.sc (.int .i64 k),.sc (.int .i64 a)]=some (.sc (.int .i64 (Rp k a))):=
 (AK (q:=fun _:Int × Int=>True) (enc:=fun p=>[kA .i64 p.1,kA .i64 p.2]) (out:=fun p=>kA .i64 (Rp p.1 p.2)) (k,a) trivial (by rintro ⟨x,y⟩ h; simp only [lx96,Ay] at h; rw [Bx h.1,Bx h.2]) :)
theorem Bdv:DC Tryz.prog 229 f229:=AF <| by
 rintro ⟨k,a⟩ -
 have x1:=RP a
 have hc:=EP a
 obtain ⟨c,hc'⟩:∃ c,AT a=c:=⟨_,rfl⟩
 rw [hc'] at x1 hc
 have w1:IntKind.i64.wrap (0 - c)=-c:=AA
 have x2:=UI (c == 0)
 refine Ac (Aq ((.cons Atu (.cons Atv .nil))) (.nil)) rfl Tryz.func229 rfl (by decide) (by kernel_rfl) (by kernel_rfl) ?_
 simp only [Tryz.f229,Af,lx53,lx63,Nat.reduceAdd,Nat.reduceSub,List.replicate]
 exact Aqy
theorem Bdw:DC Tryz.prog 243 f229:=AF <| by
 rintro ⟨k,a⟩ -
 have x1:=RP a
 have hc:=EP a
 obtain ⟨c,hc'⟩:∃ c,AT a=c:=⟨_,rfl⟩
 rw [hc'] at x1 hc
 have w1:IntKind.i64.wrap (0 - c)=-c:=AA
 have x2:=UI (c == 0)
 refine Ac (Aq ((.cons Akk (.cons Atw .nil))) (.nil)) rfl Tryz.func243 rfl (by decide) (by kernel_rfl) (by kernel_rfl) ?_
 simp only [Tryz.f243,Af,lx53,lx63,Nat.reduceAdd,Nat.reduceSub,List.replicate]
 exact Aqy
def CL (k a b:Int):Int:=if k=12 then AT (AT a * AT b) else if k=13 then (if AT b=0 then 0 else (AT a).tdiv (AT b)) else if k=14 then (if AT b=0 then 0 else (AT a).tmod (AT b)) else if k=15 then AT (AT a+AT b) else if k=16 then AT (AT a - AT b) else if k=17 then Hn (decide (AT a < AT b)) else if k=18 then Hn (decide (AT a≤AT b)) else if k=19 then Hn (decide (AT b < AT a)) else if k=20 then Hn (decide (AT b≤AT a)) else if k=21 then Hn (AT a == AT b) else if k=22 then Hn (AT a != AT b) else if k=23 then Hn ((AT a != 0) && (AT b != 0)) else if k=24 then Hn ((AT a != 0) || (AT b != 0)) else 0
noncomputable def f230:=Ew (fun _:Int × Int × Int=>True) (fun p=>[kA .i64 p.1,kA .i64 p.2.1,kA .i64 p.2.2]) (fun p=>kA .i64 (CL p.1 p.2.1 p.2.2))
theorem Bdx (k a b:Int):f230 [.sc (.int .i64 k),.sc (.int .i64 a),.sc (.int .i64 b)]=some (.sc (.int .i64 (CL k a b))):=
 (AK (q:=fun _:Int × Int × Int=>True) (enc:=fun p=>[kA .i64 p.1,kA .i64 p.2.1,kA .i64 p.2.2]) (out:=fun p=>kA .i64 (CL p.1 p.2.1 p.2.2)) (k,a,b) trivial (by rintro ⟨x,y,z⟩ h; simp only [lx96,Ay] at h; rw [Bx h.1,Bx h.2.1,Bx h.2.2]) :)
theorem Akl {x y m:Int} (h0:0≤m) (h1:-m≤x) (h2:x≤m) (h3:-m≤y) (h4:y≤m):-(m * m)≤x * y∧x * y≤m * m:=by
 have hx:x.natAbs≤m.natAbs:=Ah
 have hy:y.natAbs≤m.natAbs:=Ah
 have h:=Nat.mul_le_mul hx hy
 rw [←Int.natAbs_mul,←Int.natAbs_mul] at h
 have hm:0≤m * m:=Int.mul_nonneg h0 h0
 generalize x * y=p at *
 generalize m * m=q at *
 omega
theorem UJ {x y m:Int} (h1:-m≤x) (h2:x≤m):-m≤x.tdiv y∧x.tdiv y≤m:=by
 have h:(x.tdiv y).natAbs=x.natAbs / y.natAbs:=Int.natAbs_tdiv x y
 have h':=Nat.div_le_self x.natAbs y.natAbs
 generalize x.natAbs / y.natAbs=q at *
 omega
theorem Bdy:DC Tryz.prog 230 f230:=AF <| by
 rintro ⟨k,a,b⟩ -
 have x1:=RP a
 have x2:=RP b
 have ha:=EP a
 have hb:=EP b
 have hR:∀ r,CL k a b=r→CL k a b=r:=fun _ h=>h
 obtain ⟨c,hc⟩:∃ c,AT a=c:=⟨_,rfl⟩
 obtain ⟨d,hd⟩:∃ d,AT b=d:=⟨_,rfl⟩
 rw [hc] at x1 ha
 rw [hd] at x2 hb
 have hm:=Akl (m:=2147483647) (by omega) ha.1 ha.2 hb.1 hb.2
 have hq:=UJ (y:=d) ha.1 ha.2
 have w1:IntKind.i64.wrap (c * d)=c * d:=Bd (by omega) (by omega)
 have w2:IntKind.i64.wrap (c+d)=c+d:=Bd (by omega) (by omega)
 have w3:IntKind.i64.wrap (c - d)=c - d:=Bd (by omega) (by omega)
 have w4:IntKind.i64.wrap (c.tdiv d)=c.tdiv d:=Bd (by omega) (by omega)
 clear hm hq
 refine Ac (Aq ((.cons Atu (.cons Atv .nil))) (.nil)) rfl Tryz.func230 rfl (by decide) (by kernel_rfl) (by kernel_rfl) ?_
 simp only [Tryz.f230,Af,lx53,lx63,Nat.reduceAdd,Nat.reduceSub,List.replicate]
 refine Aa ?_
 by_cases h12:k=12
 ·exact Azm
 by_cases h13:k=13
 ·subst h13
  have hu:CL 13 a b=(if d=0 then 0 else c.tdiv d):=ZM
  by_cases hz:d=0
  ·exact ZF
  ·have z1:(d != 0)=true:=by simpa using hz
   have z2:(d == 0)=false:=by simpa using hz
   rw [if_neg hz] at hu
   exact RF (a6 x1 x2 hu z1 hz w4)
   all_goals done
 by_cases h14:k=14
 ·subst h14
  have hu:CL 14 a b=(if d=0 then 0 else c.tmod d):=ZM
  by_cases hz:d=0
  ·exact ZF
  ·have z1:(d != 0)=true:=by simpa using hz
   have z2:(d == 0)=false:=by simpa using hz
   rw [if_neg hz] at hu
   exact RF (a5 x1 x2 hu z1 hz)
   all_goals done
 by_cases h15:k=15
 ·exact Azn
 by_cases h16:k=16
 ·exact Azo
 exact As9
theorem Bdz:DC Tryz.prog 244 f230:=AF <| by
 rintro ⟨k,a,b⟩ -
 have x1:=RP a
 have x2:=RP b
 have ha:=EP a
 have hb:=EP b
 have hR:∀ r,CL k a b=r→CL k a b=r:=fun _ h=>h
 obtain ⟨c,hc⟩:∃ c,AT a=c:=⟨_,rfl⟩
 obtain ⟨d,hd⟩:∃ d,AT b=d:=⟨_,rfl⟩
 rw [hc] at x1 ha
 rw [hd] at x2 hb
 have hm:=Akl (m:=2147483647) (by omega) ha.1 ha.2 hb.1 hb.2
 have hq:=UJ (y:=d) ha.1 ha.2
 have w1:IntKind.i64.wrap (c * d)=c * d:=Bd (by omega) (by omega)
 have w2:IntKind.i64.wrap (c+d)=c+d:=Bd (by omega) (by omega)
 have w3:IntKind.i64.wrap (c - d)=c - d:=Bd (by omega) (by omega)
 have w4:IntKind.i64.wrap (c.tdiv d)=c.tdiv d:=Bd (by omega) (by omega)
 clear hm hq
 refine Ac (Aq ((.cons Akk (.cons Atw .nil))) (.nil)) rfl Tryz.func244 rfl (by decide) (by kernel_rfl) (by kernel_rfl) ?_
 simp only [Tryz.f244,Af,lx53,lx63,Nat.reduceAdd,Nat.reduceSub,List.replicate]
 refine Aa ?_
 by_cases h12:k=12
 ·exact Azm
 by_cases h13:k=13
 ·subst h13
  have hu:CL 13 a b=(if d=0 then 0 else c.tdiv d):=ZM
  by_cases hz:d=0
  ·exact ZF
  ·have z1:(d != 0)=true:=by simpa using hz
   have z2:(d == 0)=false:=by simpa using hz
   rw [if_neg hz] at hu
   exact RF (a6 x1 x2 hu z2 hz w4)
   all_goals done
 by_cases h14:k=14
 ·subst h14
  have hu:CL 14 a b=(if d=0 then 0 else c.tmod d):=ZM
  by_cases hz:d=0
  ·exact ZF
  ·have z1:(d != 0)=true:=by simpa using hz
   have z2:(d == 0)=false:=by simpa using hz
   rw [if_neg hz] at hu
   exact RF (a5 x1 x2 hu z2 hz)
   all_goals done
 by_cases h15:k=15
 ·exact Azn
 by_cases h16:k=16
 ·exact Azo
 exact As9
def Af7 (mo tr ix:Int) (e:En):Bool:=(e.mo == mo) && (e.tr == tr) && (e.ix == ix)
def Eb (c:Cd) (mo tr ix:Int):Option En:=c.ens.find? (Af7 mo tr ix)
def pcO (o:Option En):Int:=(o.map (·.pc)).getD 0
theorem Aoo {p:En→Bool} {l:List En} {r:Nat} (hr:r < l.length) (h:p (l.getD r default)=true) (hn:∀ j,j < r→p (l.getD j default)=false):l.find? p=some (l.getD r default):=by
 have hg:l.getD r default=l[r]:=by rw [lx80,lx51 hr]; rfl
 rw [hg] at h ⊢
 refine List.find?_eq_some_iff_getElem.2 ⟨h,r,hr,rfl,fun j hj=>?_⟩
 exact As1
theorem Ad4 {p:En→Bool} {l:List En} (hn:∀ j,j < l.length→p (l.getD j default)=false):l.find? p=none:=by
 refine List.find?_eq_none.2 fun x hx=>?_
 obtain ⟨j,hj,rfl⟩:=List.mem_iff_getElem.1 hx
 have:=hn j hj
 rw [lx80,lx51 hj] at this
 simpa using this
noncomputable def f156:=Ew (fun p:Cd × Int × Int × Int=>Fit p.1) (fun p=>[BP p.1,kA .i64 p.2.1,kA .i64 p.2.2.1,kA .i64 p.2.2.2]) (fun p=>.tu [kA .i64 (pcO (Eb p.1 p.2.1 p.2.2.1 p.2.2.2)),bA (Eb p.1 p.2.1 p.2.2.1 p.2.2.2).isSome])
theorem Af8 (c:Cd) (h:Fit c) (a b d:Int):f156 [BP c,.sc (.int .i64 a),.sc (.int .i64 b),.sc (.int .i64 d)]=some (.tu [.sc (.int .i64 (pcO (Eb c a b d))),.sc (.bool (Eb c a b d).isSome)]):=
 (AK (q:=fun p:Cd × Int × Int × Int=>Fit p.1) (enc:=fun p=>[BP p.1,kA .i64 p.2.1,kA .i64 p.2.2.1,kA .i64 p.2.2.2]) (out:=fun p=>.tu [kA .i64 (pcO (Eb p.1 p.2.1 p.2.2.1 p.2.2.2)),bA (Eb p.1 p.2.1 p.2.2.1 p.2.2.2).isSome]) (c,a,b,d) h (by
  rintro ⟨c',a',b',d'⟩ h
  simp only [lx96,Ay] at h
  rw [CT h.1,Bx h.2.1,Bx h.2.2.1,Bx h.2.2.2]) :)
theorem Akm:DC Tryz.prog 156 f156:=AF <| by
 rintro ⟨c,mo,tr,ix⟩ hq
 have hl:=hq.ens
 simp only at hl ⊢
 refine Ac (Aq (.nil) (.nil)) rfl Tryz.func156 rfl (by decide) (by kernel_rfl) (by kernel_rfl) ?_
 simp only [Tryz.f156,Af,lx53,lx63,Nat.reduceAdd,Nat.reduceSub,List.replicate]
 refine Aa ?_
 refine gF0 ?_
 refine Al (σ:=Nat) (fun r cnt=>⟨Bn 0 38 [(1,.sc (.int .i64 mo)),(2,.sc (.int .i64 tr)),(3,.sc (.int .i64 ix)),(13,.vw c.ze (c.ens.map D8)),(14,.sc (.int .i64 c.ens.length)),(15,.sc (.int .i64 r))],[⟨true,0,36,7,[BP c],false⟩],cnt⟩)
  (fun r=>r≤c.ens.length∧∀ j,j < r→Af7 mo tr ix (c.ens.getD j default)=false) (fun r=>c.ens.length - r) 0 ⟨by omega,by omega⟩ ?_ ?_ rfl ?_
 ·exact Gn
 ·exact Jp
 rintro r cnt ⟨hr,hn⟩ ih
 by_cases hr':r < c.ens.length
 rotate_left
 ·obtain rfl:r=c.ens.length:=by omega
  have h1:decide ((c.ens.length:Int) < (c.ens.length:Int))=false:=Bc
  have hf:Eb c mo tr ix=none:=Ad4 hn
  rw [hf]
  refine Aa ?_
  refine Bq ?_
  simp (maxSteps:=10000000) +contextual -implicitDefEqProofs only [AY,AW,St.put,↓reduceIte,Ab,h1,pcO,lx9,Option.getD_none]
  all_goals done
 exact Aqq
theorem Akn:DC Tryz.prog 198 f156:=AF <| by
 rintro ⟨c,mo,tr,ix⟩ hq
 have hl:=hq.ens
 simp only at hl ⊢
 refine Ac (Aq (.nil) (.nil)) rfl Tryz.func198 rfl (by decide) (by kernel_rfl) (by kernel_rfl) ?_
 simp only [Tryz.f198,Af,lx53,lx63,Nat.reduceAdd,Nat.reduceSub,List.replicate]
 refine Aa ?_
 refine gF0 ?_
 refine Al (σ:=Nat) (fun r cnt=>⟨Bn 0 42 [(1,.sc (.int .i64 mo)),(2,.sc (.int .i64 tr)),(3,.sc (.int .i64 ix)),(4,.pt 0 0 0 0),(10,.sc (.int .i64 r))],[⟨true,0,36,7,[BP c],false⟩],cnt⟩)
  (fun r=>r≤c.ens.length∧∀ j,j < r→Af7 mo tr ix (c.ens.getD j default)=false) (fun r=>c.ens.length - r) 0 ⟨by omega,by omega⟩ ?_ ?_ rfl ?_
 ·exact Gn
 ·exact Jp
 rintro r cnt ⟨hr,hn⟩ ih
 by_cases hr':r < c.ens.length
 rotate_left
 ·obtain rfl:r=c.ens.length:=by omega
  have h1:decide ((c.ens.length:Int) < (c.ens.length:Int))=false:=Bc
  have hf:Eb c mo tr ix=none:=Ad4 hn
  rw [hf]
  refine Aa ?_
  refine Bq ?_
  simp (maxSteps:=10000000) +contextual -implicitDefEqProofs only [AY,AW,St.put,↓reduceIte,reduceCtorEq,Dc,CK,Ab,h1,pcO,lx9,Option.getD_none]
  all_goals done
 exact Aqq
end Go.Proofs.YtdjpkhjaibdogaaGreat
