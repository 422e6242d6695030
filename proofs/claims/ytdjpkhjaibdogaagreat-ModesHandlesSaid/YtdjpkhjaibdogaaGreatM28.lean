/-
  Lemmas towards ModesHandles (joined texts: CE, CF, MA, CG, FA, FB, FC).
  Conditions: none.
-/
import Derived.Test.YtdjpkhjaibdogaaGreatM01
import Derived.Test.YtdjpkhjaibdogaaGreatM02
import Derived.Test.YtdjpkhjaibdogaaGreatM27
import Derived.Test.YtdjpkhjaibdogaaGreatM23
import Derived.Test.YtdjpkhjaibdogaaGreatM18
set_option linter.unusedSimpArgs false
set_option linter.unusedVariables false
set_option maxRecDepth 100000
set_option maxHeartbeats 8000000
namespace Go.Proofs.YtdjpkhjaibdogaaGreat
open Go Go.SX
attribute [local congr] ite_congr
def cx0:Cx:=⟨0,0,0,0⟩
def loX (c:Cd) (s:Rs) (o:Lo):Bool:=decide (o.mo < 0) || decide ((c.pri.length:Int)≤o.mo) || !BV s.act o.mo || decide (o.la < 0) || decide ((64:Int)≤o.la) || !Ld o.se
def loY (s:Rs) (i:Nat):Bool:=decide ((0:Int) < (i:Int)) && decide (0≤Iq (s.lamps.getD (i - 1) default) (s.lamps.getD i default))
def Ig (c:Cd) (s:Rs) (i:Nat):Bool:=loX c s (s.lamps.getD i default) || loY s i
noncomputable def Bo (c:Cd) (s:Rs):Bool:=GH c (C2 s cx0) && (decide (0≤s.fau) && decide (s.fau≤2147483647)) && !(List.range s.lamps.length).any (Ig c s)
theorem SM {c:Cd} {s:Rs} {i:Nat} (hi:i < s.lamps.length) (h:Ig c s i=true):Bo c s=false:=by
 rw [Bo,IN.2 ⟨i,hi,h⟩]; simp
theorem LD {c:Cd} {s:Rs} (h:∀ i,i < s.lamps.length→Ig c s i=false):Bo c s=(GH c (C2 s cx0) && (decide (0≤s.fau) && decide (s.fau≤2147483647))):=by
 have:(List.range s.lamps.length).any (Ig c s)=false:=by
  rw [JP]
  intro hc
  obtain ⟨i,hi,h2⟩:=IN.1 hc
  rw [h i hi] at h2; cases h2
 rw [Bo,this]; simp
theorem Fe {c:Cd} {v:Vn} (h:GH c v=true):Bf c=0:=by
 simp only [GH,AT,lx85] at h
 exact h.1.1.1.1.1.1.1
def csQ (p:Cd × Rs):Prop:=Fit p.1
noncomputable def f40:=Er csQ (fun p=>[Bv p.1,Fv p.2]) (fun p=>bA (Bo p.1 p.2))
theorem e40 (c:Cd) (s:Rs) (h:Fit c):f40 [Bv c,Fv s]=some (.sc (.bool (Bo c s))):=
 (AJ (q:=csQ) (enc:=fun p=>[Bv p.1,Fv p.2]) (out:=fun p=>bA (Bo p.1 p.2)) (c,s) h (by
  rintro ⟨a,b⟩ h
  simp only [lx96,Az] at h
  rw [CS h.1,Jk h.2]) :)
theorem Bb9:DK Tryz.prog 40 f40:=AE <| by
 rintro ⟨c,s⟩ hq
 have hq:Fit c:=hq
 have x1:=e77 c (C2 s cx0) hq
 have x2:=e78 s cx0
 simp only [Aa,AP,Aq,Bl,C2,cx0] at x1 x2
 simp only
 refine Ad (Aj (lit:=false) (pm:=fun _=>none) (.cons Bb6 (.cons Adf (.cons Bg2 (.cons Bb4 .nil)))) (.cons Bg4 .nil) .nil .nil) rfl Tryz.func40 rfl (by decide) (by kernel_rfl) (by kernel_rfl) ?_
 simp only [Tryz.f40,Af,lx53,lx63,Nat.reduceAdd,Nat.reduceSub,List.replicate]
 refine Tj 1 rfl fun hlen=>?_
 have hll:s.lamps.length < 9223372036854775808:=by
  have:=hlen s.zm (s.lamps.map Bg) (by simp [Fv])
  simp [maxLen] at this; omega
 clear hlen
 refine Ab ?_
 have hcx:(⟨s.zv,s.vars,s.zl,s.left,0,s.act,0,0⟩:Vn)=C2 s cx0:=rfl
 cases h1:GH c ⟨s.zv,s.vars,s.zl,s.left,0,s.act,0,0⟩ with
 | false=>
  have e:Bo c s=false:=by rw [Bo,←hcx,h1]; rfl
  rw [h1] at x1
  exact I2 (a4 x1 x2 e @Aq)
  repeat' (first | exact Ac (by kernel_rfl) | refine ⟨Ac (by kernel_rfl),?_⟩ | refine And.intro ?_ ?_ | fail)
  all_goals done
 | true=>
 have hv:=Fe h1
 have hlm:=B9 hv
 rw [h1] at x1
 cases h2:decide (s.fau < 0) with
 | true=>
  have e:Bo c s=false:=by
   simp only [AR] at h2
   rw [Bo,F3 (by omega:¬ 0≤s.fau)]; simp
  exact I2 (a5 x1 x2 h2 e @Aq)
  repeat' (first | exact Ac (by kernel_rfl) | refine ⟨Ac (by kernel_rfl),?_⟩ | refine And.intro ?_ ?_ | fail)
  all_goals done
 | false=>
 cases h3:decide ((2147483647:Int) < s.fau) with
 | true=>
  have e:Bo c s=false:=by
   exact Apt
  exact I2 (a6 x1 x2 h2 h3 e @Aq)
  repeat' (first | exact Ac (by kernel_rfl) | refine ⟨Ac (by kernel_rfl),?_⟩ | refine And.intro ?_ ?_ | fail)
  all_goals done
 | false=>
 have h4:(decide (0≤s.fau) && decide (s.fau≤2147483647))=true:=by
  simp only [Bz] at h2 h3
  simp; omega
 refine NC (a5 x1 x2 h2 h3 @Aq) ?_
 repeat' (first | exact Ac (by kernel_rfl) | refine ⟨Ac (by kernel_rfl),?_⟩ | refine And.intro ?_ ?_ | fail)
 clear x1 x2 h2 h3
 refine Am (σ:=Nat) (fun k cnt=>⟨Bm 0 81 [(2,.pt 0 0 0 0),(3,.pt 1 1 0 0),(24,.vw s.zm (s.lamps.map Bg)),(25,.sc (.int .i64 s.lamps.length)),(26,.sc (.int .i64 k))],[⟨true,0,36,7,[Bv c],false⟩,⟨true,1,41,5,[Fv s],false⟩],cnt⟩)
  (fun k=>k≤s.lamps.length∧∀ j,j < k→Ig c s j=false) (fun k=>s.lamps.length - k) 0 ⟨by omega,by omega⟩ ?_ ?_ rfl ?_
 ·exact F4
 ·simp (maxSteps:=10000000) only [AX,AW,Aa,Aq]
 rintro k cnt ⟨hk,hn⟩ ih
 by_cases hk':k < s.lamps.length
 rotate_left
 ·obtain rfl:k=s.lamps.length:=by omega
  have g1:decide ((s.lamps.length:Int) < (s.lamps.length:Int))=false:=Bc
  have e:=LD (c:=c) (s:=s) hn
  rw [←hcx,h1,h4] at e
  refine Ab ?_
  refine BJ ?_
  simp (maxSteps:=10000000) +contextual -implicitDefEqProofs only [AX,AW,St.put,↓reduceIte,CO,Aa,Aq,g1,e]
  all_goals done
 have g1:decide ((k:Int) < (s.lamps.length:Int))=true:=Ae
 have g2:decide (k < s.lamps.length)=true:=Ae
 have w1:IntKind.i64.wrap ((k:Int)+1)=((k+1:Nat):Int):=Ay
 have hno:Ig c s k=true→Bo c s=false:=SM hk'
 have ih:=fun hb cc=>ih (k+1) cc ⟨by omega,Bd hn hb⟩ (by omega)
 have hb:Ig c s k=(loX c s (s.lamps.getD k default) || loY s k):=rfl
 have hY:loY s k=(decide ((0:Int) < (k:Int)) && decide (0≤Iq (s.lamps.getD (k - 1) default) (s.lamps.getD k default))):=rfl
 obtain ⟨o,ho⟩:∃ o,s.lamps.getD k default=o:=⟨_,rfl⟩
 rw [ho] at hb hY
 have x3:=e79 o.se
 simp only [HH] at x3
 refine Ab ?_
 cases c1:decide (o.mo < 0) with
 | true=>
  exact Aw8
 | false=>
 cases c2:decide ((c.pri.length:Int)≤o.mo) with
 | true=>
  exact Aw7
 | false=>
 have x4:=e58 s o.mo (by simp only [Bz] at c1 c2; omega)
 simp only [Aq] at x4
 cases c3:(!BV s.act o.mo || decide (o.la < 0) || decide ((64:Int)≤o.la) || !Ld o.se) with
 | true=>
  exact Aw0
 | false=>
 have hX:loX c s o=false:=by simp only [loX,c1,c2,Ii,c3]
 rw [hX,Ii] at hb
 by_cases hk0:0 < k
 rotate_left
 ·exact Aom
 have c4:decide ((0:Int) < (k:Int))=true:=Ae
 have w2:IntKind.i64.wrap ((k:Int) - 1)=((k - 1:Nat):Int):=Ay
 have g3:decide (((k - 1:Nat):Int) < (s.lamps.length:Int))=true:=Ae
 have g4:decide (k - 1 < s.lamps.length)=true:=Ae
 obtain ⟨o',ho'⟩:∃ o',s.lamps.getD (k - 1) default=o':=⟨_,rfl⟩
 rw [ho',c4,Gs] at hY
 have x5:=e80 o' o
 simp only [Bb] at x5
 cases c5:decide (0≤Iq o' o) with
 | true=>
  rw [c5] at hY
  rw [hY] at hb
  have e:=hno hb
  refine BJ ?_
  exact I2 (a19 g1 g2 g3 g4 ho ho' c1 c2 x4 x3 c3 c4 x5 c5 w2 e @Bb @Aq @BS)
  repeat' (first | exact Ac (by kernel_rfl) | refine ⟨Ac (by kernel_rfl),?_⟩ | refine And.intro ?_ ?_ | fail)
  all_goals done
 | false=>
  rw [c5] at hY
  rw [hY] at hb
  have ih:=ih hb
  refine BJ ?_
  refine NC (a19 g1 g2 g3 g4 ho ho' c1 c2 x4 x3 c3 c4 x5 c5 w1 w2 @Bb @Aq @BS) ?_
  exact As3
theorem Amp (p l:Lo):(decide (l.mo < p.mo) || (p.mo == l.mo) && decide (l.la≤p.la))=decide (0≤Iq p l):=by
 have h:=Abg p l
 rw [Bool.eq_iff_iff]
 simp only [Iu,AT,AR,lx85]
 omega
theorem Au9:DK Tryz.prog 41 f40:=AE <| by
 rintro ⟨c,s⟩ hq
 have hq:Fit c:=hq
 have x1:=e77 c (C2 s cx0) hq
 simp only [Aa,AP,Aq,Bl,C2,cx0] at x1
 simp only
 refine Ad (Aj (lit:=false) (pm:=fun _=>none) (.cons Bb7 (.cons Aml (.cons Bg3 .nil))) .nil .nil .nil) rfl Tryz.func41 rfl (by decide) (by kernel_rfl) (by kernel_rfl) ?_
 simp only [Tryz.f41,Af,lx53,lx63,Nat.reduceAdd,Nat.reduceSub,List.replicate]
 refine Tj 1 rfl fun hlen=>?_
 have hll:s.lamps.length < 9223372036854775808:=by
  have:=hlen s.zm (s.lamps.map Bg) (by simp [Fv])
  simp [maxLen] at this; omega
 clear hlen
 refine Ab ?_
 have hcx:(⟨s.zv,s.vars,s.zl,s.left,0,s.act,0,0⟩:Vn)=C2 s cx0:=rfl
 cases h1:GH c ⟨s.zv,s.vars,s.zl,s.left,0,s.act,0,0⟩ with
 | false=>
  have e:Bo c s=false:=by rw [Bo,←hcx,h1]; rfl
  rw [h1] at x1
  exact I2 (a3 x1 e @Aq)
  repeat' (first | exact Ac (by kernel_rfl) | refine ⟨Ac (by kernel_rfl),?_⟩ | refine And.intro ?_ ?_ | fail)
  all_goals done
 | true=>
 have hv:=Fe h1
 have hlm:=B9 hv
 rw [h1] at x1
 cases h2:decide (s.fau < 0) with
 | true=>
  have e:Bo c s=false:=by
   simp only [AR] at h2
   rw [Bo,F3 (by omega:¬ 0≤s.fau)]; simp
  exact I2 (a4 x1 h2 e @Aq)
  repeat' (first | exact Ac (by kernel_rfl) | refine ⟨Ac (by kernel_rfl),?_⟩ | refine And.intro ?_ ?_ | fail)
  all_goals done
 | false=>
 cases h3:decide ((2147483647:Int) < s.fau) with
 | true=>
  have e:Bo c s=false:=by
   exact Apt
  exact I2 (a5 x1 h2 h3 e @Aq)
  repeat' (first | exact Ac (by kernel_rfl) | refine ⟨Ac (by kernel_rfl),?_⟩ | refine And.intro ?_ ?_ | fail)
  all_goals done
 | false=>
 have h4:(decide (0≤s.fau) && decide (s.fau≤2147483647))=true:=by
  simp only [Bz] at h2 h3
  simp; omega
 refine NC (a4 x1 h2 h3 @Aq) ?_
 repeat' (first | exact Ac (by kernel_rfl) | refine ⟨Ac (by kernel_rfl),?_⟩ | refine And.intro ?_ ?_ | fail)
 clear x1 h2 h3
 refine Am (σ:=Nat) (fun k cnt=>⟨Bm 0 101 [(2,.pt 0 0 0 0),(3,.pt 1 1 0 0),(5,.sc (.int .i64 k))],[⟨true,0,36,7,[Bv c],false⟩,⟨true,1,41,5,[Fv s],false⟩],cnt⟩)
  (fun k=>k≤s.lamps.length∧∀ j,j < k→Ig c s j=false) (fun k=>s.lamps.length - k) 0 ⟨by omega,by omega⟩ ?_ ?_ rfl ?_
 ·exact F4
 ·simp (maxSteps:=10000000) only [AX,AW,Aa,Aq]
 rintro k cnt ⟨hk,hn⟩ ih
 by_cases hk':k < s.lamps.length
 rotate_left
 ·obtain rfl:k=s.lamps.length:=by omega
  have g1:decide ((s.lamps.length:Int) < (s.lamps.length:Int))=false:=Bc
  have e:=LD (c:=c) (s:=s) hn
  rw [←hcx,h1,h4] at e
  refine Ab ?_
  refine BJ ?_
  exact I2 (a3 g1 e @Aq)
  all_goals done
 have g1:decide ((k:Int) < (s.lamps.length:Int))=true:=Ae
 have g2:decide (k < s.lamps.length)=true:=Ae
 have w1:IntKind.i64.wrap ((k:Int)+1)=((k+1:Nat):Int):=Ay
 have hno:Ig c s k=true→Bo c s=false:=SM hk'
 have ih:=fun hb cc=>ih (k+1) cc ⟨by omega,Bd hn hb⟩ (by omega)
 have hb:Ig c s k=(loX c s (s.lamps.getD k default) || loY s k):=rfl
 have hY:loY s k=(decide ((0:Int) < (k:Int)) && decide (0≤Iq (s.lamps.getD (k - 1) default) (s.lamps.getD k default))):=rfl
 obtain ⟨o,ho⟩:∃ o,s.lamps.getD k default=o:=⟨_,rfl⟩
 rw [ho] at hb hY
 have x3:=e79 o.se
 simp only [HH] at x3
 refine Ab ?_
 cases c1:decide (o.mo < 0) with
 | true=>
  exact Aw8
 | false=>
 cases c2:decide ((c.pri.length:Int)≤o.mo) with
 | true=>
  exact Aw7
 | false=>
 have x4:=e58 s o.mo (by simp only [Bz] at c1 c2; omega)
 simp only [Aq] at x4
 cases c3:(!BV s.act o.mo || decide (o.la < 0) || decide ((64:Int)≤o.la) || !Ld o.se) with
 | true=>
  exact Aw0
 | false=>
 have hX:loX c s o=false:=by simp only [loX,c1,c2,Ii,c3]
 rw [hX,Ii] at hb
 by_cases hk0:0 < k
 rotate_left
 ·exact Aom
 have c4:decide ((0:Int) < (k:Int))=true:=Ae
 have w2:IntKind.i64.wrap ((k:Int) - 1)=((k - 1:Nat):Int):=Ay
 have g3:decide (((k - 1:Nat):Int) < (s.lamps.length:Int))=true:=Ae
 have g4:decide (k - 1 < s.lamps.length)=true:=Ae
 obtain ⟨o',ho'⟩:∃ o',s.lamps.getD (k - 1) default=o':=⟨_,rfl⟩
 rw [ho',c4,Gs] at hY
 have x5:=Amp o' o
 cases c5:decide (0≤Iq o' o) with
 | true=>
  rw [c5] at hY x5
  rw [hY] at hb
  have e:=hno hb
  refine BJ ?_
  exact I2 (a18 g1 g2 g3 g4 ho ho' c1 c2 x4 x3 c3 c4 x5 w2 e @Bb @Aq @BS)
  repeat' (first | exact Ac (by kernel_rfl) | refine ⟨Ac (by kernel_rfl),?_⟩ | refine And.intro ?_ ?_ | fail)
  all_goals done
 | false=>
  rw [c5] at hY x5
  rw [hY] at hb
  have ih:=ih hb
  refine BJ ?_
  refine NC (a18 g1 g2 g3 g4 ho ho' c1 c2 x4 x3 c3 c4 x5 w1 w2 @Bb @Aq @BS) ?_
  exact As3
def MD (a b:Rs):Bool:=decide (a.vars=b.vars) && decide (a.left=b.left) && (a.act == b.act) && decide (a.lamps=b.lamps) && (a.fau == b.fau)
noncomputable def f39:=Er (fun _:Rs × Rs=>True) (fun p=>[Fv p.1,Fv p.2]) (fun p=>bA (MD p.1 p.2))
theorem e39 (a b:Rs):f39 [Fv a,Fv b]=some (.sc (.bool (MD a b))):=
 (AJ (q:=fun _:Rs × Rs=>True) (enc:=fun p=>[Fv p.1,Fv p.2]) (out:=fun p=>bA (MD p.1 p.2)) (a,b) trivial (by
  rintro ⟨x,y⟩ h
  simp only [lx96,Az] at h
  rw [Jk h.1,Jk h.2]) :)
theorem Bg8:DK Tryz.prog 26 f39:=AE <| by
 rintro ⟨a,b⟩ -
 refine Ad (Ar ((.cons Bg5 .nil)) (.nil)) rfl Tryz.func26 rfl (by decide) (by kernel_rfl) (by kernel_rfl) ?_
 simp only [Tryz.f26,Af,lx53,lx63,Nat.reduceAdd,Nat.reduceSub,List.replicate]
 refine Tj 0 rfl fun hlen=>?_
 have hla:a.lamps.length < 9223372036854775808:=by
  have:=hlen a.zm (a.lamps.map Bg) (by simp [Fv])
  simp [maxLen] at this; omega
 clear hlen
 refine Ab ?_
 cases c1:(!decide (a.vars=b.vars) || !decide (a.left=b.left) || (a.act != b.act) || (a.fau != b.fau) || ((a.lamps.length:Int) != (b.lamps.length:Int))) with
 | true=>
  have e:MD a b=false:=by
   rw [JP]
   intro hh
   simp only [MD,AT,AR,lx85] at hh
   obtain ⟨⟨⟨⟨h1,h2⟩,h3⟩,h4⟩,h5⟩:=hh
   simp [h1,h2,h3,h4,h5] at c1
  exact I2 (a4 c1 e @Aq @e75)
  all_goals done
 | false=>
 have c2:=c1
 simp only [JL,KT,AR,bne_eq_false_iff_eq] at c2
 obtain ⟨⟨⟨⟨h1,h2⟩,h3⟩,h4⟩,h5⟩:=c2
 have he:a.lamps.length=b.lamps.length:=Ai
 have hE:MD a b=decide (a.lamps=b.lamps):=by simp [MD,h1,h2,h3,h4]
 rw [hE]
 refine NC (a3 c1 @Aq @e75) ?_
 clear c1
 refine Am (σ:=Nat) (fun k cnt=>⟨Bm 0 61 [(2,.pt 0 0 0 0),(3,.pt 1 1 0 0),(5,.sc (.int .i64 k))],[⟨true,0,41,5,[Fv a],false⟩,⟨true,1,41,5,[Fv b],false⟩],cnt⟩)
  (fun k=>k≤a.lamps.length∧∀ j,j < k→a.lamps.getD j default=b.lamps.getD j default) (fun k=>a.lamps.length - k) 0 ⟨by omega,by omega⟩ ?_ ?_ rfl ?_
 ·exact F4
 ·simp (maxSteps:=10000000) only [AX,AW,Aq]
 rintro k cnt ⟨hk,hn⟩ ih
 refine Ab ?_
 by_cases hk':k < a.lamps.length
 ·have h2:decide ((k:Int) < (a.lamps.length:Int))=true:=by rw [AR]; omega
  have h3:decide (k < a.lamps.length)=true:=Ae
  have h4:decide ((k:Int) < (b.lamps.length:Int))=true:=Ae
  have h5:decide (k < b.lamps.length)=true:=Ae
  have w1:IntKind.i64.wrap ((k:Int)+1)=((k+1:Nat):Int):=Ay
  have hne:=Bd (p:=fun j=>a.lamps.getD j default=b.lamps.getD j default) hn (k:=k)
  have hdf:a.lamps.getD k default≠b.lamps.getD k default→decide (a.lamps=b.lamps)=false:=fun hv=>by rw [Bz]; intro h; exact hv (by rw [h])
  obtain ⟨x,hx⟩:∃ x,a.lamps.getD k default=x:=⟨_,rfl⟩
  obtain ⟨y,hy⟩:∃ y,b.lamps.getD k default=y:=⟨_,rfl⟩
  simp only [hx,hy] at hne hdf
  by_cases hv:x=y
  ·have ih:=fun c=>ih (k+1) c ⟨by omega,hne hv⟩ (by omega)
   have hv':((x.mo == y.mo) && ((x.la == y.la) && ((x.se.lv == y.se.lv) && ((x.se.on == y.se.on) && ((x.se.off == y.se.off) && (x.se.si == y.se.si))))))=true:=by subst hv; simp
   refine BJ ?_
   refine NC (Ij h2 h3 h4 h5 hx hy w1 hv' @Bb @Aq @BS) ?_
   repeat' (first | exact Ac (by kernel_rfl) | refine ⟨Ac (by kernel_rfl),?_⟩ | refine And.intro ?_ ?_ | fail)
   refine Av ?_ ?_ (Aw _) (ih _)
   all_goals simp (maxSteps:=10000000) only [AX,AW,↓reduceIte,reduceCtorEq,Nat.reduceAdd,Nat.reduceEqDiff,Bm,D2,Aq]
   all_goals done
  ·have h6:=hdf hv
   have hv':((x.mo == y.mo) && ((x.la == y.la) && ((x.se.lv == y.se.lv) && ((x.se.on == y.se.on) && ((x.se.off == y.se.off) && (x.se.si == y.se.si))))))=false:=by
    rw [JP]; intro hh; simp only [AT,lx85] at hh; exact hv (Au6 hh)
   refine BJ ?_
   exact I2 (Ij h2 h3 h4 h5 hx hy hv' h6 @Bb @Aq @BS)
   repeat' (first | exact Ac (by kernel_rfl) | refine ⟨Ac (by kernel_rfl),?_⟩ | refine And.intro ?_ ?_ | fail)
   all_goals done
 ·have hkl:k=a.lamps.length:=by omega
  subst hkl
  have h2:decide ((a.lamps.length:Int) < (a.lamps.length:Int))=false:=Bc
  have h3:decide (a.lamps=b.lamps)=true:=by rw [AR]; exact QO he hn
  refine BJ ?_
  exact I2 (a3 h2 h3 @Aq)
  all_goals done
theorem Aua:O0 Tryz.prog 34=true:=by kernel_rfl
theorem W9 (cap:Nat) (H:List Blk) (cnt:Nat):HSpec Tryz.prog 54 [.sc (.slice none 0 cap)] H cnt (.vw true []) H cnt:=by
 refine Ag (Aj (lit:=false) (pm:=fun _=>none) .nil .nil .nil .nil) rfl Tryz.func54 rfl (by decide) (by kernel_rfl) ?_
 refine Aso ?_
 simp (maxSteps:=10000000) +contextual -implicitDefEqProofs only [AX,AW,St.put,↓reduceIte,CO,Aua]
 repeat' (first | exact Ac (by kernel_rfl) | refine ⟨Ac (by kernel_rfl),?_⟩ | refine And.intro ?_ ?_ | fail)
 all_goals exact Akg
theorem LF (cap:Nat) (H:List Blk) (cnt:Nat):HSpec Tryz.prog 54 [.sc (.slice none 0 cap)] H cnt (.sl H.length (cnt+1) 0 0) (H++[⟨true,cnt+1,3,1,[],false⟩]) (cnt+2):=
 Ayr (W9 cap H cnt) (cnt+1) 3 1 (cnt+2) (by omega) (by omega)
theorem LG (a:Addr) (cap:Nat) (H:List Blk) (cnt:Nat):HSpec Tryz.prog 54 [.sc (.slice (some a) 0 cap)] H cnt (.sl H.length (cnt+1) 0 0) (H++[⟨true,cnt+1,3,1,[],false⟩]) (cnt+2):=by
 refine Ag (Aj (lit:=false) (pm:=fun _=>none) .nil .nil .nil .nil) rfl Tryz.func54 rfl (by decide) (by kernel_rfl) ?_
 refine Aso ?_
 exact zE1 (a2 @Aua @KC)
 repeat' (first | exact Ac (by kernel_rfl) | refine ⟨Ac (by kernel_rfl),?_⟩ | refine And.intro ?_ ?_ | fail)
 all_goals exact Akg
theorem Aub:O0 Tryz.prog 39=true:=by kernel_rfl
theorem T1 (cap:Nat) (H:List Blk) (cnt:Nat):HSpec Tryz.prog 152 [.sc (.slice none 0 cap)] H cnt (.vw true []) H cnt:=by
 refine Ag (Aj (lit:=false) (pm:=fun _=>none) .nil .nil .nil .nil) rfl Tryz.func152 rfl (by decide) (by kernel_rfl) ?_
 refine Asn ?_
 simp (maxSteps:=10000000) +contextual -implicitDefEqProofs only [AX,AW,St.put,↓reduceIte,CO,Aub]
 repeat' (first | exact Ac (by kernel_rfl) | refine ⟨Ac (by kernel_rfl),?_⟩ | refine And.intro ?_ ?_ | fail)
 all_goals exact Akg
theorem Km (cap:Nat) (H:List Blk) (cnt:Nat):HSpec Tryz.prog 152 [.sc (.slice none 0 cap)] H cnt (.sl H.length (cnt+1) 0 0) (H++[⟨true,cnt+1,82,6,[],false⟩]) (cnt+2):=
 Ayr (T1 cap H cnt) (cnt+1) 82 6 (cnt+2) (by omega) (by omega)
theorem Kn (a:Addr) (cap:Nat) (H:List Blk) (cnt:Nat):HSpec Tryz.prog 152 [.sc (.slice (some a) 0 cap)] H cnt (.sl H.length (cnt+1) 0 0) (H++[⟨true,cnt+1,82,6,[],false⟩]) (cnt+2):=by
 refine Ag (Aj (lit:=false) (pm:=fun _=>none) .nil .nil .nil .nil) rfl Tryz.func152 rfl (by decide) (by kernel_rfl) ?_
 refine Asn ?_
 exact zE1 (a2 @Aub @KC)
 repeat' (first | exact Ac (by kernel_rfl) | refine ⟨Ac (by kernel_rfl),?_⟩ | refine And.intro ?_ ?_ | fail)
 all_goals exact Akg
theorem LH (l:List Int):Cc (l.map (kA .i64))=true:=Ei (f:=kA .i64) (fun _=>by simp [kA,AV.fresh]) l
theorem HL (l:List Lo):Cc (l.map Bg)=true:=Ei (f:=Bg) (fun _=>by simp [Bg,kA,AV.fresh,Cc]) l
theorem Yp (l:List Ef):Cc (l.map C6)=true:=Ei (f:=C6) (fun _=>by simp [C6,kA,stA,AV.fresh,Cc]) l
theorem Dz {P:Program} {g:Nat} {args:List AV} {H:List Blk} {c:Nat} {r:AV} {H':List Blk} {c':Nat} (h:HSpec P g args H c r H' c'):∃ F,M8 P g F∧F args H c=some (r,H',c'):=
 ⟨Xz (fun _:Unit=>True) (fun _=>(args,H,c)) (fun _=>(r,H',c')),G6 (fun _ _=>h),G5 (q:=fun _:Unit=>True) (enc:=fun _=>(args,H,c)) (out:=fun _=>(r,H',c')) () trivial (fun _ _ _=>rfl)⟩
theorem ME (z:Bool) (l:List Int) (H:List Blk) (cnt:Nat) (hs:l.length≤1000000):
  HSpec Tryz.prog 54 [.vw z (l.map (kA .i64))] H cnt (.sl H.length (cnt+1) 0 l.length) (H++[⟨true,cnt+1,3,1,l.map (kA .i64),false⟩]) (cnt+2):=by
 cases l with
 | nil=>exact OC (fun cap=>LF cap H cnt) (fun a cap=>LG a cap H cnt)
 | cons a r=>
  refine Ag (Aj (lit:=false) (pm:=fun _=>none) .nil .nil .nil .nil) rfl Tryz.func54 rfl (by decide) (by kernel_rfl) ?_
  refine Aso ?_
  have hr:decide ((r.length+1) * 8≤140737488355328)=true:=by rw [AR]; simp only [lx53] at hs; omega
  have hn:norefs (r.map (kA .i64))=true:=Bx r
  exact I2 (a4 hn hr @Aua @KC)
  repeat' (first | exact Ac (by kernel_rfl) | refine ⟨Ac (by kernel_rfl),?_⟩ | refine And.intro ?_ ?_ | fail)
  all_goals exact XC
theorem Rh (z:Bool) (l:List Lo) (H:List Blk) (cnt:Nat) (hs:l.length≤1000000):
  HSpec Tryz.prog 152 [.vw z (l.map Bg)] H cnt (.sl H.length (cnt+1) 0 l.length) (H++[⟨true,cnt+1,82,6,l.map Bg,false⟩]) (cnt+2):=by
 cases l with
 | nil=>exact OC (fun cap=>Km cap H cnt) (fun a cap=>Kn a cap H cnt)
 | cons a r=>
  refine Ag (Aj (lit:=false) (pm:=fun _=>none) .nil .nil .nil .nil) rfl Tryz.func152 rfl (by decide) (by kernel_rfl) ?_
  refine Asn ?_
  have hr:decide ((r.length+1) * 48≤140737488355328)=true:=by rw [AR]; simp only [lx53] at hs; omega
  have hn:norefs (r.map Bg)=true:=Jj r
  exact I2 (a6 hn hr @Bb @Aub @KC @BS)
  repeat' (first | exact Ac (by kernel_rfl) | refine ⟨Ac (by kernel_rfl),?_⟩ | refine And.intro ?_ ?_ | fail)
  all_goals exact XC
def G8 (b:Bool):Int:=if b=true then 1 else 0
noncomputable def f248:=Er (fun _:Bool=>True) (fun b=>[bA b]) (fun b=>kA .i64 (G8 b))
theorem T2 (b:Bool):f248 [.sc (.bool b)]=some (.sc (.int .i64 (G8 b))):=
 (AJ (q:=fun _:Bool=>True) (enc:=fun b=>[bA b]) (out:=fun b=>kA .i64 (G8 b)) b trivial (by intro y h; simp only [lx96,Az,bA,AV.sc.injEq,Value.bool.injEq] at h; exact h) :)
theorem Arj:DK Tryz.prog 248 f248:=AE <| by
 rintro b -
 refine Ad (Ar (.nil) (.nil)) rfl Tryz.func248 rfl (by decide) (by kernel_rfl) (by kernel_rfl) ?_
 simp only [Tryz.f248,Af,lx53,lx63,Nat.reduceAdd,Nat.reduceSub,List.replicate]
 exact Aog
theorem Ark:DK Tryz.prog 253 f248:=AE <| by
 rintro b -
 refine Ad (Ar (.nil) (.nil)) rfl Tryz.func253 rfl (by decide) (by kernel_rfl) (by kernel_rfl) ?_
 simp only [Tryz.f253,Af,lx53,lx63,Nat.reduceAdd,Nat.reduceSub,List.replicate]
 exact Aog
def QP (k a:Int):Int:=if k=10 then -AQ a else if k=11 then G8 (AQ a == 0) else 0
noncomputable def f229:=Er (fun _:Int × Int=>True) (fun p=>[kA .i64 p.1,kA .i64 p.2]) (fun p=>kA .i64 (QP p.1 p.2))
theorem Amq (k a:Int):f229 [.sc (.int .i64 k),.sc (.int .i64 a)]=some (.sc (.int .i64 (QP k a))):=
 (AJ (q:=fun _:Int × Int=>True) (enc:=fun p=>[kA .i64 p.1,kA .i64 p.2]) (out:=fun p=>kA .i64 (QP p.1 p.2)) (k,a) trivial (by rintro ⟨x,y⟩ h; simp only [lx96,Az] at h; rw [Bt h.1,Bt h.2]) :)
theorem Bba:DK Tryz.prog 229 f229:=AE <| by
 rintro ⟨k,a⟩ -
 have x1:=Rg a
 have hc:=Ey a
 obtain ⟨c,hc'⟩:∃ c,AQ a=c:=⟨_,rfl⟩
 rw [hc'] at x1 hc
 have w1:IntKind.i64.wrap (0 - c)=-c:=Ay
 have x2:=T2 (c == 0)
 refine Ad (Ar ((.cons Ari (.cons Arj .nil))) (.nil)) rfl Tryz.func229 rfl (by decide) (by kernel_rfl) (by kernel_rfl) ?_
 simp only [Tryz.f229,Af,lx53,lx63,Nat.reduceAdd,Nat.reduceSub,List.replicate]
 exact Aos
theorem Bbb:DK Tryz.prog 243 f229:=AE <| by
 rintro ⟨k,a⟩ -
 have x1:=Rg a
 have hc:=Ey a
 obtain ⟨c,hc'⟩:∃ c,AQ a=c:=⟨_,rfl⟩
 rw [hc'] at x1 hc
 have w1:IntKind.i64.wrap (0 - c)=-c:=Ay
 have x2:=T2 (c == 0)
 refine Ad (Ar ((.cons Ais (.cons Ark .nil))) (.nil)) rfl Tryz.func243 rfl (by decide) (by kernel_rfl) (by kernel_rfl) ?_
 simp only [Tryz.f243,Af,lx53,lx63,Nat.reduceAdd,Nat.reduceSub,List.replicate]
 exact Aos
def Cz (k a b:Int):Int:=if k=12 then AQ (AQ a * AQ b) else if k=13 then (if AQ b=0 then 0 else (AQ a).tdiv (AQ b)) else if k=14 then (if AQ b=0 then 0 else (AQ a).tmod (AQ b)) else if k=15 then AQ (AQ a+AQ b) else if k=16 then AQ (AQ a - AQ b) else if k=17 then G8 (decide (AQ a < AQ b)) else if k=18 then G8 (decide (AQ a≤AQ b)) else if k=19 then G8 (decide (AQ b < AQ a)) else if k=20 then G8 (decide (AQ b≤AQ a)) else if k=21 then G8 (AQ a == AQ b) else if k=22 then G8 (AQ a != AQ b) else if k=23 then G8 ((AQ a != 0) && (AQ b != 0)) else if k=24 then G8 ((AQ a != 0) || (AQ b != 0)) else 0
noncomputable def f230:=Er (fun _:Int × Int × Int=>True) (fun p=>[kA .i64 p.1,kA .i64 p.2.1,kA .i64 p.2.2]) (fun p=>kA .i64 (Cz p.1 p.2.1 p.2.2))
theorem Bbc (k a b:Int):f230 [.sc (.int .i64 k),.sc (.int .i64 a),.sc (.int .i64 b)]=some (.sc (.int .i64 (Cz k a b))):=
 (AJ (q:=fun _:Int × Int × Int=>True) (enc:=fun p=>[kA .i64 p.1,kA .i64 p.2.1,kA .i64 p.2.2]) (out:=fun p=>kA .i64 (Cz p.1 p.2.1 p.2.2)) (k,a,b) trivial (by rintro ⟨x,y,z⟩ h; simp only [lx96,Az] at h; rw [Bt h.1,Bt h.2.1,Bt h.2.2]) :)
theorem Ait {x y m:Int} (h0:0≤m) (h1:-m≤x) (h2:x≤m) (h3:-m≤y) (h4:y≤m):-(m * m)≤x * y∧x * y≤m * m:=by
 have hx:x.natAbs≤m.natAbs:=Ai
 have hy:y.natAbs≤m.natAbs:=Ai
 have h:=Nat.mul_le_mul hx hy
 rw [←Int.natAbs_mul,←Int.natAbs_mul] at h
 have hm:0≤m * m:=Int.mul_nonneg h0 h0
 generalize x * y=p at *
 generalize m * m=q at *
 omega
theorem T3 {x y m:Int} (h1:-m≤x) (h2:x≤m):-m≤x.tdiv y∧x.tdiv y≤m:=by
 have h:(x.tdiv y).natAbs=x.natAbs / y.natAbs:=Int.natAbs_tdiv x y
 have h':=Nat.div_le_self x.natAbs y.natAbs
 generalize x.natAbs / y.natAbs=q at *
 omega
theorem Bbd:DK Tryz.prog 230 f230:=AE <| by
 rintro ⟨k,a,b⟩ -
 have x1:=Rg a
 have x2:=Rg b
 have ha:=Ey a
 have hb:=Ey b
 have hR:∀ r,Cz k a b=r→Cz k a b=r:=fun _ h=>h
 obtain ⟨c,hc⟩:∃ c,AQ a=c:=⟨_,rfl⟩
 obtain ⟨d,hd⟩:∃ d,AQ b=d:=⟨_,rfl⟩
 rw [hc] at x1 ha
 rw [hd] at x2 hb
 have hm:=Ait (m:=2147483647) (by omega) ha.1 ha.2 hb.1 hb.2
 have hq:=T3 (y:=d) ha.1 ha.2
 have w1:IntKind.i64.wrap (c * d)=c * d:=Ba (by omega) (by omega)
 have w2:IntKind.i64.wrap (c+d)=c+d:=Ba (by omega) (by omega)
 have w3:IntKind.i64.wrap (c - d)=c - d:=Ba (by omega) (by omega)
 have w4:IntKind.i64.wrap (c.tdiv d)=c.tdiv d:=Ba (by omega) (by omega)
 clear hm hq
 refine Ad (Ar ((.cons Ari (.cons Arj .nil))) (.nil)) rfl Tryz.func230 rfl (by decide) (by kernel_rfl) (by kernel_rfl) ?_
 simp only [Tryz.f230,Af,lx53,lx63,Nat.reduceAdd,Nat.reduceSub,List.replicate]
 refine Ab ?_
 by_cases h12:k=12
 ·exact Ax1
 by_cases h13:k=13
 ·subst h13
  have hu:Cz 13 a b=(if d=0 then 0 else c.tdiv d):=Y5
  by_cases hz:d=0
  ·exact YY
  ·have z1:(d != 0)=true:=by simpa using hz
   have z2:(d == 0)=false:=by simpa using hz
   rw [if_neg hz] at hu
   exact Xy (a6 x1 x2 hu z1 hz w4)
   all_goals done
 by_cases h14:k=14
 ·subst h14
  have hu:Cz 14 a b=(if d=0 then 0 else c.tmod d):=Y5
  by_cases hz:d=0
  ·exact YY
  ·have z1:(d != 0)=true:=by simpa using hz
   have z2:(d == 0)=false:=by simpa using hz
   rw [if_neg hz] at hu
   exact Xy (a5 x1 x2 hu z1 hz)
   all_goals done
 by_cases h15:k=15
 ·exact Ax2
 by_cases h16:k=16
 ·exact Ax3
 exact Apy
theorem Bbe:DK Tryz.prog 244 f230:=AE <| by
 rintro ⟨k,a,b⟩ -
 have x1:=Rg a
 have x2:=Rg b
 have ha:=Ey a
 have hb:=Ey b
 have hR:∀ r,Cz k a b=r→Cz k a b=r:=fun _ h=>h
 obtain ⟨c,hc⟩:∃ c,AQ a=c:=⟨_,rfl⟩
 obtain ⟨d,hd⟩:∃ d,AQ b=d:=⟨_,rfl⟩
 rw [hc] at x1 ha
 rw [hd] at x2 hb
 have hm:=Ait (m:=2147483647) (by omega) ha.1 ha.2 hb.1 hb.2
 have hq:=T3 (y:=d) ha.1 ha.2
 have w1:IntKind.i64.wrap (c * d)=c * d:=Ba (by omega) (by omega)
 have w2:IntKind.i64.wrap (c+d)=c+d:=Ba (by omega) (by omega)
 have w3:IntKind.i64.wrap (c - d)=c - d:=Ba (by omega) (by omega)
 have w4:IntKind.i64.wrap (c.tdiv d)=c.tdiv d:=Ba (by omega) (by omega)
 clear hm hq
 refine Ad (Ar ((.cons Ais (.cons Ark .nil))) (.nil)) rfl Tryz.func244 rfl (by decide) (by kernel_rfl) (by kernel_rfl) ?_
 simp only [Tryz.f244,Af,lx53,lx63,Nat.reduceAdd,Nat.reduceSub,List.replicate]
 refine Ab ?_
 by_cases h12:k=12
 ·exact Ax1
 by_cases h13:k=13
 ·subst h13
  have hu:Cz 13 a b=(if d=0 then 0 else c.tdiv d):=Y5
  by_cases hz:d=0
  ·exact YY
  ·have z1:(d != 0)=true:=by simpa using hz
   have z2:(d == 0)=false:=by simpa using hz
   rw [if_neg hz] at hu
   exact Xy (a6 x1 x2 hu z2 hz w4)
   all_goals done
 by_cases h14:k=14
 ·subst h14
  have hu:Cz 14 a b=(if d=0 then 0 else c.tmod d):=Y5
  by_cases hz:d=0
  ·exact YY
  ·have z1:(d != 0)=true:=by simpa using hz
   have z2:(d == 0)=false:=by simpa using hz
   rw [if_neg hz] at hu
   exact Xy (a5 x1 x2 hu z2 hz)
   all_goals done
 by_cases h15:k=15
 ·exact Ax2
 by_cases h16:k=16
 ·exact Ax3
 exact Apy
def Adi (mo tr ix:Int) (e:En):Bool:=(e.mo == mo) && (e.tr == tr) && (e.ix == ix)
def Ea (c:Cd) (mo tr ix:Int):Option En:=c.ens.find? (Adi mo tr ix)
def pcO (o:Option En):Int:=(o.map (·.pc)).getD 0
theorem Amr {p:En→Bool} {l:List En} {r:Nat} (hr:r < l.length) (h:p (l.getD r default)=true) (hn:∀ j,j < r→p (l.getD j default)=false):l.find? p=some (l.getD r default):=by
 have hg:l.getD r default=l[r]:=by rw [lx80,lx51 hr]; rfl
 rw [hg] at h ⊢
 refine List.find?_eq_some_iff_getElem.2 ⟨h,r,hr,rfl,fun j hj=>?_⟩
 exact Apr
theorem Abh {p:En→Bool} {l:List En} (hn:∀ j,j < l.length→p (l.getD j default)=false):l.find? p=none:=by
 refine List.find?_eq_none.2 fun x hx=>?_
 obtain ⟨j,hj,rfl⟩:=List.mem_iff_getElem.1 hx
 have:=hn j hj
 rw [lx80,lx51 hj] at this
 simpa using this
noncomputable def f156:=Er (fun p:Cd × Int × Int × Int=>Fit p.1) (fun p=>[Bv p.1,kA .i64 p.2.1,kA .i64 p.2.2.1,kA .i64 p.2.2.2]) (fun p=>.tu [kA .i64 (pcO (Ea p.1 p.2.1 p.2.2.1 p.2.2.2)),bA (Ea p.1 p.2.1 p.2.2.1 p.2.2.2).isSome])
theorem Adj (c:Cd) (h:Fit c) (a b d:Int):f156 [Bv c,.sc (.int .i64 a),.sc (.int .i64 b),.sc (.int .i64 d)]=some (.tu [.sc (.int .i64 (pcO (Ea c a b d))),.sc (.bool (Ea c a b d).isSome)]):=
 (AJ (q:=fun p:Cd × Int × Int × Int=>Fit p.1) (enc:=fun p=>[Bv p.1,kA .i64 p.2.1,kA .i64 p.2.2.1,kA .i64 p.2.2.2]) (out:=fun p=>.tu [kA .i64 (pcO (Ea p.1 p.2.1 p.2.2.1 p.2.2.2)),bA (Ea p.1 p.2.1 p.2.2.1 p.2.2.2).isSome]) (c,a,b,d) h (by
  rintro ⟨c',a',b',d'⟩ h
  simp only [lx96,Az] at h
  rw [CS h.1,Bt h.2.1,Bt h.2.2.1,Bt h.2.2.2]) :)
theorem Aiu:DK Tryz.prog 156 f156:=AE <| by
 rintro ⟨c,mo,tr,ix⟩ hq
 have hl:=hq.ens
 simp only at hl ⊢
 refine Ad (Ar (.nil) (.nil)) rfl Tryz.func156 rfl (by decide) (by kernel_rfl) (by kernel_rfl) ?_
 simp only [Tryz.f156,Af,lx53,lx63,Nat.reduceAdd,Nat.reduceSub,List.replicate]
 refine Ab ?_
 refine gF0 ?_
 refine Am (σ:=Nat) (fun r cnt=>⟨Bm 0 38 [(1,.sc (.int .i64 mo)),(2,.sc (.int .i64 tr)),(3,.sc (.int .i64 ix)),(13,.vw c.ze (c.ens.map D3)),(14,.sc (.int .i64 c.ens.length)),(15,.sc (.int .i64 r))],[⟨true,0,36,7,[Bv c],false⟩],cnt⟩)
  (fun r=>r≤c.ens.length∧∀ j,j < r→Adi mo tr ix (c.ens.getD j default)=false) (fun r=>c.ens.length - r) 0 ⟨by omega,by omega⟩ ?_ ?_ rfl ?_
 ·exact F4
 ·exact I1
 rintro r cnt ⟨hr,hn⟩ ih
 by_cases hr':r < c.ens.length
 rotate_left
 ·obtain rfl:r=c.ens.length:=by omega
  have h1:decide ((c.ens.length:Int) < (c.ens.length:Int))=false:=Bc
  have hf:Ea c mo tr ix=none:=Abh hn
  rw [hf]
  refine Ab ?_
  refine BJ ?_
  simp (maxSteps:=10000000) +contextual -implicitDefEqProofs only [AX,AW,St.put,↓reduceIte,Aa,h1,pcO,lx9,Option.getD_none]
  all_goals done
 exact Aol
theorem Aiv:DK Tryz.prog 198 f156:=AE <| by
 rintro ⟨c,mo,tr,ix⟩ hq
 have hl:=hq.ens
 simp only at hl ⊢
 refine Ad (Ar (.nil) (.nil)) rfl Tryz.func198 rfl (by decide) (by kernel_rfl) (by kernel_rfl) ?_
 simp only [Tryz.f198,Af,lx53,lx63,Nat.reduceAdd,Nat.reduceSub,List.replicate]
 refine Ab ?_
 refine gF0 ?_
 refine Am (σ:=Nat) (fun r cnt=>⟨Bm 0 42 [(1,.sc (.int .i64 mo)),(2,.sc (.int .i64 tr)),(3,.sc (.int .i64 ix)),(4,.pt 0 0 0 0),(10,.sc (.int .i64 r))],[⟨true,0,36,7,[Bv c],false⟩],cnt⟩)
  (fun r=>r≤c.ens.length∧∀ j,j < r→Adi mo tr ix (c.ens.getD j default)=false) (fun r=>c.ens.length - r) 0 ⟨by omega,by omega⟩ ?_ ?_ rfl ?_
 ·exact F4
 ·exact I1
 rintro r cnt ⟨hr,hn⟩ ih
 by_cases hr':r < c.ens.length
 rotate_left
 ·obtain rfl:r=c.ens.length:=by omega
  have h1:decide ((c.ens.length:Int) < (c.ens.length:Int))=false:=Bc
  have hf:Ea c mo tr ix=none:=Abh hn
  rw [hf]
  refine Ab ?_
  refine BJ ?_
  simp (maxSteps:=10000000) +contextual -implicitDefEqProofs only [AX,AW,St.put,↓reduceIte,reduceCtorEq,Dd,CO,Aa,h1,pcO,lx9,Option.getD_none]
  all_goals done
 exact Aol
noncomputable def f205:=Er (fun _:Int × Int × Int=>True) (fun p=>[kA .i64 p.1,kA .i64 p.2.1,kA .i64 p.2.2]) (fun p=>kA .i64 (min (max p.1 p.2.1) p.2.2))
theorem Bg9 (n lo hi:Int):f205 [.sc (.int .i64 n),.sc (.int .i64 lo),.sc (.int .i64 hi)]=some (.sc (.int .i64 (min (max n lo) hi))):=
 (AJ (q:=fun _:Int × Int × Int=>True) (enc:=fun p=>[kA .i64 p.1,kA .i64 p.2.1,kA .i64 p.2.2]) (out:=fun p=>kA .i64 (min (max p.1 p.2.1) p.2.2)) (n,lo,hi) trivial (by rintro ⟨x,y,z⟩ h; simp only [lx96,Az] at h; rw [Bt h.1,Bt h.2.1,Bt h.2.2]) :)
theorem Arl:DK Tryz.prog 205 f205:=AE <| by
 rintro ⟨n,lo,hi⟩ -
 refine Ad (Ar (.nil) (.nil)) rfl Tryz.func205 rfl (by decide) (by kernel_rfl) (by kernel_rfl) ?_
 simp only [Tryz.f205,Af,lx53,lx63,Nat.reduceAdd,Nat.reduceSub,List.replicate]
 refine Ab ?_
 simp (maxSteps:=10000000) +contextual -implicitDefEqProofs only [AX,AW,St.put,CO,AA]
 all_goals done
def HM (x:Cx):Bool:=decide (0≤x.ti) && decide (x.ti≤1099511627776) && decide (0≤x.pl') && decide (x.pl'≤2147483647) && decide (0≤x.ba) && decide (x.ba≤2147483647)
noncomputable def f60:=Er (fun _:Cx=>True) (fun x=>[JB x]) (fun x=>bA (HM x))
theorem e60 (x:Cx):f60 [JB x]=some (.sc (.bool (HM x))):=
 (AJ (q:=fun _:Cx=>True) (enc:=fun x=>[JB x]) (out:=fun x=>bA (HM x)) x trivial (by intro y h; simp only [lx96,Az] at h; rw [OK h]) :)
theorem Bbf:DK Tryz.prog 60 f60:=AE <| by
 rintro x -
 refine Ad (Ar (.nil) (.nil)) rfl Tryz.func60 rfl (by decide) (by kernel_rfl) (by kernel_rfl) ?_
 simp only [Tryz.f60,Af,lx53,lx63,Nat.reduceAdd,Nat.reduceSub,List.replicate]
 refine Ab ?_
 simp (maxSteps:=10000000) +contextual -implicitDefEqProofs only [AX,AW,Ap,St.put,↓reduceIte,reduceCtorEq,Nat.reduceAdd,Dd,Int.reduceAdd,CO,AY,Bl,HM]
 all_goals done
def Yq (c:Cd) (e:Ev):Bool:=F0 e.tr 1 6 && F0 e.mo (-1) (c.pri.length - 1)
def cvQ (p:Cd × Ev):Prop:=Fit p.1
noncomputable def f67:=Er cvQ (fun p=>[Bv p.1,CV p.2]) (fun p=>bA (Yq p.1 p.2))
theorem e67 (c:Cd) (h:Fit c) (e:Ev):f67 [Bv c,CV e]=some (.sc (.bool (Yq c e))):=
 (AJ (q:=cvQ) (enc:=fun p=>[Bv p.1,CV p.2]) (out:=fun p=>bA (Yq p.1 p.2)) (c,e) h (by rintro ⟨x,y⟩ h; simp only [lx96,Az] at h; rw [CS h.1,KI h.2]) :)
theorem Bgb:DK Tryz.prog 67 f67:=AE <| by
 rintro ⟨c,e⟩ hq
 have hl:=hq.pri
 simp only at hl ⊢
 have w1:IntKind.i64.wrap ((c.pri.length:Int) - 1)=(c.pri.length:Int) - 1:=Ba (by omega) (by omega)
 have x1:=Ol e.tr 1 6
 have x2:=Ol e.mo (-1) (c.pri.length - 1)
 refine Ad (Ar ((.cons Ats .nil)) (.nil)) rfl Tryz.func67 rfl (by decide) (by kernel_rfl) (by kernel_rfl) ?_
 simp only [Tryz.f67,Af,lx53,lx63,Nat.reduceAdd,Nat.reduceSub,List.replicate]
 refine Ab ?_
 cases h1:F0 e.tr 1 6 <;> rw [h1] at x1 <;> simp (maxSteps:=10000000) +contextual -implicitDefEqProofs only [AX,AW,Ap,St.put,Ao,Al,DN,pl,↓reduceIte,reduceCtorEq,Nat.reduceAdd,Dd,Int.reduceAdd,CO,AY,Aa,AN,w1,x1,x2,Yq,h1]
 all_goals done
theorem Bbg:DK Tryz.prog 69 f67:=AE <| by
 rintro ⟨c,e⟩ hq
 have hl:=hq.pri
 simp only at hl ⊢
 have hb:Yq c e=(decide (1≤e.tr) && decide (e.tr≤6) && decide (-1≤e.mo) && decide (e.mo < (c.pri.length:Int))):=by
  have:decide (e.mo≤(c.pri.length:Int) - 1)=decide (e.mo < (c.pri.length:Int)):=Rr
  rw [Yq,F0,F0,this,lx1,lx1,lx1]
 rw [hb]
 refine Ad (Ar (.nil) (.nil)) rfl Tryz.func69 rfl (by decide) (by kernel_rfl) (by kernel_rfl) ?_
 simp only [Tryz.f69,Af,lx53,lx63,Nat.reduceAdd,Nat.reduceSub,List.replicate]
 refine Ab ?_
 exact zF0
 all_goals done
noncomputable def f226:=Er (fun _:En × Int=>True) (fun p=>[D3 p.1,.vp [kA .i64 p.2] 0 0]) (fun p=>bA (p.1.pc == p.2))
theorem Bgc (x:En) (n:Int):f226 [D3 x,.vp [.sc (.int .i64 n)] 0 0]=some (bA (x.pc == n)):=
 (AJ (q:=fun _:En × Int=>True) (enc:=fun p=>[D3 p.1,.vp [kA .i64 p.2] 0 0]) (out:=fun p=>bA (p.1.pc == p.2)) (x,n) trivial (by rintro ⟨y,m⟩ h; simp only [lx96,Az,AV.vp.injEq] at h; rw [Jh h.1,Bt h.2]) :)
theorem Bbh:DK Tryz.prog 226 f226:=AE <| by
 rintro ⟨x,n⟩ -
 refine Ad (Ar (.nil) (.nil)) rfl Tryz.func226 rfl (by decide) (by kernel_rfl) (by kernel_rfl) ?_
 simp only [Tryz.f226,Af,lx53,lx63,Nat.reduceAdd,Nat.reduceSub,List.replicate]
 refine Ab ?_
 exact zF0
 all_goals done
structure Ed where
 sw:Int
 cl:Bool
deriving Inhabited
def edA (x:Ed):AV:=.ag [kA .i64 x.sw,bA x.cl]
theorem QQ (x:Ed):edA x=.ag [.sc (.int .i64 x.sw),.sc (.bool x.cl)]:=rfl
noncomputable def f207:=Er (fun _:Lo × Ef=>True) (fun p=>[Bg p.1,.vp [C6 p.2] 0 0]) (fun p=>bA (p.1.mo == p.2.a))
theorem Bbi (x:Lo) (e:Ef):f207 [Bg x,.vp [C6 e] 0 0]=some (bA (x.mo == e.a)):=
 (AJ (q:=fun _:Lo × Ef=>True) (enc:=fun p=>[Bg p.1,.vp [C6 p.2] 0 0]) (out:=fun p=>bA (p.1.mo == p.2.a)) (x,e) trivial (by rintro ⟨y,m⟩ h; simp only [lx96,Az,AV.vp.injEq] at h; rw [KH h.1,MC h.2]) :)
theorem Arm:DK Tryz.prog 207 f207:=AE <| by
 rintro ⟨x,e⟩ -
 refine Ad (Ar (.nil) (.nil)) rfl Tryz.func207 rfl (by decide) (by kernel_rfl) (by kernel_rfl) ?_
 simp only [Tryz.f207,Af,lx53,lx63,Nat.reduceAdd,Nat.reduceSub,List.replicate]
 refine Ab ?_
 exact zF0
 all_goals done
theorem Bbj {g:Nat} {F:List AV→Option AV} (ok:DK Tryz.prog g F) (p:Lo→Bool) (es:List AV) (z:Bool) (l:List Lo) (he:∀ x ∈ l,F (Bg x::[.vp es 0 0])=some (bA (p x))) (hlL:l.length≤1000000):
  Di Tryz.prog 232 [.vw z (l.map Bg),.fn g [.vp es 0 0]] (kA .i64 (PW p l)):=by
 refine Ad (Ar ((.cons ok .nil)) (.nil)) rfl Tryz.func232 rfl (by decide) (by kernel_rfl) (by kernel_rfl) ?_
 simp only [Tryz.f232,Af,lx53,lx63,Nat.reduceAdd,Nat.reduceSub,List.replicate]
 refine qd4 ?_
 refine Am (σ:=Nat) (fun r cnt=>⟨Bm 0 19 [(0,.vw z (l.map Bg)),(1,.fn g [.vp es 0 0]),(7,.sc (.int .i64 l.length)),(8,.sc (.int .i64 r))],[],cnt⟩)
  (fun r=>r≤l.length∧∀ j,j < r→p (l.getD j default)=false) (fun r=>l.length - r) 0 ⟨by omega,by omega⟩ ?_ trivial rfl ?_
 ·exact F4
 rintro r cnt ⟨hr,hn⟩ ih
 refine Ab ?_
 by_cases hr':r < l.length
 ·have h1:decide ((r:Int) < (l.length:Int))=true:=by rw [AR]; omega
  have h2:decide (r < l.length)=true:=Ae
  have w1:IntKind.i64.wrap ((r:Int)+1)=((r+1:Nat):Int):=Ay
  have hm:=Cf hr'
  obtain ⟨x,hx⟩:∃ x,l.getD r default=x:=⟨_,rfl⟩
  have e1:=he x (by rw [←hx]; exact hm)
  simp only [Bb,AY] at e1
  exact Axj
 ·have hrl:r=l.length:=by omega
  subst hrl
  have h1:decide ((l.length:Int) < (l.length:Int))=false:=Bc
  have e:=Tx (p:=p) hn
  refine BJ ?_
  simp (maxSteps:=10000000) +contextual -implicitDefEqProofs only [AX,AW,St.put,↓reduceIte,h1,e]end Go.Proofs.YtdjpkhjaibdogaaGreat
