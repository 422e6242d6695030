/-
  Lemmas towards ModesFaults (joined texts: CF, MA, CG, FA, FB, FC, DS).
  Conditions: none.
-/
import Derived.Test.YtdjpkhjaibdogaaGreatK01
import Derived.Test.YtdjpkhjaibdogaaGreatK02
import Derived.Test.YtdjpkhjaibdogaaGreatK26
import Derived.Test.YtdjpkhjaibdogaaGreatK23
import Derived.Test.YtdjpkhjaibdogaaGreatK18
import Derived.Test.YtdjpkhjaibdogaaGreatK15
set_option linter.unusedSimpArgs false
set_option linter.unusedVariables false
set_option maxRecDepth 100000
set_option maxHeartbeats 8000000
namespace Go.Proofs.YtdjpkhjaibdogaaGreat
open Go Go.SX
attribute [local congr] ite_congr
def LQ (a b:Rs):Bool:=decide (a.vars=b.vars) && decide (a.left=b.left) && (a.act == b.act) && decide (a.lamps=b.lamps) && (a.fau == b.fau)
noncomputable def f39:=EP (fun _:Rs × Rs=>True) (fun p=>[Hf p.1,Hf p.2]) (fun p=>bA (LQ p.1 p.2))
theorem e39 (a b:Rs):f39 [Hf a,Hf b]=some (.sc (.bool (LQ a b))):=
 (AG (q:=fun _:Rs × Rs=>True) (enc:=fun p=>[Hf p.1,Hf p.2]) (out:=fun p=>bA (LQ p.1 p.2)) (a,b) trivial (by
  rintro ⟨x,y⟩ h
  simp only [lx96,Ay] at h
  rw [JZ h.1,JZ h.2]) :)
theorem Azf:Eb Tryz.prog 26 f39:=AQ <| by
 rintro ⟨a,b⟩ -
 refine Ab (Aq ((.cons Ben .nil)) (.nil)) rfl Tryz.func26 rfl (by decide) (by kernel_rfl) (by kernel_rfl) ?_
 simp only [Tryz.f26,Af,lx53,lx63,Nat.reduceAdd,Nat.reduceSub,List.replicate]
 refine YG 0 rfl fun hlen=>?_
 have hla:a.lamps.length < 9223372036854775808:=by
  have:=hlen a.zm (a.lamps.map BY) (by simp [Hf])
  simp [maxLen] at this; omega
 clear hlen
 refine Aa ?_
 cases c1:(!decide (a.vars=b.vars) || !decide (a.left=b.left) || (a.act != b.act) || (a.fau != b.fau) || ((a.lamps.length:Int) != (b.lamps.length:Int))) with
 | true=>
  have e:LQ a b=false:=by
   rw [K5]
   intro hh
   simp only [LQ,AH,AR,lx85] at hh
   obtain ⟨⟨⟨⟨h1,h2⟩,h3⟩,h4⟩,h5⟩:=hh
   simp [h1,h2,h3,h4,h5] at c1
  exact Mc (a4 c1 e @AL @e75)
  all_goals done
 | false=>
 have c2:=c1
 simp only [J7,Hj,AR,bne_eq_false_iff_eq] at c2
 obtain ⟨⟨⟨⟨h1,h2⟩,h3⟩,h4⟩,h5⟩:=c2
 have he:a.lamps.length=b.lamps.length:=Ah
 have hE:LQ a b=decide (a.lamps=b.lamps):=by simp [LQ,h1,h2,h3,h4]
 rw [hE]
 refine Yr (a3 c1 @AL @e75) ?_
 clear c1
 refine Aw (σ:=Nat) (fun k cnt=>⟨Cg 0 61 [(2,.pt 0 0 0 0),(3,.pt 1 1 0 0),(5,.sc (.int .i64 k))],[⟨true,0,41,5,[Hf a],false⟩,⟨true,1,41,5,[Hf b],false⟩],cnt⟩)
  (fun k=>k≤a.lamps.length∧∀ j,j < k→a.lamps.getD j default=b.lamps.getD j default) (fun k=>a.lamps.length - k) 0 ⟨by omega,by omega⟩ ?_ ?_ rfl ?_
 ·exact IZ
 ·simp (maxSteps:=10000000) only [Bk,Bg,AL]
 rintro k cnt ⟨hk,hn⟩ ih
 refine Aa ?_
 by_cases hk':k < a.lamps.length
 ·have h2:decide ((k:Int) < (a.lamps.length:Int))=true:=by rw [AR]; omega
  have h3:decide (k < a.lamps.length)=true:=Aj
  have h4:decide ((k:Int) < (b.lamps.length:Int))=true:=Aj
  have h5:decide (k < b.lamps.length)=true:=Aj
  have w1:IntKind.i64.wrap ((k:Int)+1)=((k+1:Nat):Int):=AK
  have hne:=Cl (p:=fun j=>a.lamps.getD j default=b.lamps.getD j default) hn (k:=k)
  have hdf:a.lamps.getD k default≠b.lamps.getD k default→decide (a.lamps=b.lamps)=false:=fun hv=>by rw [BJ]; intro h; exact hv (by rw [h])
  obtain ⟨x,hx⟩:∃ x,a.lamps.getD k default=x:=⟨_,rfl⟩
  obtain ⟨y,hy⟩:∃ y,b.lamps.getD k default=y:=⟨_,rfl⟩
  simp only [hx,hy] at hne hdf
  by_cases hv:x=y
  ·have ih:=fun c=>ih (k+1) c ⟨by omega,hne hv⟩ (by omega)
   have hv':((x.mo == y.mo) && ((x.la == y.la) && ((x.se.lv == y.se.lv) && ((x.se.on == y.se.on) && ((x.se.off == y.se.off) && (x.se.si == y.se.si))))))=true:=by subst hv; simp
   refine CL ?_
   refine Yr (HH h2 h3 h4 h5 hx hy w1 hv' @Bl @AL @Bq) ?_
   repeat' (first | exact Ae (by kernel_rfl) | refine ⟨Ae (by kernel_rfl),?_⟩ | refine And.intro ?_ ?_ | fail)
   refine AD ?_ ?_ (Ax _) (ih _)
   all_goals simp (maxSteps:=10000000) only [Bk,Bg,↓reduceIte,reduceCtorEq,Nat.reduceAdd,Nat.reduceEqDiff,Cg,EX,AL]
   all_goals done
  ·have h6:=hdf hv
   have hv':((x.mo == y.mo) && ((x.la == y.la) && ((x.se.lv == y.se.lv) && ((x.se.on == y.se.on) && ((x.se.off == y.se.off) && (x.se.si == y.se.si))))))=false:=by
    rw [K5]; intro hh; simp only [AH,lx85] at hh; exact hv (Asf hh)
   refine CL ?_
   exact Mc (HH h2 h3 h4 h5 hx hy hv' h6 @Bl @AL @Bq)
   repeat' (first | exact Ae (by kernel_rfl) | refine ⟨Ae (by kernel_rfl),?_⟩ | refine And.intro ?_ ?_ | fail)
   all_goals done
 ·have hkl:k=a.lamps.length:=by omega
  subst hkl
  have h2:decide ((a.lamps.length:Int) < (a.lamps.length:Int))=false:=Br
  have h3:decide (a.lamps=b.lamps)=true:=by rw [AR]; exact PV he hn
  refine CL ?_
  exact Mc (a3 h2 h3 @AL)
  all_goals done
theorem Ash:Oq Tryz.prog 34=true:=by kernel_rfl
theorem Ww (cap:Nat) (H:List Blk) (cnt:Nat):HSpec Tryz.prog 54 [.sc (.slice none 0 cap)] H cnt (.vw true []) H cnt:=by
 refine Ag (Am (lit:=false) (pm:=fun _=>none) .nil .nil .nil .nil) rfl Tryz.func54 rfl (by decide) (by kernel_rfl) ?_
 refine Aqz ?_
 simp (maxSteps:=10000000) +contextual -implicitDefEqProofs only [Bk,Bg,St.put,↓reduceIte,Dq,Ash]
 repeat' (first | exact Ae (by kernel_rfl) | refine ⟨Ae (by kernel_rfl),?_⟩ | refine And.intro ?_ ?_ | fail)
 all_goals exact Ajw
theorem KQ (cap:Nat) (H:List Blk) (cnt:Nat):HSpec Tryz.prog 54 [.sc (.slice none 0 cap)] H cnt (.sl H.length (cnt+1) 0 0) (H++[⟨true,cnt+1,3,1,[],false⟩]) (cnt+2):=
 Ax4 (Ww cap H cnt) (cnt+1) 3 1 (cnt+2) (by omega) (by omega)
theorem KR (a:Addr) (cap:Nat) (H:List Blk) (cnt:Nat):HSpec Tryz.prog 54 [.sc (.slice (some a) 0 cap)] H cnt (.sl H.length (cnt+1) 0 0) (H++[⟨true,cnt+1,3,1,[],false⟩]) (cnt+2):=by
 refine Ag (Am (lit:=false) (pm:=fun _=>none) .nil .nil .nil .nil) rfl Tryz.func54 rfl (by decide) (by kernel_rfl) ?_
 refine Aqz ?_
 exact zE1 (a2 @Ash @JU)
 repeat' (first | exact Ae (by kernel_rfl) | refine ⟨Ae (by kernel_rfl),?_⟩ | refine And.intro ?_ ?_ | fail)
 all_goals exact Ajw
theorem Asi:Oq Tryz.prog 39=true:=by kernel_rfl
theorem Tj (cap:Nat) (H:List Blk) (cnt:Nat):HSpec Tryz.prog 152 [.sc (.slice none 0 cap)] H cnt (.vw true []) H cnt:=by
 refine Ag (Am (lit:=false) (pm:=fun _=>none) .nil .nil .nil .nil) rfl Tryz.func152 rfl (by decide) (by kernel_rfl) ?_
 refine Aqy ?_
 simp (maxSteps:=10000000) +contextual -implicitDefEqProofs only [Bk,Bg,St.put,↓reduceIte,Dq,Asi]
 repeat' (first | exact Ae (by kernel_rfl) | refine ⟨Ae (by kernel_rfl),?_⟩ | refine And.intro ?_ ?_ | fail)
 all_goals exact Ajw
theorem Jz (cap:Nat) (H:List Blk) (cnt:Nat):HSpec Tryz.prog 152 [.sc (.slice none 0 cap)] H cnt (.sl H.length (cnt+1) 0 0) (H++[⟨true,cnt+1,82,6,[],false⟩]) (cnt+2):=
 Ax4 (Tj cap H cnt) (cnt+1) 82 6 (cnt+2) (by omega) (by omega)
theorem JA (a:Addr) (cap:Nat) (H:List Blk) (cnt:Nat):HSpec Tryz.prog 152 [.sc (.slice (some a) 0 cap)] H cnt (.sl H.length (cnt+1) 0 0) (H++[⟨true,cnt+1,82,6,[],false⟩]) (cnt+2):=by
 refine Ag (Am (lit:=false) (pm:=fun _=>none) .nil .nil .nil .nil) rfl Tryz.func152 rfl (by decide) (by kernel_rfl) ?_
 refine Aqy ?_
 exact zE1 (a2 @Asi @JU)
 repeat' (first | exact Ae (by kernel_rfl) | refine ⟨Ae (by kernel_rfl),?_⟩ | refine And.intro ?_ ?_ | fail)
 all_goals exact Ajw
theorem KS (l:List Int):Cz (l.map (kA .i64))=true:=Ep (f:=kA .i64) (fun _=>by simp [kA,AV.fresh]) l
theorem XJ (l:List Ef):Cz (l.map Ek)=true:=Ep (f:=Ek) (fun _=>by simp [Ek,kA,stA,AV.fresh,Cz]) l
theorem D1 {P:Program} {g:Nat} {args:List AV} {H:List Blk} {c:Nat} {r:AV} {H':List Blk} {c':Nat} (h:HSpec P g args H c r H' c'):∃ F,Ql P g F∧F args H c=some (r,H',c'):=
 ⟨mkH (fun _:Unit=>True) (fun _=>(args,H,c)) (fun _=>(r,H',c')),It (fun _ _=>h),Ir (q:=fun _:Unit=>True) (enc:=fun _=>(args,H,c)) (out:=fun _=>(r,H',c')) () trivial (fun _ _ _=>rfl)⟩
theorem LR (z:Bool) (l:List Int) (H:List Blk) (cnt:Nat) (hs:l.length≤1000000):
  HSpec Tryz.prog 54 [.vw z (l.map (kA .i64))] H cnt (.sl H.length (cnt+1) 0 l.length) (H++[⟨true,cnt+1,3,1,l.map (kA .i64),false⟩]) (cnt+2):=by
 cases l with
 | nil=>exact NZ (fun cap=>KQ cap H cnt) (fun a cap=>KR a cap H cnt)
 | cons a r=>
  refine Ag (Am (lit:=false) (pm:=fun _=>none) .nil .nil .nil .nil) rfl Tryz.func54 rfl (by decide) (by kernel_rfl) ?_
  refine Aqz ?_
  have hr:decide ((r.length+1) * 8≤140737488355328)=true:=by rw [AR]; simp only [lx53] at hs; omega
  have hn:norefs (r.map (kA .i64))=true:=Cm r
  exact Mc (a4 hn hr @Ash @JU)
  repeat' (first | exact Ae (by kernel_rfl) | refine ⟨Ae (by kernel_rfl),?_⟩ | refine And.intro ?_ ?_ | fail)
  all_goals exact W2
theorem Qp (z:Bool) (l:List Lo) (H:List Blk) (cnt:Nat) (hs:l.length≤1000000):
  HSpec Tryz.prog 152 [.vw z (l.map BY)] H cnt (.sl H.length (cnt+1) 0 l.length) (H++[⟨true,cnt+1,82,6,l.map BY,false⟩]) (cnt+2):=by
 cases l with
 | nil=>exact NZ (fun cap=>Jz cap H cnt) (fun a cap=>JA a cap H cnt)
 | cons a r=>
  refine Ag (Am (lit:=false) (pm:=fun _=>none) .nil .nil .nil .nil) rfl Tryz.func152 rfl (by decide) (by kernel_rfl) ?_
  refine Aqy ?_
  have hr:decide ((r.length+1) * 48≤140737488355328)=true:=by rw [AR]; simp only [lx53] at hs; omega
  have hn:norefs (r.map BY)=true:=PS r
  exact Mc (a6 hn hr @Bl @Asi @JU @Bq)
  repeat' (first | exact Ae (by kernel_rfl) | refine ⟨Ae (by kernel_rfl),?_⟩ | refine And.intro ?_ ?_ | fail)
  all_goals exact W2
def Gr (b:Bool):Int:=if b=true then 1 else 0
noncomputable def f248:=EP (fun _:Bool=>True) (fun b=>[bA b]) (fun b=>kA .i64 (Gr b))
theorem Wx (b:Bool):f248 [.sc (.bool b)]=some (.sc (.int .i64 (Gr b))):=
 (AG (q:=fun _:Bool=>True) (enc:=fun b=>[bA b]) (out:=fun b=>kA .i64 (Gr b)) b trivial (by intro y h; simp only [lx96,Ay,bA,AV.sc.injEq,Value.bool.injEq] at h; exact h) :)
theorem Aq6:Eb Tryz.prog 248 f248:=AQ <| by
 rintro b -
 refine Ab (Aq (.nil) (.nil)) rfl Tryz.func248 rfl (by decide) (by kernel_rfl) (by kernel_rfl) ?_
 simp only [Tryz.f248,Af,lx53,lx63,Nat.reduceAdd,Nat.reduceSub,List.replicate]
 exact Av4
def Tl (k a:Int):Int:=if k=10 then -AM a else if k=11 then Gr (AM a == 0) else 0
noncomputable def f229:=EP (fun _:Int × Int=>True) (fun p=>[kA .i64 p.1,kA .i64 p.2]) (fun p=>kA .i64 (Tl p.1 p.2))
theorem Azg (k a:Int):f229 [.sc (.int .i64 k),.sc (.int .i64 a)]=some (.sc (.int .i64 (Tl k a))):=
 (AG (q:=fun _:Int × Int=>True) (enc:=fun p=>[kA .i64 p.1,kA .i64 p.2]) (out:=fun p=>kA .i64 (Tl p.1 p.2)) (k,a) trivial (by rintro ⟨x,y⟩ h; simp only [lx96,Ay] at h; rw [Bt h.1,Bt h.2]) :)
theorem Azh:Eb Tryz.prog 229 f229:=AQ <| by
 rintro ⟨k,a⟩ -
 have x1:=Ac9 a
 have hc:=GG a
 obtain ⟨c,hc'⟩:∃ c,AM a=c:=⟨_,rfl⟩
 rw [hc'] at x1 hc
 have w1:IntKind.i64.wrap (0 - c)=-c:=AK
 have x2:=Wx (c == 0)
 refine Ab (Aq ((.cons Aq5 (.cons Aq6 .nil))) (.nil)) rfl Tryz.func229 rfl (by decide) (by kernel_rfl) (by kernel_rfl) ?_
 simp only [Tryz.f229,Af,lx53,lx63,Nat.reduceAdd,Nat.reduceSub,List.replicate]
 exact Avi
def CK (k a b:Int):Int:=if k=12 then AM (AM a * AM b) else if k=13 then (if AM b=0 then 0 else (AM a).tdiv (AM b)) else if k=14 then (if AM b=0 then 0 else (AM a).tmod (AM b)) else if k=15 then AM (AM a+AM b) else if k=16 then AM (AM a - AM b) else if k=17 then Gr (decide (AM a < AM b)) else if k=18 then Gr (decide (AM a≤AM b)) else if k=19 then Gr (decide (AM b < AM a)) else if k=20 then Gr (decide (AM b≤AM a)) else if k=21 then Gr (AM a == AM b) else if k=22 then Gr (AM a != AM b) else if k=23 then Gr ((AM a != 0) && (AM b != 0)) else if k=24 then Gr ((AM a != 0) || (AM b != 0)) else 0
noncomputable def f230:=EP (fun _:Int × Int × Int=>True) (fun p=>[kA .i64 p.1,kA .i64 p.2.1,kA .i64 p.2.2]) (fun p=>kA .i64 (CK p.1 p.2.1 p.2.2))
theorem Beo (k a b:Int):f230 [.sc (.int .i64 k),.sc (.int .i64 a),.sc (.int .i64 b)]=some (.sc (.int .i64 (CK k a b))):=
 (AG (q:=fun _:Int × Int × Int=>True) (enc:=fun p=>[kA .i64 p.1,kA .i64 p.2.1,kA .i64 p.2.2]) (out:=fun p=>kA .i64 (CK p.1 p.2.1 p.2.2)) (k,a,b) trivial (by rintro ⟨x,y,z⟩ h; simp only [lx96,Ay] at h; rw [Bt h.1,Bt h.2.1,Bt h.2.2]) :)
theorem Asj {x y m:Int} (h0:0≤m) (h1:-m≤x) (h2:x≤m) (h3:-m≤y) (h4:y≤m):-(m * m)≤x * y∧x * y≤m * m:=by
 have hx:x.natAbs≤m.natAbs:=Ah
 have hy:y.natAbs≤m.natAbs:=Ah
 have h:=Nat.mul_le_mul hx hy
 rw [←Int.natAbs_mul,←Int.natAbs_mul] at h
 have hm:0≤m * m:=Int.mul_nonneg h0 h0
 generalize x * y=p at *
 generalize m * m=q at *
 omega
theorem Aa8 {x y m:Int} (h1:-m≤x) (h2:x≤m):-m≤x.tdiv y∧x.tdiv y≤m:=by
 have h:(x.tdiv y).natAbs=x.natAbs / y.natAbs:=Int.natAbs_tdiv x y
 have h':=Nat.div_le_self x.natAbs y.natAbs
 generalize x.natAbs / y.natAbs=q at *
 omega
theorem Azi:Eb Tryz.prog 230 f230:=AQ <| by
 rintro ⟨k,a,b⟩ -
 have x1:=Ac9 a
 have x2:=Ac9 b
 have ha:=GG a
 have hb:=GG b
 have hR:∀ r,CK k a b=r→CK k a b=r:=fun _ h=>h
 obtain ⟨c,hc⟩:∃ c,AM a=c:=⟨_,rfl⟩
 obtain ⟨d,hd⟩:∃ d,AM b=d:=⟨_,rfl⟩
 rw [hc] at x1 ha
 rw [hd] at x2 hb
 have hm:=Asj (m:=2147483647) (by omega) ha.1 ha.2 hb.1 hb.2
 have hq:=Aa8 (y:=d) ha.1 ha.2
 have w1:IntKind.i64.wrap (c * d)=c * d:=Bd (by omega) (by omega)
 have w2:IntKind.i64.wrap (c+d)=c+d:=Bd (by omega) (by omega)
 have w3:IntKind.i64.wrap (c - d)=c - d:=Bd (by omega) (by omega)
 have w4:IntKind.i64.wrap (c.tdiv d)=c.tdiv d:=Bd (by omega) (by omega)
 clear hm hq
 refine Ab (Aq ((.cons Aq5 (.cons Aq6 .nil))) (.nil)) rfl Tryz.func230 rfl (by decide) (by kernel_rfl) (by kernel_rfl) ?_
 simp only [Tryz.f230,Af,lx53,lx63,Nat.reduceAdd,Nat.reduceSub,List.replicate]
 refine Aa ?_
 by_cases h12:k=12
 ·exact Bd9
 by_cases h13:k=13
 ·subst h13
  have hu:CK 13 a b=(if d=0 then 0 else c.tdiv d):=Aop
  by_cases hz:d=0
  ·exact Ank
  ·have z1:(d != 0)=true:=by simpa using hz
   have z2:(d == 0)=false:=by simpa using hz
   rw [if_neg hz] at hu
   exact TH (a6 x1 x2 hu z1 hz w4)
   all_goals done
 by_cases h14:k=14
 ·subst h14
  have hu:CK 14 a b=(if d=0 then 0 else c.tmod d):=Aop
  by_cases hz:d=0
  ·exact Ank
  ·have z1:(d != 0)=true:=by simpa using hz
   have z2:(d == 0)=false:=by simpa using hz
   rw [if_neg hz] at hu
   exact TH (a5 x1 x2 hu z1 hz)
   all_goals done
 by_cases h15:k=15
 ·exact Bda
 by_cases h16:k=16
 ·exact Bdb
 exact Avr
def Ahu (mo tr ix:Int) (e:En):Bool:=(e.mo == mo) && (e.tr == tr) && (e.ix == ix)
def ET (c:Cd) (mo tr ix:Int):Option En:=c.ens.find? (Ahu mo tr ix)
def pcO (o:Option En):Int:=(o.map (·.pc)).getD 0
theorem Am3 {p:En→Bool} {l:List En} {r:Nat} (hr:r < l.length) (h:p (l.getD r default)=true) (hn:∀ j,j < r→p (l.getD j default)=false):l.find? p=some (l.getD r default):=by
 have hg:l.getD r default=l[r]:=by rw [lx80,lx51 hr]; rfl
 rw [hg] at h ⊢
 refine List.find?_eq_some_iff_getElem.2 ⟨h,r,hr,rfl,fun j hj=>?_⟩
 exact Aoj
theorem Am4 {p:En→Bool} {l:List En} (hn:∀ j,j < l.length→p (l.getD j default)=false):l.find? p=none:=by
 refine List.find?_eq_none.2 fun x hx=>?_
 obtain ⟨j,hj,rfl⟩:=List.mem_iff_getElem.1 hx
 have:=hn j hj
 rw [lx80,lx51 hj] at this
 simpa using this
noncomputable def f156:=EP (fun p:Cd × Int × Int × Int=>Fit p.1) (fun p=>[B5 p.1,kA .i64 p.2.1,kA .i64 p.2.2.1,kA .i64 p.2.2.2]) (fun p=>.tu [kA .i64 (pcO (ET p.1 p.2.1 p.2.2.1 p.2.2.2)),bA (ET p.1 p.2.1 p.2.2.1 p.2.2.2).isSome])
theorem Asm (c:Cd) (h:Fit c) (a b d:Int):f156 [B5 c,.sc (.int .i64 a),.sc (.int .i64 b),.sc (.int .i64 d)]=some (.tu [.sc (.int .i64 (pcO (ET c a b d))),.sc (.bool (ET c a b d).isSome)]):=
 (AG (q:=fun p:Cd × Int × Int × Int=>Fit p.1) (enc:=fun p=>[B5 p.1,kA .i64 p.2.1,kA .i64 p.2.2.1,kA .i64 p.2.2.2]) (out:=fun p=>.tu [kA .i64 (pcO (ET p.1 p.2.1 p.2.2.1 p.2.2.2)),bA (ET p.1 p.2.1 p.2.2.1 p.2.2.2).isSome]) (c,a,b,d) h (by
  rintro ⟨c',a',b',d'⟩ h
  simp only [lx96,Ay] at h
  rw [CV h.1,Bt h.2.1,Bt h.2.2.1,Bt h.2.2.2]) :)
theorem Ahv:Eb Tryz.prog 156 f156:=AQ <| by
 rintro ⟨c,mo,tr,ix⟩ hq
 have hl:=hq.ens
 simp only at hl ⊢
 refine Ab (Aq (.nil) (.nil)) rfl Tryz.func156 rfl (by decide) (by kernel_rfl) (by kernel_rfl) ?_
 simp only [Tryz.f156,Af,lx53,lx63,Nat.reduceAdd,Nat.reduceSub,List.replicate]
 refine Aa ?_
 refine gF0 ?_
 refine Aw (σ:=Nat) (fun r cnt=>⟨Cg 0 38 [(1,.sc (.int .i64 mo)),(2,.sc (.int .i64 tr)),(3,.sc (.int .i64 ix)),(13,.vw c.ze (c.ens.map DP)),(14,.sc (.int .i64 c.ens.length)),(15,.sc (.int .i64 r))],[⟨true,0,36,7,[B5 c],false⟩],cnt⟩)
  (fun r=>r≤c.ens.length∧∀ j,j < r→Ahu mo tr ix (c.ens.getD j default)=false) (fun r=>c.ens.length - r) 0 ⟨by omega,by omega⟩ ?_ ?_ rfl ?_
 ·exact IZ
 ·exact Aax
 rintro r cnt ⟨hr,hn⟩ ih
 by_cases hr':r < c.ens.length
 rotate_left
 ·obtain rfl:r=c.ens.length:=by omega
  have h1:decide ((c.ens.length:Int) < (c.ens.length:Int))=false:=Br
  have hf:ET c mo tr ix=none:=Am4 hn
  rw [hf]
  refine Aa ?_
  refine CL ?_
  simp (maxSteps:=10000000) +contextual -implicitDefEqProofs only [Bk,Bg,St.put,↓reduceIte,Ac,h1,pcO,lx9,Option.getD_none]
  all_goals done
 exact Av8
noncomputable def f205:=EP (fun _:Int × Int × Int=>True) (fun p=>[kA .i64 p.1,kA .i64 p.2.1,kA .i64 p.2.2]) (fun p=>kA .i64 (min (max p.1 p.2.1) p.2.2))
theorem Bep (n lo hi:Int):f205 [.sc (.int .i64 n),.sc (.int .i64 lo),.sc (.int .i64 hi)]=some (.sc (.int .i64 (min (max n lo) hi))):=
 (AG (q:=fun _:Int × Int × Int=>True) (enc:=fun p=>[kA .i64 p.1,kA .i64 p.2.1,kA .i64 p.2.2]) (out:=fun p=>kA .i64 (min (max p.1 p.2.1) p.2.2)) (n,lo,hi) trivial (by rintro ⟨x,y,z⟩ h; simp only [lx96,Ay] at h; rw [Bt h.1,Bt h.2.1,Bt h.2.2]) :)
theorem Aq7:Eb Tryz.prog 205 f205:=AQ <| by
 rintro ⟨n,lo,hi⟩ -
 refine Ab (Aq (.nil) (.nil)) rfl Tryz.func205 rfl (by decide) (by kernel_rfl) (by kernel_rfl) ?_
 simp only [Tryz.f205,Af,lx53,lx63,Nat.reduceAdd,Nat.reduceSub,List.replicate]
 refine Aa ?_
 simp (maxSteps:=10000000) +contextual -implicitDefEqProofs only [Bk,Bg,St.put,Dq,AB]
 all_goals done
def KT (x:Cx):Bool:=decide (0≤x.ti) && decide (x.ti≤1099511627776) && decide (0≤x.pl') && decide (x.pl'≤2147483647) && decide (0≤x.ba) && decide (x.ba≤2147483647)
def evB (c:Cd) (e:Ev):Bool:=HD e.tr 1 6 && HD e.mo (-1) (c.pri.length - 1)
def cvQ (p:Cd × Ev):Prop:=Fit p.1
noncomputable def f67:=EP cvQ (fun p=>[B5 p.1,Eh p.2]) (fun p=>bA (evB p.1 p.2))
theorem e67 (c:Cd) (h:Fit c) (e:Ev):f67 [B5 c,Eh e]=some (.sc (.bool (evB c e))):=
 (AG (q:=cvQ) (enc:=fun p=>[B5 p.1,Eh p.2]) (out:=fun p=>bA (evB p.1 p.2)) (c,e) h (by rintro ⟨x,y⟩ h; simp only [lx96,Ay] at h; rw [CV h.1,N5 h.2]) :)
theorem Beq:Eb Tryz.prog 67 f67:=AQ <| by
 rintro ⟨c,e⟩ hq
 have hl:=hq.pri
 simp only at hl ⊢
 have w1:IntKind.i64.wrap ((c.pri.length:Int) - 1)=(c.pri.length:Int) - 1:=Bd (by omega) (by omega)
 have x1:=XE e.tr 1 6
 have x2:=XE e.mo (-1) (c.pri.length - 1)
 refine Ab (Aq ((.cons Aln .nil)) (.nil)) rfl Tryz.func67 rfl (by decide) (by kernel_rfl) (by kernel_rfl) ?_
 simp only [Tryz.f67,Af,lx53,lx63,Nat.reduceAdd,Nat.reduceSub,List.replicate]
 refine Aa ?_
 cases h1:HD e.tr 1 6 <;> rw [h1] at x1 <;> simp (maxSteps:=10000000) +contextual -implicitDefEqProofs only [Bk,Bg,Ao,St.put,Ap,Al,D8,pl,↓reduceIte,reduceCtorEq,Nat.reduceAdd,D5,Int.reduceAdd,Dq,AU,Ac,B4,w1,x1,x2,evB,h1]
 all_goals done
noncomputable def f226:=EP (fun _:En × Int=>True) (fun p=>[DP p.1,.vp [kA .i64 p.2] 0 0]) (fun p=>bA (p.1.pc == p.2))
theorem Ber (x:En) (n:Int):f226 [DP x,.vp [.sc (.int .i64 n)] 0 0]=some (bA (x.pc == n)):=
 (AG (q:=fun _:En × Int=>True) (enc:=fun p=>[DP p.1,.vp [kA .i64 p.2] 0 0]) (out:=fun p=>bA (p.1.pc == p.2)) (x,n) trivial (by rintro ⟨y,m⟩ h; simp only [lx96,Ay,AV.vp.injEq] at h; rw [IA h.1,Bt h.2]) :)
theorem Azj:Eb Tryz.prog 226 f226:=AQ <| by
 rintro ⟨x,n⟩ -
 refine Ab (Aq (.nil) (.nil)) rfl Tryz.func226 rfl (by decide) (by kernel_rfl) (by kernel_rfl) ?_
 simp only [Tryz.f226,Af,lx53,lx63,Nat.reduceAdd,Nat.reduceSub,List.replicate]
 refine Aa ?_
 exact zF0
 all_goals done
structure Ed where
 sw:Int
 cl:Bool
deriving Inhabited
def NG (x:Ed):AV:=.ag [kA .i64 x.sw,bA x.cl]
theorem Ha (x:Ed):NG x=.ag [.sc (.int .i64 x.sw),.sc (.bool x.cl)]:=rfl
theorem Aa9 {x y:Ed} (h:NG x=NG y):x=y:=by
 cases x; cases y
 simp only [NG,bA,AV.ag.injEq,lx96,Ay,AV.sc.injEq,Value.bool.injEq] at h
 rw [Bt h.1,h.2]
theorem Am5 {l m:List Ed}:l.map NG=m.map NG↔l=m:=⟨DX (fun _ _=>Aa9),fun h=>by rw [h]⟩
theorem MG (l:List Ed):CY 2 (l.map NG)=true:=Dy (f:=NG) (fun _=>rfl) l
noncomputable def f64:=EP (fun _:Ed=>True) (fun x=>[NG x]) (fun x=>bA (!HD x.sw 0 63))
theorem e64 (x:Ed):f64 [NG x]=some (bA (!HD x.sw 0 63)):=
 (AG (q:=fun _:Ed=>True) (enc:=fun x=>[NG x]) (out:=fun x=>bA (!HD x.sw 0 63)) x trivial (by intro y h; simp only [lx96,Ay] at h; rw [Aa9 h]) :)
theorem Bes:Eb Tryz.prog 64 f64:=AQ <| by
 rintro x -
 have x1:=XE x.sw 0 63
 refine Ab (Aq ((.cons Aln .nil)) (.nil)) rfl Tryz.func64 rfl (by decide) (by kernel_rfl) (by kernel_rfl) ?_
 simp only [Tryz.f64,Af,lx53,lx63,Nat.reduceAdd,Nat.reduceSub,List.replicate]
 refine Aa ?_
 exact TH (a2 x1 @Ha)
 all_goals done
noncomputable def f66:=EP (fun p:Ev × Cd=>Fit p.2) (fun p=>[Eh p.1,.vp [B5 p.2] 0 0]) (fun p=>bA (!evB p.2 p.1))
theorem e66 (c:Cd) (h:Fit c) (e:Ev):f66 [Eh e,.vp [B5 c] 0 0]=some (bA (!evB c e)):=
 (AG (q:=fun p:Ev × Cd=>Fit p.2) (enc:=fun p=>[Eh p.1,.vp [B5 p.2] 0 0]) (out:=fun p=>bA (!evB p.2 p.1)) (e,c) h (by rintro ⟨x,y⟩ h; simp only [lx96,Ay,AV.vp.injEq] at h; rw [N5 h.1,CV h.2]) :)
theorem Bet:Eb Tryz.prog 66 f66:=AQ <| by
 rintro ⟨e,c⟩ hq
 have x1:=e67 c hq e
 simp only [Ac,B4] at x1
 refine Ab (Aq ((.cons Beq .nil)) (.nil)) rfl Tryz.func66 rfl (by decide) (by kernel_rfl) (by kernel_rfl) ?_
 simp only [Tryz.f66,Af,lx53,lx63,Nat.reduceAdd,Nat.reduceSub,List.replicate]
 refine Aa ?_
 exact TH x1
 all_goals done
noncomputable def f207:=EP (fun _:Lo × Ef=>True) (fun p=>[BY p.1,.vp [Ek p.2] 0 0]) (fun p=>bA (p.1.mo == p.2.a))
theorem Azk (x:Lo) (e:Ef):f207 [BY x,.vp [Ek e] 0 0]=some (bA (x.mo == e.a)):=
 (AG (q:=fun _:Lo × Ef=>True) (enc:=fun p=>[BY p.1,.vp [Ek p.2] 0 0]) (out:=fun p=>bA (p.1.mo == p.2.a)) (x,e) trivial (by rintro ⟨y,m⟩ h; simp only [lx96,Ay,AV.vp.injEq] at h; rw [LO h.1,Ti h.2]) :)
theorem Aq8:Eb Tryz.prog 207 f207:=AQ <| by
 rintro ⟨x,e⟩ -
 refine Ab (Aq (.nil) (.nil)) rfl Tryz.func207 rfl (by decide) (by kernel_rfl) (by kernel_rfl) ?_
 simp only [Tryz.f207,Af,lx53,lx63,Nat.reduceAdd,Nat.reduceSub,List.replicate]
 refine Aa ?_
 exact zF0
 all_goals done
theorem Azl {g:Nat} {F:List AV→Option AV} (ok:Eb Tryz.prog g F) (p:Ed→Bool) (z:Bool) (l:List Ed) (he:∀ x ∈ l,F (NG x::[])=some (bA (p x))) (hlL:l.length≤1000000):
  CO Tryz.prog 108 [.vw z (l.map NG),.fn g []] (kA .i64 (Mo p l)):=by
 refine Ab (Aq ((.cons ok .nil)) (.nil)) rfl Tryz.func108 rfl (by decide) (by kernel_rfl) (by kernel_rfl) ?_
 simp only [Tryz.f108,Af,lx53,lx63,Nat.reduceAdd,Nat.reduceSub,List.replicate]
 refine qd4 ?_
 refine Aw (σ:=Nat) (fun r cnt=>⟨Cg 0 19 [(0,.vw z (l.map NG)),(1,.fn g []),(7,.sc (.int .i64 l.length)),(8,.sc (.int .i64 r))],[],cnt⟩)
  (fun r=>r≤l.length∧∀ j,j < r→p (l.getD j default)=false) (fun r=>l.length - r) 0 ⟨by omega,by omega⟩ ?_ trivial rfl ?_
 ·exact IZ
 rintro r cnt ⟨hr,hn⟩ ih
 refine Aa ?_
 by_cases hr':r < l.length
 ·have h1:decide ((r:Int) < (l.length:Int))=true:=by rw [AR]; omega
  have h2:decide (r < l.length)=true:=Aj
  have w1:IntKind.i64.wrap ((r:Int)+1)=((r+1:Nat):Int):=AK
  have hm:=CM hr'
  obtain ⟨x,hx⟩:∃ x,l.getD r default=x:=⟨_,rfl⟩
  have e1:=he x (by rw [←hx]; exact hm)
  simp only [Ha,AU] at e1
  by_cases hv:p (l.getD r default)=true
  ·have e:=JN (p:=p) hr' hv hn
   rw [hx] at hv
   refine CL ?_
   exact TH (a8 h1 h2 hx e1 hv e @Ha @MG)
  ·rw [GY] at hv
   have e:=Cl hn hv
   rw [hx] at hv
   refine CL ?_
   refine gF1 (a8 h1 h2 hx e1 hv w1 @Ha @MG) ?_
   exact Qw
 ·exact qc8
theorem Azm {g:Nat} {F:List AV→Option AV} (ok:Eb Tryz.prog g F) (p:Ed→Bool) (z:Bool) (l:List Ed) (he:∀ x ∈ l,F (NG x::[])=some (bA (p x))) (hlL:l.length≤1000000):
  CO Tryz.prog 63 [.vw z (l.map NG),.fn g []] (bA (l.any p)):=by
 obtain ⟨F1,k1,e1⟩:=Fi (Azl ok p z l he hlL)
 simp only [AB] at e1
 refine Ab (Aq ((.cons k1 .nil)) (.nil)) rfl Tryz.func63 rfl (by decide) (by kernel_rfl) (by kernel_rfl) ?_
 simp only [Tryz.f63,Af,lx53,lx63,Nat.reduceAdd,Nat.reduceSub,List.replicate]
 refine Aa ?_
 exact TH (a2 e1 @Lz)
theorem Azn {g:Nat} {F:List AV→Option AV} (ok:Eb Tryz.prog g F) (p:Ev→Bool) (es:List AV) (z:Bool) (l:List Ev) (he:∀ x ∈ l,F (Eh x::[.vp es 0 0])=some (bA (p x))) (hlL:l.length≤1000000):
  CO Tryz.prog 109 [.vw z (l.map Eh),.fn g [.vp es 0 0]] (kA .i64 (Mo p l)):=by
 refine Ab (Aq ((.cons ok .nil)) (.nil)) rfl Tryz.func109 rfl (by decide) (by kernel_rfl) (by kernel_rfl) ?_
 simp only [Tryz.f109,Af,lx53,lx63,Nat.reduceAdd,Nat.reduceSub,List.replicate]
 refine qd4 ?_
 refine Aw (σ:=Nat) (fun r cnt=>⟨Cg 0 19 [(0,.vw z (l.map Eh)),(1,.fn g [.vp es 0 0]),(7,.sc (.int .i64 l.length)),(8,.sc (.int .i64 r))],[],cnt⟩)
  (fun r=>r≤l.length∧∀ j,j < r→p (l.getD j default)=false) (fun r=>l.length - r) 0 ⟨by omega,by omega⟩ ?_ trivial rfl ?_
 ·exact IZ
 rintro r cnt ⟨hr,hn⟩ ih
 refine Aa ?_
 by_cases hr':r < l.length
 ·have h1:decide ((r:Int) < (l.length:Int))=true:=by rw [AR]; omega
  have h2:decide (r < l.length)=true:=Aj
  have w1:IntKind.i64.wrap ((r:Int)+1)=((r+1:Nat):Int):=AK
  have hm:=CM hr'
  obtain ⟨x,hx⟩:∃ x,l.getD r default=x:=⟨_,rfl⟩
  have e1:=he x (by rw [←hx]; exact hm)
  simp only [B4,AU] at e1
  exact Aom
 ·exact qc8
theorem Azo {g:Nat} {F:List AV→Option AV} (ok:Eb Tryz.prog g F) (p:Ev→Bool) (es:List AV) (z:Bool) (l:List Ev) (he:∀ x ∈ l,F (Eh x::[.vp es 0 0])=some (bA (p x))) (hlL:l.length≤1000000):
  CO Tryz.prog 65 [.vw z (l.map Eh),.fn g [.vp es 0 0]] (bA (l.any p)):=by
 obtain ⟨F1,k1,e1⟩:=Fi (Azn ok p es z l he hlL)
 simp only [AB] at e1
 refine Ab (Aq ((.cons k1 .nil)) (.nil)) rfl Tryz.func65 rfl (by decide) (by kernel_rfl) (by kernel_rfl) ?_
 simp only [Tryz.f65,Af,lx53,lx63,Nat.reduceAdd,Nat.reduceSub,List.replicate]
 refine Aa ?_
 exact TH (a2 e1 @Lz)
theorem Azp {g:Nat} {F:List AV→Option AV} (ok:Eb Tryz.prog g F) (p:Lo→Bool) (es:List AV) (z:Bool) (l:List Lo) (he:∀ x ∈ l,F (BY x::[.vp es 0 0])=some (bA (p x))) (hlL:l.length≤1000000):
  CO Tryz.prog 232 [.vw z (l.map BY),.fn g [.vp es 0 0]] (kA .i64 (Mo p l)):=by
 refine Ab (Aq ((.cons ok .nil)) (.nil)) rfl Tryz.func232 rfl (by decide) (by kernel_rfl) (by kernel_rfl) ?_
 simp only [Tryz.f232,Af,lx53,lx63,Nat.reduceAdd,Nat.reduceSub,List.replicate]
 refine qd4 ?_
 refine Aw (σ:=Nat) (fun r cnt=>⟨Cg 0 19 [(0,.vw z (l.map BY)),(1,.fn g [.vp es 0 0]),(7,.sc (.int .i64 l.length)),(8,.sc (.int .i64 r))],[],cnt⟩)
  (fun r=>r≤l.length∧∀ j,j < r→p (l.getD j default)=false) (fun r=>l.length - r) 0 ⟨by omega,by omega⟩ ?_ trivial rfl ?_
 ·exact IZ
 rintro r cnt ⟨hr,hn⟩ ih
 refine Aa ?_
 by_cases hr':r < l.length
 ·have h1:decide ((r:Int) < (l.length:Int))=true:=by rw [AR]; omega
  have h2:decide (r < l.length)=true:=Aj
  have w1:IntKind.i64.wrap ((r:Int)+1)=((r+1:Nat):Int):=AK
  have hm:=CM hr'
  obtain ⟨x,hx⟩:∃ x,l.getD r default=x:=⟨_,rfl⟩
  have e1:=he x (by rw [←hx]; exact hm)
  simp only [Bl,AU] at e1
  exact Aom
 ·have hrl:r=l.length:=by omega
  subst hrl
  have h1:decide ((l.length:Int) < (l.length:Int))=false:=Br
  have e:=SD (p:=p) hn
  refine CL ?_
  simp (maxSteps:=10000000) +contextual -implicitDefEqProofs only [Bk,Bg,St.put,↓reduceIte,h1,e]end Go.Proofs.YtdjpkhjaibdogaaGreat
namespace Go.Proofs.YtdjpkhjaibdogaaGreat
open Go Go.SX
attribute [local congr] ite_congr
theorem Am6 (x y:Int):decide (Gl x y < 0)=decide (x < y):=by
 unfold Gl
 split
 ·rename_i h; simp [h]
 ·rename_i h
  split <;> simp [h]
def XK (r:Nat→Int) (i:Nat):AV:=.sc (.int .i64 (r i))
theorem XL (r:Nat→Int) (i:Nat):XK r i=.sc (.int .i64 (r i)):=rfl
theorem Asn (r:Nat→Int) (t:List Nat) (j x:Nat):(t.map (XK r)).set j (.sc (.int .i64 (r x)))=(t.set j x).map (XK r):=by
 rw [List.map_set]; rfl
structure Ctx where
 r:Nat→Int
 n:Nat
 K:Nat→Int
 v:Nat
 v0:Nat
 ty0:Nat
 es0:Nat
 els0:List AV
 fc:List AV→Option AV
structure CtxOk (C:Ctx):Prop where
 hc:Eb Tryz.prog 111 C.fc
 he:∀ x y,x < C.n→y < C.n→C.fc [XK C.r x,XK C.r y,.vp C.els0 0 0]=some (.sc (.int .i64 (Gl (C.K y) (C.K x))))
 inj:∀ x y,x < C.n→y < C.n→XK C.r x=XK C.r y→x=y
 n:C.n≤1000000
def blD (C:Ctx) (t:List Nat):Blk:=⟨true,C.v,3,1,t.map (XK C.r),false⟩
def blC (C:Ctx):Blk:=⟨true,C.v0,C.ty0,C.es0,C.els0,false⟩
def cmV (C:Ctx):AV:=.fn 111 [.pt 0 C.v0 0 0]
def daV (C:Ctx):AV:=.sl 1 C.v 0 C.n
def TagQ (C:Ctx) (t:List Nat):Prop:=t.length=C.n∧∀ i,i < C.n→t.getD i default < C.n
theorem Am9 {C:Ctx} (h:CtxOk C) {t u:List Nat} (ht:TagQ C t) (hu:TagQ C u) (e:blD C t=blD C u):t=u:=by
 simp only [blD,Blk.mk.injEq,D3,Ay] at e
 refine List.ext_getElem (by rw [ht.1,hu.1]) fun i h1 h2=>?_
 have e1:(t.map (XK C.r))[i]?=(u.map (XK C.r))[i]?:=by rw [e]
 rw [lx23,lx23,lx51 h1,lx51 h2] at e1
 simp only [lx34,lx16] at e1
 have g1:=ht.2 i (by rw [←ht.1]; exact h1)
 have g2:=hu.2 i (by rw [←hu.1]; exact h2)
 rw [lx80,lx51 h1,lx10] at g1
 rw [lx80,lx51 h2,lx10] at g2
 exact h.inj _ _ g1 g2 e1
theorem TagQ.seg {C:Ctx} {t u:List Nat} {a b:Nat} (h:TagQ C t) (hs:Seg t u a b) (hb:b≤C.n):TagQ C u:=by
 refine ⟨hs.len.trans h.1,fun i hi=>?_⟩
 by_cases c:a≤i∧i < b
 ·obtain ⟨j,_,j2,e⟩:=hs.frm i c.1 c.2
  rw [e]; exact h.2 j (by omega)
 ·rw [hs.out i (by omega)]; exact h.2 i hi
theorem TagQ.sw {C:Ctx} {t:List Nat} {i j:Nat} (h:TagQ C t) (hi:i < C.n) (hj:j < C.n):TagQ C (TJ t i j):=
 h.seg (ZV (a:=0) (b:=C.n) (BX _) hi (BX _) hj (by rw [h.1]; exact Ax _)) (Ax _)
theorem Tm {a b:Nat} (h:kA .i64 (a:Int)=kA .i64 (b:Int)):a=b:=by
 have:=Bt h; omega
noncomputable def Azq (C:Ctx):=mkH (fun p:List Nat × Nat × Nat × Nat=>TagQ C p.1∧p.2.1≤p.2.2.1∧p.2.2.1≤C.n) (fun p=>([daV C,kA .i64 p.2.1,kA .i64 p.2.2.1,cmV C],[blC C,blD C p.1],p.2.2.2))
 (fun p=>(.tu [],[blC C,blD C (KL C.K p.1 p.2.1 p.2.2.1)],p.2.2.2))
theorem Azr {C:Ctx} (h:CtxOk C) (t:List Nat) (a b c:Nat) (ht:TagQ C t) (hab:a≤b) (hb:b≤C.n):
  Azq C [daV C,kA .i64 a,kA .i64 b,cmV C] [blC C,blD C t] c=some (.tu [],[blC C,blD C (KL C.K t a b)],c):=
 Ir (q:=fun p:List Nat × Nat × Nat × Nat=>TagQ C p.1∧p.2.1≤p.2.2.1∧p.2.2.1≤C.n) (enc:=fun p=>([daV C,kA .i64 p.2.1,kA .i64 p.2.2.1,cmV C],[blC C,blD C p.1],p.2.2.2))
  (out:=fun p=>(.tu [],[blC C,blD C (KL C.K p.1 p.2.1 p.2.2.1)],p.2.2.2)) (t,a,b,c) ⟨ht,hab,hb⟩ (by
  rintro ⟨t',a',b',c'⟩ ⟨ht',_⟩ e
  simp only [lx40,lx96,Ay,D3] at e
  obtain ⟨⟨e1,e2⟩,e3,rfl⟩:=e
  rw [Tm e1,Tm e2,Am9 h ht' ht e3])
theorem RZ {K:Nat→Int} {t:List Nat} {a j:Nat} (h:¬ (a < j∧K (t.getD (j - 1) default) < K (t.getD j default))):LK K a j t=t:=by
 cases j with
 | zero=>rfl
 | succ j=>rw [LK,if_neg (by simpa using h)]
theorem Aso {C:Ctx} (h:CtxOk C):Ql Tryz.prog 201 (Azq C):=It <| by
 rintro ⟨t,a,b,cnt⟩ ⟨ht,hab,hb⟩
 obtain ⟨hc,he,hinj,hn⟩:=h
 obtain ⟨r,n,K,v,v0,ty0,es0,els0,fc⟩:=C
 simp only at hc he hn hb hab
 have htl:=ht.1
 simp only at htl
 refine Ag (Am (lit:=false) (pm:=fun _=>none) (.cons hc .nil) .nil .nil .nil) rfl Tryz.func201 rfl (by decide) (by kernel_rfl) ?_
 simp only [Tryz.f201,Af,lx53,lx63,Nat.reduceAdd,Nat.reduceSub,List.replicate]
 simp only [blC,blD,daV,cmV]
 obtain ⟨RES,hRES⟩:∃ u,KL K t a b=u:=⟨_,rfl⟩
 rw [hRES]
 have w0:IntKind.i64.wrap ((a:Int)+1)=((a+1:Nat):Int):=AK
 refine Aa ?_
 simp (maxSteps:=10000000) +contextual -implicitDefEqProofs only [Bk,Bg,St.put,Dq,AB,w0]
 refine Aw (σ:=Nat × List Nat) (fun y _=>⟨Cg 0 53 [(0,.sl 1 v 0 n),(1,.sc (.int .i64 a)),(2,.sc (.int .i64 b)),(3,.fn 111 [.pt 0 v0 0 0]),(8,.sc (.int .i64 y.1))],[⟨true,v0,ty0,es0,els0,false⟩,⟨true,v,3,1,y.2.map (XK r),false⟩],cnt⟩)
  (fun y=>a+1≤y.1∧(y.1≤b∨y.1=a+1)∧TagQ ⟨r,n,K,v,v0,ty0,es0,els0,fc⟩ y.2∧Qm K a t (y.1 - a - 1)=y.2) (fun y=>b - y.1) (a+1,t) ⟨by simp only; omega,.inr rfl,ht,by simp only; rw [show a+1 - a - 1=0 by omega]; rfl⟩ ?_ ?_ rfl ?_
 ·exact IZ
 ·exact Yj
 rintro ⟨i,u⟩ cn ⟨hi1,hi2,hu,hins⟩ ih
 simp only at hi1 hi2 hu hins
 have hul:=hu.1
 have hut:=hu.2
 simp only at hul hut
 by_cases hib:i < b
 rotate_left
 ·have q1:decide ((i:Int) < (b:Int))=false:=by rw [BJ]; omega
  have hfin:RES=u:=by
   rw [←hRES,←hins,KL]
   congr 1; omega
  rw [hfin]
  refine Aa ?_
  refine CL ?_
  simp (maxSteps:=10000000) +contextual -implicitDefEqProofs only [Bk,Bg,St.put,↓reduceIte,Dq,q1]
  all_goals first | exact .refl _ | rfl | trivial | omega
 have q1:decide ((i:Int) < (b:Int))=true:=Aj
 obtain ⟨m,rfl⟩:∃ m,i=a+m+1:=⟨i - a - 1,by omega⟩
 rw [show a+m+1 - a - 1=m by omega] at hins
 have w1:IntKind.i64.wrap (((a+m+1:Nat):Int)+1)=((a+m+1+1:Nat):Int):=AK
 obtain ⟨NX,hNX⟩:∃ x,LK K a (a+m+1) u=x:=⟨_,rfl⟩
 have hnx:Qm K a t (m+1)=NX:=by rw [Qm,hins,hNX]
 refine Aa ?_
 refine CL ?_
 simp (maxSteps:=10000000) +contextual -implicitDefEqProofs only [Bg,St.put,↓reduceIte,Dq,q1]
 refine Aw (σ:=Nat × List Nat) (fun y _=>⟨Cg 0 53 [(0,.sl 1 v 0 n),(1,.sc (.int .i64 a)),(2,.sc (.int .i64 b)),(3,.fn 111 [.pt 0 v0 0 0]),(8,.sc (.int .i64 (a+m+1:Nat))),(9,.sc (.int .i64 y.1))],[⟨true,v0,ty0,es0,els0,false⟩,⟨true,v,3,1,y.2.map (XK r),false⟩],cnt⟩)
  (fun y=>y.1≤a+m+1∧a≤y.1∧TagQ ⟨r,n,K,v,v0,ty0,es0,els0,fc⟩ y.2∧LK K a y.1 y.2=NX) (fun y=>y.1) (a+m+1,u) ⟨Ax _,by simp only; omega,hu,hNX⟩ ?_ ?_ rfl ?_
 ·exact IZ
 ·exact Yj
 rintro ⟨j,s⟩ cm ⟨hj1,hj2,hs,hns⟩ jh
 simp only at hj1 hj2 hs hns
 have hsl:=hs.1
 have hst:=hs.2
 simp only at hsl hst
 have hend:LK K a j s=s→NX=s:=fun h=>by rw [←hns,h]
 by_cases hja:a < j
 rotate_left
 ·have q2:decide ((a:Int) < (j:Int))=false:=by rw [BJ]; omega
  have hfin:=hend (RZ (fun h=>hja h.1))
  refine Aa ?_
  refine CL ?_
  refine Yr (a2 q2 w1) ?_
  repeat' (first | exact Ae (by kernel_rfl) | refine ⟨Ae (by kernel_rfl),?_⟩ | refine And.intro ?_ ?_ | fail)
  refine AD ?_ ?_ (Ax _) (ih (a+m+1+1,s) 0 ⟨by simp only; omega,by simp only; omega,hs,by simp only; rw [show a+m+1+1 - a - 1=m+1 by omega,hnx,hfin]⟩ (by simp only; omega))
  all_goals simp (maxSteps:=10000000) only [Bk,Bg,↓reduceIte,reduceCtorEq,Nat.reduceAdd,Nat.reduceEqDiff,Cg,EX]
 have q2:decide ((a:Int) < (j:Int))=true:=Aj
 obtain ⟨k,rfl⟩:∃ k,j=k+1:=⟨j - 1,by omega⟩
 have w2:IntKind.i64.wrap (((k+1:Nat):Int) - 1)=(k:Int):=AK
 have q3:decide (k+1 < s.length)=true:=Aj
 have q4:decide (k < s.length)=true:=Aj
 have q5:decide (((k+1:Nat):Int) < (n:Int))=true:=Aj
 have q6:decide ((k:Int) < (n:Int))=true:=Aj
 have hcm:=he (s.getD (k+1) default) (s.getD k default) (hst _ (by omega)) (hst _ (by omega))
 simp only [XL] at hcm
 have q7:=Am6 (K (s.getD k default)) (K (s.getD (k+1) default))
 refine Aa ?_
 by_cases hlt:K (s.getD k default) < K (s.getD (k+1) default)
 ·rw [I6 hlt] at q7
  have s1:=fun t j x=>Asn r t j x
  have hsw:(s.set (k+1) (s.getD k default)).set k (s.getD (k+1) default)=TJ s (k+1) k:=rfl
  have hnx2:LK K a k (TJ s (k+1) k)=NX:=by rw [←hns,LK,if_pos ⟨hja,hlt⟩]
  refine CL ?_
  refine Yr (Hd q2 q3 q4 q5 q6 q7 w2 hcm s1 hsw @AA @XL) ?_
  repeat' (first | exact Ae (by kernel_rfl) | refine ⟨Ae (by kernel_rfl),?_⟩ | refine And.intro ?_ ?_ | fail)
  refine AD ?_ ?_ (Ax _) (jh (k,TJ s (k+1) k) 0 ⟨by simp only; omega,by simp only; omega,hs.sw (by simp only; omega) (by simp only; omega),hnx2⟩ (by simp only; omega))
  all_goals exact Adl
 ·rw [GX hlt] at q7
  have hfin:=hend (RZ (by simp only [Nat.add_sub_cancel]; exact fun h=>hlt h.2))
  refine CL ?_
  refine Yr (HH q2 q3 q4 q5 q6 q7 w1 w2 hcm @AA @XL) ?_
  repeat' (first | exact Ae (by kernel_rfl) | refine ⟨Ae (by kernel_rfl),?_⟩ | refine And.intro ?_ ?_ | fail)
  refine AD ?_ ?_ (Ax _) (ih (a+m+1+1,s) 0 ⟨by simp only; omega,by simp only; omega,hs,by simp only; rw [show a+m+1+1 - a - 1=m+1 by omega,hnx,hfin]⟩ (by simp only; omega))
  all_goals exact Adl
end Go.Proofs.YtdjpkhjaibdogaaGreat
