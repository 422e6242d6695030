/-
  Lemmas towards ModesSteps (joined texts: FC, DS, DT).
  Conditions: none.
-/
import Derived.Test.YtdjpkhjaibdogaaGreatL01
import Derived.Test.YtdjpkhjaibdogaaGreatL02
import Derived.Test.YtdjpkhjaibdogaaGreatL28
import Derived.Test.YtdjpkhjaibdogaaGreatL18
import Derived.Test.YtdjpkhjaibdogaaGreatL15
set_option linter.unusedSimpArgs false
set_option linter.unusedVariables false
set_option maxRecDepth 100000
set_option maxHeartbeats 8000000
namespace Go.Proofs.YtdjpkhjaibdogaaGreat
open Go Go.SX
attribute [local congr] ite_congr
noncomputable def f205:=Ew (fun _:Int × Int × Int=>True) (fun p=>[kA .i64 p.1,kA .i64 p.2.1,kA .i64 p.2.2]) (fun p=>kA .i64 (min (max p.1 p.2.1) p.2.2))
theorem Bit (n lo hi:Int):f205 [.sc (.int .i64 n),.sc (.int .i64 lo),.sc (.int .i64 hi)]=some (.sc (.int .i64 (min (max n lo) hi))):=
 (AK (q:=fun _:Int × Int × Int=>True) (enc:=fun p=>[kA .i64 p.1,kA .i64 p.2.1,kA .i64 p.2.2]) (out:=fun p=>kA .i64 (min (max p.1 p.2.1) p.2.2)) (n,lo,hi) trivial (by rintro ⟨x,y,z⟩ h; simp only [lx96,Ay] at h; rw [Bx h.1,Bx h.2.1,Bx h.2.2]) :)
theorem Atx:DC Tryz.prog 205 f205:=AF <| by
 rintro ⟨n,lo,hi⟩ -
 refine Ac (Aq (.nil) (.nil)) rfl Tryz.func205 rfl (by decide) (by kernel_rfl) (by kernel_rfl) ?_
 simp only [Tryz.f205,Af,lx53,lx63,Nat.reduceAdd,Nat.reduceSub,List.replicate]
 refine Aa ?_
 simp (maxSteps:=10000000) +contextual -implicitDefEqProofs only [AY,AW,St.put,CK,AB]
 all_goals done
def Ii (x:Cx):Bool:=decide (0≤x.ti) && decide (x.ti≤1099511627776) && decide (0≤x.pl') && decide (x.pl'≤2147483647) && decide (0≤x.ba) && decide (x.ba≤2147483647)
noncomputable def f60:=Ew (fun _:Cx=>True) (fun x=>[KF x]) (fun x=>bA (Ii x))
theorem e60 (x:Cx):f60 [KF x]=some (.sc (.bool (Ii x))):=
 (AK (q:=fun _:Cx=>True) (enc:=fun x=>[KF x]) (out:=fun x=>bA (Ii x)) x trivial (by intro y h; simp only [lx96,Ay] at h; rw [UG h]) :)
theorem Be0:DC Tryz.prog 60 f60:=AF <| by
 rintro x -
 refine Ac (Aq (.nil) (.nil)) rfl Tryz.func60 rfl (by decide) (by kernel_rfl) (by kernel_rfl) ?_
 simp only [Tryz.f60,Af,lx53,lx63,Nat.reduceAdd,Nat.reduceSub,List.replicate]
 refine Aa ?_
 simp (maxSteps:=10000000) +contextual -implicitDefEqProofs only [AY,AW,Au,St.put,↓reduceIte,reduceCtorEq,Nat.reduceAdd,Dc,Int.reduceAdd,CK,AZ,Cl,Ii]
 all_goals done
def Ym (c:Cd) (e:Ev):Bool:=EU e.tr 1 6 && EU e.mo (-1) (c.pri.length - 1)
def cvQ (p:Cd × Ev):Prop:=Fit p.1
noncomputable def f67:=Ew cvQ (fun p=>[BP p.1,Cf p.2]) (fun p=>bA (Ym p.1 p.2))
theorem e67 (c:Cd) (h:Fit c) (e:Ev):f67 [BP c,Cf e]=some (.sc (.bool (Ym c e))):=
 (AK (q:=cvQ) (enc:=fun p=>[BP p.1,Cf p.2]) (out:=fun p=>bA (Ym p.1 p.2)) (c,e) h (by rintro ⟨x,y⟩ h; simp only [lx96,Ay] at h; rw [CT h.1,Ni h.2]) :)
theorem Biu:DC Tryz.prog 67 f67:=AF <| by
 rintro ⟨c,e⟩ hq
 have hl:=hq.pri
 simp only at hl ⊢
 have w1:IntKind.i64.wrap ((c.pri.length:Int) - 1)=(c.pri.length:Int) - 1:=Bd (by omega) (by omega)
 have x1:=OV e.tr 1 6
 have x2:=OV e.mo (-1) (c.pri.length - 1)
 refine Ac (Aq ((.cons Ao4 .nil)) (.nil)) rfl Tryz.func67 rfl (by decide) (by kernel_rfl) (by kernel_rfl) ?_
 simp only [Tryz.f67,Af,lx53,lx63,Nat.reduceAdd,Nat.reduceSub,List.replicate]
 refine Aa ?_
 cases h1:EU e.tr 1 6 <;> rw [h1] at x1 <;> simp (maxSteps:=10000000) +contextual -implicitDefEqProofs only [AY,AW,Au,St.put,Ap,Am,DO,pl,↓reduceIte,reduceCtorEq,Nat.reduceAdd,Dc,Int.reduceAdd,CK,AZ,Ab,Be,w1,x1,x2,Ym,h1]
 all_goals done
theorem Biv:DC Tryz.prog 69 f67:=AF <| by
 rintro ⟨c,e⟩ hq
 have hl:=hq.pri
 simp only at hl ⊢
 have hb:Ym c e=(decide (1≤e.tr) && decide (e.tr≤6) && decide (-1≤e.mo) && decide (e.mo < (c.pri.length:Int))):=by
  have:decide (e.mo≤(c.pri.length:Int) - 1)=decide (e.mo < (c.pri.length:Int)):=R3
  rw [Ym,EU,EU,this,lx1,lx1,lx1]
 rw [hb]
 refine Ac (Aq (.nil) (.nil)) rfl Tryz.func69 rfl (by decide) (by kernel_rfl) (by kernel_rfl) ?_
 simp only [Tryz.f69,Af,lx53,lx63,Nat.reduceAdd,Nat.reduceSub,List.replicate]
 refine Aa ?_
 exact zF0
 all_goals done
noncomputable def f226:=Ew (fun _:En × Int=>True) (fun p=>[D8 p.1,.vp [kA .i64 p.2] 0 0]) (fun p=>bA (p.1.pc == p.2))
theorem Biw (x:En) (n:Int):f226 [D8 x,.vp [.sc (.int .i64 n)] 0 0]=some (bA (x.pc == n)):=
 (AK (q:=fun _:En × Int=>True) (enc:=fun p=>[D8 p.1,.vp [kA .i64 p.2] 0 0]) (out:=fun p=>bA (p.1.pc == p.2)) (x,n) trivial (by rintro ⟨y,m⟩ h; simp only [lx96,Ay,AV.vp.injEq] at h; rw [JJ h.1,Bx h.2]) :)
theorem Be1:DC Tryz.prog 226 f226:=AF <| by
 rintro ⟨x,n⟩ -
 refine Ac (Aq (.nil) (.nil)) rfl Tryz.func226 rfl (by decide) (by kernel_rfl) (by kernel_rfl) ?_
 simp only [Tryz.f226,Af,lx53,lx63,Nat.reduceAdd,Nat.reduceSub,List.replicate]
 refine Aa ?_
 exact zF0
 all_goals done
structure Ed where
 sw:Int
 cl:Bool
deriving Inhabited
def K8 (x:Ed):AV:=.ag [kA .i64 x.sw,bA x.cl]
theorem Gz (x:Ed):K8 x=.ag [.sc (.int .i64 x.sw),.sc (.bool x.cl)]:=rfl
theorem Ad5 {x y:Ed} (h:K8 x=K8 y):x=y:=by
 cases x; cases y
 simp only [K8,bA,AV.ag.injEq,lx96,Ay,AV.sc.injEq,Value.bool.injEq] at h
 rw [Bx h.1,h.2]
theorem Ad6 {l m:List Ed}:l.map K8=m.map K8↔l=m:=⟨DY (fun _ _=>Ad5),fun h=>by rw [h]⟩
theorem HQ (l:List Ed):C9 2 (l.map K8)=true:=DH (f:=K8) (fun _=>rfl) l
noncomputable def f64:=Ew (fun _:Ed=>True) (fun x=>[K8 x]) (fun x=>bA (!EU x.sw 0 63))
theorem e64 (x:Ed):f64 [K8 x]=some (bA (!EU x.sw 0 63)):=
 (AK (q:=fun _:Ed=>True) (enc:=fun x=>[K8 x]) (out:=fun x=>bA (!EU x.sw 0 63)) x trivial (by intro y h; simp only [lx96,Ay] at h; rw [Ad5 h]) :)
theorem Bix:DC Tryz.prog 64 f64:=AF <| by
 rintro x -
 have x1:=OV x.sw 0 63
 refine Ac (Aq ((.cons Ao4 .nil)) (.nil)) rfl Tryz.func64 rfl (by decide) (by kernel_rfl) (by kernel_rfl) ?_
 simp only [Tryz.f64,Af,lx53,lx63,Nat.reduceAdd,Nat.reduceSub,List.replicate]
 refine Aa ?_
 exact RF (a2 x1 @Gz)
 all_goals done
noncomputable def f66:=Ew (fun p:Ev × Cd=>Fit p.2) (fun p=>[Cf p.1,.vp [BP p.2] 0 0]) (fun p=>bA (!Ym p.2 p.1))
theorem e66 (c:Cd) (h:Fit c) (e:Ev):f66 [Cf e,.vp [BP c] 0 0]=some (bA (!Ym c e)):=
 (AK (q:=fun p:Ev × Cd=>Fit p.2) (enc:=fun p=>[Cf p.1,.vp [BP p.2] 0 0]) (out:=fun p=>bA (!Ym p.2 p.1)) (e,c) h (by rintro ⟨x,y⟩ h; simp only [lx96,Ay,AV.vp.injEq] at h; rw [Ni h.1,CT h.2]) :)
theorem Biy:DC Tryz.prog 66 f66:=AF <| by
 rintro ⟨e,c⟩ hq
 have x1:=e67 c hq e
 simp only [Ab,Be] at x1
 refine Ac (Aq ((.cons Biu .nil)) (.nil)) rfl Tryz.func66 rfl (by decide) (by kernel_rfl) (by kernel_rfl) ?_
 simp only [Tryz.f66,Af,lx53,lx63,Nat.reduceAdd,Nat.reduceSub,List.replicate]
 refine Aa ?_
 exact RF x1
 all_goals done
noncomputable def f207:=Ew (fun _:Lo × Ef=>True) (fun p=>[Bp p.1,.vp [Dd p.2] 0 0]) (fun p=>bA (p.1.mo == p.2.a))
theorem Be2 (x:Lo) (e:Ef):f207 [Bp x,.vp [Dd e] 0 0]=some (bA (x.mo == e.a)):=
 (AK (q:=fun _:Lo × Ef=>True) (enc:=fun p=>[Bp p.1,.vp [Dd p.2] 0 0]) (out:=fun p=>bA (p.1.mo == p.2.a)) (x,e) trivial (by rintro ⟨y,m⟩ h; simp only [lx96,Ay,AV.vp.injEq] at h; rw [K5 h.1,Nj h.2]) :)
theorem Aty:DC Tryz.prog 207 f207:=AF <| by
 rintro ⟨x,e⟩ -
 refine Ac (Aq (.nil) (.nil)) rfl Tryz.func207 rfl (by decide) (by kernel_rfl) (by kernel_rfl) ?_
 simp only [Tryz.f207,Af,lx53,lx63,Nat.reduceAdd,Nat.reduceSub,List.replicate]
 refine Aa ?_
 exact zF0
 all_goals done
theorem Be3 {g:Nat} {F:List AV→Option AV} (ok:DC Tryz.prog g F) (p:Ed→Bool) (z:Bool) (l:List Ed) (he:∀ x ∈ l,F (K8 x::[])=some (bA (p x))) (hlL:l.length≤1000000):
  C0 Tryz.prog 108 [.vw z (l.map K8),.fn g []] (kA .i64 (NN p l)):=by
 refine Ac (Aq ((.cons ok .nil)) (.nil)) rfl Tryz.func108 rfl (by decide) (by kernel_rfl) (by kernel_rfl) ?_
 simp only [Tryz.f108,Af,lx53,lx63,Nat.reduceAdd,Nat.reduceSub,List.replicate]
 refine qd4 ?_
 refine Al (σ:=Nat) (fun r cnt=>⟨Bn 0 19 [(0,.vw z (l.map K8)),(1,.fn g []),(7,.sc (.int .i64 l.length)),(8,.sc (.int .i64 r))],[],cnt⟩)
  (fun r=>r≤l.length∧∀ j,j < r→p (l.getD j default)=false) (fun r=>l.length - r) 0 ⟨by omega,by omega⟩ ?_ trivial rfl ?_
 ·exact Gn
 rintro r cnt ⟨hr,hn⟩ ih
 refine Aa ?_
 by_cases hr':r < l.length
 ·have h1:decide ((r:Int) < (l.length:Int))=true:=by rw [AN]; omega
  have h2:decide (r < l.length)=true:=Ae
  have w1:IntKind.i64.wrap ((r:Int)+1)=((r+1:Nat):Int):=AA
  have hm:=B7 hr'
  obtain ⟨x,hx⟩:∃ x,l.getD r default=x:=⟨_,rfl⟩
  have e1:=he x (by rw [←hx]; exact hm)
  simp only [Gz,AZ] at e1
  by_cases hv:p (l.getD r default)=true
  ·have e:=KT (p:=p) hr' hv hn
   rw [hx] at hv
   refine Bq ?_
   exact RF (a8 h1 h2 hx e1 hv e @Gz @HQ)
  ·rw [Hq] at hv
   have e:=Bl hn hv
   rw [hx] at hv
   refine Bq ?_
   refine Hr (a8 h1 h2 hx e1 hv w1 @Gz @HQ) ?_
   exact RX
 ·exact qc8
theorem Be4 {g:Nat} {F:List AV→Option AV} (ok:DC Tryz.prog g F) (p:Ed→Bool) (z:Bool) (l:List Ed) (he:∀ x ∈ l,F (K8 x::[])=some (bA (p x))) (hlL:l.length≤1000000):
  C0 Tryz.prog 63 [.vw z (l.map K8),.fn g []] (bA (l.any p)):=by
 obtain ⟨F1,k1,e1⟩:=F9 (Be3 ok p z l he hlL)
 simp only [AB] at e1
 refine Ac (Aq ((.cons k1 .nil)) (.nil)) rfl Tryz.func63 rfl (by decide) (by kernel_rfl) (by kernel_rfl) ?_
 simp only [Tryz.f63,Af,lx53,lx63,Nat.reduceAdd,Nat.reduceSub,List.replicate]
 refine Aa ?_
 exact RF (a2 e1 @M5)
theorem Be5 {g:Nat} {F:List AV→Option AV} (ok:DC Tryz.prog g F) (p:Ev→Bool) (es:List AV) (z:Bool) (l:List Ev) (he:∀ x ∈ l,F (Cf x::[.vp es 0 0])=some (bA (p x))) (hlL:l.length≤1000000):
  C0 Tryz.prog 109 [.vw z (l.map Cf),.fn g [.vp es 0 0]] (kA .i64 (NN p l)):=by
 refine Ac (Aq ((.cons ok .nil)) (.nil)) rfl Tryz.func109 rfl (by decide) (by kernel_rfl) (by kernel_rfl) ?_
 simp only [Tryz.f109,Af,lx53,lx63,Nat.reduceAdd,Nat.reduceSub,List.replicate]
 refine qd4 ?_
 refine Al (σ:=Nat) (fun r cnt=>⟨Bn 0 19 [(0,.vw z (l.map Cf)),(1,.fn g [.vp es 0 0]),(7,.sc (.int .i64 l.length)),(8,.sc (.int .i64 r))],[],cnt⟩)
  (fun r=>r≤l.length∧∀ j,j < r→p (l.getD j default)=false) (fun r=>l.length - r) 0 ⟨by omega,by omega⟩ ?_ trivial rfl ?_
 ·exact Gn
 rintro r cnt ⟨hr,hn⟩ ih
 refine Aa ?_
 by_cases hr':r < l.length
 ·have h1:decide ((r:Int) < (l.length:Int))=true:=by rw [AN]; omega
  have h2:decide (r < l.length)=true:=Ae
  have w1:IntKind.i64.wrap ((r:Int)+1)=((r+1:Nat):Int):=AA
  have hm:=B7 hr'
  obtain ⟨x,hx⟩:∃ x,l.getD r default=x:=⟨_,rfl⟩
  have e1:=he x (by rw [←hx]; exact hm)
  simp only [Be,AZ] at e1
  exact As5
 ·exact qc8
theorem Be6 {g:Nat} {F:List AV→Option AV} (ok:DC Tryz.prog g F) (p:Ev→Bool) (es:List AV) (z:Bool) (l:List Ev) (he:∀ x ∈ l,F (Cf x::[.vp es 0 0])=some (bA (p x))) (hlL:l.length≤1000000):
  C0 Tryz.prog 65 [.vw z (l.map Cf),.fn g [.vp es 0 0]] (bA (l.any p)):=by
 obtain ⟨F1,k1,e1⟩:=F9 (Be5 ok p es z l he hlL)
 simp only [AB] at e1
 refine Ac (Aq ((.cons k1 .nil)) (.nil)) rfl Tryz.func65 rfl (by decide) (by kernel_rfl) (by kernel_rfl) ?_
 simp only [Tryz.f65,Af,lx53,lx63,Nat.reduceAdd,Nat.reduceSub,List.replicate]
 refine Aa ?_
 exact RF (a2 e1 @M5)
theorem Be7 {g:Nat} {F:List AV→Option AV} (ok:DC Tryz.prog g F) (p:Lo→Bool) (es:List AV) (z:Bool) (l:List Lo) (he:∀ x ∈ l,F (Bp x::[.vp es 0 0])=some (bA (p x))) (hlL:l.length≤1000000):
  C0 Tryz.prog 232 [.vw z (l.map Bp),.fn g [.vp es 0 0]] (kA .i64 (NN p l)):=by
 refine Ac (Aq ((.cons ok .nil)) (.nil)) rfl Tryz.func232 rfl (by decide) (by kernel_rfl) (by kernel_rfl) ?_
 simp only [Tryz.f232,Af,lx53,lx63,Nat.reduceAdd,Nat.reduceSub,List.replicate]
 refine qd4 ?_
 refine Al (σ:=Nat) (fun r cnt=>⟨Bn 0 19 [(0,.vw z (l.map Bp)),(1,.fn g [.vp es 0 0]),(7,.sc (.int .i64 l.length)),(8,.sc (.int .i64 r))],[],cnt⟩)
  (fun r=>r≤l.length∧∀ j,j < r→p (l.getD j default)=false) (fun r=>l.length - r) 0 ⟨by omega,by omega⟩ ?_ trivial rfl ?_
 ·exact Gn
 rintro r cnt ⟨hr,hn⟩ ih
 refine Aa ?_
 by_cases hr':r < l.length
 ·have h1:decide ((r:Int) < (l.length:Int))=true:=by rw [AN]; omega
  have h2:decide (r < l.length)=true:=Ae
  have w1:IntKind.i64.wrap ((r:Int)+1)=((r+1:Nat):Int):=AA
  have hm:=B7 hr'
  obtain ⟨x,hx⟩:∃ x,l.getD r default=x:=⟨_,rfl⟩
  have e1:=he x (by rw [←hx]; exact hm)
  simp only [Bg,AZ] at e1
  exact As5
 ·have hrl:r=l.length:=by omega
  subst hrl
  have h1:decide ((l.length:Int) < (l.length:Int))=false:=Bc
  have e:=Uc (p:=p) hn
  refine Bq ?_
  simp (maxSteps:=10000000) +contextual -implicitDefEqProofs only [AY,AW,St.put,↓reduceIte,h1,e]end Go.Proofs.YtdjpkhjaibdogaaGreat
namespace Go.Proofs.YtdjpkhjaibdogaaGreat
open Go Go.SX
attribute [local congr] ite_congr
theorem Aop (x y:Int):decide (G9 x y < 0)=decide (x < y):=by
 unfold G9
 split
 ·rename_i h; simp [h]
 ·rename_i h
  split <;> simp [h]
def Y8 (r:Nat→Int) (i:Nat):AV:=.sc (.int .i64 (r i))
theorem Y9 (r:Nat→Int) (i:Nat):Y8 r i=.sc (.int .i64 (r i)):=rfl
theorem Awp (r:Nat→Int) (t:List Nat) (j x:Nat):(t.map (Y8 r)).set j (.sc (.int .i64 (r x)))=(t.set j x).map (Y8 r):=by
 rw [List.map_set]; rfl
structure Ctx where
 r:Nat→Int
 n:Nat
 K:Nat→Int
 v:Nat
 v0:Nat
 ty0:Nat
 es0:Nat
 els0:List AV
 fc:List AV→Option AV
structure CtxOk (C:Ctx):Prop where
 hc:DC Tryz.prog 111 C.fc
 he:∀ x y,x < C.n→y < C.n→C.fc [Y8 C.r x,Y8 C.r y,.vp C.els0 0 0]=some (.sc (.int .i64 (G9 (C.K y) (C.K x))))
 inj:∀ x y,x < C.n→y < C.n→Y8 C.r x=Y8 C.r y→x=y
 n:C.n≤1000000
def blD (C:Ctx) (t:List Nat):Blk:=⟨true,C.v,3,1,t.map (Y8 C.r),false⟩
def blC (C:Ctx):Blk:=⟨true,C.v0,C.ty0,C.es0,C.els0,false⟩
def cmV (C:Ctx):AV:=.fn 111 [.pt 0 C.v0 0 0]
def daV (C:Ctx):AV:=.sl 1 C.v 0 C.n
def TagQ (C:Ctx) (t:List Nat):Prop:=t.length=C.n∧∀ i,i < C.n→t.getD i default < C.n
theorem Aos {C:Ctx} (h:CtxOk C) {t u:List Nat} (ht:TagQ C t) (hu:TagQ C u) (e:blD C t=blD C u):t=u:=by
 simp only [blD,Blk.mk.injEq,CY,Ay] at e
 refine List.ext_getElem (by rw [ht.1,hu.1]) fun i h1 h2=>?_
 have e1:(t.map (Y8 C.r))[i]?=(u.map (Y8 C.r))[i]?:=by rw [e]
 rw [lx23,lx23,lx51 h1,lx51 h2] at e1
 simp only [lx34,lx16] at e1
 have g1:=ht.2 i (by rw [←ht.1]; exact h1)
 have g2:=hu.2 i (by rw [←hu.1]; exact h2)
 rw [lx80,lx51 h1,lx10] at g1
 rw [lx80,lx51 h2,lx10] at g2
 exact h.inj _ _ g1 g2 e1
theorem TagQ.seg {C:Ctx} {t u:List Nat} {a b:Nat} (h:TagQ C t) (hs:Seg t u a b) (hb:b≤C.n):TagQ C u:=by
 refine ⟨hs.len.trans h.1,fun i hi=>?_⟩
 by_cases c:a≤i∧i < b
 ·obtain ⟨j,_,j2,e⟩:=hs.frm i c.1 c.2
  rw [e]; exact h.2 j (by omega)
 ·rw [hs.out i (by omega)]; exact h.2 i hi
theorem TagQ.sw {C:Ctx} {t:List Nat} {i j:Nat} (h:TagQ C t) (hi:i < C.n) (hj:j < C.n):TagQ C (U4 t i j):=
 h.seg (Aca (a:=0) (b:=C.n) (Bu _) hi (Bu _) hj (by rw [h.1]; exact Ar _)) (Ar _)
theorem UK {a b:Nat} (h:kA .i64 (a:Int)=kA .i64 (b:Int)):a=b:=by
 have:=Bx h; omega
noncomputable def Be8 (C:Ctx):=Yk (fun p:List Nat × Nat × Nat × Nat=>TagQ C p.1∧p.2.1≤p.2.2.1∧p.2.2.1≤C.n) (fun p=>([daV C,kA .i64 p.2.1,kA .i64 p.2.2.1,cmV C],[blC C,blD C p.1],p.2.2.2))
 (fun p=>(.tu [],[blC C,blD C (Mb C.K p.1 p.2.1 p.2.2.1)],p.2.2.2))
theorem Be9 {C:Ctx} (h:CtxOk C) (t:List Nat) (a b c:Nat) (ht:TagQ C t) (hab:a≤b) (hb:b≤C.n):
  Be8 C [daV C,kA .i64 a,kA .i64 b,cmV C] [blC C,blD C t] c=some (.tu [],[blC C,blD C (Mb C.K t a b)],c):=
 Hk (q:=fun p:List Nat × Nat × Nat × Nat=>TagQ C p.1∧p.2.1≤p.2.2.1∧p.2.2.1≤C.n) (enc:=fun p=>([daV C,kA .i64 p.2.1,kA .i64 p.2.2.1,cmV C],[blC C,blD C p.1],p.2.2.2))
  (out:=fun p=>(.tu [],[blC C,blD C (Mb C.K p.1 p.2.1 p.2.2.1)],p.2.2.2)) (t,a,b,c) ⟨ht,hab,hb⟩ (by
  rintro ⟨t',a',b',c'⟩ ⟨ht',_⟩ e
  simp only [lx40,lx96,Ay,CY] at e
  obtain ⟨⟨e1,e2⟩,e3,rfl⟩:=e
  rw [UK e1,UK e2,Aos h ht' ht e3])
theorem Tw {K:Nat→Int} {t:List Nat} {a j:Nat} (h:¬ (a < j∧K (t.getD (j - 1) default) < K (t.getD j default))):Nd K a j t=t:=by
 cases j with
 | zero=>rfl
 | succ j=>rw [Nd,if_neg (by simpa using h)]
theorem Awq {C:Ctx} (h:CtxOk C):Mu Tryz.prog 201 (Be8 C):=Hl <| by
 rintro ⟨t,a,b,cnt⟩ ⟨ht,hab,hb⟩
 obtain ⟨hc,he,hinj,hn⟩:=h
 obtain ⟨r,n,K,v,v0,ty0,es0,els0,fc⟩:=C
 simp only at hc he hn hb hab
 have htl:=ht.1
 simp only at htl
 refine Ag (Aj (lit:=false) (pm:=fun _=>none) (.cons hc .nil) .nil .nil .nil) rfl Tryz.func201 rfl (by decide) (by kernel_rfl) ?_
 simp only [Tryz.f201,Af,lx53,lx63,Nat.reduceAdd,Nat.reduceSub,List.replicate]
 simp only [blC,blD,daV,cmV]
 obtain ⟨RES,hRES⟩:∃ u,Mb K t a b=u:=⟨_,rfl⟩
 rw [hRES]
 have w0:IntKind.i64.wrap ((a:Int)+1)=((a+1:Nat):Int):=AA
 refine Aa ?_
 simp (maxSteps:=10000000) +contextual -implicitDefEqProofs only [AY,AW,St.put,CK,AB,w0]
 refine Al (σ:=Nat × List Nat) (fun y _=>⟨Bn 0 53 [(0,.sl 1 v 0 n),(1,.sc (.int .i64 a)),(2,.sc (.int .i64 b)),(3,.fn 111 [.pt 0 v0 0 0]),(8,.sc (.int .i64 y.1))],[⟨true,v0,ty0,es0,els0,false⟩,⟨true,v,3,1,y.2.map (Y8 r),false⟩],cnt⟩)
  (fun y=>a+1≤y.1∧(y.1≤b∨y.1=a+1)∧TagQ ⟨r,n,K,v,v0,ty0,es0,els0,fc⟩ y.2∧RN K a t (y.1 - a - 1)=y.2) (fun y=>b - y.1) (a+1,t) ⟨by simp only; omega,.inr rfl,ht,by simp only; rw [show a+1 - a - 1=0 by omega]; rfl⟩ ?_ ?_ rfl ?_
 ·exact Gn
 ·exact ZH
 rintro ⟨i,u⟩ cn ⟨hi1,hi2,hu,hins⟩ ih
 simp only at hi1 hi2 hu hins
 have hul:=hu.1
 have hut:=hu.2
 simp only at hul hut
 by_cases hib:i < b
 rotate_left
 ·have q1:decide ((i:Int) < (b:Int))=false:=by rw [BT]; omega
  have hfin:RES=u:=by
   rw [←hRES,←hins,Mb]
   congr 1; omega
  rw [hfin]
  refine Aa ?_
  refine Bq ?_
  simp (maxSteps:=10000000) +contextual -implicitDefEqProofs only [AY,AW,St.put,↓reduceIte,CK,q1]
  all_goals first | exact .refl _ | rfl | trivial | omega
 have q1:decide ((i:Int) < (b:Int))=true:=Ae
 obtain ⟨m,rfl⟩:∃ m,i=a+m+1:=⟨i - a - 1,by omega⟩
 rw [show a+m+1 - a - 1=m by omega] at hins
 have w1:IntKind.i64.wrap (((a+m+1:Nat):Int)+1)=((a+m+1+1:Nat):Int):=AA
 obtain ⟨NX,hNX⟩:∃ x,Nd K a (a+m+1) u=x:=⟨_,rfl⟩
 have hnx:RN K a t (m+1)=NX:=by rw [RN,hins,hNX]
 refine Aa ?_
 refine Bq ?_
 simp (maxSteps:=10000000) +contextual -implicitDefEqProofs only [AW,St.put,↓reduceIte,CK,q1]
 refine Al (σ:=Nat × List Nat) (fun y _=>⟨Bn 0 53 [(0,.sl 1 v 0 n),(1,.sc (.int .i64 a)),(2,.sc (.int .i64 b)),(3,.fn 111 [.pt 0 v0 0 0]),(8,.sc (.int .i64 (a+m+1:Nat))),(9,.sc (.int .i64 y.1))],[⟨true,v0,ty0,es0,els0,false⟩,⟨true,v,3,1,y.2.map (Y8 r),false⟩],cnt⟩)
  (fun y=>y.1≤a+m+1∧a≤y.1∧TagQ ⟨r,n,K,v,v0,ty0,es0,els0,fc⟩ y.2∧Nd K a y.1 y.2=NX) (fun y=>y.1) (a+m+1,u) ⟨Ar _,by simp only; omega,hu,hNX⟩ ?_ ?_ rfl ?_
 ·exact Gn
 ·exact ZH
 rintro ⟨j,s⟩ cm ⟨hj1,hj2,hs,hns⟩ jh
 simp only at hj1 hj2 hs hns
 have hsl:=hs.1
 have hst:=hs.2
 simp only at hsl hst
 have hend:Nd K a j s=s→NX=s:=fun h=>by rw [←hns,h]
 by_cases hja:a < j
 rotate_left
 ·have q2:decide ((a:Int) < (j:Int))=false:=by rw [BT]; omega
  have hfin:=hend (Tw (fun h=>hja h.1))
  refine Aa ?_
  refine Bq ?_
  refine O2 (a2 q2 w1) ?_
  repeat' (first | exact Ad (by kernel_rfl) | refine ⟨Ad (by kernel_rfl),?_⟩ | refine And.intro ?_ ?_ | fail)
  refine Ao ?_ ?_ (Ar _) (ih (a+m+1+1,s) 0 ⟨by simp only; omega,by simp only; omega,hs,by simp only; rw [show a+m+1+1 - a - 1=m+1 by omega,hnx,hfin]⟩ (by simp only; omega))
  all_goals simp (maxSteps:=10000000) only [AY,AW,↓reduceIte,reduceCtorEq,Nat.reduceAdd,Nat.reduceEqDiff,Bn,Dj]
 have q2:decide ((a:Int) < (j:Int))=true:=Ae
 obtain ⟨k,rfl⟩:∃ k,j=k+1:=⟨j - 1,by omega⟩
 have w2:IntKind.i64.wrap (((k+1:Nat):Int) - 1)=(k:Int):=AA
 have q3:decide (k+1 < s.length)=true:=Ae
 have q4:decide (k < s.length)=true:=Ae
 have q5:decide (((k+1:Nat):Int) < (n:Int))=true:=Ae
 have q6:decide ((k:Int) < (n:Int))=true:=Ae
 have hcm:=he (s.getD (k+1) default) (s.getD k default) (hst _ (by omega)) (hst _ (by omega))
 simp only [Y9] at hcm
 have q7:=Aop (K (s.getD k default)) (K (s.getD (k+1) default))
 refine Aa ?_
 by_cases hlt:K (s.getD k default) < K (s.getD (k+1) default)
 ·rw [HU hlt] at q7
  have s1:=fun t j x=>Awp r t j x
  have hsw:(s.set (k+1) (s.getD k default)).set k (s.getD (k+1) default)=U4 s (k+1) k:=rfl
  have hnx2:Nd K a k (U4 s (k+1) k)=NX:=by rw [←hns,Nd,if_pos ⟨hja,hlt⟩]
  refine Bq ?_
  refine O2 (G0 q2 q3 q4 q5 q6 q7 w2 hcm s1 hsw @Ax @Y9) ?_
  repeat' (first | exact Ad (by kernel_rfl) | refine ⟨Ad (by kernel_rfl),?_⟩ | refine And.intro ?_ ?_ | fail)
  refine Ao ?_ ?_ (Ar _) (jh (k,U4 s (k+1) k) 0 ⟨by simp only; omega,by simp only; omega,hs.sw (by simp only; omega) (by simp only; omega),hnx2⟩ (by simp only; omega))
  all_goals exact ZG
 ·rw [E8 hlt] at q7
  have hfin:=hend (Tw (by simp only [Nat.add_sub_cancel]; exact fun h=>hlt h.2))
  refine Bq ?_
  refine O2 (IL q2 q3 q4 q5 q6 q7 w1 w2 hcm @Ax @Y9) ?_
  repeat' (first | exact Ad (by kernel_rfl) | refine ⟨Ad (by kernel_rfl),?_⟩ | refine And.intro ?_ ?_ | fail)
  refine Ao ?_ ?_ (Ar _) (ih (a+m+1+1,s) 0 ⟨by simp only; omega,by simp only; omega,hs,by simp only; rw [show a+m+1+1 - a - 1=m+1 by omega,hnx,hfin]⟩ (by simp only; omega))
  all_goals exact ZG
theorem GB {n k:Nat} (h:k < n):(List.range n).getD k default=k:=by
 rw [lx80,lx51 (by simpa using h)]; simp
theorem Biz {K:Nat→Int} {u w:List Nat} {n:Nat} (hu:u.length=n) (hw:w.length=n) (su:Srt K u 0 n) (sw:Srt K w 0 n) (bu:Stb K u) (bw:Stb K w)
  (uw:∀ i,i < n→∃ j,j < n∧u.getD i default=w.getD j default) (wu:∀ i,i < n→∃ j,j < n∧w.getD i default=u.getD j default):u=w:=by
 have inj:∀ (v:List Nat),v.length=n→Stb K v→∀ a b,a < b→b < n→v.getD a default=v.getD b default→False:=fun v hv bv a b h1 h2 e=>by
  have:=bv a b h1 (by omega) (by rw [e])
  omega
 have main:∀ i,i < n→u.getD i default=w.getD i default:=by
  intro i
  induction i using Nat.strongRecOn with
  | ind i ih=>
   intro hi
   obtain ⟨k,hk,ek⟩:=uw i hi
   obtain ⟨l,hl',el⟩:=wu i hi
   have k1:¬ k < i:=fun h=>inj u hu bu k i h hi (by rw [ih k h hk,ek])
   have l1:¬ l < i:=fun h=>inj w hw bw l i h hi (by rw [←ih l h hl',el])
   by_cases hki:k=i
   ·rw [ek,hki]
   by_cases hli:l=i
   ·rw [el,hli]
   have s1:=su i l (Bu _) (by omega) hl'
   have s2:=sw i k (Bu _) (by omega) hk
   rw [←el] at s1
   rw [←ek] at s2
   have e:K (u.getD i default)=K (w.getD i default):=Ah
   have b1:=bu i l (by omega) (by omega) (by rw [e,el])
   have b2:=bw i k (by omega) (by omega) (by rw [←e,ek])
   omega
 refine List.ext_getElem (by omega) fun i h1 h2=>?_
 have:=main i (by omega)
 exact Ara
def Py (K:Nat→Int) (n:Nat):Nat→List Nat
 | 0=>[]
 | q+1=>Py K n q++(List.range n).filter (fun i=>K i == 99 - (q:Int))
theorem Pz (K:Nat→Int) (n:Nat) (hK:∀ i,i < n→K i≤99):∀ q x,x ∈ Py K n q↔x < n∧99 - (q:Int) < K x
 | 0,x=>by
  simp only [Py,lx121,false_iff,not_and]
  intro hx; have:=hK x hx; omega
 | q+1,x=>by
  rw [Py,lx76,Pz K n hK q x,List.mem_filter,Jn,lx85]
  constructor
  ·rintro (⟨h1,h2⟩ | ⟨h1,h2⟩)
   ·exact ⟨h1,by omega⟩
   ·exact ⟨h1,by omega⟩
  ·rintro ⟨h1,h2⟩
   by_cases h:K x=99 - (q:Int)
   ·exact .inr ⟨h1,h⟩
   ·exact .inl ⟨h1,by omega⟩
theorem Ako (K:Nat→Int) (n:Nat) (hK:∀ i,i < n→K i≤99):∀ q,(Py K n q).Pairwise fun a b=>K b≤K a∧(K a=K b→a < b)
 | 0=>.nil
 | q+1=>by
  rw [Py]
  refine List.pairwise_append.2 ⟨Ako K n hK q,?_,fun a ha b hb=>?_⟩
  ·have h1:(List.range n).Pairwise (fun a b=>a < b):=List.pairwise_lt_range
   have h2:((List.range n).filter (fun i=>K i == 99 - (q:Int))).Pairwise (fun a b=>a < b):=h1.filter _
   refine (lx122.2 fun i j hi hj hij=>?_)
   have g1:=lx122.1 h2 i j hi hj hij
   have g2:=(List.mem_filter.1 (lx90 hi)).2
   have g3:=(List.mem_filter.1 (lx90 hj)).2
   simp only [lx85] at g2 g3
   exact ⟨by omega,fun _=>g1⟩
  ·have h1:=(Pz K n hK q a).1 ha
   have h2:=(List.mem_filter.1 hb).2
   simp only [lx85] at h2
   exact ⟨by omega,fun h=>by omega⟩
theorem K9 {l:List Nat} {i:Nat} (h:i < l.length):l.getD i default=l[i]:=by
 rw [lx80,lx51 h]; rfl
theorem XR (K:Nat→Int) (n:Nat) (hK:∀ i,i < n→0≤K i∧K i≤99):Mb K (List.range n) 0 n=Py K n 100:=by
 have hst:Stb K (List.range n):=fun i j h1 h2 _=>by
  rw [List.length_range] at h2
  rw [GB (by omega),GB h2]; exact h1
 obtain ⟨g1,g2,g3⟩:=Ace (a:=0) (b:=n) hst (by simp)
 have hp:=Ako K n (fun i hi=>(hK i hi).2) 100
 have hm:∀ x,x ∈ Py K n 100↔x < n:=fun x=>by
  rw [Pz K n (fun i hi=>(hK i hi).2)]
  exact ⟨fun h=>h.1,fun h=>⟨h,by have:=hK x h; omega⟩⟩
 have hnd:(Py K n 100).Nodup:=hp.imp fun h e=>by
  subst e
  exact absurd (h.2 rfl) (Nat.lt_irrefl _)
 have hperm:(Py K n 100).Perm (List.range n):=(List.perm_ext_iff_of_nodup hnd List.nodup_range).2 fun a=>by rw [hm,Jn]
 have hlen:(Py K n 100).length=n:=by rw [hperm.length_eq,List.length_range]
 have hidx:∀ x,x < n→∃ j,j < n∧(Py K n 100).getD j default=x:=fun x hx=>by
  obtain ⟨j,hj,e⟩:=lx69 ((hm x).2 hx)
  exact ⟨j,by omega,by rw [K9 hj,e]⟩
 refine Biz (by rw [g1.len,List.length_range]) hlen g2 ?_ g3 ?_ (fun i hi=>?_) (fun i hi=>?_)
 ·intro i j _ hij hj
  have:=lx122.1 hp i j (by omega) (by omega) hij
  rw [K9 (by omega),K9 (by omega)]; exact this.1
 ·intro i j hij hj
  have:=lx122.1 hp i j (by omega) hj hij
  rw [K9 (by omega),K9 hj]; exact this.2
 ·obtain ⟨j,_,hj,e⟩:=g1.frm i (Bu _) hi
  rw [GB hj] at e
  obtain ⟨m,h1,h2⟩:=hidx j hj
  exact ⟨m,h1,by rw [e,h2]⟩
 ·have h:(Py K n 100).getD i default < n:=by
   rw [K9 (by omega)]
   exact (hm _).1 (lx90 _)
  obtain ⟨j,_,hj,e⟩:=g1.to _ (Bu _) h
  rw [GB h] at e
  exact ⟨j,hj,e⟩
theorem XS {C:Ctx} (h:CtxOk C) (t:List Nat) (cnt:Nat) (ht:TagQ C t) (hn:C.n < 20):
  HSpec Tryz.prog 154 [daV C,kA .i64 C.n,cmV C] [blC C,blD C t] cnt (.tu []) [blC C,blD C (Mb C.K t 0 C.n)] cnt:=by
 have E:=Be9 h t 0 C.n cnt ht (Bu _) (Ar _)
 refine Ag (Aj (lit:=false) (pm:=fun _=>none) .nil .nil .nil (.cons (Awq h) .nil)) rfl Tryz.func154 rfl (by decide) (by kernel_rfl) ?_
 simp only [Tryz.f154,Af,lx53,lx63,Nat.reduceAdd,Nat.reduceSub,List.replicate]
 obtain ⟨RES,hRES⟩:∃ u,Mb C.K t 0 C.n=u:=⟨_,rfl⟩
 rw [hRES] at E ⊢
 obtain ⟨r,n,K,v,v0,ty0,es0,els0,fc⟩:=C
 simp only at hn
 simp only [blC,blD,daV,cmV,AB,Int.natCast_zero] at E ⊢
 have h1:decide ((20:Int)≤(n:Int))=false:=Gg
 have h2:decide ((20:Int) < (n:Int))=false:=Gg
 refine Aa ?_
 simp (maxSteps:=10000000) +contextual -implicitDefEqProofs only [AY,AW,St.put,CK]
 refine Al (σ:=Unit) (fun _ c=>⟨Bn 0 63 [(0,.sl 1 v 0 n),(1,.sc (.int .i64 n)),(2,.fn 111 [.pt 0 v0 0 0]),(6,.sc (.int .i64 20)),(7,.sc (.int .i64 0)),(8,.sc (.int .i64 20))],[⟨true,v0,ty0,es0,els0,false⟩,⟨true,v,3,1,t.map (Y8 r),false⟩],cnt⟩)
  (fun _=>True) (fun _=>0) () trivial ?_ ?_ rfl ?_
 ·exact Gn
 ·exact ZH
 rintro _ c - ih
 refine Aa ?_
 refine Bq ?_
 simp (maxSteps:=10000000) +contextual -implicitDefEqProofs only [AY,AW,St.put,DO,↓reduceIte,CK,E6,hl,h1,E]
 refine Al (σ:=Unit) (fun _ c=>⟨Bn 0 63 [(0,.sl 1 v 0 n),(1,.sc (.int .i64 n)),(2,.fn 111 [.pt 0 v0 0 0]),(6,.sc (.int .i64 20))],[⟨true,v0,ty0,es0,els0,false⟩,⟨true,v,3,1,RES.map (Y8 r),false⟩],cnt⟩)
  (fun _=>True) (fun _=>0) () trivial ?_ ?_ rfl ?_
 ·exact Gn
 ·exact ZH
 rintro _ c' - ih'
 refine Aa ?_
 refine Bq ?_
 simp (maxSteps:=10000000) +contextual -implicitDefEqProofs only [AY,AW,St.put,↓reduceIte,CK,h2]
 all_goals first | exact .refl _ | rfl | trivial | omega | skip
 all_goals done
theorem Af9 {C:Ctx} (h:CtxOk C) (t:List Nat) (cnt:Nat) (ht:TagQ C t) (hn:C.n < 20):
  HSpec Tryz.prog 110 [daV C,cmV C] [blC C,blD C t] cnt (.tu []) [blC C,blD C (Mb C.K t 0 C.n)] cnt:=by
 obtain ⟨F,k,E⟩:=Dg (XS h t cnt ht hn)
 refine Ag (Aj (lit:=false) (pm:=fun _=>none) .nil .nil .nil (.cons k .nil)) rfl Tryz.func110 rfl (by decide) (by kernel_rfl) ?_
 simp only [Tryz.f110,Af,lx53,lx63,Nat.reduceAdd,Nat.reduceSub,List.replicate]
 obtain ⟨RES,hRES⟩:∃ u,Mb C.K t 0 C.n=u:=⟨_,rfl⟩
 rw [hRES] at E ⊢
 obtain ⟨r,n,K,v,v0,ty0,es0,els0,fc⟩:=C
 simp only [blC,blD,daV,cmV,AB] at E ⊢
 refine Aa ?_
 simp (maxSteps:=10000000) +contextual -implicitDefEqProofs only [AY,AW,St.put,DO,↓reduceIte,Dc,CK,E6,hl,E]
 all_goals first | exact .refl _ | rfl | trivial | omega | skip
 all_goals done
def It (c:Cd) (i:Nat):Int:=c.pri.getD i default
def HE (c:Cd):List Nat:=Py (It c) c.pri.length 100
def nI (i:Nat):AV:=kA .i64 (i:Int)
theorem OY (i:Nat):nI i=.sc (.int .i64 (i:Int)):=rfl
theorem Afa (l:List Nat):Cj (l.map nI)=true:=Ep (f:=nI) (fun _=>by simp [nI,kA,AV.fresh]) l
theorem N5 (l:List Nat):norefs (l.map nI)=true:=Da (f:=nI) (fun _=>by simp [nI,kA,AV.noref]) l
theorem Ij (l:List Nat):C9 1 (l.map nI)=true:=DH (f:=nI) (fun _=>rfl) l
def sgQ (p:Nat × Nat × Cd):Prop:=Fit p.2.2∧p.1 < p.2.2.pri.length∧p.2.1 < p.2.2.pri.length
noncomputable def f111:=Ew sgQ (fun p=>[nI p.1,nI p.2.1,.vp [BP p.2.2] 0 0]) (fun p=>kA .i64 (G9 (It p.2.2 p.2.1) (It p.2.2 p.1)))
theorem Bj0 (c:Cd) (x y:Nat) (h:Fit c) (hx:x < c.pri.length) (hy:y < c.pri.length):f111 [nI x,nI y,.vp [BP c] 0 0]=some (.sc (.int .i64 (G9 (It c y) (It c x)))):=
 (AK (q:=sgQ) (enc:=fun p=>[nI p.1,nI p.2.1,.vp [BP p.2.2] 0 0]) (out:=fun p=>kA .i64 (G9 (It p.2.2 p.2.1) (It p.2.2 p.1))) (x,y,c) ⟨h,hx,hy⟩ (by
  rintro ⟨a,b,d⟩ h
  simp only [lx96,AV.vp.injEq,Ay,CY] at h
  rw [UK h.1,UK h.2.1,CT h.2.2]) :)
theorem Bea:DC Tryz.prog 111 f111:=AF <| by
 rintro ⟨x,y,c⟩ ⟨hq,hx,hy⟩
 simp only at hq hx hy ⊢
 have h1:decide ((x:Int) < (c.pri.length:Int))=true:=Ae
 have h2:decide ((y:Int) < (c.pri.length:Int))=true:=Ae
 have h3:decide (x < c.pri.length)=true:=Ae
 have h4:decide (y < c.pri.length)=true:=Ae
 have hkx:c.pri.getD x default=It c x:=rfl
 have hky:c.pri.getD y default=It c y:=rfl
 refine Ac (Aq ((.cons Ats .nil)) (.nil)) rfl Tryz.func111 rfl (by decide) (by kernel_rfl) (by kernel_rfl) ?_
 simp only [Tryz.f111,Af,lx53,lx63,Nat.reduceAdd,Nat.reduceSub,List.replicate]
 refine Aa ?_
 exact JW (a8 h1 h2 h3 h4 hkx hky @OY @Bdn)
 repeat' (first | exact Ad (by kernel_rfl) | refine ⟨Ad (by kernel_rfl),?_⟩ | refine And.intro ?_ ?_ | fail)
 all_goals done
noncomputable def Akp (c:Cd) (v:Nat):Ctx:=⟨fun i=>(i:Int),c.pri.length,It c,v,0,36,7,[BP c],f111⟩
theorem Aot {c:Cd} (h:Fit c) (v:Nat):CtxOk (Akp c v) where
 hc:=Bea
 he x y hx hy:=Bj0 c x y h hx hy
 inj x y _ _ h:=by
  simp only [Y8,Akp,AV.sc.injEq,Value.int.injEq,CY] at h
  omega
 n:=Nz h.pri (by decide)
theorem UL {c:Cd} (h:Bo c=0) {i:Nat} (hi:i < c.pri.length):0≤It c i∧It c i≤99:=by
 have:=(Jf h).2.1
 rw [IE,J2,J8] at this
 have h1:=this.1
 simp only [Y1,J8] at h1
 have h2:=lx97.1 h1.1.1.2 _ (B7 hi)
 simp only [Yl,Hq,Lk] at h2
 exact F8.1 h2
theorem Aou {K:Nat→Int} {n:Nat} (hK:∀ i,i < n→0≤K i∧K i≤99):(Py K n 100).length=n:=by
 have hst:Stb K (List.range n):=fun i j h1 h2 _=>by
  rw [List.length_range] at h2
  rw [GB (by omega),GB h2]; exact h1
 have g1:=(Ace (a:=0) (b:=n) hst (by simp)).1.len
 rw [XR K n hK,List.length_range] at g1
 exact g1
theorem Nm {c:Cd} (h:Bo c=0):(HE c).length=c.pri.length:=Aou fun i hi=>UL h hi
theorem PA {c:Cd} (h:Bo c=0) {x:Nat} (hx:x ∈ HE c):x < c.pri.length:=((Pz (It c) c.pri.length (fun i hi=>(UL h hi).2) 100 x).1 hx).1
theorem XT (c:Cd) (hq:Fit c) (h:Bo c=0):H5 Tryz.prog 71 [BP c] (.vw false ((HE c).map nI)):=by
 have hlm:=B5 h
 have hR:Mb (It c) (List.range c.pri.length) 0 c.pri.length=HE c:=XR _ _ fun i hi=>UL h hi
 have hln:=Nm h
 obtain ⟨F,k110,E⟩:∃ F,Mu Tryz.prog 110 F∧∀ v cnt,F [.sl 1 v 0 c.pri.length,.fn 111 [.pt 0 0 0 0]] [⟨true,0,36,7,[BP c],false⟩,⟨true,v,3,1,(List.range c.pri.length).map nI,false⟩] cnt=some (.tu [],[⟨true,0,36,7,[BP c],false⟩,⟨true,v,3,1,(HE c).map nI,false⟩],cnt):=by
  refine ⟨Yk (fun _:Nat × Nat=>True) (fun p=>([.sl 1 p.1 0 c.pri.length,.fn 111 [.pt 0 0 0 0]],[⟨true,0,36,7,[BP c],false⟩,⟨true,p.1,3,1,(List.range c.pri.length).map nI,false⟩],p.2)) (fun p=>(.tu [],[⟨true,0,36,7,[BP c],false⟩,⟨true,p.1,3,1,(HE c).map nI,false⟩],p.2)),Hl ?_,fun v cnt=>?_⟩
  ·rintro ⟨v,cnt⟩ -
   have:=Af9 (Aot hq v) (List.range c.pri.length) cnt ⟨by simp [Akp],fun i hi=>by
    have hi:i < c.pri.length:=hi
    rw [GB hi]; exact hi⟩ (by simp only [Akp]; omega)
   simp only [Akp,daV,cmV,blC,blD,hR] at this
   exact this
  ·exact Hk (q:=fun _:Nat × Nat=>True) (enc:=fun p=>([.sl 1 p.1 0 c.pri.length,.fn 111 [.pt 0 0 0 0]],[⟨true,0,36,7,[BP c],false⟩,⟨true,p.1,3,1,(List.range c.pri.length).map nI,false⟩],p.2)) (out:=fun p=>(.tu [],[⟨true,0,36,7,[BP c],false⟩,⟨true,p.1,3,1,(HE c).map nI,false⟩],p.2)) (v,cnt) trivial (by
    rintro ⟨v',cnt'⟩ - h
    simp only [lx40,lx96,AV.sl.injEq,Ay,CY] at h
    rw [h.1,h.2.2])
 refine D7 (Aj (lit:=false) (pm:=fun _=>none) .nil .nil .nil (.cons k110 .nil)) rfl Tryz.func71 rfl (by decide) (by kernel_rfl) (by simp [AV.noref,N5]) ?_
 simp only [Tryz.f71,Af,lx53,lx63,Nat.reduceAdd,Nat.reduceSub,List.replicate]
 refine Aa ?_
 refine gC0 ?_
 refine Ao (T':=Bn 0 20 [(1,.pt 0 0 0 0),(3,.vw true []),(7,.sc (.int .i64 c.pri.length)),(8,.sc (.int .i64 ((0:Nat):Int)))]) ?_ (Aw _) (Ar _) ?_
 ·exact Gn
 refine Fg (T':=Bn 0 20 [(1,.pt 0 0 0 0),(3,.sl 1 1 0 0),(7,.sc (.int .i64 c.pri.length)),(8,.sc (.int .i64 ((0:Nat):Int)))]) 1 3 1 2 (by omega) (by omega) ?_ (Ea _ _ _) ?_
 ·exact Agd
 refine Yq ?_
 refine Al (σ:=Nat × Nat) (fun y cnt=>⟨Bn 0 20 [(1,.pt 0 0 0 0),(3,.sl 1 y.2 0 y.1),(7,.sc (.int .i64 c.pri.length)),(8,.sc (.int .i64 y.1))],[⟨true,0,36,7,[BP c],false⟩,⟨true,y.2,3,1,(List.range y.1).map nI,false⟩],cnt⟩)
  (fun y=>y.1≤c.pri.length) (fun y=>c.pri.length - y.1) (0,1) (Bu _) (CH _) ?_ rfl ?_
 ·simp (maxSteps:=10000000) only [AY,AW,Ab,List.range_zero]
 rintro ⟨k,v⟩ cnt hk ih
 simp only at hk
 by_cases hk':k < c.pri.length
 ·have h1:decide ((k:Int) < (c.pri.length:Int))=true:=by rw [AN]; omega
  have w1:IntKind.i64.wrap ((k:Int)+1)=((k+1:Nat):Int):=AA
  have hsz:decide ((k+1) * 8≤140737488355328)=true:=Ae
  have ht:List.take k ((List.range k).map nI)=(List.range k).map nI:=lx118 (by simp)
  have ha:(List.range k).map nI++[AV.sc (.int .i64 (k:Int))]=(List.range (k+1)).map nI:=by rw [List.range_succ,lx12]; rfl
  have ih:=fun v c=>ih (k+1,v) c (by simp only; omega) (by simp only; omega)
  simp only at ih
  refine Aa ?_
  refine Bq ?_
  refine O2 (a5 h1 w1 hsz ht ha) ?_
  refine Ao ?_ ?_ (Ar _) (ih (cnt+1) _)
  all_goals exact qc5
 obtain rfl:k=c.pri.length:=Ah
 have h1:decide ((c.pri.length:Int) < (c.pri.length:Int))=false:=Bc
 have E:=E v cnt
 simp only [Ab] at E
 have ht:List.take c.pri.length ((HE c).map nI)=(HE c).map nI:=lx118 (by simp [hln])
 clear ih
 refine Aa ?_
 refine Bq ?_
 refine O2 (a3 h1 E ht) ?_
 all_goals first | (simp [AV.freshIn,Db,AP,Cj,AV.fresh,Afa]; done) | skip
 all_goals done
noncomputable def Za (c:Cd):List Nat:=open Classical in if Bo c=0 then HE c else []
theorem Ad8 {c:Cd} (h:Bo c=0):Za c=HE c:=by rw [Za,if_pos h]
theorem Aov {c:Cd} (h:Bo c≠0):Za c=[]:=by rw [Za,if_neg h]
noncomputable def f33:=Ew Fit (fun c=>[BP c]) (fun c=>.vw false ((Za c).map nI))
theorem e33 (c:Cd) (h:Fit c):f33 [BP c]=some (.vw false ((Za c).map nI)):=
 (AK (q:=Fit) (enc:=fun c=>[BP c]) (out:=fun c=>.vw false ((Za c).map nI)) c h (by
  intro b h
  simp only [lx96,Ay] at h
  rw [CT h]) :)
def Rq (K:Nat→Int) (n q:Nat):Nat→List Nat
 | 0=>Py K n q
 | m+1=>if K m=99 - (q:Int) then Rq K n q m++[m] else Rq K n q m
theorem Akq (K:Nat→Int) (n q:Nat):∀ m,Rq K n q m=Py K n q++(List.range m).filter (fun i=>K i == 99 - (q:Int))
 | 0=>by simp [Rq]
 | m+1=>by
  rw [Rq,Akq K n q m,List.range_succ,List.filter_append]
  by_cases h:K m=99 - (q:Int)
  ·rw [if_pos h]; simp [h]
  ·rw [if_neg h]; simp [h]
theorem Aow (K:Nat→Int) (n q:Nat):Rq K n q n=Py K n (q+1):=by rw [Akq,Py]
theorem Ad9 (K:Nat→Int) (n q:Nat):∀ m,(Rq K n q m).length≤(Py K n q).length+m
 | 0=>by simp [Rq]
 | m+1=>by
  have:=Ad9 K n q m
  rw [Rq]; split
  ·simp; omega
  ·omega
theorem Akr (K:Nat→Int) (n:Nat):∀ q,(Py K n q).length≤q * n
 | 0=>by simp [Py]
 | q+1=>by
  have h1:=Akr K n q
  have h2:((List.range n).filter (fun i=>K i == 99 - (q:Int))).length≤n:=by
   have:=lx86 (fun i=>K i == 99 - (q:Int)) (List.range n)
   simpa using this
  rw [Py,lx5,Nat.succ_mul]; omega
theorem Bj1:VOk Tryz.prog 38 f33:=LU fun c hq=>by
 have x1:=e53 c hq
 simp only [Ab] at x1
 by_cases h:Bo c=0
 rotate_left
 ·have b1:(Bo c != 0)=true:=by simpa using h
  rw [Aov h]
  refine BW (Aj (lit:=false) (pm:=fun _=>none) (.cons Aof .nil) .nil .nil .nil) rfl Tryz.func38 rfl (by decide) (by kernel_rfl) (by simp [AV.noref,norefs]) ?_
  simp only [Tryz.f38,Af,lx53,lx63,Nat.reduceAdd,Nat.reduceSub,List.replicate]
  refine Aa ?_
  exact JW (a2 x1 b1)
  all_goals done
 have b1:(Bo c != 0)=false:=by simp [h]
 have hlm:=B5 h
 rw [Ad8 h,HE]
 obtain ⟨W,hW⟩:∃ W:Nat→Nat→List Nat,(fun q m=>Rq (It c) c.pri.length q m)=W:=⟨_,rfl⟩
 have hW':∀ q m,Rq (It c) c.pri.length q m=W q m:=fun q m=>by rw [←hW]
 have hS:∀ q m,W q (m+1)=if It c m=99 - (q:Int) then W q m++[m] else W q m:=fun q m=>by rw [←hW',←hW']; rfl
 have h00:W 0 0=[]:=by rw [←hW']; rfl
 have hN:∀ q,W q c.pri.length=W (q+1) 0:=fun q=>by rw [←hW',Aow,←hW']; rfl
 have hE:Py (It c) c.pri.length 100=W 100 0:=by rw [←hW']; rfl
 have hL:∀ q m,q≤100→m≤16→(W q m).length≤1616:=fun q m hq hm=>by
  have h1:=Ad9 (It c) c.pri.length q m
  have h2:=Akr (It c) c.pri.length q
  have h3:q * c.pri.length≤100 * 16:=Nat.mul_le_mul hq hlm.2.2.2.1
  rw [←hW']; omega
 obtain ⟨RES,hRES⟩:∃ R,W 100 0=R:=⟨_,rfl⟩
 rw [hE,hRES]
 clear hE hW hW'
 refine BW (Aj (lit:=false) (pm:=fun _=>none) (.cons Aof .nil) .nil .nil .nil) rfl Tryz.func38 rfl (by decide) (by kernel_rfl) (by simp [AV.noref,N5]) ?_
 simp only [Tryz.f38,Af,lx53,lx63,Nat.reduceAdd,Nat.reduceSub,List.replicate]
 refine Aa ?_
 refine O2 (a2 x1 b1) ?_
 clear x1 b1
 refine Ao (T':=Bn 0 32 [(1,.pt 0 0 0 0),(3,.vw true []),(4,.sc (.int .i64 (99 - ((0:Nat):Int))))]) ?_ (Aw _) (Ar _) ?_
 ·simp (maxSteps:=10000000) only [AY,AW,↓reduceIte,reduceCtorEq,Nat.reduceAdd,Nat.reduceEqDiff,Bn,Dj,Int.sub_zero]
 refine Fg (T':=Bn 0 32 [(1,.pt 0 0 0 0),(3,.sl 1 1 0 0),(4,.sc (.int .i64 (99 - ((0:Nat):Int))))]) 1 3 1 2 (by omega) (by omega) ?_ (Ea _ _ _) ?_
 ·exact Agd
 refine Yq ?_
 refine Al (σ:=Nat × Nat) (fun y cnt=>⟨Bn 0 32 [(1,.pt 0 0 0 0),(3,.sl 1 y.2 0 (W y.1 0).length),(4,.sc (.int .i64 (99 - (y.1:Int))))],[⟨true,0,36,7,[BP c],false⟩,⟨true,y.2,3,1,(W y.1 0).map nI,false⟩],cnt⟩)
  (fun y=>y.1≤100) (fun y=>100 - y.1) (0,1) (Bu _) ?_ ?_ rfl ?_
 ·rw [h00]; exact CH _
 ·rw [h00]
  exact Jp
 rintro ⟨q,v⟩ cnt hq ih
 simp only at hq
 by_cases hq':q < 100
 rotate_left
 ·obtain rfl:q=100:=by omega
  have h1:decide ((0:Int)≤99 - ((100:Nat):Int))=false:=by decide
  have ht:List.take RES.length (RES.map nI)=RES.map nI:=lx118 (by simp)
  have hnr:=N5 RES
  clear ih hS hN hL
  simp only [hRES]
  refine Aa ?_
  refine Bq ?_
  exact JW ht
  all_goals done
 have h1:decide ((0:Int)≤99 - (q:Int))=true:=Ae
 refine Aa ?_
 refine Bq ?_
 simp (maxSteps:=10000000) +contextual -implicitDefEqProofs only [AW,St.put,↓reduceIte,CK,Ab,h1]
 refine Al (σ:=Nat × Nat) (fun y cnt=>⟨Bn 0 32 [(1,.pt 0 0 0 0),(3,.sl 1 y.2 0 (W q y.1).length),(4,.sc (.int .i64 (99 - (q:Int)))),(5,.sc (.int .i64 y.1))],[⟨true,0,36,7,[BP c],false⟩,⟨true,y.2,3,1,(W q y.1).map nI,false⟩],cnt⟩)
  (fun y=>y.1≤c.pri.length) (fun y=>c.pri.length - y.1) (0,v) (Bu _) ?_ ?_ rfl ?_
 ·exact Gn
 ·exact Jp
 rintro ⟨m,v⟩ cn hm jh
 simp only at hm
 by_cases hm':m < c.pri.length
 rotate_left
 ·obtain rfl:m=c.pri.length:=by omega
  have h2:decide ((c.pri.length:Int) < (c.pri.length:Int))=false:=Bc
  have w1:IntKind.i64.wrap (99 - (q:Int) - 1)=99 - ((q+1:Nat):Int):=AA
  have ih:=fun c=>ih (q+1,v) c (by simp only; omega) (by simp only; omega)
  simp only [←hN] at ih
  clear jh hS hN
  refine Aa ?_
  refine Bq ?_
  refine O2 (a2 h2 w1) ?_
  exact JV
 have h2:decide ((m:Int) < (c.pri.length:Int))=true:=Ae
 have h3:decide (m < c.pri.length)=true:=Ae
 have w1:IntKind.i64.wrap ((m:Int)+1)=((m+1:Nat):Int):=AA
 have hk:c.pri.getD m default=It c m:=rfl
 have hlw:=hL q m hq (by omega)
 have jh:=fun v c=>jh (m+1,v) c (by simp only; omega) (by simp only; omega)
 simp only [hS] at jh
 clear ih hS hN hL
 obtain ⟨O,hO⟩:∃ O,W q m=O:=⟨_,rfl⟩
 rw [hO] at hlw
 simp only [hO] at jh ⊢
 obtain ⟨x,hx⟩:∃ x,It c m=x:=⟨_,rfl⟩
 rw [hx] at hk
 simp only [hx] at jh
 refine Aa ?_
 by_cases hp:x=99 - (q:Int)
 ·have b2:(x == 99 - (q:Int))=true:=by rw [lx85]; exact hp
  simp only [if_pos hp] at jh
  have hsz:decide ((O.length+1) * 8≤140737488355328)=true:=Ae
  have ht:List.take O.length (O.map nI)=O.map nI:=lx118 (by simp)
  have ha:O.map nI++[AV.sc (.int .i64 (m:Int))]=(O++[m]).map nI:=R0
  refine Bq ?_
  refine O2 (a8 h2 h3 hk b2 w1 hsz ht ha) ?_
  refine Ao ?_ ?_ (Ar _) (jh (cn+1) _)
  all_goals simp (maxSteps:=10000000) only [AY,AW,↓reduceIte,reduceCtorEq,Nat.reduceAdd,Nat.reduceEqDiff,Bn,Dj,Ab,lx5]
  all_goals done
 ·have b2:(x == 99 - (q:Int))=false:=by rw [lx113]; exact hp
  simp only [if_neg hp] at jh
  refine Bq ?_
  refine O2 (a5 h2 h3 hk b2 w1) ?_
  refine Ao ?_ ?_ (Ar _) (jh v _)
  all_goals exact qc5
end Go.Proofs.YtdjpkhjaibdogaaGreat
