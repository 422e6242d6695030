/-
  Lemmas towards ModesPriority (joined texts: BA, BB, BC, BD, BE, BF).
  Conditions: none.
-/
import Derived.Test.YtdjpkhjaibdogaaGreatL01
import Derived.Test.YtdjpkhjaibdogaaGreatL24
import Derived.Test.YtdjpkhjaibdogaaGreatL20
import Derived.Test.YtdjpkhjaibdogaaGreatL02
set_option linter.unusedSimpArgs false
set_option linter.unusedVariables false
set_option maxRecDepth 100000
set_option maxHeartbeats 8000000
namespace Go.Proofs.YtdjpkhjaibdogaaGreat
open Go Go.SX
attribute [local congr] ite_congr
theorem CR {x:Int} (h:-9223372036854775808≤x) (h':x < 9223372036854775808):IntKind.i64.wrap x=x:=by
 rw [IntKind.wrap_i64]; omega
theorem Bae {α:Type} [Inhabited α] {p:α→Bool} {l:List α} {r:Nat} (hr:r < l.length) (h:p (l.getD r default)=true):l.any p=true:=by
 rw [lx81,lx50 hr,lx4] at h
 exact List.any_eq_true.2 ⟨_,lx89 hr,h⟩
theorem Baf {α:Type} [Inhabited α] {p:α→Bool} {l:List α} (h:∀ j,j < l.length→p (l.getD j default)=false):l.any p=false:=by
 rw [lx95]
 intro x hx
 obtain ⟨j,hj,rfl⟩:=lx69 hx
 have:=h j hj
 rw [lx81,lx50 hj,lx4] at this
 rw [this]; decide
theorem DJ {α:Type} [Inhabited α] {l:List α} {i:Nat} (h:i < l.length):l.getD i default ∈ l:=by
 rw [lx81,lx50 h]; exact lx89 h
theorem De {p:Nat→Prop} {k:Nat} (h:∀ j,j < k→p j) (hk:p k):∀ j,j < k+1→p j:=fun j hj=>by
 rcases D0 j k with h' | h'
 ·exact h j h'
 ·have:j=k:=by omega
  rw [this]; exact hk
theorem AO {α:Type} [Inhabited α] {f:α→AV} {l:List α} {n:Nat} (h:decide (n < l.length)=true):(l.map f)[n]?=some (f (l.getD n default)):=Aem (by simpa using h)
structure In where
 op:Int
 a:Int
 deriving DecidableEq
instance:Inhabited In:=⟨⟨0,0⟩⟩
def Gd (x:In):AV:=.ag [kA .i64 x.op,kA .i64 x.a]
theorem BU (x:In):Gd x=.ag [.sc (.int .i64 x.op),.sc (.int .i64 x.a)]:=rfl
theorem Afs {x y:In} (h:Gd x=Gd y):x=y:=by
 cases x; cases y; simp_all [Gd,kA]
theorem Aft {l m:List In}:l.map Gd=m.map Gd↔l=m:=⟨DM (fun _ _=>Afs),fun h=>by rw [h]⟩
theorem AU (l:List In):Bs 2 (l.map Gd)=true:=BT (f:=Gd) (fun _=>rfl) l
theorem Abq (l:List In):norefs (l.map Gd)=true:=Co (f:=Gd) (fun _=>by simp [Gd,kA,AV.noref,norefs]) l
structure En where
 mo:Int
 tr:Int
 ix:Int
 pc:Int
 deriving DecidableEq
instance:Inhabited En:=⟨⟨0,0,0,0⟩⟩
def Fw (x:En):AV:=.ag [kA .i64 x.mo,kA .i64 x.tr,kA .i64 x.ix,kA .i64 x.pc]
theorem Cv (x:En):Fw x=.ag [.sc (.int .i64 x.mo),.sc (.int .i64 x.tr),.sc (.int .i64 x.ix),.sc (.int .i64 x.pc)]:=rfl
theorem I8 {x y:En} (h:Fw x=Fw y):x=y:=by
 cases x; cases y; simp_all [Fw,kA]
theorem Asc {l m:List En}:l.map Fw=m.map Fw↔l=m:=⟨DM (fun _ _=>I8),fun h=>by rw [h]⟩
theorem Ez (l:List En):Bs 4 (l.map Fw)=true:=BT (f:=Fw) (fun _=>rfl) l
theorem Kh {l m:List Int}:l.map (kA .i64)=m.map (kA .i64)↔l=m:=⟨DM (fun _ _=>BR),fun h=>by rw [h]⟩
theorem Es (l:List Int):norefs (l.map (kA .i64))=true:=Co (f:=kA .i64) (fun _=>by simp [kA,AV.noref]) l
def stA (b:ByteArray):AV:=.sc (.string b)
theorem N9 (b:ByteArray):stA b=.sc (.string b):=rfl
theorem Wf {x y:ByteArray} (h:stA x=stA y):x=y:=by simpa [stA] using h
theorem Asd {l m:List ByteArray}:l.map stA=m.map stA↔l=m:=⟨DM (fun _ _=>Wf),fun h=>by rw [h]⟩
theorem Oa (l:List ByteArray):Bs 1 (l.map stA)=true:=BT (f:=stA) (fun _=>rfl) l
structure Cd where
 zi:Bool
 ins:List In
 zs:Bool
 strs:List ByteArray
 ze:Bool
 ens:List En
 zp:Bool
 pri:List Int
 zv:Bool
 vars:List Int
 tim:Int
 evs:Int
instance:Inhabited Cd:=⟨⟨true,[],true,[],true,[],true,[],true,[],0,0⟩⟩
def CI (c:Cd):AV:=.ag [.vw c.zi (c.ins.map Gd),.vw c.zs (c.strs.map stA),.vw c.ze (c.ens.map Fw),.vw c.zp (c.pri.map (kA .i64)),.vw c.zv (c.vars.map (kA .i64)),kA .i64 c.tim,kA .i64 c.evs]
theorem Ai (c:Cd):CI c=.ag [.vw c.zi (c.ins.map Gd),.vw c.zs (c.strs.map stA),.vw c.ze (c.ens.map Fw),.vw c.zp (c.pri.map (kA .i64)),.vw c.zv (c.vars.map (kA .i64)),.sc (.int .i64 c.tim),.sc (.int .i64 c.evs)]:=rfl
theorem Dn {x y:Cd} (h:CI x=CI y):x=y:=by
 cases x; cases y; simp_all [CI,kA,Aft,Asc,Kh,Asd]
structure Fit (c:Cd):Prop where
 ins:c.ins.length≤100000
 strs:c.strs.length≤100000
 ens:c.ens.length≤100000
 pri:c.pri.length≤100000
 vars:c.vars.length≤100000
 tim:-1000000≤c.tim∧c.tim≤1000000
 evs:-1000000≤c.evs∧c.evs≤1000000
 str:∀ b ∈ c.strs,b.size≤100000
def HY (n lo hi:Int):Bool:=decide (lo≤n) && decide (n≤hi)
theorem Fx {n lo hi:Int}:HY n lo hi=true↔lo≤n∧n≤hi:=by simp [HY]
noncomputable def f99:=EF (fun _:Int × Int × Int=>True) (fun p=>[kA .i64 p.1,kA .i64 p.2.1,kA .i64 p.2.2]) (fun p=>bA (HY p.1 p.2.1 p.2.2))
theorem e99 (n lo hi:Int):f99 [.sc (.int .i64 n),.sc (.int .i64 lo),.sc (.int .i64 hi)]=some (.sc (.bool (HY n lo hi))):=
 (AK (q:=fun _:Int × Int × Int=>True) (enc:=fun p=>[kA .i64 p.1,kA .i64 p.2.1,kA .i64 p.2.2]) (out:=fun p=>bA (HY p.1 p.2.1 p.2.2)) (n,lo,hi) trivial (by rintro ⟨a,b,c⟩ h; simp_all [kA]) :)
theorem Sl:DC Tryz.prog 184 f99:=AN <| by
 rintro ⟨n,lo,hi⟩ -
 refine Ab (AF (.nil) (.nil)) rfl Tryz.func184 rfl (by decide) (by kernel_rfl) (by kernel_rfl) ?_
 simp only [Tryz.f184,Ae,lx52,lx63,Nat.reduceAdd,Nat.reduceSub,List.replicate]
 exact Bde
theorem Bag:DC Tryz.prog 57 f99:=AN <| by
 rintro ⟨n,lo,hi⟩ -
 refine Ab (AF (.nil) (.nil)) rfl Tryz.func57 rfl (by decide) (by kernel_rfl) (by kernel_rfl) ?_
 simp only [Tryz.f57,Ae,lx52,lx63,Nat.reduceAdd,Nat.reduceSub,List.replicate]
 exact Bde
def DB (op:Int):Bool:=(op == 12) || (op == 13) || (op == 14)
noncomputable def f194:=EF (fun _:Int=>True) (fun x=>[kA .i64 x]) (fun x=>bA (DB x))
theorem Bgr (x:Int):f194 [.sc (.int .i64 x)]=some (.sc (.bool (DB x))):=
 (AK (q:=fun _:Int=>True) (enc:=fun x=>[kA .i64 x]) (out:=fun x=>bA (DB x)) x trivial (by intro y h; simp_all [kA]) :)
theorem Awt:DC Tryz.prog 194 f194:=AN <| by
 rintro x -
 refine Ab (AF (.nil) (.nil)) rfl Tryz.func194 rfl (by decide) (by kernel_rfl) (by kernel_rfl) ?_
 simp only [Tryz.f194,Ae,lx52,lx63,Nat.reduceAdd,Nat.reduceSub,List.replicate]
 refine Ac ?_
 simp (maxSteps:=10000000) +contextual -implicitDefEqProofs only [AX,AT,Ao,St.put,↓reduceIte,AL,Bb,DB,Bool.or_assoc]
 all_goals done
def Ng (a b:En):Bool:=if a.mo=b.mo then if a.tr=b.tr then decide (a.ix < b.ix) else decide (a.tr < b.tr) else decide (a.mo < b.mo)
noncomputable def Bgs:=EF (fun _:En × En=>True) (fun p=>[Fw p.1,Fw p.2]) (fun p=>bA (Ng p.1 p.2))
theorem Bo1 (a b:En):Bgs [Fw a,Fw b]=some (.sc (.bool (Ng a b))):=
 (AK (q:=fun _:En × En=>True) (enc:=fun p=>[Fw p.1,Fw p.2]) (out:=fun p=>bA (Ng p.1 p.2)) (a,b) trivial (by
  rintro ⟨x,y⟩ h
  simp only [lx94,AW] at h
  rw [I8 h.1,I8 h.2]) :)
theorem Bgt:DC Tryz.prog 145 Bgs:=AN <| by
 rintro ⟨a,b⟩ -
 refine Ab (AF (.nil) (.nil)) rfl Tryz.func145 rfl (by decide) (by kernel_rfl) (by kernel_rfl) ?_
 simp only [Tryz.f145,Ae,lx52,lx63,Nat.reduceAdd,Nat.reduceSub,List.replicate]
 refine Ac ?_
 by_cases h1:a.mo=b.mo
 ·by_cases h2:a.tr=b.tr
  ·simp (maxSteps:=10000000) +contextual -implicitDefEqProofs only [AX,AT,St.put,↓reduceIte,reduceCtorEq,Nat.reduceAdd,CS,Int.reduceAdd,B9,Bb,Cv,Ng,h1,h2]
   all_goals done
  ·have h2':(a.tr != b.tr)=true:=by simpa using h2
   simp (maxSteps:=10000000) +contextual -implicitDefEqProofs only [AX,AT,St.put,↓reduceIte,reduceCtorEq,Nat.reduceAdd,CS,Int.reduceAdd,B9,Bb,Cv,Ng,h1,h2,h2']
   all_goals done
 ·have h1':(a.mo != b.mo)=true:=by simpa using h1
  simp (maxSteps:=10000000) +contextual -implicitDefEqProofs only [AX,AT,St.put,↓reduceIte,reduceCtorEq,Nat.reduceAdd,CS,Int.reduceAdd,B9,Bb,Cv,Ng,h1,h1']
  all_goals done
theorem I9 {P:Program} {f:Nat} {args:List AV} {r:AV} (h:Ap P f args r):∃ F,DC P f F∧F args=some r:=by
 refine ⟨fun a=>open Classical in if a=args then some r else none,?_,by simp⟩
 intro a v hv
 simp only at hv
 split at hv
 ·rename_i e; subst e; cases hv; exact h
 ·cases hv
theorem Bgu {g:Nat} {F:List AV→Option AV} (ok:DC Tryz.prog g F) (p:ByteArray→Bool) (z:Bool) (l:List ByteArray) (he:∀ x ∈ l,F (stA x::[])=some (bA (p x))) (hlL:l.length≤1000000):
  Ap Tryz.prog 219 [.vw z (l.map stA),.fn g []] (kA .i64 (RL p l)):=by
 refine Ab (AF ((.cons ok .nil)) (.nil)) rfl Tryz.func219 rfl (by decide) (by kernel_rfl) (by kernel_rfl) ?_
 simp only [Tryz.f219,Ae,lx52,lx63,Nat.reduceAdd,Nat.reduceSub,List.replicate]
 refine qd7 ?_
 refine Az (σ:=Nat) (fun r cnt=>⟨CW 0 19 [(0,.vw z (l.map stA)),(1,.fn g []),(7,.sc (.int .i64 l.length)),(8,.sc (.int .i64 r))],[],cnt⟩)
  (fun r=>r≤l.length∧∀ j,j < r→p (l.getD j default)=false) (fun r=>l.length - r) 0 ⟨by omega,by omega⟩ ?_ trivial rfl ?_
 ·exact Gm
 rintro r cnt ⟨hr,hn⟩ ih
 refine Ac ?_
 by_cases hr':r < l.length
 ·have h1:decide ((r:Int) < (l.length:Int))=true:=by rw [Bw]; omega
  have h2:decide (r < l.length)=true:=Au
  have w1:IntKind.i64.wrap ((r:Int)+1)=((r+1:Nat):Int):=CT
  have hm:=DJ hr'
  obtain ⟨x,hx⟩:∃ x,l.getD r default=x:=⟨_,rfl⟩
  have e1:=he x (by rw [←hx]; exact hm)
  simp only [N9,Bb] at e1
  by_cases hv:p (l.getD r default)=true
  ·have e:=Mz (p:=p) hr' hv hn
   rw [hx] at hv
   refine Cb ?_
   exact Oy (a8 h1 h2 hx e1 hv e @N9 @Oa)
  ·rw [Hw] at hv
   have e:=De hn hv
   rw [hx] at hv
   refine Cb ?_
   refine Pb (a8 h1 h2 hx e1 hv w1 @N9 @Oa) ?_
   exact Aco
 ·exact qc9
theorem Bgv {g:Nat} {F:List AV→Option AV} (ok:DC Tryz.prog g F) (p:ByteArray→Bool) (z:Bool) (l:List ByteArray) (he:∀ x ∈ l,F (stA x::[])=some (bA (p x))) (hlL:l.length≤1000000):
  Ap Tryz.prog 185 [.vw z (l.map stA),.fn g []] (bA (l.any p)):=by
 obtain ⟨F1,k1,e1⟩:=I9 (Bgu ok p z l he hlL)
 simp only [AL] at e1
 refine Ab (AF ((.cons k1 .nil)) (.nil)) rfl Tryz.func185 rfl (by decide) (by kernel_rfl) (by kernel_rfl) ?_
 simp only [Tryz.f185,Ae,lx52,lx63,Nat.reduceAdd,Nat.reduceSub,List.replicate]
 refine Ac ?_
 exact Oy e1
theorem Bgw {g:Nat} {F:List AV→Option AV} (ok:DC Tryz.prog g F) (p:Int→Bool) (z:Bool) (l:List Int) (he:∀ x ∈ l,F (kA .i64 x::[])=some (bA (p x))) (hlL:l.length≤1000000):
  Ap Tryz.prog 159 [.vw z (l.map (kA .i64)),.fn g []] (kA .i64 (RL p l)):=by
 refine Be3 ?_
 refine qd7 ?_
 refine Az (σ:=Nat) (fun r cnt=>⟨CW 0 19 [(0,.vw z (l.map (kA .i64))),(1,.fn g []),(7,.sc (.int .i64 l.length)),(8,.sc (.int .i64 r))],[],cnt⟩)
  (fun r=>r≤l.length∧∀ j,j < r→p (l.getD j default)=false) (fun r=>l.length - r) 0 ⟨by omega,by omega⟩ ?_ trivial rfl ?_
 ·exact Gm
 exact Av7
theorem Awu {g:Nat} {F:List AV→Option AV} (ok:DC Tryz.prog g F) (p:Int→Bool) (z:Bool) (l:List Int) (he:∀ x ∈ l,F (kA .i64 x::[])=some (bA (p x))) (hlL:l.length≤1000000):
  Ap Tryz.prog 116 [.vw z (l.map (kA .i64)),.fn g []] (bA (l.any p)):=by
 obtain ⟨F1,k1,e1⟩:=I9 (Bgw ok p z l he hlL)
 exact Bcq
theorem Bgx {g:Nat} {F:List AV→Option AV} (ok:DC Tryz.prog g F) (p:Int→Bool) (es:List AV) (z:Bool) (l:List Int) (he:∀ x ∈ l,F (kA .i64 x::[.vp es 0 0])=some (bA (p x))) (hlL:l.length≤1000000):
  Ap Tryz.prog 159 [.vw z (l.map (kA .i64)),.fn g [.vp es 0 0]] (kA .i64 (RL p l)):=by
 refine Be3 ?_
 refine qd7 ?_
 refine Az (σ:=Nat) (fun r cnt=>⟨CW 0 19 [(0,.vw z (l.map (kA .i64))),(1,.fn g [.vp es 0 0]),(7,.sc (.int .i64 l.length)),(8,.sc (.int .i64 r))],[],cnt⟩)
  (fun r=>r≤l.length∧∀ j,j < r→p (l.getD j default)=false) (fun r=>l.length - r) 0 ⟨by omega,by omega⟩ ?_ trivial rfl ?_
 ·exact Gm
 exact Av7
theorem Awv {g:Nat} {F:List AV→Option AV} (ok:DC Tryz.prog g F) (p:Int→Bool) (es:List AV) (z:Bool) (l:List Int) (he:∀ x ∈ l,F (kA .i64 x::[.vp es 0 0])=some (bA (p x))) (hlL:l.length≤1000000):
  Ap Tryz.prog 116 [.vw z (l.map (kA .i64)),.fn g [.vp es 0 0]] (bA (l.any p)):=by
 obtain ⟨F1,k1,e1⟩:=I9 (Bgx ok p es z l he hlL)
 exact Bcq
theorem Bgy {g:Nat} {F:List AV→Option AV} (ok:DC Tryz.prog g F) (p:En→Bool) (es:List AV) (z:Bool) (l:List En) (he:∀ x ∈ l,F (Fw x::[.vp es 0 0])=some (bA (p x))) (hlL:l.length≤1000000):
  Ap Tryz.prog 220 [.vw z (l.map Fw),.fn g [.vp es 0 0]] (kA .i64 (RL p l)):=by
 refine Ab (AF ((.cons ok .nil)) (.nil)) rfl Tryz.func220 rfl (by decide) (by kernel_rfl) (by kernel_rfl) ?_
 simp only [Tryz.f220,Ae,lx52,lx63,Nat.reduceAdd,Nat.reduceSub,List.replicate]
 refine qd7 ?_
 refine Az (σ:=Nat) (fun r cnt=>⟨CW 0 19 [(0,.vw z (l.map Fw)),(1,.fn g [.vp es 0 0]),(7,.sc (.int .i64 l.length)),(8,.sc (.int .i64 r))],[],cnt⟩)
  (fun r=>r≤l.length∧∀ j,j < r→p (l.getD j default)=false) (fun r=>l.length - r) 0 ⟨by omega,by omega⟩ ?_ trivial rfl ?_
 ·exact Gm
 rintro r cnt ⟨hr,hn⟩ ih
 refine Ac ?_
 by_cases hr':r < l.length
 ·have h1:decide ((r:Int) < (l.length:Int))=true:=by rw [Bw]; omega
  have h2:decide (r < l.length)=true:=Au
  have w1:IntKind.i64.wrap ((r:Int)+1)=((r+1:Nat):Int):=CT
  have hm:=DJ hr'
  obtain ⟨x,hx⟩:∃ x,l.getD r default=x:=⟨_,rfl⟩
  have e1:=he x (by rw [←hx]; exact hm)
  simp only [Cv,Bb] at e1
  by_cases hv:p (l.getD r default)=true
  ·have e:=Mz (p:=p) hr' hv hn
   rw [hx] at hv
   refine Cb ?_
   exact Oy (a8 h1 h2 hx e1 hv e @Cv @Ez)
  ·rw [Hw] at hv
   have e:=De hn hv
   rw [hx] at hv
   refine Cb ?_
   refine Pb (a8 h1 h2 hx e1 hv w1 @Cv @Ez) ?_
   exact Aco
 ·exact qc9
theorem Ano {g:Nat} {F:List AV→Option AV} (ok:DC Tryz.prog g F) (p:En→Bool) (es:List AV) (z:Bool) (l:List En) (he:∀ x ∈ l,F (Fw x::[.vp es 0 0])=some (bA (p x))) (hlL:l.length≤1000000):
  Ap Tryz.prog 190 [.vw z (l.map Fw),.fn g [.vp es 0 0]] (bA (l.any p)):=by
 obtain ⟨F1,k1,e1⟩:=I9 (Bgy ok p es z l he hlL)
 simp only [AL] at e1
 refine Ab (AF ((.cons k1 .nil)) (.nil)) rfl Tryz.func190 rfl (by decide) (by kernel_rfl) (by kernel_rfl) ?_
 simp only [Tryz.f190,Ae,lx52,lx63,Nat.reduceAdd,Nat.reduceSub,List.replicate]
 refine Ac ?_
 exact Oy e1
theorem Ge (op:Int):(op=1∨op=2∨op=3∨op=4∨op=5∨op=6∨op=7∨op=8∨op=9∨op=10∨op=11∨op=12∨op=13∨op=14∨op=15∨op=16∨op=17∨op=18∨op=19∨op=20∨op=21∨op=22∨op=23∨op=24∨op=25∨op=26∨op=27∨op=28∨op=29∨op=30∨op=31)∨∀ k:Int,1≤k→k≤31→(op == k)=false:=by
 by_cases h:1≤op∧op≤31
 ·left; omega
 ·right
  intro k h1 h2
  rw [lx108]
  omega
def B5 (op:Int):Int × Int × Int:=if op=1 then (0,1,1) else if op=2 then (0,1,2) else if op=3 then (1,0,2) else if op=4 then (0,1,3) else if op=5 then (0,1,4) else if op=6 then (0,1,5) else if op=7 then (0,1,0) else if op=8 then (0,1,0) else if op=9 then (1,1,0) else if op=10 then (1,1,0) else if op=11 then (2,1,6) else if op=12 then (0,0,7) else if op=13 then (1,0,7) else if op=14 then (1,1,7) else if op=15 then (1,0,0) else if op=16 then (0,0,8) else if op=17 then (0,0,8) else if op=18 then (0,0,8) else if op=19 then (1,0,9) else if op=20 then (2,0,9) else if op=21 then (1,0,5) else if op=22 then (0,0,5) else if op=23 then (0,0,4) else if op=24 then (0,0,4) else if op=25 then (0,0,10) else if op=26 then (0,0,9) else if op=27 then (0,0,9) else if op=28 then (0,0,9) else if op=29 then (1,0,11) else if op=30 then (0,0,0) else if op=31 then (0,0,0) else (0,0,-1)
noncomputable def f197:=EF (fun _:Int=>True) (fun x=>[kA .i64 x]) (fun x=>.tu [kA .i64 (B5 x).1,kA .i64 (B5 x).2.1])
theorem Bo2 (x:Int):f197 [.sc (.int .i64 x)]=some (.tu [.sc (.int .i64 (B5 x).1),.sc (.int .i64 (B5 x).2.1)]):=
 (AK (q:=fun _:Int=>True) (enc:=fun x=>[kA .i64 x]) (out:=fun x=>.tu [kA .i64 (B5 x).1,kA .i64 (B5 x).2.1]) x trivial (by intro y h; simp only [lx94,AW] at h; rw [BR h]) :)
theorem Bgz:DC Tryz.prog 197 f197:=AN <| by
 rintro op -
 refine Ab (AF (.nil) (.nil)) rfl Tryz.func197 rfl (by decide) (by kernel_rfl) (by kernel_rfl) ?_
 simp only [Tryz.f197,Ae,lx52,lx63,Nat.reduceAdd,Nat.reduceSub,List.replicate]
 refine Ac ?_
 rcases Ge op with (rfl | rfl | rfl | rfl | rfl | rfl | rfl | rfl | rfl | rfl | rfl | rfl | rfl | rfl | rfl | rfl | rfl | rfl | rfl | rfl | rfl | rfl | rfl | rfl | rfl | rfl | rfl | rfl | rfl | rfl | rfl) | h
 rotate_right
 have g:∀ k:Int,1≤k→k≤31→(op=k)=False:=fun k h1 h2=>by have:=h k h1 h2; simpa using this
 ·simp (maxSteps:=10000000) +contextual -implicitDefEqProofs only [AX,AT,St.put,↓reduceIte,Int.reduceLE,AL,B5,h,g]
  all_goals done
 all_goals simp (maxSteps:=10000000) +contextual -implicitDefEqProofs only [AX,AT,St.put,↓reduceIte,Int.reduceEq,Nat.reduceBEq,AL,Int.reduceBEq,B5]
 all_goals done
def C0 (c:Cd) (op:Int):Int × Int:=if op=1 then (-2147483647,2147483647) else if op=2 then (0,(c.vars.length - 1)) else if op=3 then (0,(c.vars.length - 1)) else if op=4 then (0,63) else if op=5 then (0,(c.pri.length - 1)) else if op=6 then (0,(c.tim - 1)) else if op=7 then (0,0) else if op=8 then (0,0) else if op=9 then (0,0) else if op=10 then (0,0) else if op=11 then (12,24) else if op=15 then (0,0) else if op=16 then (0,31) else if op=17 then (0,31) else if op=18 then (0,31) else if op=19 then (0,63) else if op=20 then (0,63) else if op=21 then (0,(c.tim - 1)) else if op=22 then (0,(c.tim - 1)) else if op=23 then (0,(c.pri.length - 1)) else if op=24 then (0,(c.pri.length - 1)) else if op=25 then (0,(c.evs - 1)) else if op=26 then (0,63) else if op=27 then (0,63) else if op=28 then (0,63) else if op=29 then (0,(c.strs.length - 1)) else if op=30 then (0,0) else if op=31 then (0,0) else (1,0)
theorem KC {c:Cd} (h:Fit c):IntKind.i64.wrap ((c.vars.length:Int) - 1)=(c.vars.length:Int) - 1∧IntKind.i64.wrap ((c.pri.length:Int) - 1)=(c.pri.length:Int) - 1∧
  IntKind.i64.wrap ((c.strs.length:Int) - 1)=(c.strs.length:Int) - 1∧IntKind.i64.wrap ((c.ins.length:Int) - 1)=(c.ins.length:Int) - 1∧IntKind.i64.wrap (c.tim - 1)=c.tim - 1∧IntKind.i64.wrap (c.evs - 1)=c.evs - 1:=by
 obtain ⟨h1,h2,h3,h4,h5,h6,h7⟩:=h
 refine ⟨CR (by omega) (by omega),CR (by omega) (by omega),CR (by omega) (by omega),CR (by omega) (by omega),CR (by omega) (by omega),CR (by omega) (by omega)⟩
noncomputable def f193:=EF (fun p:Cd × Int=>Fit p.1) (fun p=>[CI p.1,kA .i64 p.2]) (fun p=>.tu [kA .i64 (C0 p.1 p.2).1,kA .i64 (C0 p.1 p.2).2])
theorem Bo3 (c:Cd) (h:Fit c) (x:Int):f193 [CI c,.sc (.int .i64 x)]=some (.tu [.sc (.int .i64 (C0 c x).1),.sc (.int .i64 (C0 c x).2)]):=
 (AK (q:=fun p:Cd × Int=>Fit p.1) (enc:=fun p=>[CI p.1,kA .i64 p.2]) (out:=fun p=>.tu [kA .i64 (C0 p.1 p.2).1,kA .i64 (C0 p.1 p.2).2]) (c,x) h (by
  rintro ⟨a,b⟩ h
  simp only [lx94,AW] at h
  rw [Dn h.1,BR h.2]) :)
theorem Bh0:DC Tryz.prog 193 f193:=AN <| by
 rintro ⟨c,op⟩ hq
 simp only at hq
 obtain ⟨w1,w2,w3,w4,w5,w6⟩:=KC hq
 refine Ab (AF (.nil) (.nil)) rfl Tryz.func193 rfl (by decide) (by kernel_rfl) (by kernel_rfl) ?_
 simp only [Tryz.f193,Ae,lx52,lx63,Nat.reduceAdd,Nat.reduceSub,List.replicate]
 refine Ac ?_
 rcases Ge op with (rfl | rfl | rfl | rfl | rfl | rfl | rfl | rfl | rfl | rfl | rfl | rfl | rfl | rfl | rfl | rfl | rfl | rfl | rfl | rfl | rfl | rfl | rfl | rfl | rfl | rfl | rfl | rfl | rfl | rfl | rfl) | h
 rotate_right
 have g:∀ k:Int,1≤k→k≤31→(op=k)=False:=fun k h1 h2=>by have:=h k h1 h2; simpa using this
 ·simp (maxSteps:=10000000) +contextual -implicitDefEqProofs only [AX,AT,St.put,↓reduceIte,Nat.reduceAdd,Int.reduceLE,Int.reduceAdd,B9,AL,Ai,C0,h,g]
  all_goals done
 all_goals simp (maxSteps:=10000000) +contextual -implicitDefEqProofs only [AX,AT,St.put,↓reduceIte,reduceCtorEq,Nat.reduceAdd,Int.reduceEq,Nat.reduceBEq,CS,Int.reduceAdd,B9,AL,Ai,Int.reduceBEq,C0,w1,w2,w3,w5,w6]
 all_goals done
def Gf (b:ByteArray) (i:Nat):Nat:=(b.data.toList.getD i 0).toNat
theorem BJ (H:List Blk) (b:ByteArray) (ag sz by' z fl):All Tryz.prog 9 H (.sc (.string b)) (some ⟨ag,sz,by',z,none,none,fl⟩)=some (.sc (.int .i64 b.size)):=by
 have h:Bh Tryz.prog (Builtin.len_ #[9] 0 #[.string b])=some (goInt b.size):=by
  unfold Bh Builtin.len_
  simp [Ah,Al,Ar,un9]
 simp only [All,Bp,h]
 rfl
theorem Dp (b:ByteArray) (k:IntKind) (i:Nat) (h:decide (i < b.size)=true) (ag sz by' z fl):iaD Tryz.prog 9 (.sc (.string b)) (.sc (.int k i)) (some ⟨ag,sz,by',z,none,none,fl⟩)=some (.sc (.int .u8 (Gf b i))):=by
 simp only [Bw] at h
 have h:Bh Tryz.prog (Instr.index 9 (.string b) (.int k i))=some (.int .u8 (Gf b i)):=by
  unfold Bh Instr.index
  have hl:i < b.data.toList.length:=h
  have h3:b[i]?=some (b.data.toList.getD i 0):=by
   rw [getElem?_pos b i h,lx81,lx50 hl,lx4]; rfl
  have h0:(0:Int)≤(i:Int):=ND i
  simp only [Ah,asIntOf,Al,lx17,Ar,un9,if_pos h0,Pa,h3,Gf]
 simp only [iaD,Bp,h]
 rfl
def ZC (b:ByteArray) (i:Nat):Bool:=decide ((Gf b i:Int) < 32) || decide ((126:Int) < (Gf b i:Int))
def Hj (b:ByteArray):Bool:=!(List.range b.size).any (ZC b) && decide ((b.size:Int)≤32)
theorem Iv {p:Nat→Bool} {n:Nat}:(List.range n).any p=true↔∃ i,i < n∧p i=true:=AZ
theorem Anp {b:ByteArray} {i:Nat} (hi:i < b.size) (h:ZC b i=true):Hj b=false:=by
 rw [Hj,Iv.2 ⟨i,hi,h⟩]; rfl
theorem Ai9 {b:ByteArray} (h:∀ i,i < b.size→ZC b i=false):Hj b=decide ((b.size:Int)≤32):=by
 have:(List.range b.size).any (ZC b)=false:=by
  rw [Bool.eq_false_iff]
  intro hc
  obtain ⟨i,hi,h2⟩:=Iv.1 hc
  rw [h i hi] at h2; cases h2
 rw [Hj,this]; rfl
noncomputable def f187:=EF (fun b:ByteArray=>b.size≤100000) (fun b=>[stA b]) (fun b=>bA (Hj b))
theorem Bo4 (b:ByteArray) (h:b.size≤100000):f187 [.sc (.string b)]=some (.sc (.bool (Hj b))):=
 (AK (q:=fun b:ByteArray=>b.size≤100000) (enc:=fun b=>[stA b]) (out:=fun b=>bA (Hj b)) b h (by intro y h; simp only [lx94,AW] at h; rw [Wf h]) :)
theorem Bh1:DC Tryz.prog 187 f187:=AN <| by
 rintro b hb
 refine Ab (AF (.nil) (.nil)) rfl Tryz.func187 rfl (by decide) (by kernel_rfl) (by kernel_rfl) ?_
 simp only [Tryz.f187,Ae,lx52,lx63,Nat.reduceAdd,Nat.reduceSub,List.replicate]
 refine Ac ?_
 simp (maxSteps:=10000000) +contextual -implicitDefEqProofs only [AX,AT,St.put,Bb,N9]
 refine Az (σ:=Nat) (fun r cnt=>⟨CW 0 23 [(0,.sc (.string b)),(3,.sc (.int .i64 r))],[],cnt⟩)
  (fun r=>r≤b.size∧∀ j,j < r→ZC b j=false) (fun r=>b.size - r) 0 ⟨by omega,by omega⟩ ?_ trivial rfl ?_
 ·exact Gm
 rintro r cnt ⟨hr,hn⟩ ih
 refine Ac ?_
 by_cases hr':r < b.size
 ·have h1:decide ((r:Int) < (b.size:Int))=true:=by rw [Bw]; omega
  have h2:decide (r < b.size)=true:=Au
  have w1:IntKind.i64.wrap ((r:Int)+1)=((r+1:Nat):Int):=CT
  have hi:=Dp b .i64 r h2
  obtain ⟨v,hv⟩:∃ v,Gf b r=v:=⟨_,rfl⟩
  have hd:=hn
  cases hb2:ZC b r with
  | true=>
   have e:=Anp hr' hb2
   simp only [ZC,hv] at hb2
   cases c1:decide ((v:Int) < 32) with
   | true=>
    refine Cb ?_
    exact Oy (a6 h1 hi hv c1 e @BJ)
    all_goals done
   | false=>
    rw [c1,Qx] at hb2
    refine Cb ?_
    exact Oy (a7 h1 hi hv c1 hb2 e @BJ)
    all_goals done
  | false=>
   have e:=De hn hb2
   simp only [ZC,hv,Ju] at hb2
   refine Cb ?_
   refine Pb (a7 h1 hi hv hb2.1 hb2.2 w1 @BJ) ?_
   exact Aco
 ·have hrl:r=b.size:=by omega
  subst hrl
  have h1:decide ((b.size:Int) < (b.size:Int))=false:=AZ
  have e:=Ai9 hn
  refine Cb ?_
  simp (maxSteps:=10000000) +contextual -implicitDefEqProofs only [AX,AT,St.put,↓reduceIte,CS,h1,BJ,e]
  all_goals done
noncomputable def f186:=EF (fun b:ByteArray=>b.size≤100000) (fun b=>[stA b]) (fun b=>bA (!Hj b))
theorem Bo5 (b:ByteArray) (h:b.size≤100000):f186 [stA b]=some (bA (!Hj b)):=
 (AK (q:=fun b:ByteArray=>b.size≤100000) (enc:=fun b=>[stA b]) (out:=fun b=>bA (!Hj b)) b h (by intro y h; simp only [lx94,AW] at h; rw [Wf h]) :)
theorem Bh2:DC Tryz.prog 186 f186:=AN <| by
 rintro b hb
 refine Ab (AF ((.cons Bh1 .nil)) (.nil)) rfl Tryz.func186 rfl (by decide) (by kernel_rfl) (by kernel_rfl) ?_
 simp only [Tryz.f186,Ae,lx52,lx63,Nat.reduceAdd,Nat.reduceSub,List.replicate]
 refine Ac ?_
 simp (maxSteps:=10000000) +contextual -implicitDefEqProofs only [AX,AT,St.put,Am,Aj,Ds,pl,↓reduceIte,B9,Bb,N9,Bo4 b hb]
def prB (x:Int):Bool:=!HY x 0 99
noncomputable def f188:=EF (fun _:Int=>True) (fun x=>[kA .i64 x]) (fun x=>bA (prB x))
theorem Bo6 (x:Int):f188 [kA .i64 x]=some (bA (prB x)):=
 (AK (q:=fun _:Int=>True) (enc:=fun x=>[kA .i64 x]) (out:=fun x=>bA (prB x)) x trivial (by intro y h; simp only [lx94,AW] at h; rw [BR h]) :)
theorem Bh3:DC Tryz.prog 188 f188:=AN <| by
 rintro x -
 refine Ab (AF ((.cons Sl .nil)) (.nil)) rfl Tryz.func188 rfl (by decide) (by kernel_rfl) (by kernel_rfl) ?_
 simp only [Tryz.f188,Ae,lx52,lx63,Nat.reduceAdd,Nat.reduceSub,List.replicate]
 refine Ac ?_
 simp (maxSteps:=10000000) +contextual -implicitDefEqProofs only [AX,AT,St.put,Am,Aj,Ds,pl,↓reduceIte,B9,AL,Bb,e99,prB]
def vaB (x:Int):Bool:=!HY x (-2147483647) 2147483647
noncomputable def f189:=EF (fun _:Int=>True) (fun x=>[kA .i64 x]) (fun x=>bA (vaB x))
theorem Bo7 (x:Int):f189 [kA .i64 x]=some (bA (vaB x)):=
 (AK (q:=fun _:Int=>True) (enc:=fun x=>[kA .i64 x]) (out:=fun x=>bA (vaB x)) x trivial (by intro y h; simp only [lx94,AW] at h; rw [BR h]) :)
theorem Bh4:DC Tryz.prog 189 f189:=AN <| by
 rintro x -
 refine Ab (AF ((.cons Sl .nil)) (.nil)) rfl Tryz.func189 rfl (by decide) (by kernel_rfl) (by kernel_rfl) ?_
 simp only [Tryz.f189,Ae,lx52,lx63,Nat.reduceAdd,Nat.reduceSub,List.replicate]
 refine Ac ?_
 simp (maxSteps:=10000000) +contextual -implicitDefEqProofs only [AX,AT,St.put,Am,Aj,Ds,pl,↓reduceIte,B9,AL,Bb,e99,vaB]
def KS (c:Cd) (e:En):Bool:=HY e.mo 0 (c.pri.length - 1) &&
 (if e.tr=1∨e.tr=2 then e.ix == 0 else if e.tr=3∨e.tr=4 then HY e.ix 0 63 else if e.tr=5 then HY e.ix 0 (c.tim - 1) else if e.tr=6 then HY e.ix 0 (c.evs - 1) else false)
noncomputable def f192:=EF (fun p:Cd × En=>Fit p.1) (fun p=>[CI p.1,Fw p.2]) (fun p=>bA (KS p.1 p.2))
theorem Bo8 (c:Cd) (h:Fit c) (x:En):f192 [CI c,Fw x]=some (.sc (.bool (KS c x))):=
 (AK (q:=fun p:Cd × En=>Fit p.1) (enc:=fun p=>[CI p.1,Fw p.2]) (out:=fun p=>bA (KS p.1 p.2)) (c,x) h (by
  rintro ⟨a,b⟩ h
  simp only [lx94,AW] at h
  rw [Dn h.1,I8 h.2]) :)
theorem Bh5:DC Tryz.prog 192 f192:=AN <| by
 rintro ⟨c,⟨mo,tr,ix,pc⟩⟩ hq
 simp only at hq
 obtain ⟨w1,w2,w3,w4,w5,w6⟩:=KC hq
 refine Ab (AF ((.cons Sl .nil)) (.nil)) rfl Tryz.func192 rfl (by decide) (by kernel_rfl) (by kernel_rfl) ?_
 simp only [Tryz.f192,Ae,lx52,lx63,Nat.reduceAdd,Nat.reduceSub,List.replicate]
 refine Ac ?_
 cases h0:HY mo 0 (c.pri.length - 1) with
 | false=>
  simp (maxSteps:=10000000) +contextual -implicitDefEqProofs only [AX,AT,St.put,Am,Aj,Ds,pl,↓reduceIte,reduceCtorEq,Nat.reduceAdd,CS,Int.reduceAdd,B9,Bb,Cv,Ai,e99,w2,h0,KS]
  all_goals done
 | true=>
 rcases (by omega:tr=1∨tr=2∨tr=3∨tr=4∨tr=5∨tr=6∨(tr < 1∨6 < tr)) with rfl | rfl | rfl | rfl | rfl | rfl | h
 rotate_right
 ·have h1:(tr == 1)=false:=by rw [lx108]; omega
  have h2:(tr == 2)=false:=JF
  have h3:(tr == 3)=false:=JF
  have h4:(tr == 4)=false:=JF
  have h5:(tr == 5)=false:=JF
  have h6:(tr == 6)=false:=JF
  have g:KS c ⟨mo,tr,ix,pc⟩=false:=by
   unfold KS
   rw [if_neg (by simp only; omega),if_neg (by simp only; omega),if_neg (by simp only; omega),if_neg (by simp only; omega),Bool.and_false]
  rw [g]
  clear h
  exact Oy (Jk w2 h0 h1 h2 h3 h4 h5 h6 @Cv @Ai @e99)
  all_goals done
 all_goals simp (maxSteps:=10000000) +contextual -implicitDefEqProofs only [AX,AT,St.put,Am,Aj,Ds,pl,↓reduceIte,reduceCtorEq,Nat.reduceAdd,Int.reduceEq,Nat.reduceBEq,CS,Int.reduceAdd,B9,Bb,Cv,Ai,Int.reduceBEq,e99,w2,w5,w6,h0,KS]
 all_goals done
noncomputable def f191:=EF (fun p:En × Cd=>Fit p.2) (fun p=>[Fw p.1,.vp [CI p.2] 0 0]) (fun p=>bA (!KS p.2 p.1))
theorem Bo9 (c:Cd) (h:Fit c) (x:En):f191 [Fw x,.vp [CI c] 0 0]=some (bA (!KS c x)):=
 (AK (q:=fun p:En × Cd=>Fit p.2) (enc:=fun p=>[Fw p.1,.vp [CI p.2] 0 0]) (out:=fun p=>bA (!KS p.2 p.1)) (x,c) h (by
  rintro ⟨a,b⟩ h
  simp only [lx94,AV.vp.injEq,AW] at h
  rw [Dn h.2,I8 h.1]) :)
theorem Bh6:DC Tryz.prog 191 f191:=AN <| by
 rintro ⟨x,c⟩ hq
 simp only at hq
 have e1:=Bo8 c hq x
 simp only [Ai,Cv] at e1
 refine Ab (AF ((.cons Bh5 .nil)) (.nil)) rfl Tryz.func191 rfl (by decide) (by kernel_rfl) (by kernel_rfl) ?_
 simp only [Tryz.f191,Ae,lx52,lx63,Nat.reduceAdd,Nat.reduceSub,List.replicate]
 refine Ac ?_
 exact Oy (a3 e1 @Cv @Ai)
 all_goals done
def tgB (c:Cd) (e:En):Bool:=!HY e.pc 0 (c.ins.length - 1)
noncomputable def f195:=EF (fun p:En × Cd=>Fit p.2) (fun p=>[Fw p.1,.vp [CI p.2] 0 0]) (fun p=>bA (tgB p.2 p.1))
theorem Boa (c:Cd) (h:Fit c) (x:En):f195 [Fw x,.vp [CI c] 0 0]=some (bA (tgB c x)):=
 (AK (q:=fun p:En × Cd=>Fit p.2) (enc:=fun p=>[Fw p.1,.vp [CI p.2] 0 0]) (out:=fun p=>bA (tgB p.2 p.1)) (x,c) h (by
  rintro ⟨a,b⟩ h
  simp only [lx94,AV.vp.injEq,AW] at h
  rw [Dn h.2,I8 h.1]) :)
theorem Bh7:DC Tryz.prog 195 f195:=AN <| by
 rintro ⟨x,c⟩ hq
 simp only at hq
 obtain ⟨w1,w2,w3,w4,w5,w6⟩:=KC hq
 refine Ab (AF ((.cons Sl .nil)) (.nil)) rfl Tryz.func195 rfl (by decide) (by kernel_rfl) (by kernel_rfl) ?_
 simp only [Tryz.f195,Ae,lx52,lx63,Nat.reduceAdd,Nat.reduceSub,List.replicate]
 refine Ac ?_
 simp (maxSteps:=10000000) +contextual -implicitDefEqProofs only [AX,AT,St.put,Am,Aj,Ds,pl,↓reduceIte,reduceCtorEq,Nat.reduceAdd,CS,Int.reduceAdd,B9,Bb,Cv,Ai,AV.noref,e99,w4,tgB]
 all_goals done
def Sm (c:Cd):Bool:=decide ((c.ins.length:Int)≤4000) && decide ((c.strs.length:Int)≤200) && decide ((c.ens.length:Int)≤512) && decide ((c.pri.length:Int)≤16) && decide ((c.vars.length:Int)≤128) && HY c.tim 0 128 && HY c.evs 0 128
noncomputable def f142:=EF Fit (fun c=>[CI c]) (fun c=>bA (Sm c))
theorem Bob (c:Cd) (h:Fit c):f142 [CI c]=some (.sc (.bool (Sm c))):=
 (AK (q:=Fit) (enc:=fun c=>[CI c]) (out:=fun c=>bA (Sm c)) c h (by
  intro b h
  simp only [lx94,AW] at h
  rw [Dn h]) :)
theorem Aww:DC Tryz.prog 142 f142:=AN <| by
 rintro c hq
 refine Ab (AF ((.cons Sl .nil)) (.nil)) rfl Tryz.func142 rfl (by decide) (by kernel_rfl) (by kernel_rfl) ?_
 simp only [Tryz.f142,Ae,lx52,lx63,Nat.reduceAdd,Nat.reduceSub,List.replicate]
 refine Ac ?_
 simp (maxSteps:=10000000) +contextual -implicitDefEqProofs only [AX,AT,Ao,St.put,Am,Aj,Ds,pl,↓reduceIte,reduceCtorEq,Nat.reduceAdd,CS,Int.reduceAdd,B9,Bb,Ai,e99,Sm,Bool.and_assoc]
 all_goals done
theorem Qk {P:Program} {f:Nat} {a1 a2:List AV} {r1 r2:AV} (h1:Ap P f a1 r1) (h2:Ap P f a2 r2) (hne:a2≠a1):∃ F,DC P f F∧F a1=some r1∧F a2=some r2:=by
 refine ⟨fun a=>open Classical in if a=a1 then some r1 else if a=a2 then some r2 else none,?_,by simp,by simp [hne]⟩
 intro a v hv
 simp only at hv
 split at hv
 ·rename_i e; subst e; cases hv; exact h1
 ·split at hv
  ·rename_i e; subst e; cases hv; exact h2
  ·cases hv
def insP (c:Cd) (x:In):Bool:=!DB x.op && !HY x.a (C0 c x.op).1 (C0 c x.op).2
def Abr (c:Cd):Bool:=c.strs.any (fun b=>!Hj b) || c.pri.any prB || c.vars.any vaB || c.ens.any (fun e=>!KS c e)
def Tb (c:Cd) (k:Nat):Bool:=Abr c || (c.ins.take k).any (insP c)
def Jp (c:Cd):Bool:=!(Abr c || c.ins.any (insP c))
theorem Aia (c:Cd):Tb c 0=Abr c:=by simp [Tb]
theorem Anr {α:Type} [Inhabited α] {p:α→Bool} {l:List α} {k:Nat} (h:k < l.length):(l.take (k+1)).any p=((l.take k).any p || p (l.getD k default)):=by
 rw [lx109 h,List.any_append,lx81,lx50 h]; simp
theorem Aib (c:Cd) {k:Nat} (h:k < c.ins.length):Tb c (k+1)=(Tb c k || insP c (c.ins.getD k default)):=by
 rw [Tb,Tb,Anr h,Bool.or_assoc]
theorem Ans (c:Cd):Tb c c.ins.length=(Abr c || c.ins.any (insP c)):=by rw [Tb,lx73]
noncomputable def f143:=EF Fit (fun c=>[CI c]) (fun c=>bA (Jp c))
theorem Boc (c:Cd) (h:Fit c):f143 [CI c]=some (.sc (.bool (Jp c))):=
 (AK (q:=Fit) (enc:=fun c=>[CI c]) (out:=fun c=>bA (Jp c)) c h (by
  intro b h
  simp only [lx94,AW] at h
  rw [Dn h]) :)
theorem Awx:DC Tryz.prog 143 f143:=AN <| by
 rintro c hq
 obtain ⟨q1,q2,q3,q4,q5,q6,q7,q8⟩:=hq
 have hq:Fit c:=⟨q1,q2,q3,q4,q5,q6,q7,q8⟩
 obtain ⟨F185,k185,e185⟩:=I9 (Bgv Bh2 (fun b=>!Hj b) c.zs c.strs (fun b hb=>Bo5 b (q8 b hb)) (by omega))
 obtain ⟨F116,k116,e116,e116'⟩:=Qk (Awu Bh3 prB c.zp c.pri (fun b _=>Bo6 b) (by omega)) (Awu Bh4 vaB c.zv c.vars (fun b _=>Bo7 b) (by omega)) (by simp)
 obtain ⟨F190,k190,e190⟩:=I9 (Ano Bh6 (fun e=>!KS c e) [CI c] c.ze c.ens (fun b _=>Bo9 c hq b) (by omega))
 have x1:=fun op=>Bo3 c hq op
 simp only [Ai,Bb] at e190 e185 e116 e116' x1
 refine Ab (AF ((.cons k185 (.cons k116 (.cons k190 (.cons Bh0 (.cons Sl (.cons Awt .nil))))))) (.nil)) rfl Tryz.func143 rfl (by decide) (by kernel_rfl) (by kernel_rfl) ?_
 simp only [Tryz.f143,Ae,lx52,lx63,Nat.reduceAdd,Nat.reduceSub,List.replicate]
 refine Ac ?_
 have hp:Abr c=(c.strs.any (fun b=>!Hj b) || c.pri.any prB || c.vars.any vaB || c.ens.any (fun e=>!KS c e)):=rfl
 have hpc:Jp c=!Tb c c.ins.length:=by rw [Ans]; rfl
 rw [hpc]
 obtain ⟨b1,hb1⟩:∃ b,c.strs.any (fun b=>!Hj b)=b:=⟨_,rfl⟩
 obtain ⟨b2,hb2⟩:∃ b,c.pri.any prB=b:=⟨_,rfl⟩
 obtain ⟨b3,hb3⟩:∃ b,c.vars.any vaB=b:=⟨_,rfl⟩
 obtain ⟨b4,hb4⟩:∃ b,c.ens.any (fun e=>!KS c e)=b:=⟨_,rfl⟩
 rw [hb1] at e185 hp
 rw [hb2] at e116 hp
 rw [hb3] at e116' hp
 rw [hb4] at e190 hp
 clear hb1 hb2 hb3 hb4 hpc
 have h0:=Aia c
 rw [hp] at h0
 clear hp
 have hs:=fun k (hk:k < c.ins.length)=>Aib c hk
 obtain ⟨W,hW⟩:∃ W,Tb c=W:=⟨_,rfl⟩
 rw [hW] at h0 hs ⊢
 clear hW
 simp (maxSteps:=10000000) +contextual -implicitDefEqProofs only [AX,AT,Ao,St.put,Am,Aj,Ds,pl,↓reduceIte,reduceCtorEq,Nat.reduceAdd,Nat.reduceEqDiff,CS,Int.reduceAdd,B9,Bb,Ai,e185,e116,e116',e190]
 refine Az (σ:=Nat) (fun k cnt=>⟨CW 0 59 [(1,.pt 0 0 0 0),(3,.sc (.bool (W k))),(28,.vw c.zi (c.ins.map Gd)),(29,.sc (.int .i64 c.ins.length)),(30,.sc (.int .i64 k))],[⟨true,0,36,7,[CI c],false⟩],cnt⟩)
  (fun k=>k≤c.ins.length) (fun k=>c.ins.length - k) 0 (Bq _) ?_ ?_ rfl ?_
 ·simp (maxSteps:=10000000) only [AX,AT,↓reduceIte,reduceCtorEq,Nat.reduceAdd,Nat.reduceEqDiff,CW,Jw,h0]
 ·exact Ajs
 rintro k cnt hk ih
 by_cases hk':k < c.ins.length
 rotate_left
 ·obtain rfl:k=c.ins.length:=by omega
  have h1:decide ((c.ins.length:Int) < (c.ins.length:Int))=false:=AZ
  refine Ac ?_
  refine Cb ?_
  simp (maxSteps:=10000000) +contextual -implicitDefEqProofs only [AX,AT,St.put,↓reduceIte,Ai,h1]
  all_goals done
 have h1:decide ((k:Int) < (c.ins.length:Int))=true:=Au
 have h2:decide (k < c.ins.length)=true:=Au
 have w1:IntKind.i64.wrap ((k:Int)+1)=((k+1:Nat):Int):=CT
 have hs:=hs k hk'
 have ih:=fun c=>ih (k+1) c hk' (by omega)
 rw [hs] at ih
 obtain ⟨⟨op,a⟩,hx⟩:∃ x,c.ins.getD k default=x:=⟨_,rfl⟩
 rw [hx] at ih
 have x1:=x1 op
 have x2:=Bgr op
 obtain ⟨w,hw⟩:∃ w,W k=w:=⟨_,rfl⟩
 rw [hw] at ih ⊢
 simp only [insP] at ih
 refine Ac ?_
 cases w with
 | true=>
  refine Cb ?_
  refine Pb (a8 h1 h2 hx x1 w1 @BU @Ai @AU) ?_
  exact Ji
 | false=>
  cases hj:DB op with
  | true=>
   rw [hj] at x2 ih
   refine Cb ?_
   refine Pb (a9 h1 h2 hx x1 x2 w1 @BU @Ai @AU) ?_
   exact Ji
  | false=>
   rw [hj] at x2 ih
   refine Cb ?_
   refine Pb (HO h1 h2 hx x1 x2 w1 @BU @Ai @AU @e99) ?_
   exact Ji
def tgP (c:Cd) (x:In):Bool:=DB x.op && !HY x.a 0 (c.ins.length - 1)
def Hk (c:Cd):Bool:=!c.ins.any (tgP c) && !c.ens.any (tgB c)
noncomputable def f144:=EF Fit (fun c=>[CI c]) (fun c=>bA (Hk c))
theorem Bod (c:Cd) (h:Fit c):f144 [CI c]=some (.sc (.bool (Hk c))):=
 (AK (q:=Fit) (enc:=fun c=>[CI c]) (out:=fun c=>bA (Hk c)) c h (by
  intro b h
  simp only [lx94,AW] at h
  rw [Dn h]) :)
theorem Awy:DC Tryz.prog 144 f144:=AN <| by
 rintro c hq
 obtain ⟨q1,q2,q3,q4,q5,q6,q7,q8⟩:=hq
 have hq:Fit c:=⟨q1,q2,q3,q4,q5,q6,q7,q8⟩
 obtain ⟨v1,v2,v3,v4,v5,v6⟩:=KC hq
 obtain ⟨F190,k190,e190⟩:=I9 (Ano Bh7 (tgB c) [CI c] c.ze c.ens (fun b _=>Boa c hq b) (by omega))
 simp only [Ai,Bb] at e190
 refine Ab (AF ((.cons k190 (.cons Sl (.cons Awt .nil)))) (.nil)) rfl Tryz.func144 rfl (by decide) (by kernel_rfl) (by kernel_rfl) ?_
 simp only [Tryz.f144,Ae,lx52,lx63,Nat.reduceAdd,Nat.reduceSub,List.replicate]
 refine Ac ?_
 refine Pb @Ai ?_
 refine Az (σ:=Nat) (fun k cnt=>⟨CW 0 31 [(1,.pt 0 0 0 0),(6,.vw c.zi (c.ins.map Gd)),(7,.sc (.int .i64 c.ins.length)),(8,.sc (.int .i64 k))],[⟨true,0,36,7,[CI c],false⟩],cnt⟩)
  (fun k=>k≤c.ins.length∧∀ j,j < k→tgP c (c.ins.getD j default)=false) (fun k=>c.ins.length - k) 0 ⟨by omega,by omega⟩ ?_ ?_ rfl ?_
 ·exact Gm
 ·exact Ajs
 rintro k cnt ⟨hk,hn⟩ ih
 by_cases hk':k < c.ins.length
 rotate_left
 ·obtain rfl:k=c.ins.length:=by omega
  have h1:decide ((c.ins.length:Int) < (c.ins.length:Int))=false:=AZ
  have e:c.ins.any (tgP c)=false:=Baf hn
  refine Ac ?_
  refine Cb ?_
  simp (maxSteps:=10000000) +contextual -implicitDefEqProofs only [AX,AT,St.put,Am,Aj,Ds,pl,↓reduceIte,reduceCtorEq,CS,B9,Ai,h1,e190,Hk,e]
  all_goals done
 have h1:decide ((k:Int) < (c.ins.length:Int))=true:=Au
 have h2:decide (k < c.ins.length)=true:=Au
 have w1:IntKind.i64.wrap ((k:Int)+1)=((k+1:Nat):Int):=CT
 have ih:=fun c=>ih (k+1) c
 have hat:=Bae (p:=tgP c) hk'
 have hne:=De hn (k:=k)
 obtain ⟨⟨op,a⟩,hx⟩:∃ x,c.ins.getD k default=x:=⟨_,rfl⟩
 rw [hx] at hat hne
 have x2:=Bgr op
 refine Ac ?_
 cases hj:DB op with
 | false=>
  rw [hj] at x2
  have ih:=fun c=>ih c ⟨by omega,hne (by simp [tgP,hj])⟩ (by omega)
  refine Cb ?_
  refine Pb (a8 h1 h2 hx x2 w1 @BU @Ai @AU) ?_
  exact Ji
 | true=>
  rw [hj] at x2
  cases hi:HY a 0 (c.ins.length - 1) with
  | true=>
   have ih:=fun c=>ih c ⟨by omega,hne (by simp [tgP,hj,hi])⟩ (by omega)
   refine Cb ?_
   refine Pb (Jk h1 h2 hx x2 v4 hi w1 @BU @Ai @AU @e99) ?_
   exact Ji
  | false=>
   have e:=hat (by simp [tgP,hj,hi])
   have e2:Hk c=false:=by rw [Hk,e]; rfl
   refine Cb ?_
   exact Oy (Jk h1 h2 hx x2 v4 hi e2 @BU @Ai @AU @e99)
   all_goals done
end Go.Proofs.YtdjpkhjaibdogaaGreat
