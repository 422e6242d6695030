/-
  Lemmas towards ModesPriority (joined texts: P10, P11, P12, P13, P14).
  Conditions: none.
-/
import Derived.Test.YtdjpkhjaibdogaaGreatL01
import Derived.Test.YtdjpkhjaibdogaaGreatL02
import Derived.Test.YtdjpkhjaibdogaaGreatL43
import Derived.Test.YtdjpkhjaibdogaaGreatL30
import Derived.Test.YtdjpkhjaibdogaaGreatL39
set_option linter.unusedSimpArgs false
set_option linter.unusedVariables false
set_option maxRecDepth 100000
set_option maxHeartbeats 8000000
namespace Go.Proofs.YtdjpkhjaibdogaaGreat
open Go Go.SX
attribute [local congr] ite_congr
structure NmO (ms:List Mo):Prop where
 e:∀ j,j < ms.length→E8 wE.data.toList (ms.getD j default).nm.data.toList=false
 d:∀ i j,i < j→j < ms.length→E8 (ms.getD i default).nm.data.toList (ms.getD j default).nm.data.toList=false
 z:∀ j,j < ms.length→E8 (ms.getD j default).nm.data.toList wNo.data.toList=false
theorem Nr (a:Nat→Int) {ms:List Mo} {j:Nat} (h:j < ms.length):(Fo a ms)[j]?=some (UP a (ms.getD j default) (BO ms j)):=by
 rw [Fo,lx23,SS h]; rfl
theorem Qs (a:Nat→Int) (ms:List Mo):(Fo a ms).length=ms.length:=by simp [Fo]
theorem Aow (a:Nat→Int) (ms:List Mo):Bs 4 (Fo a ms)=true:=by
 rw [Fo]
 exact Ayk
theorem Ww (a:Nat→Int) (ms:List Mo):norefs (Fo a ms)=true:=by
 rw [Fo]
 exact Co (f:=fun j=>UP a (ms.getD j default) (BO ms j)) (fun j=>(Aoa _ _ _).2.2) _
theorem Aox {a:Nat→Int} {ms:List Mo} (hn:NmO ms) {j:Nat} (hj:j < ms.length):NoN ((Fo a ms).take j) (ms.getD j default).nm:=by
 intro i hi
 have hi':i < j∧i < ms.length:=by
  rw [lx68,Qs] at hi; omega
 have hg:((Fo a ms).take j)[i]?=some (UP a (ms.getD i default) (BO ms i)):=by rw [lx19,if_pos hi'.1,Nr a hi'.2]
 exact ⟨_,_,_,_,hg,hn.d i j hi'.1 hj⟩
theorem SH {k n:Nat}:∀ {l:List AV},Bs k l=true→Bs k (l.take n)=true
 | [],h=>by rw [List.take_nil]; exact h
 | x::l,h=>by
  cases n with
  | zero=>rfl
  | succ n=>
   rw [lx91]
   simp only [Ls,AH] at h ⊢
   exact ⟨h.1,SH h.2⟩
theorem s86 (a:Nat→Int) (a0:Int) (ms:List Mo) (hms:ms.length≤16) (hn:NmO ms) (hp:∀ m ∈ ms,m.p≤99):Ap Tryz.prog 86 [EH a0 (Fo a ms)] (.tu [iW 0,iW 0]):=by
 have hl:=Qs a ms
 have h4:=Aow a ms
 have hXn:=Ww a ms
 obtain ⟨F1,k1,e1⟩:=Ac6 (n:=ms.length+1) (fun j=>match j with
   | 0=>[.ag [.vw false [],.vw true []],.sc (.string wE)]
   | j+1=>[EH a0 ((Fo a ms).take j),.sc (.string (ms.getD j default).nm)]) (fun _=>.tu [.sc (.int .i64 0),.sc (.int .i64 0)]) (fun j hj=>by
  cases j with
  | zero=>exact Bkm
  | succ j=>exact Bkj a0 _ (by rw [lx68,hl]; omega) (SH h4) _ (hn.e j (by omega)) (Aox hn (by omega))) (fun i j hi hj he=>by
  have hc:∀ j,j < ms.length→((Fo a ms).take j).length=j:=fun j hj=>by rw [lx68,hl]; omega
  cases i with
  | zero=>cases j with
   | zero=>rfl
   | succ j=>simp [EH] at he
  | succ i=>cases j with
   | zero=>simp [EH] at he
   | succ j=>
    simp only [EH,lx94,AV.ag.injEq,AV.vw.injEq,C5,AW] at he
    have:=congrArg List.length he.1
    rw [hc i (by omega),hc j (by omega)] at this
    rw [this])
 have e1z:=e1 0 (by omega)
 have e1s:=fun j hj=>e1 (j+1) hj
 simp only at e1z e1s
 obtain ⟨F2,k2,e2⟩:=Hm Br2
 have w1:IntKind.i64.wrap 1=1:=rfl
 have hgX:=fun j hj=>Nr a (ms:=ms) (j:=j) hj
 generalize Fo a ms=X at hl h4 hXn e1s hgX ⊢
 simp only [EH,Fm,iW] at e1s e2 ⊢
 refine Ab (Af (lit:=false) (pm:=fun _=>none) (.cons k1 (.cons k2 .nil)) .nil .nil .nil) rfl Tryz.func86 rfl (by decide) (by kernel_rfl) (by kernel_rfl) ?_
 simp only [Tryz.f86,Ae,lx52,lx63,Nat.reduceAdd,Nat.reduceSub,List.replicate]
 refine qd6 ?_
 refine Dz (a3 e1z e2 w1) ?_
 repeat' (first | exact Aa (by kernel_rfl) | refine ⟨Aa (by kernel_rfl),?_⟩ | refine And.intro ?_ ?_ | fail)
 refine AD ?_
 simp (maxSteps:=10000000) +contextual -implicitDefEqProofs only [AX,AT,St.put,↓reduceIte,reduceCtorEq,Int.reduceLT,Nat.reduceLT,CS,B9,lx5]
 repeat' (first | exact Aa (by kernel_rfl) | refine ⟨Aa (by kernel_rfl),?_⟩ | refine And.intro ?_ ?_ | fail)
 refine Az (σ:=Nat) (fun j _=>⟨CW 0 81 [(1,.pt 0 0 0 0),(8,.sc (.int .i64 (j:Int)))],[⟨true,0,56,2,[.ag [.vw false [.ag [.sc (.int .i64 8),.sc (.string wE),.sc (.int .i64 0),.sc (.int .i64 a0)]],.vw false X]],false⟩],2+j⟩)
  (fun j=>j≤ms.length) (fun j=>ms.length - j) 0 (by omega) ?_ ?_ rfl ?_
 ·exact Gm
 ·exact DN _ [_]
 rintro j cnt hj ih
 obtain ⟨V,hV⟩:∃ V,2+j=V:=⟨_,rfl⟩
 rw [hV]
 by_cases hjn:j < ms.length
 rotate_left
 ·obtain rfl:j=ms.length:=by omega
  have h1:decide ((ms.length:Int) < (ms.length:Int))=false:=AZ
  refine Ac ?_
  refine Cb ?_
  exact Pd h1
  repeat' (first | exact Aa (by kernel_rfl) | refine ⟨Aa (by kernel_rfl),?_⟩ | refine And.intro ?_ ?_ | fail)
  all_goals exact Et
 have h1:decide ((j:Int) < (ms.length:Int))=true:=AA (by omega)
 have h0:decide (0≤(j:Int))=true:=AA (by omega)
 have h2:decide ((j:Int)≤(ms.length:Int))=true:=AA (by omega)
 have w2:IntKind.i64.wrap ((j:Int)+1)=((j+1:Nat):Int):=B8
 have hg:=hgX j hjn
 have x1:=e1s j (by omega)
 have hpm:(ms.getD j default).p≤99:=hp _ (by rw [lx81,lx50 hjn]; exact lx89 _)
 have ih:=ih (j+1) cnt (by omega) (by omega)
 rw [show 2+(j+1)=V+1 by omega] at ih
 generalize ms.getD j default=m at hg x1 hpm
 have h3:decide ((99:Int) < m.p)=false:=Ce (by omega)
 have hhs:(AV.vw false [SQ wE (AV.vw false (Hu m.s (a (BO ms j+9)) (a (BO ms j+8)) (a (BO ms j+11)) m.c)) (a (BO ms j+4))]).noref=true:=by
  cases h:m.c <;> simp [SQ,Hu,AV.noref,norefs,E9,JA,Jq]
 simp only [UP,Wn] at hg
 generalize (AV.vw false [SQ wE (AV.vw false (Hu m.s (a (BO ms j+9)) (a (BO ms j+8)) (a (BO ms j+11)) m.c)) (a (BO ms j+4))])=hs at hg hhs
 refine Ac ?_
 refine Cb ?_
 refine Dz (a8 h1 h2 h3 hg h4 x1 w2 hhs) ?_
 exact Av0
theorem s45 (a:Nat→Int) (a0:Int) (ms:List Mo) (hms:ms.length≤16) (hn:NmO ms) (hp:∀ m ∈ ms,m.p≤99) (hq:∀ m ∈ ms,MoQ m):Ap Tryz.prog 45 [EH a0 (Fo a ms)] (.tu [iW 0,iW 0]):=by
 have hml:=Qs a ms
 have h4:=Aow a ms
 have hXn:=Ww a ms
 have hz:Ap Tryz.prog 87 [EH a0 (Fo a ms),.sc (.string wNo),iW 0] (iW 0):=Br0 a0 _ (Bkj a0 _ (by omega) h4 wNo rfl (fun j hj=>⟨_,_,_,_,Nr a (by omega),hn.z j (by omega)⟩))
 obtain ⟨F1,k1,e1⟩:=Hm (s85 ms hms hq a a0)
 obtain ⟨F2,k2,e2⟩:=Hm (s86 a a0 ms hms hn hp)
 obtain ⟨F3,k3,e3⟩:=Hm x88
 obtain ⟨F4,k4,e4⟩:=Hm (Bqz a0 (Fo a ms))
 have e5:∀ m:Mo,∀ o,PO 89 (fun _=>.tu [iW 0,iW 0]) [EH a0 (Fo a ms),.vw false (Hu m.s (a (o+9)) (a (o+8)) (a (o+11)) m.c)]=some (.tu [iW 0,iW 0]):=fun m o=>Bk0 (s89 a0 _ hXn _ _ _ _ _ hz) rfl
 have k5:DC Tryz.prog 89 (PO 89 (fun _=>.tu [iW 0,iW 0])):=Bjz _ _
 generalize PO 89 (fun _=>AV.tu [iW 0,iW 0])=F5 at e5 k5
 have w1:IntKind.i64.wrap 1=1:=rfl
 have hgX:=fun j hj=>Nr a (ms:=ms) (j:=j) hj
 have e1':F1 [EH a0 (Fo a ms)]=some (.sc (.bool true)):=e1
 clear e1
 generalize Fo a ms=X at hml h4 hXn e1' e2 e4 e5 hgX ⊢
 simp only [EH,Fm,iW] at e1' e2 e3 e4 e5 ⊢
 refine Ab (Af (lit:=false) (pm:=fun _=>none) (.cons k1 (.cons k2 (.cons k3 (.cons k4 (.cons k5 .nil))))) .nil .nil .nil) rfl Tryz.func45 rfl (by decide) (by kernel_rfl) (by kernel_rfl) ?_
 simp only [Tryz.f45,Ae,lx52,lx63,Nat.reduceAdd,Nat.reduceSub,List.replicate]
 refine Ac ?_
 simp (maxSteps:=10000000) +contextual -implicitDefEqProofs only [AX,AT,St.put,Am,Aj,Ds,pl,↓reduceIte,Nat.reduceAdd,Nat.reduceEqDiff,CS,Int.reduceAdd,B9,e1',e2,lx5]
 refine Az (σ:=Nat) (fun j _=>⟨CW 0 113 [(1,.pt 0 0 0 0),(6,.sc (.int .i64 (j:Int)))],[⟨true,0,56,2,[.ag [.vw false [.ag [.sc (.int .i64 8),.sc (.string wE),.sc (.int .i64 0),.sc (.int .i64 a0)]],.vw false X]],false⟩],1⟩)
  (fun j=>j≤ms.length) (fun j=>ms.length - j) 0 (by omega) ?_ ?_ rfl ?_
 ·exact Gm
 ·exact Aq _
 rintro j cnt hj ih
 by_cases hjn:j < ms.length
 rotate_left
 ·obtain rfl:j=ms.length:=by omega
  have h1:decide ((ms.length:Int) < (ms.length:Int))=false:=AZ
  refine Ac ?_
  refine Cb ?_
  exact Pd (a2 hml h1)
  repeat' (first | exact Aa (by kernel_rfl) | refine ⟨Aa (by kernel_rfl),?_⟩ | refine And.intro ?_ ?_ | fail)
  all_goals exact Et
 have h1:decide ((j:Int) < (ms.length:Int))=true:=AA (by omega)
 have h0:decide (0≤(j:Int))=true:=AA (by omega)
 have w2:IntKind.i64.wrap ((j:Int)+1)=((j+1:Nat):Int):=B8
 have hg:=hgX j hjn
 have e5:=e5 (ms.getD j default) (BO ms j)
 have ih:=ih (j+1) cnt (by omega) (by omega)
 generalize ms.getD j default=m at hg e5
 generalize BO ms j=o at hg e5
 have hYn:norefs (Hu m.s (a (o+9)) (a (o+8)) (a (o+11)) m.c)=true:=by cases h:m.c <;> rfl
 simp only [UP,Wn,SQ] at hg
 generalize Hu m.s (a (o+9)) (a (o+8)) (a (o+11)) m.c=Y at hg e5 hYn
 refine Ac ?_
 refine Cb ?_
 refine Dz (a4 h1 hml hg h4) ?_
 repeat' (first | exact Aa (by kernel_rfl) | refine ⟨Aa (by kernel_rfl),?_⟩ | refine And.intro ?_ ?_ | fail)
 refine Bd ?_
 refine Dz (a2 e3 e4) ?_
 repeat' (first | exact Aa (by kernel_rfl) | refine ⟨Aa (by kernel_rfl),?_⟩ | refine And.intro ?_ ?_ | fail)
 refine Bd ?_
 refine Dz (a2 w1 e5) ?_
 repeat' (first | exact Aa (by kernel_rfl) | refine ⟨Aa (by kernel_rfl),?_⟩ | refine And.intro ?_ ?_ | fail)
 refine AD ?_
 refine Dz w2 ?_
 exact Aju
def LkD (r:AV) (k:Nat) (_:List AV) (H:List Blk) (cnt:Nat) (a:AV) (H':List Blk) (cnt':Nat):Prop:=a=r∧H'=H∧cnt'=cnt+k
noncomputable def lkF (g:Nat) (r:AV) (k:Nat):=hF Tryz.prog g (LkD r k)
theorem Aoy (g:Nat) (r:AV) (k:Nat):Jo Tryz.prog g (lkF g r k):=Ee _ _ _
theorem Aoz {g:Nat} {r:AV} {k:Nat} {args:List AV} {H:List Blk} {cnt:Nat} (h:HSpec Tryz.prog g args H cnt r H (cnt+k)):lkF g r k args H cnt=some (r,H,cnt+k):=by
 obtain ⟨a,H',c',g1,rfl,rfl,rfl⟩:=O7 (D:=LkD r k) h ⟨rfl,rfl,rfl⟩
 exact g1
theorem s91 (a0:Int) (X:List AV) (hXn:norefs X=true) (ins:List In) (w e:Nat) (R:List Blk) (cnt:Nat) (h:Ap Tryz.prog 127 [EH a0 X,.sc (.string wE)] (.tu [iW 8,iW 0])):
  HSpec Tryz.prog 91 [.pt 0 w 0 0,.sc (.string wE)] (GW [Fm wE a0] X ins w e R) cnt (iW 0) (GW [Fm wE a0] X ins w e R) (cnt+0):=by
 obtain ⟨F,kF,eF⟩:=Hm h
 simp only [EH,Fm,iW] at eF ⊢
 simp only [GW]
 refine Ad (Af (lit:=false) (pm:=fun _=>none) (.cons kF .nil) .nil .nil .nil) rfl Tryz.func91 rfl (by decide) (by kernel_rfl) ?_
 simp only [Tryz.f91,Ae,lx52,lx63,Nat.reduceAdd,Nat.reduceSub,List.replicate]
 refine Ac ?_
 exact Pd eF
 repeat' (first | exact Aa (by kernel_rfl) | refine ⟨Aa (by kernel_rfl),?_⟩ | refine And.intro ?_ ?_ | fail)
 all_goals exact Ajp
theorem s47 (a0:Int) (X:List AV) (hXn:norefs X=true) (ins:List In) (w e:Nat) (R:List Blk) (cnt:Nat) (bk:List AV) (hb:norefs bk=true) (b0:Int) (h:Ap Tryz.prog 127 [EH a0 X,.sc (.string wE)] (.tu [iW 8,iW 0])):
  HSpec Tryz.prog 47 [.pt 0 w 0 0,SQ wE (.vw false bk) b0] (GW [Fm wE a0] X ins w e R) cnt (iW 0) (GW [Fm wE a0] X ins w e R) (cnt+1):=by
 have e1:=fun R cnt=>Aoz (s91 a0 X hXn ins w e R cnt h)
 simp only [GW,SQ,iW,Gl] at e1 ⊢
 have k1:Jo Tryz.prog 91 (lkF 91 (iW 0) 0):=Aoy _ _ _
 simp only [iW] at k1
 generalize lkF 91 (AV.sc (.int .i64 0)) 0=F at e1 k1
 generalize ins.map Gd=I at e1 ⊢
 generalize Fm wE a0=d0 at e1 ⊢
 refine Ad (Af (lit:=false) (pm:=fun _=>none) .nil .nil .nil (.cons k1 .nil)) rfl Tryz.func47 rfl (by decide) (by kernel_rfl) ?_
 simp only [Tryz.f47,Ae,lx52,lx63,Nat.reduceAdd,Nat.reduceSub,List.replicate]
 refine Ac ?_
 exact Av4
def bdV:AV→Int
 | .vw _ (.ag [_,_,_,.vw _ [.ag [_,.sc (.int _ v),_,_,_]],_,_,_]::_)=>v
 | _=>0
def bdC:AV→Bool
 | .vw _ (_::r)=>!r.isEmpty
 | _=>false
theorem Ap0 (v a1 a0 c0:Int) (c:Bool):bdV (.vw false (Hu v a1 a0 c0 c))=v:=by cases c <;> rfl
theorem Ap1 (v a1 a0 c0:Int) (c:Bool):bdC (.vw false (Hu v a1 a0 c0 c))=c:=by cases c <;> rfl
noncomputable def f48:=coF 48 (fun b:AV=>[b]) (fun _ _=>.tu []) (fun b=>Js (bdV b) (bdC b)) (fun b=>kB (bdC b)) (fun b=>kB (bdC b)+1)
theorem Br7:Jo Tryz.prog 48 f48:=Ee _ _ _
theorem e48 (D M:List AV) (ins:List In) (hln:ins.length≤8000) (w e:Nat) (R:List Blk) (cnt:Nat) (v a1 a0 c0:Int) (c:Bool):
  f48 [.pt 0 w 0 0,.vw false (Hu v a1 a0 c0 c)] (GW D M ins w e R) cnt=some (.tu [],GW D M (ins++Js v c) w (cnt+kB c) R,cnt+(kB c+1)):=by
 have h:=s48 D M ins hln w e R cnt v a1 a0 c0 c
 have:=SD (g:=48) (enc:=fun b:AV=>[b]) (res:=fun _ _=>.tu []) (nx:=fun b=>Js (bdV b) (bdC b)) (ke:=fun b=>kB (bdC b)) (k:=fun b=>kB (bdC b)+1) (fun x y h=>(List.cons.inj h).1) (D:=D) (M:=M) (ins:=ins) (w:=w) (e:=e) (R:=R) (x:=.vw false (Hu v a1 a0 c0 c)) (cnt:=cnt) (by rw [Ap0,Ap1]; exact h)
 rw [Ap0,Ap1] at this
 exact this
def IB (ms:List Mo) (j:Nat):List In:=(ms.take j).flatMap D6
theorem Aiu {ms:List Mo} {j:Nat} (h:j < ms.length):IB ms (j+1)=IB ms j++Js (ms.getD j default).s (ms.getD j default).c++[⟨31,0⟩]:=by
 rw [IB,Iz h,lx114,List.flatMap_singleton,IB,lx6]
 congr 1
 cases hc:(ms.getD j default).c <;> simp only [D6,Js,hc,cond_true,cond_false,lx90,lx64]
theorem Ap2 (ms:List Mo) (j:Nat):(IB ms j).length=NB ms j:=rfl
def Ns (ms:List Mo) (j:Nat):List AV:=(List.range j).map fun i=>Fw (JC ms i)
theorem Aiv (ms:List Mo) (j:Nat):Ns ms (j+1)=Ns ms j++[Fw (JC ms j)]:=by
 rw [Ns,List.range_succ,lx10]; rfl
theorem Ap3 (ms:List Mo) (j:Nat):(Ns ms j).length=j:=by simp [Ns]
theorem Bba (ms:List Mo) (j:Nat):Bs 4 (Ns ms j)=true:=BT (f:=fun i=>Fw (JC ms i)) (fun _=>rfl) _
theorem Atu (ms:List Mo) (j:Nat):norefs (Ns ms j)=true:=Co (f:=fun i=>Fw (JC ms i)) (fun _=>by simp [Fw,kA,AV.noref,norefs]) _
def LQ (ms:List Mo) (j:Nat):List AV:=(ms.take j).map fun m=>kA .i64 m.p
theorem Aiw {ms:List Mo} {j:Nat} (h:j < ms.length):LQ ms (j+1)=LQ ms j++[.sc (.int .i64 (ms.getD j default).p)]:=by
 rw [LQ,Iz h,lx10]; rfl
theorem Ap4 {ms:List Mo} {j:Nat} (h:j≤ms.length):(LQ ms j).length=j:=by rw [LQ,lx57,lx68]; omega
theorem Bbb (ms:List Mo) (j:Nat):Bs 1 (LQ ms j)=true:=BT (f:=fun m:Mo=>kA .i64 m.p) (fun _=>rfl) _
theorem Atv (ms:List Mo) (j:Nat):norefs (LQ ms j)=true:=Co (f:=fun m:Mo=>kA .i64 m.p) (fun _=>by simp [kA,AV.noref]) _
def cpR (D X prs ens:List AV) (p q:Nat) (R:List Blk):List Blk:=⟨true,0,56,2,[.ag [.vw false D,.vw false X]],false⟩::⟨true,3,36,7,[.ag [.vw true [],.vw true [],.sl 6 q 0 ens.length,.sl 5 p 0 prs.length,.vw true [],.sc (.int .i64 0),.sc (.int .i64 1)]],false⟩::
 ⟨true,1,36,7,[.ag [.vw true [],.vw true [],.vw true [],.vw true [],.vw true [],.sc (.int .i64 0),.sc (.int .i64 0)]],false⟩::⟨true,p,3,1,prs,false⟩::⟨true,q,99,4,ens,false⟩::R
theorem s18 (a:Nat→Int) (a0:Int) (ms:List Mo) (hms:ms.length≤16) (hn:NmO ms) (hp:∀ m ∈ ms,m.p≤99) (hq:∀ m ∈ ms,MoQ m):Ba Tryz.prog 18 [EH a0 (Fo a ms)] (.tu [CI (AG ms),.sc (.int .i64 0),.sc (.int .i64 0)]):=by
 have hml:=Qs a ms
 have h4:=Aow a ms
 have hXn:=Ww a ms
 have hv:=s85 ms hms hq a a0
 obtain ⟨F1,k1,e1⟩:=Hm (s45 a a0 ms hms hn hp hq)
 obtain ⟨F2,k2,e2,e2'⟩:=Qk (Bjr a0 (Fo a ms) hv) (Bjs a0 (Fo a ms) hv) (by simp [iW])
 have h127:=Bq4 a0 (Fo a ms) hv
 have hgX:=fun j hj=>Nr a (ms:=ms) (j:=j) hj
 have w1:IntKind.i64.wrap 1=1:=rfl
 have e47:=fun (ins:List In) e R cnt bk hb b0=>Aoz (s47 a0 (Fo a ms) hXn ins 2 e R cnt bk hb b0 h127)
 have k47:Jo Tryz.prog 47 (lkF 47 (iW 0) 1):=Aoy _ _ _
 generalize lkF 47 (iW 0) 1=F47 at e47 k47
 generalize Fo a ms=X at hml h4 hXn e1 e2 e2' h127 hgX e47 ⊢
 simp only [EH,Fm,iW] at e1 e2 e2' ⊢
 refine BP (Af (lit:=false) (pm:=fun _=>none) (.cons k1 (.cons k2 .nil)) .nil .nil (.cons Br7 (.cons Atq (.cons k47 .nil)))) rfl Tryz.func18 rfl (by decide) (by kernel_rfl) (by simp [AV.noref,norefs,CI,kA]) ?_
 simp only [Tryz.f18,Ae,lx52,lx63,Nat.reduceAdd,Nat.reduceSub,List.replicate]
 refine Ac ?_
 refine Dz (a3 e1 e2 e2') ?_
 repeat' (first | exact Aa (by kernel_rfl) | refine ⟨Aa (by kernel_rfl),?_⟩ | refine And.intro ?_ ?_ | fail)
 refine Bd ?_
 refine Dz w1 ?_
 repeat' (first | exact Aa (by kernel_rfl) | refine ⟨Aa (by kernel_rfl),?_⟩ | refine And.intro ?_ ?_ | fail)
 refine AD ?_
 refine gP0 ?_
 repeat' (first | exact Aa (by kernel_rfl) | refine ⟨Aa (by kernel_rfl),?_⟩ | refine And.intro ?_ ?_ | fail)
 refine AB (T':=CW 0 184 [(1,.pt 0 0 0 0),(2,.pt 1 1 0 0),(7,.pt 2 2 0 0),(8,.pt 3 3 0 0),(10,.sc (.int .i64 0))]) ?_ (Aq _) (Av _) ?_
 ·exact Gm
 refine HX (T':=CW 0 184 [(1,.pt 0 0 0 0),(2,.pt 1 1 0 0),(7,.pt 2 2 0 0),(8,.pt 3 3 0 0),(10,.sc (.int .i64 0))]) (H':=[⟨true,0,56,2,[.ag [.vw false [.ag [.sc (.int .i64 8),.sc (.string wE),.sc (.int .i64 0),.sc (.int .i64 a0)]],.vw false X]],false⟩,⟨true,1,36,7,[.ag [.vw true [],.vw true [],.vw true [],.vw true [],.vw true [],.sc (.int .i64 0),.sc (.int .i64 0)]],false⟩,
  ⟨true,2,110,4,[.ag [.vw false [.ag [.sc (.int .i64 8),.sc (.string wE),.sc (.int .i64 0),.sc (.int .i64 a0)]],.vw false X,.sl 4 4 0 0,.vw true []]],false⟩,⟨true,3,36,7,[.ag [.vw true [],.vw true [],.vw true [],.vw true [],.vw true [],.sc (.int .i64 0),.sc (.int .i64 1)]],false⟩]) 4 102 2 5 (by omega) (by omega) (Cr _ _ _) ?_ ?_
 ·simp only [It,M8,AW]
  exact ⟨.inl rfl,.inl rfl,Ka _ _ _ _ _ _ _ _ _ _ ⟨I6 ⟨.refl _,.refl _,.nil,Cr _ _ _⟩,trivial⟩,.inl rfl⟩
 refine Ak0 ?_
 refine HX (T':=CW 0 184 [(1,.pt 0 0 0 0),(2,.pt 1 1 0 0),(7,.pt 2 2 0 0),(8,.pt 3 3 0 0),(10,.sc (.int .i64 0))]) (H':=[⟨true,0,56,2,[.ag [.vw false [.ag [.sc (.int .i64 8),.sc (.string wE),.sc (.int .i64 0),.sc (.int .i64 a0)]],.vw false X]],false⟩,⟨true,1,36,7,[.ag [.vw true [],.vw true [],.vw true [],.vw true [],.vw true [],.sc (.int .i64 0),.sc (.int .i64 0)]],false⟩,
  ⟨true,2,110,4,[.ag [.vw false [.ag [.sc (.int .i64 8),.sc (.string wE),.sc (.int .i64 0),.sc (.int .i64 a0)]],.vw false X,.sl 4 4 0 0,.vw true []]],false⟩,⟨true,3,36,7,[.ag [.vw true [],.vw true [],.vw true [],.sl 5 5 0 0,.vw true [],.sc (.int .i64 0),.sc (.int .i64 1)]],false⟩,⟨true,4,102,2,[],false⟩]) 5 3 1 6 (by omega) (by omega) (Cr _ _ _) ?_ ?_
 ·simp only [It,M8,AW]
  exact ⟨.inl rfl,.inl rfl,.inl rfl,Ka _ _ _ _ _ _ _ _ _ _ ⟨I6 ⟨.refl _,.refl _,.refl _,.nil,Cr _ _ _⟩,trivial⟩,.inl rfl⟩
 refine Ak0 ?_
 refine HX (T':=CW 0 184 [(1,.pt 0 0 0 0),(2,.pt 1 1 0 0),(7,.pt 2 2 0 0),(8,.pt 3 3 0 0),(10,.sc (.int .i64 0))]) (H':=[⟨true,0,56,2,[.ag [.vw false [.ag [.sc (.int .i64 8),.sc (.string wE),.sc (.int .i64 0),.sc (.int .i64 a0)]],.vw false X]],false⟩,⟨true,1,36,7,[.ag [.vw true [],.vw true [],.vw true [],.vw true [],.vw true [],.sc (.int .i64 0),.sc (.int .i64 0)]],false⟩,
  ⟨true,2,110,4,[.ag [.vw false [.ag [.sc (.int .i64 8),.sc (.string wE),.sc (.int .i64 0),.sc (.int .i64 a0)]],.vw false X,.sl 4 4 0 0,.vw true []]],false⟩,⟨true,3,36,7,[.ag [.vw true [],.vw true [],.sl 6 6 0 0,.sl 5 5 0 0,.vw true [],.sc (.int .i64 0),.sc (.int .i64 1)]],false⟩,⟨true,4,102,2,[],false⟩,⟨true,5,3,1,[],false⟩]) 6 99 4 7 (by omega) (by omega) (Cr _ _ _) ?_ ?_
 ·simp only [It,M8,AW]
  exact ⟨.inl rfl,.inl rfl,.inl rfl,Ka _ _ _ _ _ _ _ _ _ _ ⟨I6 ⟨.refl _,.refl _,.nil,Cr _ _ _⟩,trivial⟩,.inl rfl,.inl rfl⟩
 simp only [lx90,lx64,CW,Jw,Nat.reduceAdd,Nat.reduceEqDiff,lx8,lx9,↓reduceIte,CL]
 refine HU 0 2 (Bq _) (Bq _) (by simp) (by simp) ?_ ?_
 ·exact Aqm
 refine qd5 ?_
 refine HU 1 4 (Bq _) (Bq _) (by simp) (by simp) ?_ ?_
 ·exact Aqm
 refine qd5 ?_
 refine AB (T':=CW 0 184 [(1,.pt 2 0 0 0),(2,.pt 4 1 0 0),(7,.pt 0 2 0 0),(8,.pt 3 3 0 0),(10,.sc (.int .i64 0))]) (H':=GW [.ag [.sc (.int .i64 8),.sc (.string wE),.sc (.int .i64 0),.sc (.int .i64 a0)]] X [] 2 4 (cpR [.ag [.sc (.int .i64 8),.sc (.string wE),.sc (.int .i64 0),.sc (.int .i64 a0)]] X [] [] 5 6 [])) (c':=7) ?_ ?_ (Av _) ?_
 ·exact Gm
 ·simp only [GW,cpR,lx63,lx46]
  exact Ajt
 obtain ⟨D,hD⟩:∃ D,[Fm wE a0]=D:=⟨_,rfl⟩
 have hD':[.ag [.sc (.int .i64 8),.sc (.string wE),.sc (.int .i64 0),.sc (.int .i64 a0)]]=D:=hD
 rw [hD']
 simp only [hD,iW] at e47
 refine Az (σ:=Nat × Nat × Nat × Nat) (fun y cnt=>⟨CW 0 184 [(1,.pt 2 0 0 0),(2,.pt 4 1 0 0),(7,.pt 0 2 0 0),(8,.pt 3 3 0 0),(10,.sc (.int .i64 (y.1:Int)))],GW D X (IB ms y.1) 2 y.2.1 (cpR D X (LQ ms y.1) (Ns ms y.1) y.2.2.1 y.2.2.2 []),cnt⟩)
  (fun y=>y.1≤ms.length) (fun y=>ms.length - y.1) (0,4,5,6) (Bq _) ?_ ?_ rfl ?_
 ·exact Gm
 ·exact Aq _
 rintro ⟨j,e,p,q⟩ cnt hj ih
 simp only at hj ih ⊢
 have hjl:=Wt ms j hj
 rw [←Ap2] at hjl
 have hEl:=Ap3 ms j
 have hE4:=Bba ms j
 have hEn:=Atu ms j
 have hPl:=Ap4 hj
 have hP1:=Bbb ms j
 have hPn:=Atv ms j
 by_cases hjn:j < ms.length
 rotate_left
 ·obtain rfl:j=ms.length:=by omega
  have h1:decide ((ms.length:Int) < (ms.length:Int))=false:=AZ
  have hc1:decide ((4000:Int) < ((IB ms ms.length).length:Int))=false:=Ce (by omega)
  have hr:CI (AG ms)=.ag [.vw false ((IB ms ms.length).map Gd),.vw true [],.vw false (Ns ms ms.length),.vw false (LQ ms ms.length),.vw true [],.sc (.int .i64 0),.sc (.int .i64 1)]:=by
   have g1:IB ms ms.length=ms.flatMap D6:=by rw [IB,lx73]
   have g2:((List.range ms.length).map (JC ms)).map Fw=Ns ms ms.length:=by rw [List.map_map]; rfl
   have g3:(ms.map (·.p)).map (kA .i64)=LQ ms ms.length:=by rw [List.map_map,LQ,lx73]; rfl
   rw [Ai,g1]
   simp only [AG,g2,g3,lx46]
  rw [hr]
  have hIn:=Abq (IB ms ms.length)
  have hIl:((IB ms ms.length).map Gd).length=(IB ms ms.length).length:=lx57 _
  simp only [GW,cpR]
  generalize (IB ms ms.length).map Gd=I at hIn hIl ⊢
  generalize (IB ms ms.length).length=nI at hc1 hIl ⊢
  generalize Ns ms ms.length=E at hEl hE4 hEn ⊢
  generalize LQ ms ms.length=P at hPl hP1 hPn ⊢
  have hIt:I.take nI=I:=lx12 (by omega)
  have hEt:E.take ms.length=E:=lx12 (by omega)
  have hPt:P.take ms.length=P:=lx12 (by omega)
  have hIf:=fun id ver els=>KH id ver els I hIn
  have hEf:=fun id ver els=>KH id ver els E hEn
  have hPf:=fun id ver els=>KH id ver els P hPn
  have hDf:∀ id ver els,D3 id ver els D=D:=fun id ver els=>by rw [←hD]; rfl
  rw [hEl,hPl]
  refine JZ 0 1 ⟨true,e,102,2,I,false⟩ rfl rfl (Bq _) hIn ?_
  refine qd4 ?_
  refine JZ 0 5 ⟨true,p,3,1,P,false⟩ rfl rfl (Bq _) hPn ?_
  refine qd4 ?_
  refine JZ 0 6 ⟨true,q,99,4,E,false⟩ rfl rfl (Bq _) hEn ?_
  refine qd4 ?_
  refine Ac ?_
  exact Pd (a7 hml h1 hc1 hIl hIt hEt hPt)
  repeat' (first | exact Aa (by kernel_rfl) | refine ⟨Aa (by kernel_rfl),?_⟩ | refine And.intro ?_ ?_ | fail)
  all_goals first | exact .refl _ | rfl | skip
  all_goals done
 have h1:decide ((j:Int) < (ms.length:Int))=true:=AA (by omega)
 have h0:decide (0≤(j:Int))=true:=AA (by omega)
 have w2:IntKind.i64.wrap ((j:Int)+1)=((j+1:Nat):Int):=B8
 have hg:=hgX j hjn
 have ih:=fun e' p' q' c'=>ih (j+1,e',p',q') c' (by omega) (by omega)
 simp only [Aiu hjn,Aiv,Aiw hjn] at ih
 have hlent:Fw (JC ms j)=.ag [.sc (.int .i64 (j:Int)),.sc (.int .i64 6),.sc (.int .i64 0),.sc (.int .i64 ((IB ms j).length:Int))]:=rfl
 rw [hlent] at ih
 generalize BO ms j=o at hg
 generalize ms.getD j default=m at hg ih
 have hYn:norefs (Hu m.s (a (o+9)) (a (o+8)) (a (o+11)) m.c)=true:=by cases h:m.c <;> rfl
 have x48:=fun e R cnt=>e48 D X (IB ms j) (by omega) 2 e R cnt m.s (a (o+9)) (a (o+8)) (a (o+11)) m.c
 have x49:=fun e R cnt=>e49 D X (IB ms j++Js m.s m.c) (by have:(Js m.s m.c).length≤3:=by { cases m.c <;> simp [Js] }; rw [lx7]; omega) 2 e R cnt 31 0
 have x47:=fun e R cnt=>e47 (IB ms j) e R cnt _ hYn (a (o+4))
 simp only [UP,Wn,SQ] at hg x47
 generalize Hu m.s (a (o+9)) (a (o+8)) (a (o+11)) m.c=Y at hg hYn x48 x47
 generalize a (o+4)=b4 at hg x47
 generalize a o=b0 at hg
 have hc1:decide ((j+1) * 8≤140737488355328)=true:=AA (by omega)
 have hc2:decide ((j+1) * 32≤140737488355328)=true:=AA (by omega)
 have hPt:(LQ ms j).take j=LQ ms j:=lx12 (by omega)
 have hEt:(Ns ms j).take j=Ns ms j:=lx12 (by omega)
 generalize hI0:IB ms j=J0 at *
 generalize Js m.s m.c=JB at *
 simp only [GW,cpR] at x47 x48 x49 ih ⊢
 rw [hEl,hPl]
 simp only [lx7,lx52,lx63,hEl,hPl,CL] at ih
 simp only [lx7,lx52,lx63,CL] at x49
 generalize Ns ms j=E at *
 generalize LQ ms j=P at *
 generalize (J0++JB++[(⟨31,0⟩:In)]).map Gd=I2 at *
 generalize (J0++JB).map Gd=I1 at *
 generalize J0.map Gd=I0 at *
 refine Ac ?_
 refine Cb ?_
 refine Dz (a6 hml h1 hg h4 hPt hc1) ?_
 repeat' (first | exact Aa (by kernel_rfl) | refine ⟨Aa (by kernel_rfl),?_⟩ | refine And.intro ?_ ?_ | fail)
 refine Bd ?_
 refine Dz (a2 w1 x47) ?_
 repeat' (first | exact Aa (by kernel_rfl) | refine ⟨Aa (by kernel_rfl),?_⟩ | refine And.intro ?_ ?_ | fail)
 refine AD ?_
 refine gP0 ?_
 repeat' (first | exact Aa (by kernel_rfl) | refine ⟨Aa (by kernel_rfl),?_⟩ | refine And.intro ?_ ?_ | fail)
 generalize cnt+1=vP
 generalize vP+1=vN
 obtain ⟨HH,hHf,hHt⟩:∃ HH:Bool→Nat→Nat→List Blk,(∀ e q,HH false e q=[⟨true,2,110,4,[.ag [.vw false D,.vw false X,.sl 1 e 0 (J0.length),.vw true []]],false⟩,⟨true,e,102,2,I0,false⟩,⟨true,0,56,2,[.ag [.vw false D,.vw false X]],false⟩,⟨true,3,36,7,[.ag [.vw true [],.vw true [],.sl 6 q 0 (j),.sl 5 vP 0 (j+1),.vw true [],.sc (.int .i64 0),.sc (.int .i64 1)]],false⟩,⟨true,1,36,7,[.ag [.vw true [],.vw true [],.vw true [],.vw true [],.vw true [],.sc (.int .i64 0),.sc (.int .i64 0)]],false⟩,⟨true,vP,3,1,P++[.sc (.int .i64 m.p)],false⟩,⟨true,q,99,4,E,false⟩,⟨true,vN,3,1,[.sc (.int .i64 0)],false⟩])∧(∀ e q,HH true e q=[⟨true,2,110,4,[.ag [.vw false D,.vw false X,.sl 1 e 0 (J0.length+JB.length+1),.vw true []]],false⟩,⟨true,e,102,2,I2,false⟩,⟨true,0,56,2,[.ag [.vw false D,.vw false X]],false⟩,⟨true,3,36,7,[.ag [.vw true [],.vw true [],.sl 6 q 0 (j+1),.sl 5 vP 0 (j+1),.vw true [],.sc (.int .i64 0),.sc (.int .i64 1)]],false⟩,⟨true,1,36,7,[.ag [.vw true [],.vw true [],.vw true [],.vw true [],.vw true [],.sc (.int .i64 0),.sc (.int .i64 0)]],false⟩,⟨true,vP,3,1,P++[.sc (.int .i64 m.p)],false⟩,⟨true,q,99,4,E++[.ag [.sc (.int .i64 (j:Int)),.sc (.int .i64 6),.sc (.int .i64 0),.sc (.int .i64 (J0.length:Int))]],false⟩,⟨true,vN,3,1,[.sc (.int .i64 0)],false⟩]):=
  ⟨fun d e q=>bif d then [⟨true,2,110,4,[.ag [.vw false D,.vw false X,.sl 1 e 0 (J0.length+JB.length+1),.vw true []]],false⟩,⟨true,e,102,2,I2,false⟩,⟨true,0,56,2,[.ag [.vw false D,.vw false X]],false⟩,⟨true,3,36,7,[.ag [.vw true [],.vw true [],.sl 6 q 0 (j+1),.sl 5 vP 0 (j+1),.vw true [],.sc (.int .i64 0),.sc (.int .i64 1)]],false⟩,⟨true,1,36,7,[.ag [.vw true [],.vw true [],.vw true [],.vw true [],.vw true [],.sc (.int .i64 0),.sc (.int .i64 0)]],false⟩,⟨true,vP,3,1,P++[.sc (.int .i64 m.p)],false⟩,⟨true,q,99,4,E++[.ag [.sc (.int .i64 (j:Int)),.sc (.int .i64 6),.sc (.int .i64 0),.sc (.int .i64 (J0.length:Int))]],false⟩,⟨true,vN,3,1,[.sc (.int .i64 0)],false⟩] else [⟨true,2,110,4,[.ag [.vw false D,.vw false X,.sl 1 e 0 (J0.length),.vw true []]],false⟩,⟨true,e,102,2,I0,false⟩,⟨true,0,56,2,[.ag [.vw false D,.vw false X]],false⟩,⟨true,3,36,7,[.ag [.vw true [],.vw true [],.sl 6 q 0 (j),.sl 5 vP 0 (j+1),.vw true [],.sc (.int .i64 0),.sc (.int .i64 1)]],false⟩,⟨true,1,36,7,[.ag [.vw true [],.vw true [],.vw true [],.vw true [],.vw true [],.sc (.int .i64 0),.sc (.int .i64 0)]],false⟩,⟨true,vP,3,1,P++[.sc (.int .i64 m.p)],false⟩,⟨true,q,99,4,E,false⟩,⟨true,vN,3,1,[.sc (.int .i64 0)],false⟩],fun _ _=>rfl,fun _ _=>rfl⟩
 rw [←hHf e q]
 refine Az (σ:=Nat × Nat × Nat) (fun y cnt=>⟨CW 0 184 [(1,.pt 2 0 0 0),(2,.pt 4 1 0 0),(7,.pt 0 2 0 0),(8,.pt 3 3 0 0),(10,.sc (.int .i64 (j:Int))),(11,.vw false [.ag [.sc (.int .i64 6),.sc (.string wE),.vw false Y,.sc (.int .i64 b4)]]),(12,.sl 7 vN 0 1),(14,.sc (.int .i64 (y.1:Int)))],HH (decide (6 < y.1)) y.2.1 y.2.2,cnt⟩)
  (fun y=>1≤y.1∧y.1≤7) (fun y=>7 - y.1) (1,e,q) ⟨Av _,(by decide:1≤7)⟩ ?_ ?_ rfl ?_
 ·exact Gm
 ·exact Aq _
 rintro ⟨t,e,q⟩ cnt ⟨ht1,ht7⟩ ih2
 simp only at ht1 ht7 ih2 ⊢
 by_cases ht:t≤6
 rotate_left
 ·obtain rfl:t=7:=by omega
  have c1:decide (((7:Nat):Int)≤6)=false:=rfl
  rw [show decide (6 < 7)=true from rfl,hHt]
  refine Ac ?_
  refine Cb ?_
  refine Dz w2 ?_
  repeat' (first | exact Aa (by kernel_rfl) | refine ⟨Aa (by kernel_rfl),?_⟩ | refine And.intro ?_ ?_ | fail)
  all_goals first | rfl | skip
  refine AB ?_ ?_ (Av _) (ih e vP q _)
  ·exact Gm
  ·exact DN _ [_,_,_,_,_,_,_]
 have c1:decide ((t:Int)≤6)=true:=AA (by omega)
 have w3:IntKind.i64.wrap ((t:Int)+1)=((t+1:Nat):Int):=B8
 rw [show decide (6 < t)=false from Ce (by omega)]
 refine Ac ?_
 refine Cb ?_
 simp (maxSteps:=10000000) +contextual -implicitDefEqProofs only [AT,St.put,↓reduceIte,B9,c1,lx5]
 refine Az (σ:=Nat × Nat × Nat) (fun y cnt=>⟨CW 0 184 [(1,.pt 2 0 0 0),(2,.pt 4 1 0 0),(7,.pt 0 2 0 0),(8,.pt 3 3 0 0),(10,.sc (.int .i64 (j:Int))),(11,.vw false [.ag [.sc (.int .i64 6),.sc (.string wE),.vw false Y,.sc (.int .i64 b4)]]),(12,.sl 7 vN 0 1),(14,.sc (.int .i64 (t:Int))),(15,.sc (.int .i64 (y.1:Int)))],HH (decide (t=6∧0 < y.1)) y.2.1 y.2.2,cnt⟩)
  (fun y=>y.1≤128) (fun y=>128 - y.1) (0,e,q) (Bq _) ?_ ?_ rfl ?_
 ·exact Gm
 ·rw [show decide (t=6∧0 < 0)=false from Ce (by omega)]
  exact Aq _
 rintro ⟨n,e,q⟩ cnt hn8 ih3
 simp only at hn8 ih3 ⊢
 by_cases hn9:n < 128
 rotate_left
 ·obtain rfl:n=128:=by omega
  have c2:decide (((128:Nat):Int) < 128)=false:=rfl
  have ih2:=ih2 (t+1,e,q) cnt ⟨by omega,by omega⟩ (by omega)
  simp only at ih2
  rw [show decide (6 < t+1)=decide (t=6) by rw [decide_eq_decide]; omega] at ih2
  refine Ac ?_
  refine Cb ?_
  refine Dz w3 ?_
  repeat' (first | exact Aa (by kernel_rfl) | refine ⟨Aa (by kernel_rfl),?_⟩ | refine And.intro ?_ ?_ | fail)
  all_goals first | rfl | skip
  refine AB ?_ ?_ (Av _) ih2
  ·exact Gm
  ·exact Aq _
 have c2:decide ((n:Int) < 128)=true:=AA (by omega)
 have w4:IntKind.i64.wrap ((n:Int)+1)=((n+1:Nat):Int):=B8
 by_cases h60:t=6∧n=0
 ·obtain ⟨rfl,rfl⟩:=h60
  rw [show decide (6=6∧0 < 0)=false from rfl,hHf]
  refine Ac ?_
  refine Cb ?_
  refine gP0 ?_
  refine Bd ?_
  refine Dz (a2 w1 x48) ?_
  repeat' (first | exact Aa (by kernel_rfl) | refine ⟨Aa (by kernel_rfl),?_⟩ | refine And.intro ?_ ?_ | fail)
  refine AD ?_
  refine Dz (a4 w1 x49 hEt hc2) ?_
  repeat' (first | exact Aa (by kernel_rfl) | refine ⟨Aa (by kernel_rfl),?_⟩ | refine And.intro ?_ ?_ | fail)
  have ih3:=ih3 (1,cnt+(kB m.c+1)+1,cnt+(kB m.c+1)+2+1) (cnt+(kB m.c+1)+2+1+1) (by omega) (by omega)
  simp only [C5,AW,and_self,eq_self,Nat.zero_lt_one,decide_true,hHt] at ih3
  refine AB ?_ ?_ (Av _) ih3
  ·exact Gm
  ·exact Aq _
 ·have ih3:=ih3 (n+1,e,q) cnt (by omega) (by omega)
  simp only at ih3
  by_cases ht6:t=6
  ·subst ht6
   have hn0:0 < n:=An
   rw [show decide (6=6∧0 < n+1)=true from AA ⟨rfl,by omega⟩,hHt] at ih3
   rw [show decide (6=6∧0 < n)=true from AA ⟨rfl,hn0⟩,hHt]
   have b1:((0:Int) == (n:Int))=false:=JF
   exact Auy
  ·rw [show decide (t=6∧0 < n+1)=false from Ce (by omega),hHf] at ih3
   rw [show decide (t=6∧0 < n)=false from Ce (by omega),hHf]
   have b1:((6:Int) == (t:Int))=false:=JF
   exact Auy
end Go.Proofs.YtdjpkhjaibdogaaGreat
namespace Go.Proofs.YtdjpkhjaibdogaaGreat
open Go Go.SX
def cB (c i:Nat):Bool:=D2 .and .u16 (GD .u16 (c:Int) (i:Int)) 1 == 1
def lm1 (ps:List Nat) (c i:Nat):Mo:=⟨Z2 i,((ps.getD i 0 % 8:Nat):Int),(i:Int),cB c i⟩
def Te (ps:List Nat) (c:Nat):List Mo:=(List.range ps.length).map (lm1 ps c)
theorem Je (ps:List Nat) (c:Nat):(Te ps c).length=ps.length:=by simp [Te]
theorem KM {ps:List Nat} {c i:Nat} (h:i < ps.length):(Te ps c).getD i default=lm1 ps c i:=by
 rw [Te,lx81,lx23,SS h]; rfl
structure MoL (m:Mo):Prop where
 nm:∃ i,i < 16∧m.nm=Z2 i∧m.s=(i:Int)
 p:∃ k:Nat,k < 8∧m.p=(k:Int)
theorem Ap5 {ps:List Nat} {c:Nat} (h:ps.length≤16):∀ m ∈ Te ps c,MoL m:=fun m hm=>by
 obtain ⟨i,hi,rfl⟩:=lx35.1 hm
 rw [Hr] at hi
 exact ⟨⟨i,by omega,rfl,rfl⟩,⟨ps.getD i 0 % 8,Nat.mod_lt _ (show 0 < 8 by decide),rfl⟩⟩
theorem Bbc:Pm 16 (fun n=>okE (.sc (.bool false)) (pK Tryz.prog Wb (mkG [] []) 60 209 [.sc (.string (Z2 n))]))=true:=by kernel_rfl
theorem Bko (i:Nat) (h:i < 16):Ap Tryz.prog 209 [.sc (.string (Z2 i))] (.sc (.bool false)):=pQk (EZ Bbc i h)
theorem Bkp:Ap Tryz.prog 209 [.sc (.string Dk)] (.sc (.bool true)):=pQk (by kernel_rfl)
theorem Bkq:Ap Tryz.prog 209 [.sc (.string Tg)] (.sc (.bool true)):=pQk (by kernel_rfl)
theorem Axq:Ap Tryz.prog 209 [.sc (.string Bv)] (.sc (.bool true)):=pQk (by kernel_rfl)
theorem Bkr:Ap Tryz.prog 209 [.sc (.string Dg)] (.sc (.bool true)):=pQk (by kernel_rfl)
theorem Bks:Ap Tryz.prog 209 [.sc (.string Gk)] (.sc (.bool true)):=pQk (by kernel_rfl)
theorem Axr:Ap Tryz.prog 209 [.sc (.string wE)] (.sc (.bool false)):=pQk (by kernel_rfl)
def wdL (l:List UInt8):Bool:=LO (l.getD 0 0).toNat && l.all (fun c=>LO c.toNat || digB c.toNat) && Nat.ble l.length 12
theorem GX {w:ByteArray} {k:Int} {sp:Bool} (b:Bool) (hk:k=if b=true then 2 else 1) (h:wdL w.data.toList=true) (hz:Ap Tryz.prog 209 [.sc (.string w)] (.sc (.bool b))):PcO ⟨⟨k,w,0⟩,w.data.toList,sp⟩:=by
 simp only [wdL,AH,lx28,Nat.ble_eq] at h
 exact .word b (by rw [hk]) h.1.1 h.1.2 h.2 hz
theorem Ap6 {v:Nat} {sp:Bool} (h:v < 16):PcO ⟨⟨3,⟨#[]⟩,(v:Int)⟩,Og (v:Int).toNat,sp⟩:=.num v h rfl (by rw [Pa]; rfl)
theorem Atw:Pm 16 (fun i=>wdL (Z2 i).data.toList)=true:=by kernel_rfl
theorem Atx {m:Mo} (h:MoL m):∀ p ∈ Pn m,PcO p:=by
 obtain ⟨⟨i,hi,h1,h2⟩,k,hk,h3⟩:=h
 have hn:PcO ⟨⟨1,m.nm,0⟩,m.nm.data.toList,true⟩:=by rw [h1]; exact GX false rfl (EZ Atw i hi) (Bko i hi)
 have hp:∀ sp,PcO ⟨⟨3,⟨#[]⟩,m.p⟩,Og m.p.toNat,sp⟩:=fun sp=>by rw [h3]; exact Ap6 (by omega)
 have hs:∀ sp,PcO ⟨⟨3,⟨#[]⟩,m.s⟩,Og m.s.toNat,sp⟩:=fun sp=>by rw [h2]; exact Ap6 hi
 have a1:PcO ⟨⟨2,Dk,0⟩,Dk.data.toList,true⟩:=GX true rfl rfl Bkp
 have a2:PcO ⟨⟨2,Tg,0⟩,Tg.data.toList,true⟩:=GX true rfl rfl Bkq
 have a3:PcO ⟨⟨2,Bv,0⟩,Bv.data.toList,true⟩:=GX true rfl rfl Axq
 have a4:PcO ⟨⟨2,Dg,0⟩,Dg.data.toList,true⟩:=GX true rfl rfl Bkr
 have a5:PcO ⟨⟨2,Gk,0⟩,Gk.data.toList,false⟩:=GX true rfl rfl Bks
 have a6:PcO ⟨⟨1,wE,0⟩,[101],true⟩:=GX (w:=wE) false rfl rfl Axr
 have b1:PcO ⟨⟨5,Oe,0⟩,[123],true⟩:=.sign rfl (.inr (.inl rfl))
 have b2:PcO ⟨⟨5,Gw,0⟩,[125],true⟩:=.sign rfl (.inr (.inr rfl))
 have b3:PcO ⟨⟨5,BX,0⟩,[59],true⟩:=.sign rfl (.inl rfl)
 intro p hpm
 cases hc:m.c <;> simp only [Pn,hc,cond_true,cond_false,lx59,lx112,or_false] at hpm
 ·rcases hpm with rfl | rfl | rfl | rfl | rfl | rfl | rfl | rfl | rfl | rfl | rfl | rfl | rfl
  all_goals first | exact a1 | exact hn | exact hp _ | exact b1 | exact a2 | exact a3 | exact a6 | exact a4 | exact hs _ | exact b3 | exact b2
 ·rcases hpm with rfl | rfl | rfl | rfl | rfl | rfl | rfl | rfl | rfl | rfl | rfl | rfl | rfl | rfl | rfl
  all_goals first | exact a1 | exact hn | exact hp _ | exact b1 | exact a2 | exact a3 | exact a6 | exact a4 | exact hs _ | exact b3 | exact b2 | exact a5
def Ac7:List Pc→Prop
 | []=>True
 | p::l=>(p.sp=false→∃ q l',l=q::l'∧q.w=[59])∧Ac7 l
theorem Agp:∀ {l:List Pc},Ac7 l→∀ j,j < l.length→(l.getD j default).sp=false→j+1 < l.length∧(l.getD (j+1) default).w=[59]
 | p::l,h,0,_,hs=>by
  obtain ⟨q,l',rfl,hq⟩:=h.1 hs
  exact ⟨by simp,hq⟩
 | p::l,h,j+1,hj,hs=>by
  have:=Agp h.2 j (by simpa using hj) hs
  exact ⟨by simpa using this.1,this.2⟩
theorem Aix (m:Mo) {l:List Pc} (h:Ac7 l):Ac7 (Pn m++l):=by
 cases hc:m.c <;> simp [Pn,hc,Ac7,h]
theorem SI:∀ ms:List Mo,Ac7 (ms.flatMap Pn)
 | []=>trivial
 | m::ms=>by rw [List.flatMap_cons]; exact Aix m (SI ms)
theorem Ap7 {ms:List Mo} (h:∀ m ∈ ms,MoL m):PcsO (Hv ms) where
 one p hp:=by
  simp only [Hv,lx59,List.mem_flatMap] at hp
  rcases hp with rfl | rfl | rfl | ⟨m,hm,hp⟩
  ·exact GX true rfl rfl Axq
  ·exact GX (w:=wE) false rfl rfl Axr
  ·exact .sign rfl (.inl rfl)
  ·exact Atx (h m hm) p hp
 nxt:=Agp (by
  have:=SI ms
  simp [Hv,Ac7,this])
theorem Ac8:∀ {l:List Pc},(∀ p ∈ l,PcO p)→(Fz l).length≤13 * l.length
 | [],_=>Av 0
 | p::l,h=>by
  have h1:=Ac8 fun q hq=>h q (lx48 _ hq)
  have h2:=(h p lx47).len
  have h3:Fz (p::l)=pcB p++Fz l:=rfl
  rw [h3,lx7,pcB,lx7,lx52]
  cases p.sp <;> simp <;> omega
theorem Aa2 (ms:List Mo):(Hv ms).length=(Cf ms).length:=by rw [←Aok,lx57]
theorem Bbd {m:Mo} (h:MoL m):MoQ m:=by
 obtain ⟨⟨i,hi,h1,h2⟩,k,hk,h3⟩:=h
 refine ⟨by rw [h1]; exact Bj1 i hi,by omega,?_⟩
 rw [nV]; omega
theorem Ap8 {m:Mo} (h:MoL m):MoR m:=by
 obtain ⟨⟨i,hi,h1,h2⟩,k,hk,h3⟩:=h
 exact ⟨by omega,by omega⟩
theorem Br9:Pm 16 (fun i=>!(E8 wE.data.toList (Z2 i).data.toList))=true:=by kernel_rfl
theorem Bra:Pm 16 (fun i=>!(E8 (Z2 i).data.toList wNo.data.toList))=true:=by kernel_rfl
theorem Brb:Pm 16 (fun i=>Pm 16 (fun j=>Nat.beq i j || !(E8 (Z2 i).data.toList (Z2 j).data.toList)))=true:=by kernel_rfl
theorem Ap9 {ps:List Nat} {c:Nat} (h:ps.length≤16):NmO (Te ps c) where
 e j hj:=by
  rw [Je] at hj
  rw [KM hj]
  show E8 wE.data.toList (Z2 j).data.toList=false
  have:=EZ Br9 j (by omega)
  simpa using this
 z j hj:=by
  rw [Je] at hj
  rw [KM hj]
  show E8 (Z2 j).data.toList wNo.data.toList=false
  have:=EZ Bra j (by omega)
  simpa using this
 d i j hij hj:=by
  rw [Je] at hj
  rw [KM hj,KM (by omega)]
  show E8 (Z2 i).data.toList (Z2 j).data.toList=false
  have:=EZ (EZ Brb i (by omega)) j (by omega)
  rw [Hf] at this
  simp only [ID,Bw,Jt] at this
  rcases this with h | h
  ·omega
  ·exact h
end Go.Proofs.YtdjpkhjaibdogaaGreat
namespace Go.Proofs.YtdjpkhjaibdogaaGreat
open Go Go.SX
attribute [local congr] ite_congr
theorem Apa (ms:List Mo) (hms:ms.length≤16) (hL:∀ m ∈ ms,MoL m) (hn:NmO ms):Ba Tryz.prog 31 [.sc (.string ⟨⟨Fz (Hv ms)⟩⟩)] (.tu [CI (AG ms),.sc (.int .i64 0),.sc (.int .i64 0)]):=by
 obtain ⟨a,ha⟩:∃ a:Nat→Int,a=fun j=>(DV (Hv ms) j:Int):=⟨_,rfl⟩
 have hP:=Ap7 hL
 have hlen:(Hv ms).length≤243:=by
  have h1:=Nl ms ms.length (Av _)
  rw [Aa2,←Kk]; omega
 have htl:(Fz (Hv ms)).length≤13 * 243:=by
  have:=Ac8 hP.one
  omega
 have hsz:(⟨⟨Fz (Hv ms)⟩⟩:ByteArray).size≤13 * 243:=htl
 have h93:=Att hP (by simp [Hv]) (by omega) (by omega)
 rw [Aok,←ha] at h93
 have h51:=s51 _ (LL (Cf ms) a) false [Fm wE (a 0)] (Fo a ms) _ (by omega) h93 (fun w R cnt=>ZY ms hms a false _ w R cnt)
 have h18:=s18 a (a 0) ms hms hn (fun m hm=>by have:=(Ap8 (hL m hm)).p; omega) (fun m hm=>Bbd (hL m hm))
 generalize (⟨⟨Fz (Hv ms)⟩⟩:ByteArray)=s at h51 ⊢
 obtain ⟨F1,k1,e1⟩:=Ao8 h51
 obtain ⟨F2,k2,e2⟩:=Ao8 h18
 have hXn:=Ww a ms
 rw [Ai] at e2
 rw [Ai]
 generalize Fo a ms=X at e1 e2 hXn
 generalize (AG ms).ins.map Gd=c1 at e2 ⊢
 generalize (AG ms).strs.map stA=c2 at e2 ⊢
 generalize (AG ms).ens.map Fw=c3 at e2 ⊢
 generalize (AG ms).pri.map (kA .i64)=c4 at e2 ⊢
 generalize (AG ms).vars.map (kA .i64)=c5 at e2 ⊢
 simp only [EH,Fm] at e1 e2
 refine BP (Af (lit:=false) (pm:=fun _=>none) .nil (.cons k1 (.cons k2 .nil)) .nil .nil) rfl Tryz.func31 rfl (by decide) (by kernel_rfl) (by simp [AV.noref,norefs]) ?_
 simp only [Tryz.f31,Ae,lx52,lx63,Nat.reduceAdd,Nat.reduceSub,List.replicate]
 refine Ac ?_
 exact Pd (a2 e1 e2)
 repeat' (first | exact Aa (by kernel_rfl) | refine ⟨Aa (by kernel_rfl),?_⟩ | refine And.intro ?_ ?_ | fail)
 all_goals first | exact .refl _ | rfl | skip
end Go.Proofs.YtdjpkhjaibdogaaGreat
