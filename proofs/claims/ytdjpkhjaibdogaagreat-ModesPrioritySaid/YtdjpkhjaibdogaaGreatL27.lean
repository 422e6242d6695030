/-
  Lemmas towards ModesPriority (joined texts: BM, BN, CA, CB, CC, CD, CE, CF).
  Conditions: none.
-/
import Derived.Test.YtdjpkhjaibdogaaGreatL01
import Derived.Test.YtdjpkhjaibdogaaGreatL02
import Derived.Test.YtdjpkhjaibdogaaGreatL26
import Derived.Test.YtdjpkhjaibdogaaGreatL20
set_option linter.unusedSimpArgs false
set_option linter.unusedVariables false
set_option maxRecDepth 100000
set_option maxHeartbeats 8000000
namespace Go.Proofs.YtdjpkhjaibdogaaGreat
open Go Go.SX
attribute [local congr] ite_congr
theorem Afv {P:Program} {f:Nat} {args:List AV} {r:AV} (h:Ba P f args r):∃ F,VOk P f F∧F args=some r:=by
 refine ⟨fun a=>open Classical in if a=args then some r else none,?_,by simp⟩
 intro a v hv
 simp only at hv
 split at hv
 ·rename_i e; subst e; cases hv; exact h
 ·cases hv
theorem Asp {P:Program} {f:Nat} {args:List AV} {r:AV} (h:C4 P f args r):∃ F,FOk P f F∧F args=some r:=by
 refine ⟨fun a=>open Classical in if a=args then some r else none,?_,by simp⟩
 intro a v hv
 simp only at hv
 split at hv
 ·rename_i e; subst e; cases hv; exact h
 ·cases hv
structure Tq where
 hs:List Int
 ws:List (Int × Int)
 n:Nat
 v:Nat
def Nh (c:Cd) (k:Nat):Bool:=Ng (c.ens.getD k default) (c.ens.getD (k+1) default)
def Sp (c:Cd):Bool:=!(List.range (c.ens.length - 1)).any (fun k=>!Nh c k)
theorem Anx {c:Cd} {k:Nat} (hk:k+1 < c.ens.length) (h:Nh c k=false):Sp c=false:=by
 have:(List.range (c.ens.length - 1)).any (fun k=>!Nh c k)=true:=List.any_eq_true.2 ⟨k,Hr.2 (by omega),by simp [h]⟩
 rw [Sp,this]; rfl
theorem UI {c:Cd} (h:∀ k,k+1 < c.ens.length→Nh c k=true):Sp c=true:=by
 have:(List.range (c.ens.length - 1)).any (fun k=>!Nh c k)=false:=by
  rw [lx95]
  intro k hk
  rw [Hr] at hk
  simp [h k (by omega)]
 rw [Sp,this]; rfl
noncomputable def AY (c:Cd):Int:=if Sm c=false then 9 else if Jp c=false then 51 else if Hk c=false then 54 else if Sp c=false then 66 else if Jy c=false then 53 else 0
theorem ZG (c:Cd) (hq:Fit c):Ba Tryz.prog 98 [CI c] (.tu [.jk,kA .i64 (AY c)]):=by
 have hens:=hq.ens
 have x1:=Bob c hq
 have x2:=Boc c hq
 have x3:=Bod c hq
 simp only [Ai] at x1 x2 x3
 have x4:=fun a b=>Bo1 a b
 simp only [Cv] at x4
 by_cases ht:Hk c=true
 rotate_left
 ·rw [Hw] at ht
  refine BP (Af (lit:=false) (pm:=fun _=>none) (.cons Aww (.cons Awx (.cons Awy .nil))) .nil .nil .nil) rfl Tryz.func98 rfl (by decide) (by kernel_rfl) (by simp [kA,AV.noref,norefs]) ?_
  simp only [Tryz.f98,Ae,lx52,lx63,Nat.reduceAdd,Nat.reduceSub,List.replicate]
  refine Ac ?_
  rw [ht] at x3
  cases h1:Sm c with
  | false=>
   exact Bcy
  | true=>
  rw [h1] at x1
  cases h2:Jp c with
  | false=>
   exact Bcs
  | true=>
  rw [h2] at x2
  simp (maxSteps:=10000000) +contextual -implicitDefEqProofs only [AX,AT,St.put,Am,Aj,Ds,pl,↓reduceIte,Nat.reduceAdd,Nat.reduceEqDiff,CS,Int.reduceAdd,B9,AL,Ai,x1,x2,x3,AY,h1,h2,ht]
  all_goals done
 obtain ⟨F146,k146,e146⟩:=Afv (Wg c hq (Asi ht))
 simp only [Ai,Bb] at e146
 refine BP (Af (lit:=false) (pm:=fun _=>none) (.cons Aww (.cons Awx (.cons Awy (.cons Bgt .nil)))) (.cons k146 .nil) .nil .nil) rfl Tryz.func98 rfl (by decide) (by kernel_rfl) (by simp [kA,AV.noref,norefs]) ?_
 simp only [Tryz.f98,Ae,lx52,lx63,Nat.reduceAdd,Nat.reduceSub,List.replicate]
 refine Ac ?_
 rw [ht] at x3
 cases h1:Sm c with
 | false=>
  exact Bcy
 | true=>
 rw [h1] at x1
 cases h2:Jp c with
 | false=>
  exact Bcs
 | true=>
 rw [h2] at x2
 refine Pb (a4 x1 x2 x3 @Ai) ?_
 refine Az (σ:=Nat) (fun k cnt=>⟨CW 0 47 [(1,.pt 0 0 0 0),(4,.sc (.int .i64 ((k+1:Nat):Int)))],[⟨true,0,36,7,[CI c],false⟩],cnt⟩)
  (fun k=>(k+1≤c.ens.length∨k=0)∧∀ j,j < k→Nh c j=true) (fun k=>c.ens.length - k) 0 ⟨by omega,by omega⟩ ?_ ?_ rfl ?_
 ·exact Gm
 ·exact Ajs
 rintro k cnt ⟨hk,hn⟩ ih
 by_cases hk':k+1 < c.ens.length
 rotate_left
 ·have h3:decide (((k+1:Nat):Int) < (c.ens.length:Int))=false:=by rw [Cy]; omega
  have e:=UI (c:=c) (fun j hj=>hn j (by omega))
  refine Ac ?_
  cases h4:Jy c with
  | false=>
   exact Bch
  | true=>
   exact Bch
 have h3:decide (((k+1:Nat):Int) < (c.ens.length:Int))=true:=Au
 have h4:decide (k+1 < c.ens.length)=true:=Au
 have h5:decide (k < c.ens.length)=true:=Au
 have h6:decide ((k:Int) < (c.ens.length:Int))=true:=Au
 have w1:IntKind.i64.wrap (((k+1:Nat):Int)+1)=((k+1+1:Nat):Int):=CT
 have w2:IntKind.i64.wrap (((k+1:Nat):Int) - 1)=(k:Int):=CT
 have x4:=x4 (c.ens.getD k default) (c.ens.getD (k+1) default)
 have hl:Ng (c.ens.getD k default) (c.ens.getD (k+1) default)=Nh c k:=rfl
 rw [hl] at x4
 obtain ⟨a,ha⟩:∃ a,c.ens.getD k default=a:=⟨_,rfl⟩
 obtain ⟨b,hb⟩:∃ b,c.ens.getD (k+1) default=b:=⟨_,rfl⟩
 rw [ha,hb] at x4
 clear hl
 refine Ac ?_
 cases h7:Nh c k with
 | false=>
  rw [h7] at x4
  have e:=Anx hk' h7
  refine Cb ?_
  simp (maxSteps:=10000000) +contextual -implicitDefEqProofs only [AX,AT,St.put,Am,Aj,Ds,pl,↓reduceIte,reduceCtorEq,Nat.reduceAdd,Nat.reduceEqDiff,CS,Int.reduceAdd,B9,DO,Cv,Ai,norefs,AV.noref,h3,h4,h5,h6,w2,ha,hb,x4,CX,Ez,AY,h1,h2,ht,e]
  repeat' (first | exact Aa (by kernel_rfl) | refine ⟨Aa (by kernel_rfl),?_⟩ | refine And.intro ?_ ?_ | fail)
  all_goals done
 | true=>
  rw [h7] at x4
  have ih:=fun c=>ih (k+1) c ⟨by omega,De hn h7⟩ (by omega)
  refine Cb ?_
  refine Pb (Hp h3 h4 h5 h6 w1 w2 ha hb x4 @Cv @Ai @Ez) ?_
  repeat' (first | exact Aa (by kernel_rfl) | refine ⟨Aa (by kernel_rfl),?_⟩ | refine And.intro ?_ ?_ | fail)
  exact Ji
noncomputable def f53:=EF Fit (fun c=>[CI c]) (fun c=>kA .i64 (AY c))
theorem e53 (c:Cd) (h:Fit c):f53 [CI c]=some (.sc (.int .i64 (AY c))):=
 (AK (q:=Fit) (enc:=fun c=>[CI c]) (out:=fun c=>kA .i64 (AY c)) c h (by
  intro b h
  simp only [lx94,AW] at h
  rw [Dn h]) :)
theorem Asq:DC Tryz.prog 53 f53:=AN <| by
 rintro c hq
 obtain ⟨F98,k98,e98⟩:=Afv (ZG c hq)
 simp only [Ai,AL] at e98
 refine Ab (Af (lit:=false) (pm:=fun _=>none) .nil (.cons k98 .nil) .nil .nil) rfl Tryz.func53 rfl (by decide) (by kernel_rfl) (by kernel_rfl) ?_
 simp only [Tryz.f53,Ae,lx52,lx63,Nat.reduceAdd,Nat.reduceSub,List.replicate]
 refine Ac ?_
 exact Oy (a2 e98 @Ai)
 all_goals done
structure Lm where
 lv:Int
 on:Int
 off:Int
 si:Int
 deriving DecidableEq
instance:Inhabited Lm:=⟨⟨0,0,0,0⟩⟩
def lmA (x:Lm):AV:=.ag [kA .i64 x.lv,kA .i64 x.on,kA .i64 x.off,kA .i64 x.si]
theorem HZ (x:Lm):lmA x=.ag [.sc (.int .i64 x.lv),.sc (.int .i64 x.on),.sc (.int .i64 x.off),.sc (.int .i64 x.si)]:=rfl
theorem Asr {x y:Lm} (h:lmA x=lmA y):x=y:=by
 cases x; cases y; simp_all [lmA,kA]
structure Lo where
 mo:Int
 la:Int
 se:Lm
 deriving DecidableEq
instance:Inhabited Lo:=⟨⟨0,0,default⟩⟩
def B6 (x:Lo):AV:=.ag [kA .i64 x.mo,kA .i64 x.la,kA .i64 x.se.lv,kA .i64 x.se.on,kA .i64 x.se.off,kA .i64 x.se.si]
theorem BS (x:Lo):B6 x=.ag [.sc (.int .i64 x.mo),.sc (.int .i64 x.la),.sc (.int .i64 x.se.lv),.sc (.int .i64 x.se.on),.sc (.int .i64 x.se.off),.sc (.int .i64 x.se.si)]:=rfl
theorem Ni {x y:Lo} (h:B6 x=B6 y):x=y:=by
 obtain ⟨a,b,⟨c,d,e,f⟩⟩:=x; obtain ⟨a',b',⟨c',d',e',f'⟩⟩:=y; simp_all [B6,kA]
theorem Ql {l m:List Lo}:l.map B6=m.map B6↔l=m:=⟨DM (fun _ _=>Ni),fun h=>by rw [h]⟩
theorem CJ (l:List Lo):Bs 6 (l.map B6)=true:=BT (f:=B6) (fun _=>rfl) l
theorem Sq (l:List Lo):norefs (l.map B6)=true:=Co (f:=B6) (fun _=>by simp [B6,kA,AV.noref,norefs]) l
structure Rs where
 zv:Bool
 vars:List Int
 zl:Bool
 left:List Int
 act:Int
 zm:Bool
 lamps:List Lo
 fau:Int
instance:Inhabited Rs:=⟨⟨true,[],true,[],0,true,[],0⟩⟩
def Ki (s:Rs):AV:=.ag [.vw s.zv (s.vars.map (kA .i64)),.vw s.zl (s.left.map (kA .i64)),.sc (.int .u32 s.act),.vw s.zm (s.lamps.map B6),kA .i64 s.fau]
theorem Bf (s:Rs):Ki s=.ag [.vw s.zv (s.vars.map (kA .i64)),.vw s.zl (s.left.map (kA .i64)),.sc (.int .u32 s.act),.vw s.zm (s.lamps.map B6),.sc (.int .i64 s.fau)]:=rfl
theorem Wh {x y:Rs} (h:Ki x=Ki y):x=y:=by
 cases x; cases y; simp_all [Ki,kA,Kh,Ql]
theorem UJ (s:Rs):(Ki s).noref=true:=by simp [Ki,kA,AV.noref,norefs]
structure Vn where
 zv:Bool
 vars:List Int
 zl:Bool
 left:List Int
 clo:Int
 act:Int
 pl':Int
 ba:Int
instance:Inhabited Vn:=⟨⟨true,[],true,[],0,0,0,0⟩⟩
def UK (v:Vn):AV:=.ag [.vw v.zv (v.vars.map (kA .i64)),.vw v.zl (v.left.map (kA .i64)),.sc (.int .u64 v.clo),.sc (.int .u32 v.act),kA .i64 v.pl',kA .i64 v.ba]
theorem Dq (v:Vn):UK v=.ag [.vw v.zv (v.vars.map (kA .i64)),.vw v.zl (v.left.map (kA .i64)),.sc (.int .u64 v.clo),.sc (.int .u32 v.act),.sc (.int .i64 v.pl'),.sc (.int .i64 v.ba)]:=rfl
theorem Afw {x y:Vn} (h:UK x=UK y):x=y:=by
 cases x; cases y; simp_all [UK,kA,Kh]
theorem Aic (s:Vn):(UK s).noref=true:=by simp [UK,kA,AV.noref,norefs]
structure Cx where
 ti:Int
 clo:Int
 pl':Int
 ba:Int
instance:Inhabited Cx:=⟨⟨0,0,0,0⟩⟩
def ZH (v:Cx):AV:=.ag [kA .i64 v.ti,.sc (.int .u64 v.clo),kA .i64 v.pl',kA .i64 v.ba]
theorem E6 (v:Cx):ZH v=.ag [.sc (.int .i64 v.ti),.sc (.int .u64 v.clo),.sc (.int .i64 v.pl'),.sc (.int .i64 v.ba)]:=rfl
theorem Ass {x y:Cx} (h:ZH x=ZH y):x=y:=by
 cases x; cases y; simp_all [ZH,kA]
structure Ev where
 tr:Int
 ix:Int
 mo:Int
 deriving DecidableEq
instance:Inhabited Ev:=⟨⟨0,0,0⟩⟩
def Hq (x:Ev):AV:=.ag [kA .i64 x.tr,kA .i64 x.ix,kA .i64 x.mo]
theorem Cq (x:Ev):Hq x=.ag [.sc (.int .i64 x.tr),.sc (.int .i64 x.ix),.sc (.int .i64 x.mo)]:=rfl
theorem Wi {x y:Ev} (h:Hq x=Hq y):x=y:=by
 cases x; cases y; simp_all [Hq,kA]
theorem Ast {l m:List Ev}:l.map Hq=m.map Hq↔l=m:=⟨DM (fun _ _=>Wi),fun h=>by rw [h]⟩
theorem UL (l:List Ev):Bs 3 (l.map Hq)=true:=BT (f:=Hq) (fun _=>rfl) l
noncomputable def f155:=EF (fun _:Int=>True) (fun x=>[kA .i64 x]) (fun _=>bA false)
theorem Bal (x:Int):f155 [.sc (.int .i64 x)]=some (.sc (.bool false)):=
 (AK (q:=fun _:Int=>True) (enc:=fun x=>[kA .i64 x]) (out:=fun _=>bA false) x trivial (by intro y h; simpa [kA] using h) :)
theorem Bha:DC Tryz.prog 155 f155:=AN <| by
 rintro x -
 refine Ab (AF (.nil) (.nil)) rfl Tryz.func155 rfl (by decide) (by kernel_rfl) (by kernel_rfl) ?_
 simp only [Tryz.f155,Ae,lx52,lx63,Nat.reduceAdd,Nat.reduceSub,List.replicate]
 refine Ac ?_
 simp (maxSteps:=10000000) +contextual -implicitDefEqProofs only [AX,AT,St.put,AL,Bb]
def Gg (x y:Int):Int:=if x < y then -1 else if y < x then 1 else 0
theorem Afx (x y:Int):Gg x y < 0↔x < y:=by
 unfold Gg; split
 ·omega
 ·split <;> omega
noncomputable def f112:=EF (fun _:Int × Int=>True) (fun p=>[kA .i64 p.1,kA .i64 p.2]) (fun p=>kA .i64 (Gg p.1 p.2))
theorem Bhb (x y:Int):f112 [.sc (.int .i64 x),.sc (.int .i64 y)]=some (.sc (.int .i64 (Gg x y))):=
 (AK (q:=fun _:Int × Int=>True) (enc:=fun p=>[kA .i64 p.1,kA .i64 p.2]) (out:=fun p=>kA .i64 (Gg p.1 p.2)) (x,y) trivial (by rintro ⟨a,b⟩ h; simp_all [kA]) :)
theorem Ax1:DC Tryz.prog 112 f112:=AN <| by
 rintro ⟨x,y⟩ -
 refine Ab (AF ((.cons Bha .nil)) (.nil)) rfl Tryz.func112 rfl (by decide) (by kernel_rfl) (by kernel_rfl) ?_
 simp only [Tryz.f112,Ae,lx52,lx63,Nat.reduceAdd,Nat.reduceSub,List.replicate]
 refine Ac ?_
 rcases Int.lt_trichotomy x y with h | h | h
 ·have hc:Gg x y=-1:=by simp [Gg,h]
  exact SP (a3 h hc @Bal)
 ·have hc:Gg x y=0:=by simp [Gg,h]
  have h1:¬ x < y:=An
  have h2:¬ y < x:=An
  exact SP (a4 h1 h2 hc @Bal)
 ·have h1:¬ x < y:=by omega
  have hc:Gg x y=1:=by simp [Gg,h,h1]
  exact SP (a4 h h1 hc @Bal)
def orN (l:List Int):Int:=(l.find? (fun x=>x != 0)).getD 0
theorem Bam {l:List Int} {k:Nat} (hk:k < l.length) (h:(l.getD k default != 0)=true) (hn:∀ j,j < k→(l.getD j default != 0)=false):orN l=l.getD k default:=by
 have:l.find? (fun x=>x != 0)=some (l.getD k default):=by
  rw [List.find?_eq_some_iff_getElem]
  refine ⟨h,k,hk,by rw [lx81,lx50 hk]; rfl,fun j hj=>?_⟩
  exact Auv
 rw [orN,this]; rfl
theorem Ban {l:List Int} (hn:∀ j,j < l.length→(l.getD j default != 0)=false):orN l=0:=by
 have:l.find? (fun x=>x != 0)=none:=by
  rw [List.find?_eq_none]
  intro x hx
  obtain ⟨j,hj,rfl⟩:=lx69 hx
  have:=hn j hj
  rw [lx81,lx50 hj] at this
  simpa using this
 rw [orN,this]; rfl
noncomputable def f118:=EF (fun l:Bool × List Int=>l.2.length≤1000000) (fun l=>[.vw l.1 (l.2.map (kA .i64))]) (fun l=>kA .i64 (orN l.2))
theorem Bof (z:Bool) (a b:Int):f118 [.vw z [.sc (.int .i64 a),.sc (.int .i64 b)]]=some (.sc (.int .i64 (orN [a,b]))):=
 (AK (q:=fun l:Bool × List Int=>l.2.length≤1000000) (enc:=fun l=>[.vw l.1 (l.2.map (kA .i64))]) (out:=fun l=>kA .i64 (orN l.2)) (z,[a,b]) (by simp) (by
  rintro ⟨x,y⟩ h
  simp only [lx94,AV.vw.injEq,Kh,AW] at h
  rw [h.1,h.2]) :)
theorem Bhc:DC Tryz.prog 118 f118:=AN <| by
 rintro ⟨z,l⟩ hq
 simp only at hq
 refine Ab (AF (.nil) (.nil)) rfl Tryz.func118 rfl (by decide) (by kernel_rfl) (by kernel_rfl) ?_
 simp only [Tryz.f118,Ae,lx52,lx63,Nat.reduceAdd,Nat.reduceSub,List.replicate]
 refine qd7 ?_
 refine Az (σ:=Nat) (fun k cnt=>⟨CW 0 18 [(3,.sc (.int .i64 0)),(6,.vw z (l.map (kA .i64))),(7,.sc (.int .i64 l.length)),(8,.sc (.int .i64 k))],[],cnt⟩)
  (fun k=>k≤l.length∧∀ j,j < k→(l.getD j default != 0)=false) (fun k=>l.length - k) 0 ⟨by omega,by omega⟩ ?_ trivial rfl ?_
 ·exact Gm
 rintro k cnt ⟨hk,hn⟩ ih
 refine Ac ?_
 by_cases hk':k < l.length
 ·have h1:decide ((k:Int) < (l.length:Int))=true:=by rw [Bw]; omega
  have h2:decide (k < l.length)=true:=Au
  have w1:IntKind.i64.wrap ((k:Int)+1)=((k+1:Nat):Int):=CT
  cases h3:l.getD k default != 0 with
  | true=>
   have e:=Bam hk' h3 hn
   obtain ⟨x,hx⟩:∃ x,l.getD k default=x:=⟨_,rfl⟩
   rw [hx] at h3 e
   refine Cb ?_
   exact SP (a5 h1 h2 hx h3 e)
   all_goals done
  | false=>
   have ih:=fun c=>ih (k+1) c ⟨by omega,De hn h3⟩ (by omega)
   obtain ⟨x,hx⟩:∃ x,l.getD k default=x:=⟨_,rfl⟩
   rw [hx] at h3
   refine Cb ?_
   refine gC1 (a5 h1 h2 hx h3 w1) ?_
   refine AB ?_ ?_ (Av _) (ih _)
   all_goals exact Aye
 ·have hkl:k=l.length:=by omega
  subst hkl
  have h1:decide ((l.length:Int) < (l.length:Int))=false:=AZ
  have e:=Ban hn
  refine Cb ?_
  simp (maxSteps:=10000000) +contextual -implicitDefEqProofs only [AX,AT,St.put,↓reduceIte,h1,e]
  all_goals done
def Jz (a b:Lo):Int:=orN [Gg a.mo b.mo,Gg a.la b.la]
theorem Afy (a b:Int):orN [a,b]=if a=0 then b else a:=by
 by_cases h:a=0
 ·subst h
  by_cases h2:b=0
  ·subst h2; rfl
  ·simp [orN,h2]
 ·simp [orN,h]
theorem Asu (a b:Lo):Jz a b < 0↔a.mo < b.mo∨a.mo=b.mo∧a.la < b.la:=by
 rw [Jz,Afy]
 have h1:=Afx a.mo b.mo
 have h2:=Afx a.la b.la
 have h3:Gg a.mo b.mo=0↔a.mo=b.mo:=by
  unfold Gg; split
  ·omega
  ·split <;> omega
 split
 ·rename_i h; rw [h2]; have:=h3.1 h; omega
 ·rename_i h; rw [h1]; have:a.mo≠b.mo:=fun hh=>h (h3.2 hh); omega
noncomputable def f80:=EF (fun _:Lo × Lo=>True) (fun p=>[B6 p.1,B6 p.2]) (fun p=>kA .i64 (Jz p.1 p.2))
theorem e80 (a b:Lo):f80 [B6 a,B6 b]=some (.sc (.int .i64 (Jz a b))):=
 (AK (q:=fun _:Lo × Lo=>True) (enc:=fun p=>[B6 p.1,B6 p.2]) (out:=fun p=>kA .i64 (Jz p.1 p.2)) (a,b) trivial (by
  rintro ⟨x,y⟩ h
  simp only [lx94,AW] at h
  rw [Ni h.1,Ni h.2]) :)
theorem Bhd:DC Tryz.prog 80 f80:=AN <| by
 rintro ⟨a,b⟩ -
 refine Ab (AF ((.cons Ax1 (.cons Bhc .nil))) (.nil)) rfl Tryz.func80 rfl (by decide) (by kernel_rfl) (by kernel_rfl) ?_
 simp only [Tryz.f80,Ae,lx52,lx63,Nat.reduceAdd,Nat.reduceSub,List.replicate]
 refine Ac ?_
 simp (maxSteps:=10000000) +contextual -implicitDefEqProofs only [AX,AT,St.put,Am,Aj,Ds,pl,↓reduceIte,reduceCtorEq,Nat.reduceAdd,Nat.reduceLeDiff,Nat.reduceEqDiff,Nat.reduceMul,Int.reduceLT,Nat.reduceLT,CS,Int.reduceAdd,Int.reduceMul,B9,AL,BS,norefs,AV.noref,Bhb,Bof,Jz]
 repeat' (first | exact Aa (by kernel_rfl) | refine ⟨Aa (by kernel_rfl),?_⟩ | refine And.intro ?_ ?_ | fail)
 all_goals done
def ZI (t:Int):Bool:=decide (0≤t) && decide (t≤1099511627776)
noncomputable def f117:=EF (fun _:Int=>True) (fun x=>[kA .i64 x]) (fun x=>bA (ZI x))
theorem Bog (x:Int):f117 [.sc (.int .i64 x)]=some (.sc (.bool (ZI x))):=
 (AK (q:=fun _:Int=>True) (enc:=fun x=>[kA .i64 x]) (out:=fun x=>bA (ZI x)) x trivial (by intro y h; simp only [lx94,AW] at h; rw [BR h]) :)
theorem Bhe:DC Tryz.prog 117 f117:=AN <| by
 rintro x -
 refine Ab (AF (.nil) (.nil)) rfl Tryz.func117 rfl (by decide) (by kernel_rfl) (by kernel_rfl) ?_
 simp only [Tryz.f117,Ae,lx52,lx63,Nat.reduceAdd,Nat.reduceSub,List.replicate]
 refine Ac ?_
 simp (maxSteps:=10000000) +contextual -implicitDefEqProofs only [AX,AT,Ao,St.put,↓reduceIte,AL,Bb,ZI]
def O6 (x:Lm):Bool:=decide (0≤x.lv∧x.lv≤8∧(0≤x.si∧x.si≤1099511627776)∧0≤x.off∧x.off≤1000∧((x.off=0∧x.on=0)∨(0 < x.off∧1≤x.on∧x.on≤1000)))
noncomputable def f79:=EF (fun _:Lm=>True) (fun x=>[lmA x]) (fun x=>bA (O6 x))
theorem e79 (x:Lm):f79 [lmA x]=some (.sc (.bool (O6 x))):=
 (AK (q:=fun _:Lm=>True) (enc:=fun x=>[lmA x]) (out:=fun x=>bA (O6 x)) x trivial (by intro y h; simp only [lx94,AW] at h; rw [Asr h]) :)
theorem Boh:DC Tryz.prog 79 f79:=AN <| by
 rintro ⟨l,n,f,c⟩ -
 refine Ab (AF ((.cons Bhe .nil)) (.nil)) rfl Tryz.func79 rfl (by decide) (by kernel_rfl) (by kernel_rfl) ?_
 simp only [Tryz.f79,Ae,lx52,lx63,Nat.reduceAdd,Nat.reduceSub,List.replicate]
 refine Ac ?_
 refine gC1 (a2 @HZ @Bog) ?_
 simp only [O6,ZI]
 repeat' (refine Ali (fun h=>?_) (fun h=>?_))
 all_goals refine congrArg (fun b=>AV.sc (.bool b)) (Bool.eq_iff_iff.2 ?_)
 all_goals simp only [ID,AH,Jt,Bw,Cy,lx86,DD,false_iff,true_iff,Bool.and_eq_false_iff] at *
 all_goals omega
def B7 (a m:Int):Bool:=D2 .and .u32 (GD .u32 a m) 1 == 1
def atQ (p:Rs × Int):Prop:=0≤p.2∧p.2≤1000000
noncomputable def f58:=EF atQ (fun p=>[Ki p.1,kA .i64 p.2]) (fun p=>bA (B7 p.1.act p.2))
theorem e58 (s:Rs) (m:Int) (h:0≤m∧m≤1000000):f58 [Ki s,.sc (.int .i64 m)]=some (.sc (.bool (B7 s.act m))):=
 (AK (q:=atQ) (enc:=fun p=>[Ki p.1,kA .i64 p.2]) (out:=fun p=>bA (B7 p.1.act p.2)) (s,m) h (by
  rintro ⟨x,y⟩ h
  simp only [lx94,AW] at h
  rw [Wh h.1,BR h.2]) :)
theorem Aid:DC Tryz.prog 58 f58:=AN <| by
 rintro ⟨s,m⟩ ⟨h0,h1⟩
 simp only at h0 h1
 refine Ab (AF (.nil) (.nil)) rfl Tryz.func58 rfl (by decide) (by kernel_rfl) (by kernel_rfl) ?_
 simp only [Tryz.f58,Ae,lx52,lx63,Nat.reduceAdd,Nat.reduceSub,List.replicate]
 refine Ac ?_
 simp (maxSteps:=10000000) +contextual -implicitDefEqProofs only [AX,AT,St.put,↓reduceIte,reduceCtorEq,Nat.reduceAdd,CS,Int.reduceAdd,B9,AL,Bb,Bf,h0,B7]
 all_goals done
def DR (s:Rs) (x:Cx):Vn:=⟨s.zv,s.vars,s.zl,s.left,x.clo,s.act,x.pl',x.ba⟩
noncomputable def f78:=EF (fun _:Rs × Cx=>True) (fun p=>[Ki p.1,ZH p.2]) (fun p=>UK (DR p.1 p.2))
theorem e78 (s:Rs) (x:Cx):f78 [Ki s,ZH x]=some (UK (DR s x)):=
 (AK (q:=fun _:Rs × Cx=>True) (enc:=fun p=>[Ki p.1,ZH p.2]) (out:=fun p=>UK (DR p.1 p.2)) (s,x) trivial (by
  rintro ⟨a,b⟩ h
  simp only [lx94,AW] at h
  rw [Wh h.1,Ass h.2]) :)
theorem Boi:VOk Tryz.prog 78 f78:=Am1 <| by
 rintro ⟨s,x⟩ -
 refine BP (Af (lit:=false) (pm:=fun _=>none) .nil .nil .nil .nil) rfl Tryz.func78 rfl (by decide) (by kernel_rfl) (Aic _) ?_
 simp only [Tryz.f78,Ae,lx52,lx63,Nat.reduceAdd,Nat.reduceSub,List.replicate]
 refine Ac ?_
 simp (maxSteps:=10000000) +contextual -implicitDefEqProofs only [AX,AT,St.put,Am,Aj,↓reduceIte,reduceCtorEq,Nat.reduceAdd,Nat.reduceLeDiff,Int.reduceLT,Nat.reduceLT,CS,Int.reduceAdd,B9,Bf,Dq,E6,DR]
 all_goals done
def GH (lo n:Int):Bool:=decide (n < lo) || decide ((2147483647:Int) < n)
noncomputable def f114:=EF (fun _:Int=>True) (fun x=>[kA .i64 x]) (fun x=>.fn 115 [.vp [kA .i64 x] 0 0])
theorem Ao0 (x:Int):f114 [.sc (.int .i64 x)]=some (.fn 115 [.vp [.sc (.int .i64 x)] 0 0]):=
 (AK (q:=fun _:Int=>True) (enc:=fun x=>[kA .i64 x]) (out:=fun x=>.fn 115 [.vp [kA .i64 x] 0 0]) x trivial (by intro y h; simp only [lx94,AW] at h; rw [BR h]) :)
theorem Ax2:VOk Tryz.prog 114 f114:=Am1 <| by
 rintro x -
 refine BP (Af (lit:=false) (pm:=fun _=>none) .nil .nil .nil .nil) rfl Tryz.func114 rfl (by decide) (by kernel_rfl) (by simp [AV.noref,norefs]) ?_
 simp only [Tryz.f114,Ae,lx52,lx63,Nat.reduceAdd,Nat.reduceSub,List.replicate]
 refine Ac ?_
 simp (maxSteps:=10000000) +contextual -implicitDefEqProofs only [AX,AT,St.put,Am,Aj,↓reduceIte,B9,AL]
 all_goals done
noncomputable def f115:=EF (fun _:Int × Int=>True) (fun p=>[kA .i64 p.1,.vp [kA .i64 p.2] 0 0]) (fun p=>bA (GH p.2 p.1))
theorem Asv (n lo:Int):f115 [kA .i64 n,.vp [.sc (.int .i64 lo)] 0 0]=some (bA (GH lo n)):=
 (AK (q:=fun _:Int × Int=>True) (enc:=fun p=>[kA .i64 p.1,.vp [kA .i64 p.2] 0 0]) (out:=fun p=>bA (GH p.2 p.1)) (n,lo) trivial (by
  rintro ⟨a,b⟩ h
  simp only [lx94,AV.vp.injEq,AW] at h
  rw [BR h.1,BR h.2]) :)
theorem Ao1:DC Tryz.prog 115 f115:=AN <| by
 rintro ⟨n,lo⟩ -
 refine Ab (AF (.nil) (.nil)) rfl Tryz.func115 rfl (by decide) (by kernel_rfl) (by kernel_rfl) ?_
 simp only [Tryz.f115,Ae,lx52,lx63,Nat.reduceAdd,Nat.reduceSub,List.replicate]
 refine Ac ?_
 simp (maxSteps:=10000000) +contextual -implicitDefEqProofs only [AX,AT,Ao,St.put,↓reduceIte,CS,AL,Bb,AV.noref,GH]
 all_goals done
noncomputable def H4 (c:Cd) (v:Vn):Bool:=(AY c == 0) && ((v.vars.length:Int) == c.vars.length) && ((v.left.length:Int) == c.tim) && !v.vars.any (GH (-2147483647)) && !v.left.any (GH 0) && (GD .u32 v.act c.pri.length == 0) && !GH 0 v.pl' && !GH 0 v.ba
theorem Iw {c:Cd} (h:AY c=0):Sm c=true∧Jp c=true∧Hk c=true∧Sp c=true∧Jy c=true:=by
 unfold AY at h
 split at h
 ·cases h
 ·rename_i h1
  split at h
  ·cases h
  ·rename_i h2
   split at h
   ·cases h
   ·rename_i h3
    split at h
    ·cases h
    ·rename_i h4
     split at h
     ·cases h
     ·rename_i h5
      exact ⟨by simpa using h1,by simpa using h2,by simpa using h3,by simpa using h4,by simpa using h5⟩
theorem CK {c:Cd} (h:AY c=0):c.ins.length≤4000∧c.strs.length≤200∧c.ens.length≤512∧c.pri.length≤16∧c.vars.length≤128∧(0≤c.tim∧c.tim≤128)∧0≤c.evs∧c.evs≤128:=by
 have:=(Iw h).1
 simp only [Sm,AH,Bw] at this
 obtain ⟨⟨⟨⟨⟨⟨h1,h2⟩,h3⟩,h4⟩,h5⟩,h6⟩,h7⟩:=this
 have h6:=Fx.1 h6
 have h7:=Fx.1 h7
 omega
def vnQ (p:Cd × Vn):Prop:=Fit p.1
noncomputable def f77:=EF vnQ (fun p=>[CI p.1,UK p.2]) (fun p=>bA (H4 p.1 p.2))
theorem e77 (c:Cd) (v:Vn) (h:Fit c):f77 [CI c,UK v]=some (.sc (.bool (H4 c v))):=
 (AK (q:=vnQ) (enc:=fun p=>[CI p.1,UK p.2]) (out:=fun p=>bA (H4 p.1 p.2)) (c,v) h (by
  rintro ⟨a,b⟩ h
  simp only [lx94,AW] at h
  rw [Dn h.1,Afw h.2]) :)
theorem Bhg:DC Tryz.prog 77 f77:=AN <| by
 rintro ⟨c,v⟩ hq
 have hq:Fit c:=hq
 have x1:=e53 c hq
 simp only [Ai] at x1
 have hsh:(0:Int)≤(c.pri.length:Int):=ND _
 by_cases h:AY c=0∧(v.vars.length:Int)=c.vars.length∧(v.left.length:Int)=c.tim
 rotate_left
 ·have hE:H4 c v=false:=by
   rw [Bool.eq_false_iff]
   intro hh
   simp only [H4,AH,lx86] at hh
   exact h ⟨hh.1.1.1.1.1.1.1,hh.1.1.1.1.1.1.2,hh.1.1.1.1.1.2⟩
  simp only
  rw [hE]
  refine Ab (Af (lit:=false) (pm:=fun _=>none) (.cons Asq .nil) (.cons Ax2 .nil) .nil .nil) rfl Tryz.func77 rfl (by decide) (by kernel_rfl) (by kernel_rfl) ?_
  simp only [Tryz.f77,Ae,lx52,lx63,Nat.reduceAdd,Nat.reduceSub,List.replicate]
  refine Ac ?_
  cases h1:(AY c == 0) with
  | false=>
   exact SP (a3 x1 h1 @Dq)
   repeat' (first | exact Aa (by kernel_rfl) | refine ⟨Aa (by kernel_rfl),?_⟩ | refine And.intro ?_ ?_ | fail)
   all_goals done
  | true=>
  cases h2:((v.vars.length:Int) == (c.vars.length:Int)) with
  | false=>
   exact SP (a4 x1 h1 h2 @Dq)
   repeat' (first | exact Aa (by kernel_rfl) | refine ⟨Aa (by kernel_rfl),?_⟩ | refine And.intro ?_ ?_ | fail)
   all_goals done
  | true=>
  cases h3:((v.left.length:Int) == c.tim) with
  | false=>
   exact SP (a5 x1 h1 h2 h3 @Dq)
   repeat' (first | exact Aa (by kernel_rfl) | refine ⟨Aa (by kernel_rfl),?_⟩ | refine And.intro ?_ ?_ | fail)
   all_goals done
  | true=>
   simp only [lx86] at h1 h2 h3
   exact absurd ⟨h1,h2,h3⟩ h
 obtain ⟨h1,h2,h3⟩:=h
 have hl:=CK h1
 have b1:(AY c == 0)=true:=by simp [h1]
 have b2:((v.vars.length:Int) == (c.vars.length:Int))=true:=by simp [h2]
 have b3:((v.left.length:Int) == c.tim)=true:=by simp [h3]
 obtain ⟨F116,k116,e116,e116'⟩:=Qk (Awv Ao1 (GH (-2147483647)) [kA .i64 (-2147483647)] v.zv v.vars (fun b _=>Asv b (-2147483647)) (by omega)) (Awv Ao1 (GH 0) [kA .i64 0] v.zl v.left (fun b _=>Asv b 0) (by omega)) (by simp [kA])
 simp only [AL,Bb] at e116 e116'
 have x2:=Asv v.pl' 0
 have x3:=Asv v.ba 0
 simp only [AL,Bb] at x2 x3
 have hE:H4 c v=(!v.vars.any (GH (-2147483647)) && !v.left.any (GH 0) && (GD .u32 v.act c.pri.length == 0) && !GH 0 v.pl' && !GH 0 v.ba):=by
  simp only [H4,b1,b2,b3,KP]
 simp only
 rw [hE]
 clear hl
 refine Ab (Af (lit:=false) (pm:=fun _=>none) (.cons Asq (.cons k116 (.cons Ao1 .nil))) (.cons Ax2 .nil) .nil .nil) rfl Tryz.func77 rfl (by decide) (by kernel_rfl) (by kernel_rfl) ?_
 simp only [Tryz.f77,Ae,lx52,lx63,Nat.reduceAdd,Nat.reduceSub,List.replicate]
 refine Ac ?_
 cases c1:v.vars.any (GH (-2147483647)) with
 | true=>
  rw [c1] at e116
  exact SP (a7 x1 b1 b2 b3 e116 @Dq @Ao0)
  repeat' (first | exact Aa (by kernel_rfl) | refine ⟨Aa (by kernel_rfl),?_⟩ | refine And.intro ?_ ?_ | fail)
  all_goals done
 | false=>
 rw [c1] at e116
 cases c2:v.left.any (GH 0) with
 | true=>
  rw [c2] at e116'
  exact SP (a8 x1 b1 b2 b3 e116 e116' @Dq @Ao0)
  repeat' (first | exact Aa (by kernel_rfl) | refine ⟨Aa (by kernel_rfl),?_⟩ | refine And.intro ?_ ?_ | fail)
  all_goals done
 | false=>
 rw [c2] at e116'
 cases c3:(GD .u32 v.act c.pri.length == 0) with
 | false=>
  exact SP (HO x1 b1 b2 b3 hsh e116 e116' c3 @Dq @Ao0)
  repeat' (first | exact Aa (by kernel_rfl) | refine ⟨Aa (by kernel_rfl),?_⟩ | refine And.intro ?_ ?_ | fail)
  all_goals done
 | true=>
 cases c4:GH 0 v.pl' with
 | true=>
  rw [c4] at x2
  exact SP (Jk x1 b1 b2 b3 hsh e116 e116' c3 x2 @Dq @Ao0)
  repeat' (first | exact Aa (by kernel_rfl) | refine ⟨Aa (by kernel_rfl),?_⟩ | refine And.intro ?_ ?_ | fail)
  all_goals done
 | false=>
  rw [c4] at x2
  exact SP (Hp x1 b1 b2 b3 hsh e116 e116' c3 x2 x3 @Dq @Ao0)
  repeat' (first | exact Aa (by kernel_rfl) | refine ⟨Aa (by kernel_rfl),?_⟩ | refine And.intro ?_ ?_ | fail)
  all_goals done
def AP (n:Int):Int:=if n < -2147483647 then -2147483647 else if 2147483647 < n then 2147483647 else n
theorem G1 (n:Int):-2147483647≤AP n∧AP n≤2147483647:=by
 unfold AP; split
 ·omega
 ·split <;> omega
theorem Ao2 (n:Int):min (max n (-2147483647)) 2147483647=AP n:=by
 unfold AP; split
 ·omega
 ·split <;> omega
noncomputable def Bhh:=EF (fun _:Int=>True) (fun x=>[kA .i64 x]) (fun x=>kA .i64 (AP x))
theorem Aie (x:Int):Bhh [.sc (.int .i64 x)]=some (.sc (.int .i64 (AP x))):=
 (AK (q:=fun _:Int=>True) (enc:=fun x=>[kA .i64 x]) (out:=fun x=>kA .i64 (AP x)) x trivial (by intro y h; simp only [lx94,AW] at h; rw [BR h]) :)
theorem Ax3:DC Tryz.prog 247 Bhh:=AN <| by
 rintro x -
 refine Ab (AF (.nil) (.nil)) rfl Tryz.func247 rfl (by decide) (by kernel_rfl) (by kernel_rfl) ?_
 simp only [Tryz.f247,Ae,lx52,lx63,Nat.reduceAdd,Nat.reduceSub,List.replicate]
 refine Ac ?_
 simp (maxSteps:=10000000) +contextual -implicitDefEqProofs only [AX,AT,St.put,B9,AL,Ao2]
 all_goals done
structure Ef where
 k:Int
 a:Int
 b:Int
 c:Int
 t:ByteArray
 deriving DecidableEq
instance:Inhabited Ef:=⟨⟨0,0,0,0,⟨#[]⟩⟩⟩
def EJ (x:Ef):AV:=.ag [kA .i64 x.k,kA .i64 x.a,kA .i64 x.b,kA .i64 x.c,stA x.t]
theorem DK (x:Ef):EJ x=.ag [.sc (.int .i64 x.k),.sc (.int .i64 x.a),.sc (.int .i64 x.b),.sc (.int .i64 x.c),.sc (.string x.t)]:=rfl
theorem Wj {x y:Ef} (h:EJ x=EJ y):x=y:=by
 cases x; cases y; simp_all [EJ,kA,stA]
theorem Afz {l m:List Ef}:l.map EJ=m.map EJ↔l=m:=⟨DM (fun _ _=>Wj),fun h=>by rw [h]⟩
theorem Oc (l:List Ef):Bs 5 (l.map EJ)=true:=BT (f:=EJ) (fun _=>rfl) l
theorem Sr (l:List Ef):norefs (l.map EJ)=true:=Co (f:=EJ) (fun _=>by simp [EJ,kA,stA,AV.noref,norefs]) l
def Wk:Cx:=⟨0,0,0,0⟩
def loX (c:Cd) (s:Rs) (o:Lo):Bool:=decide (o.mo < 0) || decide ((c.pri.length:Int)≤o.mo) || !B7 s.act o.mo || decide (o.la < 0) || decide ((64:Int)≤o.la) || !O6 o.se
def loY (s:Rs) (i:Nat):Bool:=decide ((0:Int) < (i:Int)) && decide (0≤Jz (s.lamps.getD (i - 1) default) (s.lamps.getD i default))
def Lf (c:Cd) (s:Rs) (i:Nat):Bool:=loX c s (s.lamps.getD i default) || loY s i
noncomputable def Ca (c:Cd) (s:Rs):Bool:=H4 c (DR s Wk) && (decide (0≤s.fau) && decide (s.fau≤2147483647)) && !(List.range s.lamps.length).any (Lf c s)
theorem Aif {c:Cd} {s:Rs} {i:Nat} (hi:i < s.lamps.length) (h:Lf c s i=true):Ca c s=false:=by
 rw [Ca,Iv.2 ⟨i,hi,h⟩]; simp
theorem Abu {c:Cd} {s:Rs} (h:∀ i,i < s.lamps.length→Lf c s i=false):Ca c s=(H4 c (DR s Wk) && (decide (0≤s.fau) && decide (s.fau≤2147483647))):=by
 have:(List.range s.lamps.length).any (Lf c s)=false:=by
  rw [Bool.eq_false_iff]
  intro hc
  obtain ⟨i,hi,h2⟩:=Iv.1 hc
  rw [h i hi] at h2; cases h2
 rw [Ca,this]; simp
theorem Ix {c:Cd} {v:Vn} (h:H4 c v=true):AY c=0:=by
 simp only [H4,AH,lx86] at h
 exact h.1.1.1.1.1.1.1
def csQ (p:Cd × Rs):Prop:=Fit p.1
noncomputable def f40:=EF csQ (fun p=>[CI p.1,Ki p.2]) (fun p=>bA (Ca p.1 p.2))
theorem e40 (c:Cd) (s:Rs) (h:Fit c):f40 [CI c,Ki s]=some (.sc (.bool (Ca c s))):=
 (AK (q:=csQ) (enc:=fun p=>[CI p.1,Ki p.2]) (out:=fun p=>bA (Ca p.1 p.2)) (c,s) h (by
  rintro ⟨a,b⟩ h
  simp only [lx94,AW] at h
  rw [Dn h.1,Wh h.2]) :)
theorem Bhi:DC Tryz.prog 40 f40:=AN <| by
 rintro ⟨c,s⟩ hq
 have hq:Fit c:=hq
 have x1:=e77 c (DR s Wk) hq
 have x2:=e78 s Wk
 simp only [Ai,Dq,Bf,E6,DR,Wk] at x1 x2
 simp only
 refine Ab (Af (lit:=false) (pm:=fun _=>none) (.cons Bhg (.cons Aid (.cons Boh (.cons Bhd .nil)))) (.cons Boi .nil) .nil .nil) rfl Tryz.func40 rfl (by decide) (by kernel_rfl) (by kernel_rfl) ?_
 simp only [Tryz.f40,Ae,lx52,lx63,Nat.reduceAdd,Nat.reduceSub,List.replicate]
 refine Ar4 1 rfl fun hlen=>?_
 have hll:s.lamps.length < 9223372036854775808:=by
  have:=hlen s.zm (s.lamps.map B6) (by simp [Ki])
  simp [maxLen] at this; omega
 clear hlen
 refine Ac ?_
 have hcx:(⟨s.zv,s.vars,s.zl,s.left,0,s.act,0,0⟩:Vn)=DR s Wk:=rfl
 cases h1:H4 c ⟨s.zv,s.vars,s.zl,s.left,0,s.act,0,0⟩ with
 | false=>
  have e:Ca c s=false:=by rw [Ca,←hcx,h1]; rfl
  rw [h1] at x1
  exact SP (a4 x1 x2 e @Bf)
  repeat' (first | exact Aa (by kernel_rfl) | refine ⟨Aa (by kernel_rfl),?_⟩ | refine And.intro ?_ ?_ | fail)
  all_goals done
 | true=>
 have hv:=Ix h1
 have hlm:=CK hv
 rw [h1] at x1
 cases h2:decide (s.fau < 0) with
 | true=>
  have e:Ca c s=false:=by
   simp only [Bw] at h2
   rw [Ca,Ce (by omega:¬ 0≤s.fau)]; simp
  exact SP (a5 x1 x2 h2 e @Bf)
  repeat' (first | exact Aa (by kernel_rfl) | refine ⟨Aa (by kernel_rfl),?_⟩ | refine And.intro ?_ ?_ | fail)
  all_goals done
 | false=>
 cases h3:decide ((2147483647:Int) < s.fau) with
 | true=>
  have e:Ca c s=false:=by
   simp only [Bw] at h3
   rw [Ca,Ce (by omega:¬ s.fau≤2147483647)]; simp
  exact SP (a6 x1 x2 h2 h3 e @Bf)
  repeat' (first | exact Aa (by kernel_rfl) | refine ⟨Aa (by kernel_rfl),?_⟩ | refine And.intro ?_ ?_ | fail)
  all_goals done
 | false=>
 have h4:(decide (0≤s.fau) && decide (s.fau≤2147483647))=true:=by
  simp only [Cy] at h2 h3
  simp; omega
 refine gC1 (a5 x1 x2 h2 h3 @Bf) ?_
 repeat' (first | exact Aa (by kernel_rfl) | refine ⟨Aa (by kernel_rfl),?_⟩ | refine And.intro ?_ ?_ | fail)
 clear x1 x2 h2 h3
 refine Az (σ:=Nat) (fun k cnt=>⟨CW 0 81 [(2,.pt 0 0 0 0),(3,.pt 1 1 0 0),(24,.vw s.zm (s.lamps.map B6)),(25,.sc (.int .i64 s.lamps.length)),(26,.sc (.int .i64 k))],[⟨true,0,36,7,[CI c],false⟩,⟨true,1,41,5,[Ki s],false⟩],cnt⟩)
  (fun k=>k≤s.lamps.length∧∀ j,j < k→Lf c s j=false) (fun k=>s.lamps.length - k) 0 ⟨by omega,by omega⟩ ?_ ?_ rfl ?_
 ·exact Gm
 ·simp (maxSteps:=10000000) only [AX,AT,Ai,Bf]
 rintro k cnt ⟨hk,hn⟩ ih
 by_cases hk':k < s.lamps.length
 rotate_left
 ·obtain rfl:k=s.lamps.length:=by omega
  have g1:decide ((s.lamps.length:Int) < (s.lamps.length:Int))=false:=AZ
  have e:=Abu (c:=c) (s:=s) hn
  rw [←hcx,h1,h4] at e
  refine Ac ?_
  refine Cb ?_
  simp (maxSteps:=10000000) +contextual -implicitDefEqProofs only [AX,AT,St.put,↓reduceIte,B9,Ai,Bf,g1,e]
  all_goals done
 have g1:decide ((k:Int) < (s.lamps.length:Int))=true:=Au
 have g2:decide (k < s.lamps.length)=true:=Au
 have w1:IntKind.i64.wrap ((k:Int)+1)=((k+1:Nat):Int):=CT
 have hno:Lf c s k=true→Ca c s=false:=Aif hk'
 have ih:=fun hb cc=>ih (k+1) cc ⟨by omega,De hn hb⟩ (by omega)
 have hb:Lf c s k=(loX c s (s.lamps.getD k default) || loY s k):=rfl
 have hY:loY s k=(decide ((0:Int) < (k:Int)) && decide (0≤Jz (s.lamps.getD (k - 1) default) (s.lamps.getD k default))):=rfl
 obtain ⟨o,ho⟩:∃ o,s.lamps.getD k default=o:=⟨_,rfl⟩
 rw [ho] at hb hY
 have x3:=e79 o.se
 simp only [HZ] at x3
 refine Ac ?_
 cases c1:decide (o.mo < 0) with
 | true=>
  have e:=hno (by rw [hb]; simp [loX,c1])
  refine Cb ?_
  exact SP (a8 g1 g2 ho c1 e @BS @Bf @CJ)
  repeat' (first | exact Aa (by kernel_rfl) | refine ⟨Aa (by kernel_rfl),?_⟩ | refine And.intro ?_ ?_ | fail)
  all_goals done
 | false=>
 cases c2:decide ((c.pri.length:Int)≤o.mo) with
 | true=>
  have e:=hno (by rw [hb]; simp [loX,c2])
  refine Cb ?_
  exact SP (a9 g1 g2 ho c1 c2 e @BS @Bf @CJ)
  repeat' (first | exact Aa (by kernel_rfl) | refine ⟨Aa (by kernel_rfl),?_⟩ | refine And.intro ?_ ?_ | fail)
  all_goals done
 | false=>
 have x4:=e58 s o.mo (by simp only [Cy] at c1 c2; omega)
 simp only [Bf] at x4
 cases c3:(!B7 s.act o.mo || decide (o.la < 0) || decide ((64:Int)≤o.la) || !O6 o.se) with
 | true=>
  have e:=hno (by rw [hb]; simp only [loX,c1,c2,Qx,c3,Bool.true_or])
  refine Cb ?_
  exact SP (Hp g1 g2 ho c1 c2 x4 x3 c3 e @BS @Bf @CJ)
  repeat' (first | exact Aa (by kernel_rfl) | refine ⟨Aa (by kernel_rfl),?_⟩ | refine And.intro ?_ ?_ | fail)
  all_goals done
 | false=>
 have hX:loX c s o=false:=by simp only [loX,c1,c2,Qx,c3]
 rw [hX,Qx] at hb
 by_cases hk0:0 < k
 rotate_left
 ·have c4:decide ((0:Int) < (k:Int))=false:=by rw [Cy]; omega
  rw [c4,Bool.false_and] at hY
  rw [hY] at hb
  have ih:=ih hb
  refine Cb ?_
  refine gC1 (Jl g1 g2 ho c1 c2 x4 x3 c3 c4 w1 @BS @Bf @CJ) ?_
  exact Bcn
 have c4:decide ((0:Int) < (k:Int))=true:=Au
 have w2:IntKind.i64.wrap ((k:Int) - 1)=((k - 1:Nat):Int):=CT
 have g3:decide (((k - 1:Nat):Int) < (s.lamps.length:Int))=true:=Au
 have g4:decide (k - 1 < s.lamps.length)=true:=Au
 obtain ⟨o',ho'⟩:∃ o',s.lamps.getD (k - 1) default=o':=⟨_,rfl⟩
 rw [ho',c4,KP] at hY
 have x5:=e80 o' o
 simp only [BS] at x5
 cases c5:decide (0≤Jz o' o) with
 | true=>
  rw [c5] at hY
  rw [hY] at hb
  have e:=hno hb
  refine Cb ?_
  exact SP (a19 g1 g2 g3 g4 ho ho' c1 c2 x4 x3 c3 c4 x5 c5 w2 e @BS @Bf @CJ)
  repeat' (first | exact Aa (by kernel_rfl) | refine ⟨Aa (by kernel_rfl),?_⟩ | refine And.intro ?_ ?_ | fail)
  all_goals done
 | false=>
  rw [c5] at hY
  rw [hY] at hb
  have ih:=ih hb
  refine Cb ?_
  refine gC1 (a19 g1 g2 g3 g4 ho ho' c1 c2 x4 x3 c3 c4 x5 c5 w1 w2 @BS @Bf @CJ) ?_
  exact Bcn
end Go.Proofs.YtdjpkhjaibdogaaGreat
