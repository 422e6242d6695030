/-
  Lemmas towards ModesFaults (joined texts: GV, GW, EE, EF).
  Conditions: none.
-/
import Derived.Test.YtdjpkhjaibdogaaGreatK01
import Derived.Test.YtdjpkhjaibdogaaGreatK02
import Derived.Test.YtdjpkhjaibdogaaGreatK36
import Derived.Test.YtdjpkhjaibdogaaGreatK31
set_option linter.unusedSimpArgs false
set_option linter.unusedVariables false
set_option maxRecDepth 100000
set_option maxHeartbeats 8000000
namespace Go.Proofs.YtdjpkhjaibdogaaGreat
open Go Go.SX
attribute [local congr] ite_congr
def WZ (ze:Bool) (ed:List Ed) (zp:Bool) (po:List Ev) (o:List (Nat × AV)):List AV:=Cg 0 97 ([(2,.vw ze (ed.map NG)),(3,.vw zp (po.map Eh)),(5,.pt 5 0 0 0),(10,.pt 6 3 0 0),(13,.pt 0 15 0 0)]++o)
def lfN (l:List Int) (i:Nat):List Int:=(l.take i).map Qs++l.drop i
theorem An8 (l:List Int) (i:Nat) (hi:i≤l.length):(lfN l i).length=l.length:=by
 rw [lfN,lx5,lx58,lx68,lx93]; omega
theorem Ata (l:List Int) (i:Nat) (hi:i < l.length):(lfN l i).getD i default=l.getD i default:=by
 have hA:((l.take i).map Qs).length=i:=Aoq
 rw [lfN,lx80,lx62 (by omega),hA,K3,lx20,IW,lx80]
theorem Aja (l:List Int) (i:Nat) (hi:i < l.length):(lfN l i).set i (Qs (l.getD i default))=lfN l (i+1):=by
 have hA:((l.take i).map Qs).length=i:=Aoq
 have hg:l.getD i default=l[i]:=by rw [lx80,lx51 hi]; rfl
 rw [lfN,lfN,hg,lx75 hi,lx119 _ _ (by omega),hA,K3,lx117,lx115 hi,lx12,lx4]; rfl
theorem Ajb (c:Cd) (hf:Fit c) (s:Rs) (ze:Bool) (ed:List Ed) (zp:Bool) (po:List Ev) (x:Cx) (hed:ed.length≤1000) (hpl:po.length≤1000) (h1:BU c s=true) (h2:KT x=true):
  Db Tryz.prog 24 [B5 c,Hf s,.vw ze (ed.map NG),.vw zp (po.map Eh),ND x] (L6 (Kb c s ed po x)):=by
 have e:Kb c s ed po x=if edB ed=true then (⟨WT,[],[]⟩,41) else if poB c po=true then (⟨WT,[],[]⟩,55) else (F8 c x (L5 s ed po) ⟨Ig s,[],[]⟩,0):=by rw [Kb,if_neg (by rw [h1]; simp),if_neg (by rw [h2]; simp)]
 obtain ⟨Z,hZ⟩:∃ Z,Kb c s ed po x=Z:=⟨_,rfl⟩
 rw [hZ] at e ⊢
 have hru:=TB hf h1 h2
 have hvl:=Cw hru.val
 have hll:s.left.length≤128:=by have:=hru.ll; simp only at this; omega
 obtain ⟨F,kF,E⟩:=D1 (Aj8 c hf s x h1 h2 [⟨true,0,36,7,[B5 c],false⟩,⟨true,1,41,5,[Hf s],false⟩,⟨true,2,27,4,[ND x],false⟩,⟨true,3,41,5,[Hf WT],false⟩] 4)
 obtain ⟨F63,k63,E63⟩:=Fi (Azm Bes (fun d=>!HD d.sw 0 63) ze ed (fun d _=>e64 d) (by omega))
 obtain ⟨F65,k65,E65⟩:=Fi (Azo Bet (fun d=>!evB c d) [B5 c] zp po (fun d _=>e66 c hf d) (by omega))
 have hE63:(ed.any fun d=>!HD d.sw 0 63)=edB ed:=rfl
 have hE65:(po.any fun d=>!evB c d)=poB c po:=rfl
 rw [hE63] at E63
 rw [hE65] at E65
 have tv:(s.vars.map (kA .i64)).take s.vars.length=s.vars.map (kA .i64):=lx118 (by simp)
 simp only [Baj,dead,Ac,AL,CJ,WT,AU,lx47,lx53,lx63,lx91,lx64,Nat.reduceAdd] at E E63 E65
 refine C2 (Am (lit:=true) (pm:=fun _=>none) (.cons k63 (.cons k65 .nil)) .nil .nil (.cons kF (.cons (Bfa c x) .nil))) rfl Tryz.func24 rfl (by decide) (by kernel_rfl) (P5 _) ?_
 simp only [Tryz.f24,Af,lx53,lx63,Nat.reduceAdd,Nat.reduceSub,List.replicate]
 refine Hu ?s1 ?a1 ?b1
 case a1=>
  refine gG0 ?_
  rfl
 refine Hu ?s2 ?a2 ?b2
 case a2=>
  refine I5 E ?_
  rfl
 refine AD (T':=Cg 0 97 [(2,.vw ze (ed.map NG)),(3,.vw zp (po.map Eh)),(5,.pt 0 0 0 0),(10,.pt 3 3 0 0),(13,.pt 12 15 0 0),(14,.sc (.int .i64 0))]) ?_ (AS _) (Ax _) ?_
 ·exact Adh
 have hz1:∀ a b els,F3 a b els (s.left.map (kA .i64))=s.left.map (kA .i64):=fun a b els=>Ob a b els _ (Cm _)
 have hz2:∀ a b els,F3 a b els (s.lamps.map BY)=s.lamps.map BY:=fun a b els=>Ob a b els _ (PS _)
 refine Arl 0 9 ⟨true,10,3,1,s.vars.map (kA .i64),false⟩ rfl rfl (BX _) (Cm _) ?_
 refine qd7 ?_
 have hj1:Gj (s.left.map (kA .i64))=true:=HU (fun _=>by simp [kA]) _
 have hj2:Gj (s.lamps.map BY)=true:=HU (fun _=>by simp [BY]) _
 have hw1:∀ a b,SF a b (s.left.map (kA .i64))=s.left.map (kA .i64):=fun a b=>SS a b (fun _=>rfl) _
 have hw2:∀ a b,SF a b (s.lamps.map BY)=s.lamps.map BY:=fun a b=>SS a b (fun _=>rfl) _
 refine Mu 0 12 (BX _) (BX _) (by simp) (by simp) ?_ ?_
 ·exact qc4
 refine qd2 ?_
 refine Mu 3 10 (BX _) (BX _) (by simp) (by simp) ?_ ?_
 ·exact qc4
 refine qd2 ?_
 refine Mu 4 11 (BX _) (BX _) (by simp) (by simp) ?_ ?_
 ·exact qc4
 refine qd2 ?_
 refine Mu 5 12 (BX _) (BX _) (by simp) (by simp) ?_ ?_
 ·exact qc4
 refine qd2 ?_
 refine Mu 6 10 (BX _) (BX _) (by simp) (by simp) ?_ ?_
 ·exact qc4
 refine qd2 ?_
 obtain ⟨R,hR⟩:∃ R:List Blk,[⟨true,0,36,7,[B5 c],false⟩,⟨true,3,41,5,[Hf WT],false⟩]=R:=⟨_,rfl⟩
 refine AD (T':=WZ ze ed zp po [(14,.sc (.int .i64 0))]) (H':=pgN c x s 15 12 14 R) (c':=16) ?_ ?_ (Ax _) ?_
 ·simp only [WZ,lx91,lx64,Cg,EX,Nat.reduceAdd,Nat.reduceEqDiff,lx6,lx7,↓reduceIte,BO]
  exact EM _
 ·subst hR
  simp only [pgN,dead,Ac,AL,WT,lx47]
  simp (maxSteps:=10000000) only [Bk,Bg]
  all_goals done
 refine At9 ?_
 clear E hz1 hz2 hj1 hj2 hw1 hw2 tv kF k63 k65
 cases h3:edB ed with
 | true=>
  rw [h3] at E63
  rw [if_pos h3] at e
  rw [e]
  subst hR
  simp only [K1,Ac,AL,WT,lx47,lx63]
  refine Aaz ?_
  refine CL ?_
  simp (maxSteps:=10000000) +contextual -implicitDefEqProofs only [Bk,Bg,St.put,Ap,Al,D8,pl,↓reduceIte,Nat.reduceAdd,Int.reduceLT,Nat.reduceLT,D5,Int.reduceAdd,Dq,Ch,Bh,Ci,Cj,BQ,Ck,AB,norefs,AV.noref,lx11,E63,L6]
  all_goals done
 | false=>
 rw [h3] at E63
 rw [if_neg (by rw [h3]; simp)] at e
 cases h4:poB c po with
 | true=>
  rw [h4] at E65
  rw [if_pos h4] at e
  rw [e]
  subst hR
  simp only [K1,Ac,AL,WT,lx47,lx63]
  refine Aaz ?_
  refine CL ?_
  simp (maxSteps:=10000000) +contextual -implicitDefEqProofs only [Bk,Bg,St.put,Ap,Al,D8,pl,↓reduceIte,Nat.reduceAdd,Nat.reduceEqDiff,Int.reduceLT,Nat.reduceLT,D5,Int.reduceAdd,Dq,Ch,Bh,Ci,Cj,BQ,Bu,Ck,AB,norefs,AV.noref,lx11,E63,E65,L6]
  all_goals done
 | false=>
 rw [h4] at E65
 rw [if_neg (by rw [h4]; simp)] at e
 have hpo:=Aan (s:=s) (ed:=ed) h4
 clear h1 h2 h3 h4
 have hR':=hR
 simp only [Ac,AL,WT,lx47] at hR'
 rw [←hR']
 simp only [K1,WZ,lx91,lx64,lx47,lx63]
 refine CL ?_
 refine .seq ?_
 refine Hu ?s3 ?a3 ?b3
 case a3=>
  refine gG0 ?_
  rfl
 refine Aqx ?_
 refine .skip ?_
 refine .seq ?_
 refine Hu ?s4 ?a4 ?b4
 case a4=>
  refine I5 E63 ?_
  rfl
 refine Aqx ?_
 refine .skip ?_
 refine .seq ?_
 refine Hu ?s5 ?a5 ?b5
 case a5=>
  refine I5 E65 ?_
  rfl
 refine Aqx ?_
 refine .skip ?_
 refine Hu ?s6 ?a6 ?b6
 case a6=>
  simp (maxSteps:=10000000) +contextual -implicitDefEqProofs only [Bg,St.put,Dq,Bh,lx11]
  rfl
 refine AD (T':=WZ ze ed zp po [(15,.vw true [])]) (H':=K1 c x s [] 15 16 (.vw true []) dead 12 14 R) (c':=17) ?_ ?_ (Ax _) ?_
 ·simp only [WZ,lx91,lx64]
  exact Adh
 ·rw [←hR']; simp only [K1,lx47,lx63]; exact AS _
 have q1:(K1 c x s [] 15 16 (.vw true []) dead 12 14 R).set 2 ⟨true,17,46,3,[],false⟩=K1 c x s [] 15 16 (.vw true []) ⟨true,17,46,3,[],false⟩ 12 14 R:=rfl
 refine Wa (T':=WZ ze ed zp po [(15,.sl 2 17 0 0)]) (H':=K1 c x s [] 15 16 (.vw true []) dead 12 14 R) 2 17 46 3 18 (by simp [K1]) (Ax _) (IY _) ?_ (LJ _ _ _) ?_
 ·simp only [WZ,lx91,lx64]
  exact Av0
 rw [q1]
 clear q1 E63 E65
 have hlf:=hru.lf
 simp only at hlf
 have hle:=fun i=>Aam s.left i
 refine Aa ?_
 simp only [WZ,lx91,lx64,K1]
 refine CL ?_
 refine gG0 ?_
 refine Aw (σ:=Nat × Nat) (fun y cnt=>⟨WZ ze ed zp po [(15,.sl 2 y.2 0 (TM s.left y.1).length),(43,.sl 3 12 0 s.left.length),(44,.sc (.int .i64 s.left.length)),(45,.sc (.int .i64 (y.1:Int)))],K1 c x { s with left:=lfN s.left y.1 } [] 15 16 (.vw true []) ⟨true,y.2,46,3,(TM s.left y.1).map Eh,false⟩ 12 14 R,cnt⟩)
  (fun y=>y.1≤s.left.length) (fun y=>s.left.length - y.1) (0,17) (BX _) ?_ ?_ rfl ?_
 ·simp only [WZ,lx91,lx64]
  simp (maxSteps:=10000000) only [Bk,Bg,↓reduceIte,reduceCtorEq,Nat.reduceAdd,Nat.reduceEqDiff,Cg,EX,TM]
  all_goals done
 ·simp only [TM,lfN,K1,lx47,lx63,lx42,lx73,lx64]; exact AS _
 rintro ⟨i,v⟩ cnt hi ih
 simp only at hi
 by_cases hlt:i < s.left.length
 ·have hb:decide ((i:Int) < ((s.left.length:Nat):Int))=true:=by rw [AR]; omega
  have hb2:decide (i < s.left.length)=true:=Aj
  have w1:IntKind.i64.wrap ((i:Int)+1)=((i+1:Nat):Int):=AK
  have hm:s.left.getD i default ∈ s.left:=Avt
  have ha:=hlf _ hm
  have r2:TM s.left (i+1)=if s.left.getD i default=1 then TM s.left i++[⟨5,i,-1⟩] else TM s.left i:=rfl
  have r3:=Aja s.left i hlt
  have r4:=Ata s.left i hlt
  have r5:=An8 s.left i hi
  have ih2:=fun v' c'=>ih (i+1,v') c' (by simp only; omega) (by simp only; omega)
  have hl1:=hle i
  simp only [r2,←r3] at ih2
  obtain ⟨a,hg⟩:∃ a,s.left.getD i default=a:=⟨_,rfl⟩
  rw [hg] at ha r4
  simp only [hg] at ih2
  have w2:IntKind.i64.wrap (a - 1)=a - 1:=Bd (by omega) (by omega)
  have hdt:Qs a=max (a - 1) 0:=rfl
  clear ih r2 r3 hm hle hlf hpo
  generalize TM s.left i=L at *
  generalize lfN s.left i=G at *
  have hb3:decide (i < G.length)=true:=Aj
  have si:∀ v:Int,(G.map (kA .i64)).set i (.sc (.int .i64 v))=(G.set i v).map (kA .i64):=fun v=>by rw [List.map_set]; rfl
  have tl:(L.map Eh).take L.length=L.map Eh:=lx118 (by simp)
  have z1:decide ((L.length+1) * 24≤140737488355328)=true:=Aj
  simp only [K1,lx47,lx63,lx2,hdt] at ih2 ⊢
  rw [r5] at ih2 ⊢
  refine Aaz ?_
  refine CL ?_
  by_cases h1':a=1
  ·have c1:(a == 1)=true:=by rw [h1']; rfl
   refine I5 (a9 hb hb3 w1 w2 r4 c1 si tl z1) ?_
   simp only [if_pos h1'] at ih2
   refine AD ?_ ?_ (Ax _) (ih2 (cnt+1) _)
   all_goals simp (maxSteps:=10000000) only [Bk,Bg,↓reduceIte,reduceCtorEq,Nat.reduceAdd,Nat.reduceEqDiff,Cg,EX,WZ,lx5,lx12,B4]
   all_goals try exact AS _
   all_goals done
  ·have c1:(a == 1)=false:=by rw [lx113]; exact h1'
   refine I5 (a7 hb hb3 w1 w2 r4 c1 si) ?_
   simp only [if_neg h1'] at ih2
   refine AD ?_ ?_ (Ax _) (ih2 v _)
   all_goals simp (maxSteps:=10000000) only [Bk,Bg,↓reduceIte,reduceCtorEq,Nat.reduceAdd,Nat.reduceEqDiff,Cg,EX,WZ]
   all_goals try exact AS _
   all_goals done
 obtain rfl:i=s.left.length:=Ah
 have hb:decide ((s.left.length:Int) < ((s.left.length:Nat):Int))=false:=Br
 have hL:=hle s.left.length
 have hG:lfN s.left s.left.length=s.left.map Qs:=by rw [lfN,lx74,List.drop_length,lx66]
 have hGl:(s.left.map Qs).length=s.left.length:=lx58 _
 have hruS:=Aiv hru
 have hee:L5 s ed po=TM s.left s.left.length++ed.map edE++po:=rfl
 clear ih hi
 rw [hG]
 obtain ⟨S,hS⟩:∃ S:Rs,Ig s=S:=⟨_,rfl⟩
 have hS2:({ s with left:=s.left.map Qs }:Rs)=S:=hS
 rw [hS] at hruS e
 rw [hS2]
 obtain ⟨L,hLL⟩:∃ L,TM s.left s.left.length=L:=⟨_,rfl⟩
 rw [hLL] at hL hee ⊢
 clear hLL hle hlf hG hGl hS hS2
 have hn:s.left.length≤128:=hll
 generalize s.left.length=n at *
 simp only [K1,lx47,lx63]
 refine Aaz ?_
 refine CL ?_
 refine I5 hb ?_
 refine Aw (σ:=Nat × Nat) (fun y cnt=>⟨WZ ze ed zp po [(15,.sl 2 y.2 0 (L++(ed.take y.1).map edE).length),(68,.vw ze (ed.map NG)),(69,.sc (.int .i64 ed.length)),(70,.sc (.int .i64 (y.1:Int)))],K1 c x S [] 15 16 (.vw true []) ⟨true,y.2,46,3,(L++(ed.take y.1).map edE).map Eh,false⟩ 12 14 R,cnt⟩)
  (fun y=>y.1≤ed.length) (fun y=>ed.length - y.1) (0,v) (BX _) ?_ ?_ rfl ?_
 ·simp only [WZ,lx91,lx64,lx42,lx47,lx66]
  exact Adh
 ·simp only [lx42,lx47,lx66,K1,lx63]; exact AS _
 clear cnt v hb
 rintro ⟨i,v⟩ cnt hi ih
 simp only at hi
 by_cases hlt:i < ed.length
 ·have hb:decide ((i:Int) < ((ed.length:Nat):Int))=true:=by rw [AR]; omega
  have hb2:decide (i < ed.length)=true:=Aj
  have w1:IntKind.i64.wrap ((i:Int)+1)=((i+1:Nat):Int):=AK
  have htk:L++(ed.take (i+1)).map edE=(L++(ed.take i).map edE)++[edE (ed.getD i default)]:=by
   exact Avm
  have hLm:(L++(ed.take i).map edE).length≤2000:=by rw [lx5,lx58,lx68]; omega
  have ih2:=fun v' c'=>ih (i+1,v') c' (by simp only; omega) (by simp only; omega)
  simp only [htk] at ih2
  obtain ⟨⟨sw,cl⟩,hg⟩:∃ a,ed.getD i default=a:=⟨_,rfl⟩
  simp only [hg] at ih2
  clear ih htk hpo
  generalize L++List.map edE (ed.take i)=M at *
  have tl:(M.map Eh).take M.length=M.map Eh:=lx118 (by simp)
  have z1:decide ((M.length+1) * 24≤140737488355328)=true:=Aj
  simp only [K1,lx47,lx63,←hR'] at ih2 ⊢
  refine Aaz ?_
  refine CL ?_
  cases cl
  all_goals
   refine I5 (a7 hb hb2 w1 hg tl z1 @MG) ?_
   refine AD ?_ ?_ (Ax _) (ih2 (cnt+1+1) _)
   all_goals simp (maxSteps:=10000000) only [Bk,Bg,↓reduceIte,reduceCtorEq,Nat.reduceAdd,Nat.reduceEqDiff,Cg,EX,WZ,lx5,lx12,B4,edE]
   all_goals done
 obtain rfl:i=ed.length:=Ah
 clear ih hi
 rw [lx74]
 have hb:decide ((ed.length:Int) < ((ed.length:Nat):Int))=false:=Br
 have hM:(L++ed.map edE).length≤2000:=by rw [lx5,lx58]; omega
 rw [hee] at e hpo
 generalize L++ed.map edE=M at *
 obtain ⟨e',p',m',po2,c',x7⟩:=e59 c x (M++po) hpo (by rw [lx5]; omega) S hruS 15 16 cnt (.vw true []) 12 14 R (cnt+1)
 rw [e]
 clear e hpo hru hruS hvl
 generalize F8 c x (M++po) ⟨S,[],[]⟩=q at x7 ⊢
 obtain ⟨⟨zv',vars',zl',left',act',zm',lamps',fau'⟩,ef',po'⟩:=q
 have tl:(M.map Eh).take M.length=M.map Eh:=lx118 (by simp)
 have tef:(ef'.map Ek).take ef'.length=ef'.map Ek:=lx118 (by simp)
 have tl':(left'.map (kA .i64)).take left'.length=left'.map (kA .i64):=lx118 (by simp)
 have tm':(lamps'.map BY).take lamps'.length=lamps'.map BY:=lx118 (by simp)
 have z1:decide ((M.length+po.length) * 24≤140737488355328)=true:=Aj
 simp only [K1,C5,Mb,lx47,lx63,lx12,lx5,←hR'] at x7 ⊢
 refine Aaz ?_
 refine CL ?_
 simp (maxSteps:=10000000) +contextual -implicitDefEqProofs only [Bk,Bg,St.put,Ap,Al,D8,↓reduceIte,reduceCtorEq,Nat.reduceAdd,Nat.reduceLeDiff,Nat.reduceEqDiff,Int.reduceLT,Nat.reduceLT,D5,Int.reduceAdd,Dq,Fe,hl,Ch,BQ,Ck,AB,norefs,AV.noref,lx11,hb,tl,tef,tl',tm',z1,x7,DB,XH,L6]
 all_goals done
theorem X8 (c:Cd) (hf:Fit c) (s:Rs) (ze:Bool) (ed:List Ed) (zp:Bool) (po:List Ev) (x:Cx) (hed:ed.length≤1000) (hpl:po.length≤1000):
  Db Tryz.prog 24 [B5 c,Hf s,.vw ze (ed.map NG),.vw zp (po.map Eh),ND x] (L6 (Kb c s ed po x)):=by
 by_cases h:BU c s=true∧KT x=true
 ·exact Ajb c hf s ze ed zp po x hed hpl h.1 h.2
 ·exact Aj9 c hf s ze ed zp po x h
theorem Bak:VOk Tryz.prog 24 f25:=SC <| by
 rintro ⟨c,s,⟨ze,ed⟩,⟨zp,po⟩,x⟩ ⟨h1,h2,h3⟩
 exact X8 c h1 s ze ed zp po x h2 h3
theorem X9 (a:Rs):LQ a a=true:=by simp [LQ]
theorem Atb {c:Cd} {x:Cx} {l:List Ev} {r:Ru} (h:RuI c x r) (hl:PoI c l) (hp:r.po.length≤4096):RuI c x (F8 c x l r):=by
 unfold F8
 have g:∀ i,RuI c x (B7 c x l r i).1:=fun i=>(XY h hl hp i).1
 have:=g 64
 generalize B7 c x l r 64=q at this ⊢
 by_cases hi:64 < q.2.length
 ·rw [if_pos hi]; exact Aqb this
 ·rw [if_neg hi]; exact this
theorem Ya {l:List Nat} (h:∀ x ∈ l,x < 256) (i:Nat):l.getD i default < 256:=by
 rw [lx80]
 cases hx:l[i]? with
 | none=>decide
 | some x=>exact h x (lx25 hx)
def u8Q (p:Bool × List Nat):Prop:=∀ x ∈ p.2,x < 256
def AN (l:Bool × List Nat):Cd:=Hv (tpL l.1 l.2 1)
noncomputable def f14:=EP u8Q (fun p=>[.vw p.1 (p.2.map uA)]) (fun p=>B5 (AN p))
theorem e14 (z:Bool) (l:List Nat) (h:∀ x ∈ l,x < 256):f14 [.vw z (l.map uA)]=some (B5 (AN (z,l))):=
 (AG (q:=u8Q) (enc:=fun p=>[.vw p.1 (p.2.map uA)]) (out:=fun p=>B5 (AN p)) (z,l) h (by
  rintro ⟨a,b⟩ h
  simp only [lx96,AV.vw.injEq,MH,Ay] at h
  rw [h.1,h.2]) :)
theorem Yb (l:List ByteArray):Cz (l.map stA)=true:=Ep (f:=stA) (fun _=>by simp [stA,AV.fresh]) l
theorem Ajc (v:Nat) (c:Cd) (h1:c.zi=false) (h2:c.zs=false) (h3:c.ze=false) (h4:c.zp=false) (h5:c.zv=false):Ap (R6 v c) (R5 0 v c)=B5 c∧(R5 0 v c).freshIn (R6 v c)=true:=by
 obtain ⟨zi,ins,zs,strs,ze,ens,zp,pri,zv,vars,tim,evs⟩:=c
 simp only at h1 h2 h3 h4 h5
 subst h1; subst h2; subst h3; subst h4; subst h5
 constructor
 ·simp [R5,R6,Ap,Al,AE,B5,kA,lx118]
 ·simp [R5,R6,AV.freshIn,Ee,AE,Cz,AV.fresh,XR,XS,Yb,KS]
theorem Bal:FOk Tryz.prog 14 f14:=SE <| by
 rintro ⟨z,l⟩ h
 obtain ⟨g1,g2⟩:=Ajc 0 (AN (z,l)) rfl rfl rfl rfl rfl
 have:=Acl z l (Ya h) [] 0
 exact Xw (Ac0 _) this (by rw [lx64]; exact g1 ▸ .refl _) (by rw [lx64]; exact g2)
theorem Ajd (z:Bool) (l:List Nat) (hu:∀ i,l.getD i default < 256) (v:Nat):TpOk (tpL z l v):=by
 exact Aul
theorem Ad4 (p:Bool × List Nat) (h:u8Q p):Fit (AN p)∧(AN p).vars=[0,5,-3]:=by
 have ht:=Ajd p.1 p.2 (Ya h) 1
 have hm:=P1 ht (Bc ht (Bc ht (a:=0) (by omega))) 9
 have h1:=hm.ins
 have h2:=hm.ens
 refine ⟨⟨?_,by simp [AN,Hv],?_,by simp [AN,Hv],by simp [AN,Hv],by simp [AN,Hv],by simp [AN,Hv],?_⟩,rfl⟩
 ·simp only [AN,Hv]; omega
 ·simp only [AN,Hv]; omega
 ·intro b hb
  simp only [AN,Hv,lx59,lx121,GH] at hb
  rcases hb with rfl | rfl
  ·decide
  ·decide
def nx (l:List Nat) (i n:Nat):Nat:=if l.length≤i then 0 else l.getD i default % n
theorem Sb {l:List Nat} {i n:Nat} (h:0 < n):nx l i n < n:=by
 unfold nx; split
 ·exact h
 ·exact Nat.mod_lt _ h
def nxQ (p:(Bool × List Nat) × Nat × Nat):Prop:=(∀ x ∈ p.1.2,x < 256)∧0 < p.2.2∧p.2.2≤1000∧p.2.1≤1000000
noncomputable def f84:=EP nxQ (fun p=>[.vw p.1.1 (p.1.2.map uA),.sc (.int .i64 (p.2.1:Int)),.sc (.int .i64 (p.2.2:Int))]) (fun p=>.sc (.int .i64 (nx p.1.2 p.2.1 p.2.2:Nat)))
theorem e84 (z:Bool) (l:List Nat) (i n:Nat) (N:Int) (hN:N=(n:Int)) (h:∀ x ∈ l,x < 256) (h1:0 < n) (h2:n≤1000) (h3:i≤1000000):
  f84 [.vw z (l.map uA),.sc (.int .i64 (i:Int)),.sc (.int .i64 N)]=some (.sc (.int .i64 (nx l i n:Nat))):=by
 subst hN
 exact (AG (q:=nxQ) (enc:=fun p=>[.vw p.1.1 (p.1.2.map uA),.sc (.int .i64 (p.2.1:Int)),.sc (.int .i64 (p.2.2:Int))]) (out:=fun p=>.sc (.int .i64 (nx p.1.2 p.2.1 p.2.2:Nat))) ((z,l),i,n) ⟨h,h1,h2,h3⟩ (by
  rintro ⟨⟨a,b⟩,c,d⟩ h
  simp only [lx96,AV.vw.injEq,AV.sc.injEq,Value.int.injEq,MH,Ay,D3] at h
  obtain ⟨⟨rfl,rfl⟩,h1,h2⟩:=h
  obtain rfl:c=i:=Ah
  obtain rfl:d=n:=Ah
  rfl) :)
theorem Bfb:Eb Tryz.prog 84 f84:=AQ <| by
 rintro ⟨⟨z,l⟩,i,n⟩ ⟨h,h1,h2,h3⟩
 simp only at h h1 h2 h3 ⊢
 have hu:=Ya h i
 refine Ab (Aq (.nil) (.nil)) rfl Tryz.func84 rfl (by decide) (by kernel_rfl) (by kernel_rfl) ?_
 simp only [Tryz.f84,Af,lx53,lx63,Nat.reduceAdd,Nat.reduceSub,List.replicate]
 refine Aa ?_
 by_cases hi:l.length≤i
 ·have g1:decide ((l.length:Int)≤(i:Int))=true:=by rw [AR]; omega
  rw [nx,if_pos hi]
  simp (maxSteps:=10000000) +contextual -implicitDefEqProofs only [Bk,Bg,St.put,↓reduceIte,D5,g1]
  all_goals done
 ·have g1:decide ((l.length:Int)≤(i:Int))=false:=by rw [BJ]; omega
  have g2:decide ((i:Int) < (l.length:Int))=true:=Aj
  have g3:decide (i < l.length)=true:=Aj
  obtain ⟨x,hx⟩:∃ x,l.getD i default=x:=⟨_,rfl⟩
  rw [hx] at hu
  have w3:IntKind.i64.wrap (x:Int)=(x:Int):=Bd (by omega) (by omega)
  have hz:¬ (n:Int)=0:=Ah
  have hr:Int.tmod (x:Int) (n:Int)=((x % n:Nat):Int):=rfl
  rw [nx,if_neg hi,hx]
  exact zE1 (Hk g1 g2 g3 w3 hx hz hr @H9 @WB @AA)
  all_goals done
def evN (i:Nat):Int:=[0,1,2,7,-1,-5,100,2147483647,-2147483647,65536].getD i 0
def etN (i:Nat):Int:=[0,0,1,50,2147483647].getD i 0
theorem Atc {q:Nat} (h:q < 10):([.sc (.int .i64 0),.sc (.int .i64 1),.sc (.int .i64 2),.sc (.int .i64 7),.sc (.int .i64 (-1)),.sc (.int .i64 (-5)),.sc (.int .i64 100),.sc (.int .i64 2147483647),.sc (.int .i64 (-2147483647)),.sc (.int .i64 65536)]:List AV)[q]?=some (.sc (.int .i64 (evN q))):=by
 exact Auu
theorem Atd {q:Nat} (h:q < 5):([.sc (.int .i64 0),.sc (.int .i64 0),.sc (.int .i64 1),.sc (.int .i64 50),.sc (.int .i64 2147483647)]:List AV)[q]?=some (.sc (.int .i64 (etN q))):=by
 have:q=0∨q=1∨q=2∨q=3∨q=4:=Ah
 rcases this with rfl | rfl | rfl | rfl | rfl <;> rfl
def P7 (l:List Nat) (n:Nat):List Int:=(List.range n).map fun i=>evN (nx l i 10)
def Qe (l:List Nat) (k n:Nat):List Int:=(List.range n).map fun i=>etN (nx l (k+i) 5)
def Yc (l:List Nat) (k:Nat):Nat→Int
 | 0=>0
 | i+1=>DE .or .u64 (Ll .u64 (Yc l k i) 8) (IntKind.u64.wrap (nx l (k+i) 256:Nat))
def Fm (c:Cd):Nat:=(min c.tim 200).toNat
def Ana (c:Cd) (l:List Nat):Int:=
 DE .and .u32 (IntKind.u32.wrap (nx l (c.vars.length+Fm c+8) 256:Nat)) (IntKind.u32.wrap (Ll .u32 1 ((min c.pri.length 16:Nat):Int) - 1))
def NK (c:Cd) (l:List Nat):Vn:=
 let k:=c.vars.length+Fm c
 ⟨false,P7 l c.vars.length,false,Qe l c.vars.length (Fm c),Yc l k 8,Ana c l,(nx l (k+9) 5:Nat),(nx l (k+10) 4:Nat)⟩
theorem Aje (c:Cd) (hq:Fit c) (z:Bool) (l:List Nat) (h8:∀ x ∈ l,x < 256):IQ Tryz.prog 44 [B5 c,.vw z (l.map uA)] (Ma (NK c l)):=by
 have hfv:=hq.vars
 have hft:=hq.tim
 have hfp:=hq.pri
 obtain ⟨RES,hRES⟩:∃ R,NK c l=R:=⟨_,rfl⟩
 rw [hRES]
 refine Gy (Am (lit:=false) (pm:=fun _=>none) (.cons Bfb .nil) .nil .nil .nil) rfl Tryz.func44 rfl (by decide) (by kernel_rfl) (RX _) ?_
 simp only [Tryz.f44,Af,lx53,lx63,Nat.reduceAdd,Nat.reduceSub,List.replicate]
 refine Aa ?_
 refine Nx (a2 @Ac @Bm) ?_
 refine AD (T':=Cg 0 96 [(1,.vw z (l.map uA)),(2,.pt 0 0 0 0),(4,.pt 1 1 0 0),(5,.pt 2 2 0 0),(6,.sc (.int .i64 0))]) (H':=[⟨true,0,36,7,[B5 c],false⟩,⟨true,1,104,6,[.ag [.vw true [],.vw true [],.sc (.int .u64 0),.sc (.int .u32 0),.sc (.int .i64 0),.sc (.int .i64 0)]],false⟩,⟨true,2,104,6,[.ag [.vw true [],.vw true [],.sc (.int .u64 0),.sc (.int .u32 0),.sc (.int .i64 0),.sc (.int .i64 0)]],false⟩]) ?_ ?_ (Ax _) ?_
 ·exact IZ
 ·exact Aax
 refine Ix (T':=Cg 0 96 [(1,.vw z (l.map uA)),(2,.pt 0 0 0 0),(4,.pt 1 1 0 0),(5,.pt 2 2 0 0),(6,.sc (.int .i64 0))]) (H':=[⟨true,0,36,7,[B5 c],false⟩,⟨true,1,104,6,[.ag [.vw true [],.vw true [],.sc (.int .u64 0),.sc (.int .u32 0),.sc (.int .i64 0),.sc (.int .i64 0)]],false⟩,⟨true,2,104,6,[.ag [.sl 3 3 0 0,.vw true [],.sc (.int .u64 0),.sc (.int .u32 0),.sc (.int .i64 0),.sc (.int .i64 0)]],false⟩]) 3 3 1 4 (by omega) (by omega) (Ct _ _ _) ?_ ?_
 ·refine W3 ?_
  exact ⟨.inl rfl,.inl rfl,Iy _ _ _ _ _ _ _ _ _ _ ⟨Jr ⟨.nil,Ct _ _ _⟩,trivial⟩⟩
 refine qd5 ?_
 refine Ix (T':=Cg 0 96 [(1,.vw z (l.map uA)),(2,.pt 0 0 0 0),(4,.pt 1 1 0 0),(5,.pt 2 2 0 0),(6,.sc (.int .i64 0))]) (H':=[⟨true,0,36,7,[B5 c],false⟩,⟨true,1,104,6,[.ag [.vw true [],.vw true [],.sc (.int .u64 0),.sc (.int .u32 0),.sc (.int .i64 0),.sc (.int .i64 0)]],false⟩,⟨true,2,104,6,[.ag [.sl 3 3 0 0,.sl 4 4 0 0,.sc (.int .u64 0),.sc (.int .u32 0),.sc (.int .i64 0),.sc (.int .i64 0)]],false⟩,⟨true,3,3,1,[],false⟩]) 4 3 1 5 (by omega) (by omega) (Ct _ _ _) ?_ ?_
 ·refine W3 ?_
  exact ⟨.inl rfl,.inl rfl,Iy _ _ _ _ _ _ _ _ _ _ ⟨Jr ⟨.refl _,.nil,Ct _ _ _⟩,trivial⟩,.inl rfl⟩
 refine qd5 ?_
 refine Aw (σ:=Nat × Nat) (fun y cnt=>⟨Cg 0 96 [(1,.vw z (l.map uA)),(2,.pt 0 0 0 0),(4,.pt 1 1 0 0),(5,.pt 2 2 0 0),(6,.sc (.int .i64 (y.1:Int)))],
  [⟨true,0,36,7,[B5 c],false⟩,⟨true,1,104,6,[.ag [.vw true [],.vw true [],.sc (.int .u64 0),.sc (.int .u32 0),.sc (.int .i64 0),.sc (.int .i64 0)]],false⟩,⟨true,2,104,6,[.ag [.sl 3 y.2 0 y.1,.sl 4 4 0 0,.sc (.int .u64 0),.sc (.int .u32 0),.sc (.int .i64 0),.sc (.int .i64 0)]],false⟩,⟨true,y.2,3,1,(P7 l y.1).map (kA .i64),false⟩,⟨true,4,3,1,[],false⟩],cnt⟩)
  (fun y=>y.1≤c.vars.length) (fun y=>c.vars.length - y.1) (0,3) (BX _) ?_ ?_ rfl ?_
 ·exact IZ
 ·simp (maxSteps:=10000000) only [Bk,Bg,Ac,P7,List.range_zero]
 rintro ⟨k,v3⟩ cnt hk ih
 simp only at hk
 by_cases hk':k < c.vars.length
 ·have h1:decide ((k:Int) < (c.vars.length:Int))=true:=by rw [AR]; omega
  have w1:IntKind.i64.wrap ((k:Int)+1)=((k+1:Nat):Int):=AK
  have E1:=e84 z l k 10 10 rfl h8 (by omega) (by omega) (by omega)
  have hq1:=Sb (l:=l) (i:=k) (n:=10) (by omega)
  have ha:(P7 l k).map (kA .i64)++[AV.sc (.int .i64 (evN (nx l k 10)))]=(P7 l (k+1)).map (kA .i64):=by rw [P7,P7,List.range_succ,lx12,lx12]; rfl
  obtain ⟨q,hq1'⟩:∃ q,nx l k 10=q:=⟨_,rfl⟩
  rw [hq1'] at E1 hq1 ha
  have g1:decide ((q:Int) < 10)=true:=Aj
  have g2:=Atc hq1
  have hln:(P7 l k).length=k:=by simp [P7]
  have hsz:decide ((k+1) * 8≤140737488355328)=true:=Aj
  have ht:List.take k ((P7 l k).map (kA .i64))=(P7 l k).map (kA .i64):=lx118 (by simp [hln])
  have ih:=fun v c=>ih (k+1,v) c (by simp only; omega) (by simp only; omega)
  simp only at ih
  refine Aa ?_
  refine CL ?_
  refine Nx (Hk h1 w1 E1 g1 g2 hsz ht ha @Ac @Ai0) ?_
  exact Ans
 obtain rfl:k=c.vars.length:=Ah
 have h1:decide ((c.vars.length:Int) < (c.vars.length:Int))=false:=Br
 clear ih
 refine Aa ?_
 refine CL ?_
 refine Nx (a2 h1 @Ac) ?_
 clear h1
 refine Aw (σ:=Nat × Nat) (fun y cnt=>⟨Cg 0 96 [(1,.vw z (l.map uA)),(2,.pt 0 0 0 0),(4,.pt 1 1 0 0),(5,.pt 2 2 0 0),(7,.sc (.int .i64 c.vars.length)),(8,.sc (.int .i64 (y.1:Int)))],
  [⟨true,0,36,7,[B5 c],false⟩,⟨true,1,104,6,[.ag [.vw true [],.vw true [],.sc (.int .u64 0),.sc (.int .u32 0),.sc (.int .i64 0),.sc (.int .i64 0)]],false⟩,⟨true,2,104,6,[.ag [.sl 3 v3 0 c.vars.length,.sl 4 y.2 0 y.1,.sc (.int .u64 0),.sc (.int .u32 0),.sc (.int .i64 0),.sc (.int .i64 0)]],false⟩,⟨true,v3,3,1,(P7 l c.vars.length).map (kA .i64),false⟩,⟨true,y.2,3,1,(Qe l c.vars.length y.1).map (kA .i64),false⟩],cnt⟩)
  (fun y=>y.1≤Fm c) (fun y=>Fm c - y.1) (0,4) (BX _) ?_ ?_ rfl ?_
 ·exact IZ
 ·simp (maxSteps:=10000000) only [Bk,Bg,Ac,Qe,List.range_zero]
 clear hk
 rintro ⟨k,v4⟩ cnt hk ih
 simp only at hk
 have htn:Fm c≤200:=by unfold Fm; omega
 by_cases hk':k < Fm c
 ·have h1:decide ((k:Int) < min c.tim 200)=true:=by
   rw [AR]; unfold Fm at hk'; omega
  have w1:IntKind.i64.wrap ((k:Int)+1)=((k+1:Nat):Int):=AK
  have w2:IntKind.i64.wrap ((c.vars.length:Int)+(k:Int))=((c.vars.length+k:Nat):Int):=AK
  have E1:=e84 z l (c.vars.length+k) 5 5 rfl h8 (by omega) (by omega) (by omega)
  have hq1:=Sb (l:=l) (i:=c.vars.length+k) (n:=5) (by omega)
  have ha:(Qe l c.vars.length k).map (kA .i64)++[AV.sc (.int .i64 (etN (nx l (c.vars.length+k) 5)))]=(Qe l c.vars.length (k+1)).map (kA .i64):=by rw [Qe,Qe,List.range_succ,lx12,lx12]; rfl
  obtain ⟨q,hq1'⟩:∃ q,nx l (c.vars.length+k) 5=q:=⟨_,rfl⟩
  rw [hq1'] at E1 hq1 ha
  have g1:decide ((q:Int) < 5)=true:=Aj
  have g2:=Atd hq1
  have hln:(Qe l c.vars.length k).length=k:=by simp [Qe]
  have hsz:decide ((k+1) * 8≤140737488355328)=true:=Aj
  have ht:List.take k ((Qe l c.vars.length k).map (kA .i64))=(Qe l c.vars.length k).map (kA .i64):=lx118 (by simp [hln])
  have ih:=fun v c=>ih (k+1,v) c (by simp only; omega) (by simp only; omega)
  simp only at ih
  refine Aa ?_
  refine CL ?_
  refine Nx (Hk h1 w1 w2 E1 g1 g2 hsz ht ha @Ac) ?_
  exact Ans
 obtain rfl:k=Fm c:=Ah
 have h1:decide (((Fm c:Nat):Int) < min c.tim 200)=false:=by
  rw [BJ]; unfold Fm; omega
 have w2:IntKind.i64.wrap ((c.vars.length:Int)+((Fm c:Nat):Int))=((c.vars.length+Fm c:Nat):Int):=AK
 clear ih
 refine Aa ?_
 refine CL ?_
 refine Nx (a3 h1 w2 @Ac) ?_
 clear h1 w2
 obtain ⟨m,hm⟩:∃ m,c.vars.length+Fm c=m:=⟨_,rfl⟩
 simp only [hm]
 refine Aw (σ:=Nat) (fun y cnt=>⟨Cg 0 96 [(1,.vw z (l.map uA)),(2,.pt 0 0 0 0),(4,.pt 1 1 0 0),(5,.pt 2 2 0 0),(7,.sc (.int .i64 m)),(9,.sc (.int .i64 (y:Int)))],
  [⟨true,0,36,7,[B5 c],false⟩,⟨true,1,104,6,[.ag [.vw true [],.vw true [],.sc (.int .u64 0),.sc (.int .u32 0),.sc (.int .i64 0),.sc (.int .i64 0)]],false⟩,⟨true,2,104,6,[.ag [.sl 3 v3 0 c.vars.length,.sl 4 v4 0 (Fm c),.sc (.int .u64 (Yc l m y)),.sc (.int .u32 0),.sc (.int .i64 0),.sc (.int .i64 0)]],false⟩,⟨true,v3,3,1,(P7 l c.vars.length).map (kA .i64),false⟩,⟨true,v4,3,1,(Qe l c.vars.length (Fm c)).map (kA .i64),false⟩],cnt⟩)
  (fun y=>y≤8) (fun y=>8 - y) 0 (BX _) ?_ ?_ rfl ?_
 ·exact IZ
 ·simp (maxSteps:=10000000) only [Bk,Bg,Ac,Yc]
 clear hk
 rintro k cnt hk ih
 have hk:k≤8:=hk
 have hml:m≤200000:=Ah
 by_cases hk':k < 8
 ·have h1:decide ((k:Int) < 8)=true:=by rw [AR]; omega
  have w1:IntKind.i64.wrap ((k:Int)+1)=((k+1:Nat):Int):=AK
  have w2:IntKind.i64.wrap ((m:Int)+(k:Int))=((m+k:Nat):Int):=AK
  have E1:=e84 z l (m+k) 256 256 rfl h8 (by omega) (by omega) (by omega)
  have hcs:Yc l m (k+1)=DE .or .u64 (Ll .u64 (Yc l m k) 8) (IntKind.u64.wrap (nx l (m+k) 256:Nat)):=rfl
  have ih:=fun c=>ih (k+1) c (show k+1≤8 by omega) (show 8 - (k+1) < 8 - k by omega)
  simp only [hcs] at ih
  refine Aa ?_
  refine CL ?_
  refine Nx (a5 h1 w1 w2 E1 @Ac) ?_
  exact Anq
 obtain rfl:k=8:=Ah
 have h1:decide (((8:Nat):Int) < 8)=false:=by decide
 have w8:IntKind.i64.wrap ((m:Int)+8)=((m+8:Nat):Int):=AK
 have w9:IntKind.i64.wrap ((m:Int)+9)=((m+9:Nat):Int):=AK
 have w10:IntKind.i64.wrap ((m:Int)+10)=((m+10:Nat):Int):=AK
 have E1:=e84 z l (m+8) 256 256 rfl h8 (by omega) (by omega) (by omega)
 have E2:=e84 z l (m+9) 5 5 rfl h8 (by omega) (by omega) (by omega)
 have E3:=e84 z l (m+10) 4 4 rfl h8 (by omega) (by omega) (by omega)
 clear ih
 have hln:(Qe l c.vars.length (Fm c)).length=Fm c:=by simp [Qe]
 have hln3:(P7 l c.vars.length).length=c.vars.length:=by simp [P7]
 have ht:List.take (Fm c) ((Qe l c.vars.length (Fm c)).map (kA .i64))=(Qe l c.vars.length (Fm c)).map (kA .i64):=lx118 (by simp [hln])
 have ht3:List.take c.vars.length ((P7 l c.vars.length).map (kA .i64))=(P7 l c.vars.length).map (kA .i64):=lx118 (by simp [hln3])
 have hR:RES=⟨false,P7 l c.vars.length,false,Qe l c.vars.length (Fm c),Yc l m 8,Ana c l,(nx l (m+9) 5:Nat),(nx l (m+10) 4:Nat)⟩:=by rw [←hRES,←hm]; rfl
 rw [hR]
 have hmin:min (c.pri.length:Int) 16=((min c.pri.length 16:Nat):Int):=Ah
 have hmw:IntKind.u64.wrap ((min c.pri.length 16:Nat):Int)=((min c.pri.length 16:Nat):Int):=JL (by omega) (by omega)
 have hact:Ana c l=DE .and .u32 (IntKind.u32.wrap (nx l (m+8) 256:Nat)) (IntKind.u32.wrap (Ll .u32 1 ((min c.pri.length 16:Nat):Int) - 1)):=by rw [Ana,hm]
 refine Aa ?_
 refine CL ?_
 simp (maxSteps:=10000000) +contextual -implicitDefEqProofs only [Bk,Bg,St.put,Ap,Al,D8,pl,↓reduceIte,reduceCtorEq,Nat.reduceAdd,Nat.reduceLeDiff,Int.reduceLT,Nat.reduceLT,D5,Int.reduceAdd,Dq,Fe,Ac,w8,w9,w10,E1,E2,E3,ht,ht3,hmin,hmw,←hact]
 repeat' (first | exact Ae (by kernel_rfl) | refine ⟨Ae (by kernel_rfl),?_⟩ | refine And.intro ?_ ?_ | fail)
 all_goals first | (simp [AV.freshIn,Ee,AE,Cz,AV.fresh,KS]; done) | skip
 all_goals done
def cuQ (p:Cd × Bool × List Nat):Prop:=Fit p.1∧∀ x ∈ p.2.2,x < 256
noncomputable def f44:=EP cuQ (fun p=>[B5 p.1,.vw p.2.1 (p.2.2.map uA)]) (fun p=>Ma (NK p.1 p.2.2))
theorem e44 (c:Cd) (h:Fit c) (z:Bool) (l:List Nat) (h8:∀ x ∈ l,x < 256):f44 [B5 c,.vw z (l.map uA)]=some (Ma (NK c l)):=
 (AG (q:=cuQ) (enc:=fun p=>[B5 p.1,.vw p.2.1 (p.2.2.map uA)]) (out:=fun p=>Ma (NK p.1 p.2.2)) (c,z,l) ⟨h,h8⟩ (by
  rintro ⟨a,b,d⟩ h
  simp only [lx96,AV.vw.injEq,MH,Ay] at h
  rw [CV h.1,h.2.1,h.2.2]) :)
theorem Bfe:FOk Tryz.prog 44 f44:=SE <| by
 rintro ⟨c,z,l⟩ ⟨h1,h2⟩
 exact Aje c h1 z l h2
end Go.Proofs.YtdjpkhjaibdogaaGreat
