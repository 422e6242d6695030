/-
  Lemmas towards ModesSteps (joined texts: GV, GW, EE, EF).
  Conditions: none.
-/
import Derived.Test.YtdjpkhjaibdogaaGreatL01
import Derived.Test.YtdjpkhjaibdogaaGreatL02
import Derived.Test.YtdjpkhjaibdogaaGreatL40
import Derived.Test.YtdjpkhjaibdogaaGreatL33
set_option linter.unusedSimpArgs false
set_option linter.unusedVariables false
set_option maxRecDepth 100000
set_option maxHeartbeats 8000000
namespace Go.Proofs.YtdjpkhjaibdogaaGreat
open Go Go.SX
attribute [local congr] ite_congr
def Yo (ze:Bool) (ed:List Ed) (zp:Bool) (po:List Ev) (o:List (Nat × AV)):List AV:=Bn 0 97 ([(2,.vw ze (ed.map K8)),(3,.vw zp (po.map Cf)),(5,.pt 5 0 0 0),(10,.pt 6 3 0 0),(13,.pt 0 15 0 0)]++o)
def lfN (l:List Int) (i:Nat):List Int:=(l.take i).map HK++l.drop i
theorem Aq1 (l:List Int) (i:Nat) (hi:i≤l.length):(lfN l i).length=l.length:=by
 rw [lfN,lx5,lx58,lx68,lx93]; omega
theorem Axi (l:List Int) (i:Nat) (hi:i < l.length):(lfN l i).getD i default=l.getD i default:=by
 have hA:((l.take i).map HK).length=i:=Agp
 rw [lfN,lx80,lx62 (by omega),hA,Mx,lx20,Jm,lx80]
theorem Am4 (l:List Int) (i:Nat) (hi:i < l.length):(lfN l i).set i (HK (l.getD i default))=lfN l (i+1):=by
 have hA:((l.take i).map HK).length=i:=Agp
 have hg:l.getD i default=l[i]:=by rw [lx80,lx51 hi]; rfl
 rw [lfN,lfN,hg,lx75 hi,lx119 _ _ (by omega),hA,Mx,lx117,lx115 hi,lx12,lx4]; rfl
theorem Am5 (c:Cd) (hf:Fit c) (s:Rs) (ze:Bool) (ed:List Ed) (zp:Bool) (po:List Ev) (x:Cx) (hed:ed.length≤1000) (hpl:po.length≤1000) (h1:Bs c s=true) (h2:Ii x=true):
  C6 Tryz.prog 24 [BP c,Gb s,.vw ze (ed.map K8),.vw zp (po.map Cf),KF x] (Hf (He c s ed po x)):=by
 have e:He c s ed po x=if edB ed=true then (⟨Mp,[],[]⟩,41) else if poB c po=true then (⟨Mp,[],[]⟩,55) else (Eu c x (RB s ed po) ⟨LJ s,[],[]⟩,0):=by rw [He,if_neg (by rw [h1]; simp),if_neg (by rw [h2]; simp)]
 obtain ⟨Z,hZ⟩:∃ Z,He c s ed po x=Z:=⟨_,rfl⟩
 rw [hZ] at e ⊢
 have hru:=UW hf h1 h2
 have hvl:=B5 hru.val
 have hll:s.left.length≤128:=by have:=hru.ll; simp only at this; omega
 obtain ⟨F,kF,E⟩:=Dg (Am2 c hf s x h1 h2 [⟨true,0,36,7,[BP c],false⟩,⟨true,1,41,5,[Gb s],false⟩,⟨true,2,27,4,[KF x],false⟩,⟨true,3,41,5,[Gb Mp],false⟩] 4)
 obtain ⟨F63,k63,E63⟩:=F9 (Be4 Bix (fun d=>!EU d.sw 0 63) ze ed (fun d _=>e64 d) (by omega))
 obtain ⟨F65,k65,E65⟩:=F9 (Be6 Biy (fun d=>!Ym c d) [BP c] zp po (fun d _=>e66 c hf d) (by omega))
 have hE63:(ed.any fun d=>!EU d.sw 0 63)=edB ed:=rfl
 have hE65:(po.any fun d=>!Ym c d)=poB c po:=rfl
 rw [hE63] at E63
 rw [hE65] at E65
 have tv:(s.vars.map (kA .i64)).take s.vars.length=s.vars.map (kA .i64):=lx118 (by simp)
 simp only [Bfa,dead,Ab,Az,Cl,Mp,AZ,lx47,lx53,lx63,lx91,lx64,Nat.reduceAdd] at E E63 E65
 refine BW (Aj (lit:=true) (pm:=fun _=>none) (.cons k63 (.cons k65 .nil)) .nil .nil (.cons kF (.cons (Bju c x) .nil))) rfl Tryz.func24 rfl (by decide) (by kernel_rfl) (JT _) ?_
 simp only [Tryz.f24,Af,lx53,lx63,Nat.reduceAdd,Nat.reduceSub,List.replicate]
 refine ER ?s1 ?a1 ?b1
 case a1=>
  refine gG0 ?_
  rfl
 refine ER ?s2 ?a2 ?b2
 case a2=>
  refine J7 E ?_
  rfl
 refine Ao (T':=Bn 0 97 [(2,.vw ze (ed.map K8)),(3,.vw zp (po.map Cf)),(5,.pt 0 0 0 0),(10,.pt 3 3 0 0),(13,.pt 12 15 0 0),(14,.sc (.int .i64 0))]) ?_ (Aw _) (Ar _) ?_
 ·exact Adx
 have hz1:∀ a b els,Fq a b els (s.left.map (kA .i64))=s.left.map (kA .i64):=fun a b els=>HH a b els _ (BV _)
 have hz2:∀ a b els,Fq a b els (s.lamps.map Bp)=s.lamps.map Bp:=fun a b els=>HH a b els _ (JL _)
 refine Aj6 0 9 ⟨true,10,3,1,s.vars.map (kA .i64),false⟩ rfl rfl (Bu _) (BV _) ?_
 refine qd7 ?_
 have hj1:G6 (s.left.map (kA .i64))=true:=H8 (fun _=>by simp [kA]) _
 have hj2:G6 (s.lamps.map Bp)=true:=H8 (fun _=>by simp [Bp]) _
 have hw1:∀ a b,Ug a b (s.left.map (kA .i64))=s.left.map (kA .i64):=fun a b=>Ui a b (fun _=>rfl) _
 have hw2:∀ a b,Ug a b (s.lamps.map Bp)=s.lamps.map Bp:=fun a b=>Ui a b (fun _=>rfl) _
 refine JA 0 12 (Bu _) (Bu _) (by simp) (by simp) ?_ ?_
 ·exact qc4
 refine qd2 ?_
 refine JA 3 10 (Bu _) (Bu _) (by simp) (by simp) ?_ ?_
 ·exact qc4
 refine qd2 ?_
 refine JA 4 11 (Bu _) (Bu _) (by simp) (by simp) ?_ ?_
 ·exact qc4
 refine qd2 ?_
 refine JA 5 12 (Bu _) (Bu _) (by simp) (by simp) ?_ ?_
 ·exact qc4
 refine qd2 ?_
 refine JA 6 10 (Bu _) (Bu _) (by simp) (by simp) ?_ ?_
 ·exact qc4
 refine qd2 ?_
 obtain ⟨R,hR⟩:∃ R:List Blk,[⟨true,0,36,7,[BP c],false⟩,⟨true,3,41,5,[Gb Mp],false⟩]=R:=⟨_,rfl⟩
 refine Ao (T':=Yo ze ed zp po [(14,.sc (.int .i64 0))]) (H':=pgN c x s 15 12 14 R) (c':=16) ?_ ?_ (Ar _) ?_
 ·simp only [Yo,lx91,lx64,Bn,Dj,Nat.reduceAdd,Nat.reduceEqDiff,lx6,lx7,↓reduceIte,B6]
  exact CH _
 ·subst hR
  simp only [pgN,dead,Ab,Az,Mp,lx47]
  simp (maxSteps:=10000000) only [AY,AW]
  all_goals done
 refine Axh ?_
 clear E hz1 hz2 hj1 hj2 hw1 hw2 tv kF k63 k65
 cases h3:edB ed with
 | true=>
  rw [h3] at E63
  rw [if_pos h3] at e
  rw [e]
  subst hR
  simp only [Mw,Ab,Az,Mp,lx47,lx63]
  refine Adz ?_
  refine Bq ?_
  simp (maxSteps:=10000000) +contextual -implicitDefEqProofs only [AY,AW,St.put,Ap,Am,DO,pl,↓reduceIte,Nat.reduceAdd,Int.reduceLT,Nat.reduceLT,Dc,Int.reduceAdd,CK,Bh,AL,Bz,BJ,Bb,Bk,AB,norefs,AV.noref,lx11,E63,Hf]
  all_goals done
 | false=>
 rw [h3] at E63
 rw [if_neg (by rw [h3]; simp)] at e
 cases h4:poB c po with
 | true=>
  rw [h4] at E65
  rw [if_pos h4] at e
  rw [e]
  subst hR
  simp only [Mw,Ab,Az,Mp,lx47,lx63]
  refine Adz ?_
  refine Bq ?_
  simp (maxSteps:=10000000) +contextual -implicitDefEqProofs only [AY,AW,St.put,Ap,Am,DO,pl,↓reduceIte,Nat.reduceAdd,Nat.reduceEqDiff,Int.reduceLT,Nat.reduceLT,Dc,Int.reduceAdd,CK,Bh,AL,Bz,BJ,Bb,BS,Bk,AB,norefs,AV.noref,lx11,E63,E65,Hf]
  all_goals done
 | false=>
 rw [h4] at E65
 rw [if_neg (by rw [h4]; simp)] at e
 have hpo:=UY (s:=s) (ed:=ed) h4
 clear h1 h2 h3 h4
 have hR':=hR
 simp only [Ab,Az,Mp,lx47] at hR'
 rw [←hR']
 simp only [Mw,Yo,lx91,lx64,lx47,lx63]
 refine Bq ?_
 refine .seq ?_
 refine ER ?s3 ?a3 ?b3
 case a3=>
  refine gG0 ?_
  rfl
 refine Agq ?_
 refine .skip ?_
 refine .seq ?_
 refine ER ?s4 ?a4 ?b4
 case a4=>
  refine J7 E63 ?_
  rfl
 refine Agq ?_
 refine .skip ?_
 refine .seq ?_
 refine ER ?s5 ?a5 ?b5
 case a5=>
  refine J7 E65 ?_
  rfl
 refine Agq ?_
 refine .skip ?_
 refine ER ?s6 ?a6 ?b6
 case a6=>
  simp (maxSteps:=10000000) +contextual -implicitDefEqProofs only [AW,St.put,CK,AL,lx11]
  rfl
 refine Ao (T':=Yo ze ed zp po [(15,.vw true [])]) (H':=Mw c x s [] 15 16 (.vw true []) dead 12 14 R) (c':=17) ?_ ?_ (Ar _) ?_
 ·simp only [Yo,lx91,lx64]
  exact Adx
 ·rw [←hR']; simp only [Mw,lx47,lx63]; exact Aw _
 have q1:(Mw c x s [] 15 16 (.vw true []) dead 12 14 R).set 2 ⟨true,17,46,3,[],false⟩=Mw c x s [] 15 16 (.vw true []) ⟨true,17,46,3,[],false⟩ 12 14 R:=rfl
 refine Ku (T':=Yo ze ed zp po [(15,.sl 2 17 0 0)]) (H':=Mw c x s [] 15 16 (.vw true []) dead 12 14 R) 2 17 46 3 18 (by simp [Mw]) (Ar _) (Ir _) ?_ (Ea _ _ _) ?_
 ·simp only [Yo,lx91,lx64]
  exact Aqg
 rw [q1]
 clear q1 E63 E65
 have hlf:=hru.lf
 simp only at hlf
 have hle:=fun i=>PH s.left i
 refine Aa ?_
 simp only [Yo,lx91,lx64,Mw]
 refine Bq ?_
 refine gG0 ?_
 refine Al (σ:=Nat × Nat) (fun y cnt=>⟨Yo ze ed zp po [(15,.sl 2 y.2 0 (Nt s.left y.1).length),(43,.sl 3 12 0 s.left.length),(44,.sc (.int .i64 s.left.length)),(45,.sc (.int .i64 (y.1:Int)))],Mw c x { s with left:=lfN s.left y.1 } [] 15 16 (.vw true []) ⟨true,y.2,46,3,(Nt s.left y.1).map Cf,false⟩ 12 14 R,cnt⟩)
  (fun y=>y.1≤s.left.length) (fun y=>s.left.length - y.1) (0,17) (Bu _) ?_ ?_ rfl ?_
 ·simp only [Yo,lx91,lx64]
  simp (maxSteps:=10000000) only [AY,AW,↓reduceIte,reduceCtorEq,Nat.reduceAdd,Nat.reduceEqDiff,Bn,Dj,Nt]
  all_goals done
 ·simp only [Nt,lfN,Mw,lx47,lx63,lx42,lx73,lx64]; exact Aw _
 rintro ⟨i,v⟩ cnt hi ih
 simp only at hi
 by_cases hlt:i < s.left.length
 ·have hb:decide ((i:Int) < ((s.left.length:Nat):Int))=true:=by rw [AN]; omega
  have hb2:decide (i < s.left.length)=true:=Ae
  have w1:IntKind.i64.wrap ((i:Int)+1)=((i+1:Nat):Int):=AA
  have hm:s.left.getD i default ∈ s.left:=ZN
  have ha:=hlf _ hm
  have r2:Nt s.left (i+1)=if s.left.getD i default=1 then Nt s.left i++[⟨5,i,-1⟩] else Nt s.left i:=rfl
  have r3:=Am4 s.left i hlt
  have r4:=Axi s.left i hlt
  have r5:=Aq1 s.left i hi
  have ih2:=fun v' c'=>ih (i+1,v') c' (by simp only; omega) (by simp only; omega)
  have hl1:=hle i
  simp only [r2,←r3] at ih2
  obtain ⟨a,hg⟩:∃ a,s.left.getD i default=a:=⟨_,rfl⟩
  rw [hg] at ha r4
  simp only [hg] at ih2
  have w2:IntKind.i64.wrap (a - 1)=a - 1:=Bd (by omega) (by omega)
  have hdt:HK a=max (a - 1) 0:=rfl
  clear ih r2 r3 hm hle hlf hpo
  generalize Nt s.left i=L at *
  generalize lfN s.left i=G at *
  have hb3:decide (i < G.length)=true:=Ae
  have si:∀ v:Int,(G.map (kA .i64)).set i (.sc (.int .i64 v))=(G.set i v).map (kA .i64):=fun v=>by rw [List.map_set]; rfl
  have tl:(L.map Cf).take L.length=L.map Cf:=lx118 (by simp)
  have z1:decide ((L.length+1) * 24≤140737488355328)=true:=Ae
  simp only [Mw,lx47,lx63,lx2,hdt] at ih2 ⊢
  rw [r5] at ih2 ⊢
  refine Adz ?_
  refine Bq ?_
  by_cases h1':a=1
  ·have c1:(a == 1)=true:=by rw [h1']; rfl
   refine J7 (a9 hb hb3 w1 w2 r4 c1 si tl z1) ?_
   simp only [if_pos h1'] at ih2
   refine Ao ?_ ?_ (Ar _) (ih2 (cnt+1) _)
   all_goals simp (maxSteps:=10000000) only [AY,AW,↓reduceIte,reduceCtorEq,Nat.reduceAdd,Nat.reduceEqDiff,Bn,Dj,Yo,lx5,lx12,Be]
   all_goals try exact Aw _
   all_goals done
  ·have c1:(a == 1)=false:=by rw [lx113]; exact h1'
   refine J7 (a7 hb hb3 w1 w2 r4 c1 si) ?_
   simp only [if_neg h1'] at ih2
   refine Ao ?_ ?_ (Ar _) (ih2 v _)
   all_goals simp (maxSteps:=10000000) only [AY,AW,↓reduceIte,reduceCtorEq,Nat.reduceAdd,Nat.reduceEqDiff,Bn,Dj,Yo]
   all_goals try exact Aw _
   all_goals done
 obtain rfl:i=s.left.length:=Ah
 have hb:decide ((s.left.length:Int) < ((s.left.length:Nat):Int))=false:=Bc
 have hL:=hle s.left.length
 have hG:lfN s.left s.left.length=s.left.map HK:=by rw [lfN,lx74,List.drop_length,lx66]
 have hGl:(s.left.map HK).length=s.left.length:=lx58 _
 have hruS:=Zr hru
 have hee:RB s ed po=Nt s.left s.left.length++ed.map RA++po:=rfl
 clear ih hi
 rw [hG]
 obtain ⟨S,hS⟩:∃ S:Rs,LJ s=S:=⟨_,rfl⟩
 have hS2:({ s with left:=s.left.map HK }:Rs)=S:=hS
 rw [hS] at hruS e
 rw [hS2]
 obtain ⟨L,hLL⟩:∃ L,Nt s.left s.left.length=L:=⟨_,rfl⟩
 rw [hLL] at hL hee ⊢
 clear hLL hle hlf hG hGl hS hS2
 have hn:s.left.length≤128:=hll
 generalize s.left.length=n at *
 simp only [Mw,lx47,lx63]
 refine Adz ?_
 refine Bq ?_
 refine J7 hb ?_
 refine Al (σ:=Nat × Nat) (fun y cnt=>⟨Yo ze ed zp po [(15,.sl 2 y.2 0 (L++(ed.take y.1).map RA).length),(68,.vw ze (ed.map K8)),(69,.sc (.int .i64 ed.length)),(70,.sc (.int .i64 (y.1:Int)))],Mw c x S [] 15 16 (.vw true []) ⟨true,y.2,46,3,(L++(ed.take y.1).map RA).map Cf,false⟩ 12 14 R,cnt⟩)
  (fun y=>y.1≤ed.length) (fun y=>ed.length - y.1) (0,v) (Bu _) ?_ ?_ rfl ?_
 ·simp only [Yo,lx91,lx64,lx42,lx47,lx66]
  exact Adx
 ·simp only [lx42,lx47,lx66,Mw,lx63]; exact Aw _
 clear cnt v hb
 rintro ⟨i,v⟩ cnt hi ih
 simp only at hi
 by_cases hlt:i < ed.length
 ·have hb:decide ((i:Int) < ((ed.length:Nat):Int))=true:=by rw [AN]; omega
  have hb2:decide (i < ed.length)=true:=Ae
  have w1:IntKind.i64.wrap ((i:Int)+1)=((i+1:Nat):Int):=AA
  have htk:L++(ed.take (i+1)).map RA=(L++(ed.take i).map RA)++[RA (ed.getD i default)]:=by
   exact Ar8
  have hLm:(L++(ed.take i).map RA).length≤2000:=by rw [lx5,lx58,lx68]; omega
  have ih2:=fun v' c'=>ih (i+1,v') c' (by simp only; omega) (by simp only; omega)
  simp only [htk] at ih2
  obtain ⟨⟨sw,cl⟩,hg⟩:∃ a,ed.getD i default=a:=⟨_,rfl⟩
  simp only [hg] at ih2
  clear ih htk hpo
  generalize L++List.map RA (ed.take i)=M at *
  have tl:(M.map Cf).take M.length=M.map Cf:=lx118 (by simp)
  have z1:decide ((M.length+1) * 24≤140737488355328)=true:=Ae
  simp only [Mw,lx47,lx63,←hR'] at ih2 ⊢
  refine Adz ?_
  refine Bq ?_
  cases cl
  all_goals
   refine J7 (a7 hb hb2 w1 hg tl z1 @HQ) ?_
   refine Ao ?_ ?_ (Ar _) (ih2 (cnt+1+1) _)
   all_goals simp (maxSteps:=10000000) only [AY,AW,↓reduceIte,reduceCtorEq,Nat.reduceAdd,Nat.reduceEqDiff,Bn,Dj,Yo,lx5,lx12,Be,RA]
   all_goals done
 obtain rfl:i=ed.length:=Ah
 clear ih hi
 rw [lx74]
 have hb:decide ((ed.length:Int) < ((ed.length:Nat):Int))=false:=Bc
 have hM:(L++ed.map RA).length≤2000:=by rw [lx5,lx58]; omega
 rw [hee] at e hpo
 generalize L++ed.map RA=M at *
 obtain ⟨e',p',m',po2,c',x7⟩:=e59 c x (M++po) hpo (by rw [lx5]; omega) S hruS 15 16 cnt (.vw true []) 12 14 R (cnt+1)
 rw [e]
 clear e hpo hru hruS hvl
 generalize Eu c x (M++po) ⟨S,[],[]⟩=q at x7 ⊢
 obtain ⟨⟨zv',vars',zl',left',act',zm',lamps',fau'⟩,ef',po'⟩:=q
 have tl:(M.map Cf).take M.length=M.map Cf:=lx118 (by simp)
 have tef:(ef'.map Dd).take ef'.length=ef'.map Dd:=lx118 (by simp)
 have tl':(left'.map (kA .i64)).take left'.length=left'.map (kA .i64):=lx118 (by simp)
 have tm':(lamps'.map Bp).take lamps'.length=lamps'.map Bp:=lx118 (by simp)
 have z1:decide ((M.length+po.length) * 24≤140737488355328)=true:=Ae
 simp only [Mw,Dx,Ny,lx47,lx63,lx12,lx5,←hR'] at x7 ⊢
 refine Adz ?_
 refine Bq ?_
 simp (maxSteps:=10000000) +contextual -implicitDefEqProofs only [AY,AW,St.put,Ap,Am,DO,↓reduceIte,reduceCtorEq,Nat.reduceAdd,Nat.reduceLeDiff,Nat.reduceEqDiff,Int.reduceLT,Nat.reduceLT,Dc,Int.reduceAdd,CK,E6,hl,Bh,Bb,Bk,AB,norefs,AV.noref,lx11,hb,tl,tef,tl',tm',z1,x7,C7,Er,Hf]
 all_goals done
theorem Zx (c:Cd) (hf:Fit c) (s:Rs) (ze:Bool) (ed:List Ed) (zp:Bool) (po:List Ev) (x:Cx) (hed:ed.length≤1000) (hpl:po.length≤1000):
  C6 Tryz.prog 24 [BP c,Gb s,.vw ze (ed.map K8),.vw zp (po.map Cf),KF x] (Hf (He c s ed po x)):=by
 by_cases h:Bs c s=true∧Ii x=true
 ·exact Am5 c hf s ze ed zp po x hed hpl h.1 h.2
 ·exact Am3 c hf s ze ed zp po x h
theorem Bjv:VOk Tryz.prog 24 f25:=LU <| by
 rintro ⟨c,s,⟨ze,ed⟩,⟨zp,po⟩,x⟩ ⟨h1,h2,h3⟩
 exact Zx c h1 s ze ed zp po x h2 h3
theorem Zy (a:Rs):Nk a a=true:=by simp [Nk]
theorem RuI.bare {c:Cd} {x:Cx} {r:Ru} (h:RuI c x r):Bs c (II r).s=true:=by
 obtain ⟨⟨zv',vars',zl',left',act',zm',lamps',fau'⟩,ef',po'⟩:=r
 have h2:RuI c x ⟨⟨false,vars',false,left',act',false,lamps',fau'⟩,[],[]⟩:=⟨h.val,h.fit,h.cx,h.vl,h.va,h.ll,h.lf,h.ac,h.fa,h.lo,h.so⟩
 have h3:=Afx h2
 exact h3
theorem Axj {c:Cd} {x:Cx} {l:List Ev} {r:Ru} (h:RuI c x r) (hl:PoI c l) (hp:r.po.length≤4096):RuI c x (Eu c x l r):=by
 unfold Eu
 have g:∀ i,RuI c x (Cm c x l r i).1:=fun i=>(UU h hl hp i).1
 have:=g 64
 generalize Cm c x l r 64=q at this ⊢
 by_cases hi:64 < q.2.length
 ·rw [if_pos hi]; exact Au6 this
 ·rw [if_neg hi]; exact this
theorem Aq2 {c:Cd} (hf:Fit c) (s:Rs) (ed:List Ed) (po:List Ev) (x:Cx) (h:(He c s ed po x).2=0):Bs c (II (He c s ed po x).1).s=true:=by
 unfold He at h ⊢
 by_cases h1:Bs c s=false
 ·rw [if_pos h1] at h; exact absurd h (by simp)
 rw [if_neg h1] at h ⊢
 by_cases h2:Ii x=false
 ·rw [if_pos h2] at h; exact absurd h (by simp)
 rw [if_neg h2] at h ⊢
 by_cases h3:edB ed=true
 ·rw [if_pos h3] at h; exact absurd h (by simp)
 rw [if_neg h3] at h ⊢
 by_cases h4:poB c po=true
 ·rw [if_pos h4] at h; exact absurd h (by simp)
 rw [if_neg h4]
 have:=Axj (Zr (UW hf (by simpa using h1) (by simpa using h2))) (UY (s:=s) (ed:=ed) (by simpa using h4)) (Bu _)
 generalize Eu c x (RB s ed po) ⟨LJ s,[],[]⟩=q at this ⊢
 exact this.bare
def tkA (ze:Bool) (ed:List Ed) (zp:Bool) (po:List Ev) (x:Cx):AV:=.ag [.vw ze (ed.map K8),.vw zp (po.map Cf),kA .i64 x.ti,kA .u64 x.clo,kA .i64 x.pl',kA .i64 x.ba]
theorem Zz (ze:Bool) (ed:List Ed) (zp:Bool) (po:List Ev) (x:Cx):tkA ze ed zp po x=.ag [.vw ze (ed.map K8),.vw zp (po.map Cf),kA .i64 x.ti,kA .u64 x.clo,kA .i64 x.pl',kA .i64 x.ba]:=rfl
theorem Aq3 {ze ed zp po x ze' ed' zp' po' x'} (h:tkA ze ed zp po x=tkA ze' ed' zp' po' x'):ze=ze'∧ed=ed'∧zp=zp'∧po=po'∧x=x':=by
 obtain ⟨x1,x2,x3,x4⟩:=x
 obtain ⟨y1,y2,y3,y4⟩:=x'
 simp only [tkA,kA,AV.ag.injEq,AV.vw.injEq,AV.sc.injEq,Value.int.injEq,lx96,Ad6,K6,CY,Ay] at h
 obtain ⟨⟨rfl,rfl⟩,⟨rfl,rfl⟩,rfl,rfl,rfl,rfl⟩:=h
 exact ⟨rfl,rfl,rfl,rfl,rfl⟩
theorem ZA (c:Cd) (hf:Fit c) (s:Rs) (ze:Bool) (ed:List Ed) (zp:Bool) (po:List Ev) (x:Cx) (hed:ed.length≤1000) (hpl:po.length≤1000):C0 Tryz.prog 17 [BP c,Gb s,tkA ze ed zp po x] (.sc (.bool true)):=by
 have x1:=e25 c hf s ze ed zp po x hed hpl
 have hst:=Aq2 hf s ed po x
 generalize He c s ed po x=p at x1 hst
 obtain ⟨⟨⟨zv',vars',zl',left',act',zm',lamps',fau'⟩,ef',po'⟩,e⟩:=p
 have x2:=e39 ⟨false,vars',false,left',act',false,lamps',fau'⟩ ⟨false,vars',false,left',act',false,lamps',fau'⟩
 rw [Zy] at x2
 have x3:=e27 false ef' false ef'
 have x5:=e40 c ⟨false,vars',false,left',act',false,lamps',fau'⟩ hf
 simp only [decide_true] at x3
 simp only [Ab,Az,Cl,Be,Hf,AB] at x1 x2 x5
 refine Ac (Aj (lit:=false) (pm:=fun _=>none) (.cons Bis (.cons Bir (.cons Awm .nil))) (.cons Bjv (.cons Bjo .nil)) .nil .nil) rfl Tryz.func17 rfl (by decide) (by kernel_rfl) (by kernel_rfl) ?_
 simp only [Tryz.f17,Af,lx53,lx63,Nat.reduceAdd,Nat.reduceSub,List.replicate]
 simp only [Ab,Az,Cl,Zz]
 refine Aa ?_
 by_cases he:e=0
 ·subst he
  have:=hst rfl
  simp only [II] at this
  rw [this] at x5
  exact zG1 (a4 x1 x2 x3 x5)
  all_goals done
 ·have b1:(e != 0)=true:=by simpa using he
  exact zG1 (a4 x1 x2 x3 b1)
  all_goals done
def Bfb (p:Cd × Rs × (Bool × List Ed) × (Bool × List Ev) × Cx):Prop:=Fit p.1∧p.2.2.1.2.length≤1000∧p.2.2.2.1.2.length≤1000
noncomputable def f17:=Ew Bfb (fun p=>[BP p.1,Gb p.2.1,tkA p.2.2.1.1 p.2.2.1.2 p.2.2.2.1.1 p.2.2.2.1.2 p.2.2.2.2]) (fun _=>.sc (.bool true))
theorem e17 (c:Cd) (h:Fit c) (s:Rs) (ze:Bool) (ed:List Ed) (zp:Bool) (po:List Ev) (x:Cx) (hed:ed.length≤1000) (hpl:po.length≤1000):f17 [BP c,Gb s,tkA ze ed zp po x]=some (.sc (.bool true)):=
 (AK (q:=Bfb) (enc:=fun p=>[BP p.1,Gb p.2.1,tkA p.2.2.1.1 p.2.2.1.2 p.2.2.2.1.1 p.2.2.2.1.2 p.2.2.2.2]) (out:=fun _=>.sc (.bool true)) (c,s,(ze,ed),(zp,po),x) ⟨h,hed,hpl⟩ (by
  rintro ⟨a,b,⟨d1,d2⟩,⟨e1,e2⟩,f⟩ h
  simp only [lx96,Ay] at h
  obtain ⟨h1,h2,h3⟩:=h
  have h4:=Aq3 h3
  rw [CT h1,JM h2,h4.1,h4.2.1,h4.2.2.1,h4.2.2.2.1,h4.2.2.2.2]) :)
theorem Bjx:DC Tryz.prog 17 f17:=AF <| by
 rintro ⟨c,s,⟨ze,ed⟩,⟨zp,po⟩,x⟩ ⟨h1,h2,h3⟩
 exact ZA c h1 s ze ed zp po x h2 h3
theorem Ag4 {l:List Nat} (h:∀ x ∈ l,x < 256) (i:Nat):l.getD i default < 256:=by
 rw [lx80]
 cases hx:l[i]? with
 | none=>decide
 | some x=>exact h x (lx25 hx)
def u8Q (p:Bool × List Nat):Prop:=∀ x ∈ p.2,x < 256
def Ip (l:Bool × List Nat):Cd:=J1 (tpL l.1 l.2 1)
noncomputable def f14:=Ew u8Q (fun p=>[.vw p.1 (p.2.map uA)]) (fun p=>BP (Ip p))
theorem e14 (z:Bool) (l:List Nat) (h:∀ x ∈ l,x < 256):f14 [.vw z (l.map uA)]=some (BP (Ip (z,l))):=
 (AK (q:=u8Q) (enc:=fun p=>[.vw p.1 (p.2.map uA)]) (out:=fun p=>BP (Ip p)) (z,l) h (by
  rintro ⟨a,b⟩ h
  simp only [lx96,AV.vw.injEq,N6,Ay] at h
  rw [h.1,h.2]) :)
theorem ZB (l:List ByteArray):Cj (l.map stA)=true:=Ep (f:=stA) (fun _=>by simp [stA,AV.fresh]) l
theorem Am7 (v:Nat) (c:Cd) (h1:c.zi=false) (h2:c.zs=false) (h3:c.ze=false) (h4:c.zp=false) (h5:c.zv=false):Ap (TB v c) (TA 0 v c)=BP c∧(TA 0 v c).freshIn (TB v c)=true:=by
 obtain ⟨zi,ins,zs,strs,ze,ens,zp,pri,zv,vars,tim,evs⟩:=c
 simp only at h1 h2 h3 h4 h5
 subst h1; subst h2; subst h3; subst h4; subst h5
 constructor
 ·simp [TA,TB,Ap,Am,AP,BP,kA,lx118]
 ·simp [TA,TB,AV.freshIn,Db,AP,Cj,AV.fresh,Zf,Zg,ZB,Ml]
theorem Bjy:FOk Tryz.prog 14 f14:=LX <| by
 rintro ⟨z,l⟩ h
 obtain ⟨g1,g2⟩:=Am7 0 (Ip (z,l)) rfl rfl rfl rfl rfl
 have:=Aff z l (Ag4 h) [] 0
 exact YS (Aey _) this (by rw [lx64]; exact g1 ▸ .refl _) (by rw [lx64]; exact g2)
theorem Axk (z:Bool) (l:List Nat) (hu:∀ i,l.getD i default < 256) (v:Nat):TpOk (tpL z l v):=by
 exact Azc
theorem Ag5 (p:Bool × List Nat) (h:u8Q p):Fit (Ip p)∧(Ip p).vars=[0,5,-3]:=by
 have ht:=Axk p.1 p.2 (Ag4 h) 1
 have hm:=Zi ht (B8 ht (B8 ht (a:=0) (by omega))) 9
 have h1:=hm.ins
 have h2:=hm.ens
 refine ⟨⟨?_,by simp [Ip,J1],?_,by simp [Ip,J1],by simp [Ip,J1],by simp [Ip,J1],by simp [Ip,J1],?_⟩,rfl⟩
 ·simp only [Ip,J1]; omega
 ·simp only [Ip,J1]; omega
 ·intro b hb
  simp only [Ip,J1,lx59,lx121,Fj] at hb
  rcases hb with rfl | rfl
  ·decide
  ·decide
def nx (l:List Nat) (i n:Nat):Nat:=if l.length≤i then 0 else l.getD i default % n
theorem Aug {l:List Nat} {i n:Nat} (h:0 < n):nx l i n < n:=by
 unfold nx; split
 ·exact h
 ·exact Nat.mod_lt _ h
def nxQ (p:(Bool × List Nat) × Nat × Nat):Prop:=(∀ x ∈ p.1.2,x < 256)∧0 < p.2.2∧p.2.2≤1000∧p.2.1≤1000000
noncomputable def f84:=Ew nxQ (fun p=>[.vw p.1.1 (p.1.2.map uA),.sc (.int .i64 (p.2.1:Int)),.sc (.int .i64 (p.2.2:Int))]) (fun p=>.sc (.int .i64 (nx p.1.2 p.2.1 p.2.2:Nat)))
theorem e84 (z:Bool) (l:List Nat) (i n:Nat) (N:Int) (hN:N=(n:Int)) (h:∀ x ∈ l,x < 256) (h1:0 < n) (h2:n≤1000) (h3:i≤1000000):
  f84 [.vw z (l.map uA),.sc (.int .i64 (i:Int)),.sc (.int .i64 N)]=some (.sc (.int .i64 (nx l i n:Nat))):=by
 subst hN
 exact (AK (q:=nxQ) (enc:=fun p=>[.vw p.1.1 (p.1.2.map uA),.sc (.int .i64 (p.2.1:Int)),.sc (.int .i64 (p.2.2:Int))]) (out:=fun p=>.sc (.int .i64 (nx p.1.2 p.2.1 p.2.2:Nat))) ((z,l),i,n) ⟨h,h1,h2,h3⟩ (by
  rintro ⟨⟨a,b⟩,c,d⟩ h
  simp only [lx96,AV.vw.injEq,AV.sc.injEq,Value.int.injEq,N6,Ay,CY] at h
  obtain ⟨⟨rfl,rfl⟩,h1,h2⟩:=h
  obtain rfl:c=i:=Ah
  obtain rfl:d=n:=Ah
  rfl) :)
theorem Bjz:DC Tryz.prog 84 f84:=AF <| by
 rintro ⟨⟨z,l⟩,i,n⟩ ⟨h,h1,h2,h3⟩
 simp only at h h1 h2 h3 ⊢
 have hu:=Ag4 h i
 refine Ac (Aq (.nil) (.nil)) rfl Tryz.func84 rfl (by decide) (by kernel_rfl) (by kernel_rfl) ?_
 simp only [Tryz.f84,Af,lx53,lx63,Nat.reduceAdd,Nat.reduceSub,List.replicate]
 refine Aa ?_
 by_cases hi:l.length≤i
 ·have g1:decide ((l.length:Int)≤(i:Int))=true:=by rw [AN]; omega
  rw [nx,if_pos hi]
  simp (maxSteps:=10000000) +contextual -implicitDefEqProofs only [AY,AW,St.put,↓reduceIte,Dc,g1]
  all_goals done
 ·have g1:decide ((l.length:Int)≤(i:Int))=false:=by rw [BT]; omega
  have g2:decide ((i:Int) < (l.length:Int))=true:=Ae
  have g3:decide (i < l.length)=true:=Ae
  obtain ⟨x,hx⟩:∃ x,l.getD i default=x:=⟨_,rfl⟩
  rw [hx] at hu
  have w3:IntKind.i64.wrap (x:Int)=(x:Int):=Bd (by omega) (by omega)
  have hz:¬ (n:Int)=0:=Ah
  have hr:Int.tmod (x:Int) (n:Int)=((x % n:Nat):Int):=rfl
  rw [nx,if_neg hi,hx]
  exact zE1 (Hg g1 g2 g3 w3 hx hz hr @Jg @XU @Ax)
  all_goals done
def evN (i:Nat):Int:=[0,1,2,7,-1,-5,100,2147483647,-2147483647,65536].getD i 0
def etN (i:Nat):Int:=[0,0,1,50,2147483647].getD i 0
theorem Axl {q:Nat} (h:q < 10):([.sc (.int .i64 0),.sc (.int .i64 1),.sc (.int .i64 2),.sc (.int .i64 7),.sc (.int .i64 (-1)),.sc (.int .i64 (-5)),.sc (.int .i64 100),.sc (.int .i64 2147483647),.sc (.int .i64 (-2147483647)),.sc (.int .i64 65536)]:List AV)[q]?=some (.sc (.int .i64 (evN q))):=by
 exact Azl
theorem Axm {q:Nat} (h:q < 5):([.sc (.int .i64 0),.sc (.int .i64 0),.sc (.int .i64 1),.sc (.int .i64 50),.sc (.int .i64 2147483647)]:List AV)[q]?=some (.sc (.int .i64 (etN q))):=by
 have:q=0∨q=1∨q=2∨q=3∨q=4:=Ah
 rcases this with rfl | rfl | rfl | rfl | rfl <;> rfl
def U8 (l:List Nat) (n:Nat):List Int:=(List.range n).map fun i=>evN (nx l i 10)
def Yj (l:List Nat) (k n:Nat):List Int:=(List.range n).map fun i=>etN (nx l (k+i) 5)
def ZC (l:List Nat) (k:Nat):Nat→Int
 | 0=>0
 | i+1=>EX .or .u64 (NM .u64 (ZC l k i) 8) (IntKind.u64.wrap (nx l (k+i) 256:Nat))
def Iq (c:Cd):Nat:=(min c.tim 200).toNat
def Aq4 (c:Cd) (l:List Nat):Int:=
 EX .and .u32 (IntKind.u32.wrap (nx l (c.vars.length+Iq c+8) 256:Nat)) (IntKind.u32.wrap (NM .u32 1 ((min c.pri.length 16:Nat):Int) - 1))
def Pd (c:Cd) (l:List Nat):Vn:=
 let k:=c.vars.length+Iq c
 ⟨false,U8 l c.vars.length,false,Yj l c.vars.length (Iq c),ZC l k 8,Aq4 c l,(nx l (k+9) 5:Nat),(nx l (k+10) 4:Nat)⟩
theorem Am8 (c:Cd) (hq:Fit c) (z:Bool) (l:List Nat) (h8:∀ x ∈ l,x < 256):H5 Tryz.prog 44 [BP c,.vw z (l.map uA)] (J0 (Pd c l)):=by
 have hfv:=hq.vars
 have hft:=hq.tim
 have hfp:=hq.pri
 obtain ⟨RES,hRES⟩:∃ R,Pd c l=R:=⟨_,rfl⟩
 rw [hRES]
 refine D7 (Aj (lit:=false) (pm:=fun _=>none) (.cons Bjz .nil) .nil .nil .nil) rfl Tryz.func44 rfl (by decide) (by kernel_rfl) (Tt _) ?_
 simp only [Tryz.f44,Af,lx53,lx63,Nat.reduceAdd,Nat.reduceSub,List.replicate]
 refine Aa ?_
 refine O3 (a2 @Ab @AS) ?_
 refine Ao (T':=Bn 0 96 [(1,.vw z (l.map uA)),(2,.pt 0 0 0 0),(4,.pt 1 1 0 0),(5,.pt 2 2 0 0),(6,.sc (.int .i64 0))]) (H':=[⟨true,0,36,7,[BP c],false⟩,⟨true,1,104,6,[.ag [.vw true [],.vw true [],.sc (.int .u64 0),.sc (.int .u32 0),.sc (.int .i64 0),.sc (.int .i64 0)]],false⟩,⟨true,2,104,6,[.ag [.vw true [],.vw true [],.sc (.int .u64 0),.sc (.int .u32 0),.sc (.int .i64 0),.sc (.int .i64 0)]],false⟩]) ?_ ?_ (Ar _) ?_
 ·exact Gn
 ·exact Jp
 refine Fg (T':=Bn 0 96 [(1,.vw z (l.map uA)),(2,.pt 0 0 0 0),(4,.pt 1 1 0 0),(5,.pt 2 2 0 0),(6,.sc (.int .i64 0))]) (H':=[⟨true,0,36,7,[BP c],false⟩,⟨true,1,104,6,[.ag [.vw true [],.vw true [],.sc (.int .u64 0),.sc (.int .u32 0),.sc (.int .i64 0),.sc (.int .i64 0)]],false⟩,⟨true,2,104,6,[.ag [.sl 3 3 0 0,.vw true [],.sc (.int .u64 0),.sc (.int .u32 0),.sc (.int .i64 0),.sc (.int .i64 0)]],false⟩]) 3 3 1 4 (by omega) (by omega) (BX _ _ _) ?_ ?_
 ·refine TK ?_
  exact ⟨.inl rfl,.inl rfl,F2 _ _ _ _ _ _ _ _ _ _ ⟨Gw ⟨.nil,BX _ _ _⟩,trivial⟩⟩
 refine qd5 ?_
 refine Fg (T':=Bn 0 96 [(1,.vw z (l.map uA)),(2,.pt 0 0 0 0),(4,.pt 1 1 0 0),(5,.pt 2 2 0 0),(6,.sc (.int .i64 0))]) (H':=[⟨true,0,36,7,[BP c],false⟩,⟨true,1,104,6,[.ag [.vw true [],.vw true [],.sc (.int .u64 0),.sc (.int .u32 0),.sc (.int .i64 0),.sc (.int .i64 0)]],false⟩,⟨true,2,104,6,[.ag [.sl 3 3 0 0,.sl 4 4 0 0,.sc (.int .u64 0),.sc (.int .u32 0),.sc (.int .i64 0),.sc (.int .i64 0)]],false⟩,⟨true,3,3,1,[],false⟩]) 4 3 1 5 (by omega) (by omega) (BX _ _ _) ?_ ?_
 ·refine TK ?_
  exact ⟨.inl rfl,.inl rfl,F2 _ _ _ _ _ _ _ _ _ _ ⟨Gw ⟨.refl _,.nil,BX _ _ _⟩,trivial⟩,.inl rfl⟩
 refine qd5 ?_
 refine Al (σ:=Nat × Nat) (fun y cnt=>⟨Bn 0 96 [(1,.vw z (l.map uA)),(2,.pt 0 0 0 0),(4,.pt 1 1 0 0),(5,.pt 2 2 0 0),(6,.sc (.int .i64 (y.1:Int)))],
  [⟨true,0,36,7,[BP c],false⟩,⟨true,1,104,6,[.ag [.vw true [],.vw true [],.sc (.int .u64 0),.sc (.int .u32 0),.sc (.int .i64 0),.sc (.int .i64 0)]],false⟩,⟨true,2,104,6,[.ag [.sl 3 y.2 0 y.1,.sl 4 4 0 0,.sc (.int .u64 0),.sc (.int .u32 0),.sc (.int .i64 0),.sc (.int .i64 0)]],false⟩,⟨true,y.2,3,1,(U8 l y.1).map (kA .i64),false⟩,⟨true,4,3,1,[],false⟩],cnt⟩)
  (fun y=>y.1≤c.vars.length) (fun y=>c.vars.length - y.1) (0,3) (Bu _) ?_ ?_ rfl ?_
 ·exact Gn
 ·simp (maxSteps:=10000000) only [AY,AW,Ab,U8,List.range_zero]
 rintro ⟨k,v3⟩ cnt hk ih
 simp only at hk
 by_cases hk':k < c.vars.length
 ·have h1:decide ((k:Int) < (c.vars.length:Int))=true:=by rw [AN]; omega
  have w1:IntKind.i64.wrap ((k:Int)+1)=((k+1:Nat):Int):=AA
  have E1:=e84 z l k 10 10 rfl h8 (by omega) (by omega) (by omega)
  have hq1:=Aug (l:=l) (i:=k) (n:=10) (by omega)
  have ha:(U8 l k).map (kA .i64)++[AV.sc (.int .i64 (evN (nx l k 10)))]=(U8 l (k+1)).map (kA .i64):=by rw [U8,U8,List.range_succ,lx12,lx12]; rfl
  obtain ⟨q,hq1'⟩:∃ q,nx l k 10=q:=⟨_,rfl⟩
  rw [hq1'] at E1 hq1 ha
  have g1:decide ((q:Int) < 10)=true:=Ae
  have g2:=Axl hq1
  have hln:(U8 l k).length=k:=by simp [U8]
  have hsz:decide ((k+1) * 8≤140737488355328)=true:=Ae
  have ht:List.take k ((U8 l k).map (kA .i64))=(U8 l k).map (kA .i64):=lx118 (by simp [hln])
  have ih:=fun v c=>ih (k+1,v) c (by simp only; omega) (by simp only; omega)
  simp only at ih
  refine Aa ?_
  refine Bq ?_
  refine O3 (Hg h1 w1 E1 g1 g2 hsz ht ha @Ab @Aks) ?_
  exact Aqv
 obtain rfl:k=c.vars.length:=Ah
 have h1:decide ((c.vars.length:Int) < (c.vars.length:Int))=false:=Bc
 clear ih
 refine Aa ?_
 refine Bq ?_
 refine O3 (a2 h1 @Ab) ?_
 clear h1
 refine Al (σ:=Nat × Nat) (fun y cnt=>⟨Bn 0 96 [(1,.vw z (l.map uA)),(2,.pt 0 0 0 0),(4,.pt 1 1 0 0),(5,.pt 2 2 0 0),(7,.sc (.int .i64 c.vars.length)),(8,.sc (.int .i64 (y.1:Int)))],
  [⟨true,0,36,7,[BP c],false⟩,⟨true,1,104,6,[.ag [.vw true [],.vw true [],.sc (.int .u64 0),.sc (.int .u32 0),.sc (.int .i64 0),.sc (.int .i64 0)]],false⟩,⟨true,2,104,6,[.ag [.sl 3 v3 0 c.vars.length,.sl 4 y.2 0 y.1,.sc (.int .u64 0),.sc (.int .u32 0),.sc (.int .i64 0),.sc (.int .i64 0)]],false⟩,⟨true,v3,3,1,(U8 l c.vars.length).map (kA .i64),false⟩,⟨true,y.2,3,1,(Yj l c.vars.length y.1).map (kA .i64),false⟩],cnt⟩)
  (fun y=>y.1≤Iq c) (fun y=>Iq c - y.1) (0,4) (Bu _) ?_ ?_ rfl ?_
 ·exact Gn
 ·simp (maxSteps:=10000000) only [AY,AW,Ab,Yj,List.range_zero]
 clear hk
 rintro ⟨k,v4⟩ cnt hk ih
 simp only at hk
 have htn:Iq c≤200:=by unfold Iq; omega
 by_cases hk':k < Iq c
 ·have h1:decide ((k:Int) < min c.tim 200)=true:=by
   rw [AN]; unfold Iq at hk'; omega
  have w1:IntKind.i64.wrap ((k:Int)+1)=((k+1:Nat):Int):=AA
  have w2:IntKind.i64.wrap ((c.vars.length:Int)+(k:Int))=((c.vars.length+k:Nat):Int):=AA
  have E1:=e84 z l (c.vars.length+k) 5 5 rfl h8 (by omega) (by omega) (by omega)
  have hq1:=Aug (l:=l) (i:=c.vars.length+k) (n:=5) (by omega)
  have ha:(Yj l c.vars.length k).map (kA .i64)++[AV.sc (.int .i64 (etN (nx l (c.vars.length+k) 5)))]=(Yj l c.vars.length (k+1)).map (kA .i64):=by rw [Yj,Yj,List.range_succ,lx12,lx12]; rfl
  obtain ⟨q,hq1'⟩:∃ q,nx l (c.vars.length+k) 5=q:=⟨_,rfl⟩
  rw [hq1'] at E1 hq1 ha
  have g1:decide ((q:Int) < 5)=true:=Ae
  have g2:=Axm hq1
  have hln:(Yj l c.vars.length k).length=k:=by simp [Yj]
  have hsz:decide ((k+1) * 8≤140737488355328)=true:=Ae
  have ht:List.take k ((Yj l c.vars.length k).map (kA .i64))=(Yj l c.vars.length k).map (kA .i64):=lx118 (by simp [hln])
  have ih:=fun v c=>ih (k+1,v) c (by simp only; omega) (by simp only; omega)
  simp only at ih
  refine Aa ?_
  refine Bq ?_
  refine O3 (Hg h1 w1 w2 E1 g1 g2 hsz ht ha @Ab) ?_
  exact Aqv
 obtain rfl:k=Iq c:=Ah
 have h1:decide (((Iq c:Nat):Int) < min c.tim 200)=false:=by
  rw [BT]; unfold Iq; omega
 have w2:IntKind.i64.wrap ((c.vars.length:Int)+((Iq c:Nat):Int))=((c.vars.length+Iq c:Nat):Int):=AA
 clear ih
 refine Aa ?_
 refine Bq ?_
 refine O3 (a3 h1 w2 @Ab) ?_
 clear h1 w2
 obtain ⟨m,hm⟩:∃ m,c.vars.length+Iq c=m:=⟨_,rfl⟩
 simp only [hm]
 refine Al (σ:=Nat) (fun y cnt=>⟨Bn 0 96 [(1,.vw z (l.map uA)),(2,.pt 0 0 0 0),(4,.pt 1 1 0 0),(5,.pt 2 2 0 0),(7,.sc (.int .i64 m)),(9,.sc (.int .i64 (y:Int)))],
  [⟨true,0,36,7,[BP c],false⟩,⟨true,1,104,6,[.ag [.vw true [],.vw true [],.sc (.int .u64 0),.sc (.int .u32 0),.sc (.int .i64 0),.sc (.int .i64 0)]],false⟩,⟨true,2,104,6,[.ag [.sl 3 v3 0 c.vars.length,.sl 4 v4 0 (Iq c),.sc (.int .u64 (ZC l m y)),.sc (.int .u32 0),.sc (.int .i64 0),.sc (.int .i64 0)]],false⟩,⟨true,v3,3,1,(U8 l c.vars.length).map (kA .i64),false⟩,⟨true,v4,3,1,(Yj l c.vars.length (Iq c)).map (kA .i64),false⟩],cnt⟩)
  (fun y=>y≤8) (fun y=>8 - y) 0 (Bu _) ?_ ?_ rfl ?_
 ·exact Gn
 ·simp (maxSteps:=10000000) only [AY,AW,Ab,ZC]
 clear hk
 rintro k cnt hk ih
 have hk:k≤8:=hk
 have hml:m≤200000:=Ah
 by_cases hk':k < 8
 ·have h1:decide ((k:Int) < 8)=true:=by rw [AN]; omega
  have w1:IntKind.i64.wrap ((k:Int)+1)=((k+1:Nat):Int):=AA
  have w2:IntKind.i64.wrap ((m:Int)+(k:Int))=((m+k:Nat):Int):=AA
  have E1:=e84 z l (m+k) 256 256 rfl h8 (by omega) (by omega) (by omega)
  have hcs:ZC l m (k+1)=EX .or .u64 (NM .u64 (ZC l m k) 8) (IntKind.u64.wrap (nx l (m+k) 256:Nat)):=rfl
  have ih:=fun c=>ih (k+1) c (show k+1≤8 by omega) (show 8 - (k+1) < 8 - k by omega)
  simp only [hcs] at ih
  refine Aa ?_
  refine Bq ?_
  refine O3 (a5 h1 w1 w2 E1 @Ab) ?_
  exact MB
 obtain rfl:k=8:=Ah
 have h1:decide (((8:Nat):Int) < 8)=false:=by decide
 have w8:IntKind.i64.wrap ((m:Int)+8)=((m+8:Nat):Int):=AA
 have w9:IntKind.i64.wrap ((m:Int)+9)=((m+9:Nat):Int):=AA
 have w10:IntKind.i64.wrap ((m:Int)+10)=((m+10:Nat):Int):=AA
 have E1:=e84 z l (m+8) 256 256 rfl h8 (by omega) (by omega) (by omega)
 have E2:=e84 z l (m+9) 5 5 rfl h8 (by omega) (by omega) (by omega)
 have E3:=e84 z l (m+10) 4 4 rfl h8 (by omega) (by omega) (by omega)
 clear ih
 have hln:(Yj l c.vars.length (Iq c)).length=Iq c:=by simp [Yj]
 have hln3:(U8 l c.vars.length).length=c.vars.length:=by simp [U8]
 have ht:List.take (Iq c) ((Yj l c.vars.length (Iq c)).map (kA .i64))=(Yj l c.vars.length (Iq c)).map (kA .i64):=lx118 (by simp [hln])
 have ht3:List.take c.vars.length ((U8 l c.vars.length).map (kA .i64))=(U8 l c.vars.length).map (kA .i64):=lx118 (by simp [hln3])
 have hR:RES=⟨false,U8 l c.vars.length,false,Yj l c.vars.length (Iq c),ZC l m 8,Aq4 c l,(nx l (m+9) 5:Nat),(nx l (m+10) 4:Nat)⟩:=by rw [←hRES,←hm]; rfl
 rw [hR]
 have hmin:min (c.pri.length:Int) 16=((min c.pri.length 16:Nat):Int):=Ah
 have hmw:IntKind.u64.wrap ((min c.pri.length 16:Nat):Int)=((min c.pri.length 16:Nat):Int):=Eg (by omega) (by omega)
 have hact:Aq4 c l=EX .and .u32 (IntKind.u32.wrap (nx l (m+8) 256:Nat)) (IntKind.u32.wrap (NM .u32 1 ((min c.pri.length 16:Nat):Int) - 1)):=by rw [Aq4,hm]
 refine Aa ?_
 refine Bq ?_
 simp (maxSteps:=10000000) +contextual -implicitDefEqProofs only [AY,AW,St.put,Ap,Am,DO,pl,↓reduceIte,reduceCtorEq,Nat.reduceAdd,Nat.reduceLeDiff,Int.reduceLT,Nat.reduceLT,Dc,Int.reduceAdd,CK,E6,Ab,w8,w9,w10,E1,E2,E3,ht,ht3,hmin,hmw,←hact]
 repeat' (first | exact Ad (by kernel_rfl) | refine ⟨Ad (by kernel_rfl),?_⟩ | refine And.intro ?_ ?_ | fail)
 all_goals first | (simp [AV.freshIn,Db,AP,Cj,AV.fresh,Ml]; done) | skip
 all_goals done
def cuQ (p:Cd × Bool × List Nat):Prop:=Fit p.1∧∀ x ∈ p.2.2,x < 256
noncomputable def f44:=Ew cuQ (fun p=>[BP p.1,.vw p.2.1 (p.2.2.map uA)]) (fun p=>J0 (Pd p.1 p.2.2))
theorem e44 (c:Cd) (h:Fit c) (z:Bool) (l:List Nat) (h8:∀ x ∈ l,x < 256):f44 [BP c,.vw z (l.map uA)]=some (J0 (Pd c l)):=
 (AK (q:=cuQ) (enc:=fun p=>[BP p.1,.vw p.2.1 (p.2.2.map uA)]) (out:=fun p=>J0 (Pd p.1 p.2.2)) (c,z,l) ⟨h,h8⟩ (by
  rintro ⟨a,b,d⟩ h
  simp only [lx96,AV.vw.injEq,N6,Ay] at h
  rw [CT h.1,h.2.1,h.2.2]) :)
theorem Bk2:FOk Tryz.prog 44 f44:=LX <| by
 rintro ⟨c,z,l⟩ ⟨h1,h2⟩
 exact Am8 c h1 z l h2
end Go.Proofs.YtdjpkhjaibdogaaGreat
