/-
  Lemmas towards ModesPriority (joined texts: P15, FJ).
  Conditions: none.
-/
import Derived.Test.YtdjpkhjaibdogaaGreatL01
import Derived.Test.YtdjpkhjaibdogaaGreatL02
import Derived.Test.YtdjpkhjaibdogaaGreatL44
import Derived.Test.YtdjpkhjaibdogaaGreatL28
import Derived.Test.YtdjpkhjaibdogaaGreatL42
import Derived.Test.YtdjpkhjaibdogaaGreatL30
set_option linter.unusedSimpArgs false
set_option linter.unusedVariables false
set_option maxRecDepth 100000
set_option maxHeartbeats 8000000
namespace Go.Proofs.YtdjpkhjaibdogaaGreat
open Go Go.SX
attribute [local congr] ite_congr
noncomputable def f32:=EF (fun n:Nat=>n < 100) (fun n=>[.sc (.int .i64 (n:Int))]) (fun n=>.sc (.string (LM 1 n)))
theorem e32 (n:Nat) (h:n < 100):f32 [.sc (.int .i64 (n:Int))]=some (.sc (.string (LM 1 n))):=AK (enc:=fun n:Nat=>[.sc (.int .i64 (n:Int))]) n h fun y h=>by
 exact Ayh
theorem Brc:DC Tryz.prog 32 f32:=AN fun n h=>p32 1 n h (by decide)
theorem Apb:Pm 16 (fun i=>E8 (LM 1 i).data.toList (Og i))=true:=by kernel_rfl
theorem Aty:Pm 16 (fun i=>E8 (Z2 i).data.toList (109::Og i))=true:=by kernel_rfl
theorem Apc {i:Nat} (h:i < 16):(LM 1 i).data.toList=Og i:=by
 have:=EZ Apb i h
 rwa [IY,lx86] at this
theorem Bbe {i:Nat} (h:i < 16):(Z2 i).data.toList=109::Og i:=by
 have:=EZ Aty i h
 rwa [IY,lx86] at this
def k1T:ByteArray:=⟨#[109,111,100,101,32,109]⟩
def k2T:ByteArray:=⟨#[32]⟩
def k3T:ByteArray:=⟨#[32,123,32,111,110,32,101,118,101,110,116,32,101,32,123,32,115,99,111,114,101,32]⟩
def k4T:ByteArray:=⟨#[59,32]⟩
def k5T:ByteArray:=⟨#[99,111,110,115,117,109,101,59,32]⟩
def k6T:ByteArray:=⟨#[125,32,125,32]⟩
theorem Axs (a b:ByteArray):(a++b).data.toList=a.data.toList++b.data.toList:=AZ
theorem Apd {ps:List Nat} {c i:Nat} (hi:i < 16):Fz (Pn (lm1 ps c i))=k1T.data.toList++Og i++k2T.data.toList++Og (ps.getD i 0 % 8)++k3T.data.toList++Og i++k4T.data.toList++(bif cB c i then k5T.data.toList else [])++k6T.data.toList:=by
 have h1:(lm1 ps c i).nm.data.toList=109::Og i:=Bbe hi
 have h2:(lm1 ps c i).p.toNat=ps.getD i 0 % 8:=Pa _
 have h3:(lm1 ps c i).s.toNat=i:=Pa _
 have h4:(lm1 ps c i).c=cB c i:=rfl
 cases hc:cB c i <;> simp [Pn,h1,h2,h3,h4,hc,Fz,pcB,k1T,k2T,k3T,k4T,k5T,k6T,Dk,Tg,Bv,Dg,Gk]
def sI (ps:List Nat) (c i:Nat):ByteArray:=⟨⟨Fz (Hv ((Te ps c).take i))⟩⟩
theorem Atz {ps:List Nat} {c i:Nat} (h:i < ps.length) (hi:i < 16):sI ps c (i+1)=sI ps c i++k1T++LM 1 i++k2T++LM 1 (ps.getD i 0 % 8)++k3T++LM 1 i++k4T++(bif cB c i then k5T else ⟨#[]⟩)++k6T:=by
 refine Ac1 ?_
 have h8:ps.getD i 0 % 8 < 16:=An
 have e1:(Te ps c).take (i+1)=(Te ps c).take i++[lm1 ps c i]:=by rw [Iz (by rw [Je]; exact h),KM h]
 have e2:∀ l m,Fz (Hv (l++[m]))=Fz (Hv l)++Fz (Pn m):=fun l m=>by
  simp [Hv,Fz,lx6]
 have e3:(sI ps c (i+1)).data.toList=Fz (Hv ((Te ps c).take (i+1))):=rfl
 have e4:(sI ps c i).data.toList=Fz (Hv ((Te ps c).take i)):=rfl
 rw [e3,e1,e2,Apd hi]
 cases hc:cB c i <;> simp only [Axs,e4,Apc hi,Apc h8,cond_true,cond_false,lx6,lx66,lx64]
theorem Bkt {ps:List Nat} {c i:Nat} (h:ps.length≤16):(sI ps c i).size≤13 * 243:=by
 have hl:((Te ps c).take i).length≤16:=by rw [lx68,Je]; omega
 have h1:=Ac8 (Ap7 (ms:=(Te ps c).take i) (fun m hm=>Ap5 h m (lx38 hm))).one
 have h2:=Nl ((Te ps c).take i) _ (Av _)
 rw [Kk,←Aa2] at h2
 show (Fz _).length≤_
 omega
theorem s35 (z:Bool) (ps:List Nat) (hps:ps.length≤16) (h8:∀ x ∈ ps,x < 256) (c:Nat) (hc:c < 65536):Ap Tryz.prog 35 [.vw z (ps.map uA),.sc (.int .u16 (c:Int))] (.sc (.string ⟨⟨Fz (Hv (Te ps c))⟩⟩)):=by
 have hpl:(ps.map uA).length=ps.length:=lx57 _
 have hg:∀ i,i < ps.length→(ps.map uA)[i]?=some (.sc (.int .u8 ((ps.getD i 0:Nat):Int))):=fun i hi=>by
  exact Ayl
 have h1z:=ZN ps
 have hall:sI ps c ps.length=⟨⟨Fz (Hv (Te ps c))⟩⟩:=by
  rw [sI,lx12 (by rw [Je]; exact Av _)]
 rw [←hall]
 have hs0:(⟨#[101,118,101,110,116,32,101,59,32]⟩:ByteArray)=sI ps c 0:=rfl
 have hlt:∀ i,i < ps.length→ps.getD i 0 < 256:=fun i hi=>h8 _ (by rw [lx81,lx50 hi]; exact lx89 hi)
 generalize ps.map uA=U at hpl hg h1z ⊢
 refine Ab (Af (lit:=false) (pm:=fun _=>none) (.cons Brc .nil) .nil .nil .nil) rfl Tryz.func35 rfl (by decide) (by kernel_rfl) (by kernel_rfl) ?_
 simp only [Tryz.f35,Ae,lx52,lx63,Nat.reduceAdd,Nat.reduceSub,List.replicate]
 refine Ac ?_
 refine qd9 ?_
 refine Az (σ:=Nat) (fun i cnt=>⟨CW 0 43 [(0,.vw z U),(1,.sc (.int .u16 (c:Int))),(5,.sc (.string (sI ps c i))),(6,.sc (.int .i64 (i:Int)))],[],cnt⟩)
  (fun i=>i≤ps.length) (fun i=>ps.length - i) 0 (Bq _) ?_ ?_ rfl ?_
 ·rw [←hs0]
  exact Gm
 ·exact Aq _
 rintro i cnt hi ih
 by_cases DO:i < ps.length
 rotate_left
 ·obtain rfl:i=ps.length:=by omega
  have c1:decide ((ps.length:Int) < (ps.length:Int))=false:=AZ
  refine Ac ?_
  refine Cb ?_
  simp (maxSteps:=10000000) +contextual -implicitDefEqProofs only [AX,AT,St.put,↓reduceIte,CS,B9,c1,hpl]
  repeat' (first | exact Aa (by kernel_rfl) | refine ⟨Aa (by kernel_rfl),?_⟩ | refine And.intro ?_ ?_ | fail)
  all_goals exact Et
 have c1:decide ((i:Int) < (ps.length:Int))=true:=AA (by omega)
 have c0:decide (0≤(i:Int))=true:=AA (by omega)
 have w1:IntKind.i64.wrap ((i:Int)+1)=((i+1:Nat):Int):=B8
 have wm:IntKind.u64.wrap (i:Int)=(i:Int):=Ie (by omega) (by omega)
 have hgi:=hg i DO
 have hp:=hlt i DO
 have hsz:=Bkt (c:=c) (i:=i) hps
 have ih:=ih (i+1) cnt (by omega) (by omega)
 rw [Atz DO (by omega)] at ih
 have x1:=e32 i (by omega)
 have x2:=e32 (ps.getD i 0 % 8) (by omega)
 have hd1:=Nm 1 i
 have hd2:=Nm 1 (ps.getD i 0 % 8)
 have hm:((ps.getD i 0:Nat):Int).tmod 8=((ps.getD i 0 % 8:Nat):Int):=Ajy
 have wu:IntKind.u8.wrap ((ps.getD i 0 % 8:Nat):Int)=((ps.getD i 0 % 8:Nat):Int):=I5 (by omega)
 have wi:IntKind.i64.wrap ((ps.getD i 0 % 8:Nat):Int)=((ps.getD i 0 % 8:Nat):Int):=Ew (by omega) (by omega)
 have sz1:k1T.size=6:=rfl
 have sz2:k2T.size=1:=rfl
 have sz3:k3T.size=22:=rfl
 have sz4:k4T.size=2:=rfl
 have sz5:k5T.size=9:=rfl
 have sz6:k6T.size=4:=rfl
 generalize ps.getD i 0 % 8=pp at x2 hd2 hm wu wi ih
 generalize LM 1 pp=dp at x2 hd2 ih
 generalize LM 1 i=di at x1 hd1 ih
 generalize sI ps c i=S0 at hsz ih ⊢
 have ap:∀ a b:ByteArray,a.size+b.size≤1000000→∀ x y,Da Tryz.prog .add 9 x y (.sc (.string a)) (.sc (.string b))=some (.sc (.string (a++b))):=fun a b h x y=>ZZ _ _ x y a b h
 have a1:=ap S0 k1T (by omega)
 have l1:(S0++k1T).size≤3200:=Ox
 generalize S0++k1T=S1 at a1 l1 ih
 have a2:=ap S1 di (by omega)
 have l2:(S1++di).size≤3300:=Ox
 generalize S1++di=S2 at a2 l2 ih
 have a3:=ap S2 k2T (by omega)
 have l3:(S2++k2T).size≤3400:=Ox
 generalize S2++k2T=S3 at a3 l3 ih
 have a4:=ap S3 dp (by omega)
 have l4:(S3++dp).size≤3500:=Ox
 generalize S3++dp=S4 at a4 l4 ih
 have a5:=ap S4 k3T (by omega)
 have l5:(S4++k3T).size≤3600:=Ox
 generalize S4++k3T=S5 at a5 l5 ih
 have a6:=ap S5 di (by omega)
 have l6:(S5++di).size≤3700:=Ox
 generalize S5++di=S6 at a6 l6 ih
 have a7:=ap S6 k4T (by omega)
 have l7:(S6++k4T).size≤3800:=Ox
 generalize S6++k4T=S7 at a7 l7 ih
 have a8:=ap S7 k5T (by omega)
 have l8:(S7++k5T).size≤3900:=Ox
 have a9:=ap (S7++k5T) k6T (by omega)
 have HO:=ap S7 k6T (by omega)
 have hem:S7++(⟨#[]⟩:ByteArray)=S7:=Ac1 (by rw [Axs]; simp)
 have hcb:cB c i=(D2 .and .u16 (GD .u16 (c:Int) (i:Int)) 1 == 1):=rfl
 rw [hcb] at ih
 simp only [k1T,k2T,k3T,k4T,k5T,k6T] at a1 a3 a5 a7 a8 a9 HO ih
 refine Ac ?_
 refine Cb ?_
 cases hb:(D2 .and .u16 (GD .u16 (c:Int) (i:Int)) 1 == 1) with
 | true=>
  rw [hb,cond_true] at ih
  refine Dz (a20 c1 hpl hgi h1z x1 x2 hm wi wm w1 a1 a2 a3 a4 a5 a6 a7 a8 a9 hb) ?_
  exact Aju
 | false=>
  rw [hb,cond_false,hem] at ih
  refine Dz (a19 c1 hpl hgi h1z x1 x2 hm wi wm w1 a1 a2 a3 a4 a5 a6 a7 HO hb) ?_
  exact Aju
def Hn (c:Cd) (v:Vn) (at':Int):Option (List Int × List Ef × Nat):=
 if (C1 c v 1000 (L0 v at')).1.dn=true∧(C1 c v 1000 (L0 v at')).1.ef.length≤256 then
  some ((C1 c v 1000 (L0 v at')).1.va,(C1 c v 1000 (L0 v at')).1.ef,(C1 c v 1000 (L0 v at')).2) else none
def Om:Option (List Int × List Ef × Nat)→AV
 | some r=>.tu [.vw false (r.1.map (kA .i64)),.vw false (r.2.1.map EJ),kA .i64 r.2.2,kA .i64 0]
 | none=>.tu [.vw true [],.vw true [],kA .i64 0,kA .i64 52]
theorem Ac9 (o:Option (List Int × List Ef × Nat)):(Om o).noref=true:=by
 cases o with
 | none=>simp [Om,kA,AV.noref,norefs]
 | some r=>simp [Om,kA,AV.noref,norefs,Es,Sr]
theorem Ape {c:Cd} {v:Vn} (h:H4 c v=true):EnvI c v∧(∀ x ∈ v.vars,D5 x)∧v.vars.length=c.vars.length:=by
 simp only [H4,AH,lx86,Jt,lx95,Hw] at h
 obtain ⟨⟨⟨⟨⟨⟨⟨_,h1⟩,h2⟩,h3⟩,h4⟩,_⟩,h5⟩,h6⟩:=h
 have bad:∀ lo n,GH lo n=false→lo≤n∧n≤2147483647:=fun lo n hb=>by
  simp only [GH,Ju,Cy] at hb; omega
 exact ⟨⟨h2,fun x hx=>bad _ _ (h4 x hx),bad _ _ h5,bad _ _ h6⟩,fun x hx=>bad _ _ (h3 x hx),by omega⟩
theorem Apf {c:Cd} {v:Vn} {at':Int} (h:ExeQ c v at'):MOk c (L0 v at'):=by
 obtain ⟨_,h2,h3⟩:=Ape h.env
 obtain ⟨e,he,rfl⟩:=h.ent
 exact ⟨.ent he,fun x hx=>absurd hx (by simp [L0]),h2,h3⟩
def exT (w:Nat) (wid:Nat) (n:Int):List AV:=CW 0 71 [(3,.sc (.int .i64 1000)),(12,.pt wid w 0 0),(14,.sc (.int .i64 n))]
theorem Bbf {σ:Nat→Nat} {c2:Nat} {H:List Blk} {a w b w':Nat} {n:Int} (h:Rn 0 σ c2 H (.pt a w 0 0) (.pt b w' 0 0)):RnL 0 σ c2 H (exT w a n) (exT w' b n):=by
 unfold exT
 refine Cb ?_
 repeat' (first | exact trivial | refine And.intro (.jk _) ?_ | refine And.intro h ?_ | refine And.intro (.nr rfl) ?_)
theorem Aiy {c:Cd} {v:Vn} {f:Nat} {m:Ms} (h:m.dn=true∨256 < m.ef.length):C1 c v f m=(m,0):=by
 cases f with
 | zero=>rfl
 | succ f=>rw [C1,if_pos h]
theorem Apg (c:Cd) (v:Vn) (x:In) (m:Ms):(AM c v x m).ef.length≤m.ef.length+1:=by
 have key:∀ r:Ms,AM c v x m=r→r.ef.length≤m.ef.length+1→(AM c v x m).ef.length≤m.ef.length+1:=fun r h1 h2=>h1 ▸ h2
 obtain ⟨op,a⟩:=x
 have put:∀ n (m:Ms),(IA n m).ef=m.ef:=fun _ _=>rfl
 have pop:∀ (m:Ms),(GV m).ef=m.ef:=fun _=>rfl
 have eff:∀ x (m:Ms),(No x m).ef.length=m.ef.length+1:=fun _ _=>by simp [No]
 rcases Ge op with (rfl | rfl | rfl | rfl | rfl | rfl | rfl | rfl | rfl | rfl | rfl | rfl | rfl | rfl | rfl | rfl | rfl | rfl | rfl | rfl | rfl | rfl | rfl | rfl | rfl | rfl | rfl | rfl | rfl | rfl | rfl) | hno
 ·exact L3
 ·exact L3
 ·exact L3
 ·exact L3
 ·exact L3
 ·exact L3
 ·exact L3
 ·exact L3
 ·exact L3
 ·exact L3
 ·exact L3
 ·exact L3
 ·simp only [AM,opS,Int.reduceEq,lx8,lx9,↓reduceIte]
  by_cases hz:Gu { m with pc:=m.pc+1 }=0 <;> simp only [hz,↓reduceIte,pop,put] <;> omega
 ·simp only [AM,opS,Int.reduceEq,lx8,lx9,↓reduceIte]
  by_cases hz:Gu { m with pc:=m.pc+1 }≤0 <;> simp only [hz,↓reduceIte,pop,put] <;> omega
 ·exact L3
 ·exact L3
 ·exact L3
 ·exact L3
 ·exact L3
 ·exact L3
 ·exact L3
 ·exact L3
 ·exact L3
 ·exact L3
 ·exact L3
 ·exact L3
 ·exact L3
 ·exact L3
 ·exact L3
 ·exact L3
 ·exact L3
 ·have g:∀ k:Int,1≤k→k≤31→(op=k)=False:=fun k h1 h2=>by have:=hno k h1 h2; simpa using this
  simp [AM,opS,g,eff]
theorem Aiz (c:Cd) (v:Vn) (at':Int) (h:ExeQ c v at'):C4 Tryz.prog 157 [CI c,.sc (.int .i64 at'),UK v,.sc (.int .i64 1000)] (Om (Hn c v at')):=by
 have hv:=Ix h.env
 obtain ⟨he,_,_⟩:=Ape h.env
 have hm0:=Apf h
 obtain ⟨F203,k203,E203⟩:=DU (Ac5 c v at' h ⟨true,0,36,7,[CI c],false⟩ ⟨true,1,104,6,[UK v],false⟩ 2)
 simp only [Ai,Dq,AL,Bb,dead,Nat.reduceAdd] at E203
 refine EU (Af (lit:=false) (pm:=fun _=>none) .nil .nil .nil (.cons k203 (.cons (Bkb c v) .nil))) rfl Tryz.func157 rfl (by decide) (by kernel_rfl) (Ac9 _) ?_
 simp only [Tryz.f157,Ae,lx52,lx63,Nat.reduceAdd,Nat.reduceSub,List.replicate]
 refine Ac ?_
 refine gF1 (a2 E203 @Dq) ?_
 refine AB (T':=exT 7 6 0) (H':=[dead,dead,dead,dead,dead,⟨true,6,3,1,v.vars.map (kA .i64),false⟩,⟨true,7,253,17,[.ag [.vw c.zi (c.ins.map Gd),.vw c.zs (c.strs.map stA),.vw c.ze (c.ens.map Fw),.vw c.zp (c.pri.map (kA .i64)),.vw c.zv (c.vars.map (kA .i64)),.sc (.int .i64 c.tim),.sc (.int .i64 c.evs),.sl 5 6 0 v.vars.length,.vw v.zl (v.left.map (kA .i64)),.sc (.int .u64 v.clo),.sc (.int .u32 v.act),.sc (.int .i64 v.pl'),.sc (.int .i64 v.ba),.sc (.int .i64 at'),.sc (.bool false),.vw true [],.vw true []]],false⟩]) ?_ ?_ (Av _) ?_
 ·simp (maxSteps:=10000000) only [AX,AT,↓reduceIte,reduceCtorEq,Nat.reduceAdd,Nat.reduceEqDiff,CW,Jw,exT]
 ·simp (maxSteps:=10000000) only [AX,AT,dead]
 refine HX (T':=exT 7 6 0) (H':=[dead,dead,dead,dead,dead,⟨true,6,3,1,v.vars.map (kA .i64),false⟩,⟨true,7,253,17,[.ag [.vw c.zi (c.ins.map Gd),.vw c.zs (c.strs.map stA),.vw c.ze (c.ens.map Fw),.vw c.zp (c.pri.map (kA .i64)),.vw c.zv (c.vars.map (kA .i64)),.sc (.int .i64 c.tim),.sc (.int .i64 c.evs),.sl 5 6 0 v.vars.length,.vw v.zl (v.left.map (kA .i64)),.sc (.int .u64 v.clo),.sc (.int .u32 v.act),.sc (.int .i64 v.pl'),.sc (.int .i64 v.ba),.sc (.int .i64 at'),.sc (.bool false),.sl 7 8 0 0,.vw true []]],false⟩]) 8 3 1 9 (by omega) (by omega) (Cr _ _ _) ?_ ?_
 ·simp only [It,M8,AW]
  refine ⟨.inl rfl,.inl rfl,.inl rfl,.inl rfl,.inl rfl,.inl rfl,Ka _ _ _ _ _ _ _ _ _ _ ⟨I6 ⟨.refl _,.refl _,.refl _,.refl _,.refl _,.refl _,.refl _,.refl _,.refl _,.refl _,.refl _,.refl _,.refl _,.refl _,.refl _,.nil,Cr _ _ _⟩,trivial⟩⟩
 simp only [lx90,lx64,lx52,lx63,Nat.reduceAdd]
 refine HX (T':=exT 7 6 0) (H':=[dead,dead,dead,dead,dead,⟨true,6,3,1,v.vars.map (kA .i64),false⟩,⟨true,7,253,17,[.ag [.vw c.zi (c.ins.map Gd),.vw c.zs (c.strs.map stA),.vw c.ze (c.ens.map Fw),.vw c.zp (c.pri.map (kA .i64)),.vw c.zv (c.vars.map (kA .i64)),.sc (.int .i64 c.tim),.sc (.int .i64 c.evs),.sl 5 6 0 v.vars.length,.vw v.zl (v.left.map (kA .i64)),.sc (.int .u64 v.clo),.sc (.int .u32 v.act),.sc (.int .i64 v.pl'),.sc (.int .i64 v.ba),.sc (.int .i64 at'),.sc (.bool false),.sl 7 8 0 0,.sl 8 9 0 0]],false⟩,⟨true,8,3,1,[],false⟩]) 9 73 5 10 (by omega) (by omega) (Cr _ _ _) ?_ ?_
 ·simp only [It,M8,AW]
  refine ⟨.inl rfl,.inl rfl,.inl rfl,.inl rfl,.inl rfl,.inl rfl,Ka _ _ _ _ _ _ _ _ _ _ ⟨I6 ⟨.refl _,.refl _,.refl _,.refl _,.refl _,.refl _,.refl _,.refl _,.refl _,.refl _,.refl _,.refl _,.refl _,.refl _,.refl _,.refl _,.nil,trivial⟩,trivial⟩,.inl rfl⟩
 simp only [lx90,lx64,lx52,lx63,Nat.reduceAdd]
 have hpt:∀ {H:List Blk} (j v':Nat) (B:Blk),H[Sw [6,5,7,8] j]?=some B→B.live=true→B.ver=v'→Rn 0 (Sw [6,5,7,8]) 11 H (.pt (Sw [6,5,7,8] j) v' 0 0) (.pt j 10 0 0):=fun {H} j v' B e1 e2 e3=>by
  have:=Rn.pt (d:=0) (σ:=Sw [6,5,7,8]) (c2:=11) (H1:=H) (v2:=10) j v' 0 0 B e1 e2 e3 (by omega)
  rwa [CL] at this
 have hsl:∀ {H:List Blk} (j v' n:Nat) (B:Blk),H[Sw [6,5,7,8] j]?=some B→B.live=true→B.ver=v'→Rn 0 (Sw [6,5,7,8]) 11 H (.sl (Sw [6,5,7,8] j) v' 0 n) (.sl j 10 0 n):=fun {H} j v' n B e1 e2 e3=>by
  have:=Rn.sl (d:=0) (σ:=Sw [6,5,7,8]) (c2:=11) (H1:=H) (v2:=10) j v' 0 n B e1 e2 e3 (by omega)
  rwa [CL] at this
 refine Bfk (T':=exT 10 0 0) (H2:=mH c v (L0 v at') 10 10 10 10 []) (c2:=11) (Sw [6,5,7,8]) (Bbf (hpt 0 7 _ rfl rfl rfl)) ?_ ?_ (by omega) ?_
 ·intro j B2 e1 e2
  have hj:j < 4:=(lx22.1 e1).1
  have h4:j=0∨j=1∨j=2∨j=3:=An
  rcases h4 with rfl | rfl | rfl | rfl
  ·cases e1
   refine ⟨_,rfl,rfl,Av _,(show 10 < 11 by decide),rfl,rfl,rfl,fun i e f g1 g2=>?_⟩
   obtain rfl:i=0:=by have:=(lx22.1 g1).1; simp only [lx52,lx63] at this; omega
   cases g1; cases g2
   refine ⟨by simp,Bfi ⟨.nr rfl,.nr rfl,.nr rfl,.nr rfl,.nr rfl,.nr rfl,.nr rfl,hsl 1 _ _ _ rfl rfl rfl,.nr rfl,.nr rfl,.nr rfl,.nr rfl,.nr rfl,.nr rfl,.nr rfl,hsl 2 _ _ _ rfl rfl rfl,hsl 3 _ _ _ rfl rfl rfl,trivial⟩⟩
  ·cases e1; exact ⟨_,rfl,rfl,Av _,(show 10 < 11 by decide),rfl,rfl,rfl,Ag5 (Es _) (MV (f:=kA .i64) (fun x=>by simp [kA]) _)⟩
  ·exact Bds
  ·exact Bds
 ·intro i j Bi Bj e1 e2 _ _ e
  have hi:i < 4:=(lx22.1 e1).1
  have hj:j < 4:=(lx22.1 e2).1
  revert e
  revert i j
  intro i j e1 e2 hi hj
  have key:∀ i,i < 4→∀ j,j < 4→Sw [6,5,7,8] i=Sw [6,5,7,8] j→i=j:=by decide
  exact key i hi j hj
 obtain ⟨B,hB⟩:∃ B:Nat,B=1000:=⟨_,rfl⟩
 have hx:Hn c v at'=if (C1 c v B (L0 v at')).1.dn=true∧(C1 c v B (L0 v at')).1.ef.length≤256 then
  some ((C1 c v B (L0 v at')).1.va,(C1 c v B (L0 v at')).1.ef,(C1 c v B (L0 v at')).2) else none:=by rw [hB]; rfl
 rw [hx]
 clear hx
 refine Az (σ:=Nat × Ms × Nat × Nat × List AV) (fun y cnt=>⟨exT 10 0 y.1,mH c v y.2.1 10 10 y.2.2.1 y.2.2.2.1 y.2.2.2.2,cnt⟩)
  (fun y=>y.1≤B∧(y.2.1.dn=false→MOk c y.2.1)∧y.2.1.ef.length≤257∧y.2.2.2.2.take y.2.1.st.length=y.2.1.st.map (kA .i64)∧
   C1 c v B (L0 v at')=((C1 c v (B - y.1) y.2.1).1,y.1+(C1 c v (B - y.1) y.2.1).2)) (fun y=>B - y.1) (0,L0 v at',10,10,[]) ⟨Bq _,fun _=>hm0,by simp [L0],rfl,by rw [Nat.sub_zero,CL]⟩ (Fj _) (Aq _) rfl ?_
 rintro ⟨n,m,s,e,E⟩ cnt ⟨hn,hm,hef,hE,hrun⟩ ih
 simp only at hn hm hef hE hrun
 have n1:decide ((n:Int) < 1000)=decide (n < B):=by rw [decide_eq_decide]; omega
 have n2:decide (((m.ef.length:Nat):Int)≤256)=decide (m.ef.length≤256):=by rw [decide_eq_decide]; omega
 by_cases hgo:m.dn=false∧n < B∧m.ef.length≤256
 ·obtain ⟨g1,g2,g3⟩:=hgo
  have hm:=hm g1
  have hq:=Aoq hv he hm (by omega)
  have hop:=Aor hv hm
  obtain ⟨s',e',E',cnt',x1,x2⟩:=Bqh hq hop 10 10 s e E hE cnt
  have hr1:C1 c v (B - n) m=((C1 c v (B - (n+1)) (AM c v (AI c m.pc) m)).1,(C1 c v (B - (n+1)) (AM c v (AI c m.pc) m)).2+1):=by
   rw [show B - n=(B - (n+1))+1 by omega,C1,if_neg (by rw [g1]; simp; omega)]
  rw [hr1] at hrun
  have hm2:(AM c v (AI c m.pc) m).dn=false→MOk c (AM c v (AI c m.pc) m):=fun hd=>Z9 hv he hm (fun h31=>by
   have:(AM c v (AI c m.pc) m).dn=true:=by simp [AM,opS,h31]
   rw [this] at hd; cases hd)
  have hef2:(AM c v (AI c m.pc) m).ef.length≤m.ef.length+1:=Apg c v _ m
  generalize AM c v (AI c m.pc) m=M at x1 x2 hrun hm2 hef2
  obtain ⟨H2,hH2⟩:∃ H2,mH c v M 10 10 s' e' E'=H2:=⟨_,rfl⟩
  rw [hH2] at x1
  have w1:IntKind.i64.wrap ((n:Int)+1)=((n+1:Nat):Int):=CT
  have ih2:=fun c'=>ih (n+1,M,s',e',E') c' ⟨by simp only; omega,hm2,by simp only; omega,x2,by simp only; rw [hrun]; simp only [lx40,C5]; omega⟩ (by simp only; omega)
  simp only [hH2] at ih2
  clear ih hH2 hm2 hef2 hrun hr1 hop hq x2 hE hm
  have n3:decide (n < B)=true:=by rw [Bw]; exact g2
  have n4:decide (m.ef.length≤256)=true:=by rw [Bw]; exact g3
  rw [n3] at n1
  rw [n4] at n2
  obtain ⟨pc,dn,va,st,ef⟩:=m
  simp only at g1 n2
  subst g1
  simp only [mH,AL,Bb] at x1
  refine Ac ?_
  simp only [exT,mH]
  refine Cb ?_
  refine gF1 (a4 n1 n2 x1 w1) ?_
  repeat' (first | exact Aa (by kernel_rfl) | refine ⟨Aa (by kernel_rfl),?_⟩ | refine And.intro ?_ ?_ | fail)
  refine AB ?_ (Aq _) (Av _) (ih2 _)
  simp (maxSteps:=10000000) only [AX,AT,↓reduceIte,reduceCtorEq,Nat.reduceAdd,Nat.reduceEqDiff,CW,Jw,exT]
  all_goals done
 have hstop:C1 c v (B - n) m=(m,0):=by
  by_cases h1:m.dn=true∨256 < m.ef.length
  ·exact Aiy h1
  ·have:n=B:=by
    rw [not_or] at h1
    cases hd:m.dn with
    | true=>exact absurd hd h1.1
    | false=>
     rcases D0 n B with h | h
     ·exact absurd ⟨hd,h,by omega⟩ hgo
     ·omega
   rw [this,Nat.sub_self]
   rfl
 rw [hstop] at hrun
 rw [hrun]
 clear ih hstop hrun hm
 simp only [Gl]
 obtain ⟨pc,dn,va,st,ef⟩:=m
 simp only at hgo hef hE n2
 have te:List.take ef.length (ef.map EJ)=ef.map EJ:=lx12 (by simp)
 have tv:List.take va.length (va.map (kA .i64))=va.map (kA .i64):=lx12 (by simp)
 have n5:decide ((256:Int) < ((ef.length:Nat):Int))=decide (256 < ef.length):=by rw [decide_eq_decide]; omega
 cases dn with
 | true=>
  by_cases g3:ef.length≤256
  ·have n4:decide (256 < ef.length)=false:=by rw [Cy]; omega
   rw [n4] at n5
   rw [if_pos ⟨rfl,g3⟩]
   refine Ac ?_
   simp only [exT,mH,Om]
   refine Cb ?_
   refine gF1 (a3 n5 te tv) ?_
   repeat' (first | exact Aa (by kernel_rfl) | refine ⟨Aa (by kernel_rfl),?_⟩ | refine And.intro ?_ ?_ | fail)
   all_goals first | exact .refl _ | (simp [AV.freshIn,Hb,AJ,Cu,AV.fresh,Ss,Abv]; done) | skip
   all_goals done
  ·have n4:decide (256 < ef.length)=true:=by rw [Bw]; omega
   rw [n4] at n5
   rw [if_neg (fun h=>g3 h.2)]
   refine Ac ?_
   simp only [exT,mH,Om]
   refine Cb ?_
   refine gF1 n5 ?_
   repeat' (first | exact Aa (by kernel_rfl) | refine ⟨Aa (by kernel_rfl),?_⟩ | refine And.intro ?_ ?_ | fail)
   all_goals first | exact .refl _ | rfl | skip
   all_goals done
 | false=>
  rw [if_neg (fun h=>by cases h.1)]
  have hc:decide (n < B)=false∨decide (ef.length≤256)=false:=by
   rcases D0 n B with h | h
   ·right; rw [Cy]; exact fun h'=>hgo ⟨rfl,h,h'⟩
   ·left; rw [Cy]; omega
  obtain ⟨b1,hb1⟩:∃ b,decide (n < B)=b:=⟨_,rfl⟩
  obtain ⟨b2,hb2⟩:∃ b,decide (ef.length≤256)=b:=⟨_,rfl⟩
  rw [hb1] at n1 hc
  rw [hb2] at n2 hc
  cases b1 <;> cases b2 <;> first | (exfalso; revert hc; decide) | skip
  all_goals
   refine Ac ?_
   simp only [exT,mH,Om]
   refine Cb ?_
   refine gF1 (a2 n1 n2) ?_
   repeat' (first | exact Aa (by kernel_rfl) | refine ⟨Aa (by kernel_rfl),?_⟩ | refine And.intro ?_ ?_ | fail)
   all_goals first | exact .refl _ | rfl | skip
  all_goals done
end Go.Proofs.YtdjpkhjaibdogaaGreat
