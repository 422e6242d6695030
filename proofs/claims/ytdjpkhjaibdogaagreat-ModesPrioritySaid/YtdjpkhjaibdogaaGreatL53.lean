/-
  Lemmas towards ModesPriority (joined texts: P16, MT, P17).
  Conditions: none.
-/
import Derived.Test.YtdjpkhjaibdogaaGreatL01
import Derived.Test.YtdjpkhjaibdogaaGreatL02
import Derived.Test.YtdjpkhjaibdogaaGreatL44
import Derived.Test.YtdjpkhjaibdogaaGreatL45
import Derived.Test.YtdjpkhjaibdogaaGreatL48
import Derived.Test.YtdjpkhjaibdogaaGreatL52
import Derived.Test.YtdjpkhjaibdogaaGreatL28
import Derived.Test.YtdjpkhjaibdogaaGreatL38
import Derived.Test.YtdjpkhjaibdogaaGreatL23
import Derived.Test.YtdjpkhjaibdogaaGreatL14
import Derived.Test.YtdjpkhjaibdogaaGreatL24
set_option linter.unusedSimpArgs false
set_option linter.unusedVariables false
set_option maxRecDepth 100000
set_option maxHeartbeats 8000000
namespace Go.Proofs.YtdjpkhjaibdogaaGreat
open Go Go.SX
attribute [local congr] ite_congr
theorem Ajd (z:Bool) (ps:List Nat) (hps:16 < ps.length) (c act:Nat):Ap Tryz.prog 10 [.vw z (ps.map uA),.sc (.int .u16 (c:Int)),.sc (.int .u16 (act:Int))] (.sc (.bool true)):=by
 have hpl:(ps.map uA).length=ps.length:=lx57 _
 obtain ⟨F,kF,eF⟩:=Hm Aoc
 have c1:decide ((16:Int) < (ps.length:Int))=true:=AA (by omega)
 generalize ps.map uA=U at hpl ⊢
 refine Ab (Af (lit:=false) (pm:=fun _=>none) (.cons kF .nil) .nil .nil .nil) rfl Tryz.func10 rfl (by decide) (by kernel_rfl) (by kernel_rfl) ?_
 simp only [Tryz.f10,Ae,lx52,lx63,Nat.reduceAdd,Nat.reduceSub,List.replicate]
 refine Ac ?_
 exact Pd (a3 hpl c1 eF)
 repeat' (first | exact Aa (by kernel_rfl) | refine ⟨Aa (by kernel_rfl),?_⟩ | refine And.intro ?_ ?_ | fail)
 all_goals exact Et
def Ay1 (act n:Nat):Int:=D2 .and .u32 (IntKind.u32.wrap (act:Int)) (IntKind.u32.wrap (Vu .u32 1 (n:Int) - 1))
def Aje (act n:Nat):Nat:=act &&& (2 ^ n - 1)
theorem Auo {act n:Nat} (ha:act < 65536) (hn:n≤16):Ay1 act n=(Aje act n:Int):=by
 have hp:2 ^ n≤2 ^ 16:=Nat.pow_le_pow_right (by decide) hn
 have hp0:0 < 2 ^ n:=Nat.pow_pos (by decide)
 rw [Ay1,Acb (by omega),GZ (by omega) (by omega),show ((2 ^ n:Nat):Int) - 1=((2 ^ n - 1:Nat):Int) by omega,GZ (by omega) (by omega),LR (by omega) (by omega),Aje]
theorem Aup (act n:Nat):Aje act n < 2 ^ n:=by
 have hp0:0 < 2 ^ n:=Nat.pow_pos (by decide)
 have:act &&& (2 ^ n - 1)≤2 ^ n - 1:=Nat.and_le_right
 rw [Aje]; omega
theorem Brj {a i:Nat} (ha:a < 2 ^ 32) (hi:i < 32):(D2 .and .u32 (GD .u32 (a:Int) (i:Int)) 1 == 0)=!(B7 a i):=by
 have h1:a >>> i < 2 ^ 32:=by rw [Nat.shiftRight_eq_div_pow]; exact Nat.lt_of_le_of_lt (Nat.div_le_self _ _) ha
 have h:=LR (a:=a >>> i) (b:=1) h1 (by decide)
 rw [B7,Acd hi]
 have e:((1:Nat):Int)=1:=rfl
 rw [e] at h
 rw [h,Nat.and_one_is_mod]
 have:=Qz (a >>> i)
 rcases this with h | h <;> rw [h] <;> rfl
theorem Aq9 {ps:List Nat} {c i:Nat} (h:i < ps.length):Gh (AG (Te ps c)) i=((ps.getD i 0 % 8:Nat):Int):=by
 have:Gh (AG (Te ps c)) i=((Te ps c).map (·.p)).getD i default:=rfl
 rw [this,lx81,lx23,Te,lx23,SS h]; rfl
structure InvL (L:List Ef) (r:List Ef) (at':Nat) (ov:Bool):Prop where
 le:at'≤L.length
 no:ov=false→L.drop at'=r
 yes:ov=true→at'=L.length
theorem U0 {L r:List Ef} {e:Ef} {at':Nat} (h:InvL L (e::r) at' false):at' < L.length∧L.getD at' default=e∧InvL L r (at'+1) false:=by
 have h1:=h.no rfl
 have hlt:at' < L.length:=by
  have:=congrArg List.length h1
  rw [lx92,lx52] at this; omega
 rw [lx76 hlt] at h1
 have h2:=List.cons.inj h1
 refine ⟨hlt,?_,⟨by omega,fun _=>h2.2,fun h=>by cases h⟩⟩
 rw [lx81,lx50 hlt]; exact h2.1
theorem Aad {L:List Ef} {at':Nat} (h:InvL L [] at' false):at'=L.length:=by
 have h1:=congrArg List.length (h.no rfl)
 rw [lx92,lx63] at h1
 have:=h.le; omega
theorem Auq {ms:List Mo} (h:ms.length≤16) (hq:∀ m ∈ ms,MoR m):Nj (AG ms)=(⟨false,[],false,[],0,true,[],0⟩,0):=by
 rw [Nj,if_pos (KK ms h hq)]
 rfl
theorem Ah0 (ms:List Mo) (a0:Int):∀ l:List Nat,(Nv ms a0 l).length≤2 * l.length
 | []=>Av 0
 | m::l=>by
  have h:=Ah0 ms a0 l
  have h2:(WK (ms.getD m default)).length≤2:=by
   generalize ms.getD m default=x
   cases hc:x.c <;> simp [WK,hc]
  rw [Nv,lx52]
  split
  ·rw [lx7]
   split
   ·rw [lx63]; omega
   ·omega
  ·omega
theorem Aae (z:Bool) (ps:List Nat) (hps:ps.length≤16) (h8:∀ x ∈ ps,x < 256) (c act:Nat) (hc:c < 65536) (ha:act < 65536):Ap Tryz.prog 10 [.vw z (ps.map uA),.sc (.int .u16 (c:Int)),.sc (.int .u16 (act:Int))] (.sc (.bool true)):=by
 obtain ⟨ms,hms⟩:∃ ms,Te ps c=ms:=⟨_,rfl⟩
 have hml:ms.length=ps.length:=by rw [←hms]; exact Je ps c
 have hL:∀ m ∈ ms,MoL m:=by rw [←hms]; exact Ap5 hps
 have hR:∀ m ∈ ms,MoR m:=fun m hm=>Ap8 (hL m hm)
 have hN:NmO ms:=by rw [←hms]; exact Ap9 hps
 have hfit:=Ato ms (by omega)
 have x35:=s35 z ps hps h8 c hc
 rw [hms] at x35
 have x31:=Apa ms (by omega) hL hN
 have x20:=e20 (AG ms) hfit
 rw [Auq (by omega) hR] at x20
 have hA:=Aup act ps.length
 have hA':Aje act ps.length < 2 ^ ms.length:=by rw [hml]; exact hA
 have hAe:=Auo ha hps
 obtain ⟨A,hAA⟩:∃ A,Aje act ps.length=A:=⟨_,rfl⟩
 rw [hAA] at hA hA' hAe
 have hA32:A < 2 ^ 32:=Nat.lt_trans hA (Nat.pow_lt_pow_right (by decide) (by omega))
 obtain ⟨hh1,hh2⟩:=Auc (z1:=false) (z2:=false) (z3:=true) (by omega) hR hA'
 have hLen:(Nv ms A (Ht (AG ms))).length≤32:=by
  have h1:=Ah0 ms A (Ht (AG ms))
  have h2:=Su (KK ms (by omega) hR)
  have h3:(AG ms).pri.length=ms.length:=by simp [AG]
  omega
 rw [←hh2] at hLen
 have x36:=WE (AG ms) hfit (Nw false false true A) ⟨6,0,-1⟩ Wk
 obtain ⟨F1,k1,e1⟩:=Hm Aoc
 obtain ⟨F2,k2,e2⟩:=Hm x35
 obtain ⟨F3,k3,e3⟩:=Ao8 x31
 obtain ⟨F4,k4,e4⟩:=Ao8 x36
 have hord:Ht (AG ms)=Nz (Gh (AG ms)) ps.length 7 0:=by
  have hpl:(AG ms).pri.length=ps.length:=by rw [←hml]; simp [AG]
  rw [Apt (fun i hi=>?_),hpl]
  rw [hpl] at hi
  rw [←hms,Aq9 hi]; omega
 rw [hord] at hh2
 have hkey:∀ i,i < ps.length→Gh (AG ms) i=((ps.getD i 0 % 8:Nat):Int):=fun i hi=>by rw [←hms]; exact Aq9 hi
 have hgm:∀ i,i < ps.length→(ms.getD i default).s=(i:Int)∧(ms.getD i default).c=cB c i:=fun i hi=>by rw [←hms,KM hi]; exact ⟨rfl,rfl⟩
 generalize Oq (AG ms) (Nw false false true A) ⟨6,0,-1⟩ Wk=rr at hh1 hh2 hLen e4
 obtain ⟨⟨rs,L,po⟩,er⟩:=rr
 simp only at hh1 hh2 hLen
 subst hh1
 simp only [WA,kA,Ki,Nw,Ai,Hq,ZH,Wk,lx46] at e3 e4 x20
 have hpl:(ps.map uA).length=ps.length:=lx57 _
 have hg:∀ i,i < ps.length→(ps.map uA)[i]?=some (.sc (.int .u8 ((ps.getD i 0:Nat):Int))):=fun i hi=>by
  exact Ayl
 have h1z:=ZN ps
 have hlt:∀ i,i < ps.length→ps.getD i 0 < 256:=fun i hi=>h8 _ (by rw [lx81,lx50 hi]; exact lx89 hi)
 have h5z:=Oc L
 have hLl:(L.map EJ).length=L.length:=lx57 _
 have hgL:∀ i,i < L.length→(L.map EJ)[i]?=some (EJ (L.getD i default)):=fun i hi=>by
  exact Ayl
 generalize (AG ms).ins.map Gd=d1 at e3 e4 x20
 generalize (AG ms).strs.map stA=d2 at e3 e4 x20
 generalize (AG ms).ens.map Fw=d3 at e3 e4 x20
 generalize (AG ms).pri.map (kA .i64)=d4 at e3 e4 x20
 generalize (AG ms).vars.map (kA .i64)=d5 at e3 e4 x20
 generalize (AG ms).zi=y1 at e3 e4 x20
 generalize (AG ms).zs=y2 at e3 e4 x20
 generalize (AG ms).ze=y3 at e3 e4 x20
 generalize (AG ms).zp=y4 at e3 e4 x20
 generalize (AG ms).zv=y5 at e3 e4 x20
 generalize (AG ms).tim=y6 at e3 e4 x20
 generalize (AG ms).evs=y7 at e3 e4 x20
 generalize (⟨⟨Fz (Hv ms)⟩⟩:ByteArray)=S at e2 e3
 generalize rs.vars.map (kA .i64)=r1 at e4
 generalize rs.left.map (kA .i64)=r2 at e4
 generalize rs.lamps.map B6=r3 at e4
 generalize po.map Hq=r4 at e4
 generalize ps.map uA=U at hpl hg h1z e2 ⊢
 generalize L.map EJ=LA at h5z hLl hgL e4
 have c1:decide ((16:Int) < (ps.length:Int))=false:=Ce (by omega)
 have wn:IntKind.u64.wrap (ps.length:Int)=(ps.length:Int):=Ie (by omega) (by omega)
 have hact:D2 .and .u32 (IntKind.u32.wrap (act:Int)) (IntKind.u32.wrap (Vu .u32 1 (ps.length:Int) - 1))=(A:Int):=hAe
 refine Ab (Af (lit:=false) (pm:=fun _=>none) (.cons k1 (.cons k2 .nil)) (.cons k3 (.cons k4 .nil)) (.cons Boj .nil) .nil) rfl Tryz.func10 rfl (by decide) (by kernel_rfl) (by kernel_rfl) ?_
 simp only [Tryz.f10,Ae,lx52,lx63,Nat.reduceAdd,Nat.reduceSub,List.replicate]
 refine Ac ?_
 refine Dz (a8 hpl c1 e2 e3 e4 x20 wn hact) ?_
 repeat' (first | exact Aa (by kernel_rfl) | refine ⟨Aa (by kernel_rfl),?_⟩ | refine And.intro ?_ ?_ | fail)
 obtain ⟨K,hK⟩:∃ K,Gh (AG ms)=K:=⟨_,rfl⟩
 rw [hK] at hh2 hkey
 obtain ⟨HB,hHB⟩:∃ HB:List Blk,HB=[⟨true,0,36,7,[.ag [.vw y1 d1,.vw y2 d2,.vw y3 d3,.vw y4 d4,.vw y5 d5,.sc (.int .i64 y6),.sc (.int .i64 y7)]],false⟩,⟨true,1,41,5,[.ag [.vw false [],.vw false [],.sc (.int .u32 (A:Int)),.vw true [],.sc (.int .i64 0)]],false⟩]:=⟨_,rfl⟩
 refine Az (σ:=Nat × Nat × Bool) (fun y cnt=>⟨CW 0 145 [(0,.vw z U),(1,.sc (.int .u16 (c:Int))),(7,.sc (.int .i64 (ps.length:Int))),(11,.pt 1 1 0 0),(14,.vw false LA),(17,.sc (.int .i64 (y.2.1:Int))),(18,.sc (.bool y.2.2)),(19,.sc (.int .i64 ((y.1:Int) - 1)))],HB,cnt⟩)
  (fun y=>y.1≤8∧InvL L (Nv ms A (Nz.dwnL K ps.length y.1)) y.2.1 y.2.2) (fun y=>y.1) (8,0,false) ⟨Av 8,⟨Bq _,fun _=>hh2,fun h=>by cases h⟩⟩ ?_ ?_ rfl ?_
 ·simp (maxSteps:=10000000) only [AX,AT,↓reduceIte,reduceCtorEq,Nat.reduceAdd,Nat.reduceEqDiff,CW,Jw,Int.reduceSub]
 ·rw [hHB]
  exact DN _ [_,_]
 rintro ⟨k,at',ov⟩ cnt ⟨hk8,hI⟩ ih
 simp only at hk8 hI ih ⊢
 cases k with
 | zero=>
  have hat:at'=L.length:=by
   cases ov with
   | true=>exact hI.yes rfl
   | false=>exact Aad hI
  subst hat
  have b1:decide (0≤((0:Nat):Int) - 1)=false:=rfl
  have b2:((L.length:Int) == (L.length:Int))=true:=lx74 _
  refine Ac ?_
  refine Cb ?_
  exact Pd (a2 hLl e1)
  repeat' (first | exact Aa (by kernel_rfl) | refine ⟨Aa (by kernel_rfl),?_⟩ | refine And.intro ?_ ?_ | fail)
  all_goals exact Et
 | succ k=>
  have hk:((k+1:Nat):Int) - 1=(k:Int):=An
  have b1:decide (0≤(k:Int))=true:=AA (by omega)
  have wk:IntKind.i64.wrap ((k:Int) - 1)=(k:Int) - 1:=Ew (by omega) (by omega)
  rw [hk]
  refine Ac ?_
  refine Cb ?_
  simp (maxSteps:=10000000) +contextual -implicitDefEqProofs only [AX,AT,St.put,↓reduceIte,B9]
  refine Az (σ:=Nat × Nat × Bool) (fun y cnt=>⟨CW 0 145 [(0,.vw z U),(1,.sc (.int .u16 (c:Int))),(7,.sc (.int .i64 (ps.length:Int))),(11,.pt 1 1 0 0),(14,.vw false LA),(17,.sc (.int .i64 (y.2.1:Int))),(18,.sc (.bool y.2.2)),(19,.sc (.int .i64 (k:Int))),(20,.sc (.int .i64 (y.1:Int)))],HB,cnt⟩)
   (fun y=>y.1≤ps.length∧InvL L (Nv ms A (Nz K ps.length k y.1)) y.2.1 y.2.2) (fun y=>ps.length - y.1) (0,at',ov) ⟨Bq _,hI⟩ ?_ ?_ rfl ?_
  ·exact Gm
  ·exact Aq _
  have ih:=fun at' ov c' h=>ih (k,at',ov) c' ⟨by omega,h⟩ (by omega)
  simp only at ih
  clear hI
  rintro ⟨m,at',ov⟩ cnt ⟨hm,hI⟩ ih2
  simp only at hm hI ih2 ⊢
  have w1:IntKind.i64.wrap ((m:Int)+1)=((m+1:Nat):Int):=B8
  by_cases hmn:m < ps.length
  rotate_left
  ·have b2:decide ((m:Int) < (ps.length:Int))=false:=Ce (by omega)
   have he:Nz K ps.length k m=Nz.dwnL K ps.length k:=by
    rw [Nz,lx75 (by rw [U2]; omega)]; rfl
   rw [he] at hI
   refine Be8 ?_
   repeat' (first | exact Aa (by kernel_rfl) | refine ⟨Aa (by kernel_rfl),?_⟩ | refine And.intro ?_ ?_ | fail)
   all_goals first | rfl | skip
   refine AB ?_ ?_ (Av _) (ih at' ov _ hI)
   ·exact Gm
   ·exact Aq _
  have b2:decide ((m:Int) < (ps.length:Int))=true:=AA (by omega)
  cases ov with
  | true=>
   refine Be8 ?_
   repeat' (first | exact Aa (by kernel_rfl) | refine ⟨Aa (by kernel_rfl),?_⟩ | refine And.intro ?_ ?_ | fail)
   all_goals first | rfl | skip
   refine AB ?_ ?_ (Av _) (ih at' true _ ⟨hI.le,(fun h=>by cases h),hI.yes⟩)
   ·exact Gm
   ·exact Aq _
  | false=>
   have b0:decide (0≤(m:Int))=true:=AA (by omega)
   have hgi:=hg m hmn
   have hlm:=hlt m hmn
   obtain ⟨hs,hcm⟩:=hgm m hmn
   have hkm:=hkey m hmn
   have wm:IntKind.u64.wrap (m:Int)=(m:Int):=Ie (by omega) (by omega)
   have htm:((ps.getD m 0:Nat):Int).tmod 8=((ps.getD m 0 % 8:Nat):Int):=Ajy
   have wu:IntKind.u8.wrap ((ps.getD m 0 % 8:Nat):Int)=((ps.getD m 0 % 8:Nat):Int):=I5 (by omega)
   have wi:IntKind.i64.wrap ((ps.getD m 0 % 8:Nat):Int)=((ps.getD m 0 % 8:Nat):Int):=Ew (by omega) (by omega)
   generalize ps.getD m 0 % 8=pr at hkm htm wu wi
   rw [Aj6 hmn,hkm] at hI
   by_cases hpk:pr=k
   rotate_left
   ·have b3:((pr:Int) != (k:Int))=true:=by rw [bne_iff_ne]; omega
    rw [if_neg (by omega)] at hI
    refine Ac ?_
    refine Cb ?_
    refine Dz (a8 b2 b3 hpl hgi h1z htm wi w1) ?_
    repeat' (first | exact Aa (by kernel_rfl) | refine ⟨Aa (by kernel_rfl),?_⟩ | refine And.intro ?_ ?_ | fail)
    all_goals first | rfl | skip
    refine AB ?_ ?_ (Av _) (ih2 (m+1,at',false) _ ⟨by omega,hI⟩ (by omega))
    ·exact Gm
    ·exact Aq _
   subst hpk
   have b3:((pr:Int) != (pr:Int))=false:=AZ
   have hb0:=Brj hA32 (show m < 32 by omega)
   rw [if_pos rfl,Nv] at hI
   rw [hHB]
   cases hac:B7 A m with
   | false=>
    rw [hac] at hb0 hI
    rw [if_neg (by simp)] at hI
    refine Ac ?_
    refine Cb ?_
    refine Dz (a9 b2 hpl hgi h1z htm wi wm w1 hb0) ?_
    repeat' (first | exact Aa (by kernel_rfl) | refine ⟨Aa (by kernel_rfl),?_⟩ | refine And.intro ?_ ?_ | fail)
    all_goals first | rfl | skip
    refine AB ?_ ?_ (Av _) (ih2 (m+1,at',false) _ ⟨by omega,hI⟩ (by omega))
    ·exact Gm
    ·rw [hHB]
     exact Aq _
   | true=>
    rw [hac] at hb0 hI
    rw [if_pos rfl] at hI
    have hcb:cB c m=(D2 .and .u16 (GD .u16 (c:Int) (m:Int)) 1 == 1):=rfl
    have hef:∀ r,WK (ms.getD m default)++r=⟨15,0,(m:Int),0,eB⟩::((bif cB c m then [⟨30,0,0,0,eB⟩] else [])++r):=fun r=>by rw [WK,hs,hcm]; rfl
    rw [hef,hcm] at hI
    obtain ⟨hlt1,he1,hI⟩:=U0 hI
    have g1:=hgL at' hlt1
    rw [he1,DK] at g1
    have b4:decide ((L.length:Int)≤(at':Int))=false:=Ce (by omega)
    have b5:decide (0≤(at':Int))=true:=AA (by omega)
    have b9:decide ((at':Int) < (L.length:Int))=true:=AA (by omega)
    have b6:((m:Int) != (m:Int))=false:=AZ
    have w2:IntKind.i64.wrap ((at':Int)+1)=((at'+1:Nat):Int):=B8
    cases hcc:cB c m with
    | false=>
     rw [hcc] at hcb hI
     simp only [cond_false,lx64,DD,lx9] at hI
     refine Ac ?_
     refine Cb ?_
     simp (maxSteps:=10000000) +contextual -implicitDefEqProofs only [AX,AT,Ao,St.put,↓reduceIte,reduceCtorEq,Int.reduceEq,ne_eq,CS,B9,AV.noref,b2,b4,b9,hpl,hgi,h1z,htm,wi,wm,w1,w2,hb0,hLl,g1,h5z,←hcb]
     repeat' (first | exact Aa (by kernel_rfl) | refine ⟨Aa (by kernel_rfl),?_⟩ | refine And.intro ?_ ?_ | fail)
     all_goals first | rfl | skip
     refine AB ?_ ?_ (Av _) (ih2 (m+1,at'+1,false) _ ⟨by omega,hI⟩ (by omega))
     ·exact Gm
     ·rw [hHB]
      exact Aq _
    | true=>
     rw [hcc] at hcb hI
     simp only [cond_true,lx90,lx64,lx8] at hI
     obtain ⟨hlt2,he2,hI⟩:=U0 hI
     have g2:=hgL (at'+1) hlt2
     rw [he2,DK] at g2
     have hend:=Aad hI
     have b7:decide ((L.length:Int)≤((at'+1:Nat):Int))=false:=Ce (by omega)
     have b10:decide (((at'+1:Nat):Int) < (L.length:Int))=true:=AA (by omega)
     have b8:decide (0≤((at'+1:Nat):Int))=true:=AA (by omega)
     have w3:IntKind.i64.wrap (((at'+1:Nat):Int)+1)=((at'+1+1:Nat):Int):=B8
     refine Ac ?_
     refine Cb ?_
     simp (maxSteps:=10000000) +contextual -implicitDefEqProofs only [AX,AT,Ao,St.put,↓reduceIte,reduceCtorEq,Int.reduceEq,ne_eq,CS,B9,AV.noref,b2,b4,b7,b9,b10,hpl,hgi,h1z,htm,wi,wm,w1,w2,w3,hb0,hLl,g1,g2,h5z,←hcb]
     repeat' (first | exact Aa (by kernel_rfl) | refine ⟨Aa (by kernel_rfl),?_⟩ | refine And.intro ?_ ?_ | fail)
     all_goals first | rfl | skip
     refine AB ?_ ?_ (Av _) (ih2 (m+1,at'+1+1,true) _ ⟨by omega,⟨hI.le,(fun h=>by cases h),fun _=>hend⟩⟩ (by omega))
     ·exact Gm
     ·rw [hHB]
      exact Aq _
theorem Blb (z:Bool) (ps:List Nat) (h8:∀ x ∈ ps,x < 256) (c act:Nat) (hc:c < 65536) (ha:act < 65536):Ap Tryz.prog 10 [.vw z (ps.map uA),.sc (.int .u16 (c:Int)),.sc (.int .u16 (act:Int))] (.sc (.bool true)):=by
 by_cases h:ps.length≤16
 ·exact Aae z ps h h8 c act hc ha
 ·exact Ajd z ps (by omega) c act
end Go.Proofs.YtdjpkhjaibdogaaGreat
namespace Go.Proofs.YtdjpkhjaibdogaaGreat
open Go Go.SX
theorem Blc {n:Int} (h:(Lit.int .u8 n).wf=true):0≤n∧n < 256:=by
 have h1:IntKind.min .u8=0:=rfl
 have h2:IntKind.max .u8=255:=rfl
 simp only [Lit.wf,h1,h2,AH,Bw] at h
 omega
theorem Bld {c:List AV} (h:HasC Tryz.prog 5 c):∃ n,c=[kA .u8 n]∧0≤n∧n < 256:=by
 obtain ⟨n,rfl,hn⟩:=h.inv_int un5
 exact ⟨n,rfl,Blc hn⟩
theorem Brk {a:AV} (h:HasV Tryz.prog 5 a):∃ n,a=kA .u8 n∧0≤n∧n < 256:=by
 obtain ⟨c,hc,rfl⟩:=h
 obtain ⟨n,rfl,hn⟩:=Bld hc
 exact ⟨n,rfl,hn⟩
theorem Ajf {α:Type} {q:α→Prop} {enc:α→List AV} {r:AV} (x:α) (hq:q x):EF q enc (fun _=>r) (enc x)=some r:=by
 unfold EF
 rw [dif_pos ⟨x,hq,rfl⟩]
def u8R (p:Bool × List Nat):Prop:=∀ x ∈ p.2,x < 256
theorem Brl {a:AV} (h:HasV Tryz.prog 22 a):∃ p:Bool × List Nat,a=.vw p.1 (p.2.map uA)∧u8R p:=by
 obtain ⟨c,hc,rfl⟩:=h
 obtain ⟨z,es,rfl,hes⟩:=hc.inv_slice Tryz.underlying22
 obtain ⟨l,rfl⟩:=HasV.list (f:=fun x:Fin 256=>uA x.val) (fun a ha=>by
  obtain ⟨n,rfl,h1,h2⟩:=Brk ha
  exact ⟨⟨n.toNat,by omega⟩,by simp only [uA,kA]; congr 2; omega⟩) hes
 refine ⟨(z,l.map (·.val)),by simp [List.map_map]; rfl,fun x hx=>?_⟩
 obtain ⟨y,_,rfl⟩:=lx35.1 hx
 exact y.isLt
theorem Ble {a:AV} (h:HasV Tryz.prog 86 a):∃ n:Nat,a=.sc (.int .u16 (n:Int))∧n < 65536:=by
 obtain ⟨c,hc,rfl⟩:=h
 obtain ⟨n,rfl,hn⟩:=hc.inv_int Ba7
 have h1:IntKind.min .u16=0:=rfl
 have h2:IntKind.max .u16=65535:=rfl
 simp only [Lit.wf,h1,h2,AH,Bw] at hn
 have e:((n.toNat:Nat):Int)=n:=An
 exact ⟨n.toNat,by rw [e]; rfl,by omega⟩
theorem Brm:DC Tryz.prog 10 (EF (fun p:(Bool × List Nat) × Nat × Nat=>(u8R p.1∧p.2.1 < 65536)∧p.2.2 < 65536) (fun p=>[.vw p.1.1 (p.1.2.map uA),.sc (.int .u16 (p.2.1:Int)),.sc (.int .u16 (p.2.2:Int))]) (fun _=>.sc (.bool true))):=AN <| by
 rintro ⟨⟨z,l⟩,c,n⟩ ⟨⟨h1,h2⟩,h3⟩
 exact Blb z l h1 c n h2 h3
end Go.Proofs.YtdjpkhjaibdogaaGreat
