/-
  Lemmas towards ModesSteps (joined texts: EG, EH, EI, EJ, EK, EL, HC, MT, HT, QA, QB).
  Conditions: none.
-/
import Derived.Test.YtdjpkhjaibdogaaGreatL01
import Derived.Test.YtdjpkhjaibdogaaGreatL02
import Derived.Test.YtdjpkhjaibdogaaGreatL41
import Derived.Test.YtdjpkhjaibdogaaGreatL19
import Derived.Test.YtdjpkhjaibdogaaGreatL14
import Derived.Test.YtdjpkhjaibdogaaGreatL23
import Derived.Test.YtdjpkhjaibdogaaGreatL28
import Derived.Test.YtdjpkhjaibdogaaGreatL21
set_option linter.unusedSimpArgs false
set_option linter.unusedVariables false
set_option maxRecDepth 100000
set_option maxHeartbeats 80000000
namespace Go.Proofs.YtdjpkhjaibdogaaGreat
open Go Go.SX
attribute [local congr] ite_congr
def stQ (l:List Nat) (act:Int) (n:Nat):Bool:=BQ act (n / 3:Nat) && decide (n < l.length) && decide (0 < l.getD n default % 3)
def stX (l:List Nat) (n:Nat):Lo:=⟨(n / 3:Nat),(9 * (n % 3):Nat),⟨(l.getD n default % 9:Nat),0,0,0⟩⟩
def PI (l:List Nat) (act:Int):Nat→List Lo
 | 0=>[]
 | n+1=>if stQ l act n then PI l act n++[stX l n] else PI l act n
theorem Adt (l:List Nat) (act:Int):∀ n,(PI l act n).length≤n
 | 0=>by simp [PI]
 | n+1=>by
  have:=Adt l act n
  rw [PI]; split
  ·simp; omega
  ·omega
def Mr (c:Cd) (l:List Nat):Rs:=⟨false,(Pd c l).vars,false,(Pd c l).left,(Pd c l).act,false,PI l (Pd c l).act (3 * c.pri.length),0⟩
theorem ZD (c:Cd) (hq:Fit c) (z:Bool) (l:List Nat) (h8:∀ x ∈ l,x < 256):C6 Tryz.prog 15 [BP c,.vw z (l.map uA)] (Gb (Mr c l)):=by
 have hfp:=hq.pri
 have E1:=e44 c hq z l h8
 have hE:(Pd c l).zv=false∧(Pd c l).zl=false:=⟨rfl,rfl⟩
 obtain ⟨RES,hRES⟩:∃ R,Mr c l=R:=⟨_,rfl⟩
 rw [hRES]
 rw [Mr] at hRES
 generalize Pd c l=V at E1 hE hRES
 have hR:RES=⟨false,V.vars,false,V.left,V.act,false,PI l V.act (3 * c.pri.length),0⟩:=hRES.symm
 rw [hR]
 clear hR hRES
 simp only [Ab,AS,hE.1,hE.2] at E1
 refine BW (Aj (lit:=false) (pm:=fun _=>none) .nil .nil (.cons Bk2 .nil) .nil) rfl Tryz.func15 rfl (by decide) (by kernel_rfl) (Af3 _) ?_
 simp only [Tryz.f15,Af,lx53,lx63,Nat.reduceAdd,Nat.reduceSub,List.replicate]
 refine Aa ?_
 refine O3 (a3 E1 @Ab @Az) ?_
 refine Ao (T':=Bn 0 73 [(1,.vw z (l.map uA)),(2,.pt 0 0 0 0),(4,.pt 1 1 0 0),(5,.pt 2 2 0 0),(6,.pt 3 3 0 0),(7,.sc (.int .i64 0))]) (H':=[⟨true,0,36,7,[BP c],false⟩,⟨true,1,41,5,[.ag [.vw true [],.vw true [],.sc (.int .u32 0),.vw true [],.sc (.int .i64 0)]],false⟩,⟨true,2,104,6,[J0 V],false⟩,⟨true,3,41,5,[.ag [.vw false (V.vars.map (kA .i64)),.vw false (V.left.map (kA .i64)),.sc (.int .u32 V.act),.vw true [],.sc (.int .i64 0)]],false⟩]) ?_ ?_ (Ar _) ?_
 ·exact Gn
 ·simp (maxSteps:=10000000) only [AY,AW,Ab,AS,hE.1,hE.2]
 refine Fg (T':=Bn 0 73 [(1,.vw z (l.map uA)),(2,.pt 0 0 0 0),(4,.pt 1 1 0 0),(5,.pt 2 2 0 0),(6,.pt 3 3 0 0),(7,.sc (.int .i64 0))]) (H':=[⟨true,0,36,7,[BP c],false⟩,⟨true,1,41,5,[.ag [.vw true [],.vw true [],.sc (.int .u32 0),.vw true [],.sc (.int .i64 0)]],false⟩,⟨true,2,104,6,[J0 V],false⟩,⟨true,3,41,5,[.ag [.vw false (V.vars.map (kA .i64)),.vw false (V.left.map (kA .i64)),.sc (.int .u32 V.act),.sl 4 4 0 0,.sc (.int .i64 0)]],false⟩]) 4 82 6 5 (by omega) (by omega) (BX _ _ _) ?_ ?_
 ·refine TK ?_
  exact ⟨.inl rfl,.inl rfl,.inl rfl,F2 _ _ _ _ _ _ _ _ _ _ ⟨Gw ⟨.refl _,.refl _,.refl _,.nil,BX _ _ _⟩,trivial⟩⟩
 refine qd5 ?_
 refine Al (σ:=Nat × Nat) (fun y cnt=>⟨Bn 0 73 [(1,.vw z (l.map uA)),(2,.pt 0 0 0 0),(4,.pt 1 1 0 0),(5,.pt 2 2 0 0),(6,.pt 3 3 0 0),(7,.sc (.int .i64 (y.1:Int)))],
  [⟨true,0,36,7,[BP c],false⟩,⟨true,1,41,5,[.ag [.vw true [],.vw true [],.sc (.int .u32 0),.vw true [],.sc (.int .i64 0)]],false⟩,⟨true,2,104,6,[J0 V],false⟩,⟨true,3,41,5,[.ag [.vw false (V.vars.map (kA .i64)),.vw false (V.left.map (kA .i64)),.sc (.int .u32 V.act),.sl 4 y.2 0 (PI l V.act (3 * y.1)).length,.sc (.int .i64 0)]],false⟩,⟨true,y.2,82,6,(PI l V.act (3 * y.1)).map Bp,false⟩],cnt⟩)
  (fun y=>y.1≤c.pri.length) (fun y=>c.pri.length - y.1) (0,4) (Bu _) ?_ ?_ rfl ?_
 ·exact Gn
 ·simp (maxSteps:=10000000) only [AY,AW,Ab,AS,hE.1,hE.2,PI]
 rintro ⟨m,v4⟩ cnt hm ih
 simp only at hm
 by_cases hm':m < c.pri.length
 rotate_left
 ·obtain rfl:m=c.pri.length:=by omega
  have h1:decide ((c.pri.length:Int) < (c.pri.length:Int))=false:=Bc
  have ht:List.take (PI l V.act (3 * c.pri.length)).length ((PI l V.act (3 * c.pri.length)).map Bp)=(PI l V.act (3 * c.pri.length)).map Bp:=lx118 (by simp)
  clear ih
  refine Aa ?_
  refine Bq ?_
  exact zE1 (a4 h1 ht @Ab @AS)
  all_goals done
 have h1:decide ((m:Int) < (c.pri.length:Int))=true:=Ae
 have w1:IntKind.i64.wrap ((m:Int)+1)=((m+1:Nat):Int):=AA
 have w3:IntKind.i64.wrap (3 * (m:Int))=((3 * m:Nat):Int):=AA
 have wm:IntKind.u64.wrap (m:Int)=(m:Int):=Eg (by omega) (by omega)
 have ih:=fun v c=>ih (m+1,v) c (by simp only; omega) (by simp only; omega)
 simp only at ih
 refine Aa ?_
 refine Bq ?_
 refine O3 (a3 h1 @Ab @AS) ?_
 refine Al (σ:=Nat × Nat) (fun y cnt=>⟨Bn 0 73 [(1,.vw z (l.map uA)),(2,.pt 0 0 0 0),(4,.pt 1 1 0 0),(5,.pt 2 2 0 0),(6,.pt 3 3 0 0),(7,.sc (.int .i64 (m:Int))),(8,.sc (.int .i64 (y.1:Int)))],
  [⟨true,0,36,7,[BP c],false⟩,⟨true,1,41,5,[.ag [.vw true [],.vw true [],.sc (.int .u32 0),.vw true [],.sc (.int .i64 0)]],false⟩,⟨true,2,104,6,[J0 V],false⟩,⟨true,3,41,5,[.ag [.vw false (V.vars.map (kA .i64)),.vw false (V.left.map (kA .i64)),.sc (.int .u32 V.act),.sl 4 y.2 0 (PI l V.act (3 * m+y.1)).length,.sc (.int .i64 0)]],false⟩,⟨true,y.2,82,6,(PI l V.act (3 * m+y.1)).map Bp,false⟩],cnt⟩)
  (fun y=>y.1≤3) (fun y=>3 - y.1) (0,v4) (Bu _) ?_ ?_ rfl ?_
 ·exact Gn
 ·simp (maxSteps:=10000000) only [AY,AW,Ab,AS,hE.1,hE.2,Jm]
 rintro ⟨k,v⟩ cnt' hk ih2
 simp only at hk
 by_cases hk':k < 3
 rotate_left
 ·obtain rfl:k=3:=by omega
  have h2:decide (((3:Nat):Int) < 3)=false:=by decide
  have h3:3 * (m+1)=3 * m+3:=Ah
  simp only [h3] at ih
  clear ih2
  refine Aa ?_
  refine Bq ?_
  refine O3 (a3 w1 @Ab @AS) ?_
  refine Ao ?_ ?_ (Ar _) (ih v _)
  all_goals exact Auo
 have h2:decide ((k:Int) < 3)=true:=Ae
 have w2:IntKind.i64.wrap ((k:Int)+1)=((k+1:Nat):Int):=AA
 have w4:IntKind.i64.wrap (((3 * m:Nat):Int)+(k:Int))=((3 * m+k:Nat):Int):=AA
 have ih2:=fun v c=>ih2 (k+1,v) c (by simp only; omega) (by simp only; omega)
 have hS:PI l V.act (3 * m+(k+1))=if stQ l V.act (3 * m+k) then PI l V.act (3 * m+k)++[stX l (3 * m+k)] else PI l V.act (3 * m+k):=rfl
 have hd:(3 * m+k) / 3=m:=Ah
 have hd2:(3 * m+k) % 3=k:=Ah
 simp only at ih2
 obtain ⟨n,hn⟩:∃ n,3 * m+k=n:=⟨_,rfl⟩
 rw [hn] at hd hd2
 have hQ:stQ l V.act n=(BQ V.act m && decide (n < l.length) && decide (0 < l.getD n default % 3)):=by rw [stQ,hd]
 have hX:stX l n=⟨(m:Int),(9 * k:Nat),⟨(l.getD n default % 9:Nat),0,0,0⟩⟩:=by rw [stX,hd,hd2]
 have hll:=Adt l V.act n
 simp only [hn] at w4 hS
 cases c1:EX .and .u32 (I2 .u32 V.act m) 1 == 1 with
 | false=>
  have hq0:stQ l V.act n=false:=by rw [hQ,BQ,c1]; rfl
  rw [hq0] at hS
  simp only [hS] at ih2
  refine Aa ?_
  refine Bq ?_
  refine O3 (a9 h2 w2 w3 w4 wm c1 hn @Ab @AS) ?_
  exact Agm
 | true=>
 cases c2:decide (n < l.length) with
 | false=>
  have hq0:stQ l V.act n=false:=by rw [hQ,c2]; simp
  have c2':decide ((n:Int) < (l.length:Int))=false:=by
   rw [BT] at c2 ⊢; omega
  rw [hq0] at hS
  simp only [hS] at ih2
  refine Aa ?_
  refine Bq ?_
  refine O3 (Hg h2 w2 w3 w4 wm c1 c2' hn @Ab @AS) ?_
  exact Agm
 | true=>
 have hu:=Ag4 h8 n
 have c2':decide ((n:Int) < (l.length:Int))=true:=by
  rw [AN] at c2 ⊢; omega
 obtain ⟨x,hx⟩:∃ x,l.getD n default=x:=⟨_,rfl⟩
 rw [hx] at hu hQ hX
 have hr:Int.tmod (x:Int) 3=((x % 3:Nat):Int):=rfl
 have hr9:Int.tmod (x:Int) 9=((x % 9:Nat):Int):=rfl
 have wx:IntKind.i64.wrap (x:Int)=(x:Int):=Bd (by omega) (by omega)
 have wk:IntKind.i64.wrap (9 * (k:Int))=((9 * k:Nat):Int):=AA
 cases c3:decide (0 < x % 3) with
 | false=>
  have hq0:stQ l V.act n=false:=by rw [hQ,c3]; simp
  have c3':decide ((0:Int) < ((x % 3:Nat):Int))=false:=by
   rw [BT] at c3 ⊢; omega
  rw [hq0] at hS
  simp only [hS] at ih2
  refine Aa ?_
  refine Bq ?_
  refine O3 (a16 h2 w2 w3 w4 wm c1 c2 c2' hx hr c3' hn @Ab @AS @Jg @XU) ?_
  exact Agm
 | true=>
  have hq0:stQ l V.act n=true:=by rw [hQ,BQ,c1,c2,c3]; rfl
  have c3':decide ((0:Int) < ((x % 3:Nat):Int))=true:=by
   rw [AN] at c3 ⊢; omega
  rw [hq0] at hS
  simp only [lx6] at hS
  simp only [hS,lx5,lx53,lx63,B6] at ih2
  have hsz:decide (((PI l V.act n).length+1) * 48≤140737488355328)=true:=Ae
  have ht:List.take (PI l V.act n).length ((PI l V.act n).map Bp)=(PI l V.act n).map Bp:=lx118 (by simp)
  have ha:(PI l V.act n).map Bp++[.ag [.sc (.int .i64 m),.sc (.int .i64 (9 * k:Nat)),.sc (.int .i64 (x % 9:Nat)),.sc (.int .i64 0),.sc (.int .i64 0),.sc (.int .i64 0)]]=(PI l V.act n++[stX l n]).map Bp:=by rw [lx12,hX]; rfl
  refine Aa ?_
  refine Bq ?_
  refine O3 (a22 h2 w2 w3 w4 wm c1 c2 c2' hx hr hr9 wx wk c3' hn hsz ht ha @Ab @AS @Jg @XU) ?_
  repeat' (first | exact Ad (by kernel_rfl) | refine ⟨Ad (by kernel_rfl),?_⟩ | refine And.intro ?_ ?_ | fail)
  refine Ao ?_ ?_ (Ar _) (ih2 (cnt'+1) _)
  all_goals exact Auo
noncomputable def f15:=Ew cuQ (fun p=>[BP p.1,.vw p.2.1 (p.2.2.map uA)]) (fun p=>Gb (Mr p.1 p.2.2))
theorem e15 (c:Cd) (h:Fit c) (z:Bool) (l:List Nat) (h8:∀ x ∈ l,x < 256):f15 [BP c,.vw z (l.map uA)]=some (Gb (Mr c l)):=
 (AK (q:=cuQ) (enc:=fun p=>[BP p.1,.vw p.2.1 (p.2.2.map uA)]) (out:=fun p=>Gb (Mr p.1 p.2.2)) (c,z,l) ⟨h,h8⟩ (by
  rintro ⟨a,b,d⟩ h
  simp only [lx96,AV.vw.injEq,N6,Ay] at h
  rw [CT h.1,h.2.1,h.2.2]) :)
theorem Bk3:VOk Tryz.prog 15 f15:=LU <| by
 rintro ⟨c,z,l⟩ ⟨h1,h2⟩
 exact ZD c h1 z l h2
def U9 (l:List Nat):Nat→Cx
 | 0=>⟨100,0,0,0⟩
 | i+1=>⟨(U9 l i).ti+(l.getD i default:Nat),EX .or .u64 (NM .u64 (U9 l i).clo 8) (IntKind.u64.wrap (l.getD i default:Nat)),(l.getD i default % 5:Nat),(U9 l i).ba⟩
theorem Am9 {l:List Nat} (h8:∀ x ∈ l,x < 256):∀ i,100≤(U9 l i).ti∧(U9 l i).ti≤100+256 * i
 | 0=>by simp [U9]
 | i+1=>by
  have:=Am9 h8 i
  have:=Ag4 h8 i
  simp only [U9]; omega
def Ge (l:List Nat):Cx:=U9 l (min l.length 8)
theorem U2 (z:Bool) (l:List Nat) (h8:∀ x ∈ l,x < 256):H5 Tryz.prog 16 [.vw z (l.map uA)] (KF (Ge l)):=by
 refine D7 (Aj (lit:=false) (pm:=fun _=>none) .nil .nil .nil .nil) rfl Tryz.func16 rfl (by decide) (by kernel_rfl) (by simp [KF,kA,AV.noref,norefs]) ?_
 simp only [Tryz.f16,Af,lx53,lx63,Nat.reduceAdd,Nat.reduceSub,List.replicate]
 refine Aa ?_
 refine O3 @Cl ?_
 refine Al (σ:=Nat) (fun k cnt=>⟨Bn 0 43 [(0,.vw z (l.map uA)),(2,.pt 0 0 0 0),(3,.pt 1 1 0 0),(4,.sc (.int .i64 (k:Int)))],[⟨true,0,27,4,[.ag [.sc (.int .i64 0),.sc (.int .u64 0),.sc (.int .i64 0),.sc (.int .i64 0)]],false⟩,⟨true,1,27,4,[KF (U9 l k)],false⟩],cnt⟩)
  (fun k=>k≤min l.length 8) (fun k=>8 - k) 0 (Bu _) ?_ ?_ rfl ?_
 ·exact Gn
 ·simp (maxSteps:=10000000) only [AY,AW,Cl,U9]
 rintro k cnt hk ih
 have hk:k≤min l.length 8:=hk
 by_cases c1:k < l.length
 ·have g1:decide ((k:Int) < (l.length:Int))=true:=by rw [AN]; omega
  have g3:decide (k < l.length)=true:=Ae
  by_cases c2:k < 8
  ·have g2:decide ((k:Int) < 8)=true:=by rw [AN]; omega
   have w1:IntKind.i64.wrap ((k:Int)+1)=((k+1:Nat):Int):=AA
   have ih:=fun c=>ih (k+1) c (show k+1≤min l.length 8 by omega) (show 8 - (k+1) < 8 - k by omega)
   have hu:=Ag4 h8 k
   have hti:=Am9 h8 k
   have hc:U9 l (k+1)=⟨(U9 l k).ti+(l.getD k default:Nat),EX .or .u64 (NM .u64 (U9 l k).clo 8) (IntKind.u64.wrap (l.getD k default:Nat)),(l.getD k default % 5:Nat),(U9 l k).ba⟩:=rfl
   simp only [hc,Cl] at ih
   obtain ⟨x,hx⟩:∃ x,l.getD k default=x:=⟨_,rfl⟩
   rw [hx] at hu
   simp only [hx] at ih
   have hr:Int.tmod (x:Int) 5=((x % 5:Nat):Int):=rfl
   have wx:IntKind.i64.wrap (x:Int)=(x:Int):=Bd (by omega) (by omega)
   have wt:IntKind.i64.wrap ((U9 l k).ti+(x:Int))=(U9 l k).ti+(x:Int):=Bd (by omega) (by omega)
   refine Aa ?_
   refine Bq ?_
   refine O3 (IL g1 g2 g3 w1 hx hr wx wt @Cl @Jg @XU) ?_
   exact Auk
  ·obtain rfl:k=8:=by omega
   have g2:decide (((8:Nat):Int) < 8)=false:=by decide
   have hR:Ge l=U9 l 8:=by rw [Ge,show min l.length 8=8 by omega]
   rw [hR]
   clear ih
   refine Aa ?_
   refine Bq ?_
   refine O3 @Cl ?_
   all_goals first | rfl | (simp [AV.freshIn,Db]; done) | skip
   all_goals done
 ·obtain rfl:k=l.length:=by omega
  have g1:decide ((l.length:Int) < (l.length:Int))=false:=Bc
  have hR:Ge l=U9 l l.length:=by rw [Ge,show min l.length 8=l.length by omega]
  rw [hR]
  clear ih
  refine Aa ?_
  refine Bq ?_
  refine O3 (a2 g1 @Cl) ?_
  all_goals first | rfl | (simp [AV.freshIn,Db]; done) | skip
  all_goals done
noncomputable def f16:=Ew u8Q (fun p=>[.vw p.1 (p.2.map uA)]) (fun p=>KF (Ge p.2))
theorem e16 (z:Bool) (l:List Nat) (h:∀ x ∈ l,x < 256):f16 [.vw z (l.map uA)]=some (KF (Ge l)):=
 (AK (q:=u8Q) (enc:=fun p=>[.vw p.1 (p.2.map uA)]) (out:=fun p=>KF (Ge p.2)) (z,l) h (by
  rintro ⟨a,b⟩ h
  simp only [lx96,AV.vw.injEq,N6,Ay] at h
  rw [h.1,h.2]) :)
theorem Bk4:FOk Tryz.prog 16 f16:=LX <| by
 rintro ⟨z,l⟩ h
 exact U2 z l h
def mt (j:Nat) (p:Nat × Lo):Bool:=(p.2.mo == (p.1:Int)) && (p.2.la == (j:Int))
def Axn (ps:List (Nat × Lo)) (j:Nat):Option Lm:=(ps.find? (mt j)).map (·.2.se)
structure LpI (ps:List (Nat × Lo)) (out:List Lm) (S:Nat):Prop where
 len:out.length=64
 lt:S < 2 ^ 64
 at_:∀ j,j < 64→out.getD j default=(Axn ps j).getD default∧S.testBit j=(Axn ps j).isSome
def Bk5 (ps:List (Nat × Lo)) (j:Nat):Option Lm:=Axn ps.reverse j
structure LqI (ps:List (Nat × Lo)) (out:List Lm):Prop where
 len:out.length=64
 at_:∀ j,j < 64→out.getD j default=(Bk5 ps j).getD default
end Go.Proofs.YtdjpkhjaibdogaaGreat
namespace Go.Proofs.YtdjpkhjaibdogaaGreat
open Go Go.SX
def c0:Cd:=⟨false,[],false,[goB,LI],false,[],false,[0,0],false,[0,5,-3],2,2⟩
structure CodI (ins:List In) (ens:List En):Prop where
 ex:∃ g:Nat→Int,g ins.length=-1∧(∀ k,k < ins.length→insP c0 (ins.getD k default)=false∧KC (ins.getD k default) (g k)∧0≤g k∧g k≤48∧
  ∀ p ∈ BZ (ins.getD k default) ((k:Nat):Int) (g k),∃ q,q≤ins.length∧p=((q:Int),g q))∧∀ e ∈ ens,∃ q,q < ins.length∧e.pc=(q:Int)∧g q=0
def sameK (a b:En):Prop:=a.mo=b.mo∧a.tr=b.tr∧a.ix=b.ix
structure EnsI (ens:List En) (i:Nat):Prop where
 key:∀ e ∈ ens,∃ j,j < i∧sameK e (Pf.getD j default)
 pw:ens.Pairwise fun a b=>LD a b=true
end Go.Proofs.YtdjpkhjaibdogaaGreat
namespace Go.Proofs.YtdjpkhjaibdogaaGreat
open Go Go.SX
attribute [local congr] ite_congr
theorem Ag6 (hs13:C0 Tryz.prog 13 [] (.sc (.bool true))) (z:Bool) (l:List Nat) (hl8:∀ x ∈ l,x < 256) (zm:Bool) (m:List Nat) (hm8:∀ x ∈ m,x < 256) (ze:Bool) (ed:List Ed) (zp:Bool) (po:List Ev) (raw:Cx):
  C0 Tryz.prog 3 [.vw z (l.map uA),.vw zm (m.map uA),tkA ze ed zp po raw] (.sc (.bool true)):=by
 obtain ⟨F13,k13,E13⟩:=F9 hs13
 have E14:=e14 z l hl8
 obtain ⟨c,hc⟩:∃ c,Ip (z,l)=c:=⟨_,rfl⟩
 have hq:=(Ag5 (z,l) hl8).1
 rw [hc] at E14 hq
 have E15:=e15 c hq zm m hm8
 obtain ⟨s,hs⟩:∃ s,Mr c m=s:=⟨_,rfl⟩
 rw [hs] at E15
 have E16:=e16 zm m hm8
 obtain ⟨x,hx⟩:∃ x,Ge m=x:=⟨_,rfl⟩
 rw [hx] at E16
 clear hc hs hx
 have x1:=fun h1 h2=>e17 c hq s ze ed zp po raw h1 h2
 have x2:=fun h1=>e17 c hq s ze ed true [] x h1 (by simp)
 have x3:=e17 c hq s false [⟨3,true⟩,⟨63,false⟩] false [⟨6,1,-1⟩,⟨2,0,0⟩] x (by simp) (by simp)
 simp only [Ab,Az,Cl,Be,Gz,Zz,AB,AZ,lx32,lx47] at E14 E15 E16 x1 x2 x3
 refine Ac (Aj (lit:=true) (pm:=fun _=>none) (.cons k13 (.cons Bjx .nil)) (.cons Bk3 .nil) (.cons Bjy (.cons Bk4 .nil)) .nil) rfl Tryz.func3 rfl (by decide) (by kernel_rfl) (by kernel_rfl) ?_
 simp only [Tryz.f3,Af,lx53,lx63,Nat.reduceAdd,Nat.reduceSub,List.replicate,Zz]
 refine Aa ?_
 by_cases h1:ed.length≤100
 rotate_left
 ·have b1:decide ((100:Int) < (ed.length:Int))=true:=by rw [AN]; omega
  exact zG1 (a2 b1 E13)
  all_goals done
 have b1:decide ((100:Int) < (ed.length:Int))=false:=Gg
 by_cases h2:po.length≤100
 rotate_left
 ·have b2:decide ((100:Int) < (po.length:Int))=true:=by rw [AN]; omega
  exact zG1 (a3 b1 b2 E13)
  all_goals done
 have b2:decide ((100:Int) < (po.length:Int))=false:=Gg
 have x1:=x1 (by omega) (by omega)
 have x2:=x2 (by omega)
 exact zG1 (a9 b1 b2 E13 E14 E15 E16 x1 x2 x3)
 all_goals done
end Go.Proofs.YtdjpkhjaibdogaaGreat
namespace Go.Proofs.YtdjpkhjaibdogaaGreat
open Go Go.SX
theorem Bfd {n:Int} (h:(Lit.int .u8 n).wf=true):0≤n∧n < 256:=by
 have h1:IntKind.min .u8=0:=rfl
 have h2:IntKind.max .u8=255:=rfl
 simp only [Lit.wf,h1,h2,AX,AN] at h
 omega
theorem Bfe {c:List AV} (h:HasC Tryz.prog 5 c):∃ n,c=[kA .u8 n]∧0≤n∧n < 256:=by
 obtain ⟨n,rfl,hn⟩:=h.inv_int un5
 exact ⟨n,rfl,Bfd hn⟩
theorem Bk6 {a:AV} (h:HasV Tryz.prog 5 a):∃ n,a=kA .u8 n∧0≤n∧n < 256:=by
 obtain ⟨c,hc,rfl⟩:=h
 obtain ⟨n,rfl,hn⟩:=Bfe hc
 exact ⟨n,rfl,hn⟩
theorem Ag7 {α:Type} {q:α→Prop} {enc:α→List AV} {r:AV} (x:α) (hq:q x):Ew q enc (fun _=>r) (enc x)=some r:=by
 unfold Ew
 rw [dif_pos ⟨x,hq,rfl⟩]
theorem Bff {a:AV} (h:HasV Tryz.prog 22 a):∃ p:Bool × List Nat,a=.vw p.1 (p.2.map uA)∧u8Q p:=by
 obtain ⟨c,hc,rfl⟩:=h
 obtain ⟨z,es,rfl,hes⟩:=hc.inv_slice Tryz.underlying22
 obtain ⟨l,rfl⟩:=HasV.list (f:=fun x:Fin 256=>uA x.val) (fun a ha=>by
  obtain ⟨n,rfl,h1,h2⟩:=Bk6 ha
  exact ⟨⟨n.toNat,by omega⟩,by simp only [uA,kA]; congr 2; omega⟩) hes
 refine ⟨(z,l.map (·.val)),by simp [List.map_map]; rfl,fun x hx=>?_⟩
 obtain ⟨y,_,rfl⟩:=lx35.1 hx
 exact y.isLt
theorem hc3 {c:List AV} (h:HasC Tryz.prog 3 c):∃ n,c=[kA .i64 n]:=by
 obtain ⟨n,rfl,_⟩:=h.inv_int un3
 exact ⟨n,rfl⟩
theorem Bk7 {a:AV} (h:HasV Tryz.prog 46 a):∃ x:Ev,a=Cf x:=by
 obtain ⟨c,hc,rfl⟩:=h
 have h0:HasFs Tryz.prog [3,3,3] c:=hc.inv_struct (fs:=_) Tryz.underlying46
 obtain ⟨c1,r1,rfl,g1,h1⟩:=h0.inv_cons
 obtain ⟨c2,r2,rfl,g2,h2⟩:=h1.inv_cons
 obtain ⟨c3,r3,rfl,g3,h3⟩:=h2.inv_cons
 obtain rfl:=h3.inv_nil
 obtain ⟨n1,rfl⟩:=hc3 g1
 obtain ⟨n2,rfl⟩:=hc3 g2
 obtain ⟨n3,rfl⟩:=hc3 g3
 exact ⟨⟨n1,n2,n3⟩,rfl⟩
theorem Bk8 {a:AV} (h:HasV Tryz.prog 44 a):∃ x:Ed,a=K8 x:=by
 obtain ⟨c,hc,rfl⟩:=h
 have h0:HasFs Tryz.prog [3,4] c:=hc.inv_struct (fs:=_) Tryz.underlying44
 obtain ⟨c1,r1,rfl,g1,h1⟩:=h0.inv_cons
 obtain ⟨c2,r2,rfl,g2,h2⟩:=h1.inv_cons
 obtain rfl:=h2.inv_nil
 obtain ⟨n1,rfl⟩:=hc3 g1
 obtain ⟨n2,rfl⟩:=g2.inv_bool un4
 exact ⟨⟨n1,n2⟩,rfl⟩
theorem Bk9 {c:List AV} (h:HasC Tryz.prog 27 c):∃ x:Cx,c=[kA .i64 x.ti,kA .u64 x.clo,kA .i64 x.pl',kA .i64 x.ba]:=by
 have h0:HasFs Tryz.prog [3,_,3,3] c:=h.inv_struct (fs:=_) Tryz.underlying27
 obtain ⟨c1,r1,rfl,g1,h1⟩:=h0.inv_cons
 obtain ⟨c2,r2,rfl,g2,h2⟩:=h1.inv_cons
 obtain ⟨c3,r3,rfl,g3,h3⟩:=h2.inv_cons
 obtain ⟨c4,r4,rfl,g4,h4⟩:=h3.inv_cons
 obtain rfl:=h4.inv_nil
 obtain ⟨n1,rfl⟩:=hc3 g1
 obtain ⟨n2,rfl,_⟩:=g2.inv_int (k:=.u64) (by kernel_rfl)
 obtain ⟨n3,rfl⟩:=hc3 g3
 obtain ⟨n4,rfl⟩:=hc3 g4
 exact ⟨⟨n1,n2,n3,n4⟩,rfl⟩
theorem Bka {a:AV} (h:HasV Tryz.prog 29 a):∃ p:(Bool × List Ed) × (Bool × List Ev) × Cx,a=tkA p.1.1 p.1.2 p.2.1.1 p.2.1.2 p.2.2:=by
 obtain ⟨c,hc,rfl⟩:=h
 have h0:HasFs Tryz.prog [23,24,27] c:=hc.inv_struct (fs:=_) Tryz.underlying29
 obtain ⟨c1,r1,rfl,g1,h1⟩:=h0.inv_cons
 obtain ⟨c2,r2,rfl,g2,h2⟩:=h1.inv_cons
 obtain ⟨c3,r3,rfl,g3,h3⟩:=h2.inv_cons
 obtain rfl:=h3.inv_nil
 obtain ⟨z1,es1,rfl,hes1⟩:=g1.inv_slice Tryz.underlying23
 obtain ⟨z2,es2,rfl,hes2⟩:=g2.inv_slice Tryz.underlying24
 obtain ⟨l1,rfl⟩:=HasV.list (f:=K8) (fun a ha=>Bk8 ha) hes1
 obtain ⟨l2,rfl⟩:=HasV.list (f:=Cf) (fun a ha=>Bk7 ha) hes2
 obtain ⟨x,rfl⟩:=Bk9 g3
 exact ⟨((z1,l1),(z2,l2),x),rfl⟩
def bt:List Nat→Nat→Bool:=fun l n=>l.any (Nat.beq n)
def qP:List Nat:=[111,112,155,171,173,209,210,130,147,99,119,155,112,184,131,132,172,174,85,45,46,127,124,255,115]
def qV:List Nat:=[93,51,31,18,114]
def qU:List Nat:=[13,18,20,22,24,29,31,40,45,46,47,48,49,51,53,56,57,58,59,63,64,65,71,74,77,78,79,85,86,87,88,89,90,91,92,93,94,95,98,104,108,109,110,111,112,113,114,115,116,117,120,121,122,123,124,125,126,127,128,130,131,132,133,134,135,136,137,139,142,143,144,145,146,152,154,155,156,157,158,159,160,161,162,163,164,165,166,167,168,169,170,171,172,173,174,176,178,179,180,181,182,184,185,188,190,191,192,193,194,195,196,197,201,203,204,205,208,209,210,211,212,213,214,215,216,219,220,226,227,228,231,233,234,235,236,238,239,251,252,255,257,258,260]
def Axo:TabE:=⟨bt qU,bt qP,fun f=>not (bt qP f || bt qV f),bt [134,165,176,215,162,235,257],fun _ _=>none,bt [54,152,31,18,51,93,94,139,182,216,239,252,258,260,240,49,92,48,128,129,161,160,120,163,164,166,211,251,168,213,122,162,196,146,98,256,20,22,24,29,71,104,56,74,59,113,158,208,157,204,227,231,203,234,206,233,110,154,201,114,115,64,66,111,186,188,189,191,195,207,226,237,236,86],bt qV,bt [85,53],bt [93,51,18,31],bt [54,152],fun _=>false⟩
def chkF (t:TabE) (f:Nat) (fn:Func):Bool:=match fn.body with
 | some c=>(!(fn.name == "runtime.NumGoroutine")) && Dz (fun g=>t.hcl g && !t.isP g) (t.perm f) c
 | none=>true
def Aq6 (t:TabE):List Func→Nat→Bool
 | [],_=>true
 | fn::r,f=>(!t.ok f || chkF t f fn) && Aq6 t r (f+1)
theorem Adu {t:TabE}:∀ {l:List Func} {f i:Nat} {fn:Func},Aq6 t l f=true→l[i]?=some fn→t.ok (f+i)=true→chkF t (f+i) fn=true
 | [],f,i,fn,h,h2,_=>by simp at h2
 | x::r,f,i,fn,h,h2,h3=>by
  simp only [Aq6,AX] at h
  cases i with
  | zero=>simp at h2; subst h2; simpa [show t.ok f=true from h3] using h.1
  | succ i=>
   have e:f+(i+1)=f+1+i:=Ah
   rw [e] at h3 ⊢
   exact Adu (i:=i) h.2 (by simpa using h2) h3
theorem Axp {P:Program} {t:TabE} (h:Aq6 t P.funcs.toList 0=true):Rb P t:=by
 intro f fn c ho hf hb
 have:=Adu (i:=f) h (by rw [Array.getElem?_toList]; exact hf) (by rw [B6]; exact ho)
 rw [B6] at this
 unfold chkF at this
 rw [hb] at this
 simpa using this
theorem Adv:Rb Tryz.prog Axo:=Axp (by kernel_rfl)
def ZE:List (Nat × List AV × AV)→Nat→List AV→Option AV
 | [],_,_=>none
 | e::r,f,args=>match Nat.beq e.1 f && Q2 e.2.1 args with
  | true=>some e.2.2
  | false=>ZE r f args
theorem PJ {Q:Nat→List AV→AV→Prop}:∀ {l:List (Nat × List AV × AV)} {f:Nat} {args:List AV} {r:AV},(∀ e ∈ l,Q e.1 e.2.1 e.2.2)→ZE l f args=some r→Q f args r
 | [],f,args,r,_,h=>by simp [ZE] at h
 | e::l,f,args,r,hl,h=>by
  simp only [ZE] at h
  split at h
  ·rename_i hc
   simp only [AX] at hc
   have h1:=Nat.eq_of_beq_eq_true hc.1
   have h2:=KX _ _ hc.2
   cases h
   have:=hl e lx48
   rwa [h1,h2] at this
  ·exact PJ (fun x hx=>hl x (lx49 _ hx)) h
def emB (f:Nat) (v:Nat):Blk:=match Nat.beq f 54 with
 | true=>⟨true,v,3,1,[],false⟩
 | false=>⟨true,v,82,6,[],false⟩
def Axq (f:Nat) (args:List AV) (H:List Blk) (cnt:Nat):Option (AV × List Blk × Nat):=
 match bt [54,152] f with
 | false=>none
 | true=>match args with
  | [.vw _ []]=>some (.sl H.length (cnt+1) 0 0,H++[emB f (cnt+1)],cnt+2)
  | [.sl id ver _ 0]=>match AP H id ver with
   | some _=>some (.sl H.length (cnt+1) 0 0,H++[emB f (cnt+1)],cnt+2)
   | none=>none
  | _=>none
theorem Aq7 (f:Nat) (args:List AV) (H:List Blk) (cnt:Nat) (r:AV) (H':List Blk) (cnt':Nat) (h:Axq f args H cnt=some (r,H',cnt')):HSpec Tryz.prog f args H cnt r H' cnt':=by
 unfold Axq at h
 split at h
 ·cases h
 ·rename_i hb
  have hf:f=54∨f=152:=by
   simp only [bt,List.any_cons,List.any_nil,Jo,IW] at hb
   exact hb.imp Nat.eq_of_beq_eq_true Nat.eq_of_beq_eq_true
  split at h
  ·cases h
   rcases hf with rfl | rfl
   ·exact Pp (fun cap=>Mi cap H cnt) (fun a cap=>Mj a cap H cnt)
   ·exact Pp (fun cap=>KH cap H cnt) (fun a cap=>KI a cap H cnt)
  ·split at h
   ·rename_i B hB
    cases h
    have hs:(AP H _ _).isSome=true:=Option.isSome_iff_exists.2 ⟨B,hB⟩
    rcases hf with rfl | rfl
    ·exact Xv hs (fun cap=>Mi cap H cnt) (fun a cap=>Mj a cap H cnt)
    ·exact Xv hs (fun cap=>KH cap H cnt) (fun a cap=>KI a cap H cnt)
   ·cases h
  ·cases h
def Bfg (lp lv lf:List (Nat × List AV × AV)):Giv:=⟨ZE lp,ZE lv,Axq,ZE lf⟩
theorem Adw {lp lv lf:List (Nat × List AV × AV)} (hp:∀ e ∈ lp,C0 Tryz.prog e.1 e.2.1 e.2.2) (hv:∀ e ∈ lv,C6 Tryz.prog e.1 e.2.1 e.2.2) (hf:∀ e ∈ lf,H5 Tryz.prog e.1 e.2.1 e.2.2):GivOk Tryz.prog (Bfg lp lv lf):=
 ⟨fun f args r h=>PJ hp h,fun f args r h=>PJ hv h,Aq7,fun f args r h=>PJ hf h⟩
def mkG (lp lv:List (Nat × List AV × AV)):Giv:=Bfg lp lv []
def okT:Option AV→Bool
 | some (.sc (.bool true))=>true
 | _=>false
theorem Bv {Q:Nat→List AV→AV→Prop}:∀ e ∈ ([]:List (Nat × List AV × AV)),Q e.1 e.2.1 e.2.2:=fun e h=>by simp at h
theorem DN {Q:Nat→List AV→AV→Prop} {f:Nat} {args:List AV} {r:AV} {l:List (Nat × List AV × AV)} (h:Q f args r) (hl:∀ e ∈ l,Q e.1 e.2.1 e.2.2):∀ e ∈ (f,args,r)::l,Q e.1 e.2.1 e.2.2:=by
 intro e he
 rcases lx59.1 he with rfl | he
 ·exact h
 ·exact hl e he
theorem pQ {lp lv:List (Nat × List AV × AV)} (hp:∀ e ∈ lp,C0 Tryz.prog e.1 e.2.1 e.2.2) (hv:∀ e ∈ lv,C6 Tryz.prog e.1 e.2.1 e.2.2) {f:Nat} {args:List AV} {r:AV}
  (h:pK Tryz.prog Axo (mkG lp lv) 60 f args=some r):C0 Tryz.prog f args r:=Aev rfl Adv (Adw hp hv Bv) h
theorem vQ {lp lv:List (Nat × List AV × AV)} (hp:∀ e ∈ lp,C0 Tryz.prog e.1 e.2.1 e.2.2) (hv:∀ e ∈ lv,C6 Tryz.prog e.1 e.2.1 e.2.2) {f:Nat} {args:List AV} {r:AV}
  (h:vK Tryz.prog Axo (mkG lp lv) 60 f args=some r):C6 Tryz.prog f args r:=Aew rfl Adv (Adw hp hv Bv) h
def iW (n:Int):AV:=.sc (.int .i64 n)
def yW (l:List UInt8):AV:=.sc (.string ⟨⟨l⟩⟩)
def txa:AV:=yW [115,119,105,116,99,104,32,115,32,53,59,32,109,111,100,101,32,97,32,50,32,123,32,111,110,32,99,108,111,115,101,32,115,32,123,32,115,99,111,114,101,32,49,59,32,99,111,110,115,117,109,101,59,32,125,32,125,32,109,111,100,101,32,98,32,49,32,123,32,111,110,32,99,108,111,115,101,32,115,32,123,32,115,99,111,114,101,32,50,59,32,125,32,111,110,32,115,116,97,114,116,32,123,32,108,105,103,104,116,32,108,32,51,59,32,125,32,125,32]
def txb:AV:=yW [115,119,105,116,99,104,32,115,32,53,59,32,108,97,109,112,32,108,32,57,59,32,109,111,100,101,32,97,32,50,32,123,32,111,110,32,99,108,111,115,101,32,115,32,123,32,115,99,111,114,101,32,49,59,32,99,111,110,115,117,109,101,59,32,125,32,125,32,109,111,100,101,32,98,32,49,32,123,32,111,110,32,99,108,111,115,101,32,115,32,123,32,115,99,111,114,101,32,50,59,32,125,32,111,110,32,115,116,97,114,116,32,123,32,108,105,103,104,116,32,108,32,51,59,32,125,32,125]
def rua:AV:=.ag [.vw false [.ag [iW 1,yW [115],iW 5,iW 0]],.vw false [.ag [yW [97],iW 2,.vw false [.ag [iW 3,yW [115],.vw false [.ag [iW 4,yW [],yW [],.vw false [.ag [iW 1,iW 1,yW [],.vw true [],iW 42]],.vw true [],.vw true [],iW 36],.ag [iW 19,yW [],yW [],.vw true [],.vw true [],.vw true [],iW 45]],iW 23]],iW 12],.ag [yW [98],iW 1,.vw false [.ag [iW 3,yW [115],.vw false [.ag [iW 4,yW [],yW [],.vw false [.ag [iW 1,iW 2,yW [],.vw true [],iW 88]],.vw true [],.vw true [],iW 82]],iW 69],.ag [iW 1,yW [],.vw false [.ag [iW 8,yW [108],yW [],.vw false [.ag [iW 1,iW 3,yW [],.vw true [],iW 112]],.vw true [],.vw true [],iW 104]],iW 93]],iW 58]]]
def rub:AV:=.ag [.vw false [.ag [iW 1,yW [115],iW 5,iW 0],.ag [iW 3,yW [108],iW 9,iW 12]],.vw false [.ag [yW [97],iW 2,.vw false [.ag [iW 3,yW [115],.vw false [.ag [iW 4,yW [],yW [],.vw false [.ag [iW 1,iW 1,yW [],.vw true [],iW 52]],.vw true [],.vw true [],iW 46],.ag [iW 19,yW [],yW [],.vw true [],.vw true [],.vw true [],iW 55]],iW 33]],iW 22],.ag [yW [98],iW 1,.vw false [.ag [iW 3,yW [115],.vw false [.ag [iW 4,yW [],yW [],.vw false [.ag [iW 1,iW 2,yW [],.vw true [],iW 98]],.vw true [],.vw true [],iW 92]],iW 79],.ag [iW 1,yW [],.vw false [.ag [iW 8,yW [108],yW [],.vw false [.ag [iW 1,iW 3,yW [],.vw true [],iW 122]],.vw true [],.vw true [],iW 114]],iW 103]],iW 68]]]
def cob:AV:=.ag [.vw false [.ag [iW 1,iW 1],.ag [iW 15,iW 0],.ag [iW 30,iW 0],.ag [iW 31,iW 0],.ag [iW 1,iW 3],.ag [iW 19,iW 9],.ag [iW 31,iW 0],.ag [iW 1,iW 2],.ag [iW 15,iW 0],.ag [iW 31,iW 0]],.vw true [],.vw false [.ag [iW 0,iW 3,iW 5,iW 0],.ag [iW 1,iW 1,iW 0,iW 4],.ag [iW 1,iW 3,iW 5,iW 7]],.vw false [iW 2,iW 1],.vw true [],iW 0,iW 0]
def Bfh:List AV:=[txa]
def Bfi:AV:=.tu [.vw false [.ag [iW 2,yW [115,119,105,116,99,104],iW 0,iW 0],.ag [iW 1,yW [115],iW 0,iW 7],.ag [iW 3,yW [],iW 5,iW 9],.ag [iW 5,yW [59],iW 0,iW 10],.ag [iW 2,yW [109,111,100,101],iW 0,iW 12],.ag [iW 1,yW [97],iW 0,iW 17],.ag [iW 3,yW [],iW 2,iW 19],.ag [iW 5,yW [123],iW 0,iW 21],.ag [iW 2,yW [111,110],iW 0,iW 23],.ag [iW 2,yW [99,108,111,115,101],iW 0,iW 26],.ag [iW 1,yW [115],iW 0,iW 32],.ag [iW 5,yW [123],iW 0,iW 34],.ag [iW 2,yW [115,99,111,114,101],iW 0,iW 36],.ag [iW 3,yW [],iW 1,iW 42],.ag [iW 5,yW [59],iW 0,iW 43],.ag [iW 2,yW [99,111,110,115,117,109,101],iW 0,iW 45],.ag [iW 5,yW [59],iW 0,iW 52],.ag [iW 5,yW [125],iW 0,iW 54],.ag [iW 5,yW [125],iW 0,iW 56],.ag [iW 2,yW [109,111,100,101],iW 0,iW 58],.ag [iW 1,yW [98],iW 0,iW 63],.ag [iW 3,yW [],iW 1,iW 65],.ag [iW 5,yW [123],iW 0,iW 67],.ag [iW 2,yW [111,110],iW 0,iW 69],.ag [iW 2,yW [99,108,111,115,101],iW 0,iW 72],.ag [iW 1,yW [115],iW 0,iW 78],.ag [iW 5,yW [123],iW 0,iW 80],.ag [iW 2,yW [115,99,111,114,101],iW 0,iW 82],.ag [iW 3,yW [],iW 2,iW 88],.ag [iW 5,yW [59],iW 0,iW 89],.ag [iW 5,yW [125],iW 0,iW 91],.ag [iW 2,yW [111,110],iW 0,iW 93],.ag [iW 2,yW [115,116,97,114,116],iW 0,iW 96],.ag [iW 5,yW [123],iW 0,iW 102],.ag [iW 2,yW [108,105,103,104,116],iW 0,iW 104],.ag [iW 1,yW [108],iW 0,iW 110],.ag [iW 3,yW [],iW 3,iW 112],.ag [iW 5,yW [59],iW 0,iW 113],.ag [iW 5,yW [125],iW 0,iW 115],.ag [iW 5,yW [125],iW 0,iW 117]],iW 0,iW 0]
def Bfj:List AV:=[txb]
def Bfk:AV:=.tu [.vw false [.ag [iW 2,yW [115,119,105,116,99,104],iW 0,iW 0],.ag [iW 1,yW [115],iW 0,iW 7],.ag [iW 3,yW [],iW 5,iW 9],.ag [iW 5,yW [59],iW 0,iW 10],.ag [iW 2,yW [108,97,109,112],iW 0,iW 12],.ag [iW 1,yW [108],iW 0,iW 17],.ag [iW 3,yW [],iW 9,iW 19],.ag [iW 5,yW [59],iW 0,iW 20],.ag [iW 2,yW [109,111,100,101],iW 0,iW 22],.ag [iW 1,yW [97],iW 0,iW 27],.ag [iW 3,yW [],iW 2,iW 29],.ag [iW 5,yW [123],iW 0,iW 31],.ag [iW 2,yW [111,110],iW 0,iW 33],.ag [iW 2,yW [99,108,111,115,101],iW 0,iW 36],.ag [iW 1,yW [115],iW 0,iW 42],.ag [iW 5,yW [123],iW 0,iW 44],.ag [iW 2,yW [115,99,111,114,101],iW 0,iW 46],.ag [iW 3,yW [],iW 1,iW 52],.ag [iW 5,yW [59],iW 0,iW 53],.ag [iW 2,yW [99,111,110,115,117,109,101],iW 0,iW 55],.ag [iW 5,yW [59],iW 0,iW 62],.ag [iW 5,yW [125],iW 0,iW 64],.ag [iW 5,yW [125],iW 0,iW 66],.ag [iW 2,yW [109,111,100,101],iW 0,iW 68],.ag [iW 1,yW [98],iW 0,iW 73],.ag [iW 3,yW [],iW 1,iW 75],.ag [iW 5,yW [123],iW 0,iW 77],.ag [iW 2,yW [111,110],iW 0,iW 79],.ag [iW 2,yW [99,108,111,115,101],iW 0,iW 82],.ag [iW 1,yW [115],iW 0,iW 88],.ag [iW 5,yW [123],iW 0,iW 90],.ag [iW 2,yW [115,99,111,114,101],iW 0,iW 92],.ag [iW 3,yW [],iW 2,iW 98],.ag [iW 5,yW [59],iW 0,iW 99],.ag [iW 5,yW [125],iW 0,iW 101],.ag [iW 2,yW [111,110],iW 0,iW 103],.ag [iW 2,yW [115,116,97,114,116],iW 0,iW 106],.ag [iW 5,yW [123],iW 0,iW 112],.ag [iW 2,yW [108,105,103,104,116],iW 0,iW 114],.ag [iW 1,yW [108],iW 0,iW 120],.ag [iW 3,yW [],iW 3,iW 122],.ag [iW 5,yW [59],iW 0,iW 123],.ag [iW 5,yW [125],iW 0,iW 125],.ag [iW 5,yW [125],iW 0,iW 127]],iW 0,iW 0]
def Bfl:List AV:=[txa]
def Bfm:AV:=.tu [rua,iW 0,iW 0]
def Bfn:List AV:=[txb]
def Bfo:AV:=.tu [rub,iW 0,iW 0]
def Bfp:List AV:=[rua]
def Bfq:AV:=.sc (.bool true)
def Bfr:List AV:=[rub]
def Bfs:AV:=.sc (.bool true)
def Bft:List AV:=[rua]
def Bfu:AV:=.tu [.ag [.vw true [],.vw true [],.vw true [],.vw true [],.vw true [],iW 0,iW 0],iW 104,iW 8]
def Bfv:List AV:=[rub]
def Bfw:AV:=.tu [cob,iW 0,iW 0]
def Bfx:List AV:=[txa]
def Bfy:AV:=.tu [.ag [.vw true [],.vw true [],.vw true [],.vw true [],.vw true [],iW 0,iW 0],iW 104,iW 8]
def Bfz:List AV:=[txb]
def Bg0:AV:=.tu [cob,iW 0,iW 0]
def Bg1:List AV:=[cob]
def Bg2:AV:=iW 0
end Go.Proofs.YtdjpkhjaibdogaaGreat
