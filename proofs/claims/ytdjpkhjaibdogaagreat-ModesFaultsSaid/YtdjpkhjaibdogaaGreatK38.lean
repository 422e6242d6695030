/-
  Lemmas towards ModesFaults (joined texts: EG, EH, EI, EJ, EK).
  Conditions: none.
-/
import Derived.Test.YtdjpkhjaibdogaaGreatK01
import Derived.Test.YtdjpkhjaibdogaaGreatK02
import Derived.Test.YtdjpkhjaibdogaaGreatK37
set_option linter.unusedSimpArgs false
set_option linter.unusedVariables false
set_option maxRecDepth 100000
set_option maxHeartbeats 8000000
namespace Go.Proofs.YtdjpkhjaibdogaaGreat
open Go Go.SX
attribute [local congr] ite_congr
def stQ (l:List Nat) (act:Int) (n:Nat):Bool:=BT act (n / 3:Nat) && decide (n < l.length) && decide (0 < l.getD n default % 3)
def stX (l:List Nat) (n:Nat):Lo:=⟨(n / 3:Nat),(9 * (n % 3):Nat),⟨(l.getD n default % 9:Nat),0,0,0⟩⟩
def K2 (l:List Nat) (act:Int):Nat→List Lo
 | 0=>[]
 | n+1=>if stQ l act n then K2 l act n++[stX l n] else K2 l act n
theorem Aaq (l:List Nat) (act:Int):∀ n,(K2 l act n).length≤n
 | 0=>by simp [K2]
 | n+1=>by
  have:=Aaq l act n
  rw [K2]; split
  ·simp; omega
  ·omega
def Co (c:Cd) (l:List Nat):Rs:=⟨false,(NK c l).vars,false,(NK c l).left,(NK c l).act,false,K2 l (NK c l).act (3 * c.pri.length),0⟩
theorem Yd (c:Cd) (hq:Fit c) (z:Bool) (l:List Nat) (h8:∀ x ∈ l,x < 256):Db Tryz.prog 15 [B5 c,.vw z (l.map uA)] (Hf (Co c l)):=by
 have hfp:=hq.pri
 have E1:=e44 c hq z l h8
 have hE:(NK c l).zv=false∧(NK c l).zl=false:=⟨rfl,rfl⟩
 obtain ⟨RES,hRES⟩:∃ R,Co c l=R:=⟨_,rfl⟩
 rw [hRES]
 rw [Co] at hRES
 generalize NK c l=V at E1 hE hRES
 have hR:RES=⟨false,V.vars,false,V.left,V.act,false,K2 l V.act (3 * c.pri.length),0⟩:=hRES.symm
 rw [hR]
 clear hR hRES
 simp only [Ac,Bm,hE.1,hE.2] at E1
 refine C2 (Am (lit:=false) (pm:=fun _=>none) .nil .nil (.cons Bfe .nil) .nil) rfl Tryz.func15 rfl (by decide) (by kernel_rfl) (Ac7 _) ?_
 simp only [Tryz.f15,Af,lx53,lx63,Nat.reduceAdd,Nat.reduceSub,List.replicate]
 refine Aa ?_
 refine Nx (a3 E1 @Ac @AL) ?_
 refine AD (T':=Cg 0 73 [(1,.vw z (l.map uA)),(2,.pt 0 0 0 0),(4,.pt 1 1 0 0),(5,.pt 2 2 0 0),(6,.pt 3 3 0 0),(7,.sc (.int .i64 0))]) (H':=[⟨true,0,36,7,[B5 c],false⟩,⟨true,1,41,5,[.ag [.vw true [],.vw true [],.sc (.int .u32 0),.vw true [],.sc (.int .i64 0)]],false⟩,⟨true,2,104,6,[Ma V],false⟩,⟨true,3,41,5,[.ag [.vw false (V.vars.map (kA .i64)),.vw false (V.left.map (kA .i64)),.sc (.int .u32 V.act),.vw true [],.sc (.int .i64 0)]],false⟩]) ?_ ?_ (Ax _) ?_
 ·exact IZ
 ·simp (maxSteps:=10000000) only [Bk,Bg,Ac,Bm,hE.1,hE.2]
 refine Ix (T':=Cg 0 73 [(1,.vw z (l.map uA)),(2,.pt 0 0 0 0),(4,.pt 1 1 0 0),(5,.pt 2 2 0 0),(6,.pt 3 3 0 0),(7,.sc (.int .i64 0))]) (H':=[⟨true,0,36,7,[B5 c],false⟩,⟨true,1,41,5,[.ag [.vw true [],.vw true [],.sc (.int .u32 0),.vw true [],.sc (.int .i64 0)]],false⟩,⟨true,2,104,6,[Ma V],false⟩,⟨true,3,41,5,[.ag [.vw false (V.vars.map (kA .i64)),.vw false (V.left.map (kA .i64)),.sc (.int .u32 V.act),.sl 4 4 0 0,.sc (.int .i64 0)]],false⟩]) 4 82 6 5 (by omega) (by omega) (Ct _ _ _) ?_ ?_
 ·refine W3 ?_
  exact ⟨.inl rfl,.inl rfl,.inl rfl,Iy _ _ _ _ _ _ _ _ _ _ ⟨Jr ⟨.refl _,.refl _,.refl _,.nil,Ct _ _ _⟩,trivial⟩⟩
 refine qd5 ?_
 refine Aw (σ:=Nat × Nat) (fun y cnt=>⟨Cg 0 73 [(1,.vw z (l.map uA)),(2,.pt 0 0 0 0),(4,.pt 1 1 0 0),(5,.pt 2 2 0 0),(6,.pt 3 3 0 0),(7,.sc (.int .i64 (y.1:Int)))],
  [⟨true,0,36,7,[B5 c],false⟩,⟨true,1,41,5,[.ag [.vw true [],.vw true [],.sc (.int .u32 0),.vw true [],.sc (.int .i64 0)]],false⟩,⟨true,2,104,6,[Ma V],false⟩,⟨true,3,41,5,[.ag [.vw false (V.vars.map (kA .i64)),.vw false (V.left.map (kA .i64)),.sc (.int .u32 V.act),.sl 4 y.2 0 (K2 l V.act (3 * y.1)).length,.sc (.int .i64 0)]],false⟩,⟨true,y.2,82,6,(K2 l V.act (3 * y.1)).map BY,false⟩],cnt⟩)
  (fun y=>y.1≤c.pri.length) (fun y=>c.pri.length - y.1) (0,4) (BX _) ?_ ?_ rfl ?_
 ·exact IZ
 ·simp (maxSteps:=10000000) only [Bk,Bg,Ac,Bm,hE.1,hE.2,K2]
 rintro ⟨m,v4⟩ cnt hm ih
 simp only at hm
 by_cases hm':m < c.pri.length
 rotate_left
 ·obtain rfl:m=c.pri.length:=by omega
  have h1:decide ((c.pri.length:Int) < (c.pri.length:Int))=false:=Br
  have ht:List.take (K2 l V.act (3 * c.pri.length)).length ((K2 l V.act (3 * c.pri.length)).map BY)=(K2 l V.act (3 * c.pri.length)).map BY:=lx118 (by simp)
  clear ih
  refine Aa ?_
  refine CL ?_
  exact zE1 (a4 h1 ht @Ac @Bm)
  all_goals done
 have h1:decide ((m:Int) < (c.pri.length:Int))=true:=Aj
 have w1:IntKind.i64.wrap ((m:Int)+1)=((m+1:Nat):Int):=AK
 have w3:IntKind.i64.wrap (3 * (m:Int))=((3 * m:Nat):Int):=AK
 have wm:IntKind.u64.wrap (m:Int)=(m:Int):=JL (by omega) (by omega)
 have ih:=fun v c=>ih (m+1,v) c (by simp only; omega) (by simp only; omega)
 simp only at ih
 refine Aa ?_
 refine CL ?_
 refine Nx (a3 h1 @Ac @Bm) ?_
 refine Aw (σ:=Nat × Nat) (fun y cnt=>⟨Cg 0 73 [(1,.vw z (l.map uA)),(2,.pt 0 0 0 0),(4,.pt 1 1 0 0),(5,.pt 2 2 0 0),(6,.pt 3 3 0 0),(7,.sc (.int .i64 (m:Int))),(8,.sc (.int .i64 (y.1:Int)))],
  [⟨true,0,36,7,[B5 c],false⟩,⟨true,1,41,5,[.ag [.vw true [],.vw true [],.sc (.int .u32 0),.vw true [],.sc (.int .i64 0)]],false⟩,⟨true,2,104,6,[Ma V],false⟩,⟨true,3,41,5,[.ag [.vw false (V.vars.map (kA .i64)),.vw false (V.left.map (kA .i64)),.sc (.int .u32 V.act),.sl 4 y.2 0 (K2 l V.act (3 * m+y.1)).length,.sc (.int .i64 0)]],false⟩,⟨true,y.2,82,6,(K2 l V.act (3 * m+y.1)).map BY,false⟩],cnt⟩)
  (fun y=>y.1≤3) (fun y=>3 - y.1) (0,v4) (BX _) ?_ ?_ rfl ?_
 ·exact IZ
 ·simp (maxSteps:=10000000) only [Bk,Bg,Ac,Bm,hE.1,hE.2,IW]
 rintro ⟨k,v⟩ cnt' hk ih2
 simp only at hk
 by_cases hk':k < 3
 rotate_left
 ·obtain rfl:k=3:=by omega
  have h2:decide (((3:Nat):Int) < 3)=false:=by decide
  have h3:3 * (m+1)=3 * m+3:=Ah
  simp only [h3] at ih
  clear ih2
  refine Aa ?_
  refine CL ?_
  refine Nx (a3 w1 @Ac @Bm) ?_
  refine AD ?_ ?_ (Ax _) (ih v _)
  all_goals exact Aqn
 have h2:decide ((k:Int) < 3)=true:=Aj
 have w2:IntKind.i64.wrap ((k:Int)+1)=((k+1:Nat):Int):=AK
 have w4:IntKind.i64.wrap (((3 * m:Nat):Int)+(k:Int))=((3 * m+k:Nat):Int):=AK
 have ih2:=fun v c=>ih2 (k+1,v) c (by simp only; omega) (by simp only; omega)
 have hS:K2 l V.act (3 * m+(k+1))=if stQ l V.act (3 * m+k) then K2 l V.act (3 * m+k)++[stX l (3 * m+k)] else K2 l V.act (3 * m+k):=rfl
 have hd:(3 * m+k) / 3=m:=Ah
 have hd2:(3 * m+k) % 3=k:=Ah
 simp only at ih2
 obtain ⟨n,hn⟩:∃ n,3 * m+k=n:=⟨_,rfl⟩
 rw [hn] at hd hd2
 have hQ:stQ l V.act n=(BT V.act m && decide (n < l.length) && decide (0 < l.getD n default % 3)):=by rw [stQ,hd]
 have hX:stX l n=⟨(m:Int),(9 * k:Nat),⟨(l.getD n default % 9:Nat),0,0,0⟩⟩:=by rw [stX,hd,hd2]
 have hll:=Aaq l V.act n
 simp only [hn] at w4 hS
 cases c1:DE .and .u32 (He .u32 V.act m) 1 == 1 with
 | false=>
  have hq0:stQ l V.act n=false:=by rw [hQ,BT,c1]; rfl
  rw [hq0] at hS
  simp only [hS] at ih2
  refine Aa ?_
  refine CL ?_
  refine Nx (a9 h2 w2 w3 w4 wm c1 hn @Ac @Bm) ?_
  exact Ads
 | true=>
 cases c2:decide (n < l.length) with
 | false=>
  have hq0:stQ l V.act n=false:=by rw [hQ,c2]; simp
  have c2':decide ((n:Int) < (l.length:Int))=false:=by
   rw [BJ] at c2 ⊢; omega
  rw [hq0] at hS
  simp only [hS] at ih2
  refine Aa ?_
  refine CL ?_
  refine Nx (Hk h2 w2 w3 w4 wm c1 c2' hn @Ac @Bm) ?_
  exact Ads
 | true=>
 have hu:=Ya h8 n
 have c2':decide ((n:Int) < (l.length:Int))=true:=by
  rw [AR] at c2 ⊢; omega
 obtain ⟨x,hx⟩:∃ x,l.getD n default=x:=⟨_,rfl⟩
 rw [hx] at hu hQ hX
 have hr:Int.tmod (x:Int) 3=((x % 3:Nat):Int):=rfl
 have hr9:Int.tmod (x:Int) 9=((x % 9:Nat):Int):=rfl
 have wx:IntKind.i64.wrap (x:Int)=(x:Int):=Bd (by omega) (by omega)
 have wk:IntKind.i64.wrap (9 * (k:Int))=((9 * k:Nat):Int):=AK
 cases c3:decide (0 < x % 3) with
 | false=>
  have hq0:stQ l V.act n=false:=by rw [hQ,c3]; simp
  have c3':decide ((0:Int) < ((x % 3:Nat):Int))=false:=by
   rw [BJ] at c3 ⊢; omega
  rw [hq0] at hS
  simp only [hS] at ih2
  refine Aa ?_
  refine CL ?_
  refine Nx (a16 h2 w2 w3 w4 wm c1 c2 c2' hx hr c3' hn @Ac @Bm @H9 @WB) ?_
  exact Ads
 | true=>
  have hq0:stQ l V.act n=true:=by rw [hQ,BT,c1,c2,c3]; rfl
  have c3':decide ((0:Int) < ((x % 3:Nat):Int))=true:=by
   rw [AR] at c3 ⊢; omega
  rw [hq0] at hS
  simp only [lx6] at hS
  simp only [hS,lx5,lx53,lx63,BO] at ih2
  have hsz:decide (((K2 l V.act n).length+1) * 48≤140737488355328)=true:=Aj
  have ht:List.take (K2 l V.act n).length ((K2 l V.act n).map BY)=(K2 l V.act n).map BY:=lx118 (by simp)
  have ha:(K2 l V.act n).map BY++[.ag [.sc (.int .i64 m),.sc (.int .i64 (9 * k:Nat)),.sc (.int .i64 (x % 9:Nat)),.sc (.int .i64 0),.sc (.int .i64 0),.sc (.int .i64 0)]]=(K2 l V.act n++[stX l n]).map BY:=by rw [lx12,hX]; rfl
  refine Aa ?_
  refine CL ?_
  refine Nx (a22 h2 w2 w3 w4 wm c1 c2 c2' hx hr hr9 wx wk c3' hn hsz ht ha @Ac @Bm @H9 @WB) ?_
  repeat' (first | exact Ae (by kernel_rfl) | refine ⟨Ae (by kernel_rfl),?_⟩ | refine And.intro ?_ ?_ | fail)
  refine AD ?_ ?_ (Ax _) (ih2 (cnt'+1) _)
  all_goals exact Aqn
noncomputable def f15:=EP cuQ (fun p=>[B5 p.1,.vw p.2.1 (p.2.2.map uA)]) (fun p=>Hf (Co p.1 p.2.2))
theorem e15 (c:Cd) (h:Fit c) (z:Bool) (l:List Nat) (h8:∀ x ∈ l,x < 256):f15 [B5 c,.vw z (l.map uA)]=some (Hf (Co c l)):=
 (AG (q:=cuQ) (enc:=fun p=>[B5 p.1,.vw p.2.1 (p.2.2.map uA)]) (out:=fun p=>Hf (Co p.1 p.2.2)) (c,z,l) ⟨h,h8⟩ (by
  rintro ⟨a,b,d⟩ h
  simp only [lx96,AV.vw.injEq,MH,Ay] at h
  rw [CV h.1,h.2.1,h.2.2]) :)
theorem Bam:VOk Tryz.prog 15 f15:=SC <| by
 rintro ⟨c,z,l⟩ ⟨h1,h2⟩
 exact Yd c h1 z l h2
def TN (l:List Nat):Nat→Cx
 | 0=>⟨100,0,0,0⟩
 | i+1=>⟨(TN l i).ti+(l.getD i default:Nat),DE .or .u64 (Ll .u64 (TN l i).clo 8) (IntKind.u64.wrap (l.getD i default:Nat)),(l.getD i default % 5:Nat),(TN l i).ba⟩
theorem Ajf {l:List Nat} (h8:∀ x ∈ l,x < 256):∀ i,100≤(TN l i).ti∧(TN l i).ti≤100+256 * i
 | 0=>by simp [TN]
 | i+1=>by
  have:=Ajf h8 i
  have:=Ya h8 i
  simp only [TN]; omega
def Fl (l:List Nat):Cx:=TN l (min l.length 8)
theorem TF (z:Bool) (l:List Nat) (h8:∀ x ∈ l,x < 256):IQ Tryz.prog 16 [.vw z (l.map uA)] (ND (Fl l)):=by
 refine Gy (Am (lit:=false) (pm:=fun _=>none) .nil .nil .nil .nil) rfl Tryz.func16 rfl (by decide) (by kernel_rfl) (by simp [ND,kA,AV.noref,norefs]) ?_
 simp only [Tryz.f16,Af,lx53,lx63,Nat.reduceAdd,Nat.reduceSub,List.replicate]
 refine Aa ?_
 refine Nx @CJ ?_
 refine Aw (σ:=Nat) (fun k cnt=>⟨Cg 0 43 [(0,.vw z (l.map uA)),(2,.pt 0 0 0 0),(3,.pt 1 1 0 0),(4,.sc (.int .i64 (k:Int)))],[⟨true,0,27,4,[.ag [.sc (.int .i64 0),.sc (.int .u64 0),.sc (.int .i64 0),.sc (.int .i64 0)]],false⟩,⟨true,1,27,4,[ND (TN l k)],false⟩],cnt⟩)
  (fun k=>k≤min l.length 8) (fun k=>8 - k) 0 (BX _) ?_ ?_ rfl ?_
 ·exact IZ
 ·simp (maxSteps:=10000000) only [Bk,Bg,CJ,TN]
 rintro k cnt hk ih
 have hk:k≤min l.length 8:=hk
 by_cases c1:k < l.length
 ·have g1:decide ((k:Int) < (l.length:Int))=true:=by rw [AR]; omega
  have g3:decide (k < l.length)=true:=Aj
  by_cases c2:k < 8
  ·have g2:decide ((k:Int) < 8)=true:=by rw [AR]; omega
   have w1:IntKind.i64.wrap ((k:Int)+1)=((k+1:Nat):Int):=AK
   have ih:=fun c=>ih (k+1) c (show k+1≤min l.length 8 by omega) (show 8 - (k+1) < 8 - k by omega)
   have hu:=Ya h8 k
   have hti:=Ajf h8 k
   have hc:TN l (k+1)=⟨(TN l k).ti+(l.getD k default:Nat),DE .or .u64 (Ll .u64 (TN l k).clo 8) (IntKind.u64.wrap (l.getD k default:Nat)),(l.getD k default % 5:Nat),(TN l k).ba⟩:=rfl
   simp only [hc,CJ] at ih
   obtain ⟨x,hx⟩:∃ x,l.getD k default=x:=⟨_,rfl⟩
   rw [hx] at hu
   simp only [hx] at ih
   have hr:Int.tmod (x:Int) 5=((x % 5:Nat):Int):=rfl
   have wx:IntKind.i64.wrap (x:Int)=(x:Int):=Bd (by omega) (by omega)
   have wt:IntKind.i64.wrap ((TN l k).ti+(x:Int))=(TN l k).ti+(x:Int):=Bd (by omega) (by omega)
   refine Aa ?_
   refine CL ?_
   refine Nx (HH g1 g2 g3 w1 hx hr wx wt @CJ @H9 @WB) ?_
   exact Aqk
  ·obtain rfl:k=8:=by omega
   have g2:decide (((8:Nat):Int) < 8)=false:=by decide
   have hR:Fl l=TN l 8:=by rw [Fl,show min l.length 8=8 by omega]
   rw [hR]
   clear ih
   refine Aa ?_
   refine CL ?_
   refine Nx @CJ ?_
   all_goals first | rfl | (simp [AV.freshIn,Ee]; done) | skip
   all_goals done
 ·obtain rfl:k=l.length:=by omega
  have g1:decide ((l.length:Int) < (l.length:Int))=false:=Br
  have hR:Fl l=TN l l.length:=by rw [Fl,show min l.length 8=l.length by omega]
  rw [hR]
  clear ih
  refine Aa ?_
  refine CL ?_
  refine Nx (a2 g1 @CJ) ?_
  all_goals first | rfl | (simp [AV.freshIn,Ee]; done) | skip
  all_goals done
noncomputable def f16:=EP u8Q (fun p=>[.vw p.1 (p.2.map uA)]) (fun p=>ND (Fl p.2))
theorem e16 (z:Bool) (l:List Nat) (h:∀ x ∈ l,x < 256):f16 [.vw z (l.map uA)]=some (ND (Fl l)):=
 (AG (q:=u8Q) (enc:=fun p=>[.vw p.1 (p.2.map uA)]) (out:=fun p=>ND (Fl p.2)) (z,l) h (by
  rintro ⟨a,b⟩ h
  simp only [lx96,AV.vw.injEq,MH,Ay] at h
  rw [h.1,h.2]) :)
theorem Ban:FOk Tryz.prog 16 f16:=SE <| by
 rintro ⟨z,l⟩ h
 exact TF z l h
def mt (j:Nat) (p:Nat × Lo):Bool:=(p.2.mo == (p.1:Int)) && (p.2.la == (j:Int))
def Ate (ps:List (Nat × Lo)) (j:Nat):Option Lm:=(ps.find? (mt j)).map (·.2.se)
structure LpI (ps:List (Nat × Lo)) (out:List Lm) (S:Nat):Prop where
 len:out.length=64
 lt:S < 2 ^ 64
 at_:∀ j,j < 64→out.getD j default=(Ate ps j).getD default∧S.testBit j=(Ate ps j).isSome
def Bff (ps:List (Nat × Lo)) (j:Nat):Option Lm:=Ate ps.reverse j
structure LqI (ps:List (Nat × Lo)) (out:List Lm):Prop where
 len:out.length=64
 at_:∀ j,j < 64→out.getD j default=(Bff ps j).getD default
end Go.Proofs.YtdjpkhjaibdogaaGreat
namespace Go.Proofs.YtdjpkhjaibdogaaGreat
open Go Go.SX
def c0:Cd:=⟨false,[],false,[goB,Ic],false,[],false,[0,0],false,[0,5,-3],2,2⟩
theorem Anb {op a lo hi:Int} (h:Dc c0 op=(lo,hi)) (h1:lo≤a) (h2:a≤hi):insP c0 ⟨op,a⟩=false:=by
 have:HD a lo hi=true:=Du.2 ⟨h1,h2⟩
 simp only [insP,h,this,W0,MS]
def KX (b:Nat) (hi ho:Int) (X:List In) (E:Int→Int→Prop):Prop:=
 ∃ g:Nat→Int,g 0=hi∧g X.length=ho∧∀ k,k < X.length→insP c0 (X.getD k default)=false∧I2 (X.getD k default) (g k)∧0≤g k∧g k≤48∧
  ∀ p ∈ Bz (X.getD k default) ((b+k:Nat):Int) (g k),(∃ q,q≤X.length∧p=(((b+q:Nat):Int),g q))∨E p.1 p.2
theorem C6 {b:Nat} {h0 h1 h2:Int} {X Y:List In} {E:Int→Int→Prop} (hX:KX b h0 h1 X E) (hY:KX (b+X.length) h1 h2 Y E):KX b h0 h2 (X++Y) E:=by
 obtain ⟨g,g0,g1,gs⟩:=hX
 obtain ⟨f,f0,f1,fs⟩:=hY
 have hle:∀ q,q≤X.length→(if q < X.length then g q else f (q - X.length))=g q:=fun q hq=>by
  by_cases h:q < X.length
  ·rw [if_pos h]
  ·rw [if_neg h]
   obtain rfl:q=X.length:=Ah
   rw [K3,f0,g1]
 refine ⟨fun k=>if k < X.length then g k else f (k - X.length),?_,?_,fun k hk=>?_⟩
 ·simp only; rw [hle 0 (BX _)]; exact g0
 ·simp only [lx5]; rw [if_neg (by omega),IK]; exact f1
 ·simp only [lx5] at hk
  by_cases h:k < X.length
  ·have e:(X++Y).getD k default=X.getD k default:=by
    rw [lx80,lx80,lx61 h]
   obtain ⟨a1,a2,a3,a4,a5⟩:=gs k h
   simp only [e,if_pos h]
   refine ⟨a1,a2,a3,a4,fun p hp=>?_⟩
   rcases a5 p hp with ⟨q,hq,hpq⟩ | hE
   ·refine .inl ⟨q,by rw [lx5]; omega,?_⟩
    rw [hle q hq]; exact hpq
   ·exact .inr hE
  ·have e:(X++Y).getD k default=Y.getD (k - X.length) default:=by
    rw [lx80,lx80,lx62 (by omega)]
   obtain ⟨a1,a2,a3,a4,a5⟩:=fs (k - X.length) (by omega)
   simp only [e,if_neg h]
   refine ⟨a1,a2,a3,a4,fun p hp=>?_⟩
   rw [show b+k=b+X.length+(k - X.length) by omega] at hp
   rcases a5 p hp with ⟨q,hq,hpq⟩ | hE
   ·refine .inl ⟨X.length+q,by rw [lx5]; omega,?_⟩
    rw [if_neg (by omega),IK,show b+(X.length+q)=b+X.length+q by omega]; exact hpq
   ·exact .inr hE
theorem Sc {b:Nat} {hi ho:Int} {X:List In} {E E':Int→Int→Prop} (h:KX b hi ho X E) (hE:∀ j k,E j k→(j=((b:Nat):Int)∧k=hi)∨(j=((b+X.length:Nat):Int)∧k=ho)):KX b hi ho X E':=by
 obtain ⟨g,g0,g1,gs⟩:=h
 refine ⟨g,g0,g1,fun k hk=>?_⟩
 obtain ⟨a1,a2,a3,a4,a5⟩:=gs k hk
 refine ⟨a1,a2,a3,a4,fun p hp=>.inl ?_⟩
 rcases a5 p hp with h | h
 ·exact h
 ·rcases hE _ _ h with ⟨e1,e2⟩ | ⟨e1,e2⟩
  ·exact ⟨0,BX _,by rw [IW,g0,←e1,←e2]⟩
  ·exact ⟨X.length,Ax _,by rw [g1,←e1,←e2]⟩
theorem L9 {b:Nat} {hi ho:Int} {x:In} {E:Int→Int→Prop} (hs:insP c0 x=false) (hok:I2 x hi) (h0:0≤hi) (h48:hi≤48)
  (hp:∀ p ∈ Bz x ((b:Nat):Int) hi,p=(((b+1:Nat):Int),ho)∨E p.1 p.2):KX b hi ho [x] E:=by
 refine ⟨fun k=>if k=0 then hi else ho,rfl,rfl,fun k hk=>?_⟩
 have hk:k < 1:=hk
 obtain rfl:k=0:=Ah
 refine ⟨hs,hok,h0,h48,fun p hp'=>?_⟩
 rcases hp p hp' with h | h
 ·exact .inl ⟨1,Ax _,h⟩
 ·exact .inr h
theorem Cp {b:Nat} {hi ho op a tk pt kd lo up:Int} {E:Int→Int→Prop} (he:B6 op=(tk,pt,kd)) (hj:op≠12∧op≠13∧op≠14∧op≠31) (hs:Dc c0 op=(lo,up)) (h1:lo≤a) (h2:a≤up) (h0:0≤hi) (h48:hi≤48) (ht:tk≤hi) (ho':ho=hi - tk+pt):KX b hi ho [⟨op,a⟩] E:=by
 refine L9 (Anb hs h1 h2) ⟨by rw [he]; exact ht,fun h=>absurd h hj.2.2.2⟩ h0 h48 fun p hp=>.inl ?_
 simp only [Bz,if_neg hj.2.2.2,if_neg hj.1,if_neg hj.2.1,if_neg hj.2.2.1,he,lx70] at hp
 rw [hp,ho']
 simp
theorem WX {t:Tp} (k a:Nat) (b:Nat) (h:Int) (h0:0≤h) (h47:h≤47) {E:Int→Int→Prop}:KX b h (h+1) [IU t k a] E:=by
 unfold IU
 split
 ·have:=Cc (t:=t) (a:=a) (n:=3) (by omega)
  exact Cp (op:=2) rfl (by decide) rfl (by omega) (by simp [c0]; omega) h0 (by omega) (by omega) (by omega)
 ·split
  ·have:=Cc (t:=t) (a:=a) (n:=64) (by omega)
   exact Cp (op:=4) rfl (by decide) rfl (by omega) (by omega) h0 (by omega) (by omega) (by omega)
  ·split
   ·have:=Cc (t:=t) (a:=a) (n:=2) (by omega)
    exact Cp (op:=5) rfl (by decide) rfl (by omega) (by simp [c0]; omega) h0 (by omega) (by omega) (by omega)
   ·split
    ·have:=Cc (t:=t) (a:=a) (n:=2) (by omega)
     exact Cp (op:=6) rfl (by decide) rfl (by omega) (by simp [c0]; omega) h0 (by omega) (by omega) (by omega)
    ·split
     ·have:=Cc (t:=t) (a:=a) (n:=2) (by omega)
      have h2:Cn t a 2=0∨Cn t a 2=1:=Ah
      rcases h2 with h2 | h2
      ·rw [h2]; exact Cp (op:=7) rfl (by decide) rfl (by omega) (by omega) h0 (by omega) (by omega) (by omega)
      ·rw [h2]; exact Cp (op:=8) rfl (by decide) rfl (by omega) (by omega) h0 (by omega) (by omega) (by omega)
     ·have:=Cc (t:=t) (a:=a) (n:=10) (by omega)
      have hn:-2147483647≤Ahz (Cn t a 10)∧Ahz (Cn t a 10)≤2147483647:=by
       generalize Cn t a 10=q at this
       exact Aur
      exact Cp (op:=1) rfl (by decide) rfl hn.1 hn.2 h0 (by omega) (by omega) (by omega)
theorem El {t:Tp} {E:Int→Int→Prop}:∀ (d a b:Nat) (h:Int),0≤h→h+d≤47→KX b h (h+1) (An t d a).1 E
 | 0,a,b,h,h0,h1=>WX _ _ b h h0 (by omega)
 | d+1,a,b,h,h0,h1=>by
  rw [An]
  split
  ·refine C6 (El d _ b h h0 (by omega)) ?_
   have:=Cc (t:=t) (a:=(An t d (Bb t a)).2) (n:=2) (by omega)
   have h2:Cn t (An t d (Bb t a)).2 2=0∨Cn t (An t d (Bb t a)).2 2=1:=Ah
   rcases h2 with h2 | h2
   ·rw [h2]; exact Cp (op:=9) rfl (by decide) rfl (by omega) (by omega) (by omega) (by omega) (by omega) (by omega)
   ·rw [h2]; exact Cp (op:=10) rfl (by decide) rfl (by omega) (by omega) (by omega) (by omega) (by omega) (by omega)
  ·split
   ·refine C6 (C6 (El d _ b h h0 (by omega)) (El d _ _ (h+1) (by omega) (by omega))) ?_
    have:=Cc (t:=t) (a:=(An t d (An t d (Bb t a)).2).2) (n:=13) (by omega)
    exact Cp (op:=11) rfl (by decide) rfl (by omega) (by omega) (by omega) (by omega) (by omega) (by omega)
   ·exact WX _ _ b h h0 (by omega)
theorem Ajg {t:Tp} {E:Int→Int→Prop} (k a b:Nat) (h:Int) (h0:0≤h) (h1:h≤40):KX b h h (tLf t k a).1 E:=by
 have q2:=fun a=>Cc (t:=t) (a:=a) (n:=2) (by omega)
 have q3:=fun a=>Cc (t:=t) (a:=a) (n:=3) (by omega)
 have q32:=fun a=>Cc (t:=t) (a:=a) (n:=32) (by omega)
 have q64:=fun a=>Cc (t:=t) (a:=a) (n:=64) (by omega)
 obtain ⟨Q,hQ⟩:∃ Q:List In × Nat→Prop,Q=fun x=>KX b h h x.1 E:=⟨_,rfl⟩
 suffices hh:Q (tLf t k a) by rw [hQ] at hh; exact hh
 unfold tLf
 refine Cy (p:=Q) ?_ (Cy (p:=Q) ?_ (Cy (p:=Q) ?_ (Cy (p:=Q) ?_ (Cy (p:=Q) ?_ (Cy (p:=Q) ?_ (Cy (p:=Q) ?_ (Cy (p:=Q) ?_ (Cy (p:=Q) ?_ (Cy (p:=Q) ?_ (Cy (p:=Q) ?_ ?_))))))))))
 all_goals rw [hQ]
 ·exact C6 (El 1 _ b h h0 (by omega)) (Cp (op:=15) rfl (by decide) rfl (by omega) (by omega) (by omega) (by omega) (by omega) (by omega))
 ·have u:=q3 a
  have v:=q32 (Bb t a)
  have h3:Cn t a 3=0∨Cn t a 3=1∨Cn t a 3=2:=Ah
  rcases h3 with h3 | h3 | h3
  ·rw [h3]; exact Cp (op:=16) rfl (by decide) rfl (by omega) (by omega) (by omega) (by omega) (by omega) (by omega)
  ·rw [h3]; exact Cp (op:=17) rfl (by decide) rfl (by omega) (by omega) (by omega) (by omega) (by omega) (by omega)
  ·rw [h3]; exact Cp (op:=18) rfl (by decide) rfl (by omega) (by omega) (by omega) (by omega) (by omega) (by omega)
 ·have v:=q64 (An t 0 a).2
  exact C6 (El 0 _ b h h0 (by omega)) (Cp (op:=19) rfl (by decide) rfl (by omega) (by omega) (by omega) (by omega) (by omega) (by omega))
 ·have v:=q64 (An t 0 (An t 0 a).2).2
  exact C6 (C6 (El 0 _ b h h0 (by omega)) (El 0 _ _ (h+1) (by omega) (by omega))) (Cp (op:=20) rfl (by decide) rfl (by omega) (by omega) (by omega) (by omega) (by omega) (by omega))
 ·have v:=q2 (An t 1 a).2
  exact C6 (El 1 _ b h h0 (by omega)) (Cp (op:=21) rfl (by decide) rfl (by omega) (by simp [c0]; omega) (by omega) (by omega) (by omega) (by omega))
 ·have v:=q2 a
  exact Cp (op:=22) rfl (by decide) rfl (by omega) (by simp [c0]; omega) (by omega) (by omega) (by omega) (by omega)
 ·have u:=q2 a
  have v:=q2 (Bb t a)
  have h3:Cn t a 2=0∨Cn t a 2=1:=Ah
  rcases h3 with h3 | h3
  ·rw [h3]; exact Cp (op:=23) rfl (by decide) rfl (by omega) (by simp [c0]; omega) (by omega) (by omega) (by omega) (by omega)
  ·rw [h3]; exact Cp (op:=24) rfl (by decide) rfl (by omega) (by simp [c0]; omega) (by omega) (by omega) (by omega) (by omega)
 ·have v:=q2 a
  exact Cp (op:=25) rfl (by decide) rfl (by omega) (by simp [c0]; omega) (by omega) (by omega) (by omega) (by omega)
 ·have u:=q3 a
  have v:=q64 (Bb t a)
  have h3:Cn t a 3=0∨Cn t a 3=1∨Cn t a 3=2:=Ah
  rcases h3 with h3 | h3 | h3
  ·rw [h3]; exact Cp (op:=26) rfl (by decide) rfl (by omega) (by omega) (by omega) (by omega) (by omega) (by omega)
  ·rw [h3]; exact Cp (op:=27) rfl (by decide) rfl (by omega) (by omega) (by omega) (by omega) (by omega) (by omega)
  ·rw [h3]; exact Cp (op:=28) rfl (by decide) rfl (by omega) (by omega) (by omega) (by omega) (by omega) (by omega)
 ·have v:=q2 (An t 1 a).2
  exact C6 (El 1 _ b h h0 (by omega)) (Cp (op:=29) rfl (by decide) rfl (by omega) (by simp [c0]; omega) (by omega) (by omega) (by omega) (by omega))
 ·exact Cp (op:=30) rfl (by decide) rfl (by omega) (by omega) (by omega) (by omega) (by omega) (by omega)
 ·have v:=q3 (An t 2 a).2
  exact C6 (El 2 _ b h h0 (by omega)) (Cp (op:=3) rfl (by decide) rfl (by omega) (by simp [c0]; omega) (by omega) (by omega) (by omega) (by omega))
theorem P8 {op a:Int} (h:op=12∨op=13∨op=14):insP c0 ⟨op,a⟩=false:=by
 rcases h with rfl | rfl | rfl <;> simp [insP,Eg]
theorem TG {t:Tp} {E:Int→Int→Prop}:∀ (d a b:Nat) (h:Int),0≤h→h+d≤40→KX b h h (BV t d b a).1 E
 | 0,a,b,h,h0,h1=>Ajg _ _ b h h0 (by omega)
 | d+1,a,b,h,h0,h1=>by
  rw [BV]
  split
  ·refine Sc (E:=fun j k=>j=((b+(An t 1 (Bb t a)).1.length+1+(BV t d (b+(An t 1 (Bb t a)).1.length+1) (An t 1 (Bb t a)).2).1.length:Nat):Int)∧k=h) ?_ (fun j k ⟨e1,e2⟩=>.inr ⟨by rw [e1]; simp only [lx5,lx53,lx63]; omega,e2⟩)
   refine C6 (C6 (El 1 _ b h h0 (by omega)) (L9 (ho:=h) (P8 (.inr (.inl rfl))) ⟨by show (1:Int)≤h+1; omega,fun h=>absurd h (by show ¬ (13:Int)=31; decide)⟩ (by omega) (by omega) fun p hp=>?_)) ?_
   ·have hp:p=(((b+(An t 1 (Bb t a)).1.length:Nat):Int)+1,h+1 - 1)∨p=(((b+(An t 1 (Bb t a)).1.length+1+(BV t d (b+(An t 1 (Bb t a)).1.length+1) (An t 1 (Bb t a)).2).1.length:Nat):Int),h+1 - 1):=by simpa [Bz] using hp
    rcases hp with rfl | rfl
    ·left; simp
    ·right; exact ⟨rfl,by simp⟩
   ·simp only [lx5,lx53,lx63,BO,←Gd]
    exact TG d _ _ h h0 (by omega)
  ·split
   ·simp only [lx4]
    refine C6 (El 0 _ b h h0 (by omega)) ?_
    refine Sc (E:=fun j k=>(j=((b+(An t 0 (Bb t a)).1.length:Nat):Int)∧k=h+1)∨(j=((b+(An t 0 (Bb t a)).1.length+2+(BV t d (b+(An t 0 (Bb t a)).1.length+1) (An t 0 (Bb t a)).2).1.length:Nat):Int)∧k=h)) ?_ ?_
    ·refine C6 (L9 (ho:=h+1) (P8 (.inr (.inr rfl))) ⟨by show (1:Int)≤h+1; omega,fun h=>absurd h (by show ¬ (14:Int)=31; decide)⟩ (by omega) (by omega) fun p hp=>?_) (C6 (h1:=h+1) ?_ (L9 (P8 (.inl rfl)) ⟨by show (0:Int)≤h+1; omega,fun h=>absurd h (by show ¬ (12:Int)=31; decide)⟩ (by omega) (by omega) fun p hp=>?_))
     ·have hp:p=(((b+(An t 0 (Bb t a)).1.length:Nat):Int)+1,h+1)∨p=(((b+(An t 0 (Bb t a)).1.length+2+(BV t d (b+(An t 0 (Bb t a)).1.length+1) (An t 0 (Bb t a)).2).1.length:Nat):Int),h+1 - 1):=by simpa [Bz] using hp
      rcases hp with rfl | rfl
      ·left; simp
      ·right; exact .inr ⟨rfl,by simp⟩
     ·simp only [lx53,lx63,BO]
      exact TG d _ _ (h+1) (by omega) (by omega)
     ·have hp:p=(((b+(An t 0 (Bb t a)).1.length:Nat):Int),h+1):=by simpa [Bz] using hp
      subst hp
      right; exact .inl ⟨rfl,rfl⟩
    ·rintro j k (⟨e1,e2⟩ | ⟨e1,e2⟩)
     ·exact .inl ⟨e1,e2⟩
     ·exact .inr ⟨by rw [e1]; simp only [lx5,lx53,lx63]; omega,e2⟩
   ·exact Ajg _ _ b h h0 (by omega)
theorem Aar {t:Tp} {E:Int→Int→Prop}:∀ (n:Nat) (m:Mk),∃ X,(mkN t n m).ins=m.ins++X∧KX m.ins.length 0 0 X E
 | 0,m=>⟨[],by simp [mkN],⟨fun _=>0,rfl,rfl,fun k hk=>absurd hk (by simp)⟩⟩
 | n+1,m=>by
  obtain ⟨X,h1,h2⟩:=Aar (t:=t) (E:=E) n ⟨m.ins++(BV t 2 m.ins.length m.a).1,m.ens,(BV t 2 m.ins.length m.a).2⟩
  refine ⟨(BV t 2 m.ins.length m.a).1++X,by rw [mkN,h1,lx4],C6 (TG 2 _ _ 0 (by omega) (by omega)) ?_⟩
  simpa using h2
theorem Aas {x:In} {i h:Int} (h0:0≤h) (ho:I2 x h):∀ p ∈ Bz x i h,0≤p.2:=by
 intro p hp
 obtain ⟨h1,h2⟩:=ho
 unfold Bz at hp
 split at hp
 ·simp at hp
 split at hp
 ·simp at hp; subst hp; exact h0
 split at hp
 ·rename_i e
  rw [e] at h1
  have h1:(1:Int)≤h:=h1
  simp at hp
  rcases hp with rfl | rfl <;> (show 0≤h - 1; omega)
 split at hp
 ·rename_i e
  rw [e] at h1
  have h1:(1:Int)≤h:=h1
  simp at hp
  rcases hp with rfl | rfl
  ·show 0≤h; omega
  ·show 0≤h - 1; omega
 ·simp at hp
  subst hp
  have:0≤(B6 x.op).2.1:=by
   have hd:∀ y:Int × Int × Int,0≤y.2.1→(fun y:Int × Int × Int=>0≤y.2.1) y:=fun _ h=>h
   show (fun y:Int × Int × Int=>0≤y.2.1) (B6 x.op)
   unfold B6
   iterate 31 refine Cy (p:=fun y:Int × Int × Int=>0≤y.2.1) (hd _ (by decide)) ?_
   exact hd _ (by decide)
  show 0≤h - (B6 x.op).1+(B6 x.op).2.1
  omega
structure CodI (ins:List In) (ens:List En):Prop where
 ex:∃ g:Nat→Int,g ins.length=-1∧(∀ k,k < ins.length→insP c0 (ins.getD k default)=false∧I2 (ins.getD k default) (g k)∧0≤g k∧g k≤48∧
  ∀ p ∈ Bz (ins.getD k default) ((k:Nat):Int) (g k),∃ q,q≤ins.length∧p=((q:Int),g q))∧∀ e ∈ ens,∃ q,q < ins.length∧e.pc=(q:Int)∧g q=0
theorem Ajh:CodI [] []:=⟨fun _=>-1,rfl,fun k hk=>absurd hk (by simp),fun e he=>absurd he (by simp)⟩
theorem Aji {ins:List In} {ens:List En} {X:List In} {e:En} (h:CodI ins ens) (hX:KX ins.length 0 0 X (fun _ _=>False)) (he:e.pc=(ins.length:Int)):CodI (ins++(X++[⟨31,0⟩])) (ens++[e]):=by
 obtain ⟨g,g1,gs,ge⟩:=h
 have hY:KX ins.length 0 (-1) (X++[⟨31,0⟩]) (fun _ _=>False):=C6 hX (L9 (by simp [insP,Eg,Dc,HD]) ⟨by show (0:Int)≤0; decide,fun _=>rfl⟩ (by decide) (by decide) fun p hp=>by simp [Bz] at hp)
 obtain ⟨f,f0,f1,fs⟩:=hY
 generalize hYe:X++[(⟨31,0⟩:In)]=Y at f1 fs
 have hpos:0 < Y.length:=by rw [←hYe]; simp
 refine ⟨fun k=>if k < ins.length then g k else f (k - ins.length),?_,fun k hk=>?_,fun e' he'=>?_⟩
 ·simp only [lx5]; rw [if_neg (by omega),IK]; exact f1
 ·simp only [lx5] at hk
  by_cases hl:k < ins.length
  ·have ee:(ins++Y).getD k default=ins.getD k default:=by
    rw [lx80,lx80,lx61 hl]
   obtain ⟨a1,a2,a3,a4,a5⟩:=gs k hl
   simp only [ee,if_pos hl]
   refine ⟨a1,a2,a3,a4,fun p hp=>?_⟩
   obtain ⟨q,hq,hpq⟩:=a5 p hp
   have hp0:=Aas a3 a2 p hp
   have hq':q < ins.length:=by
    rcases DF q ins.length with h | h
    ·exact h
    ·obtain rfl:q=ins.length:=by omega
     rw [hpq,g1] at hp0
     simp at hp0
   exact ⟨q,by rw [lx5]; omega,by rw [if_pos hq']; exact hpq⟩
  ·have ee:(ins++Y).getD k default=Y.getD (k - ins.length) default:=by
    rw [lx80,lx80,lx62 (by omega)]
   obtain ⟨a1,a2,a3,a4,a5⟩:=fs (k - ins.length) (by omega)
   simp only [ee,if_neg hl]
   refine ⟨a1,a2,a3,a4,fun p hp=>?_⟩
   rw [show k=ins.length+(k - ins.length) by omega] at hp
   rw [show ins.length+(k - ins.length) - ins.length=k - ins.length by omega] at hp
   rcases a5 p hp with ⟨q,hq,hpq⟩ | hE
   ·refine ⟨ins.length+q,by rw [lx5]; omega,?_⟩
    rw [if_neg (by omega),IK]; exact hpq
   ·exact hE.elim
 ·rcases lx76.1 he' with he' | he'
  ·obtain ⟨q,h1,h2,h3⟩:=ge e' he'
   exact ⟨q,by rw [lx5]; omega,h2,by simp only; rw [if_pos h1]; exact h3⟩
  ·simp only [lx70] at he'
   subst he'
   refine ⟨ins.length,by rw [lx5]; omega,he,?_⟩
   simp only
   rw [if_neg (Nat.lt_irrefl _),K3]; exact f0
def sameK (a b:En):Prop:=a.mo=b.mo∧a.tr=b.tr∧a.ix=b.ix
structure EnsI (ens:List En) (i:Nat):Prop where
 key:∀ e ∈ ens,∃ j,j < i∧sameK e (HB.getD j default)
 pw:ens.Pairwise fun a b=>H4 a b=true
theorem Ye {a b a' b':En} (h1:sameK a a') (h2:sameK b b'):H4 a b=H4 a' b':=by
 obtain ⟨e1,e2,e3⟩:=h1
 obtain ⟨f1,f2,f3⟩:=h2
 simp only [H4,e1,e2,e3,f1,f2,f3]
theorem Anc:∀ i,i < 9→∀ j,j < i→H4 (HB.getD j default) (HB.getD i default)=true:=by decide
theorem Ane:∀ j,j < 9→IB c0 (HB.getD j default)=true:=by decide
theorem Ajj {ens:List En} {i:Nat} (h:EnsI ens i) (hi:i < 9) (pc:Int):EnsI (ens++[{ HB.getD i default with pc:=pc }]) (i+1):=by
 refine ⟨fun e he=>?_,?_⟩
 ·rcases lx76.1 he with he | he
  ·obtain ⟨j,h1,h2⟩:=h.key e he
   exact ⟨j,by omega,h2⟩
  ·simp only [lx70] at he
   subst he
   exact ⟨i,by omega,rfl,rfl,rfl⟩
 ·refine List.pairwise_append.2 ⟨h.pw,List.pairwise_singleton _ _,fun a ha b hb=>?_⟩
  simp only [lx70] at hb
  subst hb
  obtain ⟨j,h1,h2⟩:=h.key a ha
  have h3:sameK { HB.getD i default with pc:=pc } (HB.getD i default):=⟨rfl,rfl,rfl⟩
  exact (Ye h2 h3).trans (Anc i hi j h1)
theorem Aqi {t:Tp} {i:Nat} {m:Mk} {a:Nat} (hi:i < 9) (h1:CodI m.ins m.ens) (h2:EnsI m.ens i) (ht:TpOk t) (ha:a≤200):CodI (KU t i m a).ins (KU t i m a).ens∧EnsI (KU t i m a).ens (i+1):=by
 obtain ⟨X,e1,e2⟩:=Aar (t:=t) (E:=fun _ _=>False) (Cn t a 4) ⟨m.ins,m.ens++[{ HB.getD i default with pc:=m.ins.length }],Bb t a⟩
 have e3:=(Tv ht (Cn t a 4) (m:=⟨m.ins,m.ens++[{ HB.getD i default with pc:=m.ins.length }],Bb t a⟩) (Bc ht ha)).2.1
 simp only at e1 e2 e3
 constructor
 ·simp only [KU,e1,e3,lx4]
  exact Aji h1 e2 rfl
 ·simp only [KU,e3]
  exact Ajj h2 hi _
theorem Aqj {t:Tp} (ht:TpOk t) {a:Nat} (ha:a≤200):∀ i,i≤9→CodI (Qd t a i).ins (Qd t a i).ens∧EnsI (Qd t a i).ens i
 | 0,_=>⟨Ajh,⟨fun e he=>absurd he (by simp [Qd]),List.Pairwise.nil⟩⟩
 | i+1,hi=>by
  obtain ⟨h1,h2⟩:=Aqj ht ha i (by omega)
  have hm:=(P1 ht ha i).a
  rw [Qd,mkI]
  split
  ·split
   ·exact ⟨h1,⟨fun e he=>by obtain ⟨j,q1,q2⟩:=h2.key e he; exact ⟨j,by omega,q2⟩,h2.pw⟩⟩
   ·exact Aqi (by omega) h1 h2 ht (Bc ht hm)
  ·exact Aqi (by omega) h1 h2 ht hm
theorem Yf (t:Tp) (ht:TpOk t):Be (Hv t)=0:=by
 have hb:Bb t (Bb t 0)≤200:=Bc ht (Bc ht (by omega))
 have hm:=P1 ht hb 9
 obtain ⟨⟨g,g1,gs,ge⟩,hk',hpw⟩:=Aqj ht hb 9 (Ax _)
 have n1:=Cc (t:=t) (a:=0) (n:=4) (by omega)
 have n2:=Cc (t:=t) (a:=Bb t 0) (n:=4) (by omega)
 have hi1:=hm.ins
 have hi2:=hm.ens
 obtain ⟨m,hmm⟩:∃ m,Qd t (Bb t (Bb t 0)) 9=m:=⟨_,rfl⟩
 rw [hmm] at g1 gs ge hk' hpw hi1 hi2
 obtain ⟨p0,hp0⟩:∃ p0:Int,((Cn t 0 4:Nat):Int)=p0:=⟨_,rfl⟩
 obtain ⟨p1,hp1⟩:∃ p1:Int,((Cn t (Bb t 0) 4:Nat):Int)=p1:=⟨_,rfl⟩
 have hc:Hv t=⟨false,m.ins,false,[goB,Ic],false,m.ens,false,[p0,p1],false,[0,5,-3],2,2⟩:=by rw [←hmm,←hp0,←hp1]; rfl
 rw [hc]
 have hlt:∀ k,k < m.ins.length→∀ p ∈ Bz (m.ins.getD k default) ((k:Nat):Int) (g k),∃ q,q < m.ins.length∧p=((q:Int),g q):=by
  intro k hk p hp
  obtain ⟨a1,a2,a3,a4,a5⟩:=gs k hk
  obtain ⟨q,hq,hpq⟩:=a5 p hp
  have hp0:=Aas a3 a2 p hp
  refine ⟨q,?_,hpq⟩
  rcases DF q m.ins.length with h | h
  ·exact h
  ·obtain rfl:q=m.ins.length:=by omega
   rw [hpq,g1] at hp0
   simp at hp0
 have hgd:∀ k (h:k < m.ins.length),m.ins.getD k default=m.ins[k]:=fun k h=>by rw [lx80,lx51 h]; rfl
 obtain ⟨c,hcc⟩:∃ c:Cd,(⟨false,m.ins,false,[goB,Ic],false,m.ens,false,[p0,p1],false,[0,5,-3],2,2⟩:Cd)=c:=⟨_,rfl⟩
 have c1:c.ins=m.ins:=by rw [←hcc]
 have c2:c.ens=m.ens:=by rw [←hcc]
 have h1:PO c=true:=by
  rw [←hcc]
  simp only [PO,AH,AR,lx53,lx63]
  refine ⟨⟨⟨⟨⟨⟨?_,?_⟩,?_⟩,?_⟩,?_⟩,?_⟩,?_⟩
  all_goals first | omega | decide
 have h2:IT c=true:=by
  have a1:c.ins.any (insP c)=false:=PM fun k hk=>by
   rw [c1] at hk ⊢
   have e:insP c (m.ins.getD k default)=insP c0 (m.ins.getD k default):=by rw [←hcc]; rfl
   rw [e]; exact (gs k hk).1
  have a2:c.ens.any (fun e=>!IB c e)=false:=PM fun k hk=>by
   rw [c2] at hk ⊢
   obtain ⟨j,hj,e1,e2,e3⟩:=hk' _ (CM hk)
   have e:IB c (m.ens.getD k default)=IB c0 (HB.getD j default):=by
    rw [←hcc]
    simp only [IB,e1,e2,e3]; rfl
   rw [e,Ane j hj]; rfl
  have a3:prB p0=false∧prB p1=false:=by
   simp only [prB,Hj]
   exact ⟨Du.2 ⟨by omega,by omega⟩,Du.2 ⟨by omega,by omega⟩⟩
  have a4:Wo c=false:=by
   have b1:c.strs.any (fun b=>!Gs b)=false:=by
    rw [←hcc]
    show ([goB,Ic].any fun b=>!Gs b)=false
    decide
   have b2:c.pri.any prB=false:=by rw [←hcc]; simp [a3.1,a3.2]
   have b3:c.vars.any vaB=false:=by
    rw [←hcc]
    show ([0,5,-3]:List Int).any vaB=false
    decide
   rw [Wo,b1,b2,b3,a2]; rfl
  rw [IT,a4,a1]; rfl
 have h3:G8 c=true:=by
  have a1:c.ins.any (tgP c)=false:=PM fun k hk=>by
   rw [c1] at hk ⊢
   have a2:=hlt k hk
   generalize m.ins.getD k default=x at a2
   obtain ⟨op,a⟩:=x
   simp only [tgP,Qu,Hj]
   by_cases hj:Eg op=true
   ·right
    have hj':op=12∨op=13∨op=14:=by
     simp only [Eg,IX,lx85] at hj
     omega
    have:∃ h',(a,h') ∈ Bz ⟨op,a⟩ ((k:Nat):Int) (g k):=by
     rcases hj' with rfl | rfl | rfl
     ·exact ⟨g k,by simp [Bz]⟩
     ·exact ⟨g k - 1,by simp [Bz]⟩
     ·exact ⟨g k - 1,by simp [Bz]⟩
    obtain ⟨h',hm⟩:=this
    obtain ⟨q,q1,q2⟩:=a2 _ hm
    rw [lx40] at q2
    rw [c1]
    exact Du.2 ⟨by omega,by omega⟩
   ·left; simpa using hj
  have a2:c.ens.any (tgB c)=false:=PM fun k hk=>by
   rw [c2] at hk ⊢
   obtain ⟨q,q1,q2,q3⟩:=ge _ (CM hk)
   simp only [tgB,Hj,c1]
   exact Du.2 ⟨by omega,by omega⟩
  rw [G8,a1,a2]; rfl
 have h4:Ns c=true:=by
  have:(List.range (c.ens.length - 1)).any (fun k=>!Jy c k)=false:=by
   rw [lx97]
   intro k hk
   rw [HG,c2] at hk
   have hp:=lx122.1 hpw k (k+1) (by omega) (by omega) (by omega)
   have e:Jy c k=true:=by
    rw [Jy,c2,lx80,lx80,lx51 (by omega),lx51 (by omega)]
    exact hp
   rw [e]; decide
  rw [Ns,this]; rfl
 have h5:I3 c=true:=by
  refine RV ?_
  have key:∀ i h,Rch c i h→∃ k,k < m.ins.length∧i=(k:Int)∧h=g k:=by
   intro i h r
   induction r with
   | ent he=>
    rw [c2] at he
    obtain ⟨q,q1,q2,q3⟩:=ge _ he
    exact ⟨q,q1,q2,q3.symm⟩
   | step r hi ho hs ih=>
    obtain ⟨k,k1,k2,k3⟩:=ih
    subst k2; subst k3
    have e:AF c (k:Int)=m.ins.getD k default:=by rw [AF,c1]; rfl
    rw [e] at hs
    obtain ⟨q,q1,q2⟩:=hlt k k1 _ hs
    rw [lx40] at q2
    exact ⟨q,q1,q2.1,q2.2⟩
  refine ⟨fun i h r=>?_,fun i h h' r r'=>?_⟩
  ·obtain ⟨k,k1,k2,k3⟩:=key i h r
   subst k2; subst k3
   have e:AF c (k:Int)=m.ins.getD k default:=by rw [AF,c1]; rfl
   obtain ⟨a1,a2,a3,a4,a5⟩:=gs k k1
   rw [e,c1]
   exact ⟨by omega,a4,a2⟩
  ·obtain ⟨k,k1,k2,k3⟩:=key i h r
   obtain ⟨k',k1',k2',k3'⟩:=key i h' r'
   have:k=k':=Ah
   subst this
   rw [k3,k3']
 rw [hcc,Be,h1,h2,h3,h4,h5]
 rfl
end Go.Proofs.YtdjpkhjaibdogaaGreat
