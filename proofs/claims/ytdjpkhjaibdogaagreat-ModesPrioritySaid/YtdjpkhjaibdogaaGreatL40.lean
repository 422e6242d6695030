/-
  Lemmas towards ModesPriority (joined texts: PR, PT, YD2, PU, PV, PX, PW, P1, P2, P3, P4).
  Conditions: none.
-/
import Derived.Test.YtdjpkhjaibdogaaGreatL01
import Derived.Test.YtdjpkhjaibdogaaGreatL02
import Derived.Test.YtdjpkhjaibdogaaGreatL39
import Derived.Test.YtdjpkhjaibdogaaGreatL30
set_option linter.unusedSimpArgs false
set_option linter.unusedVariables false
set_option maxRecDepth 100000
set_option maxHeartbeats 80000000
namespace Go.Proofs.YtdjpkhjaibdogaaGreat
open Go Go.SX
attribute [local congr] ite_congr
theorem Bjk (t:Nat) (x y:Operand) (a:ByteArray):Da Tryz.prog .neq t x y (.sc (.string a)) (.sc (.string a))=some (.sc (.bool false)):=by
 have h:Da Tryz.prog .neq t x y (.sc (.string a)) (.sc (.string a))=some (.sc (.bool (not (E8 a.data.toList a.data.toList)))):=MZ t x y rfl
 rw [h,IY,lx74]
 rfl
theorem Bpz (ms:List Mo) (hms:ms.length≤16):Ap Tryz.prog 121 [.ag [.vw false [Fm wE 0],.vw false (ms.map Sz)],.ag [.vw false [Fm wE 0],.vw false (ms.map Sz)]] (.sc (.bool true)):=by
 have w1:IntKind.i64.wrap 1=1:=rfl
 have hml:(ms.map Sz).length=ms.length:=lx57 _
 have hd:∀ x y,Da Tryz.prog .neq 113 x y (.ag [.sc (.int .i64 8),.sc (.string wE),.sc (.int .i64 0),.sc (.int .i64 0)]) (.ag [.sc (.int .i64 8),.sc (.string wE),.sc (.int .i64 0),.sc (.int .i64 0)])=some (.sc (.bool false)):=fun x y=>by kernel_rfl
 have hX4:Bs 4 (ms.map Sz)=true:=BT (f:=Sz) (fun _=>rfl) _
 have hgX:∀ j,j < ms.length→(ms.map Sz)[j]?=some (Sz (ms.getD j default)):=fun j hj=>by
  rw [lx23,lx50 hj,lx81,lx50 hj]; rfl
 generalize ms.map Sz=X at hml hX4 hgX ⊢
 simp only [Fm]
 let o167:List AV→AV:=fun _=>.sc (.bool true)
 obtain ⟨F,kF,eF⟩:∃ F,DC Tryz.prog 167 F∧∀ v c,F [.vw false (Hu v 0 0 0 c),.vw false (Hu v 0 0 0 c)]=some (.sc (.bool true)):=by
  refine ⟨fun a=>open Classical in if Ap Tryz.prog 167 a (.sc (.bool true)) then some (.sc (.bool true)) else none,?_,fun v c=>if_pos (Bpy v c)⟩
  intro a r h
  simp only at h
  split at h
  ·rename_i hx; cases h; exact hx
  ·cases h
 refine Ab (Af (lit:=false) (pm:=fun _=>none) (.cons kF .nil) .nil .nil .nil) rfl Tryz.func121 rfl (by decide) (by kernel_rfl) (by kernel_rfl) ?_
 simp only [Tryz.f121,Ae,lx52,lx63,Nat.reduceAdd,Nat.reduceSub,List.replicate]
 refine Ac ?_
 refine Dz hml ?_
 refine Bd ?_
 simp (maxSteps:=10000000) +contextual -implicitDefEqProofs only [AX,AT,St.put,↓reduceIte,reduceCtorEq,Nat.reduceAdd,Int.reduceLT,Nat.reduceLT,CS,Int.reduceAdd,B9,norefs,AV.noref,w1,hd]
 repeat' (first | exact Aa (by kernel_rfl) | refine ⟨Aa (by kernel_rfl),?_⟩ | refine And.intro ?_ ?_ | fail)
 refine AD ?_
 simp (maxSteps:=10000000) +contextual -implicitDefEqProofs only [AX,AT,St.put,↓reduceIte,reduceCtorEq,Int.reduceLT,Nat.reduceLT,CS,B9]
 refine Az (σ:=Nat) (fun j _=>⟨CW 0 135 [(2,.pt 0 0 0 0),(3,.pt 1 1 0 0),(6,.sc (.int .i64 j))],[⟨true,0,56,2,[.ag [.vw false [.ag [.sc (.int .i64 8),.sc (.string wE),.sc (.int .i64 0),.sc (.int .i64 0)]],.vw false X]],false⟩,⟨true,1,56,2,[.ag [.vw false [.ag [.sc (.int .i64 8),.sc (.string wE),.sc (.int .i64 0),.sc (.int .i64 0)]],.vw false X]],false⟩],2+4 * j⟩)
  (fun j=>j≤ms.length) (fun j=>ms.length - j) 0 (by omega) ?_ ?_ rfl ?_
 ·exact Gm
 ·exact Aq _
 rintro j c hj ih
 obtain ⟨V,hV⟩:∃ V,2+4 * j=V:=⟨_,rfl⟩
 rw [hV]
 by_cases hjn:j < ms.length
 rotate_left
 ·obtain rfl:j=ms.length:=by omega
  have h1:decide ((ms.length:Int) < (ms.length:Int))=false:=AZ
  refine Ac ?_
  refine Cb ?_
  exact Pd (a2 h1 hml)
  repeat' (first | exact Aa (by kernel_rfl) | refine ⟨Aa (by kernel_rfl),?_⟩ | refine And.intro ?_ ?_ | fail)
  all_goals exact Et
 have h1:decide ((j:Int) < (ms.length:Int))=true:=AA (by omega)
 have h0:decide (0≤(j:Int))=true:=AA (by omega)
 have hg:=hgX j hjn
 have ih:=ih (j+1) c (by omega) (by omega)
 have hVs:2+4 * (j+1)=V+4:=An
 rw [hVs] at ih
 have w2:IntKind.i64.wrap ((j:Int)+1)=((j+1:Nat):Int):=B8
 generalize ms.getD j default=m at hg
 have k1:=eF m.s m.c
 have hYn:norefs (Hu m.s 0 0 0 m.c)=true:=by cases h:m.c <;> rfl
 simp only [Sz,Wn,SQ] at hg
 generalize Hu m.s 0 0 0 m.c=Y at k1 hYn hg
 refine Ac ?_
 refine Cb ?_
 refine Dz (a5 h1 hml hg hX4 @Bjk) ?_
 repeat' (first | exact Aa (by kernel_rfl) | refine ⟨Aa (by kernel_rfl),?_⟩ | refine And.intro ?_ ?_ | fail)
 all_goals first | rfl | skip
 refine Bd ?_
 refine Dz (a3 w1 k1 @Bjk) ?_
 repeat' (first | exact Aa (by kernel_rfl) | refine ⟨Aa (by kernel_rfl),?_⟩ | refine And.intro ?_ ?_ | fail)
 all_goals first | rfl | skip
 refine AD ?_
 refine Dz w2 ?_
 repeat' (first | exact Aa (by kernel_rfl) | refine ⟨Aa (by kernel_rfl),?_⟩ | refine And.intro ?_ ?_ | fail)
 all_goals first | rfl | skip
 refine AB ?_ ?_ (Av _) ih
 ·exact Gm
 ·exact DN _ [_,_]
theorem s85 (ms:List Mo) (hms:ms.length≤16) (hq:∀ m ∈ ms,MoQ m) (a:Nat→Int) (a0:Int):Ap Tryz.prog 85 [.ag [.vw false [Fm wE a0],.vw false (Fo a ms)]] (.sc (.bool true)):=by
 obtain ⟨c94,h94⟩:=ZY ms hms (fun _=>0) false 0 1 [⟨true,0,56,2,[.ag [.vw false [Fm wE a0],.vw false (Fo a ms)]],false⟩] 2
 obtain ⟨F94,k94,e94⟩:=Bi4 h94
 have e120:FO 120 (fun _=>.vw false ((Cf ms).map UQ)) [.ag [.vw false [Fm wE a0],.vw false (Fo a ms)]]=some (.vw false ((Cf ms).map UQ)):=Jr (Bpx ms hms hq a a0) rfl
 have e122:VO 122 (fun _=>.ag [.vw false [Fm wE 0],.vw false (ms.map Sz)]) [.ag [.vw false [Fm wE a0],.vw false (Fo a ms)]]=some (.ag [.vw false [Fm wE 0],.vw false (ms.map Sz)]):=Aga (Bjd ms hms a a0) rfl
 have e122b:VO 122 (fun _=>.ag [.vw false [Fm wE 0],.vw false (ms.map Sz)]) [.ag [.vw false [Fm wE 0],.vw false (Fo (fun _=>0) ms)]]=some (.ag [.vw false [Fm wE 0],.vw false (ms.map Sz)]):=Aga (Bjd ms hms (fun _=>0) 0) rfl
 obtain ⟨F,kF,eF⟩:=Hm (Bpz ms hms)
 generalize rjK false (LL (Cf ms) fun _=>0) 0 ms ms.length=r' at e94
 have l1:=ZB r'
 have kV:VOk Tryz.prog 122 (VO 122 (fun _=>.ag [.vw false [Fm wE 0],.vw false (ms.map Sz)])):=Aog _ _
 generalize VO 122 (fun _=>AV.ag [.vw false [Fm wE 0],.vw false (ms.map Sz)])=FV at e122 e122b kV
 have kT:FOk Tryz.prog 120 (FO 120 (fun _=>.vw false ((Cf ms).map UQ))):=O8 _ _
 generalize FO 120 (fun _=>AV.vw false ((Cf ms).map UQ))=FT at e120 kT
 rw [H5] at e94
 simp only [Bjc,Int.natCast_zero] at e94
 rw [H5] at e94
 simp only [E4] at l1
 generalize (Cf ms).map UQ=TT at e94 e120
 generalize ms.map Sz=Z at e122 e122b eF
 generalize Fo a ms=X at e94 e120 e122 ⊢
 generalize Fo (fun _=>0) ms=X0 at e94 e122b
 generalize Fm wE a0=d1 at e94 e120 e122 ⊢
 generalize Fm wE 0=d0 at e94 e122 e122b eF
 refine Ab (Af (lit:=false) (pm:=fun _=>none) (.cons Sf (.cons kF .nil)) (.cons kV .nil) (.cons kT .nil) (.cons k94 .nil)) rfl Tryz.func85 rfl (by decide) (by kernel_rfl) (by kernel_rfl) ?_
 simp only [Tryz.f85,Ae,lx52,lx63,Nat.reduceAdd,Nat.reduceSub,List.replicate]
 refine HM ?s1 ?h1 ?h2
 case h1=>
  simp (maxSteps:=10000000) +contextual -implicitDefEqProofs only [AX,AT,St.put,Nat.reduceAdd,Int.reduceAdd,B9]
  rfl
 refine HM ?s2 ?h3 ?h4
 case h3=>
  refine Dz e120 ?_
  rfl
 refine HU 0 1 (Bq _) (Bq _) (by simp) (by simp) ?_ ?_
 ·exact Aqm
 refine qd5 ?_
 refine Ac ?_
 exact Pd (a5 e94 l1 e122 e122b eF)
 repeat' (first | exact Aa (by kernel_rfl) | refine ⟨Aa (by kernel_rfl),?_⟩ | refine And.intro ?_ ?_ | fail)
 all_goals first | exact .refl _ | rfl | skip
end Go.Proofs.YtdjpkhjaibdogaaGreat
namespace Go.Proofs.YtdjpkhjaibdogaaGreat
open Go Go.SX
def Bq0 (_:List AV):Bool:=true
noncomputable def okE (r:AV) (x:Option AV):Bool:=match x with
 | some y=>NA y r
 | none=>false
theorem SA {r:AV} {x:Option AV} (h:okE r x=true):x=some r:=by
 unfold okE at h
 split at h
 ·rw [Ab6 _ _ h]
 ·cases h
def ndX (f:Nat):Bool:=bt [46,90,127,124] f
def EH (a0:Int) (X:List AV):AV:=.ag [.vw false [Fm wE a0],.vw false X]
def LN (a0:Int) (X:List AV):List Ent:=[⟨85,Bq0,[EH a0 X],.sc (.bool true)⟩]
section
variable (a0:Int) (X:List AV)
theorem Bjl:pL Tryz.prog Cw gY ndX (GU (LN a0 X) []).u 60 46 [EH a0 X,iW 7]=some (iW 0):=by kernel_rfl
theorem Bjm:EX (pO Tryz.prog Cw gY ndX (GU (LN a0 X) []) 60 46 [EH a0 X,iW 7])=(EX (pO Tryz.prog Cw gY ndX (GU (LN a0 X) []) 60 46 [EH a0 X,iW 7])).map (fun q=>(q.1,q.1)):=by kernel_rfl
theorem Bjn:Kc (pO Tryz.prog Cw gY ndX (GU (LN a0 X) []) 60 46 [EH a0 X,iW 7])=[]:=by kernel_rfl
theorem Bjo:pL Tryz.prog Cw gY ndX (GU (LN a0 X) []).u 60 46 [EH a0 X,iW 8]=some (iW 1):=by kernel_rfl
theorem Bjp:EX (pO Tryz.prog Cw gY ndX (GU (LN a0 X) []) 60 46 [EH a0 X,iW 8])=(EX (pO Tryz.prog Cw gY ndX (GU (LN a0 X) []) 60 46 [EH a0 X,iW 8])).map (fun q=>(q.1,q.1)):=by kernel_rfl
theorem Bjq:Kc (pO Tryz.prog Cw gY ndX (GU (LN a0 X) []) 60 46 [EH a0 X,iW 8])=[]:=by kernel_rfl
theorem Bq1:pL Tryz.prog Cw gY ndX (GU (LN a0 X) []).u 60 127 [EH a0 X,.sc (.string wE)]=some (.tu [iW 8,iW 0]):=by kernel_rfl
theorem Bq2:EX (pO Tryz.prog Cw gY ndX (GU (LN a0 X) []) 60 127 [EH a0 X,.sc (.string wE)])=(EX (pO Tryz.prog Cw gY ndX (GU (LN a0 X) []) 60 127 [EH a0 X,.sc (.string wE)])).map (fun q=>(q.1,q.1)):=by kernel_rfl
theorem Bq3:Kc (pO Tryz.prog Cw gY ndX (GU (LN a0 X) []) 60 127 [EH a0 X,.sc (.string wE)])=[]:=by kernel_rfl
end
theorem Bjr (a0:Int) (X:List AV) (h:Ap Tryz.prog 85 [EH a0 X] (.sc (.bool true))):Ap Tryz.prog 46 [EH a0 X,iW 7] (iW 0):=pY (lp:=LN a0 X) (lv:=[]) (Nn h Cn) Cn (Bjl a0 X) (Bjm a0 X) (Bjn a0 X) Fy
theorem Bjs (a0:Int) (X:List AV) (h:Ap Tryz.prog 85 [EH a0 X] (.sc (.bool true))):Ap Tryz.prog 46 [EH a0 X,iW 8] (iW 1):=pY (lp:=LN a0 X) (lv:=[]) (Nn h Cn) Cn (Bjo a0 X) (Bjp a0 X) (Bjq a0 X) Fy
theorem Bq4 (a0:Int) (X:List AV) (h:Ap Tryz.prog 85 [EH a0 X] (.sc (.bool true))):Ap Tryz.prog 127 [EH a0 X,.sc (.string wE)] (.tu [iW 8,iW 0]):=pY (lp:=LN a0 X) (lv:=[]) (Nn h Cn) Cn (Bq1 a0 X) (Bq2 a0 X) (Bq3 a0 X) Fy
end Go.Proofs.YtdjpkhjaibdogaaGreat
namespace Go.Proofs.YtdjpkhjaibdogaaGreat
open Go Go.SX
attribute [local congr] ite_congr
def nsB (n:Nat):Bool:=!(Nat.beq n 35 || Nat.beq n 9 || Nat.beq n 10 || Nat.beq n 13 || Nat.beq n 32)
theorem Aoi {n:Nat} (h:nsB n=true):((n:Int) == 35)=false∧((n:Int) == 9)=false∧((n:Int) == 10)=false∧((n:Int) == 13)=false∧((n:Int) == 32)=false:=by
 simp only [nsB,Jt,Ju,Hf,Cy] at h
 obtain ⟨⟨⟨⟨h1,h2⟩,h3⟩,h4⟩,h5⟩:=h
 refine ⟨?_,?_,?_,?_,?_⟩ <;> (rw [lx108]; omega)
theorem Axj (b:ByteArray) (i:Nat) (h:i < b.size) (hn:nsB (Gf b i)=true):Ap Tryz.prog 131 [.sc (.string b),.sc (.int .i64 (i:Int))] (.sc (.int .i64 (i:Int))):=by
 have h1:decide ((i:Int) < (b.size:Int))=true:=AA (by omega)
 have h2:decide (i < b.size)=true:=AA h
 obtain ⟨q1,q2,q3,q4,q5⟩:=Aoi hn
 refine Ab (Af (lit:=false) (pm:=fun _=>none) .nil .nil .nil .nil) rfl Tryz.func131 rfl (by decide) (by kernel_rfl) (by kernel_rfl) ?_
 refine Be7 ?_
 exact Pd (a9 h1 h2 q1 q2 q3 q4 q5 @BJ @Dp)
 repeat' (first | exact Aa (by kernel_rfl) | refine ⟨Aa (by kernel_rfl),?_⟩ | refine And.intro ?_ ?_ | fail)
 all_goals exact Et
theorem Bjt (b:ByteArray) (i:Nat) (h:i < b.size) (hi:i < 1000000) (hn:Gf b i=32) (hx:i+1=b.size∨i+1 < b.size∧nsB (Gf b (i+1))=true):Ap Tryz.prog 131 [.sc (.string b),.sc (.int .i64 (i:Int))] (.sc (.int .i64 ((i+1:Nat):Int))):=by
 have h1:decide ((i:Int) < (b.size:Int))=true:=AA (by omega)
 have h2:decide (i < b.size)=true:=AA h
 have q0:((Gf b i:Nat):Int)=32:=by rw [hn]; rfl
 have w1:IntKind.i64.wrap ((i:Int)+1)=((i+1:Nat):Int):=B8
 refine Ab (Af (lit:=false) (pm:=fun _=>none) .nil .nil .nil .nil) rfl Tryz.func131 rfl (by decide) (by kernel_rfl) (by kernel_rfl) ?_
 refine Be7 ?_
 simp (maxSteps:=10000000) +contextual -implicitDefEqProofs only [AX,AT,Ao,St.put,↓reduceIte,Nat.reduceBEq,CS,B9,Int.reduceBEq,h1,h2,BJ,Dp,q0,w1]
 repeat' (first | exact Aa (by kernel_rfl) | refine ⟨Aa (by kernel_rfl),?_⟩ | refine And.intro ?_ ?_ | fail)
 all_goals first | rfl | skip
 refine AD ?_
 rcases hx with hx | ⟨hx,hy⟩
 ·have h3:decide (((i+1:Nat):Int) < (b.size:Int))=false:=Ce (by omega)
  simp (maxSteps:=10000000) +contextual -implicitDefEqProofs only [AX,AT,St.put,↓reduceIte,CS,B9,h3,BJ]
  repeat' (first | exact Aa (by kernel_rfl) | refine ⟨Aa (by kernel_rfl),?_⟩ | refine And.intro ?_ ?_ | fail)
  all_goals exact Et
 ·have h3:decide (((i+1:Nat):Int) < (b.size:Int))=true:=AA (by omega)
  have h4:decide (i+1 < b.size)=true:=AA hx
  obtain ⟨q1,q2,q3,q4,q5⟩:=Aoi hy
  exact Pd (a9 h3 h4 q1 q2 q3 q4 q5 @BJ @Dp)
  repeat' (first | exact Aa (by kernel_rfl) | refine ⟨Aa (by kernel_rfl),?_⟩ | refine And.intro ?_ ?_ | fail)
  all_goals exact Et
end Go.Proofs.YtdjpkhjaibdogaaGreat
namespace Go.Proofs.YtdjpkhjaibdogaaGreat
open Go Go.SX
def LO (n:Nat):Bool:=(Nat.ble 97 n && Nat.ble n 122) || (Nat.ble 65 n && Nat.ble n 90)
def digB (n:Nat):Bool:=Nat.ble 48 n && Nat.ble n 57
theorem Bb0:Pm 256 (fun n=>okE (.sc (.bool (LO n))) (pK Tryz.prog Wb (mkG [] []) 60 171 [.sc (.int .u8 (.ofNat n))]))=true:=by kernel_rfl
theorem Bb1:Pm 256 (fun n=>okE (.sc (.bool (digB n))) (pK Tryz.prog Wb (mkG [] []) 60 173 [.sc (.int .u8 (.ofNat n))]))=true:=by kernel_rfl
theorem Bq5 (n:Nat) (h:n < 256):Ap Tryz.prog 171 [.sc (.int .u8 (n:Int))] (.sc (.bool (LO n))):=Fk rfl HL (EY Ak Ak Ak) (SA (EZ Bb0 n h))
theorem Bq6 (n:Nat) (h:n < 256):Ap Tryz.prog 173 [.sc (.int .u8 (n:Int))] (.sc (.bool (digB n))):=Fk rfl HL (EY Ak Ak Ak) (SA (EZ Bb1 n h))
noncomputable def Atc (b:ByteArray) (u v:AV):Option AV:=match Bp u,Bp v with
 | some l,some h=>Am3 Tryz.prog 9 (some (.string b)) (some (some l)) (some (some h))
 | _,_=>none
theorem Wo (T:List AV) (H:List Blk) (lo hi:Operand) (b:ByteArray) (ag sz by' z fl):slD Tryz.prog 9 T H (some lo) (some hi) (.sc (.string b)) (some ⟨ag,sz,by',z,none,none,fl⟩)=Atc b (ev T lo) (ev T hi):=by
 show Am3 Tryz.prog 9 (Bp (.sc (.string b))) (D8 T (some lo)) (D8 T (some hi))=_
 simp only [D8,Atc,Bp]
 cases Bp (ev T lo) <;> cases Bp (ev T hi) <;> rfl
theorem Agc {b:ByteArray} {i k:Nat} (h1:i≤k) (h2:k≤b.size):Atc b (.sc (.int .i64 (i:Int))) (.sc (.int .i64 (k:Int)))=some (.sc (.string (b.extract i k))):=by
 have bnd:∀ (c n:Nat) (code:BoundsCode),c≤n→rd Tryz.prog (Instr.sliceBound (.int .i64 (c:Int)) n code) default=some c:=by
  intro c n code hcn
  exact (Ma (P:=Tryz.prog) (w:=default) (n:=Int.ofNat c) (hi:=n) (hi':=n) (r:=c) (by
   unfold Oz
   have h0:(0:Int)≤Int.ofNat c:=ND c
   have h1:Int.ofNat c≤(n:Int):=Int.ofNat_le.2 hcn
   rw [if_pos ⟨h0,h1⟩]; rfl) (Av n) .i64 code).1
 have key:Bh Tryz.prog (Instr.sliceAt 9 (.string b) (some (.int .i64 (i:Int))) (some (.int .i64 (k:Int))) none)=some (.string (b.extract i k)):=by
  unfold Bh Instr.sliceAt
  simp only [Ah,Ar,un9,lx17]
  unfold Instr.slice
  simp only [Ah,Ar,un9,lx17]
  have hb2:rd Tryz.prog (Instr.sliceBounds false b.size b.size (some (.int .i64 (i:Int))) (some (.int .i64 (k:Int))) none) default=some (i,k,b.size):=by
   unfold Instr.sliceBounds
   simp [Ah,Al,EL,bnd k _ .sliceAlen h2,bnd i _ .sliceB h1]
  simp only [lx3,DD,lx9,Ah,hb2,lx17,Al]
 simp only [Atc,Bp,Am3,key]
 rfl
theorem SB {b:ByteArray} {i k:Nat}:(b.extract i k).data.toList=(b.data.toList.drop i).take (k - i):=AZ
theorem Ac1 {a b:ByteArray} (h:a.data.toList=b.data.toList):a=b:=by
 obtain ⟨⟨x⟩⟩:=a
 obtain ⟨⟨y⟩⟩:=b
 simp only at h
 rw [h]
def atB (b:ByteArray) (i:Nat) (w:List UInt8):Prop:=(b.data.toList.drop i).take w.length=w
theorem Aoj {b:ByteArray} {i:Nat} {w:List UInt8} (h:atB b i w) (hw:w≠[]):i+w.length≤b.size:=by
 have:=congrArg List.length h
 rw [lx68,lx92] at this
 have hl:0 < w.length:=List.length_pos_iff.2 hw
 have hs:b.size=b.data.toList.length:=rfl
 omega
theorem Jc {b:ByteArray} {i:Nat} {w:List UInt8} (h:atB b i w) {j:Nat} (hj:j < w.length):Gf b (i+j)=(w.getD j 0).toNat:=by
 have:w.getD j 0=((b.data.toList.drop i).take w.length).getD j 0:=by rw [h]
 rw [this,Gf,lx81,lx81,lx19,if_pos hj,lx20]
theorem Ate {b:ByteArray} {i:Nat} {w:List UInt8} (h:atB b i w):b.extract i (i+w.length)=⟨⟨w⟩⟩:=by
 refine Ac1 ?_
 rw [SB,KW]
 exact h
theorem Qq {b:ByteArray} {i:Nat} {u v:List UInt8} (h:atB b i (u++v)):atB b i u∧atB b (i+u.length) v:=by
 unfold atB at h ⊢
 constructor
 ·have:=congrArg (List.take u.length) h
  rw [List.take_take,lx7,L2 (by omega),List.take_left] at this
  exact this
 ·have:=congrArg (List.drop u.length) h
  rw [List.drop_left,List.drop_take,lx80,lx7,KW] at this
  exact this
structure Pc where
 t:Tkn
 w:List UInt8
 sp:Bool
deriving Inhabited
def pcB (p:Pc):List UInt8:=p.w++bif p.sp then [32] else []
def Fz (l:List Pc):List UInt8:=l.flatMap pcB
def DV (l:List Pc) (j:Nat):Nat:=(Fz (l.take j)).length
theorem Iz {α:Type} [Inhabited α] {l:List α} {j:Nat} (h:j < l.length):l.take (j+1)=l.take j++[l.getD j default]:=by
 exact Aqp
theorem KI {l:List Pc} {j:Nat} (h:j < l.length):DV l (j+1)=DV l j+(l.getD j default).w.length+(bif (l.getD j default).sp then 1 else 0):=by
 rw [DV,Iz h,Fz,lx114,lx7,List.flatMap_singleton,pcB,lx7,DV,Fz,F0]
 cases (l.getD j default).sp <;> rfl
theorem Z3 (l:List Pc):DV l l.length=(Fz l).length:=by rw [DV,lx73]
theorem Aiq {l:List Pc} {j:Nat} (h:j < l.length):Fz l=Fz (l.take j)++(pcB (l.getD j default)++Fz (l.drop (j+1))):=by
 have hg:l.getD j default=l[j]:=Ajx
 rw [hg]
 conv=>lhs; rw [←lx67 j l,lx76 h,Fz,lx114,List.flatMap_cons]
 rfl
theorem Wp {l:List Pc} {j:Nat} (h:j < l.length):atB ⟨⟨Fz l⟩⟩ (DV l j) (pcB (l.getD j default)):=by
 show ((Fz l).drop (DV l j)).take _=_
 rw [Aiq h,DV,List.drop_left,List.take_left]
inductive PcO (p:Pc):Prop
 | word (b:Bool) (ht:p.t=⟨if b=true then 2 else 1,⟨⟨p.w⟩⟩,0⟩) (h0:LO (p.w.getD 0 0).toNat=true) (ha:∀ c ∈ p.w,(LO c.toNat || digB c.toNat)=true) (hl:p.w.length≤12)
   (hz:Ap Tryz.prog 209 [.sc (.string ⟨⟨p.w⟩⟩)] (.sc (.bool b)))
 | num (v:Nat) (hv:v < 16) (ht:p.t=⟨3,⟨#[]⟩,(v:Int)⟩) (hw:p.w=if v < 10 then [UInt8.ofNat (48+v)] else [49,UInt8.ofNat (38+v)])
 | sign (ht:p.t=⟨5,⟨⟨p.w⟩⟩,0⟩) (hw:p.w=[59]∨p.w=[123]∨p.w=[125])
structure PcsO (l:List Pc):Prop where
 one:∀ p ∈ l,PcO p
 nxt:∀ j,j < l.length→(l.getD j default).sp=false→j+1 < l.length∧(l.getD (j+1) default).w=[59]
theorem PcO.len {p:Pc} (h:PcO p):0 < p.w.length∧p.w.length≤12:=by
 cases h with
 | word b ht h0 ha hl hz=>
  refine ⟨List.length_pos_iff.2 fun h=>?_,hl⟩
  rw [h] at h0; cases h0
 | num v hv ht hw=>rw [hw]; split <;> simp
 | sign ht hw=>rcases hw with h | h | h <;> rw [h] <;> simp
theorem PcO.first {p:Pc} (h:PcO p):nsB (p.w.getD 0 0).toNat=true:=by
 cases h with
 | word b ht h0 ha hl hz=>
  generalize (p.w.getD 0 0).toNat=n at h0
  simp only [LO,ID,AH,Nat.ble_eq] at h0
  simp only [nsB,Jt,Ju,Hf,Cy]
  omega
 | num v hv ht hw=>
  rw [hw]
  split
  ·rename_i hv
   have:(UInt8.ofNat (48+v)).toNat=48+v:=by rw [UInt8.toNat_ofNat']; omega
   rw [List.getD_cons_zero,this]
   simp only [nsB,Jt,Ju,Hf,Cy]
   omega
  ·rfl
 | sign ht hw=>rcases hw with h | h | h <;> rw [h] <;> rfl
def Og (v:Nat):List UInt8:=if v < 10 then [UInt8.ofNat (48+v)] else [49,UInt8.ofNat (38+v)]
def Pn (m:Mo):List Pc:=
 ⟨⟨2,Dk,0⟩,Dk.data.toList,true⟩::⟨⟨1,m.nm,0⟩,m.nm.data.toList,true⟩::⟨⟨3,⟨#[]⟩,m.p⟩,Og m.p.toNat,true⟩::⟨⟨5,Oe,0⟩,[123],true⟩::⟨⟨2,Tg,0⟩,Tg.data.toList,true⟩::⟨⟨2,Bv,0⟩,Bv.data.toList,true⟩::
 ⟨⟨1,wE,0⟩,[101],true⟩::⟨⟨5,Oe,0⟩,[123],true⟩::⟨⟨2,Dg,0⟩,Dg.data.toList,true⟩::⟨⟨3,⟨#[]⟩,m.s⟩,Og m.s.toNat,false⟩::⟨⟨5,BX,0⟩,[59],true⟩::
 bif m.c then [⟨⟨2,Gk,0⟩,Gk.data.toList,false⟩,⟨⟨5,BX,0⟩,[59],true⟩,⟨⟨5,Gw,0⟩,[125],true⟩,⟨⟨5,Gw,0⟩,[125],true⟩] else [⟨⟨5,Gw,0⟩,[125],true⟩,⟨⟨5,Gw,0⟩,[125],true⟩]
def Hv (ms:List Mo):List Pc:=⟨⟨2,Bv,0⟩,Bv.data.toList,true⟩::⟨⟨1,wE,0⟩,[101],false⟩::⟨⟨5,BX,0⟩,[59],true⟩::ms.flatMap Pn
theorem Bb2 (m:Mo):(Pn m).map (·.t)=Dw m:=by cases h:m.c <;> simp [Pn,Dw,h]
theorem Aok (ms:List Mo):(Hv ms).map (·.t)=Cf ms:=by
 have e:(fun a=>List.map (fun x=>x.t) (Pn a))=Dw:=funext Bb2
 rw [Hv,Cf,lx31,lx31,lx31,List.map_flatMap,e]
end Go.Proofs.YtdjpkhjaibdogaaGreat
namespace Go.Proofs.YtdjpkhjaibdogaaGreat
open Go Go.SX
attribute [local congr] ite_congr
theorem Fp (b:ByteArray) (i:Nat):Gf b i < 256:=UInt8.toNat_lt _
noncomputable def Bju:=EF (fun n:Nat=>n < 256) (fun n=>[.sc (.int .u8 (n:Int))]) (fun n=>.sc (.bool (LO n)))
theorem Atf (n:Nat) (h:n < 256):Bju [.sc (.int .u8 (n:Int))]=some (.sc (.bool (LO n))):=AK (enc:=fun n:Nat=>[.sc (.int .u8 (n:Int))]) n h fun y h=>by
 exact Ayh
theorem Agd:DC Tryz.prog 171 Bju:=AN fun n h=>Bq5 n h
noncomputable def Bjv:=EF (fun n:Nat=>n < 256) (fun n=>[.sc (.int .u8 (n:Int))]) (fun n=>.sc (.bool (digB n)))
theorem Z4 (n:Nat) (h:n < 256):Bjv [.sc (.int .u8 (n:Int))]=some (.sc (.bool (digB n))):=AK (enc:=fun n:Nat=>[.sc (.int .u8 (n:Int))]) n h fun y h=>by
 exact Ayh
theorem Z5:DC Tryz.prog 173 Bjv:=AN fun n h=>Bq6 n h
def wdB (n:Nat):Bool:=LO n || digB n
theorem Bq7 (b:ByteArray) (i n:Nat) (w:ByteArray) (q:Bool) (hw:b.extract i (i+n)=w) (h0:0 < n) (h12:n≤12) (DO:i+n < b.size) (hsz:b.size≤1000000) (ha:∀ j,j < n→wdB (Gf b (i+j))=true) (he:wdB (Gf b (i+n))=false∧Gf b (i+n)≠95)
  (hz:Ap Tryz.prog 209 [.sc (.string w)] (.sc (.bool q))):Ap Tryz.prog 172 [.sc (.string b),.sc (.int .i64 (i:Int))] (.tu [Ey ⟨if q=true then 2 else 1,w,0,(i:Int)⟩,.sc (.int .i64 ((i+n:Nat):Int)),.sc (.int .i64 0)]):=by
 have x1:=fun k=>Atf (Gf b k) (Fp b k)
 have x2:=fun k=>Z4 (Gf b k) (Fp b k)
 obtain ⟨F,kF,eF⟩:=Hm hz
 have hs:=Agc (b:=b) (i:=i) (k:=i+n) (by omega) (by omega)
 rw [hw] at hs
 refine Ab (Af (lit:=false) (pm:=fun _=>none) (.cons Agd (.cons Z5 (.cons kF .nil))) .nil .nil .nil) rfl Tryz.func172 rfl (by decide) (by kernel_rfl) (by kernel_rfl) ?_
 simp only [Tryz.f172,Ae,lx52,lx63,Nat.reduceAdd,Nat.reduceSub,List.replicate]
 refine Ac ?_
 simp (maxSteps:=10000000) +contextual -implicitDefEqProofs only [AX,AT,St.put,Nat.reduceAdd,Se,Int.reduceAdd,B9]
 refine Az (σ:=Nat) (fun k cnt=>⟨CW 0 52 [(0,.sc (.string b)),(1,.sc (.int .i64 (i:Int))),(4,.pt 0 0 0 0),(7,.sc (.int .i64 ((i+k:Nat):Int)))],[⟨true,0,202,4,[.ag [.sc (.int .i64 0),.sc (.string ⟨#[]⟩),.sc (.int .i64 0),.sc (.int .i64 0)]],false⟩],cnt⟩)
  (fun k=>k≤n) (fun k=>n - k) 0 (by omega) ?_ ?_ rfl ?_
 ·simp (maxSteps:=10000000) only [AX,AT,↓reduceIte,reduceCtorEq,Nat.reduceAdd,Nat.reduceEqDiff,CW,Jw,Gl]
 ·exact Aq _
 rintro k cnt hk ih
 have h1:decide (((i+k:Nat):Int) < (b.size:Int))=true:=AA (by omega)
 have h2:decide (i+k < b.size)=true:=AA (by omega)
 by_cases hkn:k < n
 rotate_left
 ·obtain rfl:k=n:=by omega
  obtain ⟨he1,he2⟩:=he
  simp only [wdB,Ju] at he1
  have h3:((Gf b (i+k):Int) == 95)=false:=JF
  have w1:IntKind.i64.wrap (((i+k:Nat):Int) - (i:Int))=(k:Int):=B8
  have h4:decide ((12:Int) < (k:Int))=false:=Ce (by omega)
  refine Ac ?_
  refine Cb ?_
  cases q
  ·exact Bcg
  ·exact Bcg
 have hak:=ha k hkn
 have w1:IntKind.i64.wrap (((i+k:Nat):Int)+1)=((i+(k+1):Nat):Int):=B8
 have ih:=ih (k+1) cnt (by omega) (by omega)
 refine Ac ?_
 refine Cb ?_
 cases hL:LO (Gf b (i+k)) with
 | true=>
  simp (maxSteps:=10000000) +contextual -implicitDefEqProofs only [AX,AT,Ao,St.put,Am,Aj,Ds,pl,↓reduceIte,Nat.reduceEqDiff,CS,B9,h1,h2,w1,BJ,Dp,x1,hL]
  all_goals exact Acn
 | false=>
  have hD:digB (Gf b (i+k))=true:=by rw [wdB,hL] at hak; exact hak
  simp (maxSteps:=10000000) +contextual -implicitDefEqProofs only [AX,AT,Ao,St.put,Am,Aj,Ds,pl,↓reduceIte,Nat.reduceEqDiff,CS,B9,h1,h2,w1,BJ,Dp,x1,x2,hL,hD]
  all_goals exact Acn
theorem Bjw (b:ByteArray) (i d:Nat) (hd:d≤9) (DO:i+1 < b.size) (hsz:b.size≤1000000) (h1:Gf b i=48+d) (he:digB (Gf b (i+1))=false):
  Ap Tryz.prog 174 [.sc (.string b),.sc (.int .i64 (i:Int))] (.tu [Ey ⟨3,⟨#[]⟩,(d:Int),(i:Int)⟩,.sc (.int .i64 ((i+1:Nat):Int)),.sc (.int .i64 0)]):=by
 have x1:=Z4 (Gf b i) (Fp b i)
 have x2:=Z4 (Gf b (i+1)) (Fp b (i+1))
 rw [he] at x2
 have hdg:digB (48+d)=true:=Ajz
 rw [h1,hdg] at x1
 have hi:=Dp b .i64 i (AA (by omega))
 have hi2:=Dp b .i64 (i+1) (AA (by omega))
 rw [h1] at hi
 generalize Gf b (i+1)=e at x2 hi2
 have c1:decide ((i:Int) < (b.size:Int))=true:=AA (by omega)
 have c2:decide (((i+1:Nat):Int) < (b.size:Int))=true:=AA (by omega)
 have w1:IntKind.i64.wrap ((i:Int)+1)=((i+1:Nat):Int):=B8
 have w2:IntKind.u8.wrap (((48+d:Nat):Int) - 48)=(d:Int):=by rw [I5 (by omega)]; omega
 have w3:IntKind.i64.wrap (d:Int)=(d:Int):=Ew (by omega) (by omega)
 have w4:IntKind.i64.wrap 0=0:=rfl
 have w5:IntKind.i64.wrap (((i+1:Nat):Int) - (i:Int))=1:=B8
 have c3:decide ((2147483647:Int) < (d:Int))=false:=Ce (by omega)
 refine Ab (Af (lit:=false) (pm:=fun _=>none) (.cons Z5 .nil) .nil .nil .nil) rfl Tryz.func174 rfl (by decide) (by kernel_rfl) (by kernel_rfl) ?_
 refine Bdx ?_
 simp (maxSteps:=10000000) +contextual -implicitDefEqProofs only [AX,AT,Ao,St.put,Am,Aj,Ds,pl,↓reduceIte,Nat.reduceAdd,Nat.reduceLeDiff,Int.reduceLT,Nat.reduceLT,ite_self,CS,Se,Int.reduceAdd,B9,c2,BJ,hi,hi2,x2,w5,Ey]
 repeat' (first | exact Aa (by kernel_rfl) | refine ⟨Aa (by kernel_rfl),?_⟩ | refine And.intro ?_ ?_ | fail)
 all_goals exact Et
theorem Bjx (b:ByteArray) (i d f:Nat) (hd:1≤d∧d≤9) (hf:f≤9) (DO:i+2 < b.size) (hsz:b.size≤1000000) (h1:Gf b i=48+d) (h2:Gf b (i+1)=48+f) (he:digB (Gf b (i+2))=false):
  Ap Tryz.prog 174 [.sc (.string b),.sc (.int .i64 (i:Int))] (.tu [Ey ⟨3,⟨#[]⟩,((10 * d+f:Nat):Int),(i:Int)⟩,.sc (.int .i64 ((i+2:Nat):Int)),.sc (.int .i64 0)]):=by
 have x1:=Z4 (Gf b i) (Fp b i)
 have x2:=Z4 (Gf b (i+1)) (Fp b (i+1))
 have x3:=Z4 (Gf b (i+2)) (Fp b (i+2))
 rw [he] at x3
 have hdg:digB (48+d)=true:=Ajz
 have hfg:digB (48+f)=true:=Ajz
 rw [h1,hdg] at x1
 rw [h2,hfg] at x2
 have hi:=Dp b .i64 i (AA (by omega))
 have hi2:=Dp b .i64 (i+1) (AA (by omega))
 have hi3:=Dp b .i64 (i+2) (AA (by omega))
 rw [h1] at hi
 rw [h2] at hi2
 generalize Gf b (i+2)=e at x3 hi3
 have c1:decide ((i:Int) < (b.size:Int))=true:=AA (by omega)
 have c2:decide (((i+1:Nat):Int) < (b.size:Int))=true:=AA (by omega)
 have c4:decide (((i+2:Nat):Int) < (b.size:Int))=true:=AA (by omega)
 have w1:IntKind.i64.wrap ((i:Int)+1)=((i+1:Nat):Int):=B8
 have w1':IntKind.i64.wrap (((i+1:Nat):Int)+1)=((i+2:Nat):Int):=B8
 have w2:IntKind.u8.wrap (((48+d:Nat):Int) - 48)=(d:Int):=by rw [I5 (by omega)]; omega
 have w2':IntKind.u8.wrap (((48+f:Nat):Int) - 48)=(f:Int):=by rw [I5 (by omega)]; omega
 have w3:IntKind.i64.wrap (d:Int)=(d:Int):=Ew (by omega) (by omega)
 have w3':IntKind.i64.wrap (f:Int)=(f:Int):=Ew (by omega) (by omega)
 have w4:IntKind.i64.wrap 0=0:=rfl
 have w5:IntKind.i64.wrap (((i+2:Nat):Int) - (i:Int))=2:=B8
 have w6:IntKind.i64.wrap (10 * (d:Int))=((10 * d:Nat):Int):=B8
 have w7:IntKind.i64.wrap (((10 * d:Nat):Int)+(f:Int))=((10 * d+f:Nat):Int):=B8
 have c3:decide ((2147483647:Int) < (d:Int))=false:=Ce (by omega)
 have c3':decide ((2147483647:Int) < ((10 * d+f:Nat):Int))=false:=Ce (by omega)
 have c5:(((48+d:Nat):Int) == 48)=false:=JF
 refine Ab (Af (lit:=false) (pm:=fun _=>none) (.cons Z5 .nil) .nil .nil .nil) rfl Tryz.func174 rfl (by decide) (by kernel_rfl) (by kernel_rfl) ?_
 refine Bdx ?_
 refine Dz (HO c2 hi2 x2 w2' w3' w6 w7 c3' w1' @BJ) ?_
 refine AD ?_
 simp (maxSteps:=10000000) +contextual -implicitDefEqProofs only [AX,AT,Ao,St.put,Am,Aj,Ds,pl,↓reduceIte,Nat.reduceAdd,Nat.reduceLeDiff,Int.reduceLT,Nat.reduceLT,CS,Se,Int.reduceAdd,B9,c4,c5,BJ,hi,hi3,x3,Ey]
 repeat' (first | exact Aa (by kernel_rfl) | refine ⟨Aa (by kernel_rfl),?_⟩ | refine And.intro ?_ ?_ | fail)
 all_goals exact Et
theorem Bjy (b:ByteArray) (i:Nat) (t:Tok) (k:Int) (hi:i < b.size) (hl:LO (Gf b i)=true) (h:Ap Tryz.prog 172 [.sc (.string b),.sc (.int .i64 (i:Int))] (.tu [Ey t,.sc (.int .i64 k),.sc (.int .i64 0)])):
  Ap Tryz.prog 132 [.sc (.string b),.sc (.int .i64 (i:Int))] (.tu [Ey t,.sc (.int .i64 k),.sc (.int .i64 0)]):=by
 obtain ⟨F,kF,eF⟩:=Hm h
 have x1:=Atf (Gf b i) (Fp b i)
 rw [hl] at x1
 have hi':=Dp b .i64 i (AA (by omega))
 simp only [Ey] at eF ⊢
 refine Ab (Af (lit:=false) (pm:=fun _=>none) (.cons Agd (.cons kF .nil)) .nil .nil .nil) rfl Tryz.func132 rfl (by decide) (by kernel_rfl) (by kernel_rfl) ?_
 refine Ayv ?_
 exact Pd (a3 hi' x1 eF)
 repeat' (first | exact Aa (by kernel_rfl) | refine ⟨Aa (by kernel_rfl),?_⟩ | refine And.intro ?_ ?_ | fail)
 all_goals exact Et
theorem Axk (b:ByteArray) (i:Nat) (t:Tok) (k:Int) (hi:i < b.size) (hl:LO (Gf b i)=false) (hd:digB (Gf b i)=true) (h:Ap Tryz.prog 174 [.sc (.string b),.sc (.int .i64 (i:Int))] (.tu [Ey t,.sc (.int .i64 k),.sc (.int .i64 0)])):
  Ap Tryz.prog 132 [.sc (.string b),.sc (.int .i64 (i:Int))] (.tu [Ey t,.sc (.int .i64 k),.sc (.int .i64 0)]):=by
 obtain ⟨F,kF,eF⟩:=Hm h
 have x1:=Atf (Gf b i) (Fp b i)
 have x2:=Z4 (Gf b i) (Fp b i)
 rw [hl] at x1
 rw [hd] at x2
 have hi':=Dp b .i64 i (AA (by omega))
 simp only [Ey] at eF ⊢
 refine Ab (Af (lit:=false) (pm:=fun _=>none) (.cons Agd (.cons Z5 (.cons kF .nil))) .nil .nil .nil) rfl Tryz.func132 rfl (by decide) (by kernel_rfl) (by kernel_rfl) ?_
 refine Ayv ?_
 exact Pd (a4 hi' x1 x2 eF)
 repeat' (first | exact Aa (by kernel_rfl) | refine ⟨Aa (by kernel_rfl),?_⟩ | refine And.intro ?_ ?_ | fail)
 all_goals exact Et
def U1:List ByteArray:=[⟨#[60,61]⟩,⟨#[62,61]⟩,⟨#[61,61]⟩,⟨#[33,61]⟩,⟨#[38,38]⟩,⟨#[124,124]⟩,⟨#[123]⟩,⟨#[125]⟩,⟨#[40]⟩,⟨#[41]⟩,⟨#[59]⟩,⟨#[44]⟩,⟨#[61]⟩,⟨#[43]⟩,⟨#[45]⟩,⟨#[42]⟩,⟨#[47]⟩,⟨#[37]⟩,⟨#[33]⟩,⟨#[60]⟩,⟨#[62]⟩]
theorem Bq8:C4 Tryz.prog 176 [] (.vw false (U1.map zA)):=N3 rfl Agb (EY Ak Ak Ak) (n:=60) (G:=mkG [] []) (by kernel_rfl)
theorem Atg:∀ k,k < 21→1≤(U1.getD k default).size∧(U1.getD k default).size≤2:=by decide
theorem Aol (b:ByteArray) (i c n:Nat) (hi:i+2≤b.size) (hsz:b.size≤1000000) (hc:Gf b i=c) (hl:LO c=false) (hd:digB c=false) (hq:c≠34) (hn:n < 21) (hn1:U1.getD n default=⟨#[UInt8.ofNat c]⟩) (hno:∀ k,k < n→((U1.getD k default).data.toList.getD 0 0).toNat≠c):
  Ap Tryz.prog 132 [.sc (.string b),.sc (.int .i64 (i:Int))] (.tu [Ey ⟨5,⟨#[UInt8.ofNat c]⟩,0,(i:Int)⟩,.sc (.int .i64 ((i+1:Nat):Int)),.sc (.int .i64 0)]):=by
 have x1:=Atf (Gf b i) (Fp b i)
 have x2:=Z4 (Gf b i) (Fp b i)
 have hc8:=Fp b i
 rw [hc] at x1 x2 hc8
 rw [hl] at x1
 rw [hd] at x2
 have hi':=Dp b .i64 i (AA (by omega))
 rw [hc] at hi'
 have hq':((c:Int) == 34)=false:=JF
 have x3:FO 176 (fun _=>.vw false (U1.map zA)) []=some (.vw false (U1.map zA)):=Jr Bq8 rfl
 have hfst:∀ m,1≤m→(b.extract i (i+m)).data.toList.getD 0 0=UInt8.ofNat c:=fun m hm=>by
  rw [SB,KW,lx81,lx19,if_pos (by omega),lx20]
  have:Gf b i=(b.data.toList.getD i 0).toNat:=rfl
  rw [this] at hc
  rw [Gl,←lx81,←hc,UInt8.ofNat_toNat]
 have hgl:U1.length=21:=rfl
 have hml:(U1.map zA).length=21:=rfl
 have hg:∀ k,k < 21→(U1.map zA)[k]?=some (zA (U1.getD k default)):=fun k hk=>by
  rw [lx23,lx81,lx50 (by omega)]; rfl
 have hsl:=Atg
 have h1:=Sj U1
 have heq:∀ k,k≤n→E8 (b.extract i (i+(U1.getD k default).size)).data.toList (U1.getD k default).data.toList=Nat.beq k n:=fun k hk=>by
  rw [IY]
  by_cases hkn:k=n
  ·subst hkn
   rw [hn1]
   have e:(b.extract i (i+1)).data.toList=[UInt8.ofNat c]:=by
    have h2:=hfst 1 (Av _)
    have h3:(b.extract i (i+1)).data.toList.length=1:=by
     rw [SB,lx68,lx92]
     have:b.data.toList.length=b.size:=rfl
     omega
    obtain ⟨y,hy⟩:=List.length_eq_one_iff.1 h3
    rw [hy] at h2 ⊢
    rw [←h2]; rfl
   show ((b.extract i (i+1)).data.toList == [UInt8.ofNat c])=_
   rw [e,lx74,Hf]
   simp
  ·have h2:(b.extract i (i+(U1.getD k default).size)).data.toList≠(U1.getD k default).data.toList:=fun he=>by
    have h3:=hfst _ (hsl k (by omega)).1
    rw [he] at h3
    have:=hno k (by omega)
    rw [h3,UInt8.toNat_ofNat'] at this
    omega
   rw [lx108.2 h2,Hf]
   exact (Ce hkn).symm
 simp only [Ey]
 have k3:FOk Tryz.prog 176 (FO 176 (fun _=>.vw false (U1.map zA))):=O8 _ _
 generalize FO 176 (fun _=>AV.vw false (U1.map zA))=F3 at x3 k3
 generalize U1.map zA=L at x3 hml hg h1
 refine Ab (Af (lit:=false) (pm:=fun _=>none) (.cons Agd (.cons Z5 .nil)) .nil (.cons k3 .nil) .nil) rfl Tryz.func132 rfl (by decide) (by kernel_rfl) (by kernel_rfl) ?_
 refine Ayv ?_
 refine Dz (a5 hi' x1 x2 x3 hq') ?_
 refine Az (σ:=Nat) (fun k cnt=>⟨CW 0 83 [(0,.sc (.string b)),(1,.sc (.int .i64 (i:Int))),(4,.pt 0 0 0 0),(8,.vw false L),(9,.sc (.int .i64 (k:Int)))],[⟨true,0,202,4,[.ag [.sc (.int .i64 0),.sc (.string ⟨#[]⟩),.sc (.int .i64 0),.sc (.int .i64 0)]],false⟩],cnt⟩)
  (fun k=>k≤n) (fun k=>n - k) 0 (by omega) ?_ ?_ rfl ?_
 ·exact Gm
 ·exact Aq _
 rintro k cnt hk ih
 have c1:decide ((k:Int) < 21)=true:=AA (by omega)
 have c2:decide (k < 21)=true:=AA (by omega)
 have hgk:=hg k (by omega)
 obtain ⟨z1,z2⟩:=hsl k (by omega)
 have heqk:=heq k hk
 generalize hx:U1.getD k default=x at hgk z1 z2 heqk
 have hlit:=Agc (b:=b) (i:=i) (k:=i+x.size) (by omega) (by omega)
 have w1:IntKind.i64.wrap ((b.size:Int) - (i:Int))=((b.size - i:Nat):Int):=B8
 have c3:decide ((x.size:Int)≤((b.size - i:Nat):Int))=true:=AA (by omega)
 have w2:IntKind.i64.wrap ((i:Int)+(x.size:Int))=((i+x.size:Nat):Int):=B8
 have w3:IntKind.i64.wrap ((k:Int)+1)=((k+1:Nat):Int):=B8
 by_cases hkn:k < n
 ·have hb:Nat.beq k n=false:=by rw [Hf]; exact Ce (by omega)
  rw [hb] at heqk
  have ih:=ih (k+1) cnt (by omega) (by omega)
  refine Ac ?_
  refine Cb ?_
  refine Dz (Pf c1 hml hgk h1 hlit heqk w1 w2 w3 c3 @Si @BJ @Wo @Asb) ?_
  all_goals exact Acn
 ·obtain rfl:k=n:=by omega
  have hb:Nat.beq k k=true:=by rw [Hf]; exact AA rfl
  rw [hb] at heqk
  have hsz1:x.size=1:=by rw [←hx,hn1]; rfl
  rw [←hx,hn1] at hgk
  have w4:IntKind.i64.wrap ((i:Int)+1)=((i+1:Nat):Int):=B8
  have e9:x=⟨#[UInt8.ofNat c]⟩:=by rw [←hx,hn1]
  rw [e9] at hlit heqk c3 w2
  have e8:(⟨#[UInt8.ofNat c]⟩:ByteArray).size=1:=rfl
  refine Ac ?_
  refine Cb ?_
  refine Dz (Jl c1 hml hgk h1 hlit heqk w1 w2 c3 @Si @BJ @Wo @Asb) ?_
  repeat' (first | exact Aa (by kernel_rfl) | refine ⟨Aa (by kernel_rfl),?_⟩ | refine And.intro ?_ ?_ | fail)
  all_goals exact Et
noncomputable def PO (f:Nat) (out:List AV→AV) (a:List AV):Option AV:=open Classical in if Ap Tryz.prog f a (out a) then some (out a) else none
theorem Bjz (f:Nat) (out:List AV→AV):DC Tryz.prog f (PO f out):=by
 intro a r h
 unfold PO at h
 split at h
 ·rename_i hx; cases h; exact hx
 ·cases h
theorem Bk0 {f:Nat} {out:List AV→AV} {a:List AV} {r:AV} (h:Ap Tryz.prog f a r) (e:out a=r):PO f out a=some r:=by
 subst e
 exact if_pos h
theorem s93 (s:ByteArray) (T:List Tok) (n:Nat) (hT:T.length=n) (hn:n≤100000) (Q pp:Nat→Nat) {F131 F132:List AV→Option AV} (k131:DC Tryz.prog 131 F131) (k132:DC Tryz.prog 132 F132)
  (e131:∀ j,j≤n→F131 [.sc (.string s),.sc (.int .i64 (Q j:Int))]=some (.sc (.int .i64 (pp j:Int)))) (e132:∀ j,j < n→F132 [.sc (.string s),.sc (.int .i64 (pp j:Int))]=some (.tu [Ey (T.getD j default),.sc (.int .i64 (Q (j+1):Int)),.sc (.int .i64 0)]))
  (hlt:∀ j,j < n→pp j < s.size) (hend:pp n=s.size) (hQ:Q 0=0) (hsz:s.size≤20000):Ba Tryz.prog 93 [.sc (.string s)] (.tu [.vw false (T.map Ey),.sc (.int .i64 0),.sc (.int .i64 0)]):=by
 have x0:=e131 0 (Bq _)
 rw [hQ,Int.natCast_zero] at x0
 have c0:decide ((20000:Int) < (s.size:Int))=false:=Ce (by omega)
 refine BP (Af (lit:=false) (pm:=fun _=>none) (.cons k131 (.cons k132 .nil)) .nil .nil .nil) rfl Tryz.func93 rfl (by decide) (by kernel_rfl) rfl ?_
 simp only [Tryz.f93,Ae,lx52,lx63,Nat.reduceAdd,Nat.reduceSub,List.replicate]
 refine Ac ?_
 refine Dz (a3 c0 x0 @BJ) ?_
 refine AB (T':=CW 0 39 [(0,.sc (.string s)),(5,.vw true []),(6,.sc (.int .i64 (pp 0:Int)))]) ?_ (Aq _) (Av _) ?_
 ·exact Gm
 refine HX (T':=CW 0 39 [(0,.sc (.string s)),(5,.sl 0 0 0 0),(6,.sc (.int .i64 (pp 0:Int)))]) (H':=[]) 0 202 4 1 (by omega) (by omega) ?_ ?_ ?_
 ·simp (maxSteps:=10000000) only [AX,↓reduceIte,reduceCtorEq,Nat.reduceAdd,Nat.reduceEqDiff,CW,Jw,Zl,Afd,Zm,Afe]
 ·trivial
 refine Az (σ:=Nat) (fun j _=>⟨CW 0 39 [(0,.sc (.string s)),(5,.sl 0 (3 * j) 0 j),(6,.sc (.int .i64 (pp j:Int)))],[⟨true,3 * j,202,4,(T.take j).map Ey,false⟩],3 * j+1⟩)
  (fun j=>j≤n) (fun j=>n - j) 0 (by omega) ?_ ?_ rfl ?_
 ·simp (maxSteps:=10000000) only [AX,AT,↓reduceIte,reduceCtorEq,Nat.reduceAdd,Nat.reduceEqDiff,CW,Jw,Nat.mul_zero]
 ·exact Aq _
 rintro j c hj ih
 obtain ⟨V,hV⟩:∃ V,3 * j=V:=⟨_,rfl⟩
 rw [hV]
 have hTl:((T.take j).map Ey).length=j:=by rw [lx57,lx68]; omega
 have hT4:Bs 4 ((T.take j).map Ey)=true:=ZA _
 have hTn:norefs ((T.take j).map Ey)=true:=Co (f:=Ey) (fun _=>rfl) _
 by_cases hjn:j < n
 rotate_left
 ·obtain rfl:j=n:=by omega
  have h1:decide ((pp j:Int) < (s.size:Int))=false:=Ce (by omega)
  have e1:T.take j=T:=by rw [←hT,lx73]
  rw [e1] at hTl hT4 hTn ⊢
  refine JZ 0 0 ⟨true,V,202,4,T.map Ey,false⟩ rfl rfl (Bq _) hTn ?_
  refine qd8 ?_
  have e2:(T.map Ey).take j=T.map Ey:=lx12 (by omega)
  refine Ac ?_
  exact Pd (a3 h1 e2 @BJ)
  repeat' (first | exact Aa (by kernel_rfl) | refine ⟨Aa (by kernel_rfl),?_⟩ | refine And.intro ?_ ?_ | fail)
  all_goals first | exact .refl _ | rfl | skip
 have h1:decide ((pp j:Int) < (s.size:Int))=true:=AA (by have:=hlt j hjn; omega)
 have x1:=e132 j hjn
 have x2:=e131 (j+1) (by omega)
 have ih:=ih (j+1) c (by omega) (by omega)
 have e1:(T.take (j+1)).map Ey=(T.take j).map Ey++[Ey (T.getD j default)]:=by
  rw [Iz (by omega),lx10]; rfl
 have hVs:3 * (j+1)=V+3:=An
 rw [e1,hVs] at ih
 have hc1:decide ((j+1) * 40≤140737488355328)=true:=AA (by omega)
 generalize (T.take j).map Ey=M at hTl hT4 hTn ih ⊢
 have hMt:List.take j M=M:=lx12 (by omega)
 simp only [Ey] at x1 ih
 refine Ac ?_
 refine Cb ?_
 refine Dz (a6 h1 x1 x2 hc1 hMt @BJ) ?_
 exact Av0
end Go.Proofs.YtdjpkhjaibdogaaGreat
