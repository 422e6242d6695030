/-
  Lemmas towards ModesPriority (joined texts: KG, SX1).
  Conditions: none.
-/
import Derived.Test.YtdjpkhjaibdogaaGreatL01
import Derived.KernelRfl
import Derived.Calls
import Derived.Deep.Quiet
import Derived.Below
import Derived.Laws.AppendOwn
import Derived.Laws.MakeOwn
import Derived.Laws.Cells
import Derived.Laws.CopyRow
set_option linter.unusedSimpArgs false
set_option linter.unusedVariables false
set_option maxRecDepth 100000
namespace Go.SX
theorem gB0 {P Q:Prop} (h:Q) (f:Q→P:=by
 intro h
 simp (maxSteps:=10000000) +contextual -implicitDefEqProofs only [AX,AT,Ao,St.put,↓reduceIte,AL,Bb,Bool.or_assoc,reduceCtorEq,Nat.reduceAdd,CS,Int.reduceAdd,B9,Am,Aj,Ds,pl,AV.noref,CX,MB,DH,norefs,Int.reduceLE,Int.reduceEq,Nat.reduceBEq,Int.reduceBEq,Bool.and_assoc,Nat.reduceEqDiff,Int.reduceLT,Nat.reduceLT,Se,Nat.reduceLeDiff,Nat.reduceMul,Int.reduceMul,lx1,DO,hl]
 exact h):P:=f h
theorem Pb {A:Prop} (x:A) {P Q:Prop} (h:Q) (f:A→Q→P:=by
 intro x h
 simp (maxSteps:=10000000) +contextual -implicitDefEqProofs only [AX,AT,Ao,St.put,↓reduceIte,AL,Bb,Bool.or_assoc,reduceCtorEq,Nat.reduceAdd,CS,Int.reduceAdd,B9,Am,Aj,Ds,pl,AV.noref,CX,MB,DH,norefs,Int.reduceLE,Int.reduceEq,Nat.reduceBEq,Int.reduceBEq,Bool.and_assoc,Nat.reduceEqDiff,Int.reduceLT,Nat.reduceLT,Se,Nat.reduceLeDiff,Nat.reduceMul,Int.reduceMul,lx1,DO,hl,x]
 exact h):P:=f x h
theorem zB0 {P:Prop} (f:P:=by
 simp (maxSteps:=10000000) +contextual -implicitDefEqProofs only [AX,AT,Ao,St.put,↓reduceIte,AL,Bb,Bool.or_assoc,reduceCtorEq,Nat.reduceAdd,CS,Int.reduceAdd,B9,Am,Aj,Ds,pl,AV.noref,CX,MB,DH,norefs,Int.reduceLE,Int.reduceEq,Nat.reduceBEq,Int.reduceBEq,Bool.and_assoc,Nat.reduceEqDiff,Int.reduceLT,Nat.reduceLT,Se,Nat.reduceLeDiff,Nat.reduceMul,Int.reduceMul,lx1,DO,hl]
 done):P:=f
theorem Oy {A:Prop} (x:A) {P:Prop} (f:A→P:=by
 intro x
 simp (maxSteps:=10000000) +contextual -implicitDefEqProofs only [AX,AT,Ao,St.put,↓reduceIte,AL,Bb,Bool.or_assoc,reduceCtorEq,Nat.reduceAdd,CS,Int.reduceAdd,B9,Am,Aj,Ds,pl,AV.noref,CX,MB,DH,norefs,Int.reduceLE,Int.reduceEq,Nat.reduceBEq,Int.reduceBEq,Bool.and_assoc,Nat.reduceEqDiff,Int.reduceLT,Nat.reduceLT,Se,Nat.reduceLeDiff,Nat.reduceMul,Int.reduceMul,lx1,DO,hl,x]
 done):P:=f x
theorem gC0 {P Q:Prop} (h:Q) (f:Q→P:=by
 intro h
 simp (maxSteps:=10000000) +contextual -implicitDefEqProofs only [AX,AT,St.put,Am,Aj,Ds,pl,↓reduceIte,B9,AL,CS,AV.noref,CX,DH,reduceCtorEq,Nat.reduceAdd,Nat.reduceLeDiff,Nat.reduceEqDiff,Nat.reduceMul,Int.reduceLT,Nat.reduceLT,Int.reduceAdd,Int.reduceMul,norefs,Ao,Bb,DO,Dv,Ai,lx2,hl,lx1]
 exact h):P:=f h
theorem gC1 {A:Prop} (x:A) {P Q:Prop} (h:Q) (f:A→Q→P:=by
 intro x h
 simp (maxSteps:=10000000) +contextual -implicitDefEqProofs only [AX,AT,St.put,Am,Aj,Ds,pl,↓reduceIte,B9,AL,CS,AV.noref,CX,DH,reduceCtorEq,Nat.reduceAdd,Nat.reduceLeDiff,Nat.reduceEqDiff,Nat.reduceMul,Int.reduceLT,Nat.reduceLT,Int.reduceAdd,Int.reduceMul,norefs,Ao,Bb,DO,Dv,Ai,lx2,hl,lx1,x]
 exact h):P:=f x h
theorem zC0 {P:Prop} (f:P:=by
 simp (maxSteps:=10000000) +contextual -implicitDefEqProofs only [AX,AT,St.put,Am,Aj,Ds,pl,↓reduceIte,B9,AL,CS,AV.noref,CX,DH,reduceCtorEq,Nat.reduceAdd,Nat.reduceLeDiff,Nat.reduceEqDiff,Nat.reduceMul,Int.reduceLT,Nat.reduceLT,Int.reduceAdd,Int.reduceMul,norefs,Ao,Bb,DO,Dv,Ai,lx2,hl,lx1]
 done):P:=f
theorem SP {A:Prop} (x:A) {P:Prop} (f:A→P:=by
 intro x
 simp (maxSteps:=10000000) +contextual -implicitDefEqProofs only [AX,AT,St.put,Am,Aj,Ds,pl,↓reduceIte,B9,AL,CS,AV.noref,CX,DH,reduceCtorEq,Nat.reduceAdd,Nat.reduceLeDiff,Nat.reduceEqDiff,Nat.reduceMul,Int.reduceLT,Nat.reduceLT,Int.reduceAdd,Int.reduceMul,norefs,Ao,Bb,DO,Dv,Ai,lx2,hl,lx1,x]
 done):P:=f x
theorem gE0 {P Q:Prop} (h:Q) (f:Q→P:=by
 intro h
 simp (maxSteps:=10000000) +contextual -implicitDefEqProofs only [St.put,↓reduceIte,Nat.reduceMul,Int.reduceLT,Nat.reduceLT,Int.reduceMul,lx2,Nat.reduceAdd,Int.reduceAdd]
 exact h):P:=f h
theorem gE1 {A:Prop} (x:A) {P Q:Prop} (h:Q) (f:A→Q→P:=by
 intro x h
 simp (maxSteps:=10000000) +contextual -implicitDefEqProofs only [St.put,↓reduceIte,Nat.reduceMul,Int.reduceLT,Nat.reduceLT,Int.reduceMul,lx2,Nat.reduceAdd,Int.reduceAdd,x]
 exact h):P:=f x h
theorem zE0 {P:Prop} (f:P:=by
 simp (maxSteps:=10000000) +contextual -implicitDefEqProofs only [St.put,↓reduceIte,Nat.reduceMul,Int.reduceLT,Nat.reduceLT,Int.reduceMul,lx2,Nat.reduceAdd,Int.reduceAdd]
 done):P:=f
theorem zE1 {A:Prop} (x:A) {P:Prop} (f:A→P:=by
 intro x
 simp (maxSteps:=10000000) +contextual -implicitDefEqProofs only [St.put,↓reduceIte,Nat.reduceMul,Int.reduceLT,Nat.reduceLT,Int.reduceMul,lx2,Nat.reduceAdd,Int.reduceAdd,x]
 done):P:=f x
theorem gF0 {P Q:Prop} (h:Q) (f:Q→P:=by
 intro h
 simp (maxSteps:=10000000) +contextual -implicitDefEqProofs only [AX,AT,St.put,Am,Aj,Ds,pl,↓reduceIte,B9,AL,Nat.reduceEqDiff,Nat.reduceBEq,Int.reduceBEq,ne_eq,reduceCtorEq,Nat.reduceAdd,CS,Int.reduceAdd,Bb,Ai,lx3,Option.getD_none,Ao,Int.reduceLT,Nat.reduceLT,Cv,norefs,AV.noref,AO,Option.isSome_some,lx4,DK,BS,CX,Nat.reduceLeDiff,Nat.reduceMul,Se,Int.reduceMul,Bm,lx2,lx5,lx6,lx7,Array.toList,lx8,lx9,Int.reduceEq,Int.reduceNe,Int.reduceLE,eq_self,Cl,ite_self,Int.reduceToNat,Nat.reduceSub,Int.reduceSub,DO,hl,Int.reduceBNe,lx10,lx1,dead]
 exact h):P:=f h
theorem gF1 {A:Prop} (x:A) {P Q:Prop} (h:Q) (f:A→Q→P:=by
 intro x h
 simp (maxSteps:=10000000) +contextual -implicitDefEqProofs only [AX,AT,St.put,Am,Aj,Ds,pl,↓reduceIte,B9,AL,Nat.reduceEqDiff,Nat.reduceBEq,Int.reduceBEq,ne_eq,reduceCtorEq,Nat.reduceAdd,CS,Int.reduceAdd,Bb,Ai,lx3,Option.getD_none,Ao,Int.reduceLT,Nat.reduceLT,Cv,norefs,AV.noref,AO,Option.isSome_some,lx4,DK,BS,CX,Nat.reduceLeDiff,Nat.reduceMul,Se,Int.reduceMul,Bm,lx2,lx5,lx6,lx7,Array.toList,lx8,lx9,Int.reduceEq,Int.reduceNe,Int.reduceLE,eq_self,Cl,ite_self,Int.reduceToNat,Nat.reduceSub,Int.reduceSub,DO,hl,Int.reduceBNe,lx10,lx1,dead,x]
 exact h):P:=f x h
theorem zF0 {P:Prop} (f:P:=by
 simp (maxSteps:=10000000) +contextual -implicitDefEqProofs only [AX,AT,St.put,Am,Aj,Ds,pl,↓reduceIte,B9,AL,Nat.reduceEqDiff,Nat.reduceBEq,Int.reduceBEq,ne_eq,reduceCtorEq,Nat.reduceAdd,CS,Int.reduceAdd,Bb,Ai,lx3,Option.getD_none,Ao,Int.reduceLT,Nat.reduceLT,Cv,norefs,AV.noref,AO,Option.isSome_some,lx4,DK,BS,CX,Nat.reduceLeDiff,Nat.reduceMul,Se,Int.reduceMul,Bm,lx2,lx5,lx6,lx7,Array.toList,lx8,lx9,Int.reduceEq,Int.reduceNe,Int.reduceLE,eq_self,Cl,ite_self,Int.reduceToNat,Nat.reduceSub,Int.reduceSub,DO,hl,Int.reduceBNe,lx10,lx1,dead]
 done):P:=f
theorem zF1 {A:Prop} (x:A) {P:Prop} (f:A→P:=by
 intro x
 simp (maxSteps:=10000000) +contextual -implicitDefEqProofs only [AX,AT,St.put,Am,Aj,Ds,pl,↓reduceIte,B9,AL,Nat.reduceEqDiff,Nat.reduceBEq,Int.reduceBEq,ne_eq,reduceCtorEq,Nat.reduceAdd,CS,Int.reduceAdd,Bb,Ai,lx3,Option.getD_none,Ao,Int.reduceLT,Nat.reduceLT,Cv,norefs,AV.noref,AO,Option.isSome_some,lx4,DK,BS,CX,Nat.reduceLeDiff,Nat.reduceMul,Se,Int.reduceMul,Bm,lx2,lx5,lx6,lx7,Array.toList,lx8,lx9,Int.reduceEq,Int.reduceNe,Int.reduceLE,eq_self,Cl,ite_self,Int.reduceToNat,Nat.reduceSub,Int.reduceSub,DO,hl,Int.reduceBNe,lx10,lx1,dead,x]
 done):P:=f x
theorem gG0 {P Q:Prop} (h:Q) (f:Q→P:=by
 intro h
 simp (maxSteps:=10000000) +contextual -implicitDefEqProofs only [AX,AT,St.put,Nat.reduceAdd,CS,Int.reduceAdd,B9,BS,Am,Aj,Ds,pl,↓reduceIte,norefs,AV.noref,CJ,AO,Ao,reduceCtorEq,Nat.reduceLeDiff,Int.reduceLT,Nat.reduceLT,Bm,Ch,BZ,Bo,Bn,Be,B4,lx5,ET,CH,DW,HZ,Nat.reduceEqDiff,DO,Cp,Cg,ZO,ZP,Ail,lx6,lx7,lx1,Nat.reduceMul,Int.reduceMul,hl,DK,Array.toList,lx8,lx9,Int.reduceEq,Int.reduceNe,Int.reduceLE,ne_eq,Nat.reduceBEq,eq_self,Cl,ite_self,Int.reduceToNat,Nat.reduceSub,Int.reduceSub,Bg,Db,CN,CY,AL,Bb,Cq,Bf,Ai,E6,Int.reduceBNe,Int.reduceBEq,Abz,Aik,lx10,Option.isSome,Nk,ZL]
 exact h):P:=f h
theorem Lh {A:Prop} (x:A) {P Q:Prop} (h:Q) (f:A→Q→P:=by
 intro x h
 simp (maxSteps:=10000000) +contextual -implicitDefEqProofs only [AX,AT,St.put,Nat.reduceAdd,CS,Int.reduceAdd,B9,BS,Am,Aj,Ds,pl,↓reduceIte,norefs,AV.noref,CJ,AO,Ao,reduceCtorEq,Nat.reduceLeDiff,Int.reduceLT,Nat.reduceLT,Bm,Ch,BZ,Bo,Bn,Be,B4,lx5,ET,CH,DW,HZ,Nat.reduceEqDiff,DO,Cp,Cg,ZO,ZP,Ail,lx6,lx7,lx1,Nat.reduceMul,Int.reduceMul,hl,DK,Array.toList,lx8,lx9,Int.reduceEq,Int.reduceNe,Int.reduceLE,ne_eq,Nat.reduceBEq,eq_self,Cl,ite_self,Int.reduceToNat,Nat.reduceSub,Int.reduceSub,Bg,Db,CN,CY,AL,Bb,Cq,Bf,Ai,E6,Int.reduceBNe,Int.reduceBEq,Abz,Aik,lx10,Option.isSome,Nk,ZL,x]
 exact h):P:=f x h
theorem zG0 {P:Prop} (f:P:=by
 simp (maxSteps:=10000000) +contextual -implicitDefEqProofs only [AX,AT,St.put,Nat.reduceAdd,CS,Int.reduceAdd,B9,BS,Am,Aj,Ds,pl,↓reduceIte,norefs,AV.noref,CJ,AO,Ao,reduceCtorEq,Nat.reduceLeDiff,Int.reduceLT,Nat.reduceLT,Bm,Ch,BZ,Bo,Bn,Be,B4,lx5,ET,CH,DW,HZ,Nat.reduceEqDiff,DO,Cp,Cg,ZO,ZP,Ail,lx6,lx7,lx1,Nat.reduceMul,Int.reduceMul,hl,DK,Array.toList,lx8,lx9,Int.reduceEq,Int.reduceNe,Int.reduceLE,ne_eq,Nat.reduceBEq,eq_self,Cl,ite_self,Int.reduceToNat,Nat.reduceSub,Int.reduceSub,Bg,Db,CN,CY,AL,Bb,Cq,Bf,Ai,E6,Int.reduceBNe,Int.reduceBEq,Abz,Aik,lx10,Option.isSome,Nk,ZL]
 done):P:=f
theorem zG1 {A:Prop} (x:A) {P:Prop} (f:A→P:=by
 intro x
 simp (maxSteps:=10000000) +contextual -implicitDefEqProofs only [AX,AT,St.put,Nat.reduceAdd,CS,Int.reduceAdd,B9,BS,Am,Aj,Ds,pl,↓reduceIte,norefs,AV.noref,CJ,AO,Ao,reduceCtorEq,Nat.reduceLeDiff,Int.reduceLT,Nat.reduceLT,Bm,Ch,BZ,Bo,Bn,Be,B4,lx5,ET,CH,DW,HZ,Nat.reduceEqDiff,DO,Cp,Cg,ZO,ZP,Ail,lx6,lx7,lx1,Nat.reduceMul,Int.reduceMul,hl,DK,Array.toList,lx8,lx9,Int.reduceEq,Int.reduceNe,Int.reduceLE,ne_eq,Nat.reduceBEq,eq_self,Cl,ite_self,Int.reduceToNat,Nat.reduceSub,Int.reduceSub,Bg,Db,CN,CY,AL,Bb,Cq,Bf,Ai,E6,Int.reduceBNe,Int.reduceBEq,Abz,Aik,lx10,Option.isSome,Nk,ZL,x]
 done):P:=f x
theorem gP0 {P Q:Prop} (h:Q) (f:Q→P:=by
 intro h
 simp (maxSteps:=10000000) +contextual -implicitDefEqProofs only [AX,AT,St.put,↓reduceIte,reduceCtorEq,Nat.reduceAdd,Int.reduceLT,Nat.reduceLT,CS,Se,Int.reduceAdd,B9,norefs,AV.noref,Ao,Am,Aj,Ds,pl,Nat.reduceEqDiff,Nat.reduceLeDiff,Gl,lx6,lx7,DO,hl,Nat.reduceMul,Int.reduceLE,Int.reduceMul,lx2,Nat.reduceBEq,Int.reduceBEq,Bm,Bg,Cp,Cg,Ch,BZ,Bo,Bn,CH,Be,Ep,B4,Db,lx12,Int.reduceToNat,Nat.reduceSub,Int.reduceSub,Int.zero_add,ite_self,lx5,Int.reduceEq,ne_eq]
 exact h):P:=f h
theorem Dz {A:Prop} (x:A) {P Q:Prop} (h:Q) (f:A→Q→P:=by
 intro x h
 simp (maxSteps:=10000000) +contextual -implicitDefEqProofs only [AX,AT,St.put,↓reduceIte,reduceCtorEq,Nat.reduceAdd,Int.reduceLT,Nat.reduceLT,CS,Se,Int.reduceAdd,B9,norefs,AV.noref,Ao,Am,Aj,Ds,pl,Nat.reduceEqDiff,Nat.reduceLeDiff,Gl,lx6,lx7,DO,hl,Nat.reduceMul,Int.reduceLE,Int.reduceMul,lx2,Nat.reduceBEq,Int.reduceBEq,Bm,Bg,Cp,Cg,Ch,BZ,Bo,Bn,CH,Be,Ep,B4,Db,lx12,Int.reduceToNat,Nat.reduceSub,Int.reduceSub,Int.zero_add,ite_self,lx5,Int.reduceEq,ne_eq,x]
 exact h):P:=f x h
theorem zP0 {P:Prop} (f:P:=by
 simp (maxSteps:=10000000) +contextual -implicitDefEqProofs only [AX,AT,St.put,↓reduceIte,reduceCtorEq,Nat.reduceAdd,Int.reduceLT,Nat.reduceLT,CS,Se,Int.reduceAdd,B9,norefs,AV.noref,Ao,Am,Aj,Ds,pl,Nat.reduceEqDiff,Nat.reduceLeDiff,Gl,lx6,lx7,DO,hl,Nat.reduceMul,Int.reduceLE,Int.reduceMul,lx2,Nat.reduceBEq,Int.reduceBEq,Bm,Bg,Cp,Cg,Ch,BZ,Bo,Bn,CH,Be,Ep,B4,Db,lx12,Int.reduceToNat,Nat.reduceSub,Int.reduceSub,Int.zero_add,ite_self,lx5,Int.reduceEq,ne_eq]
 done):P:=f
theorem Pd {A:Prop} (x:A) {P:Prop} (f:A→P:=by
 intro x
 simp (maxSteps:=10000000) +contextual -implicitDefEqProofs only [AX,AT,St.put,↓reduceIte,reduceCtorEq,Nat.reduceAdd,Int.reduceLT,Nat.reduceLT,CS,Se,Int.reduceAdd,B9,norefs,AV.noref,Ao,Am,Aj,Ds,pl,Nat.reduceEqDiff,Nat.reduceLeDiff,Gl,lx6,lx7,DO,hl,Nat.reduceMul,Int.reduceLE,Int.reduceMul,lx2,Nat.reduceBEq,Int.reduceBEq,Bm,Bg,Cp,Cg,Ch,BZ,Bo,Bn,CH,Be,Ep,B4,Db,lx12,Int.reduceToNat,Nat.reduceSub,Int.reduceSub,Int.zero_add,ite_self,lx5,Int.reduceEq,ne_eq,x]
 done):P:=f x
theorem gY0 {P Q:Prop} (h:Q) (f:Q→P:=by
 intro h
 simp (maxSteps:=10000000) +contextual -implicitDefEqProofs only [AX,AT,Ao,St.put,↓reduceIte,Nat.reduceAdd,Nat.reduceLeDiff,Nat.reduceMul,Int.reduceLT,Nat.reduceLT,CS,Int.reduceAdd,Int.reduceMul,B9,Int.reduceEq,ne_eq,norefs,AV.noref,Am,Aj,Ds,pl,reduceCtorEq,DO,hl]
 exact h):P:=f h
theorem gY1 {A:Prop} (x:A) {P Q:Prop} (h:Q) (f:A→Q→P:=by
 intro x h
 simp (maxSteps:=10000000) +contextual -implicitDefEqProofs only [AX,AT,Ao,St.put,↓reduceIte,Nat.reduceAdd,Nat.reduceLeDiff,Nat.reduceMul,Int.reduceLT,Nat.reduceLT,CS,Int.reduceAdd,Int.reduceMul,B9,Int.reduceEq,ne_eq,norefs,AV.noref,Am,Aj,Ds,pl,reduceCtorEq,DO,hl,x]
 exact h):P:=f x h
theorem zY0 {P:Prop} (f:P:=by
 simp (maxSteps:=10000000) +contextual -implicitDefEqProofs only [AX,AT,Ao,St.put,↓reduceIte,Nat.reduceAdd,Nat.reduceLeDiff,Nat.reduceMul,Int.reduceLT,Nat.reduceLT,CS,Int.reduceAdd,Int.reduceMul,B9,Int.reduceEq,ne_eq,norefs,AV.noref,Am,Aj,Ds,pl,reduceCtorEq,DO,hl]
 done):P:=f
theorem zY1 {A:Prop} (x:A) {P:Prop} (f:A→P:=by
 intro x
 simp (maxSteps:=10000000) +contextual -implicitDefEqProofs only [AX,AT,Ao,St.put,↓reduceIte,Nat.reduceAdd,Nat.reduceLeDiff,Nat.reduceMul,Int.reduceLT,Nat.reduceLT,CS,Int.reduceAdd,Int.reduceMul,B9,Int.reduceEq,ne_eq,norefs,AV.noref,Am,Aj,Ds,pl,reduceCtorEq,DO,hl,x]
 done):P:=f x
theorem a2 {A1 A2:Prop} (x1:A1) (x2:A2):A1∧A2:=⟨x1,x2⟩
theorem a3 {A1 A2 A3:Prop} (x1:A1) (x2:A2) (x3:A3):A1∧A2∧A3:=⟨x1,x2,x3⟩
theorem a4 {A1 A2 A3 A4:Prop} (x1:A1) (x2:A2) (x3:A3) (x4:A4):A1∧A2∧A3∧A4:=⟨x1,x2,x3,x4⟩
theorem a5 {A1 A2 A3 A4 A5:Prop} (x1:A1) (x2:A2) (x3:A3) (x4:A4) (x5:A5):A1∧A2∧A3∧A4∧A5:=⟨x1,x2,x3,x4,x5⟩
theorem a6 {A1 A2 A3 A4 A5 A6:Prop} (x1:A1) (x2:A2) (x3:A3) (x4:A4) (x5:A5) (x6:A6):A1∧A2∧A3∧A4∧A5∧A6:=⟨x1,x2,x3,x4,x5,x6⟩
theorem a7 {A1 A2 A3 A4 A5 A6 A7:Prop} (x1:A1) (x2:A2) (x3:A3) (x4:A4) (x5:A5) (x6:A6) (x7:A7):A1∧A2∧A3∧A4∧A5∧A6∧A7:=⟨x1,x2,x3,x4,x5,x6,x7⟩
theorem a8 {A1 A2 A3 A4 A5 A6 A7 A8:Prop} (x1:A1) (x2:A2) (x3:A3) (x4:A4) (x5:A5) (x6:A6) (x7:A7) (x8:A8):A1∧A2∧A3∧A4∧A5∧A6∧A7∧A8:=⟨x1,x2,x3,x4,x5,x6,x7,x8⟩
theorem a9 {A1 A2 A3 A4 A5 A6 A7 A8 A9:Prop} (x1:A1) (x2:A2) (x3:A3) (x4:A4) (x5:A5) (x6:A6) (x7:A7) (x8:A8) (x9:A9):A1∧A2∧A3∧A4∧A5∧A6∧A7∧A8∧A9:=⟨x1,x2,x3,x4,x5,x6,x7,x8,x9⟩
theorem HO {A1 A2 A3 A4 A5 A6 A7 A8 A9 A10:Prop} (x1:A1) (x2:A2) (x3:A3) (x4:A4) (x5:A5) (x6:A6) (x7:A7) (x8:A8) (x9:A9) (x10:A10):A1∧A2∧A3∧A4∧A5∧A6∧A7∧A8∧A9∧A10:=⟨x1,x2,x3,x4,x5,x6,x7,x8,x9,x10⟩
theorem Jk {A1 A2 A3 A4 A5 A6 A7 A8 A9 A10 A11:Prop} (x1:A1) (x2:A2) (x3:A3) (x4:A4) (x5:A5) (x6:A6) (x7:A7) (x8:A8) (x9:A9) (x10:A10) (x11:A11):A1∧A2∧A3∧A4∧A5∧A6∧A7∧A8∧A9∧A10∧A11:=⟨x1,x2,x3,x4,x5,x6,x7,x8,x9,x10,x11⟩
theorem Hp {A1 A2 A3 A4 A5 A6 A7 A8 A9 A10 A11 A12:Prop} (x1:A1) (x2:A2) (x3:A3) (x4:A4) (x5:A5) (x6:A6) (x7:A7) (x8:A8) (x9:A9) (x10:A10) (x11:A11) (x12:A12):A1∧A2∧A3∧A4∧A5∧A6∧A7∧A8∧A9∧A10∧A11∧A12:=⟨x1,x2,x3,x4,x5,x6,x7,x8,x9,x10,x11,x12⟩
theorem Jl {A1 A2 A3 A4 A5 A6 A7 A8 A9 A10 A11 A12 A13:Prop} (x1:A1) (x2:A2) (x3:A3) (x4:A4) (x5:A5) (x6:A6) (x7:A7) (x8:A8) (x9:A9) (x10:A10) (x11:A11) (x12:A12) (x13:A13):A1∧A2∧A3∧A4∧A5∧A6∧A7∧A8∧A9∧A10∧A11∧A12∧A13:=⟨x1,x2,x3,x4,x5,x6,x7,x8,x9,x10,x11,x12,x13⟩
theorem Pf {A1 A2 A3 A4 A5 A6 A7 A8 A9 A10 A11 A12 A13 A14:Prop} (x1:A1) (x2:A2) (x3:A3) (x4:A4) (x5:A5) (x6:A6) (x7:A7) (x8:A8) (x9:A9) (x10:A10) (x11:A11) (x12:A12) (x13:A13) (x14:A14):A1∧A2∧A3∧A4∧A5∧A6∧A7∧A8∧A9∧A10∧A11∧A12∧A13∧A14:=⟨x1,x2,x3,x4,x5,x6,x7,x8,x9,x10,x11,x12,x13,x14⟩
theorem a16 {A1 A2 A3 A4 A5 A6 A7 A8 A9 A10 A11 A12 A13 A14 A15 A16:Prop} (x1:A1) (x2:A2) (x3:A3) (x4:A4) (x5:A5) (x6:A6) (x7:A7) (x8:A8) (x9:A9) (x10:A10) (x11:A11) (x12:A12) (x13:A13) (x14:A14) (x15:A15) (x16:A16):A1∧A2∧A3∧A4∧A5∧A6∧A7∧A8∧A9∧A10∧A11∧A12∧A13∧A14∧A15∧A16:=⟨x1,x2,x3,x4,x5,x6,x7,x8,x9,x10,x11,x12,x13,x14,x15,x16⟩
theorem a17 {A1 A2 A3 A4 A5 A6 A7 A8 A9 A10 A11 A12 A13 A14 A15 A16 A17:Prop} (x1:A1) (x2:A2) (x3:A3) (x4:A4) (x5:A5) (x6:A6) (x7:A7) (x8:A8) (x9:A9) (x10:A10) (x11:A11) (x12:A12) (x13:A13) (x14:A14) (x15:A15) (x16:A16) (x17:A17):A1∧A2∧A3∧A4∧A5∧A6∧A7∧A8∧A9∧A10∧A11∧A12∧A13∧A14∧A15∧A16∧A17:=⟨x1,x2,x3,x4,x5,x6,x7,x8,x9,x10,x11,x12,x13,x14,x15,x16,x17⟩
theorem a18 {A1 A2 A3 A4 A5 A6 A7 A8 A9 A10 A11 A12 A13 A14 A15 A16 A17 A18:Prop} (x1:A1) (x2:A2) (x3:A3) (x4:A4) (x5:A5) (x6:A6) (x7:A7) (x8:A8) (x9:A9) (x10:A10) (x11:A11) (x12:A12) (x13:A13) (x14:A14) (x15:A15) (x16:A16) (x17:A17) (x18:A18):A1∧A2∧A3∧A4∧A5∧A6∧A7∧A8∧A9∧A10∧A11∧A12∧A13∧A14∧A15∧A16∧A17∧A18:=⟨x1,x2,x3,x4,x5,x6,x7,x8,x9,x10,x11,x12,x13,x14,x15,x16,x17,x18⟩
theorem a19 {A1 A2 A3 A4 A5 A6 A7 A8 A9 A10 A11 A12 A13 A14 A15 A16 A17 A18 A19:Prop} (x1:A1) (x2:A2) (x3:A3) (x4:A4) (x5:A5) (x6:A6) (x7:A7) (x8:A8) (x9:A9) (x10:A10) (x11:A11) (x12:A12) (x13:A13) (x14:A14) (x15:A15) (x16:A16) (x17:A17) (x18:A18) (x19:A19):A1∧A2∧A3∧A4∧A5∧A6∧A7∧A8∧A9∧A10∧A11∧A12∧A13∧A14∧A15∧A16∧A17∧A18∧A19:=⟨x1,x2,x3,x4,x5,x6,x7,x8,x9,x10,x11,x12,x13,x14,x15,x16,x17,x18,x19⟩
theorem a20 {A1 A2 A3 A4 A5 A6 A7 A8 A9 A10 A11 A12 A13 A14 A15 A16 A17 A18 A19 A20:Prop} (x1:A1) (x2:A2) (x3:A3) (x4:A4) (x5:A5) (x6:A6) (x7:A7) (x8:A8) (x9:A9) (x10:A10) (x11:A11) (x12:A12) (x13:A13) (x14:A14) (x15:A15) (x16:A16) (x17:A17) (x18:A18) (x19:A19) (x20:A20):A1∧A2∧A3∧A4∧A5∧A6∧A7∧A8∧A9∧A10∧A11∧A12∧A13∧A14∧A15∧A16∧A17∧A18∧A19∧A20:=⟨x1,x2,x3,x4,x5,x6,x7,x8,x9,x10,x11,x12,x13,x14,x15,x16,x17,x18,x19,x20⟩
theorem a23 {A1 A2 A3 A4 A5 A6 A7 A8 A9 A10 A11 A12 A13 A14 A15 A16 A17 A18 A19 A20 A21 A22 A23:Prop} (x1:A1) (x2:A2) (x3:A3) (x4:A4) (x5:A5) (x6:A6) (x7:A7) (x8:A8) (x9:A9) (x10:A10) (x11:A11) (x12:A12) (x13:A13) (x14:A14) (x15:A15) (x16:A16) (x17:A17) (x18:A18) (x19:A19) (x20:A20) (x21:A21) (x22:A22) (x23:A23):A1∧A2∧A3∧A4∧A5∧A6∧A7∧A8∧A9∧A10∧A11∧A12∧A13∧A14∧A15∧A16∧A17∧A18∧A19∧A20∧A21∧A22∧A23:=⟨x1,x2,x3,x4,x5,x6,x7,x8,x9,x10,x11,x12,x13,x14,x15,x16,x17,x18,x19,x20,x21,x22,x23⟩
theorem a24 {A1 A2 A3 A4 A5 A6 A7 A8 A9 A10 A11 A12 A13 A14 A15 A16 A17 A18 A19 A20 A21 A22 A23 A24:Prop} (x1:A1) (x2:A2) (x3:A3) (x4:A4) (x5:A5) (x6:A6) (x7:A7) (x8:A8) (x9:A9) (x10:A10) (x11:A11) (x12:A12) (x13:A13) (x14:A14) (x15:A15) (x16:A16) (x17:A17) (x18:A18) (x19:A19) (x20:A20) (x21:A21) (x22:A22) (x23:A23) (x24:A24):A1∧A2∧A3∧A4∧A5∧A6∧A7∧A8∧A9∧A10∧A11∧A12∧A13∧A14∧A15∧A16∧A17∧A18∧A19∧A20∧A21∧A22∧A23∧A24:=⟨x1,x2,x3,x4,x5,x6,x7,x8,x9,x10,x11,x12,x13,x14,x15,x16,x17,x18,x19,x20,x21,x22,x23,x24⟩
theorem a25 {A1 A2 A3 A4 A5 A6 A7 A8 A9 A10 A11 A12 A13 A14 A15 A16 A17 A18 A19 A20 A21 A22 A23 A24 A25:Prop} (x1:A1) (x2:A2) (x3:A3) (x4:A4) (x5:A5) (x6:A6) (x7:A7) (x8:A8) (x9:A9) (x10:A10) (x11:A11) (x12:A12) (x13:A13) (x14:A14) (x15:A15) (x16:A16) (x17:A17) (x18:A18) (x19:A19) (x20:A20) (x21:A21) (x22:A22) (x23:A23) (x24:A24) (x25:A25):A1∧A2∧A3∧A4∧A5∧A6∧A7∧A8∧A9∧A10∧A11∧A12∧A13∧A14∧A15∧A16∧A17∧A18∧A19∧A20∧A21∧A22∧A23∧A24∧A25:=⟨x1,x2,x3,x4,x5,x6,x7,x8,x9,x10,x11,x12,x13,x14,x15,x16,x17,x18,x19,x20,x21,x22,x23,x24,x25⟩
theorem a26 {A1 A2 A3 A4 A5 A6 A7 A8 A9 A10 A11 A12 A13 A14 A15 A16 A17 A18 A19 A20 A21 A22 A23 A24 A25 A26:Prop} (x1:A1) (x2:A2) (x3:A3) (x4:A4) (x5:A5) (x6:A6) (x7:A7) (x8:A8) (x9:A9) (x10:A10) (x11:A11) (x12:A12) (x13:A13) (x14:A14) (x15:A15) (x16:A16) (x17:A17) (x18:A18) (x19:A19) (x20:A20) (x21:A21) (x22:A22) (x23:A23) (x24:A24) (x25:A25) (x26:A26):A1∧A2∧A3∧A4∧A5∧A6∧A7∧A8∧A9∧A10∧A11∧A12∧A13∧A14∧A15∧A16∧A17∧A18∧A19∧A20∧A21∧A22∧A23∧A24∧A25∧A26:=⟨x1,x2,x3,x4,x5,x6,x7,x8,x9,x10,x11,x12,x13,x14,x15,x16,x17,x18,x19,x20,x21,x22,x23,x24,x25,x26⟩
theorem a27 {A1 A2 A3 A4 A5 A6 A7 A8 A9 A10 A11 A12 A13 A14 A15 A16 A17 A18 A19 A20 A21 A22 A23 A24 A25 A26 A27:Prop} (x1:A1) (x2:A2) (x3:A3) (x4:A4) (x5:A5) (x6:A6) (x7:A7) (x8:A8) (x9:A9) (x10:A10) (x11:A11) (x12:A12) (x13:A13) (x14:A14) (x15:A15) (x16:A16) (x17:A17) (x18:A18) (x19:A19) (x20:A20) (x21:A21) (x22:A22) (x23:A23) (x24:A24) (x25:A25) (x26:A26) (x27:A27):A1∧A2∧A3∧A4∧A5∧A6∧A7∧A8∧A9∧A10∧A11∧A12∧A13∧A14∧A15∧A16∧A17∧A18∧A19∧A20∧A21∧A22∧A23∧A24∧A25∧A26∧A27:=⟨x1,x2,x3,x4,x5,x6,x7,x8,x9,x10,x11,x12,x13,x14,x15,x16,x17,x18,x19,x20,x21,x22,x23,x24,x25,x26,x27⟩
theorem a28 {A1 A2 A3 A4 A5 A6 A7 A8 A9 A10 A11 A12 A13 A14 A15 A16 A17 A18 A19 A20 A21 A22 A23 A24 A25 A26 A27 A28:Prop} (x1:A1) (x2:A2) (x3:A3) (x4:A4) (x5:A5) (x6:A6) (x7:A7) (x8:A8) (x9:A9) (x10:A10) (x11:A11) (x12:A12) (x13:A13) (x14:A14) (x15:A15) (x16:A16) (x17:A17) (x18:A18) (x19:A19) (x20:A20) (x21:A21) (x22:A22) (x23:A23) (x24:A24) (x25:A25) (x26:A26) (x27:A27) (x28:A28):A1∧A2∧A3∧A4∧A5∧A6∧A7∧A8∧A9∧A10∧A11∧A12∧A13∧A14∧A15∧A16∧A17∧A18∧A19∧A20∧A21∧A22∧A23∧A24∧A25∧A26∧A27∧A28:=⟨x1,x2,x3,x4,x5,x6,x7,x8,x9,x10,x11,x12,x13,x14,x15,x16,x17,x18,x19,x20,x21,x22,x23,x24,x25,x26,x27,x28⟩
theorem a29 {A1 A2 A3 A4 A5 A6 A7 A8 A9 A10 A11 A12 A13 A14 A15 A16 A17 A18 A19 A20 A21 A22 A23 A24 A25 A26 A27 A28 A29:Prop} (x1:A1) (x2:A2) (x3:A3) (x4:A4) (x5:A5) (x6:A6) (x7:A7) (x8:A8) (x9:A9) (x10:A10) (x11:A11) (x12:A12) (x13:A13) (x14:A14) (x15:A15) (x16:A16) (x17:A17) (x18:A18) (x19:A19) (x20:A20) (x21:A21) (x22:A22) (x23:A23) (x24:A24) (x25:A25) (x26:A26) (x27:A27) (x28:A28) (x29:A29):A1∧A2∧A3∧A4∧A5∧A6∧A7∧A8∧A9∧A10∧A11∧A12∧A13∧A14∧A15∧A16∧A17∧A18∧A19∧A20∧A21∧A22∧A23∧A24∧A25∧A26∧A27∧A28∧A29:=⟨x1,x2,x3,x4,x5,x6,x7,x8,x9,x10,x11,x12,x13,x14,x15,x16,x17,x18,x19,x20,x21,x22,x23,x24,x25,x26,x27,x28,x29⟩
theorem a30 {A1 A2 A3 A4 A5 A6 A7 A8 A9 A10 A11 A12 A13 A14 A15 A16 A17 A18 A19 A20 A21 A22 A23 A24 A25 A26 A27 A28 A29 A30:Prop} (x1:A1) (x2:A2) (x3:A3) (x4:A4) (x5:A5) (x6:A6) (x7:A7) (x8:A8) (x9:A9) (x10:A10) (x11:A11) (x12:A12) (x13:A13) (x14:A14) (x15:A15) (x16:A16) (x17:A17) (x18:A18) (x19:A19) (x20:A20) (x21:A21) (x22:A22) (x23:A23) (x24:A24) (x25:A25) (x26:A26) (x27:A27) (x28:A28) (x29:A29) (x30:A30):A1∧A2∧A3∧A4∧A5∧A6∧A7∧A8∧A9∧A10∧A11∧A12∧A13∧A14∧A15∧A16∧A17∧A18∧A19∧A20∧A21∧A22∧A23∧A24∧A25∧A26∧A27∧A28∧A29∧A30:=⟨x1,x2,x3,x4,x5,x6,x7,x8,x9,x10,x11,x12,x13,x14,x15,x16,x17,x18,x19,x20,x21,x22,x23,x24,x25,x26,x27,x28,x29,x30⟩
end Go.SX
namespace Go.SX
open Go.RowKit (Below)
inductive AV where
 | sc (v:Value)
 | ag (cs:List AV)
 | tu (vs:List AV)
 | pt (id ver i off:Nat)
 | sl (id ver lo len:Nat)
 | vw (z:Bool) (es:List AV)
 | vp (es:List AV) (i off:Nat)
 | fn (f:Nat) (cap:List AV)
 | un
 | jk
 deriving Inhabited
def AV.cells:AV→List AV
 | .ag cs=>cs
 | v=>[v]
structure Blk where
 live:Bool
 ver:Nat
 ty:Nat
 esz:Nat
 els:List AV
 tmp:Bool
 deriving Inhabited
structure HC where
 loc:Nat→Option (Nat × Nat)
 H:List Blk
 cnt:Nat
def Dl:Nat:=140737488355328
def PtOk (hc:HC) (id ver i off:Nat) (v:Value):Prop:=
 ver < hc.cnt∧∀ B,hc.H[id]?=some B→B.live=true→B.ver=ver→
  ∃ b base,hc.loc id=some (b,base)∧v=.pointer (some ⟨b,base+i * B.esz+off,none⟩)
def SlOk (w:World) (hc:HC) (id ver lo len:Nat) (v:Value):Prop:=
 ver < hc.cnt∧∀ B,hc.H[id]?=some B→B.live=true→B.ver=ver→lo+len≤B.els.length∧
  ((len=0∧∃ a,v=.slice a 0 0)∨
   ∃ b base cap n,hc.loc id=some (b,base)∧v=.slice (some ⟨b,base+lo * B.esz,none⟩) len cap∧len≤cap∧cap≤maxLen∧w.shape? b=some (B.ty,n)∧base+(lo+cap) * B.esz≤n)
inductive VR (w:World) (X:Nat→Prop):Option HC→AV→Value→Prop
 | sc {o} {v:Value} (h:v.oneCell'=true):VR w X o (.sc v) v
 | un {o}:VR w X o .un undef
 | jk {o} {v:Value}:VR w X o .jk v
 | ag {o} {cs:List AV} {vs:List Value} (hl:cs.length=vs.length) (h1:∀ (i:Nat) (a:AV) (v:Value),cs[i]?=some a→vs[i]?=some v→VR w X o a v) (h2:∀ (v:Value),v ∈ vs→v.oneCell'=true):
   VR w X o (.ag cs) (.agg vs.toArray)
 | tu {o} {cs:List AV} {vs:List Value} (hl:cs.length=vs.length) (h1:∀ (i:Nat) (a:AV) (v:Value),cs[i]?=some a→vs[i]?=some v→VR w X o a v):
   VR w X o (.tu cs) (.tuple vs.toArray)
 | pt {o id ver i off} {v:Value} (h1:v.oneCell'=true) (h2:∀ hc,o=some hc→PtOk hc id ver i off v):VR w X o (.pt id ver i off) v
 | sl {o id ver lo len} {v:Value} (h1:∃ a cap,v=.slice a len cap) (h2:∀ hc,o=some hc→SlOk w hc id ver lo len v):VR w X o (.sl id ver lo len) v
 | vw0 {o z a} {cap:Nat} (hz:z=true→cap=0) (hmax:cap≤maxLen):VR w X o (.vw z []) (.slice a 0 cap)
 | vw1 {o z} {es:List AV} {b base cap esz:Nat} (f:Nat→Nat→Value) (hne:es≠[]) (hX:¬ X b) (hb:b < w.heap.size) (hcap:es.length≤cap) (hz:z=true→cap=es.length)
   (hmax:cap≤maxLen) (hsz:∀ (e:AV),e ∈ es→e.cells.length=esz)
   (hc:∀ (i j:Nat),i < es.length→j < esz→w.cell? ⟨b,base+i * esz+j,none⟩=some (f i j)∧(f i j).oneCell'=true)
   (hv:∀ (i:Nat) (e:AV) (j:Nat) (a:AV),es[i]?=some e→e.cells[j]?=some a→VR w X none a (f i j)):
   VR w X o (.vw z es) (.slice (some ⟨b,base,none⟩) es.length cap)
 | vp {o} {es:List AV} {i off b base esz:Nat} (f:Nat→Nat→Value) (hX:¬ X b) (hb:b < w.heap.size) (hsz:∀ (e:AV),e ∈ es→e.cells.length=esz)
   (hc:∀ (i j:Nat),i < es.length→j < esz→w.cell? ⟨b,base+i * esz+j,none⟩=some (f i j)∧(f i j).oneCell'=true)
   (hv:∀ (i:Nat) (e:AV) (j:Nat) (a:AV),es[i]?=some e→e.cells[j]?=some a→VR w X none a (f i j)):
   VR w X o (.vp es i off) (.pointer (some ⟨b,base+i * esz+off,none⟩))
 | fn {o f} {cap:List AV} {vs:List Value} (hl:cap.length=vs.length) (h1:∀ (i:Nat) (a:AV) (v:Value),cap[i]?=some a→vs[i]?=some v→VR w X o a v):
   VR w X o (.fn f cap) (.func (.func f) #[] vs.toArray)
theorem Ayx {len:Nat} {v:Value} (h:∃ a cap,v=.slice a len cap):v.oneCell'=true:=by obtain ⟨_,_,rfl⟩:=h; rfl
def Own (hc:HC) (b:Nat):Prop:=∃ id B o,hc.H[id]?=some B∧B.live=true∧hc.loc id=some (b,o)
def ElsOk (w:World) (X:Nat→Prop) (hc:HC) (b base:Nat) (B:Blk):Prop:=
 ∀ i e,B.els[i]?=some e→e.cells.length=B.esz∧
  ∀ j a,e.cells[j]?=some a→∃ c,w.cell? ⟨b,base+i * B.esz+j,none⟩=some c∧c.oneCell'=true∧VR w X (some hc) a c
structure HR (w:World) (X:Nat→Prop) (hc:HC):Prop where
 blk:∀ id B,hc.H[id]?=some B→B.live=true→B.ver < hc.cnt∧B.els.length≤Dl∧
  match hc.loc id with
  | none=>B.els=[]
  | some (b,base)=>X b∧(∃ cs,w.heap[b]?=some (.cells cs B.ty (0,0)))∧ElsOk w X hc b base B
 inj:∀ id id' B B' b o o',hc.H[id]?=some B→hc.H[id']?=some B'→B.live=true→B'.live=true→hc.loc id=some (b,o)→hc.loc id'=some (b,o')→id=id'
 lt:∀ b,X b→b < w.heap.size
structure Evo (w:World) (X:Nat→Prop) (hc:HC) (w':World) (X':Nat→Prop) (hc':HC):Prop where
 os:w'.os=w.os
 tape:w'.tape=w.tape
 output:w'.output=w.output
 size:w.heap.size≤w'.heap.size
 keep:∀ b,b < w.heap.size→¬ Own hc b→w'.heap[b]?=w.heap[b]?
 shape:∀ b s,w.shape? b=some s→w'.shape? b=some s
 xs:∀ b,b < w.heap.size→(X' b↔X b)
 cnt:hc.cnt≤hc'.cnt
 old:∀ id B',hc'.H[id]?=some B'→B'.live=true→B'.ver < hc.cnt→
  ∃ B,hc.H[id]?=some B∧B.live=true∧B.ver=B'.ver∧hc'.loc id=hc.loc id∧B.esz=B'.esz∧B.ty=B'.ty∧B.els.length=B'.els.length
 fresh:∀ id B' b o,hc'.H[id]?=some B'→B'.live=true→hc'.loc id=some (b,o)→b < w.heap.size→∃ B o',hc.H[id]?=some B∧B.live=true∧hc.loc id=some (b,o')
theorem HR.own {w X hc} (h:HR w X hc) {b:Nat} (ho:Own hc b):X b:=by
 obtain ⟨id,B,o,h1,h2,h3⟩:=ho
 have:=(h.blk id B h1 h2).2.2
 rw [h3] at this
 exact this.1
theorem Evo.refl (w X hc):Evo w X hc w X hc where
 os:=rfl
 tape:=rfl
 output:=rfl
 size:=Av _
 keep _ _ _:=rfl
 shape _ _ h:=h
 xs _ _:=Iff.rfl
 cnt:=Av _
 old _ B' h1 h2 _:=⟨B',h1,h2,rfl,rfl,rfl,rfl,rfl⟩
 fresh _ B' _ o h1 h2 h3 _:=⟨B',o,h1,h2,h3⟩
theorem Evo.trans {w X hc w' X' hc' w'' X'' hc''} (h:Evo w X hc w' X' hc') (k:Evo w' X' hc' w'' X'' hc''):Evo w X hc w'' X'' hc'' where
 os:=k.os.trans h.os
 tape:=k.tape.trans h.tape
 output:=k.output.trans h.output
 size:=Qv h.size k.size
 keep b hb hn:=by
  refine (k.keep b (Lg hb h.size) ?_).trans (h.keep b hb hn)
  rintro ⟨id,B,o,h1,h2,h3⟩
  obtain ⟨B0,o0,g1,g2,g3⟩:=h.fresh id B b o h1 h2 h3 hb
  exact hn ⟨id,B0,o0,g1,g2,g3⟩
 shape b s hs:=k.shape b s (h.shape b s hs)
 xs b hb:=(k.xs b (Lg hb h.size)).trans (h.xs b hb)
 cnt:=Qv h.cnt k.cnt
 old id B'' h1 h2 h3:=by
  obtain ⟨B',g1,g2,g3,g4,g5,g6,g7⟩:=k.old id B'' h1 h2 (Lg h3 h.cnt)
  obtain ⟨B,e1,e2,e3,e4,e5,e6,e7⟩:=h.old id B' g1 g2 (by omega)
  exact ⟨B,e1,e2,e3.trans g3,g4.trans e4,e5.trans g5,e6.trans g6,e7.trans g7⟩
 fresh id B'' b o h1 h2 h3 hb:=by
  obtain ⟨B',o',g1,g2,g3⟩:=k.fresh id B'' b o h1 h2 h3 (Lg hb h.size)
  exact h.fresh id B' b o' g1 g2 g3 hb
theorem Evo.cell {w X hc w' X' hc'} (h:Evo w X hc w' X' hc') {a:Addr} (hb:a.block < w.heap.size) (hn:¬ Own hc a.block):w'.cell? a=w.cell? a:=
 World.cell?_of_block (h.keep _ hb hn)
theorem PtOk.mono {w X hc w' X' hc'} (h:Evo w X hc w' X' hc') {id ver i off v} (hp:PtOk hc id ver i off v):PtOk hc' id ver i off v:=by
 obtain ⟨h1,h2⟩:=hp
 refine ⟨Lg h1 h.cnt,fun B' e1 e2 e3=>?_⟩
 obtain ⟨B,g1,g2,g3,g4,g5,g6,g7⟩:=h.old id B' e1 e2 (by omega)
 obtain ⟨b,base,k1,k2⟩:=h2 B g1 g2 (by omega)
 exact ⟨b,base,by rw [g4,k1],by rw [k2,g5]⟩
theorem SlOk.mono {w X hc w' X' hc'} (h:Evo w X hc w' X' hc') {id ver lo len v} (hp:SlOk w hc id ver lo len v):SlOk w' hc' id ver lo len v:=by
 obtain ⟨h1,h2⟩:=hp
 refine ⟨Lg h1 h.cnt,fun B' e1 e2 e3=>?_⟩
 obtain ⟨B,g1,g2,g3,g4,g5,g6,g7⟩:=h.old id B' e1 e2 (by omega)
 obtain ⟨k0,k1⟩:=h2 B g1 g2 (by omega)
 refine ⟨by omega,?_⟩
 rcases k1 with k1 | ⟨b,base,cap,n,q0,q1,q2,q3,q4,q5⟩
 ·exact .inl k1
 ·exact .inr ⟨b,base,cap,n,by rw [g4,q0],by rw [q1,g5],q2,q3,by rw [←g6]; exact h.shape _ _ q4,by rw [←g5]; exact q5⟩
theorem VR.mono_aux {w X hc w' X' hc'} (h:Evo w X hc w' X' hc') (hx:∀ b,Own hc b→X b) {o:Option HC} {a:AV} {v:Value} (hv:VR w X o a v):
  (o=none→VR w' X' none a v)∧(o=some hc→VR w' X' (some hc') a v):=by
 induction hv with
 | sc h=>exact ⟨fun _=>.sc h,fun _=>.sc h⟩
 | un=>exact ⟨fun _=>.un,fun _=>.un⟩
 | jk=>exact ⟨fun _=>.jk,fun _=>.jk⟩
 | ag hl h1 h2 ih=>exact ⟨fun e=>.ag hl (fun i a v ha hv=>(ih i a v ha hv).1 e) h2,fun e=>.ag hl (fun i a v ha hv=>(ih i a v ha hv).2 e) h2⟩
 | tu hl h1 ih=>exact ⟨fun e=>.tu hl (fun i a v ha hv=>(ih i a v ha hv).1 e),fun e=>.tu hl (fun i a v ha hv=>(ih i a v ha hv).2 e)⟩
 | pt h1 h2=>exact ⟨fun _=>.pt h1 (fun _ e=>by cases e),fun e=>.pt h1 (fun hc1 e1=>by cases e1; exact (h2 hc e).mono h)⟩
 | sl h1 h2=>exact ⟨fun _=>.sl h1 (fun _ e=>by cases e),fun e=>.sl h1 (fun hc1 e1=>by cases e1; exact (h2 hc e).mono h)⟩
 | vw0 hz hmax=>exact ⟨fun _=>.vw0 hz hmax,fun _=>.vw0 hz hmax⟩
 | vw1 f hne hX hb hcap hz hmax hsz hcl hv ih=>
  have hn:=fun ho=>hX (hx _ ho)
  have h1:=fun i j hi hj=>by
   have:=hcl i j hi hj
   rw [←h.cell (a:=⟨_,_,none⟩) hb hn] at this
   exact this
  have h2:=fun i e j a h1 h2=>(ih i e j a h1 h2).1 rfl
  have hX':=fun hh=>hX ((h.xs _ hb).1 hh)
  have hb':=Lg hb h.size
  exact ⟨fun _=>.vw1 f hne hX' hb' hcap hz hmax hsz h1 h2,fun _=>.vw1 f hne hX' hb' hcap hz hmax hsz h1 h2⟩
 | vp f hX hb hsz hcl hv ih=>
  have hn:=fun ho=>hX (hx _ ho)
  have h1:=fun i j hi hj=>by
   have:=hcl i j hi hj
   rw [←h.cell (a:=⟨_,_,none⟩) hb hn] at this
   exact this
  have h2:=fun i e j a h1 h2=>(ih i e j a h1 h2).1 rfl
  have hX':=fun hh=>hX ((h.xs _ hb).1 hh)
  have hb':=Lg hb h.size
  exact ⟨fun _=>.vp f hX' hb' hsz h1 h2,fun _=>.vp f hX' hb' hsz h1 h2⟩
 | fn hl h1 ih=>exact ⟨fun e=>.fn hl (fun i a v ha hv=>(ih i a v ha hv).1 e),fun e=>.fn hl (fun i a v ha hv=>(ih i a v ha hv).2 e)⟩
theorem VR.mono {w X hc w' X' hc'} (h:Evo w X hc w' X' hc') (hr:HR w X hc) {a:AV} {v:Value} (hv:VR w X (some hc) a v):VR w' X' (some hc') a v:=
 (VR.mono_aux h (fun _=>hr.own) hv).2 rfl
theorem VR.mono_none {w X hc w' X' hc'} (h:Evo w X hc w' X' hc') (hr:HR w X hc) {a:AV} {v:Value} (hv:VR w X none a v):VR w' X' none a v:=
 (VR.mono_aux h (fun _=>hr.own) hv).1 rfl
theorem VR.close {w X o a v} (h:VR w X o a v):VR w X none a v:=by
 induction h with
 | sc h=>exact .sc h
 | un=>exact .un
 | jk=>exact .jk
 | ag hl h1 h2 ih=>exact .ag hl ih h2
 | tu hl h1 ih=>exact .tu hl ih
 | pt h1 h2=>exact .pt h1 (fun _ e=>by cases e)
 | sl h1 h2=>exact .sl h1 (fun _ e=>by cases e)
 | vw0 hz hmax=>exact .vw0 hz hmax
 | vw1 f hne hX hb hcap hz hmax hsz hcl hv ih=>exact .vw1 f hne hX hb hcap hz hmax hsz hcl ih
 | vp f hX hb hsz hcl hv ih=>exact .vp f hX hb hsz hcl ih
 | fn hl h1 ih=>exact .fn hl ih
theorem VR.antiX {w} {X Y:Nat→Prop} {o a v} (hy:∀ b,Y b→X b) (h:VR w X o a v):VR w Y o a v:=by
 induction h with
 | sc h=>exact .sc h
 | un=>exact .un
 | jk=>exact .jk
 | ag hl h1 h2 ih=>exact .ag hl ih h2
 | tu hl h1 ih=>exact .tu hl ih
 | pt h1 h2=>exact .pt h1 h2
 | sl h1 h2=>exact .sl h1 h2
 | vw0 hz hmax=>exact .vw0 hz hmax
 | vw1 f hne hX hb hcap hz hmax hsz hcl hv ih=>exact .vw1 f hne (fun h=>hX (hy _ h)) hb hcap hz hmax hsz hcl ih
 | vp f hX hb hsz hcl hv ih=>exact .vp f (fun h=>hX (hy _ h)) hb hsz hcl ih
 | fn hl h1 ih=>exact .fn hl ih
end Go.SX
