/-
  Joined texts: BC.
  Conditions: none.
-/
import Derived.Test.YtdjpkhjaibdogaaGreatL27
namespace Go.Proofs.YtdjpkhjaibdogaaGreat
open Go Go.SX
set_option linter.unusedSimpArgs false
set_option linter.unusedVariables false
attribute [local congr] ite_congr
set_option maxRecDepth 100000
set_option maxHeartbeats 8000000
theorem op_cases (op:Int):(op=1∨op=2∨op=3∨op=4∨op=5∨op=6∨op=7∨op=8∨op=9∨op=10∨op=11∨op=12∨op=13∨op=14∨op=15∨op=16∨op=17∨op=18∨op=19∨op=20∨op=21∨op=22∨op=23∨op=24∨op=25∨op=26∨op=27∨op=28∨op=29∨op=30∨op=31)∨∀ k:Int,1≤k→k≤31→(op == k)=false:=by
 by_cases h:1≤op∧op≤31
 ·left; omega
 ·right
  intro k h1 h2
  rw [beq_eq_false_iff_ne]
  omega
def effO (op:Int):Int × Int × Int:=if op=1 then (0,1,1) else if op=2 then (0,1,2) else if op=3 then (1,0,2) else if op=4 then (0,1,3) else if op=5 then (0,1,4) else if op=6 then (0,1,5) else if op=7 then (0,1,0) else if op=8 then (0,1,0) else if op=9 then (1,1,0) else if op=10 then (1,1,0) else if op=11 then (2,1,6) else if op=12 then (0,0,7) else if op=13 then (1,0,7) else if op=14 then (1,1,7) else if op=15 then (1,0,0) else if op=16 then (0,0,8) else if op=17 then (0,0,8) else if op=18 then (0,0,8) else if op=19 then (1,0,9) else if op=20 then (2,0,9) else if op=21 then (1,0,5) else if op=22 then (0,0,5) else if op=23 then (0,0,4) else if op=24 then (0,0,4) else if op=25 then (0,0,10) else if op=26 then (0,0,9) else if op=27 then (0,0,9) else if op=28 then (0,0,9) else if op=29 then (1,0,11) else if op=30 then (0,0,0) else if op=31 then (0,0,0) else (0,0,-1)
noncomputable def f150:=mkF (fun _:Int=>True) (fun x=>[kA .i64 x]) (fun x=>.tu [kA .i64 (effO x).1,kA .i64 (effO x).2.1,kA .i64 (effO x).2.2])
theorem e150 (x:Int):f150 [.sc (.int .i64 x)]=some (.tu [.sc (.int .i64 (effO x).1),.sc (.int .i64 (effO x).2.1),.sc (.int .i64 (effO x).2.2)]):=
 (mkF_eq (q:=fun _:Int=>True) (enc:=fun x=>[kA .i64 x]) (out:=fun x=>.tu [kA .i64 (effO x).1,kA .i64 (effO x).2.1,kA .i64 (effO x).2.2]) x trivial (by intro y h; simp only [List.cons.injEq,and_true] at h; rw [kA_inj h]) :)
theorem ok150:POk Tryz.prog 150 f150:=pok_mk <| by
 rintro op -
 refine pspec_of_go (fEnv_ok (.nil) (.nil)) rfl Tryz.func150 rfl (by decide) (by kernel_rfl) (by kernel_rfl) ?_
 simp only [Tryz.f150,initSt,List.length_cons,List.length_nil,Nat.reduceAdd,Nat.reduceSub,List.replicate]
 refine vc_go ?_
 rcases op_cases op with (rfl | rfl | rfl | rfl | rfl | rfl | rfl | rfl | rfl | rfl | rfl | rfl | rfl | rfl | rfl | rfl | rfl | rfl | rfl | rfl | rfl | rfl | rfl | rfl | rfl | rfl | rfl | rfl | rfl | rfl | rfl) | h
 rotate_right
 have h1:=h 1 (by decide) (by decide)
 have g1:(op=1)=False:=by simpa using h1
 have h2:=h 2 (by decide) (by decide)
 have g2:(op=2)=False:=by simpa using h2
 have h3:=h 3 (by decide) (by decide)
 have g3:(op=3)=False:=by simpa using h3
 have h4:=h 4 (by decide) (by decide)
 have g4:(op=4)=False:=by simpa using h4
 have h5:=h 5 (by decide) (by decide)
 have g5:(op=5)=False:=by simpa using h5
 have h6:=h 6 (by decide) (by decide)
 have g6:(op=6)=False:=by simpa using h6
 have h7:=h 7 (by decide) (by decide)
 have g7:(op=7)=False:=by simpa using h7
 have h8:=h 8 (by decide) (by decide)
 have g8:(op=8)=False:=by simpa using h8
 have h9:=h 9 (by decide) (by decide)
 have g9:(op=9)=False:=by simpa using h9
 have h10:=h 10 (by decide) (by decide)
 have g10:(op=10)=False:=by simpa using h10
 have h11:=h 11 (by decide) (by decide)
 have g11:(op=11)=False:=by simpa using h11
 have h12:=h 12 (by decide) (by decide)
 have g12:(op=12)=False:=by simpa using h12
 have h13:=h 13 (by decide) (by decide)
 have g13:(op=13)=False:=by simpa using h13
 have h14:=h 14 (by decide) (by decide)
 have g14:(op=14)=False:=by simpa using h14
 have h15:=h 15 (by decide) (by decide)
 have g15:(op=15)=False:=by simpa using h15
 have h16:=h 16 (by decide) (by decide)
 have g16:(op=16)=False:=by simpa using h16
 have h17:=h 17 (by decide) (by decide)
 have g17:(op=17)=False:=by simpa using h17
 have h18:=h 18 (by decide) (by decide)
 have g18:(op=18)=False:=by simpa using h18
 have h19:=h 19 (by decide) (by decide)
 have g19:(op=19)=False:=by simpa using h19
 have h20:=h 20 (by decide) (by decide)
 have g20:(op=20)=False:=by simpa using h20
 have h21:=h 21 (by decide) (by decide)
 have g21:(op=21)=False:=by simpa using h21
 have h22:=h 22 (by decide) (by decide)
 have g22:(op=22)=False:=by simpa using h22
 have h23:=h 23 (by decide) (by decide)
 have g23:(op=23)=False:=by simpa using h23
 have h24:=h 24 (by decide) (by decide)
 have g24:(op=24)=False:=by simpa using h24
 have h25:=h 25 (by decide) (by decide)
 have g25:(op=25)=False:=by simpa using h25
 have h26:=h 26 (by decide) (by decide)
 have g26:(op=26)=False:=by simpa using h26
 have h27:=h 27 (by decide) (by decide)
 have g27:(op=27)=False:=by simpa using h27
 have h28:=h 28 (by decide) (by decide)
 have g28:(op=28)=False:=by simpa using h28
 have h29:=h 29 (by decide) (by decide)
 have g29:(op=29)=False:=by simpa using h29
 have h30:=h 30 (by decide) (by decide)
 have g30:(op=30)=False:=by simpa using h30
 have h31:=h 31 (by decide) (by decide)
 have g31:(op=31)=False:=by simpa using h31
 ·simp (maxSteps:=10000000) +contextual -implicitDefEqProofs only [bnC,bnS,St.put,↓reduceIte,kA_eq,effO,h1,g1,h2,g2,h3,g3,h4,g4,h5,g5,h6,g6,h7,g7,h8,g8,h9,g9,h10,g10,h11,g11,h12,g12,h13,g13,h14,g14,h15,g15,h16,g16,h17,g17,h18,g18,h19,g19,h20,g20,h21,g21,h22,g22,h23,g23,h24,g24,h25,g25,h26,g26,h27,g27,h28,g28,h29,g29,h30,g30,h31,g31]
  all_goals done
 all_goals simp (maxSteps:=10000000) +contextual -implicitDefEqProofs only [bnC,bnS,St.put,↓reduceIte,Int.reduceEq,Nat.reduceBEq,kA_eq,Int.reduceBEq,effO]
 all_goals done
noncomputable def f197:=mkF (fun _:Int=>True) (fun x=>[kA .i64 x]) (fun x=>.tu [kA .i64 (effO x).1,kA .i64 (effO x).2.1])
theorem e197 (x:Int):f197 [.sc (.int .i64 x)]=some (.tu [.sc (.int .i64 (effO x).1),.sc (.int .i64 (effO x).2.1)]):=
 (mkF_eq (q:=fun _:Int=>True) (enc:=fun x=>[kA .i64 x]) (out:=fun x=>.tu [kA .i64 (effO x).1,kA .i64 (effO x).2.1]) x trivial (by intro y h; simp only [List.cons.injEq,and_true] at h; rw [kA_inj h]) :)
theorem ok197:POk Tryz.prog 197 f197:=pok_mk <| by
 rintro op -
 refine pspec_of_go (fEnv_ok (.nil) (.nil)) rfl Tryz.func197 rfl (by decide) (by kernel_rfl) (by kernel_rfl) ?_
 simp only [Tryz.f197,initSt,List.length_cons,List.length_nil,Nat.reduceAdd,Nat.reduceSub,List.replicate]
 refine vc_go ?_
 rcases op_cases op with (rfl | rfl | rfl | rfl | rfl | rfl | rfl | rfl | rfl | rfl | rfl | rfl | rfl | rfl | rfl | rfl | rfl | rfl | rfl | rfl | rfl | rfl | rfl | rfl | rfl | rfl | rfl | rfl | rfl | rfl | rfl) | h
 rotate_right
 have h1:=h 1 (by decide) (by decide)
 have g1:(op=1)=False:=by simpa using h1
 have h2:=h 2 (by decide) (by decide)
 have g2:(op=2)=False:=by simpa using h2
 have h3:=h 3 (by decide) (by decide)
 have g3:(op=3)=False:=by simpa using h3
 have h4:=h 4 (by decide) (by decide)
 have g4:(op=4)=False:=by simpa using h4
 have h5:=h 5 (by decide) (by decide)
 have g5:(op=5)=False:=by simpa using h5
 have h6:=h 6 (by decide) (by decide)
 have g6:(op=6)=False:=by simpa using h6
 have h7:=h 7 (by decide) (by decide)
 have g7:(op=7)=False:=by simpa using h7
 have h8:=h 8 (by decide) (by decide)
 have g8:(op=8)=False:=by simpa using h8
 have h9:=h 9 (by decide) (by decide)
 have g9:(op=9)=False:=by simpa using h9
 have h10:=h 10 (by decide) (by decide)
 have g10:(op=10)=False:=by simpa using h10
 have h11:=h 11 (by decide) (by decide)
 have g11:(op=11)=False:=by simpa using h11
 have h12:=h 12 (by decide) (by decide)
 have g12:(op=12)=False:=by simpa using h12
 have h13:=h 13 (by decide) (by decide)
 have g13:(op=13)=False:=by simpa using h13
 have h14:=h 14 (by decide) (by decide)
 have g14:(op=14)=False:=by simpa using h14
 have h15:=h 15 (by decide) (by decide)
 have g15:(op=15)=False:=by simpa using h15
 have h16:=h 16 (by decide) (by decide)
 have g16:(op=16)=False:=by simpa using h16
 have h17:=h 17 (by decide) (by decide)
 have g17:(op=17)=False:=by simpa using h17
 have h18:=h 18 (by decide) (by decide)
 have g18:(op=18)=False:=by simpa using h18
 have h19:=h 19 (by decide) (by decide)
 have g19:(op=19)=False:=by simpa using h19
 have h20:=h 20 (by decide) (by decide)
 have g20:(op=20)=False:=by simpa using h20
 have h21:=h 21 (by decide) (by decide)
 have g21:(op=21)=False:=by simpa using h21
 have h22:=h 22 (by decide) (by decide)
 have g22:(op=22)=False:=by simpa using h22
 have h23:=h 23 (by decide) (by decide)
 have g23:(op=23)=False:=by simpa using h23
 have h24:=h 24 (by decide) (by decide)
 have g24:(op=24)=False:=by simpa using h24
 have h25:=h 25 (by decide) (by decide)
 have g25:(op=25)=False:=by simpa using h25
 have h26:=h 26 (by decide) (by decide)
 have g26:(op=26)=False:=by simpa using h26
 have h27:=h 27 (by decide) (by decide)
 have g27:(op=27)=False:=by simpa using h27
 have h28:=h 28 (by decide) (by decide)
 have g28:(op=28)=False:=by simpa using h28
 have h29:=h 29 (by decide) (by decide)
 have g29:(op=29)=False:=by simpa using h29
 have h30:=h 30 (by decide) (by decide)
 have g30:(op=30)=False:=by simpa using h30
 have h31:=h 31 (by decide) (by decide)
 have g31:(op=31)=False:=by simpa using h31
 ·simp (maxSteps:=10000000) +contextual -implicitDefEqProofs only [bnC,bnS,St.put,↓reduceIte,kA_eq,effO,h1,g1,h2,g2,h3,g3,h4,g4,h5,g5,h6,g6,h7,g7,h8,g8,h9,g9,h10,g10,h11,g11,g12,h13,g13,h14,g14,h15,g15,g16,g17,g18,h19,g19,h20,g20,h21,g21,g22,g23,g24,g25,g26,g27,g28,h29,g29,g30,g31]
  all_goals done
 all_goals simp (maxSteps:=10000000) +contextual -implicitDefEqProofs only [bnC,bnS,St.put,↓reduceIte,Int.reduceEq,Nat.reduceBEq,kA_eq,Int.reduceBEq,effO]
 all_goals done
def spanC (c:Cd) (op:Int):Int × Int:=if op=1 then (-2147483647,2147483647) else if op=2 then (0,(c.vars.length - 1)) else if op=3 then (0,(c.vars.length - 1)) else if op=4 then (0,63) else if op=5 then (0,(c.pri.length - 1)) else if op=6 then (0,(c.tim - 1)) else if op=7 then (0,0) else if op=8 then (0,0) else if op=9 then (0,0) else if op=10 then (0,0) else if op=11 then (12,24) else if op=15 then (0,0) else if op=16 then (0,31) else if op=17 then (0,31) else if op=18 then (0,31) else if op=19 then (0,63) else if op=20 then (0,63) else if op=21 then (0,(c.tim - 1)) else if op=22 then (0,(c.tim - 1)) else if op=23 then (0,(c.pri.length - 1)) else if op=24 then (0,(c.pri.length - 1)) else if op=25 then (0,(c.evs - 1)) else if op=26 then (0,63) else if op=27 then (0,63) else if op=28 then (0,63) else if op=29 then (0,(c.strs.length - 1)) else if op=30 then (0,0) else if op=31 then (0,0) else (1,0)
theorem fit_wraps {c:Cd} (h:Fit c):IntKind.i64.wrap ((c.vars.length:Int) - 1)=(c.vars.length:Int) - 1∧IntKind.i64.wrap ((c.pri.length:Int) - 1)=(c.pri.length:Int) - 1∧
  IntKind.i64.wrap ((c.strs.length:Int) - 1)=(c.strs.length:Int) - 1∧IntKind.i64.wrap ((c.ins.length:Int) - 1)=(c.ins.length:Int) - 1∧IntKind.i64.wrap (c.tim - 1)=c.tim - 1∧IntKind.i64.wrap (c.evs - 1)=c.evs - 1:=by
 obtain ⟨h1,h2,h3,h4,h5,h6,h7⟩:=h
 refine ⟨wrap64 (by omega) (by omega),wrap64 (by omega) (by omega),wrap64 (by omega) (by omega),wrap64 (by omega) (by omega),wrap64 (by omega) (by omega),wrap64 (by omega) (by omega)⟩
noncomputable def f193:=mkF (fun p:Cd × Int=>Fit p.1) (fun p=>[cdA p.1,kA .i64 p.2]) (fun p=>.tu [kA .i64 (spanC p.1 p.2).1,kA .i64 (spanC p.1 p.2).2])
theorem e193 (c:Cd) (h:Fit c) (x:Int):f193 [cdA c,.sc (.int .i64 x)]=some (.tu [.sc (.int .i64 (spanC c x).1),.sc (.int .i64 (spanC c x).2)]):=
 (mkF_eq (q:=fun p:Cd × Int=>Fit p.1) (enc:=fun p=>[cdA p.1,kA .i64 p.2]) (out:=fun p=>.tu [kA .i64 (spanC p.1 p.2).1,kA .i64 (spanC p.1 p.2).2]) (c,x) h (by
  rintro ⟨a,b⟩ h
  simp only [List.cons.injEq,and_true] at h
  rw [cdA_inj h.1,kA_inj h.2]) :)
theorem ok193:POk Tryz.prog 193 f193:=pok_mk <| by
 rintro ⟨c,op⟩ hq
 simp only at hq
 obtain ⟨w1,w2,w3,w4,w5,w6⟩:=fit_wraps hq
 refine pspec_of_go (fEnv_ok (.nil) (.nil)) rfl Tryz.func193 rfl (by decide) (by kernel_rfl) (by kernel_rfl) ?_
 simp only [Tryz.f193,initSt,List.length_cons,List.length_nil,Nat.reduceAdd,Nat.reduceSub,List.replicate]
 refine vc_go ?_
 rcases op_cases op with (rfl | rfl | rfl | rfl | rfl | rfl | rfl | rfl | rfl | rfl | rfl | rfl | rfl | rfl | rfl | rfl | rfl | rfl | rfl | rfl | rfl | rfl | rfl | rfl | rfl | rfl | rfl | rfl | rfl | rfl | rfl) | h
 rotate_right
 have h1:=h 1 (by decide) (by decide)
 have g1:(op=1)=False:=by simpa using h1
 have h2:=h 2 (by decide) (by decide)
 have g2:(op=2)=False:=by simpa using h2
 have h3:=h 3 (by decide) (by decide)
 have g3:(op=3)=False:=by simpa using h3
 have h4:=h 4 (by decide) (by decide)
 have g4:(op=4)=False:=by simpa using h4
 have h5:=h 5 (by decide) (by decide)
 have g5:(op=5)=False:=by simpa using h5
 have h6:=h 6 (by decide) (by decide)
 have g6:(op=6)=False:=by simpa using h6
 have h7:=h 7 (by decide) (by decide)
 have g7:(op=7)=False:=by simpa using h7
 have h8:=h 8 (by decide) (by decide)
 have g8:(op=8)=False:=by simpa using h8
 have h9:=h 9 (by decide) (by decide)
 have g9:(op=9)=False:=by simpa using h9
 have h10:=h 10 (by decide) (by decide)
 have g10:(op=10)=False:=by simpa using h10
 have h11:=h 11 (by decide) (by decide)
 have g11:(op=11)=False:=by simpa using h11
 have h12:=h 12 (by decide) (by decide)
 have g12:(op=12)=False:=by simpa using h12
 have h13:=h 13 (by decide) (by decide)
 have g13:(op=13)=False:=by simpa using h13
 have h14:=h 14 (by decide) (by decide)
 have g14:(op=14)=False:=by simpa using h14
 have h15:=h 15 (by decide) (by decide)
 have g15:(op=15)=False:=by simpa using h15
 have h16:=h 16 (by decide) (by decide)
 have g16:(op=16)=False:=by simpa using h16
 have h17:=h 17 (by decide) (by decide)
 have g17:(op=17)=False:=by simpa using h17
 have h18:=h 18 (by decide) (by decide)
 have g18:(op=18)=False:=by simpa using h18
 have h19:=h 19 (by decide) (by decide)
 have g19:(op=19)=False:=by simpa using h19
 have h20:=h 20 (by decide) (by decide)
 have g20:(op=20)=False:=by simpa using h20
 have h21:=h 21 (by decide) (by decide)
 have g21:(op=21)=False:=by simpa using h21
 have h22:=h 22 (by decide) (by decide)
 have g22:(op=22)=False:=by simpa using h22
 have h23:=h 23 (by decide) (by decide)
 have g23:(op=23)=False:=by simpa using h23
 have h24:=h 24 (by decide) (by decide)
 have g24:(op=24)=False:=by simpa using h24
 have h25:=h 25 (by decide) (by decide)
 have g25:(op=25)=False:=by simpa using h25
 have h26:=h 26 (by decide) (by decide)
 have g26:(op=26)=False:=by simpa using h26
 have h27:=h 27 (by decide) (by decide)
 have g27:(op=27)=False:=by simpa using h27
 have h28:=h 28 (by decide) (by decide)
 have g28:(op=28)=False:=by simpa using h28
 have h29:=h 29 (by decide) (by decide)
 have g29:(op=29)=False:=by simpa using h29
 have h30:=h 30 (by decide) (by decide)
 have g30:(op=30)=False:=by simpa using h30
 have h31:=h 31 (by decide) (by decide)
 have g31:(op=31)=False:=by simpa using h31
 ·simp (maxSteps:=10000000) +contextual -implicitDefEqProofs only [bnC,bnS,St.put,↓reduceIte,Nat.reduceAdd,Int.reduceAdd,bnH,kA_eq,cdA_eq,spanC,h1,g1,h2,g2,h3,g3,h4,g4,h5,g5,h6,g6,h7,g7,h8,g8,h9,g9,h10,g10,h11,g11,h15,g15,h16,g16,h17,g17,h18,g18,h19,g19,h20,g20,h21,g21,h22,g22,h23,g23,h24,g24,h25,g25,h26,g26,h27,g27,h28,g28,h29,g29,h30,g30,h31,g31]
  all_goals done
 all_goals simp (maxSteps:=10000000) +contextual -implicitDefEqProofs only [bnC,bnS,St.put,↓reduceIte,reduceCtorEq,Nat.reduceAdd,Int.reduceEq,Nat.reduceBEq,bnT,Int.reduceAdd,bnH,kA_eq,cdA_eq,Int.reduceBEq,spanC,w1,w2,w3,w5,w6]
 all_goals done
def numB (c:Cd) (i:In):Bool:=match (effO i.op).2.2 with
 | 0=>i.a == 0
 | 1=>inI i.a (-2147483647) 2147483647
 | 2=>inI i.a 0 (c.vars.length - 1)
 | 3=>inI i.a 0 63
 | 9=>inI i.a 0 63
 | 4=>inI i.a 0 (c.pri.length - 1)
 | 5=>inI i.a 0 (c.tim - 1)
 | 6=>inI i.a 12 24
 | 7=>true
 | 8=>inI i.a 0 31
 | 10=>inI i.a 0 (c.evs - 1)
 | 11=>inI i.a 0 (c.strs.length - 1)
 | _=>false
noncomputable def f149:=mkF (fun p:Cd × In=>Fit p.1) (fun p=>[cdA p.1,inA p.2]) (fun p=>bA (numB p.1 p.2))
theorem e149 (c:Cd) (h:Fit c) (x:In):f149 [cdA c,inA x]=some (.sc (.bool (numB c x))):=
 (mkF_eq (q:=fun p:Cd × In=>Fit p.1) (enc:=fun p=>[cdA p.1,inA p.2]) (out:=fun p=>bA (numB p.1 p.2)) (c,x) h (by
  rintro ⟨a,b⟩ h
  simp only [List.cons.injEq,and_true] at h
  rw [cdA_inj h.1,inA_inj h.2]) :)
theorem ok149:POk Tryz.prog 149 f149:=pok_mk <| by
 rintro ⟨c,⟨op,a⟩⟩ hq
 simp only at hq
 obtain ⟨w1,w2,w3,w4,w5,w6⟩:=fit_wraps hq
 refine pspec_of_go (fEnv_ok ((.cons ok150 (.cons ok99 .nil))) (.nil)) rfl Tryz.func149 rfl (by decide) (by kernel_rfl) (by kernel_rfl) ?_
 simp only [Tryz.f149,initSt,List.length_cons,List.length_nil,Nat.reduceAdd,Nat.reduceSub,List.replicate]
 refine vc_go ?_
 have hE:=e150 op
 rcases op_cases op with (rfl | rfl | rfl | rfl | rfl | rfl | rfl | rfl | rfl | rfl | rfl | rfl | rfl | rfl | rfl | rfl | rfl | rfl | rfl | rfl | rfl | rfl | rfl | rfl | rfl | rfl | rfl | rfl | rfl | rfl | rfl) | h
 rotate_right
 have h1:=h 1 (by decide) (by decide)
 have g1:(op=1)=False:=by simpa using h1
 have h2:=h 2 (by decide) (by decide)
 have g2:(op=2)=False:=by simpa using h2
 have h3:=h 3 (by decide) (by decide)
 have g3:(op=3)=False:=by simpa using h3
 have h4:=h 4 (by decide) (by decide)
 have g4:(op=4)=False:=by simpa using h4
 have h5:=h 5 (by decide) (by decide)
 have g5:(op=5)=False:=by simpa using h5
 have h6:=h 6 (by decide) (by decide)
 have g6:(op=6)=False:=by simpa using h6
 have h7:=h 7 (by decide) (by decide)
 have g7:(op=7)=False:=by simpa using h7
 have h8:=h 8 (by decide) (by decide)
 have g8:(op=8)=False:=by simpa using h8
 have h9:=h 9 (by decide) (by decide)
 have g9:(op=9)=False:=by simpa using h9
 have h10:=h 10 (by decide) (by decide)
 have g10:(op=10)=False:=by simpa using h10
 have h11:=h 11 (by decide) (by decide)
 have g11:(op=11)=False:=by simpa using h11
 have h12:=h 12 (by decide) (by decide)
 have g12:(op=12)=False:=by simpa using h12
 have h13:=h 13 (by decide) (by decide)
 have g13:(op=13)=False:=by simpa using h13
 have h14:=h 14 (by decide) (by decide)
 have g14:(op=14)=False:=by simpa using h14
 have h15:=h 15 (by decide) (by decide)
 have g15:(op=15)=False:=by simpa using h15
 have h16:=h 16 (by decide) (by decide)
 have g16:(op=16)=False:=by simpa using h16
 have h17:=h 17 (by decide) (by decide)
 have g17:(op=17)=False:=by simpa using h17
 have h18:=h 18 (by decide) (by decide)
 have g18:(op=18)=False:=by simpa using h18
 have h19:=h 19 (by decide) (by decide)
 have g19:(op=19)=False:=by simpa using h19
 have h20:=h 20 (by decide) (by decide)
 have g20:(op=20)=False:=by simpa using h20
 have h21:=h 21 (by decide) (by decide)
 have g21:(op=21)=False:=by simpa using h21
 have h22:=h 22 (by decide) (by decide)
 have g22:(op=22)=False:=by simpa using h22
 have h23:=h 23 (by decide) (by decide)
 have g23:(op=23)=False:=by simpa using h23
 have h24:=h 24 (by decide) (by decide)
 have g24:(op=24)=False:=by simpa using h24
 have h25:=h 25 (by decide) (by decide)
 have g25:(op=25)=False:=by simpa using h25
 have h26:=h 26 (by decide) (by decide)
 have g26:(op=26)=False:=by simpa using h26
 have h27:=h 27 (by decide) (by decide)
 have g27:(op=27)=False:=by simpa using h27
 have h28:=h 28 (by decide) (by decide)
 have g28:(op=28)=False:=by simpa using h28
 have h29:=h 29 (by decide) (by decide)
 have g29:(op=29)=False:=by simpa using h29
 have h30:=h 30 (by decide) (by decide)
 have g30:(op=30)=False:=by simpa using h30
 have h31:=h 31 (by decide) (by decide)
 have g31:(op=31)=False:=by simpa using h31
 ·simp (maxSteps:=10000000) +contextual -implicitDefEqProofs only [bnC,bnS,St.put,borrow,borrows,pin,pl,↓reduceIte,reduceCtorEq,Nat.reduceAdd,Nat.reduceBEq,bnT,Int.reduceAdd,bnH,bA_eq,inA_eq,cdA_eq,Int.reduceBEq,hE,numB,effO,g1,g2,g3,g4,g5,g6,g7,g8,g9,g10,g11,g12,g13,g14,g15,g16,g17,g18,g19,g20,g21,g22,g23,g24,g25,g26,g27,g28,g29,g30,g31]
  all_goals done
 all_goals simp (maxSteps:=10000000) +contextual -implicitDefEqProofs only [bnC,bnS,St.put,borrow,borrows,pin,pl,↓reduceIte,reduceCtorEq,Nat.reduceAdd,Nat.reduceEqDiff,Int.reduceEq,Nat.reduceBEq,bnT,Int.reduceAdd,bnH,bA_eq,inA_eq,cdA_eq,Int.reduceBEq,hE,e99,numB,effO,w1,w2,w3,w5,w6]
 all_goals done
end Go.Proofs.YtdjpkhjaibdogaaGreat
