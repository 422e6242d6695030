/-
  Joined texts: EC.
  Conditions: none.
-/
import Derived.Test.YtdjpkhjaibdogaaGreatL40
namespace Go.Proofs.YtdjpkhjaibdogaaGreat
open Go Go.SX
set_option linter.unusedSimpArgs false
set_option linter.unusedVariables false
attribute [local congr] ite_congr
set_option maxRecDepth 100000
set_option maxHeartbeats 8000000
def D43 (args:List AV) (H:List Blk) (cnt:Nat) (r:AV) (H':List Blk) (cnt':Nat):Prop:=
 ∀ (t:Tp) (a d base:Nat) (R:List Blk),args=[.pt 0 t.v 0 0,.sc (.int .i64 (base:Int)),.sc (.int .i64 (d:Int))]→H=tpB t a::R→
  ∃ P ver,r=.sl (R.length+P.length+1) ver 0 (tStm t d base a).1.length∧H'=tpB t (tStm t d base a).2::(R++(P++[insB ver (tStm t d base a).1]))
noncomputable def f43:=hF Tryz.prog 43 D43
theorem ok43:HOk Tryz.prog 43 f43:=hF_ok _ _ _
theorem at43 (t:Tp) (d base a:Nat) (D:Int) (hD:D=(d:Int)) (R:List Blk) (cnt:Nat) (h:StmSpec t base d a R cnt (tStm t d base a)):
  ∃ P ver cnt',f43 [.pt 0 t.v 0 0,.sc (.int .i64 (base:Int)),.sc (.int .i64 D)] (⟨true,t.v,96,2,[.ag [.vw t.z (t.l.map uA),.sc (.int .i64 (a:Int))]],false⟩::R) cnt=
   some (.sl (R.length+P.length+1) ver 0 (tStm t d base a).1.length,⟨true,t.v,96,2,[.ag [.vw t.z (t.l.map uA),.sc (.int .i64 ((tStm t d base a).2:Int))]],false⟩::(R++(P++[⟨true,ver,102,2,(tStm t d base a).1.map inA,false⟩])),cnt'):=by
 subst hD
 obtain ⟨P,ver,c',h⟩:=h
 obtain ⟨r,H',c',e,d'⟩:=hF_eq (D:=D43) h (by
  intro t' a' d' b' R' h1 h2
  simp only [List.cons.injEq,and_true,AV.sc.injEq,Value.int.injEq,true_and] at h1 h2
  obtain ⟨⟨rfl,rfl⟩,rfl⟩:=And.intro (tpB_inj h2.1) h2.2
  obtain rfl:d=d':=by omega
  obtain rfl:base=b':=by omega
  exact ⟨P,ver,rfl,rfl⟩)
 obtain ⟨P,ver,rfl,rfl⟩:=d' t a d base R rfl rfl
 exact ⟨P,ver,c',e⟩
theorem stm_any (t:Tp) (ht:TpOk t) (base d a:Nat) (ha:a≤200) (R:List Blk) (cnt:Nat) (hk:tNx t a 15≤11):StmSpec t base d a R cnt (tLf t (tNx t a 15) (tAt t a)):=by
 obtain ⟨k,hk'⟩:∃ k,tNx t a 15=k:=⟨_,rfl⟩
 rw [hk'] at hk ⊢
 have:k=0∨k=1∨k=2∨k=3∨k=4∨k=5∨k=6∨k=7∨k=8∨k=9∨k=10∨k=11:=by omega
 rcases this with rfl | rfl | rfl | rfl | rfl | rfl | rfl | rfl | rfl | rfl | rfl | rfl
 ·exact stm_0 t ht base d a ha R cnt (.inl hk')
 ·exact stm_1 t ht base d a ha R cnt hk'
 ·exact stm_2 t ht base d a ha R cnt hk'
 ·exact stm_3 t ht base d a ha R cnt hk'
 ·exact stm_4 t ht base d a ha R cnt hk'
 ·exact stm_5 t ht base d a ha R cnt hk'
 ·exact stm_6 t ht base d a ha R cnt hk'
 ·exact stm_7 t ht base d a ha R cnt hk'
 ·exact stm_8 t ht base d a ha R cnt hk'
 ·exact stm_9 t ht base d a ha R cnt hk'
 ·exact stm_10 t ht base d a ha R cnt hk'
 ·exact stm_11 t ht base d a ha R cnt hk'
theorem stm_12 (t:Tp) (ht:TpOk t) (base d a:Nat) (ha:a≤200) (hd:d≤5) (hbs:base≤10000) (R:List Blk) (cnt:Nat) (hk:tNx t a 15=12) (ih:∀ (base' a:Nat) (_:base'≤base+100) (_:a≤200) (R:List Blk) (cnt:Nat),StmSpec t base' d a R cnt (tStm t d base' a)):StmSpec t base (d+1) a R cnt (tStm t (d+1) base a):=by
 have h1:tStm t (d+1) base a=((tVal t 1 (tAt t a)).1++[⟨13,((base+(tVal t 1 (tAt t a)).1.length+1+(tStm t d (base+(tVal t 1 (tAt t a)).1.length+1) (tVal t 1 (tAt t a)).2).1.length:Nat):Int)⟩]++(tStm t d (base+(tVal t 1 (tAt t a)).1.length+1) (tVal t 1 (tAt t a)).2).1,(tStm t d (base+(tVal t 1 (tAt t a)).1.length+1) (tVal t 1 (tAt t a)).2).2):=by
  rw [tStm,hk,if_pos rfl]
 rw [h1]
 have hb:=tAt_le ht ha
 have E0:=e42 t ht a 15 15 rfl (by omega) (by omega) ha R cnt
 rw [hk] at E0
 obtain ⟨b,hb'⟩:∃ b,tAt t a=b:=⟨_,rfl⟩
 rw [hb'] at hb E0 ⊢
 have hK:((12:Nat):Int)=12:=rfl
 rw [hK] at E0
 have c0:decide (((d+1:Nat):Int)≤0)=false:=by rw [decide_eq_false_iff_not]; omega
 have w0:IntKind.i64.wrap (((d+1:Nat):Int) - 1)=(d:Int):=by rw [wrap64 (by omega) (by omega)]; omega
 have hl1:=tVal_len t 1 b
 have hx2:=tVal_le ht 1 hb
 obtain ⟨P,ver,c1,E1⟩:=at83 t 1 b 1 rfl R cnt (value_spec t ht 1 b (by omega) hb R cnt)
 obtain ⟨Q,hQ,hQl⟩:∃ Q,R++P=Q∧R.length+P.length=Q.length:=⟨_,rfl,by simp⟩
 rw [←List.append_assoc,hQ,hQl] at E1
 obtain ⟨X,hX⟩:∃ X,(tVal t 1 b).1=X:=⟨_,rfl⟩
 obtain ⟨y,hy⟩:∃ y,(tVal t 1 b).2=y:=⟨_,rfl⟩
 rw [hX] at hl1
 rw [hy] at hx2
 simp only [hX,hy] at E1 ⊢
 have hX8:X.length≤8:=by omega
 have hl2:=tStm_len t d (base+X.length+1) y
 obtain ⟨P2,ver2,c2,E2⟩:=at43 t d (base+X.length+1) y (d:Int) rfl (Q++[⟨true,ver,102,2,X.map inA,false⟩]) c1 (ih _ _ (by omega) hx2 _ c1)
 obtain ⟨Y,hY⟩:∃ Y,(tStm t d (base+X.length+1) y).1=Y:=⟨_,rfl⟩
 obtain ⟨u,hu⟩:∃ u,(tStm t d (base+X.length+1) y).2=u:=⟨_,rfl⟩
 rw [hY] at hl2
 simp only [hY,hu] at E2 ⊢
 have w1:IntKind.i64.wrap ((base:Int)+(X.length:Int))=((base+X.length:Nat):Int):=by rw [wrap64 (by omega) (by omega)]; omega
 have w2:IntKind.i64.wrap (((base+X.length:Nat):Int)+1)=((base+X.length+1:Nat):Int):=by rw [wrap64 (by omega) (by omega)]; omega
 have w22:IntKind.i64.wrap (((base+X.length:Nat):Int)+2)=((base+X.length+2:Nat):Int):=by rw [wrap64 (by omega) (by omega)]; omega
 have w3:IntKind.i64.wrap (((base+X.length+1:Nat):Int)+(Y.length:Int))=((base+X.length+1+Y.length:Nat):Int):=by rw [wrap64 (by omega) (by omega)]; omega
 have w33:IntKind.i64.wrap (((base+X.length+2:Nat):Int)+(Y.length:Int))=((base+X.length+2+Y.length:Nat):Int):=by rw [wrap64 (by omega) (by omega)]; omega
 have hsz:decide ((X.length+1) * 16≤140737488355328)=true:=by rw [decide_eq_true_eq]; omega
 have hsz2:decide ((X.length+1+Y.length) * 16≤140737488355328)=true:=by rw [decide_eq_true_eq]; omega
 have hsz3:decide ((X.length+1+Y.length+1) * 16≤140737488355328)=true:=by rw [decide_eq_true_eq]; omega
 have htk:List.take X.length (X.map inA)=X.map inA:=List.take_of_length_le (by simp)
 have htk2:List.take Y.length (Y.map inA)=Y.map inA:=List.take_of_length_le (by simp)
 have htk3:∀ i:AV,List.take (X.length+1) (X.map inA++[i])=X.map inA++[i]:=fun i=>List.take_of_length_le (by simp)
 have htk4:∀ i:AV,List.take (X.length+1+Y.length) (X.map inA++i::Y.map inA)=X.map inA++i::Y.map inA:=fun i=>List.take_of_length_le (by simp; omega)
 have hma:X.map inA++(AV.ag [.sc (.int .i64 13),.sc (.int .i64 ((base+X.length+1+Y.length:Nat):Int))]::Y.map inA)=(X++(⟨13,((base+X.length+1+Y.length:Nat):Int)⟩::Y)).map inA:=by simp [inA,kA]
 have hle:X.length+(Y.length+1)=X.length+1+Y.length:=by omega
 refine ⟨P,c2+2,c2+3,?_⟩
 rw [←List.append_assoc R P,hQ,hQl]
 refine hspecW_of_go (gEnv_ok (lit:=false) (pm:=fun _=>none) .nil .nil .nil (.cons ok42 (.cons ok83 (.cons ok43 .nil)))) rfl Tryz.func43 rfl (by decide) (by kernel_rfl) ?_
 simp only [Tryz.f43,initSt,List.length_cons,List.length_nil,Nat.reduceAdd,Nat.reduceSub,List.replicate]
 simp only [tpB_eq,insB_eq]
 refine vc_go ?_
 simp (maxSteps:=10000000) +contextual -implicitDefEqProofs only [bnC,bnS,guardV,St.put,pin,↓reduceIte,Nat.reduceAdd,Nat.reduceLeDiff,Nat.reduceEqDiff,Nat.reduceMul,Int.reduceLT,Nat.reduceBEq,Nat.reduceLT,bnT,bnX,Int.reduceAdd,Int.reduceMul,bnH,hin,hl,Int.reduceBEq,E0,E1,E2,c0,w0,w1,w2,w3,hsz,hsz2,htk,htk2,htk3,hma,hle,app0,sc0,apP1,apP3,eq12,dlP,allSz_inA,List.append_assoc,List.length_append]
 all_goals exact wkH_cut _ _ _ _
 all_goals done
theorem stm_13 (t:Tp) (ht:TpOk t) (base d a:Nat) (ha:a≤200) (hd:d≤5) (hbs:base≤10000) (R:List Blk) (cnt:Nat) (hk:tNx t a 15=13) (ih:∀ (base' a:Nat) (_:base'≤base+100) (_:a≤200) (R:List Blk) (cnt:Nat),StmSpec t base' d a R cnt (tStm t d base' a)):StmSpec t base (d+1) a R cnt (tStm t (d+1) base a):=by
 have h1:tStm t (d+1) base a=((tVal t 0 (tAt t a)).1++[⟨14,((base+(tVal t 0 (tAt t a)).1.length+2+(tStm t d (base+(tVal t 0 (tAt t a)).1.length+1) (tVal t 0 (tAt t a)).2).1.length:Nat):Int)⟩]++(tStm t d (base+(tVal t 0 (tAt t a)).1.length+1) (tVal t 0 (tAt t a)).2).1++[⟨12,((base+(tVal t 0 (tAt t a)).1.length:Nat):Int)⟩],(tStm t d (base+(tVal t 0 (tAt t a)).1.length+1) (tVal t 0 (tAt t a)).2).2):=by
  rw [tStm,hk,if_neg (by omega),if_pos (by omega)]
 rw [h1]
 have hb:=tAt_le ht ha
 have E0:=e42 t ht a 15 15 rfl (by omega) (by omega) ha R cnt
 rw [hk] at E0
 obtain ⟨b,hb'⟩:∃ b,tAt t a=b:=⟨_,rfl⟩
 rw [hb'] at hb E0 ⊢
 have hK:((13:Nat):Int)=13:=rfl
 rw [hK] at E0
 have c0:decide (((d+1:Nat):Int)≤0)=false:=by rw [decide_eq_false_iff_not]; omega
 have w0:IntKind.i64.wrap (((d+1:Nat):Int) - 1)=(d:Int):=by rw [wrap64 (by omega) (by omega)]; omega
 have hl1:=tVal_len t 0 b
 have hx2:=tVal_le ht 0 hb
 obtain ⟨P,ver,c1,E1⟩:=at83 t 0 b 0 rfl R cnt (value_spec t ht 0 b (by omega) hb R cnt)
 obtain ⟨Q,hQ,hQl⟩:∃ Q,R++P=Q∧R.length+P.length=Q.length:=⟨_,rfl,by simp⟩
 rw [←List.append_assoc,hQ,hQl] at E1
 obtain ⟨X,hX⟩:∃ X,(tVal t 0 b).1=X:=⟨_,rfl⟩
 obtain ⟨y,hy⟩:∃ y,(tVal t 0 b).2=y:=⟨_,rfl⟩
 rw [hX] at hl1
 rw [hy] at hx2
 simp only [hX,hy] at E1 ⊢
 have hX8:X.length≤8:=by omega
 have hl2:=tStm_len t d (base+X.length+1) y
 obtain ⟨P2,ver2,c2,E2⟩:=at43 t d (base+X.length+1) y (d:Int) rfl (Q++[⟨true,ver,102,2,X.map inA,false⟩]) c1 (ih _ _ (by omega) hx2 _ c1)
 obtain ⟨Y,hY⟩:∃ Y,(tStm t d (base+X.length+1) y).1=Y:=⟨_,rfl⟩
 obtain ⟨u,hu⟩:∃ u,(tStm t d (base+X.length+1) y).2=u:=⟨_,rfl⟩
 rw [hY] at hl2
 simp only [hY,hu] at E2 ⊢
 have w1:IntKind.i64.wrap ((base:Int)+(X.length:Int))=((base+X.length:Nat):Int):=by rw [wrap64 (by omega) (by omega)]; omega
 have w2:IntKind.i64.wrap (((base+X.length:Nat):Int)+1)=((base+X.length+1:Nat):Int):=by rw [wrap64 (by omega) (by omega)]; omega
 have w22:IntKind.i64.wrap (((base+X.length:Nat):Int)+2)=((base+X.length+2:Nat):Int):=by rw [wrap64 (by omega) (by omega)]; omega
 have w3:IntKind.i64.wrap (((base+X.length+1:Nat):Int)+(Y.length:Int))=((base+X.length+1+Y.length:Nat):Int):=by rw [wrap64 (by omega) (by omega)]; omega
 have w33:IntKind.i64.wrap (((base+X.length+2:Nat):Int)+(Y.length:Int))=((base+X.length+2+Y.length:Nat):Int):=by rw [wrap64 (by omega) (by omega)]; omega
 have hsz:decide ((X.length+1) * 16≤140737488355328)=true:=by rw [decide_eq_true_eq]; omega
 have hsz2:decide ((X.length+1+Y.length) * 16≤140737488355328)=true:=by rw [decide_eq_true_eq]; omega
 have hsz3:decide ((X.length+1+Y.length+1) * 16≤140737488355328)=true:=by rw [decide_eq_true_eq]; omega
 have htk:List.take X.length (X.map inA)=X.map inA:=List.take_of_length_le (by simp)
 have htk2:List.take Y.length (Y.map inA)=Y.map inA:=List.take_of_length_le (by simp)
 have htk3:∀ i:AV,List.take (X.length+1) (X.map inA++[i])=X.map inA++[i]:=fun i=>List.take_of_length_le (by simp)
 have htk4:∀ i:AV,List.take (X.length+1+Y.length) (X.map inA++i::Y.map inA)=X.map inA++i::Y.map inA:=fun i=>List.take_of_length_le (by simp; omega)
 have hma:X.map inA++(AV.ag [.sc (.int .i64 14),.sc (.int .i64 ((base+X.length+2+Y.length:Nat):Int))]::(Y.map inA++[AV.ag [.sc (.int .i64 12),.sc (.int .i64 ((base+X.length:Nat):Int))]]))=(X++(⟨14,((base+X.length+2+Y.length:Nat):Int)⟩::(Y++[(⟨12,((base+X.length:Nat):Int)⟩:In)]))).map inA:=by simp [inA,kA]
 have hle:X.length+(Y.length+1+1)=X.length+1+Y.length+1:=by omega
 refine ⟨P,c2+4,c2+5,?_⟩
 rw [←List.append_assoc R P,hQ,hQl]
 refine hspecW_of_go (gEnv_ok (lit:=false) (pm:=fun _=>none) .nil .nil .nil (.cons ok42 (.cons ok83 (.cons ok43 .nil)))) rfl Tryz.func43 rfl (by decide) (by kernel_rfl) ?_
 simp only [Tryz.f43,initSt,List.length_cons,List.length_nil,Nat.reduceAdd,Nat.reduceSub,List.replicate]
 simp only [tpB_eq,insB_eq]
 refine vc_go ?_
 simp (maxSteps:=10000000) +contextual -implicitDefEqProofs only [bnC,bnS,guardV,St.put,pin,↓reduceIte,Nat.reduceAdd,Nat.reduceLeDiff,Nat.reduceEqDiff,Nat.reduceMul,Int.reduceLT,Nat.reduceBEq,Nat.reduceLT,bnT,bnX,Int.reduceAdd,Int.reduceMul,bnH,hin,hl,Int.reduceBEq,E0,E1,E2,c0,w0,w1,w2,w22,w33,hsz,hsz2,hsz3,htk,htk2,htk3,htk4,hma,hle,app0,sc0,apP1,apP3,eq12,dlP,allSz_inA,List.append_assoc,List.length_append]
 all_goals exact wkH_cut _ _ _ _
 all_goals done
theorem stm_14 (t:Tp) (ht:TpOk t) (base d a:Nat) (ha:a≤200) (hd:d≤5) (hbs:base≤10000) (R:List Blk) (cnt:Nat) (hk:tNx t a 15=14) (ih:∀ (base' a:Nat) (_:base'≤base+100) (_:a≤200) (R:List Blk) (cnt:Nat),StmSpec t base' d a R cnt (tStm t d base' a)):StmSpec t base (d+1) a R cnt (tStm t (d+1) base a):=by
 have h1:tStm t (d+1) base a=((tVal t 0 (tAt t a)).1++[⟨14,((base+(tVal t 0 (tAt t a)).1.length+2+(tStm t d (base+(tVal t 0 (tAt t a)).1.length+1) (tVal t 0 (tAt t a)).2).1.length:Nat):Int)⟩]++(tStm t d (base+(tVal t 0 (tAt t a)).1.length+1) (tVal t 0 (tAt t a)).2).1++[⟨12,((base+(tVal t 0 (tAt t a)).1.length:Nat):Int)⟩],(tStm t d (base+(tVal t 0 (tAt t a)).1.length+1) (tVal t 0 (tAt t a)).2).2):=by
  rw [tStm,hk,if_neg (by omega),if_pos (by omega)]
 rw [h1]
 have hb:=tAt_le ht ha
 have E0:=e42 t ht a 15 15 rfl (by omega) (by omega) ha R cnt
 rw [hk] at E0
 obtain ⟨b,hb'⟩:∃ b,tAt t a=b:=⟨_,rfl⟩
 rw [hb'] at hb E0 ⊢
 have hK:((14:Nat):Int)=14:=rfl
 rw [hK] at E0
 have c0:decide (((d+1:Nat):Int)≤0)=false:=by rw [decide_eq_false_iff_not]; omega
 have w0:IntKind.i64.wrap (((d+1:Nat):Int) - 1)=(d:Int):=by rw [wrap64 (by omega) (by omega)]; omega
 have hl1:=tVal_len t 0 b
 have hx2:=tVal_le ht 0 hb
 obtain ⟨P,ver,c1,E1⟩:=at83 t 0 b 0 rfl R cnt (value_spec t ht 0 b (by omega) hb R cnt)
 obtain ⟨Q,hQ,hQl⟩:∃ Q,R++P=Q∧R.length+P.length=Q.length:=⟨_,rfl,by simp⟩
 rw [←List.append_assoc,hQ,hQl] at E1
 obtain ⟨X,hX⟩:∃ X,(tVal t 0 b).1=X:=⟨_,rfl⟩
 obtain ⟨y,hy⟩:∃ y,(tVal t 0 b).2=y:=⟨_,rfl⟩
 rw [hX] at hl1
 rw [hy] at hx2
 simp only [hX,hy] at E1 ⊢
 have hX8:X.length≤8:=by omega
 have hl2:=tStm_len t d (base+X.length+1) y
 obtain ⟨P2,ver2,c2,E2⟩:=at43 t d (base+X.length+1) y (d:Int) rfl (Q++[⟨true,ver,102,2,X.map inA,false⟩]) c1 (ih _ _ (by omega) hx2 _ c1)
 obtain ⟨Y,hY⟩:∃ Y,(tStm t d (base+X.length+1) y).1=Y:=⟨_,rfl⟩
 obtain ⟨u,hu⟩:∃ u,(tStm t d (base+X.length+1) y).2=u:=⟨_,rfl⟩
 rw [hY] at hl2
 simp only [hY,hu] at E2 ⊢
 have w1:IntKind.i64.wrap ((base:Int)+(X.length:Int))=((base+X.length:Nat):Int):=by rw [wrap64 (by omega) (by omega)]; omega
 have w2:IntKind.i64.wrap (((base+X.length:Nat):Int)+1)=((base+X.length+1:Nat):Int):=by rw [wrap64 (by omega) (by omega)]; omega
 have w22:IntKind.i64.wrap (((base+X.length:Nat):Int)+2)=((base+X.length+2:Nat):Int):=by rw [wrap64 (by omega) (by omega)]; omega
 have w3:IntKind.i64.wrap (((base+X.length+1:Nat):Int)+(Y.length:Int))=((base+X.length+1+Y.length:Nat):Int):=by rw [wrap64 (by omega) (by omega)]; omega
 have w33:IntKind.i64.wrap (((base+X.length+2:Nat):Int)+(Y.length:Int))=((base+X.length+2+Y.length:Nat):Int):=by rw [wrap64 (by omega) (by omega)]; omega
 have hsz:decide ((X.length+1) * 16≤140737488355328)=true:=by rw [decide_eq_true_eq]; omega
 have hsz2:decide ((X.length+1+Y.length) * 16≤140737488355328)=true:=by rw [decide_eq_true_eq]; omega
 have hsz3:decide ((X.length+1+Y.length+1) * 16≤140737488355328)=true:=by rw [decide_eq_true_eq]; omega
 have htk:List.take X.length (X.map inA)=X.map inA:=List.take_of_length_le (by simp)
 have htk2:List.take Y.length (Y.map inA)=Y.map inA:=List.take_of_length_le (by simp)
 have htk3:∀ i:AV,List.take (X.length+1) (X.map inA++[i])=X.map inA++[i]:=fun i=>List.take_of_length_le (by simp)
 have htk4:∀ i:AV,List.take (X.length+1+Y.length) (X.map inA++i::Y.map inA)=X.map inA++i::Y.map inA:=fun i=>List.take_of_length_le (by simp; omega)
 have hma:X.map inA++(AV.ag [.sc (.int .i64 14),.sc (.int .i64 ((base+X.length+2+Y.length:Nat):Int))]::(Y.map inA++[AV.ag [.sc (.int .i64 12),.sc (.int .i64 ((base+X.length:Nat):Int))]]))=(X++(⟨14,((base+X.length+2+Y.length:Nat):Int)⟩::(Y++[(⟨12,((base+X.length:Nat):Int)⟩:In)]))).map inA:=by simp [inA,kA]
 have hle:X.length+(Y.length+1+1)=X.length+1+Y.length+1:=by omega
 refine ⟨P,c2+4,c2+5,?_⟩
 rw [←List.append_assoc R P,hQ,hQl]
 refine hspecW_of_go (gEnv_ok (lit:=false) (pm:=fun _=>none) .nil .nil .nil (.cons ok42 (.cons ok83 (.cons ok43 .nil)))) rfl Tryz.func43 rfl (by decide) (by kernel_rfl) ?_
 simp only [Tryz.f43,initSt,List.length_cons,List.length_nil,Nat.reduceAdd,Nat.reduceSub,List.replicate]
 simp only [tpB_eq,insB_eq]
 refine vc_go ?_
 simp (maxSteps:=10000000) +contextual -implicitDefEqProofs only [bnC,bnS,guardV,St.put,pin,↓reduceIte,Nat.reduceAdd,Nat.reduceLeDiff,Nat.reduceEqDiff,Nat.reduceMul,Int.reduceLT,Nat.reduceBEq,Nat.reduceLT,bnT,bnX,Int.reduceAdd,Int.reduceMul,bnH,hin,hl,Int.reduceBEq,E0,E1,E2,c0,w0,w1,w2,w22,w33,hsz,hsz2,hsz3,htk,htk2,htk3,htk4,hma,hle,app0,sc0,apP1,apP3,eq12,dlP,allSz_inA,List.append_assoc,List.length_append]
 all_goals exact wkH_cut _ _ _ _
 all_goals done
theorem stmt_spec (t:Tp) (ht:TpOk t):∀ (d base a:Nat) (_:d≤5) (_:base+100 * d≤10000) (_:a≤200) (R:List Blk) (cnt:Nat),StmSpec t base d a R cnt (tStm t d base a)
 | 0,base,a,hd,hbs,ha,R,cnt=>by
  have hk:tNx t a 15 < 15:=tNx_lt (by omega)
  by_cases h:tNx t a 15≤11
  ·have:=stm_any t ht base 0 a ha R cnt h
   rw [tStm,if_neg (by omega)]
   exact this
  ·rw [tStm,if_pos (by omega)]
   exact stm_0 t ht base 0 a ha R cnt (.inr ⟨by omega,rfl⟩)
 | d+1,base,a,hd,hbs,ha,R,cnt=>by
  have hk:tNx t a 15 < 15:=tNx_lt (by omega)
  have ih:=stmt_spec t ht d
  by_cases h:tNx t a 15≤11
  ·have:=stm_any t ht base (d+1) a ha R cnt h
   rw [tStm,if_neg (by omega),if_neg (by omega)]
   exact this
  ·have h3:tNx t a 15=12∨tNx t a 15=13∨tNx t a 15=14:=by omega
   rcases h3 with h3 | h3 | h3
   ·exact stm_12 t ht base d a ha (by omega) (by omega) R cnt h3 fun b x hb hx R c=>ih b x (by omega) (by omega) hx R c
   ·exact stm_13 t ht base d a ha (by omega) (by omega) R cnt h3 fun b x hb hx R c=>ih b x (by omega) (by omega) hx R c
   ·exact stm_14 t ht base d a ha (by omega) (by omega) R cnt h3 fun b x hb hx R c=>ih b x (by omega) (by omega) hx R c
end Go.Proofs.YtdjpkhjaibdogaaGreat
