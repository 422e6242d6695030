/-
  Joined texts: EB.
  Conditions: none.
-/
import Derived.Test.YtdjpkhjaibdogaaGreatL39
namespace Go.Proofs.YtdjpkhjaibdogaaGreat
open Go Go.SX
set_option linter.unusedSimpArgs false
set_option linter.unusedVariables false
attribute [local congr] ite_congr
set_option maxRecDepth 100000
set_option maxHeartbeats 8000000
def tLf (t:Tp) (k a:Nat):List In × Nat:=
 if k=1 then ((tVal t 1 a).1++[⟨15,0⟩],(tVal t 1 a).2)
 else if k=2 then ([⟨16+(tNx t a 3:Nat),(tNx t (tAt t a) 32:Nat)⟩],tAt t (tAt t a))
 else if k=3 then ((tVal t 0 a).1++[⟨19,(tNx t (tVal t 0 a).2 64:Nat)⟩],tAt t (tVal t 0 a).2)
 else if k=4 then ((tVal t 0 a).1++(tVal t 0 (tVal t 0 a).2).1++[⟨20,(tNx t (tVal t 0 (tVal t 0 a).2).2 64:Nat)⟩],tAt t (tVal t 0 (tVal t 0 a).2).2)
 else if k=5 then ((tVal t 1 a).1++[⟨21,(tNx t (tVal t 1 a).2 2:Nat)⟩],tAt t (tVal t 1 a).2)
 else if k=6 then ([⟨22,(tNx t a 2:Nat)⟩],tAt t a)
 else if k=7 then ([⟨23+(tNx t a 2:Nat),(tNx t (tAt t a) 2:Nat)⟩],tAt t (tAt t a))
 else if k=8 then ([⟨25,(tNx t a 2:Nat)⟩],tAt t a)
 else if k=9 then ([⟨26+(tNx t a 3:Nat),(tNx t (tAt t a) 64:Nat)⟩],tAt t (tAt t a))
 else if k=10 then ((tVal t 1 a).1++[⟨29,(tNx t (tVal t 1 a).2 2:Nat)⟩],tAt t (tVal t 1 a).2)
 else if k=11 then ([⟨30,0⟩],a)
 else ((tVal t 2 a).1++[⟨3,(tNx t (tVal t 2 a).2 3:Nat)⟩],tAt t (tVal t 2 a).2)
def tStm (t:Tp):Nat→Nat→Nat→List In × Nat
 | 0,base,a=>tLf t (if 11 < tNx t a 15 then 0 else tNx t a 15) (tAt t a)
 | d+1,base,a=>
  if tNx t a 15=12 then
   let x:=tVal t 1 (tAt t a)
   let y:=tStm t d (base+x.1.length+1) x.2
   (x.1++[⟨13,((base+x.1.length+1+y.1.length:Nat):Int)⟩]++y.1,y.2)
  else if tNx t a 15=13∨tNx t a 15=14 then
   let x:=tVal t 0 (tAt t a)
   let y:=tStm t d (base+x.1.length+1) x.2
   (x.1++[⟨14,((base+x.1.length+2+y.1.length:Nat):Int)⟩]++y.1++[⟨12,((base+x.1.length:Nat):Int)⟩],y.2)
  else tLf t (tNx t a 15) (tAt t a)
theorem ite_p {α:Type} {c:Prop} [Decidable c] {x y:α} {p:α→Prop} (h1:p x) (h2:p y):p (if c then x else y):=by split <;> assumption
theorem tLf_le {t:Tp} (ht:TpOk t) (k:Nat) {a:Nat} (h:a≤200):(tLf t k a).2≤200:=by
 unfold tLf
 refine ite_p (p:=fun x:List In × Nat=>x.2≤200) ?_ (ite_p (p:=fun x:List In × Nat=>x.2≤200) ?_ (ite_p (p:=fun x:List In × Nat=>x.2≤200) ?_ (ite_p (p:=fun x:List In × Nat=>x.2≤200) ?_ (ite_p (p:=fun x:List In × Nat=>x.2≤200) ?_ (ite_p (p:=fun x:List In × Nat=>x.2≤200) ?_ (ite_p (p:=fun x:List In × Nat=>x.2≤200) ?_ (ite_p (p:=fun x:List In × Nat=>x.2≤200) ?_ (ite_p (p:=fun x:List In × Nat=>x.2≤200) ?_ (ite_p (p:=fun x:List In × Nat=>x.2≤200) ?_ (ite_p (p:=fun x:List In × Nat=>x.2≤200) ?_ ?_))))))))))
 all_goals dsimp only
 all_goals first | exact h | exact tAt_le ht h | exact tAt_le ht (tAt_le ht h) | exact tVal_le (a:=a) ht 1 h | exact tAt_le ht (tVal_le (a:=a) ht 0 h) | exact tAt_le ht (tVal_le (a:=a) ht 1 h) | exact tAt_le ht (tVal_le (a:=a) ht 2 h) | exact tAt_le ht (tVal_le (a:=(tVal t 0 a).2) ht 0 (tVal_le (a:=a) ht 0 h))
theorem tLf_len (t:Tp) (k a:Nat):(tLf t k a).1.length≤8:=by
 have h0:=tVal_len t 0 a
 have h1:=tVal_len t 1 a
 have h2:=tVal_len t 2 a
 have h3:=tVal_len t 0 (tVal t 0 a).2
 unfold tLf
 refine ite_p (p:=fun x:List In × Nat=>x.1.length≤8) ?_ (ite_p (p:=fun x:List In × Nat=>x.1.length≤8) ?_ (ite_p (p:=fun x:List In × Nat=>x.1.length≤8) ?_ (ite_p (p:=fun x:List In × Nat=>x.1.length≤8) ?_ (ite_p (p:=fun x:List In × Nat=>x.1.length≤8) ?_ (ite_p (p:=fun x:List In × Nat=>x.1.length≤8) ?_ (ite_p (p:=fun x:List In × Nat=>x.1.length≤8) ?_ (ite_p (p:=fun x:List In × Nat=>x.1.length≤8) ?_ (ite_p (p:=fun x:List In × Nat=>x.1.length≤8) ?_ (ite_p (p:=fun x:List In × Nat=>x.1.length≤8) ?_ (ite_p (p:=fun x:List In × Nat=>x.1.length≤8) ?_ ?_))))))))))
 all_goals simp only [List.length_append,List.length_cons,List.length_nil]
 all_goals omega
theorem tStm_le {t:Tp} (ht:TpOk t):∀ (d base:Nat) {a:Nat},a≤200→(tStm t d base a).2≤200
 | 0,base,a,h=>tLf_le ht _ (tAt_le ht h)
 | d+1,base,a,h=>by
  rw [tStm]
  split
  ·exact tStm_le ht d _ (tVal_le (a:=tAt t a) ht 1 (tAt_le ht h))
  ·split
   ·exact tStm_le ht d _ (tVal_le (a:=tAt t a) ht 0 (tAt_le ht h))
   ·exact tLf_le ht _ (tAt_le ht h)
theorem tStm_len (t:Tp):∀ (d base a:Nat),(tStm t d base a).1.length≤8+4 * d
 | 0,base,a=>tLf_len t _ _
 | d+1,base,a=>by
  have h0:=tVal_len t 0 (tAt t a)
  have h1:=tVal_len t 1 (tAt t a)
  rw [tStm]
  split
  ·have:=tStm_len t d (base+(tVal t 1 (tAt t a)).1.length+1) (tVal t 1 (tAt t a)).2
   simp only [List.length_append,List.length_cons,List.length_nil]; omega
  ·split
   ·have:=tStm_len t d (base+(tVal t 0 (tAt t a)).1.length+1) (tVal t 0 (tAt t a)).2
    simp only [List.length_append,List.length_cons,List.length_nil]; omega
   ·have:=tLf_len t (tNx t a 15) (tAt t a)
    omega
def StmSpec (t:Tp) (base d a:Nat) (R:List Blk) (cnt:Nat) (X:List In × Nat):Prop:=
 ∃ P ver cnt',HSpec Tryz.prog 43 [.pt 0 t.v 0 0,.sc (.int .i64 (base:Int)),.sc (.int .i64 (d:Int))] (tpB t a::R) cnt (.sl (R.length+P.length+1) ver 0 X.1.length) (tpB t X.2::(R++(P++[insB ver X.1]))) cnt'
theorem stm_1 (t:Tp) (ht:TpOk t) (base d a:Nat) (ha:a≤200) (R:List Blk) (cnt:Nat) (hk:tNx t a 15=1):StmSpec t base d a R cnt (tLf t 1 (tAt t a)):=by
 have hb:=tAt_le ht ha
 have E0:=e42 t ht a 15 15 rfl (by omega) (by omega) ha R cnt
 rw [hk] at E0
 obtain ⟨b,hb'⟩:∃ b,tAt t a=b:=⟨_,rfl⟩
 rw [hb'] at hb E0 ⊢
 have hK:((1:Nat):Int)=1:=rfl
 rw [hK] at E0
 obtain ⟨c0,hc0⟩:∃ c0,decide ((d:Int)≤0)=c0:=⟨_,rfl⟩
 have hlf:tLf t 1 b=((tVal t 1 b).1++[⟨15,0⟩],(tVal t 1 b).2):=rfl
 rw [hlf]
 have hl1:=tVal_len t 1 b
 have hx2:=tVal_le ht 1 hb
 obtain ⟨P,ver,c1,E1⟩:=at83 t 1 b 1 rfl R cnt (value_spec t ht 1 b (by omega) hb R cnt)
 obtain ⟨Q,hQ,hQl⟩:∃ Q,R++P=Q∧R.length+P.length=Q.length:=⟨_,rfl,by simp⟩
 rw [←List.append_assoc,hQ,hQl] at E1
 obtain ⟨X,hX⟩:∃ X,(tVal t 1 b).1=X:=⟨_,rfl⟩
 obtain ⟨y,hy⟩:∃ y,(tVal t 1 b).2=y:=⟨_,rfl⟩
 rw [hX] at hl1
 simp only [hX,hy] at E1 ⊢
 have hsz:decide ((X.length+1) * 16≤140737488355328)=true:=by rw [decide_eq_true_eq]; omega
 have htk:List.take X.length (X.map inA)=X.map inA:=List.take_of_length_le (by simp)
 refine ⟨P,c1+1,c1+2,?_⟩
 rw [←List.append_assoc,hQ,hQl]
 have hma:X.map inA++[.ag [.sc (.int .i64 15),.sc (.int .i64 (0))]]=(X++[(⟨15,0⟩:In)]).map inA:=by rw [List.map_append]; rfl
 refine hspecW_of_go (gEnv_ok (lit:=false) (pm:=fun _=>none) .nil .nil .nil (.cons ok42 (.cons ok83 .nil))) rfl Tryz.func43 rfl (by decide) (by kernel_rfl) ?_
 simp only [Tryz.f43,initSt,List.length_cons,List.length_nil,Nat.reduceAdd,Nat.reduceSub,List.replicate]
 simp only [tpB_eq,insB_eq]
 cases c0
 all_goals refine vc_go ?_
 all_goals simp (maxSteps:=10000000) +contextual -implicitDefEqProofs only [bnC,bnS,guardV,St.put,pin,↓reduceIte,Nat.reduceAdd,Nat.reduceLeDiff,Nat.reduceEqDiff,Nat.reduceMul,Int.reduceLT,Nat.reduceLT,bnT,bnX,Int.reduceAdd,Int.reduceMul,bnH,hin,hl,E0,E1,hsz,htk,hma,hc0,app0,app1,sc0,dl2,List.append_assoc,List.length_append]
 all_goals first | exact .refl _ | exact wkH_self _ _ | skip
 all_goals done
theorem stm_2 (t:Tp) (ht:TpOk t) (base d a:Nat) (ha:a≤200) (R:List Blk) (cnt:Nat) (hk:tNx t a 15=2):StmSpec t base d a R cnt (tLf t 2 (tAt t a)):=by
 have hb:=tAt_le ht ha
 have E0:=e42 t ht a 15 15 rfl (by omega) (by omega) ha R cnt
 rw [hk] at E0
 obtain ⟨b,hb'⟩:∃ b,tAt t a=b:=⟨_,rfl⟩
 rw [hb'] at hb E0 ⊢
 have hK:((2:Nat):Int)=2:=rfl
 rw [hK] at E0
 obtain ⟨c0,hc0⟩:∃ c0,decide ((d:Int)≤0)=c0:=⟨_,rfl⟩
 have hlf:tLf t 2 b=([⟨16+(tNx t b 3:Nat),(tNx t (tAt t b) 32:Nat)⟩],tAt t (tAt t b)):=rfl
 rw [hlf]
 have E1:=e42 t ht b 3 3 rfl (by omega) (by omega) hb R cnt
 have E2:=e42 t ht (tAt t b) 32 32 rfl (by omega) (by omega) (tAt_le ht hb) R cnt
 have w9:IntKind.i64.wrap (16+((tNx t b 3:Nat):Int))=16+((tNx t b 3:Nat):Int):=by
  have:=tNx_lt (t:=t) (a:=b) (n:=3) (by omega)
  exact wrap64 (by omega) (by omega)
 refine ⟨[],cnt,cnt+1,?_⟩
 simp only [List.nil_append,List.length_nil,Nat.add_zero]
 refine hspecW_of_go (gEnv_ok (lit:=false) (pm:=fun _=>none) .nil .nil .nil (.cons ok42 (.cons ok83 .nil))) rfl Tryz.func43 rfl (by decide) (by kernel_rfl) ?_
 simp only [Tryz.f43,initSt,List.length_cons,List.length_nil,Nat.reduceAdd,Nat.reduceSub,List.replicate]
 simp only [tpB_eq,insB_eq]
 cases c0
 all_goals refine vc_go ?_
 all_goals simp (maxSteps:=10000000) +contextual -implicitDefEqProofs only [bnC,bnS,guardV,St.put,pin,↓reduceIte,Nat.reduceAdd,Nat.reduceLeDiff,Nat.reduceMul,Int.reduceLT,Nat.reduceBEq,Nat.reduceLT,bnT,bnX,Int.reduceAdd,Int.reduceMul,bnH,hin,hl,inA_eq,Int.reduceBEq,E0,E1,E2,w9,hc0]
 all_goals first | exact wkH_tmp _ _ _ _ _ _ _ _ rfl | exact .refl _ | exact wkH_self _ _ | skip
 all_goals done
theorem stm_3 (t:Tp) (ht:TpOk t) (base d a:Nat) (ha:a≤200) (R:List Blk) (cnt:Nat) (hk:tNx t a 15=3):StmSpec t base d a R cnt (tLf t 3 (tAt t a)):=by
 have hb:=tAt_le ht ha
 have E0:=e42 t ht a 15 15 rfl (by omega) (by omega) ha R cnt
 rw [hk] at E0
 obtain ⟨b,hb'⟩:∃ b,tAt t a=b:=⟨_,rfl⟩
 rw [hb'] at hb E0 ⊢
 have hK:((3:Nat):Int)=3:=rfl
 rw [hK] at E0
 obtain ⟨c0,hc0⟩:∃ c0,decide ((d:Int)≤0)=c0:=⟨_,rfl⟩
 have hlf:tLf t 3 b=((tVal t 0 b).1++[⟨19,(tNx t (tVal t 0 b).2 64:Nat)⟩],tAt t (tVal t 0 b).2):=rfl
 rw [hlf]
 have hl1:=tVal_len t 0 b
 have hx2:=tVal_le ht 0 hb
 obtain ⟨P,ver,c1,E1⟩:=at83 t 0 b 0 rfl R cnt (value_spec t ht 0 b (by omega) hb R cnt)
 obtain ⟨Q,hQ,hQl⟩:∃ Q,R++P=Q∧R.length+P.length=Q.length:=⟨_,rfl,by simp⟩
 rw [←List.append_assoc,hQ,hQl] at E1
 have E2:=e42 t ht (tVal t 0 b).2 64 64 rfl (by omega) (by omega) hx2 (Q++[⟨true,ver,102,2,(tVal t 0 b).1.map inA,false⟩]) c1
 obtain ⟨X,hX⟩:∃ X,(tVal t 0 b).1=X:=⟨_,rfl⟩
 obtain ⟨y,hy⟩:∃ y,(tVal t 0 b).2=y:=⟨_,rfl⟩
 rw [hX] at hl1
 simp only [hX,hy] at E1 E2 ⊢
 have hsz:decide ((X.length+1) * 16≤140737488355328)=true:=by rw [decide_eq_true_eq]; omega
 have htk:List.take X.length (X.map inA)=X.map inA:=List.take_of_length_le (by simp)
 refine ⟨P,c1+1,c1+2,?_⟩
 rw [←List.append_assoc,hQ,hQl]
 have hma:X.map inA++[.ag [.sc (.int .i64 19),.sc (.int .i64 (((tNx t y 64:Nat):Int)))]]=(X++[(⟨19,((tNx t y 64:Nat):Int)⟩:In)]).map inA:=by rw [List.map_append]; rfl
 refine hspecW_of_go (gEnv_ok (lit:=false) (pm:=fun _=>none) .nil .nil .nil (.cons ok42 (.cons ok83 .nil))) rfl Tryz.func43 rfl (by decide) (by kernel_rfl) ?_
 simp only [Tryz.f43,initSt,List.length_cons,List.length_nil,Nat.reduceAdd,Nat.reduceSub,List.replicate]
 simp only [tpB_eq,insB_eq]
 cases c0
 all_goals refine vc_go ?_
 all_goals simp (maxSteps:=10000000) +contextual -implicitDefEqProofs only [bnC,bnS,guardV,St.put,pin,↓reduceIte,Nat.reduceAdd,Nat.reduceLeDiff,Nat.reduceEqDiff,Nat.reduceMul,Int.reduceLT,Nat.reduceBEq,Nat.reduceLT,bnT,bnX,Int.reduceAdd,Int.reduceMul,bnH,hin,hl,Int.reduceBEq,E0,E1,E2,hsz,htk,hma,hc0,app0,app1,sc0,dl2,List.append_assoc,List.length_append]
 all_goals first | exact .refl _ | exact wkH_self _ _ | skip
 all_goals done
theorem stm_4 (t:Tp) (ht:TpOk t) (base d a:Nat) (ha:a≤200) (R:List Blk) (cnt:Nat) (hk:tNx t a 15=4):StmSpec t base d a R cnt (tLf t 4 (tAt t a)):=by
 have hb:=tAt_le ht ha
 have E0:=e42 t ht a 15 15 rfl (by omega) (by omega) ha R cnt
 rw [hk] at E0
 obtain ⟨b,hb'⟩:∃ b,tAt t a=b:=⟨_,rfl⟩
 rw [hb'] at hb E0 ⊢
 have hK:((4:Nat):Int)=4:=rfl
 rw [hK] at E0
 obtain ⟨c0,hc0⟩:∃ c0,decide ((d:Int)≤0)=c0:=⟨_,rfl⟩
 have hlf:tLf t 4 b=((tVal t 0 b).1++(tVal t 0 (tVal t 0 b).2).1++[⟨20,(tNx t (tVal t 0 (tVal t 0 b).2).2 64:Nat)⟩],tAt t (tVal t 0 (tVal t 0 b).2).2):=rfl
 rw [hlf]
 have hl1:=tVal_len t 0 b
 have hx2:=tVal_le ht 0 hb
 have hl2:=tVal_len t 0 (tVal t 0 b).2
 have hx3:=tVal_le ht 0 hx2
 obtain ⟨P,ver,c1,E1⟩:=at83 t 0 b 0 rfl R cnt (value_spec t ht 0 b (by omega) hb R cnt)
 obtain ⟨Q,hQ,hQl⟩:∃ Q,R++P=Q∧R.length+P.length=Q.length:=⟨_,rfl,by simp⟩
 rw [←List.append_assoc,hQ,hQl] at E1
 obtain ⟨P2,ver2,c2,E2⟩:=at83 t 0 (tVal t 0 b).2 0 rfl (Q++[⟨true,ver,102,2,(tVal t 0 b).1.map inA,false⟩]) c1 (value_spec t ht 0 _ (by omega) hx2 _ c1)
 have E3:=e42 t ht (tVal t 0 (tVal t 0 b).2).2 64 64 rfl (by omega) (by omega) hx3
 obtain ⟨X,hX⟩:∃ X,(tVal t 0 b).1=X:=⟨_,rfl⟩
 obtain ⟨y,hy⟩:∃ y,(tVal t 0 b).2=y:=⟨_,rfl⟩
 rw [hX] at hl1
 rw [hy] at hl2
 simp only [hX,hy] at E1 E2 E3 ⊢
 obtain ⟨Y,hY⟩:∃ Y,(tVal t 0 y).1=Y:=⟨_,rfl⟩
 obtain ⟨u,hu⟩:∃ u,(tVal t 0 y).2=u:=⟨_,rfl⟩
 rw [hY] at hl2
 simp only [hY,hu] at E2 E3 ⊢
 have hsz:decide ((X.length+Y.length) * 16≤140737488355328)=true:=by rw [decide_eq_true_eq]; omega
 have hsz2:decide ((X.length+Y.length+1) * 16≤140737488355328)=true:=by rw [decide_eq_true_eq]; omega
 have htk:List.take X.length (X.map inA)=X.map inA:=List.take_of_length_le (by simp)
 have htk2:List.take Y.length (Y.map inA)=Y.map inA:=List.take_of_length_le (by simp)
 have htk3:List.take (X.length+Y.length) (X.map inA++Y.map inA)=X.map inA++Y.map inA:=List.take_of_length_le (by simp)
 have hma:X.map inA++(Y.map inA++[.ag [.sc (.int .i64 20),.sc (.int .i64 ((tNx t u 64:Nat):Int))]])=(X++(Y++[(⟨20,((tNx t u 64:Nat):Int)⟩:In)])).map inA:=by rw [List.map_append,List.map_append]; rfl
 refine ⟨P,c2+2,c2+3,?_⟩
 rw [←List.append_assoc R P,hQ,hQl]
 refine hspecW_of_go (gEnv_ok (lit:=false) (pm:=fun _=>none) .nil .nil .nil (.cons ok42 (.cons ok83 .nil))) rfl Tryz.func43 rfl (by decide) (by kernel_rfl) ?_
 simp only [Tryz.f43,initSt,List.length_cons,List.length_nil,Nat.reduceAdd,Nat.reduceSub,List.replicate]
 simp only [tpB_eq,insB_eq]
 cases c0
 all_goals refine vc_go ?_
 all_goals simp (maxSteps:=10000000) +contextual -implicitDefEqProofs only [bnC,bnS,guardV,St.put,pin,↓reduceIte,Nat.reduceAdd,Nat.reduceLeDiff,Nat.reduceEqDiff,Nat.reduceMul,Int.reduceLT,Nat.reduceBEq,Nat.reduceLT,bnT,bnX,Int.reduceAdd,Int.reduceMul,bnH,hin,hl,Int.reduceBEq,E0,E1,E2,E3,hsz,hsz2,htk,htk2,htk3,hma,apP1,apP3,eq12,dlP,allSz_inA,hc0,app0,sc0,List.append_assoc,List.length_append]
 all_goals try exact ⟨.refl _,wkH_cut _ _ _ _⟩
 all_goals done
theorem stm_5 (t:Tp) (ht:TpOk t) (base d a:Nat) (ha:a≤200) (R:List Blk) (cnt:Nat) (hk:tNx t a 15=5):StmSpec t base d a R cnt (tLf t 5 (tAt t a)):=by
 have hb:=tAt_le ht ha
 have E0:=e42 t ht a 15 15 rfl (by omega) (by omega) ha R cnt
 rw [hk] at E0
 obtain ⟨b,hb'⟩:∃ b,tAt t a=b:=⟨_,rfl⟩
 rw [hb'] at hb E0 ⊢
 have hK:((5:Nat):Int)=5:=rfl
 rw [hK] at E0
 obtain ⟨c0,hc0⟩:∃ c0,decide ((d:Int)≤0)=c0:=⟨_,rfl⟩
 have hlf:tLf t 5 b=((tVal t 1 b).1++[⟨21,(tNx t (tVal t 1 b).2 2:Nat)⟩],tAt t (tVal t 1 b).2):=rfl
 rw [hlf]
 have hl1:=tVal_len t 1 b
 have hx2:=tVal_le ht 1 hb
 obtain ⟨P,ver,c1,E1⟩:=at83 t 1 b 1 rfl R cnt (value_spec t ht 1 b (by omega) hb R cnt)
 obtain ⟨Q,hQ,hQl⟩:∃ Q,R++P=Q∧R.length+P.length=Q.length:=⟨_,rfl,by simp⟩
 rw [←List.append_assoc,hQ,hQl] at E1
 have E2:=e42 t ht (tVal t 1 b).2 2 2 rfl (by omega) (by omega) hx2 (Q++[⟨true,ver,102,2,(tVal t 1 b).1.map inA,false⟩]) c1
 obtain ⟨X,hX⟩:∃ X,(tVal t 1 b).1=X:=⟨_,rfl⟩
 obtain ⟨y,hy⟩:∃ y,(tVal t 1 b).2=y:=⟨_,rfl⟩
 rw [hX] at hl1
 simp only [hX,hy] at E1 E2 ⊢
 have hsz:decide ((X.length+1) * 16≤140737488355328)=true:=by rw [decide_eq_true_eq]; omega
 have htk:List.take X.length (X.map inA)=X.map inA:=List.take_of_length_le (by simp)
 refine ⟨P,c1+1,c1+2,?_⟩
 rw [←List.append_assoc,hQ,hQl]
 have hma:X.map inA++[.ag [.sc (.int .i64 21),.sc (.int .i64 (((tNx t y 2:Nat):Int)))]]=(X++[(⟨21,((tNx t y 2:Nat):Int)⟩:In)]).map inA:=by rw [List.map_append]; rfl
 refine hspecW_of_go (gEnv_ok (lit:=false) (pm:=fun _=>none) .nil .nil .nil (.cons ok42 (.cons ok83 .nil))) rfl Tryz.func43 rfl (by decide) (by kernel_rfl) ?_
 simp only [Tryz.f43,initSt,List.length_cons,List.length_nil,Nat.reduceAdd,Nat.reduceSub,List.replicate]
 simp only [tpB_eq,insB_eq]
 cases c0
 all_goals refine vc_go ?_
 all_goals simp (maxSteps:=10000000) +contextual -implicitDefEqProofs only [bnC,bnS,guardV,St.put,pin,↓reduceIte,Nat.reduceAdd,Nat.reduceLeDiff,Nat.reduceEqDiff,Nat.reduceMul,Int.reduceLT,Nat.reduceBEq,Nat.reduceLT,bnT,bnX,Int.reduceAdd,Int.reduceMul,bnH,hin,hl,Int.reduceBEq,E0,E1,E2,hsz,htk,hma,hc0,app0,app1,sc0,dl2,List.append_assoc,List.length_append]
 all_goals first | exact .refl _ | exact wkH_self _ _ | skip
 all_goals done
theorem stm_6 (t:Tp) (ht:TpOk t) (base d a:Nat) (ha:a≤200) (R:List Blk) (cnt:Nat) (hk:tNx t a 15=6):StmSpec t base d a R cnt (tLf t 6 (tAt t a)):=by
 have hb:=tAt_le ht ha
 have E0:=e42 t ht a 15 15 rfl (by omega) (by omega) ha R cnt
 rw [hk] at E0
 obtain ⟨b,hb'⟩:∃ b,tAt t a=b:=⟨_,rfl⟩
 rw [hb'] at hb E0 ⊢
 have hK:((6:Nat):Int)=6:=rfl
 rw [hK] at E0
 obtain ⟨c0,hc0⟩:∃ c0,decide ((d:Int)≤0)=c0:=⟨_,rfl⟩
 have hlf:tLf t 6 b=([⟨22,(tNx t b 2:Nat)⟩],tAt t b):=rfl
 rw [hlf]
 have E1:=e42 t ht b 2 2 rfl (by omega) (by omega) hb R cnt
 refine ⟨[],cnt,cnt+1,?_⟩
 simp only [List.nil_append,List.length_nil,Nat.add_zero]
 refine hspecW_of_go (gEnv_ok (lit:=false) (pm:=fun _=>none) .nil .nil .nil (.cons ok42 (.cons ok83 .nil))) rfl Tryz.func43 rfl (by decide) (by kernel_rfl) ?_
 simp only [Tryz.f43,initSt,List.length_cons,List.length_nil,Nat.reduceAdd,Nat.reduceSub,List.replicate]
 simp only [tpB_eq,insB_eq]
 cases c0
 all_goals refine vc_go ?_
 all_goals simp (maxSteps:=10000000) +contextual -implicitDefEqProofs only [bnC,bnS,guardV,St.put,pin,↓reduceIte,Nat.reduceAdd,Nat.reduceLeDiff,Nat.reduceMul,Int.reduceLT,Nat.reduceBEq,Nat.reduceLT,bnT,bnX,Int.reduceAdd,Int.reduceMul,bnH,hin,hl,inA_eq,Int.reduceBEq,E0,E1,hc0]
 all_goals first | exact wkH_tmp _ _ _ _ _ _ _ _ rfl | exact .refl _ | exact wkH_self _ _ | skip
 all_goals done
theorem stm_7 (t:Tp) (ht:TpOk t) (base d a:Nat) (ha:a≤200) (R:List Blk) (cnt:Nat) (hk:tNx t a 15=7):StmSpec t base d a R cnt (tLf t 7 (tAt t a)):=by
 have hb:=tAt_le ht ha
 have E0:=e42 t ht a 15 15 rfl (by omega) (by omega) ha R cnt
 rw [hk] at E0
 obtain ⟨b,hb'⟩:∃ b,tAt t a=b:=⟨_,rfl⟩
 rw [hb'] at hb E0 ⊢
 have hK:((7:Nat):Int)=7:=rfl
 rw [hK] at E0
 obtain ⟨c0,hc0⟩:∃ c0,decide ((d:Int)≤0)=c0:=⟨_,rfl⟩
 have hlf:tLf t 7 b=([⟨23+(tNx t b 2:Nat),(tNx t (tAt t b) 2:Nat)⟩],tAt t (tAt t b)):=rfl
 rw [hlf]
 have E1:=e42 t ht b 2 2 rfl (by omega) (by omega) hb R cnt
 have E2:=e42 t ht (tAt t b) 2 2 rfl (by omega) (by omega) (tAt_le ht hb) R cnt
 have w9:IntKind.i64.wrap (23+((tNx t b 2:Nat):Int))=23+((tNx t b 2:Nat):Int):=by
  have:=tNx_lt (t:=t) (a:=b) (n:=2) (by omega)
  exact wrap64 (by omega) (by omega)
 refine ⟨[],cnt,cnt+1,?_⟩
 simp only [List.nil_append,List.length_nil,Nat.add_zero]
 refine hspecW_of_go (gEnv_ok (lit:=false) (pm:=fun _=>none) .nil .nil .nil (.cons ok42 (.cons ok83 .nil))) rfl Tryz.func43 rfl (by decide) (by kernel_rfl) ?_
 simp only [Tryz.f43,initSt,List.length_cons,List.length_nil,Nat.reduceAdd,Nat.reduceSub,List.replicate]
 simp only [tpB_eq,insB_eq]
 cases c0
 all_goals refine vc_go ?_
 all_goals simp (maxSteps:=10000000) +contextual -implicitDefEqProofs only [bnC,bnS,guardV,St.put,pin,↓reduceIte,Nat.reduceAdd,Nat.reduceLeDiff,Nat.reduceMul,Int.reduceLT,Nat.reduceBEq,Nat.reduceLT,bnT,bnX,Int.reduceAdd,Int.reduceMul,bnH,hin,hl,inA_eq,Int.reduceBEq,E0,E1,E2,w9,hc0]
 all_goals first | exact wkH_tmp _ _ _ _ _ _ _ _ rfl | exact .refl _ | exact wkH_self _ _ | skip
 all_goals done
theorem stm_8 (t:Tp) (ht:TpOk t) (base d a:Nat) (ha:a≤200) (R:List Blk) (cnt:Nat) (hk:tNx t a 15=8):StmSpec t base d a R cnt (tLf t 8 (tAt t a)):=by
 have hb:=tAt_le ht ha
 have E0:=e42 t ht a 15 15 rfl (by omega) (by omega) ha R cnt
 rw [hk] at E0
 obtain ⟨b,hb'⟩:∃ b,tAt t a=b:=⟨_,rfl⟩
 rw [hb'] at hb E0 ⊢
 have hK:((8:Nat):Int)=8:=rfl
 rw [hK] at E0
 obtain ⟨c0,hc0⟩:∃ c0,decide ((d:Int)≤0)=c0:=⟨_,rfl⟩
 have hlf:tLf t 8 b=([⟨25,(tNx t b 2:Nat)⟩],tAt t b):=rfl
 rw [hlf]
 have E1:=e42 t ht b 2 2 rfl (by omega) (by omega) hb R cnt
 refine ⟨[],cnt,cnt+1,?_⟩
 simp only [List.nil_append,List.length_nil,Nat.add_zero]
 refine hspecW_of_go (gEnv_ok (lit:=false) (pm:=fun _=>none) .nil .nil .nil (.cons ok42 (.cons ok83 .nil))) rfl Tryz.func43 rfl (by decide) (by kernel_rfl) ?_
 simp only [Tryz.f43,initSt,List.length_cons,List.length_nil,Nat.reduceAdd,Nat.reduceSub,List.replicate]
 simp only [tpB_eq,insB_eq]
 cases c0
 all_goals refine vc_go ?_
 all_goals simp (maxSteps:=10000000) +contextual -implicitDefEqProofs only [bnC,bnS,guardV,St.put,pin,↓reduceIte,Nat.reduceAdd,Nat.reduceLeDiff,Nat.reduceMul,Int.reduceLT,Nat.reduceBEq,Nat.reduceLT,bnT,bnX,Int.reduceAdd,Int.reduceMul,bnH,hin,hl,inA_eq,Int.reduceBEq,E0,E1,hc0]
 all_goals first | exact wkH_tmp _ _ _ _ _ _ _ _ rfl | exact .refl _ | exact wkH_self _ _ | skip
 all_goals done
theorem stm_9 (t:Tp) (ht:TpOk t) (base d a:Nat) (ha:a≤200) (R:List Blk) (cnt:Nat) (hk:tNx t a 15=9):StmSpec t base d a R cnt (tLf t 9 (tAt t a)):=by
 have hb:=tAt_le ht ha
 have E0:=e42 t ht a 15 15 rfl (by omega) (by omega) ha R cnt
 rw [hk] at E0
 obtain ⟨b,hb'⟩:∃ b,tAt t a=b:=⟨_,rfl⟩
 rw [hb'] at hb E0 ⊢
 have hK:((9:Nat):Int)=9:=rfl
 rw [hK] at E0
 obtain ⟨c0,hc0⟩:∃ c0,decide ((d:Int)≤0)=c0:=⟨_,rfl⟩
 have hlf:tLf t 9 b=([⟨26+(tNx t b 3:Nat),(tNx t (tAt t b) 64:Nat)⟩],tAt t (tAt t b)):=rfl
 rw [hlf]
 have E1:=e42 t ht b 3 3 rfl (by omega) (by omega) hb R cnt
 have E2:=e42 t ht (tAt t b) 64 64 rfl (by omega) (by omega) (tAt_le ht hb) R cnt
 have w9:IntKind.i64.wrap (26+((tNx t b 3:Nat):Int))=26+((tNx t b 3:Nat):Int):=by
  have:=tNx_lt (t:=t) (a:=b) (n:=3) (by omega)
  exact wrap64 (by omega) (by omega)
 refine ⟨[],cnt,cnt+1,?_⟩
 simp only [List.nil_append,List.length_nil,Nat.add_zero]
 refine hspecW_of_go (gEnv_ok (lit:=false) (pm:=fun _=>none) .nil .nil .nil (.cons ok42 (.cons ok83 .nil))) rfl Tryz.func43 rfl (by decide) (by kernel_rfl) ?_
 simp only [Tryz.f43,initSt,List.length_cons,List.length_nil,Nat.reduceAdd,Nat.reduceSub,List.replicate]
 simp only [tpB_eq,insB_eq]
 cases c0
 all_goals refine vc_go ?_
 all_goals simp (maxSteps:=10000000) +contextual -implicitDefEqProofs only [bnC,bnS,guardV,St.put,pin,↓reduceIte,Nat.reduceAdd,Nat.reduceLeDiff,Nat.reduceMul,Int.reduceLT,Nat.reduceBEq,Nat.reduceLT,bnT,bnX,Int.reduceAdd,Int.reduceMul,bnH,hin,hl,inA_eq,Int.reduceBEq,E0,E1,E2,w9,hc0]
 all_goals first | exact wkH_tmp _ _ _ _ _ _ _ _ rfl | exact .refl _ | exact wkH_self _ _ | skip
 all_goals done
theorem stm_10 (t:Tp) (ht:TpOk t) (base d a:Nat) (ha:a≤200) (R:List Blk) (cnt:Nat) (hk:tNx t a 15=10):StmSpec t base d a R cnt (tLf t 10 (tAt t a)):=by
 have hb:=tAt_le ht ha
 have E0:=e42 t ht a 15 15 rfl (by omega) (by omega) ha R cnt
 rw [hk] at E0
 obtain ⟨b,hb'⟩:∃ b,tAt t a=b:=⟨_,rfl⟩
 rw [hb'] at hb E0 ⊢
 have hK:((10:Nat):Int)=10:=rfl
 rw [hK] at E0
 obtain ⟨c0,hc0⟩:∃ c0,decide ((d:Int)≤0)=c0:=⟨_,rfl⟩
 have hlf:tLf t 10 b=((tVal t 1 b).1++[⟨29,(tNx t (tVal t 1 b).2 2:Nat)⟩],tAt t (tVal t 1 b).2):=rfl
 rw [hlf]
 have hl1:=tVal_len t 1 b
 have hx2:=tVal_le ht 1 hb
 obtain ⟨P,ver,c1,E1⟩:=at83 t 1 b 1 rfl R cnt (value_spec t ht 1 b (by omega) hb R cnt)
 obtain ⟨Q,hQ,hQl⟩:∃ Q,R++P=Q∧R.length+P.length=Q.length:=⟨_,rfl,by simp⟩
 rw [←List.append_assoc,hQ,hQl] at E1
 have E2:=e42 t ht (tVal t 1 b).2 2 2 rfl (by omega) (by omega) hx2 (Q++[⟨true,ver,102,2,(tVal t 1 b).1.map inA,false⟩]) c1
 obtain ⟨X,hX⟩:∃ X,(tVal t 1 b).1=X:=⟨_,rfl⟩
 obtain ⟨y,hy⟩:∃ y,(tVal t 1 b).2=y:=⟨_,rfl⟩
 rw [hX] at hl1
 simp only [hX,hy] at E1 E2 ⊢
 have hsz:decide ((X.length+1) * 16≤140737488355328)=true:=by rw [decide_eq_true_eq]; omega
 have htk:List.take X.length (X.map inA)=X.map inA:=List.take_of_length_le (by simp)
 refine ⟨P,c1+1,c1+2,?_⟩
 rw [←List.append_assoc,hQ,hQl]
 have hma:X.map inA++[.ag [.sc (.int .i64 29),.sc (.int .i64 (((tNx t y 2:Nat):Int)))]]=(X++[(⟨29,((tNx t y 2:Nat):Int)⟩:In)]).map inA:=by rw [List.map_append]; rfl
 refine hspecW_of_go (gEnv_ok (lit:=false) (pm:=fun _=>none) .nil .nil .nil (.cons ok42 (.cons ok83 .nil))) rfl Tryz.func43 rfl (by decide) (by kernel_rfl) ?_
 simp only [Tryz.f43,initSt,List.length_cons,List.length_nil,Nat.reduceAdd,Nat.reduceSub,List.replicate]
 simp only [tpB_eq,insB_eq]
 cases c0
 all_goals refine vc_go ?_
 all_goals simp (maxSteps:=10000000) +contextual -implicitDefEqProofs only [bnC,bnS,guardV,St.put,pin,↓reduceIte,Nat.reduceAdd,Nat.reduceLeDiff,Nat.reduceEqDiff,Nat.reduceMul,Int.reduceLT,Nat.reduceBEq,Nat.reduceLT,bnT,bnX,Int.reduceAdd,Int.reduceMul,bnH,hin,hl,Int.reduceBEq,E0,E1,E2,hsz,htk,hma,hc0,app0,app1,sc0,dl2,List.append_assoc,List.length_append]
 all_goals first | exact .refl _ | exact wkH_self _ _ | skip
 all_goals done
theorem stm_11 (t:Tp) (ht:TpOk t) (base d a:Nat) (ha:a≤200) (R:List Blk) (cnt:Nat) (hk:tNx t a 15=11):StmSpec t base d a R cnt (tLf t 11 (tAt t a)):=by
 have hb:=tAt_le ht ha
 have E0:=e42 t ht a 15 15 rfl (by omega) (by omega) ha R cnt
 rw [hk] at E0
 obtain ⟨b,hb'⟩:∃ b,tAt t a=b:=⟨_,rfl⟩
 rw [hb'] at hb E0 ⊢
 have hK:((11:Nat):Int)=11:=rfl
 rw [hK] at E0
 obtain ⟨c0,hc0⟩:∃ c0,decide ((d:Int)≤0)=c0:=⟨_,rfl⟩
 have hlf:tLf t 11 b=([⟨30,0⟩],b):=rfl
 rw [hlf]
 refine ⟨[],cnt,cnt+1,?_⟩
 simp only [List.nil_append,List.length_nil,Nat.add_zero]
 refine hspecW_of_go (gEnv_ok (lit:=false) (pm:=fun _=>none) .nil .nil .nil (.cons ok42 (.cons ok83 .nil))) rfl Tryz.func43 rfl (by decide) (by kernel_rfl) ?_
 simp only [Tryz.f43,initSt,List.length_cons,List.length_nil,Nat.reduceAdd,Nat.reduceSub,List.replicate]
 simp only [tpB_eq,insB_eq]
 cases c0
 all_goals refine vc_go ?_
 all_goals simp (maxSteps:=10000000) +contextual -implicitDefEqProofs only [bnC,bnS,guardV,St.put,pin,↓reduceIte,Nat.reduceAdd,Nat.reduceLeDiff,Nat.reduceMul,Int.reduceLT,Nat.reduceBEq,Nat.reduceLT,bnT,bnX,Int.reduceAdd,Int.reduceMul,bnH,hin,hl,inA_eq,Int.reduceBEq,E0,hc0]
 all_goals first | exact wkH_tmp _ _ _ _ _ _ _ _ rfl | exact .refl _ | exact wkH_self _ _ | skip
 all_goals done
theorem stm_0 (t:Tp) (ht:TpOk t) (base d a:Nat) (ha:a≤200) (R:List Blk) (cnt:Nat) (hk:tNx t a 15=0∨11 < tNx t a 15∧d=0):StmSpec t base d a R cnt (tLf t 0 (tAt t a)):=by
 have hb:=tAt_le ht ha
 have E0:=e42 t ht a 15 15 rfl (by omega) (by omega) ha R cnt
 obtain ⟨k,hk'⟩:∃ k,tNx t a 15=k:=⟨_,rfl⟩
 have hk9:k < 15:=by rw [←hk']; exact tNx_lt (by omega)
 rw [hk'] at E0 hk
 obtain ⟨b,hb'⟩:∃ b,tAt t a=b:=⟨_,rfl⟩
 rw [hb'] at hb E0 ⊢
 obtain ⟨K,hK⟩:∃ K:Int,(k:Int)=K:=⟨_,rfl⟩
 rw [hK] at E0
 obtain ⟨c0,hc0⟩:∃ c0,decide ((d:Int)≤0)=c0:=⟨_,rfl⟩
 have hlf:tLf t 0 b=((tVal t 2 b).1++[⟨3,(tNx t (tVal t 2 b).2 3:Nat)⟩],tAt t (tVal t 2 b).2):=rfl
 rw [hlf]
 have hl1:=tVal_len t 2 b
 have hx2:=tVal_le ht 2 hb
 obtain ⟨P,ver,c1,E1⟩:=at83 t 2 b 2 rfl R cnt (value_spec t ht 2 b (by omega) hb R cnt)
 obtain ⟨Q,hQ,hQl⟩:∃ Q,R++P=Q∧R.length+P.length=Q.length:=⟨_,rfl,by simp⟩
 rw [←List.append_assoc,hQ,hQl] at E1
 have E2:=e42 t ht (tVal t 2 b).2 3 3 rfl (by omega) (by omega) hx2 (Q++[⟨true,ver,102,2,(tVal t 2 b).1.map inA,false⟩]) c1
 obtain ⟨X,hX⟩:∃ X,(tVal t 2 b).1=X:=⟨_,rfl⟩
 obtain ⟨y,hy⟩:∃ y,(tVal t 2 b).2=y:=⟨_,rfl⟩
 rw [hX] at hl1
 simp only [hX,hy] at E1 E2 ⊢
 have hsz:decide ((X.length+1) * 16≤140737488355328)=true:=by rw [decide_eq_true_eq]; omega
 have htk:List.take X.length (X.map inA)=X.map inA:=List.take_of_length_le (by simp)
 refine ⟨P,c1+1,c1+2,?_⟩
 rw [←List.append_assoc,hQ,hQl]
 have hma:X.map inA++[.ag [.sc (.int .i64 3),.sc (.int .i64 (((tNx t y 3:Nat):Int)))]]=(X++[(⟨3,((tNx t y 3:Nat):Int)⟩:In)]).map inA:=by rw [List.map_append]; rfl
 refine hspecW_of_go (gEnv_ok (lit:=false) (pm:=fun _=>none) .nil .nil .nil (.cons ok42 (.cons ok83 .nil))) rfl Tryz.func43 rfl (by decide) (by kernel_rfl) ?_
 simp only [Tryz.f43,initSt,List.length_cons,List.length_nil,Nat.reduceAdd,Nat.reduceSub,List.replicate]
 simp only [tpB_eq,insB_eq]
 rcases hk with hk0 | ⟨hk0,hd⟩
 ·obtain rfl:K=0:=by omega
  cases c0
  all_goals refine vc_go ?_
  all_goals simp (maxSteps:=10000000) +contextual -implicitDefEqProofs only [bnC,bnS,guardV,St.put,pin,↓reduceIte,Nat.reduceAdd,Nat.reduceLeDiff,Nat.reduceEqDiff,Nat.reduceMul,Int.reduceLT,Nat.reduceBEq,Nat.reduceLT,bnT,bnX,Int.reduceAdd,Int.reduceMul,bnH,hin,hl,Int.reduceBEq,E0,E1,E2,hsz,htk,hma,hc0,app0,app1,sc0,dl2,List.append_assoc,List.length_append]
  all_goals first | exact .refl _ | exact wkH_self _ _ | skip
  all_goals done
 ·have c1:decide ((11:Int) < K)=true:=by rw [decide_eq_true_eq]; omega
  obtain rfl:c0=true:=by rw [←hc0]; subst hd; rfl
  all_goals refine vc_go ?_
  all_goals simp (maxSteps:=10000000) +contextual -implicitDefEqProofs only [bnC,bnS,guardV,St.put,pin,↓reduceIte,Nat.reduceAdd,Nat.reduceLeDiff,Nat.reduceEqDiff,Nat.reduceMul,Int.reduceLT,Nat.reduceBEq,Nat.reduceLT,bnT,bnX,Int.reduceAdd,Int.reduceMul,bnH,hin,hl,Int.reduceBEq,E0,E1,E2,hsz,htk,hma,c1,hc0,app0,app1,sc0,dl2,List.append_assoc,List.length_append]
  all_goals first | exact .refl _ | exact wkH_self _ _ | skip
  all_goals done
end Go.Proofs.YtdjpkhjaibdogaaGreat
