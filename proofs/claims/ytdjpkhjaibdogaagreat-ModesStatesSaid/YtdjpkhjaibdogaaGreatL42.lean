/-
  Joined texts: ED, EE.
  Conditions: none.
-/
import Derived.Test.YtdjpkhjaibdogaaGreatL41
import Derived.Test.YtdjpkhjaibdogaaGreatL22
namespace Go.Proofs.YtdjpkhjaibdogaaGreat
open Go Go.SX
set_option linter.unusedSimpArgs false
set_option linter.unusedVariables false
attribute [local congr] ite_congr
set_option maxRecDepth 100000
set_option maxHeartbeats 8000000
theorem go_cutR {P:Program} {E:Env} {n0:Nat} {rs:List ResultVar} {R:AV→St→Prop} {k:List Item} {id:Nat} {ops:Array Oper} {t:Bool} {y:Code} {s:St} (s1:St) (h1:Vc P E n0 [] (fun _ s'=>s'=s1) [.code (.region id ops t)] s)
  (h2:Go P E n0 rs R (.code y::k) s1) (hq:E.perm id≠some []:=by (intro h; cases h)):Go P E n0 rs R (.code (.seq (.region id ops t) y)::k) s:=by
 cases h1 with
 | region hr h=>
  cases h with
  | fin _ hR=>subst hR; exact .seq (.region hr h2)
 | draw hpm hr h=>
  cases h with
  | fin _ hR=>
   subst hR
   cases hb:ops.toList.any heapish with
   | true=>exact .seq (.drawH hpm hb hr h2)
   | false=>exact .seq (.draw hpm (pure_of_trace _ _ _ _ hb hr) h2)
 | drawP hpm hr h=>
  cases h with
  | fin _ hR=>subst hR; exact .seq (.drawP hpm hr h2)
 | sem hpm=>exact absurd hpm hq
theorem frzH_pre (id ver:Nat) (els:List AV) (lo:Nat) (hlo:lo≤id):∀ (A B:List Blk) (i:Nat),i+A.length≤lo→∃ D,frzH id ver els lo i (A++B)=A++D
 | [],B,i,_=>⟨_,rfl⟩
 | b::A,B,i,h=>by
  simp only [List.length_cons] at h
  obtain ⟨D,hD⟩:=frzH_pre id ver els lo hlo A B (i+1) (by omega)
  refine ⟨D,?_⟩
  rw [List.cons_append,frzH,if_neg (by omega),if_pos (by omega),hD]
  rfl
theorem stmt_frz (t:Tp) (ht:TpOk t) (d base a:Nat) (hd:d≤5) (hb:base+100 * d≤10000) (ha:a≤200) (R:List Blk) (cnt:Nat):
  ∃ cnt',HSpec Tryz.prog 43 [.pt 0 t.v 0 0,.sc (.int .i64 (base:Int)),.sc (.int .i64 (d:Int))] (tpB t a::R) cnt (.vw false ((tStm t d base a).1.map inA)) (tpB t (tStm t d base a).2::R) cnt':=by
 obtain ⟨P,ver,c',h⟩:=stmt_spec t ht d base a hd hb ha R cnt
 refine ⟨c',?_⟩
 have h1:=h.frz (R.length+1) (R.length+P.length+1) (insB ver (tStm t d base a).1) (by
  rw [List.getElem?_cons_succ,←List.append_assoc,←List.length_append]; exact app0 _ _ _) rfl (by simp) (norefs_inA _)
 obtain ⟨D,hD⟩:=frzH_pre (R.length+P.length+1) ver ((tStm t d base a).1.map inA) (R.length+1) (by omega) (tpB t (tStm t d base a).2::R) (P++[insB ver (tStm t d base a).1]) 0 (by simp)
 have h2:frzR (R.length+P.length+1) ver ((tStm t d base a).1.map inA) (.sl (R.length+P.length+1) ver 0 (tStm t d base a).1.length)=.vw false ((tStm t d base a).1.map inA):=by
  rw [frzR_sl,if_pos ⟨rfl,rfl⟩,List.drop_zero,List.take_of_length_le (by simp)]
 simp only [insB] at h1
 rw [h2] at h1
 rw [List.cons_append] at hD
 simp only [insB] at hD
 rw [hD] at h1
 exact h1.wk (.refl _) (wkH_app _ _ _) (Nat.le_refl _)
def D43V (args:List AV) (H:List Blk) (cnt:Nat) (r:AV) (H':List Blk) (cnt':Nat):Prop:=
 ∀ (t:Tp) (a d base:Nat) (R:List Blk),args=[.pt 0 t.v 0 0,.sc (.int .i64 (base:Int)),.sc (.int .i64 (d:Int))]→H=tpB t a::R→
  r=.vw false ((tStm t d base a).1.map inA)∧H'=tpB t (tStm t d base a).2::R
noncomputable def f43V:=hF Tryz.prog 43 D43V
theorem ok43V:HOk Tryz.prog 43 f43V:=hF_ok _ _ _
theorem e43V (t:Tp) (ht:TpOk t) (d base a:Nat) (D:Int) (hD:D=(d:Int)) (hd:d≤5) (hb:base+100 * d≤10000) (ha:a≤200) (R:List Blk) (cnt:Nat):
  ∃ cnt',f43V [.pt 0 t.v 0 0,.sc (.int .i64 (base:Int)),.sc (.int .i64 D)] (⟨true,t.v,96,2,[.ag [.vw t.z (t.l.map uA),.sc (.int .i64 (a:Int))]],false⟩::R) cnt=
   some (.vw false ((tStm t d base a).1.map inA),⟨true,t.v,96,2,[.ag [.vw t.z (t.l.map uA),.sc (.int .i64 ((tStm t d base a).2:Int))]],false⟩::R,cnt'):=by
 subst hD
 obtain ⟨c',h⟩:=stmt_frz t ht d base a hd hb ha R cnt
 obtain ⟨r,H',c',e,d'⟩:=hF_eq (D:=D43V) h (by
  intro t' a' d' b' R' h1 h2
  simp only [List.cons.injEq,and_true,AV.sc.injEq,Value.int.injEq,true_and] at h1 h2
  obtain ⟨⟨rfl,rfl⟩,rfl⟩:=And.intro (tpB_inj h2.1) h2.2
  obtain rfl:d=d':=by omega
  obtain rfl:base=b':=by omega
  exact ⟨rfl,rfl⟩)
 obtain ⟨rfl,rfl⟩:=d' t a d base R rfl rfl
 exact ⟨c',e⟩
theorem freshs_inA (l:List In):freshs (l.map inA)=true:=freshs_map (f:=inA) (fun _=>by simp [inA,kA,AV.fresh,freshs]) l
theorem freshs_enA (l:List En):freshs (l.map enA)=true:=freshs_map (f:=enA) (fun _=>by simp [enA,kA,AV.fresh,freshs]) l
def keyL:List En:=[⟨0,1,0,0⟩,⟨0,2,0,0⟩,⟨0,3,3,0⟩,⟨0,5,1,0⟩,⟨0,6,0,0⟩,⟨1,1,0,0⟩,⟨1,3,3,0⟩,⟨1,4,63,0⟩,⟨1,6,1,0⟩]
structure Mk where
 ins:List In
 ens:List En
 a:Nat
def mkN (t:Tp):Nat→Mk→Mk
 | 0,m=>m
 | n+1,m=>mkN t n ⟨m.ins++(tStm t 2 m.ins.length m.a).1,m.ens,(tStm t 2 m.ins.length m.a).2⟩
def mkGs (t:Tp) (i:Nat) (m:Mk) (a:Nat):Mk:=
 let m':=mkN t (tNx t a 4) ⟨m.ins,m.ens++[{ keyL.getD i default with pc:=m.ins.length }],tAt t a⟩
 ⟨m'.ins++[⟨31,0⟩],m'.ens,m'.a⟩
def mkI (t:Tp) (i:Nat) (m:Mk):Mk:=
 if 0 < i then if tNx t m.a 2=0 then ⟨m.ins,m.ens,tAt t m.a⟩ else mkGs t i m (tAt t m.a) else mkGs t i m m.a
def mkA (t:Tp) (a:Nat):Nat→Mk
 | 0=>⟨[],[],a⟩
 | i+1=>mkI t i (mkA t a i)
structure MkOk (m:Mk) (i:Nat):Prop where
 ins:m.ins.length≤49 * i
 ens:m.ens.length≤i
 a:m.a≤200
theorem mkN_ok {t:Tp} (ht:TpOk t):∀ (n:Nat) {m:Mk},m.a≤200→(mkN t n m).ins.length≤m.ins.length+16 * n∧(mkN t n m).ens=m.ens∧(mkN t n m).a≤200
 | 0,m,h=>⟨by simp [mkN],rfl,h⟩
 | n+1,m,h=>by
  have h1:=tStm_le ht 2 m.ins.length h
  have h2:=tStm_len t 2 m.ins.length m.a
  obtain ⟨g1,g2,g3⟩:=mkN_ok ht n (m:=⟨m.ins++(tStm t 2 m.ins.length m.a).1,m.ens,(tStm t 2 m.ins.length m.a).2⟩) h1
  simp only [List.length_append] at g1
  exact ⟨by rw [mkN]; omega,g2,g3⟩
theorem mkGs_ok {t:Tp} (ht:TpOk t) {i:Nat} {m:Mk} (h:MkOk m i) {a:Nat} (ha:a≤200):MkOk (mkGs t i m a) (i+1):=by
 have hn:tNx t a 4 < 4:=tNx_lt (by omega)
 obtain ⟨g1,g2,g3⟩:=mkN_ok ht (tNx t a 4) (m:=⟨m.ins,m.ens++[{ keyL.getD i default with pc:=m.ins.length }],tAt t a⟩) (tAt_le ht ha)
 have:=h.ins
 have:=h.ens
 refine ⟨?_,?_,g3⟩
 ·simp only [mkGs,List.length_append,List.length_cons,List.length_nil] at *; omega
 ·simp only [mkGs,g2,List.length_append,List.length_cons,List.length_nil]; omega
theorem mkI_ok {t:Tp} (ht:TpOk t) {i:Nat} {m:Mk} (h:MkOk m i):MkOk (mkI t i m) (i+1):=by
 have h1:=h.ins
 have h2:=h.ens
 unfold mkI
 split
 ·split
  ·exact ⟨by simp only; omega,by simp only; omega,tAt_le ht h.a⟩
  ·exact mkGs_ok ht h (tAt_le ht h.a)
 ·exact mkGs_ok ht h h.a
theorem mkA_ok {t:Tp} (ht:TpOk t) {a:Nat} (ha:a≤200):∀ i,MkOk (mkA t a i) i
 | 0=>⟨by simp [mkA],by simp [mkA],ha⟩
 | i+1=>mkI_ok ht (mkA_ok ht ha i)
def goB:ByteArray:=⟨#[103,111]⟩
def overB:ByteArray:=⟨#[111,118,101,114]⟩
def tpL (z:Bool) (l:List Nat) (v:Nat):Tp:=⟨z && decide (min l.length 200=l.length),l.take 200,v⟩
def madeT (t:Tp):Cd:=
 let m:=mkA t (tAt t (tAt t 0)) 9
 ⟨false,m.ins,false,[goB,overB],false,m.ens,false,[((tNx t 0 4:Nat):Int),((tNx t (tAt t 0) 4:Nat):Int)],false,[0,5,-3],2,2⟩
def codeV (d v:Nat) (c:Cd):AV:=.ag [.sl (d+0) v 0 c.ins.length,.sl (d+1) v 0 c.strs.length,.sl (d+2) v 0 c.ens.length,.sl (d+3) v 0 c.pri.length,.sl (d+4) v 0 c.vars.length,.sc (.int .i64 c.tim),.sc (.int .i64 c.evs)]
def codeH (v:Nat) (c:Cd):List Blk:=[⟨true,v,102,2,c.ins.map inA,false⟩,⟨true,v,9,1,c.strs.map stA,false⟩,⟨true,v,99,4,c.ens.map enA,false⟩,⟨true,v,3,1,c.pri.map (kA .i64),false⟩,⟨true,v,3,1,c.vars.map (kA .i64),false⟩]
theorem rn_same {d:Nat} {σ:Nat→Nat} {c2:Nat} {H1:List Blk} {els:List AV} (hn:norefs els=true) (hj:noJk els=true):∀ (i:Nat) (e f:AV),els[i]?=some e→els[i]?=some f→f≠.jk∧Rn d σ c2 H1 e f:=by
 intro i e f h1 h2
 rw [h1] at h2; cases h2
 exact ⟨noJk_mem hj _ (List.mem_of_getElem? h1),.nr (norefs_mem hn _ (List.mem_of_getElem? h1))⟩
def srcL (l:List Nat) (j:Nat):Nat:=l.getD j 0
theorem noJk_inA (l:List In):noJk (l.map inA)=true:=noJk_map (f:=inA) (fun x=>by simp [inA]) l
theorem noJk_enA (l:List En):noJk (l.map enA)=true:=noJk_map (f:=enA) (fun x=>by simp [enA]) l
theorem made_spec (z:Bool) (l:List Nat) (hu:∀ i,l.getD i default < 256) (H:List Blk) (cnt:Nat):HSpec Tryz.prog 14 [.vw z (l.map uA)] H cnt (codeV H.length cnt (madeT (tpL z l 1))) (H++codeH cnt (madeT (tpL z l 1))) (cnt+1):=by
 have ht:TpOk (tpL z l 1):=by
  refine ⟨fun i=>?_,by simp [tpL]; omega⟩
  simp only [tpL]
  rw [List.getD_eq_getElem?_getD,List.getElem?_take]
  split
  ·rw [←List.getD_eq_getElem?_getD]; exact hu i
  ·exact Nat.lt_of_lt_of_le (by decide) (Nat.le_refl 256)
 refine hspecN_of_go (gEnv_ok (lit:=false) (pm:=fun _=>none) .nil .nil .nil (.cons ok42 (.cons ok43V .nil))) rfl (srcL [7,2,8,3,4]) Tryz.func14 rfl (by decide) (by kernel_rfl) (by simp [norefs,AV.noref,norefs_uA]) ?_ (Nat.le_succ _) ?_
 ·intro i j Bi Bj h1 h2 _ _ h
  have hi:i < 5:=(List.getElem?_eq_some_iff.1 h1).1
  have hj:j < 5:=(List.getElem?_eq_some_iff.1 h2).1
  have h5:∀ k,k < 5→k=0∨k=1∨k=2∨k=3∨k=4:=by omega
  rcases h5 i hi with rfl | rfl | rfl | rfl | rfl <;> rcases h5 j hj with rfl | rfl | rfl | rfl | rfl <;> first | rfl | (simp [srcL] at h)
 simp only [Tryz.f14,initSt,List.length_cons,List.length_nil,Nat.reduceAdd,Nat.reduceSub,List.replicate]
 have hmn:min (l.length:Int) 200=((min l.length 200:Nat):Int):=by omega
 have g1:decide (((min l.length 200:Nat):Int)≤(l.length:Int))=true:=by rw [decide_eq_true_eq]; omega
 have htk:List.take (min l.length 200) (l.map uA)=(l.take 200).map uA:=by rw [List.map_take,Nat.min_comm,←List.take_take,List.take_of_length_le (l:=List.map uA l) (Nat.le_of_eq (List.length_map _))]
 refine go_cutR ?s1 ?h1 ?h2
 case h1=>
  simp (maxSteps:=10000000) +contextual -implicitDefEqProofs only [bnC,bnS,St.put,Nat.reduceAdd,bnT,Int.reduceAdd,bnH]
  rfl
 refine go_cutR ?s2 ?h3 ?h4
 case h3=>
  simp (maxSteps:=10000000) +contextual -implicitDefEqProofs only [bnC,bnS,St.put,↓reduceIte,Nat.reduceAdd,Nat.reduceLeDiff,bnT,Int.reduceAdd,bnH,hmn,g1,htk,allSz_uA]
  rfl
 refine go_weak (T':=mkT 0 83 [(2,.pt 0 0 0 0),(3,.pt 1 1 0 0)]) ?_ (weakH_refl _) (Nat.le_refl _) ?_
 ·simp (maxSteps:=10000000) only [bnC,bnS,↓reduceIte,reduceCtorEq,Nat.reduceAdd,Nat.reduceEqDiff,mkT,lkT]
 refine go_swp 0 1 (Nat.zero_le _) (Nat.zero_le _) (by simp) (by simp) ?_ ?_
 ·simp only [swp_def,swA_sl,swA_pt,swA_ag,swA_sc,swA_tu,swA_vw,swA_vp,swA_fn,swA_un,swA_jk,swL_nil,swL_cons,swB_mk,swM_nil,swM_cons,swH_def,Nat.reduceEqDiff,↓reduceIte,List.set_cons_zero,List.set_cons_succ,List.getD_cons_zero,List.getD_cons_succ,noJkH_nil,noJkH_cons,noJk_nil,noJk_ag,noJk_sc,Bool.and_true,Bool.true_and]
 simp only [mkT,lkT,swp_def,swA_sl,swA_pt,swA_ag,swA_sc,swA_tu,swA_vw,swA_vp,swA_fn,swA_un,swA_jk,swL_nil,swL_cons,swB_mk,swM_nil,swM_cons,swH_def,Nat.reduceEqDiff,↓reduceIte,List.set_cons_zero,List.set_cons_succ,List.getD_cons_zero,List.getD_cons_succ,Nat.reduceAdd,Nat.reduceEqDiff,if_true,if_false,↓reduceIte,Nat.zero_add]
 have hz:(z && decide (min l.length 200=l.length))=(tpL z l 1).z:=rfl
 have hll:List.take 200 l=(tpL z l 1).l:=rfl
 have hv:(tpL z l 1).v=1:=rfl
 rw [hz,hll]
 generalize tpL z l 1=t at ht hv ⊢
 clear hz hll hmn g1 htk hu
 have E1:=fun a n N h h1 h2 h3=>e42 t ht a n N h h1 h2 h3
 simp only [hv] at E1
 have hb1:=tAt_le ht (a:=0) (by omega)
 have hb2:=tAt_le ht hb1
 have E2:=E1 0 4 4 rfl (by omega) (by omega) (by omega)
 have E3:=E1 (tAt t 0) 4 4 rfl (by omega) (by omega) hb1
 rw [Int.natCast_zero] at E2
 refine vc_go ?_
 simp (maxSteps:=10000000) +contextual -implicitDefEqProofs only [bnC,bnS,St.put,pin,↓reduceIte,Nat.reduceAdd,Nat.reduceLeDiff,Nat.reduceMul,Int.reduceLT,Nat.reduceLT,bnT,Int.reduceAdd,Int.reduceMul,bnH,hin,hl,E2,E3,rep9]
 obtain ⟨a0,ha0⟩:∃ a0,tAt t (tAt t 0)=a0:=⟨_,rfl⟩
 obtain ⟨p0,hp0⟩:∃ p0,((tNx t 0 4:Nat):Int)=p0:=⟨_,rfl⟩
 obtain ⟨p1,hp1⟩:∃ p1,((tNx t (tAt t 0) 4:Nat):Int)=p1:=⟨_,rfl⟩
 have hRES:madeT t=⟨false,(mkA t a0 9).ins,false,[goB,overB],false,(mkA t a0 9).ens,false,[p0,p1],false,[0,5,-3],2,2⟩:=by rw [←ha0,←hp0,←hp1]; rfl
 rw [hRES]
 clear E2 E3 hRES
 rw [ha0] at hb2
 simp only [ha0,hp0,hp1]
 refine go_weak (T':=mkT 0 83 [(2,.pt 1 0 0 0),(3,.pt 0 1 0 0),(4,.pt 5 5 0 0),(5,.sl 6 6 0 9),(6,.sc (.int .i64 0))]) ?_ (weakH_refl _) (Nat.le_refl _) ?_
 ·simp (maxSteps:=10000000) only [bnC,bnS,↓reduceIte,reduceCtorEq,Nat.reduceAdd,Nat.reduceEqDiff,mkT,lkT]
 refine go_nil (T':=mkT 0 83 [(2,.pt 1 0 0 0),(3,.pt 0 1 0 0),(4,.pt 5 5 0 0),(5,.sl 6 6 0 9),(6,.sc (.int .i64 0))])
  (H':=[⟨true,1,96,2,[.ag [.vw t.z (t.l.map uA),.sc (.int .i64 (a0:Int))]],false⟩,⟨true,0,36,7,[.ag [.vw true [],.vw true [],.vw true [],.vw true [],.vw true [],.sc (.int .i64 0),.sc (.int .i64 0)]],false⟩,
   ⟨true,2,9,1,[stA goB,stA overB],true⟩,⟨true,3,3,1,[.sc (.int .i64 p0),.sc (.int .i64 p1)],true⟩,⟨true,4,3,1,[.sc (.int .i64 0),.sc (.int .i64 5),.sc (.int .i64 (-3))],true⟩,
   ⟨true,5,36,7,[.ag [.sl 7 7 0 0,.sl 2 2 0 2,.vw true [],.sl 3 3 0 2,.sl 4 4 0 3,.sc (.int .i64 2),.sc (.int .i64 2)]],false⟩,⟨true,6,99,4,keyL.map enA,true⟩]) 7 102 2 8 (by omega) (by omega) (nwL_refl _ _ _) ?_ ?_
 ·simp only [nwH_cons,nwH_nil,and_true]
  refine ⟨.inl rfl,.inl rfl,.inl rfl,.inl rfl,.inl rfl,nwB_mk _ _ _ _ _ _ _ _ _ _ ?_,.inl rfl⟩
  exact ⟨nwV_ag ⟨.nil,nwL_refl _ _ _⟩,trivial⟩
 simp only [List.cons_append,List.nil_append,List.length_cons,List.length_nil,Nat.reduceAdd]
 refine go_nil (T':=mkT 0 83 [(2,.pt 1 0 0 0),(3,.pt 0 1 0 0),(4,.pt 5 5 0 0),(5,.sl 6 6 0 9),(6,.sc (.int .i64 0))])
  (H':=[⟨true,1,96,2,[.ag [.vw t.z (t.l.map uA),.sc (.int .i64 (a0:Int))]],false⟩,⟨true,0,36,7,[.ag [.vw true [],.vw true [],.vw true [],.vw true [],.vw true [],.sc (.int .i64 0),.sc (.int .i64 0)]],false⟩,
   ⟨true,2,9,1,[stA goB,stA overB],true⟩,⟨true,3,3,1,[.sc (.int .i64 p0),.sc (.int .i64 p1)],true⟩,⟨true,4,3,1,[.sc (.int .i64 0),.sc (.int .i64 5),.sc (.int .i64 (-3))],true⟩,
   ⟨true,5,36,7,[.ag [.sl 7 7 0 0,.sl 2 2 0 2,.sl 8 8 0 0,.sl 3 3 0 2,.sl 4 4 0 3,.sc (.int .i64 2),.sc (.int .i64 2)]],false⟩,⟨true,6,99,4,keyL.map enA,true⟩,⟨true,7,102,2,[],false⟩]) 8 99 4 9 (by omega) (by omega) (nwL_refl _ _ _) ?_ ?_
 ·simp only [nwH_cons,nwH_nil,and_true]
  refine ⟨.inl rfl,.inl rfl,.inl rfl,.inl rfl,.inl rfl,nwB_mk _ _ _ _ _ _ _ _ _ _ ?_,.inl rfl,.inl rfl⟩
  exact ⟨nwV_ag ⟨.refl _,.refl _,.nil,nwL_refl _ _ _⟩,trivial⟩
 simp only [List.cons_append,List.nil_append,List.length_cons,List.length_nil,Nat.reduceAdd]
 have hkl:keyL.length=9:=rfl
 refine go_loopW (σ:=Nat × Nat × Nat) (fun y cnt=>⟨mkT 0 83 [(2,.pt 1 0 0 0),(3,.pt 0 1 0 0),(4,.pt 5 5 0 0),(5,.sl 6 6 0 9),(6,.sc (.int .i64 (y.1:Int)))],
  [⟨true,1,96,2,[.ag [.vw t.z (t.l.map uA),.sc (.int .i64 ((mkA t a0 y.1).a:Int))]],false⟩,⟨true,0,36,7,[.ag [.vw true [],.vw true [],.vw true [],.vw true [],.vw true [],.sc (.int .i64 0),.sc (.int .i64 0)]],false⟩,
   ⟨true,2,9,1,[stA goB,stA overB],true⟩,⟨true,3,3,1,[.sc (.int .i64 p0),.sc (.int .i64 p1)],true⟩,⟨true,4,3,1,[.sc (.int .i64 0),.sc (.int .i64 5),.sc (.int .i64 (-3))],true⟩,
   ⟨true,5,36,7,[.ag [.sl 7 y.2.1 0 (mkA t a0 y.1).ins.length,.sl 2 2 0 2,.sl 8 y.2.2 0 (mkA t a0 y.1).ens.length,.sl 3 3 0 2,.sl 4 4 0 3,.sc (.int .i64 2),.sc (.int .i64 2)]],false⟩,⟨true,6,99,4,keyL.map enA,true⟩,
   ⟨true,y.2.1,102,2,(mkA t a0 y.1).ins.map inA,false⟩,⟨true,y.2.2,99,4,(mkA t a0 y.1).ens.map enA,false⟩],cnt⟩)
  (fun y=>y.1≤9) (fun y=>9 - y.1) (0,7,8) (Nat.zero_le _) (weakT_refl _) (weakH_refl _) rfl ?_
 rintro ⟨i,v7,v8⟩ cnt hi ih
 simp only at hi
 have hm:=mkA_ok ht hb2 i
 have hmn:mkA t a0 (i+1)=mkI t i (mkA t a0 i):=rfl
 by_cases hi9:i < 9
 rotate_left
 ·obtain rfl:i=9:=by omega
  obtain ⟨mm,hmm⟩:∃ mm,mkA t a0 9=mm:=⟨_,rfl⟩
  simp only [hmm]
  obtain ⟨ins,ens,a⟩:=mm
  have h1:decide (((9:Nat):Int) < 9)=false:=by decide
  have ht1:List.take ins.length (ins.map inA)=ins.map inA:=List.take_of_length_le (by simp)
  have ht2:List.take ens.length (ens.map enA)=ens.map enA:=List.take_of_length_le (by simp)
  refine vc_go ?_
  simp (maxSteps:=10000000) only [mkT,lkT,Nat.reduceAdd,Nat.reduceEqDiff,↓reduceIte,Nat.zero_add]
  simp (maxSteps:=10000000) +contextual -implicitDefEqProofs only [bnC,bnS,St.put,↓reduceIte,Nat.reduceAdd,Int.reduceLT,Nat.reduceLT,bnT,Int.reduceAdd,bnH,kA_eq,stA_eq,codeV,codeH]
  refine ⟨rn_ag ⟨.sl 0 v7 0 _ _ rfl rfl rfl (Nat.lt_succ_self _),.sl 1 2 0 2 _ rfl rfl rfl (Nat.lt_succ_self _),.sl 2 v8 0 _ _ rfl rfl rfl (Nat.lt_succ_self _),.sl 3 3 0 2 _ rfl rfl rfl (Nat.lt_succ_self _),.sl 4 4 0 3 _ rfl rfl rfl (Nat.lt_succ_self _),.nr rfl,.nr rfl,trivial⟩,fun j B2 e1 e2=>?_⟩
  have hj:j < 5:=(List.getElem?_eq_some_iff.1 e1).1
  have h5:j=0∨j=1∨j=2∨j=3∨j=4:=by omega
  rcases h5 with rfl | rfl | rfl | rfl | rfl
  ·cases e1; exact ⟨_,rfl,rfl,Nat.le_refl _,Nat.lt_succ_self _,rfl,rfl,rfl,rn_same (norefs_inA _) (noJk_inA _)⟩
  ·cases e1; exact ⟨_,rfl,rfl,Nat.le_refl _,Nat.lt_succ_self _,rfl,rfl,rfl,rn_same (norefs_stA [goB,overB]) rfl⟩
  ·cases e1; exact ⟨_,rfl,rfl,Nat.le_refl _,Nat.lt_succ_self _,rfl,rfl,rfl,rn_same (norefs_enA _) (noJk_enA _)⟩
  ·cases e1; exact ⟨_,rfl,rfl,Nat.le_refl _,Nat.lt_succ_self _,rfl,rfl,rfl,rn_same (norefs_k64 [p0,p1]) rfl⟩
  ·cases e1; exact ⟨_,rfl,rfl,Nat.le_refl _,Nat.lt_succ_self _,rfl,rfl,rfl,rn_same (norefs_k64 [0,5,-3]) rfl⟩
  all_goals done
 have ih:=fun v7 v8 c=>ih (i+1,v7,v8) c (by simp only; omega) (by simp only; omega)
 simp only [hmn] at ih
 obtain ⟨mm,hmm⟩:∃ mm,mkA t a0 i=mm:=⟨_,rfl⟩
 rw [hmm] at hm ih
 simp only [hmm]
 obtain ⟨ins,ens,a⟩:=mm
 have hi1:=hm.ins
 have hi2:=hm.ens
 have hi3:=hm.a
 simp only at hi1 hi2 hi3
 have h1:decide ((i:Int) < 9)=true:=by rw [decide_eq_true_eq]; omega
 have h2:decide (i < keyL.length)=true:=by rw [decide_eq_true_eq]; omega
 have w1:IntKind.i64.wrap ((i:Int)+1)=((i+1:Nat):Int):=by rw [wrap64 (by omega) (by omega)]; omega
 have E2:=E1 a 2 2 rfl (by omega) (by omega) hi3
 by_cases hskip:0 < i∧tNx t a 2=0
 ·have hr:mkI t i ⟨ins,ens,a⟩=⟨ins,ens,tAt t a⟩:=by rw [mkI,if_pos hskip.1,if_pos hskip.2]
  simp only [hr] at ih
  have h3:decide ((0:Int) < (i:Int))=true:=by rw [decide_eq_true_eq]; omega
  rw [hskip.2] at E2
  refine vc_go ?_
  simp (maxSteps:=10000000) only [mkT,lkT,Nat.reduceAdd,Nat.reduceEqDiff,↓reduceIte,Nat.zero_add]
  simp (maxSteps:=10000000) +contextual -implicitDefEqProofs only [bnC,bnS,guardV,St.put,pin,↓reduceIte,bnT,bnH,hin,hl,stA_eq,h1,h3,w1,E2]
  refine go_weak ?_ ?_ (Nat.le_refl _) (ih v7 v8 _)
  all_goals simp (maxSteps:=10000000) only [bnC,bnS,↓reduceIte,reduceCtorEq,Nat.reduceAdd,Nat.reduceEqDiff,mkT,lkT,stA_eq]
  all_goals done
 obtain ⟨a1,ha1,hr⟩:∃ a1,(a1=if 0 < i then tAt t a else a)∧mkI t i ⟨ins,ens,a⟩=mkGs t i ⟨ins,ens,a⟩ a1:=by
  refine ⟨_,rfl,?_⟩
  rw [mkI]
  split
  ·rename_i h; rw [if_neg (fun h'=>hskip ⟨h,h'⟩)]
  ·rfl
 have ha1l:a1≤200:=by rw [ha1]; split; exact tAt_le ht hi3; exact hi3
 have E3:=E1 a1 4 4 rfl (by omega) (by omega) ha1l
 obtain ⟨key,hkey⟩:∃ key,keyL.getD i default=key:=⟨_,rfl⟩
 obtain ⟨k1,k2,k3,k4⟩:=key
 have hsz:decide ((ens.length+1) * 32≤140737488355328)=true:=by rw [decide_eq_true_eq]; omega
 have htk:List.take ens.length (ens.map enA)=ens.map enA:=List.take_of_length_le (by simp)
 have hma:ens.map enA++[.ag [.sc (.int .i64 k1),.sc (.int .i64 k2),.sc (.int .i64 k3),.sc (.int .i64 (ins.length:Int))]]=(ens++[(⟨k1,k2,k3,(ins.length:Int)⟩:En)]).map enA:=by rw [List.map_append]; rfl
 by_cases hi0:0 < i
 ·have h3:decide ((0:Int) < (i:Int))=true:=by rw [decide_eq_true_eq]; omega
  have h4:(((tNx t a 2:Nat):Int) == 0)=false:=by
   rw [beq_eq_false_iff_ne]
   intro h; exact hskip ⟨hi0,by omega⟩
  rw [if_pos hi0] at ha1
  rw [ha1] at E3 hr ha1l
  obtain ⟨RES,hRES⟩:∃ RES,mkN t (tNx t (tAt t a) 4) ⟨ins,ens++[⟨k1,k2,k3,(ins.length:Int)⟩],tAt t (tAt t a)⟩=RES:=⟨_,rfl⟩
  have hn4:tNx t (tAt t a) 4 < 4:=tNx_lt (by omega)
  refine vc_go ?_
  simp (maxSteps:=10000000) only [mkT,lkT,Nat.reduceAdd,Nat.reduceEqDiff,↓reduceIte,Nat.zero_add]
  simp (maxSteps:=10000000) +contextual -implicitDefEqProofs only [bnC,bnS,guardV,St.put,pin,↓reduceIte,reduceCtorEq,Nat.reduceAdd,Nat.reduceLeDiff,Nat.reduceMul,Int.reduceLT,Nat.reduceLT,bnT,Int.reduceAdd,Int.reduceMul,bnH,hin,hl,enA_eq,stA_eq,h1,h2,h3,h4,E2,E3,hkey,get_mapN,hsz,htk,hma]
  generalize cnt+1+1=v8' at *
  refine go_loopW (σ:=Nat × Mk × Nat) (fun y cnt=>⟨mkT 0 83 [(2,.pt 1 0 0 0),(3,.pt 0 1 0 0),(4,.pt 5 5 0 0),(5,.sl 6 6 0 9),(6,.sc (.int .i64 (i:Int))),(8,.sc (.int .i64 (y.1:Int)))],
   [⟨true,1,96,2,[.ag [.vw t.z (t.l.map uA),.sc (.int .i64 (y.2.1.a:Int))]],false⟩,⟨true,0,36,7,[.ag [.vw true [],.vw true [],.vw true [],.vw true [],.vw true [],.sc (.int .i64 0),.sc (.int .i64 0)]],false⟩,
    ⟨true,2,9,1,[stA goB,stA overB],true⟩,⟨true,3,3,1,[.sc (.int .i64 p0),.sc (.int .i64 p1)],true⟩,⟨true,4,3,1,[.sc (.int .i64 0),.sc (.int .i64 5),.sc (.int .i64 (-3))],true⟩,
    ⟨true,5,36,7,[.ag [.sl 7 y.2.2 0 y.2.1.ins.length,.sl 2 2 0 2,.sl 8 v8' 0 (ens.length+1),.sl 3 3 0 2,.sl 4 4 0 3,.sc (.int .i64 2),.sc (.int .i64 2)]],false⟩,⟨true,6,99,4,keyL.map enA,true⟩,
    ⟨true,y.2.2,102,2,y.2.1.ins.map inA,false⟩,⟨true,v8',99,4,(ens++[(⟨k1,k2,k3,(ins.length:Int)⟩:En)]).map enA,false⟩],cnt⟩)
   (fun y=>mkN t y.1 y.2.1=RES∧y.2.1.a≤200∧y.2.1.ins.length+16 * y.1≤600) (fun y=>y.1) (tNx t (tAt t a) 4,⟨ins,ens++[⟨k1,k2,k3,(ins.length:Int)⟩],tAt t (tAt t a)⟩,v7) ⟨hRES,tAt_le ht ha1l,by simp only; omega⟩ ?_ ?_ rfl ?_
  ·simp (maxSteps:=10000000) only [bnC,bnS,↓reduceIte,reduceCtorEq,Nat.reduceAdd,Nat.reduceEqDiff,mkT,lkT]
  ·simp (maxSteps:=10000000) only [bnC,bnS,stA_eq]
  rintro ⟨r,⟨ins',ens',a'⟩,v7'⟩ cnt' ⟨g1,g2,g3⟩ ih2
  simp only at g1 g2 g3
  by_cases hr0:0 < r
  ·obtain ⟨r,rfl⟩:∃ q,r=q+1:=⟨r - 1,by omega⟩
   have c1:decide ((0:Int) < ((r+1:Nat):Int))=true:=by rw [decide_eq_true_eq]; omega
   have w2:IntKind.i64.wrap (((r+1:Nat):Int) - 1)=(r:Int):=by rw [wrap64 (by omega) (by omega)]; omega
   obtain ⟨c',E4⟩:=e43V t ht 2 ins'.length a' 2 rfl (by omega) (by omega) g2 [⟨true,0,36,7,[.ag [.vw true [],.vw true [],.vw true [],.vw true [],.vw true [],.sc (.int .i64 0),.sc (.int .i64 0)]],false⟩,
    ⟨true,2,9,1,[stA goB,stA overB],true⟩,⟨true,3,3,1,[.sc (.int .i64 p0),.sc (.int .i64 p1)],true⟩,⟨true,4,3,1,[.sc (.int .i64 0),.sc (.int .i64 5),.sc (.int .i64 (-3))],true⟩,
    ⟨true,5,36,7,[.ag [.sl 7 v7' 0 ins'.length,.sl 2 2 0 2,.sl 8 v8' 0 (ens.length+1),.sl 3 3 0 2,.sl 4 4 0 3,.sc (.int .i64 2),.sc (.int .i64 2)]],false⟩,⟨true,6,99,4,keyL.map enA,true⟩,
    ⟨true,v7',102,2,ins'.map inA,false⟩,⟨true,v8',99,4,(ens++[(⟨k1,k2,k3,(ins.length:Int)⟩:En)]).map enA,false⟩] cnt'
   have hsl:=tStm_len t 2 ins'.length a'
   have hsa:=tStm_le ht 2 ins'.length g2
   rw [mkN] at g1
   simp only at g1
   obtain ⟨X,hX⟩:∃ X,(tStm t 2 ins'.length a').1=X:=⟨_,rfl⟩
   obtain ⟨u,hu⟩:∃ u,(tStm t 2 ins'.length a').2=u:=⟨_,rfl⟩
   rw [hX] at hsl
   rw [hu] at hsa
   simp only [hX,hu] at E4 g1
   rw [hv] at E4
   simp only [stA_eq] at E4
   have ih2:=fun v7 c=>ih2 (r,⟨ins'++X,ens',u⟩,v7) c ⟨g1,hsa,by simp only [List.length_append]; omega⟩ (by simp only; omega)
   simp only [List.length_append] at ih2
   have hsz':decide ((ins'.length+X.length) * 16≤140737488355328)=true:=by rw [decide_eq_true_eq]; omega
   have htk':List.take ins'.length (ins'.map inA)=ins'.map inA:=List.take_of_length_le (by simp)
   have hma':ins'.map inA++X.map inA=(ins'++X).map inA:=by rw [List.map_append]
   refine vc_go ?_
   simp (maxSteps:=10000000) only [mkT,lkT,Nat.reduceAdd,Nat.reduceEqDiff,↓reduceIte,Nat.zero_add]
   simp (maxSteps:=10000000) +contextual -implicitDefEqProofs only [bnC,bnS,St.put,pin,↓reduceIte,reduceCtorEq,Nat.reduceAdd,Nat.reduceLeDiff,Nat.reduceEqDiff,Int.reduceLT,Nat.reduceLT,bnT,Int.reduceAdd,bnH,hin,hl,stA_eq,c1,w2,E4,hsz',htk',hma',allSz_inA,norefs_inA]
   repeat' (first | exact chk_no (by kernel_rfl) | refine ⟨chk_no (by kernel_rfl),?_⟩ | refine And.intro ?_ ?_ | fail)
   refine go_weak ?_ ?_ (Nat.le_refl _) (ih2 c' _)
   all_goals simp (maxSteps:=10000000) only [bnC,bnS,↓reduceIte,reduceCtorEq,Nat.reduceAdd,Nat.reduceEqDiff,mkT,lkT,stA_eq]
   all_goals done
  ·obtain rfl:r=0:=by omega
   have g1:(⟨ins',ens',a'⟩:Mk)=RES:=g1
   have hG:mkGs t i ⟨ins,ens,a⟩ (tAt t a)=⟨RES.ins++[⟨31,0⟩],RES.ens,RES.a⟩:=by
    rw [←hRES,mkGs]; simp only [hkey]
   have hE:RES.ens=ens++[⟨k1,k2,k3,(ins.length:Int)⟩]:=by
    rw [←hRES]; exact (mkN_ok ht _ (tAt_le ht ha1l)).2.1
   rw [←g1] at hG hE
   simp only at hG hE
   rw [hE] at hG
   rw [hG] at hr
   simp only [hr,List.length_append,List.length_cons,List.length_nil,Nat.zero_add] at ih
   have hsz':decide ((ins'.length+1) * 16≤140737488355328)=true:=by rw [decide_eq_true_eq]; omega
   have htk':List.take ins'.length (ins'.map inA)=ins'.map inA:=List.take_of_length_le (by simp)
   have hma':ins'.map inA++[.ag [.sc (.int .i64 31),.sc (.int .i64 0)]]=(ins'++[(⟨31,0⟩:In)]).map inA:=by rw [List.map_append]; rfl
   clear ih2
   refine vc_go ?_
   simp (maxSteps:=10000000) only [mkT,lkT,Nat.reduceAdd,Nat.reduceEqDiff,↓reduceIte,Nat.zero_add]
   simp (maxSteps:=10000000) +contextual -implicitDefEqProofs only [bnC,bnS,St.put,↓reduceIte,reduceCtorEq,Nat.reduceAdd,Nat.reduceLeDiff,Nat.reduceMul,Int.reduceLT,Nat.reduceLT,bnT,bnX,Int.reduceAdd,Int.reduceMul,bnH,stA_eq,w1,hsz',htk',hma']
   refine go_weak ?_ ?_ (Nat.le_refl _) (ih (cnt'+1) v8' _)
   all_goals simp (maxSteps:=10000000) only [bnC,bnS,↓reduceIte,reduceCtorEq,Nat.reduceAdd,Nat.reduceEqDiff,mkT,lkT,stA_eq]
   all_goals done
 ·have h3:decide ((0:Int) < (i:Int))=false:=by rw [decide_eq_false_iff_not]; omega
  rw [if_neg hi0] at ha1
  rw [ha1] at E3 hr ha1l
  obtain ⟨RES,hRES⟩:∃ RES,mkN t (tNx t a 4) ⟨ins,ens++[⟨k1,k2,k3,(ins.length:Int)⟩],tAt t a⟩=RES:=⟨_,rfl⟩
  have hn4:tNx t a 4 < 4:=tNx_lt (by omega)
  refine vc_go ?_
  simp (maxSteps:=10000000) only [mkT,lkT,Nat.reduceAdd,Nat.reduceEqDiff,↓reduceIte,Nat.zero_add]
  simp (maxSteps:=10000000) +contextual -implicitDefEqProofs only [bnC,bnS,guardV,St.put,pin,↓reduceIte,reduceCtorEq,Nat.reduceAdd,Nat.reduceLeDiff,Nat.reduceMul,Int.reduceLT,Nat.reduceLT,bnT,Int.reduceAdd,Int.reduceMul,bnH,hin,hl,enA_eq,stA_eq,h1,h2,h3,E3,hkey,get_mapN,hsz,htk,hma]
  generalize cnt+1+1=v8' at *
  refine go_loopW (σ:=Nat × Mk × Nat) (fun y cnt=>⟨mkT 0 83 [(2,.pt 1 0 0 0),(3,.pt 0 1 0 0),(4,.pt 5 5 0 0),(5,.sl 6 6 0 9),(6,.sc (.int .i64 (i:Int))),(8,.sc (.int .i64 (y.1:Int)))],
   [⟨true,1,96,2,[.ag [.vw t.z (t.l.map uA),.sc (.int .i64 (y.2.1.a:Int))]],false⟩,⟨true,0,36,7,[.ag [.vw true [],.vw true [],.vw true [],.vw true [],.vw true [],.sc (.int .i64 0),.sc (.int .i64 0)]],false⟩,
    ⟨true,2,9,1,[stA goB,stA overB],true⟩,⟨true,3,3,1,[.sc (.int .i64 p0),.sc (.int .i64 p1)],true⟩,⟨true,4,3,1,[.sc (.int .i64 0),.sc (.int .i64 5),.sc (.int .i64 (-3))],true⟩,
    ⟨true,5,36,7,[.ag [.sl 7 y.2.2 0 y.2.1.ins.length,.sl 2 2 0 2,.sl 8 v8' 0 (ens.length+1),.sl 3 3 0 2,.sl 4 4 0 3,.sc (.int .i64 2),.sc (.int .i64 2)]],false⟩,⟨true,6,99,4,keyL.map enA,true⟩,
    ⟨true,y.2.2,102,2,y.2.1.ins.map inA,false⟩,⟨true,v8',99,4,(ens++[(⟨k1,k2,k3,(ins.length:Int)⟩:En)]).map enA,false⟩],cnt⟩)
   (fun y=>mkN t y.1 y.2.1=RES∧y.2.1.a≤200∧y.2.1.ins.length+16 * y.1≤600) (fun y=>y.1) (tNx t (a) 4,⟨ins,ens++[⟨k1,k2,k3,(ins.length:Int)⟩],tAt t (a)⟩,v7) ⟨hRES,tAt_le ht ha1l,by simp only; omega⟩ ?_ ?_ rfl ?_
  ·simp (maxSteps:=10000000) only [bnC,bnS,↓reduceIte,reduceCtorEq,Nat.reduceAdd,Nat.reduceEqDiff,mkT,lkT]
  ·simp (maxSteps:=10000000) only [bnC,bnS,stA_eq]
  rintro ⟨r,⟨ins',ens',a'⟩,v7'⟩ cnt' ⟨g1,g2,g3⟩ ih2
  simp only at g1 g2 g3
  by_cases hr0:0 < r
  ·obtain ⟨r,rfl⟩:∃ q,r=q+1:=⟨r - 1,by omega⟩
   have c1:decide ((0:Int) < ((r+1:Nat):Int))=true:=by rw [decide_eq_true_eq]; omega
   have w2:IntKind.i64.wrap (((r+1:Nat):Int) - 1)=(r:Int):=by rw [wrap64 (by omega) (by omega)]; omega
   obtain ⟨c',E4⟩:=e43V t ht 2 ins'.length a' 2 rfl (by omega) (by omega) g2 [⟨true,0,36,7,[.ag [.vw true [],.vw true [],.vw true [],.vw true [],.vw true [],.sc (.int .i64 0),.sc (.int .i64 0)]],false⟩,
    ⟨true,2,9,1,[stA goB,stA overB],true⟩,⟨true,3,3,1,[.sc (.int .i64 p0),.sc (.int .i64 p1)],true⟩,⟨true,4,3,1,[.sc (.int .i64 0),.sc (.int .i64 5),.sc (.int .i64 (-3))],true⟩,
    ⟨true,5,36,7,[.ag [.sl 7 v7' 0 ins'.length,.sl 2 2 0 2,.sl 8 v8' 0 (ens.length+1),.sl 3 3 0 2,.sl 4 4 0 3,.sc (.int .i64 2),.sc (.int .i64 2)]],false⟩,⟨true,6,99,4,keyL.map enA,true⟩,
    ⟨true,v7',102,2,ins'.map inA,false⟩,⟨true,v8',99,4,(ens++[(⟨k1,k2,k3,(ins.length:Int)⟩:En)]).map enA,false⟩] cnt'
   have hsl:=tStm_len t 2 ins'.length a'
   have hsa:=tStm_le ht 2 ins'.length g2
   rw [mkN] at g1
   simp only at g1
   obtain ⟨X,hX⟩:∃ X,(tStm t 2 ins'.length a').1=X:=⟨_,rfl⟩
   obtain ⟨u,hu⟩:∃ u,(tStm t 2 ins'.length a').2=u:=⟨_,rfl⟩
   rw [hX] at hsl
   rw [hu] at hsa
   simp only [hX,hu] at E4 g1
   rw [hv] at E4
   simp only [stA_eq] at E4
   have ih2:=fun v7 c=>ih2 (r,⟨ins'++X,ens',u⟩,v7) c ⟨g1,hsa,by simp only [List.length_append]; omega⟩ (by simp only; omega)
   simp only [List.length_append] at ih2
   have hsz':decide ((ins'.length+X.length) * 16≤140737488355328)=true:=by rw [decide_eq_true_eq]; omega
   have htk':List.take ins'.length (ins'.map inA)=ins'.map inA:=List.take_of_length_le (by simp)
   have hma':ins'.map inA++X.map inA=(ins'++X).map inA:=by rw [List.map_append]
   refine vc_go ?_
   simp (maxSteps:=10000000) only [mkT,lkT,Nat.reduceAdd,Nat.reduceEqDiff,↓reduceIte,Nat.zero_add]
   simp (maxSteps:=10000000) +contextual -implicitDefEqProofs only [bnC,bnS,St.put,pin,↓reduceIte,reduceCtorEq,Nat.reduceAdd,Nat.reduceLeDiff,Nat.reduceEqDiff,Int.reduceLT,Nat.reduceLT,bnT,Int.reduceAdd,bnH,hin,hl,stA_eq,c1,w2,E4,hsz',htk',hma',allSz_inA,norefs_inA]
   repeat' (first | exact chk_no (by kernel_rfl) | refine ⟨chk_no (by kernel_rfl),?_⟩ | refine And.intro ?_ ?_ | fail)
   refine go_weak ?_ ?_ (Nat.le_refl _) (ih2 c' _)
   all_goals simp (maxSteps:=10000000) only [bnC,bnS,↓reduceIte,reduceCtorEq,Nat.reduceAdd,Nat.reduceEqDiff,mkT,lkT,stA_eq]
   all_goals done
  ·obtain rfl:r=0:=by omega
   have g1:(⟨ins',ens',a'⟩:Mk)=RES:=g1
   have hG:mkGs t i ⟨ins,ens,a⟩ (a)=⟨RES.ins++[⟨31,0⟩],RES.ens,RES.a⟩:=by
    rw [←hRES,mkGs]; simp only [hkey]
   have hE:RES.ens=ens++[⟨k1,k2,k3,(ins.length:Int)⟩]:=by
    rw [←hRES]; exact (mkN_ok ht _ (tAt_le ht ha1l)).2.1
   rw [←g1] at hG hE
   simp only at hG hE
   rw [hE] at hG
   rw [hG] at hr
   simp only [hr,List.length_append,List.length_cons,List.length_nil,Nat.zero_add] at ih
   have hsz':decide ((ins'.length+1) * 16≤140737488355328)=true:=by rw [decide_eq_true_eq]; omega
   have htk':List.take ins'.length (ins'.map inA)=ins'.map inA:=List.take_of_length_le (by simp)
   have hma':ins'.map inA++[.ag [.sc (.int .i64 31),.sc (.int .i64 0)]]=(ins'++[(⟨31,0⟩:In)]).map inA:=by rw [List.map_append]; rfl
   clear ih2
   refine vc_go ?_
   simp (maxSteps:=10000000) only [mkT,lkT,Nat.reduceAdd,Nat.reduceEqDiff,↓reduceIte,Nat.zero_add]
   simp (maxSteps:=10000000) +contextual -implicitDefEqProofs only [bnC,bnS,St.put,↓reduceIte,reduceCtorEq,Nat.reduceAdd,Nat.reduceLeDiff,Nat.reduceMul,Int.reduceLT,Nat.reduceLT,bnT,bnX,Int.reduceAdd,Int.reduceMul,bnH,stA_eq,w1,hsz',htk',hma']
   refine go_weak ?_ ?_ (Nat.le_refl _) (ih (cnt'+1) v8' _)
   all_goals simp (maxSteps:=10000000) only [bnC,bnS,↓reduceIte,reduceCtorEq,Nat.reduceAdd,Nat.reduceEqDiff,mkT,lkT,stA_eq]
   all_goals done
end Go.Proofs.YtdjpkhjaibdogaaGreat

namespace Go.Proofs.YtdjpkhjaibdogaaGreat
open Go Go.SX
set_option linter.unusedSimpArgs false
set_option linter.unusedVariables false
attribute [local congr] ite_congr
set_option maxRecDepth 100000
set_option maxHeartbeats 8000000
theorem u8ok {l:List Nat} (h:∀ x ∈ l,x < 256) (i:Nat):l.getD i default < 256:=by
 rw [List.getD_eq_getElem?_getD]
 cases hx:l[i]? with
 | none=>decide
 | some x=>exact h x (List.mem_of_getElem? hx)
def u8Q (p:Bool × List Nat):Prop:=∀ x ∈ p.2,x < 256
def madeC (l:Bool × List Nat):Cd:=madeT (tpL l.1 l.2 1)
noncomputable def f14:=mkF u8Q (fun p=>[.vw p.1 (p.2.map uA)]) (fun p=>cdA (madeC p))
theorem e14 (z:Bool) (l:List Nat) (h:∀ x ∈ l,x < 256):f14 [.vw z (l.map uA)]=some (cdA (madeC (z,l))):=
 (mkF_eq (q:=u8Q) (enc:=fun p=>[.vw p.1 (p.2.map uA)]) (out:=fun p=>cdA (madeC p)) (z,l) h (by
  rintro ⟨a,b⟩ h
  simp only [List.cons.injEq,AV.vw.injEq,map_uA,and_true] at h
  rw [h.1,h.2]) :)
theorem freshs_stA (l:List ByteArray):freshs (l.map stA)=true:=freshs_map (f:=stA) (fun _=>by simp [stA,AV.fresh]) l
theorem code_bor (v:Nat) (c:Cd) (h1:c.zi=false) (h2:c.zs=false) (h3:c.ze=false) (h4:c.zp=false) (h5:c.zv=false):borrow (codeH v c) (codeV 0 v c)=cdA c∧(codeV 0 v c).freshIn (codeH v c)=true:=by
 obtain ⟨zi,ins,zs,strs,ze,ens,zp,pri,zv,vars,tim,evs⟩:=c
 simp only at h1 h2 h3 h4 h5
 subst h1; subst h2; subst h3; subst h4; subst h5
 constructor
 ·simp [codeV,codeH,borrow,borrows,liveB,cdA,kA,List.take_of_length_le]
 ·simp [codeV,codeH,AV.freshIn,freshsIn,liveB,freshs,AV.fresh,freshs_inA,freshs_enA,freshs_stA,freshs_k64]
theorem ok14:FOk Tryz.prog 14 f14:=fok_mk <| by
 rintro ⟨z,l⟩ h
 obtain ⟨g1,g2⟩:=code_bor 0 (madeC (z,l)) rfl rfl rfl rfl rfl
 have:=made_spec z l (u8ok h) [] 0
 exact fspec_of_h (noref_cdA _) this (by rw [List.nil_append]; exact g1 ▸ .refl _) (by rw [List.nil_append]; exact g2)
theorem tpL_ok (z:Bool) (l:List Nat) (hu:∀ i,l.getD i default < 256) (v:Nat):TpOk (tpL z l v):=by
 refine ⟨fun i=>?_,by simp [tpL]; omega⟩
 simp only [tpL]
 rw [List.getD_eq_getElem?_getD,List.getElem?_take]
 split
 ·rw [←List.getD_eq_getElem?_getD]; exact hu i
 ·exact Nat.lt_of_lt_of_le (by decide) (Nat.le_refl 256)
theorem madeC_fit (p:Bool × List Nat) (h:u8Q p):Fit (madeC p)∧(madeC p).vars=[0,5,-3]:=by
 have ht:=tpL_ok p.1 p.2 (u8ok h) 1
 have hm:=mkA_ok ht (tAt_le ht (tAt_le ht (a:=0) (by omega))) 9
 have h1:=hm.ins
 have h2:=hm.ens
 refine ⟨⟨?_,by simp [madeC,madeT],?_,by simp [madeC,madeT],by simp [madeC,madeT],by simp [madeC,madeT],by simp [madeC,madeT],?_⟩,rfl⟩
 ·simp only [madeC,madeT]; omega
 ·simp only [madeC,madeT]; omega
 ·intro b hb
  simp only [madeC,madeT,List.mem_cons,List.not_mem_nil,or_false] at hb
  rcases hb with rfl | rfl
  ·decide
  ·decide
end Go.Proofs.YtdjpkhjaibdogaaGreat
