/-
  Lemmas towards ModesPriority (joined texts: K0).
  Conditions: none.
-/
import Derived.KernelRfl
set_option linter.unusedSimpArgs false
set_option linter.unusedVariables false
set_option maxRecDepth 100000
namespace Go.SX
open Go
theorem aI {a b:Prop} (x:a) (y:b):a∧b:=⟨x,y⟩
theorem b8 {a b c d e f g h:Prop} (i:a) (j:b) (k:c) (l:d) (m:e) (n:f) (o:g) (p:h):a∧b∧c∧d∧e∧f∧g∧h:=⟨i,j,k,l,m,n,o,p⟩
theorem lx1.{u}:type_of% @List.length_set.{u}:=@List.length_set.{u}
theorem lx2.{u}:type_of% @List.getElem?_concat_length.{u}:=@List.getElem?_concat_length.{u}
theorem lx3.{u}:type_of% @Option.isSome_none.{u}:=@Option.isSome_none.{u}
theorem lx4.{u}:type_of% @Option.getD_some.{u}:=@Option.getD_some.{u}
theorem lx5.{u}:type_of% @List.set_cons_succ.{u}:=@List.set_cons_succ.{u}
theorem lx6.{u}:type_of% @List.append_assoc.{u}:=@List.append_assoc.{u}
theorem lx7.{u}:type_of% @List.length_append.{u}:=@List.length_append.{u}
theorem lx8.{u}:type_of% @if_true.{u}:=@if_true.{u}
theorem lx9.{u}:type_of% @if_false.{u}:=@if_false.{u}
theorem lx10.{u,v}:type_of% @List.map_append.{u,v}:=@List.map_append.{u,v}
theorem Gl:type_of% @Nat.add_zero:=@Nat.add_zero
theorem lx12.{u}:type_of% @List.take_of_length_le.{u}:=@List.take_of_length_le.{u}
theorem Av:type_of% @Nat.le_refl:=@Nat.le_refl
theorem Qv:type_of% @Nat.le_trans:=@Nat.le_trans
theorem Lg:type_of% @Nat.lt_of_lt_of_le:=@Nat.lt_of_lt_of_le
theorem lx16.{u}:type_of% @Option.some.injEq.{u}:=@Option.some.injEq.{u}
theorem lx17.{u,v}:type_of% @Option.bind_some.{u,v}:=@Option.bind_some.{u,v}
theorem lx18.{u}:type_of% @List.getElem?_append.{u}:=@List.getElem?_append.{u}
theorem lx19.{u}:type_of% @List.getElem?_take.{u}:=@List.getElem?_take.{u}
theorem lx20.{u}:type_of% @List.getElem?_drop.{u}:=@List.getElem?_drop.{u}
theorem lx21.{u}:type_of% @List.getElem?_set.{u}:=@List.getElem?_set.{u}
theorem lx22.{u}:type_of% @List.getElem?_eq_some_iff.{u}:=@List.getElem?_eq_some_iff.{u}
theorem lx23.{u,v}:type_of% @List.getElem?_map.{u,v}:=@List.getElem?_map.{u,v}
theorem lx24.{u,v}:type_of% @Option.map_eq_some_iff.{u,v}:=@Option.map_eq_some_iff.{u,v}
theorem lx25.{u}:type_of% @List.mem_of_getElem?.{u}:=@List.mem_of_getElem?.{u}
theorem Bq:type_of% @Nat.zero_le:=@Nat.zero_le
theorem AH:type_of% @Bool.and_eq_true:=@Bool.and_eq_true
theorem lx28.{u}:type_of% @List.all_eq_true.{u}:=@List.all_eq_true.{u}
theorem lx29.{u}:type_of% @Array.length_toList.{u}:=@Array.length_toList.{u}
theorem lx30.{u}:type_of% @List.getElem?_eq_none.{u}:=@List.getElem?_eq_none.{u}
theorem lx31.{u,v}:type_of% @List.map_cons.{u,v}:=@List.map_cons.{u,v}
theorem F0:type_of% @Nat.add_assoc:=@Nat.add_assoc
theorem SS:type_of% @List.getElem?_range:=@List.getElem?_range
theorem lx34.{u,v}:type_of% @Option.map_some.{u,v}:=@Option.map_some.{u,v}
theorem lx35.{u,v}:type_of% @List.mem_map.{u,v}:=@List.mem_map.{u,v}
theorem Hr:type_of% @List.mem_range:=@List.mem_range
theorem DD:type_of% @Bool.false_eq_true:=@Bool.false_eq_true
theorem lx38.{u}:type_of% @List.mem_of_mem_take.{u}:=@List.mem_of_mem_take.{u}
theorem lx39.{u}:type_of% @List.getElem?_toArray.{u}:=@List.getElem?_toArray.{u}
theorem lx40.{u,v}:type_of% @Prod.mk.injEq.{u,v}:=@Prod.mk.injEq.{u,v}
theorem Gx:type_of% @Nat.add_mul:=@Nat.add_mul
theorem lx42.{u}:type_of% @List.take_zero.{u}:=@List.take_zero.{u}
theorem Bw:type_of% @decide_eq_true_eq:=@decide_eq_true_eq
theorem lx44.{u}:type_of% @List.mem_iff_getElem?.{u}:=@List.mem_iff_getElem?.{u}
theorem lx45.{u}:type_of% @List.getElem?_cons_zero.{u}:=@List.getElem?_cons_zero.{u}
theorem lx46.{u,v}:type_of% @List.map_nil.{u,v}:=@List.map_nil.{u,v}
theorem lx47.{u}:type_of% @List.mem_cons_self.{u}:=@List.mem_cons_self.{u}
theorem lx48.{u}:type_of% @List.mem_cons_of_mem.{u}:=@List.mem_cons_of_mem.{u}
theorem lx49.{u}:type_of% @Array.getElem?_eq_some_iff.{u}:=@Array.getElem?_eq_some_iff.{u}
theorem lx50.{u}:type_of% @List.getElem?_eq_getElem.{u}:=@List.getElem?_eq_getElem.{u}
theorem lx51.{u}:type_of% @List.getElem?_set_ne.{u}:=@List.getElem?_set_ne.{u}
theorem lx52.{u}:type_of% @List.length_cons.{u}:=@List.length_cons.{u}
theorem lx53.{u}:type_of% @List.getElem?_cons_succ.{u}:=@List.getElem?_cons_succ.{u}
theorem Qw:type_of% @Nat.mul_le_mul_right:=@Nat.mul_le_mul_right
theorem lx55.{u}:type_of% @List.size_toArray.{u}:=@List.size_toArray.{u}
theorem CL:type_of% @Nat.zero_add:=@Nat.zero_add
theorem lx57.{u,v}:type_of% @List.length_map.{u,v}:=@List.length_map.{u,v}
theorem U2:type_of% @List.length_range:=@List.length_range
theorem lx59.{u}:type_of% @List.mem_cons.{u}:=@List.mem_cons.{u}
theorem lx60.{u}:type_of% @List.eq_nil_of_length_eq_zero.{u}:=@List.eq_nil_of_length_eq_zero.{u}
theorem lx61.{u}:type_of% @List.getElem?_append_left.{u}:=@List.getElem?_append_left.{u}
theorem lx62.{u}:type_of% @List.getElem?_append_right.{u}:=@List.getElem?_append_right.{u}
theorem lx63.{u}:type_of% @List.length_nil.{u}:=@List.length_nil.{u}
theorem lx64.{u}:type_of% @List.nil_append.{u}:=@List.nil_append.{u}
theorem lx65.{u}:type_of% @List.ext_getElem?.{u}:=@List.ext_getElem?.{u}
theorem lx66.{u}:type_of% @List.append_nil.{u}:=@List.append_nil.{u}
theorem lx67.{u}:type_of% @List.take_append_drop.{u}:=@List.take_append_drop.{u}
theorem lx68.{u}:type_of% @List.length_take.{u}:=@List.length_take.{u}
theorem lx69.{u}:type_of% @List.getElem_of_mem.{u}:=@List.getElem_of_mem.{u}
theorem lx70.{u}:type_of% @List.mem_singleton.{u}:=@List.mem_singleton.{u}
theorem lx71.{u}:type_of% @List.set_eq_of_length_le.{u}:=@List.set_eq_of_length_le.{u}
theorem lx72.{u}:type_of% @List.drop_zero.{u}:=@List.drop_zero.{u}
theorem lx73.{u}:type_of% @List.take_length.{u}:=@List.take_length.{u}
theorem lx74.{u}:type_of% @beq_self_eq_true.{u}:=@beq_self_eq_true.{u}
theorem lx75.{u}:type_of% @List.drop_eq_nil_of_le.{u}:=@List.drop_eq_nil_of_le.{u}
theorem lx76.{u}:type_of% @List.drop_eq_getElem_cons.{u}:=@List.drop_eq_getElem_cons.{u}
theorem lx77.{u}:type_of% @List.mem_append.{u}:=@List.mem_append.{u}
theorem ID:type_of% @Bool.or_eq_true:=@Bool.or_eq_true
theorem D0:type_of% @Nat.lt_or_ge:=@Nat.lt_or_ge
theorem lx80.{u}:type_of% @List.drop_drop.{u}:=@List.drop_drop.{u}
theorem lx81.{u}:type_of% @List.getD_eq_getElem?_getD.{u}:=@List.getD_eq_getElem?_getD.{u}
theorem Qx:type_of% @Bool.false_or:=@Bool.false_or
theorem Jt:type_of% @Bool.not_eq_true':=@Bool.not_eq_true'
theorem Qy:type_of% @Bool.or_false:=@Bool.or_false
theorem KP:type_of% @Bool.true_and:=@Bool.true_and
theorem lx86.{u}:type_of% @beq_iff_eq.{u}:=@beq_iff_eq.{u}
theorem Ju:type_of% @Bool.or_eq_false_iff:=@Bool.or_eq_false_iff
theorem WL:type_of% @Nat.lt_succ_self:=@Nat.lt_succ_self
theorem lx89.{u}:type_of% @List.getElem_mem.{u}:=@List.getElem_mem.{u}
theorem lx90.{u}:type_of% @List.cons_append.{u}:=@List.cons_append.{u}
theorem lx91.{u}:type_of% @List.take_succ_cons.{u}:=@List.take_succ_cons.{u}
theorem lx92.{u}:type_of% @List.length_drop.{u}:=@List.length_drop.{u}
theorem lx93.{u}:type_of% @Classical.choose_spec.{u}:=@Classical.choose_spec.{u}
theorem lx94.{u}:type_of% @List.cons.injEq.{u}:=@List.cons.injEq.{u}
theorem lx95.{u}:type_of% @List.any_eq_false.{u}:=@List.any_eq_false.{u}
theorem ND:type_of% @Int.natCast_nonneg:=@Int.natCast_nonneg
theorem C5:type_of% @true_and:=@true_and
theorem AW:type_of% @and_true:=@and_true
theorem Pa:type_of% @Int.toNat_natCast:=@Int.toNat_natCast
theorem lx100.{u}:type_of% @ite_congr.{u}:=@ite_congr.{u}
theorem Qz:type_of% @Nat.mod_two_eq_zero_or_one:=@Nat.mod_two_eq_zero_or_one
theorem Cy:type_of% @decide_eq_false_iff_not:=@decide_eq_false_iff_not
theorem JE:type_of% @Nat.eq_of_beq_eq_true:=@Nat.eq_of_beq_eq_true
theorem AA:type_of% @decide_eq_true:=@decide_eq_true
theorem Ce:type_of% @decide_eq_false:=@decide_eq_false
theorem L2:type_of% @Nat.min_eq_left:=@Nat.min_eq_left
theorem Hw:type_of% @Bool.not_eq_true:=@Bool.not_eq_true
theorem lx108.{u}:type_of% @beq_eq_false_iff_ne.{u}:=@beq_eq_false_iff_ne.{u}
theorem lx109.{u}:type_of% @List.take_succ_eq_append_getElem.{u}:=@List.take_succ_eq_append_getElem.{u}
theorem Ow:type_of% @Bool.not_eq_false':=@Bool.not_eq_false'
theorem lx111.{u}:type_of% @List.set_cons_zero.{u}:=@List.set_cons_zero.{u}
theorem lx112.{u}:type_of% @List.not_mem_nil.{u}:=@List.not_mem_nil.{u}
theorem KW:type_of% @Nat.add_sub_cancel_left:=@Nat.add_sub_cancel_left
theorem lx114.{u,v}:type_of% @List.flatMap_append.{u,v}:=@List.flatMap_append.{u,v}
theorem Jh:type_of% @Int.eq_ofNat_of_zero_le:=@Int.eq_ofNat_of_zero_le
theorem lx116.{u}:type_of% @List.pairwise_cons.{u}:=@List.pairwise_cons.{u}
theorem Gm {P:Prop} (h:P:=by
 simp (maxSteps:=10000000) only [AX,AT,↓reduceIte,reduceCtorEq,Nat.reduceAdd,Nat.reduceEqDiff,CW,Jw]):P:=h
theorem qc2 {P:Prop} (h:P:=by
 simp only [AM,opS,Int.reduceEq,lx8,lx9,↓reduceIte,IA,No,GV,Gu,or_self,or_false,false_or,or_true,true_or]
 refine key _ _ _ _ ?_ ?_ ?_ ?_
 ·have e:(((st:List Int).length:Nat):Int)=(st.length:Int) - 0+0:=by simp [lx7,lx68]
  rw [e]; exact hnx _ _ (by simp [Cz,B5])
 ·exact h2
 ·exact h3
 ·exact h4):P:=h
theorem L3 {P:Prop} (h:P:=by
 simp only [AM,opS,Int.reduceEq,lx8,lx9,↓reduceIte,or_self,or_false,false_or,or_true,true_or,put,pop,eff]; omega):P:=h
theorem qc4 {P:Prop} (h:P:=by
 repeat' (first | exact Aa (by kernel_rfl) | refine ⟨Aa (by kernel_rfl),?_⟩ | refine And.intro ?_ ?_ | fail)
 all_goals first | exact .refl _ | exact .inl rfl | exact Ci _ _ _ | skip
 all_goals done):P:=h
theorem qc5 {P:Prop} (h:P:=by
 simp only [Py,Vz,VA,VB,VC,VD,VE,VF,VG,VH,VI,Pz,MS,VK,PS,MU,P0,Nat.reduceEqDiff,↓reduceIte,lx111,lx5,List.getD_cons_zero,List.getD_cons_succ,Us,RX,MD,Px,Aew,Bool.and_true,KP,Arf,Arh,hj1,hj2,hw1,hw2]
 all_goals done):P:=h
theorem qc6 {P:Prop} (h:P:=by
 repeat' (first | exact Aa (by kernel_rfl) | refine ⟨Aa (by kernel_rfl),?_⟩ | refine And.intro ?_ ?_ | fail)
 all_goals first | exact .refl _ | exact Hd _ _ | exact wkT _ _ _ _ | exact Ci _ _ _ | omega | skip):P:=h
theorem qc7 {P:Prop} (h:P:=by
 all_goals simp (maxSteps:=10000000) only [AX,AT,↓reduceIte,reduceCtorEq,Nat.reduceAdd,Nat.reduceEqDiff,CW,Jw,Ai]
 all_goals done):P:=h
theorem qc8 {P:Prop} (h:P:=by
 simp only [AM,opS,Int.reduceEq,lx8,lx9,↓reduceIte,IA,No,GV,Gu,or_self,or_false,false_or,or_true,true_or]
 have ht:1≤st.length:=by have:=htk; simp [B5] at this; omega
 refine key _ _ _ _ ?_ ?_ ?_ ?_
 ·have e:(((st.take (st.length - 1):List Int).length:Nat):Int)=(st.length:Int) - 1+0:=by simp [lx7,lx68]; omega
  rw [e]; exact hnx _ _ (by simp [Cz,B5])
 ·exact hpop _
 ·exact h3
 ·exact h4):P:=h
theorem qc9 {P:Prop} (h:P:=by
 have hrl:r=l.length:=by omega
 subst hrl
 have h1:decide ((l.length:Int) < (l.length:Int))=false:=by simp
 have e:=Vv (p:=p) hn
 simp (maxSteps:=10000000) only [CW,Jw,Nat.reduceAdd,Nat.reduceEqDiff,↓reduceIte,CL]
 simp (maxSteps:=10000000) +contextual -implicitDefEqProofs only [AX,AT,St.put,↓reduceIte,h1,e]):P:=h
theorem Aqm {P:Prop} (h:P:=by
 simp only [Py,Vz,VA,VB,VC,VD,VE,VF,VG,VH,VI,Pz,MS,VK,PS,MU,P0,Nat.reduceEqDiff,↓reduceIte,lx111,lx5,List.getD_cons_zero,List.getD_cons_succ,Us,RX,MD,Px,Aew,Bool.and_true,KP]):P:=h
theorem Bcf {P:Prop} (h:P:=by
 obtain ⟨b,base⟩:=p
 rw [hlc] at g3'
 simp only at g3' ⊢
 obtain ⟨q1,⟨cs,q2⟩,q3⟩:=g3'
 refine ⟨q1,⟨cs,by rw [←k4]; exact q2⟩,fun i e he=>?_⟩
 have hi:i < B.els.length:=(lx22.1 he).1
 have he0:A.els[i]?=some (A.els[i]'(by omega)):=lx50 (by omega)
 obtain ⟨r1,r2⟩:=q3 i _ he0
 obtain ⟨s1,s2⟩:=Ana ((Fv k6).2 i _ e he0 he)
 refine ⟨by rw [←s1,←k5]; exact r1,fun m d hd=>?_⟩
 have hm:m < e.cells.length:=(lx22.1 hd).1
 have Cc:=lx50 (l:=(A.els[i]'(by omega)).cells) (i:=m) (by omega)
 obtain ⟨u,t1,t2,t3⟩:=r2 m _ Cc
 exact ⟨u,by rw [←k5]; exact t1,t2,hvr (s2 m _ d Cc hd) t3⟩):P:=h
theorem Ajp {P:Prop} (h:P:=by
 all_goals first | exact .refl _ | exact Hd _ _ | exact Bqi _ _ _ _ _ | exact Ci _ _ _ | omega | skip):P:=h
theorem Ay7 {P:Prop} (h:P:=by
 obtain ⟨w',fr,s',X',loc',r,c,g1,g2⟩:=ih (fun x hx=>hlex x (lx48 _ hx)) b cs a1 w1 X1 loc1 hb hf q1 w0 X0 Cc hn (hev.trans q2)
 exact ⟨w',fr,s',X',loc',r,c,q3.trans g1,g2⟩):P:=h
theorem Ay8 {P:Prop} (h:P:=by
 all_goals simp (maxSteps:=10000000) only [AX,AT,↓reduceIte,reduceCtorEq,Nat.reduceAdd,Nat.reduceEqDiff,CW,Jw]):P:=h
theorem Bcg {P:Prop} (h:P:=by
 simp (maxSteps:=10000000) +contextual -implicitDefEqProofs only [AX,AT,Ao,St.put,Am,Aj,Ds,pl,↓reduceIte,reduceCtorEq,Nat.reduceAdd,Nat.reduceLeDiff,Nat.reduceEqDiff,Int.reduceLT,Nat.reduceLT,CS,Se,Int.reduceAdd,B9,DO,h1,h3,h4,w1,BJ,Dp,Wo,hs,x1,x2,he1.1,he1.2,eF,Ey]
 repeat' (first | exact Aa (by kernel_rfl) | refine ⟨Aa (by kernel_rfl),?_⟩ | refine And.intro ?_ ?_ | fail)
 all_goals first | rfl | skip):P:=h
theorem Ay9 {P:Prop} (h:P:=by
 refine ⟨e1.symm.trans h2.1,fun i y v hy hv=>?_⟩
 have hi:i < T'.length:=(lx22.1 hy).1
 have hx:T[i]?=some (T[i]'(by omega)):=lx50 (by omega)
 exact hvr (e2 i _ y hx hy) (h2.2 i _ v hx hv)):P:=h
theorem Aqn {P:Prop} (h:P:=by
 obtain ⟨q1,q2⟩:=h5 i B.els[i] (by simp [hi])
 obtain ⟨c,e1,e2,e3⟩:=q2 j (B.els[i].cells[j]'(by omega)) (by simp)
 rw [e1]
 exact ⟨rfl,e2⟩):P:=h
theorem Bch {P:Prop} (h:P:=by
 rw [h4] at e146
 simp (maxSteps:=10000000) only [CW,Jw,Nat.reduceAdd,Nat.reduceEqDiff,↓reduceIte,CL]
 simp (maxSteps:=10000000) +contextual -implicitDefEqProofs only [AX,AT,St.put,Am,Aj,Ds,pl,↓reduceIte,reduceCtorEq,Nat.reduceAdd,Nat.reduceEqDiff,CS,Int.reduceAdd,B9,DO,Ai,norefs,AV.noref,h3,e146,AY,h1,h2,ht,e,h4]
 all_goals done):P:=h
theorem Bci {P:Prop} (h:P:=by
 have o1:decide ((B5 x.op).1≤h)=false:=by rw [Cy]; exact ho1
 have e:=hbad (q:=True) (fun hk=>ho1 hk.1)
 simp (maxSteps:=10000000) only [CW,Jw,Nat.reduceAdd,Nat.reduceEqDiff,↓reduceIte,CL]
 exact Oy (a27 c1 w1 c3 c4 hp c6 hx c7 c8 c9 c10 hh e1 w2 w3 hA b31 b12 b13 b14 o1 e @BU @Ai @Dv @AU @AO)
 all_goals done):P:=h
theorem Bcj {P:Prop} (h:P:=by
 simp (maxSteps:=10000000) only [AX,AT,↓reduceIte,reduceCtorEq,Nat.reduceAdd,Nat.reduceEqDiff,CW,Jw,Aum]
 all_goals done):P:=h
theorem Bck {P:Prop} (h:P:=by
 intro k B hB hBl
 have hk:k < H'.length:=(lx22.1 hB).1
 have hA:=lx50 (l:=H) (i:=k) (by omega)
 refine ⟨_,hA,?_⟩
 rcases hg k _ B hA hB with h | h | ⟨e1,e2,e3,e4,e5⟩
 ·rw [h]; exact ⟨hBl,rfl,rfl,rfl,Cr _ _ _⟩
 ·rw [h] at hBl; cases hBl
 ·exact ⟨e1.trans hBl,e2,e3,e4,e5⟩):P:=h
theorem Aya {P:Prop} (h:P:=by
 repeat' split at hs
 all_goals first | (cases hs; done) | skip
 cases hs
 refine ⟨_,by rw [Bt],?_⟩
 simp_all [Bt]):P:=h
theorem Aqo {P:Prop} (h:P:=by
 all_goals first | rfl | trivial | omega | exact .refl _ | exact Ci _ _ _ | exact .sl0 _ _ _ (by simp [AJ]) | skip
 all_goals done):P:=h
theorem Aak {P:Prop} (h:P:=by
 all_goals first | rfl | trivial | omega | exact .refl _ | skip
 all_goals done):P:=h
theorem Bcl {P:Prop} (h:P:=by
 have x3:=fun t=>Z6 t
 cases Cc:(c != 0) <;> cases hd0:(d != 0) <;> rw [Cc,hd0] at hu <;> simp (maxSteps:=10000000) +contextual -implicitDefEqProofs only [AX,AT,Ao,St.put,Am,Aj,Ds,pl,↓reduceIte,Nat.reduceEqDiff,Nat.reduceBEq,B9,AL,Int.reduceBEq,x1,x2,hu,Cc,hd0,x3]
 all_goals done):P:=h
theorem Bms {P:Prop} (h:P:=by
 cases hh
 obtain ⟨_,_,t3⟩:=NZ hi htr
 refine Ad (ih g) hm hfn hb q1 q2 (MY (hgo H.length) fun r' s'' hh=>?_)
 obtain ⟨rfl,rfl⟩:=hh
 refine ⟨.refl _,?_,Av _⟩
 rw [t3]
 have:=Ci (σ2.toS.H) (σ2.toS.H.drop n1) (σ2.toS.H.take n1)
 rw [lx67] at this
 exact this):P:=h
theorem Ajq {P:Prop} (h:P:=by
 subst r4; subst hp
 rw [lx42]
 exact .vw0 (fun h=>by cases h) (Bq _)):P:=h
theorem Bcm {P:Prop} (h:P:=by
 rintro id ver i off v ⟨h1,h2⟩
 have h1':ver < c:=h1
 refine ⟨Nat.lt_succ_of_lt h1',fun B e1 e2 e3=>?_⟩
 by_cases hid:id=H.length
 ·subst hid
  simp only at e1
  rw [hB] at e1; cases e1
  simp only at e3; omega
 ·simp only at e1
  rw [hne id hid] at e1
  simp only [hid,lx9]
  exact h2 B e1 e2 e3):P:=h
theorem Bcn {P:Prop} (h:P:=by
 repeat' (first | exact Aa (by kernel_rfl) | refine ⟨Aa (by kernel_rfl),?_⟩ | refine And.intro ?_ ?_ | fail)
 refine AB ?_ ?_ (Av _) (ih _)
 all_goals simp (maxSteps:=10000000) only [AX,AT,↓reduceIte,reduceCtorEq,Nat.reduceAdd,Nat.reduceEqDiff,CW,Jw,Ai,Bf]
 all_goals done):P:=h
theorem Ayb {P:Prop} (h:P:=by
 unfold execOp
 simp only [ho,resolve,invoke,builtin,Sem.run_bind,Sem.run_pure,Result.andThen_ok,List.map_toArray,lx31,lx46,hr]):P:=h
theorem Bco {P:Prop} (h:P:=by
 have g:∀ k:Int,1≤k→k≤31→(op=k)=False:=fun k h1 h2=>by have:=hno k h1 h2; simpa using this
 simp [insP,DB,C0,g,HY] at hip
 have:=hno 12 (by decide) (by decide)
 have:=hno 13 (by decide) (by decide)
 have:=hno 14 (by decide) (by decide)
 simp_all
 omega):P:=h
theorem Bcp {P:Prop} (h:P:=by
 obtain ⟨k1,k2⟩:=g2 _ rfl
 refine ⟨k1,fun B' q1 q2 q3=>?_⟩
 obtain ⟨b',base',r1,r2⟩:=k2 B' q1 q2 q3
 rw [hq] at h2
 rw [h2] at r2
 simp only [Value.pointer.injEq,lx16,Go.Addr.mk.injEq] at r2
 exact ⟨b',base',r1,by rw [r2.1,r2.2.1,F0]⟩):P:=h
theorem Bcq {P:Prop} (h:P:=by
 simp only [AL] at e1
 refine Ab (AF ((.cons k1 .nil)) (.nil)) rfl Tryz.func116 rfl (by decide) (by kernel_rfl) (by kernel_rfl) ?_
 simp only [Tryz.f116,Ae,lx52,lx63,Nat.reduceAdd,Nat.reduceSub,List.replicate]
 refine Ac ?_
 exact Oy e1):P:=h
theorem Aqp {P:Prop} (h:P:=by
 rw [lx81,lx50 h,lx109 h]; rfl):P:=h
theorem Ayc {P:Prop} (h:P:=by
 rw [if_neg h,if_neg]
 intro h'
 simp only [AH,lx86,Bw] at h'
 exact h ⟨h'.1.1.1,h'.1.1.2,h'.1.2,h'.2⟩):P:=h
theorem Bcr {P:Prop} (h:P:=by
 repeat' split at hs
 all_goals first | (cases hs; done) | skip
 all_goals
  cases hs
  refine ⟨_,by rw [Bt],?_⟩
  simp_all [Bt]):P:=h
theorem Aqq {P:Prop} (h:P:=by
 rw [lx30 (show s.H.length≤k by omega),lx30]
 simp; omega):P:=h
theorem Bcs {P:Prop} (h:P:=by
 rw [h2] at x2
 simp (maxSteps:=10000000) +contextual -implicitDefEqProofs only [AX,AT,St.put,Am,Aj,Ds,pl,↓reduceIte,Nat.reduceAdd,Nat.reduceEqDiff,CS,Int.reduceAdd,B9,AL,Ai,x1,x2,AY,h1,h2]
 all_goals done):P:=h
theorem Ayd {P:Prop} (h:P:=by
 simp (maxSteps:=10000000) only [AX,AT,↓reduceIte,reduceCtorEq,Nat.reduceAdd,Nat.reduceEqDiff,CW,Jw]
 all_goals done):P:=h
theorem Aye {P:Prop} (h:P:=by
 all_goals simp (maxSteps:=10000000) only [AX,AT,↓reduceIte,reduceCtorEq,Nat.reduceAdd,Nat.reduceEqDiff,CW,Jw]
 all_goals done):P:=h
theorem Bct {P:Prop} (h:P:=by
 rcases idx j with rfl | ⟨j,rfl⟩ | ⟨j,rfl⟩
 ·rw [if_neg (by omega)]; rfl
 ·rw [Dx,Dx,g1]
  by_cases hj:j=k
  ·subst hj; simp
  ·rw [if_neg hj,if_neg (by omega)]
 ·rw [CZ,CZ,if_neg (by omega)]):P:=h
theorem Bcu {P:Prop} (h:P:=by
 rcases idx j with rfl | ⟨j,rfl⟩ | ⟨j,rfl⟩
 ·rw [if_neg (by omega)]; rfl
 ·rw [Dx,Dx,if_neg (by omega)]
 ·rw [CZ,CZ,g1]
  by_cases hj:j=k
  ·subst hj; simp
  ·rw [if_neg hj,if_neg (by omega)]):P:=h
theorem Ayf {P:Prop} (h:P:=by
 rw [h1] at h3
 rcases h3 with rfl | rfl <;> (have:=hs (by decide); simp [C0] at this; rcases h2 with h2 | h2 <;> omega)):P:=h
theorem Bcv {P:Prop} (h:P:=by
 have:=Hl (g:=216) (res:=fun (_:Int) r=>stR r) (nx:=fun _ r=>Ain r) (k:=fun _ r=>stK r) Iy (w:=w) (r:=r) (R:=R) (x:=dp) (cnt:=cnt) (by rw [e1,e2,e3]; exact h)
 rw [e1,e2,e3] at this
 exact this):P:=h
theorem Bcw {P:Prop} (h:P:=by
 have:=Hl (g:=182) (res:=fun (_:Int) r=>bkR r) (nx:=fun _ r=>bkX r) (k:=fun _ r=>bkK r) Iy (w:=w) (r:=r) (R:=R) (x:=dp) (cnt:=cnt) (by rw [e1,e2,e3]; exact h)
 rw [e1,e2,e3] at this
 exact this):P:=h
theorem Ajr {P:Prop} (h:P:=by
 subst h0
 rw [lx42]
 exact .vw0 (fun h=>by cases h) k3):P:=h
theorem Bcx {P:Prop} (h:P:=by
 obtain ⟨F,kF,E⟩:=DU hs
 simp only [CO,Int.reduceEq,↓reduceIte]
 generalize Eh _ m a _=r1 at E ⊢
 obtain ⟨⟨zv',vars',zl',left',act',zm',lamps',fau'⟩,ef',po'⟩:=r1
 exact ⟨p,m',c',pW2⟩):P:=h
theorem Bcy {P:Prop} (h:P:=by
 rw [h1] at x1
 simp (maxSteps:=10000000) +contextual -implicitDefEqProofs only [AX,AT,St.put,Am,Aj,Ds,pl,↓reduceIte,Nat.reduceAdd,CS,Int.reduceAdd,B9,AL,Ai,x1,AY,h1]
 all_goals done):P:=h
theorem Bcz {P:Prop} (h:P:=by
 cases h
 obtain ⟨a,rfl,ha⟩:=Mw hx
 obtain ⟨b,rfl,hb⟩:=Mw hy
 cases a <;> simp only [okK,DD] at ha
 cases b <;> simp only [okK,DD] at hb
 simp [Al,Jx,eqK]):P:=h
theorem Bd0 {P:Prop} (h:P:=by
 intro b s hs
 have hb:b < w.heap.size:=by
  unfold World.shape? at hs
  split at hs
  ·rename_i c e fr hh; exact (lx49.1 hh).1
  ·cases hs
 unfold World.shape? at *
 rw [hold b hb]; exact hs):P:=h
theorem Ayg {P:Prop} (h:P:=by
 rintro b ⟨id,B,o,e1,e2,e3⟩ hb0
 obtain ⟨B1,o1,k1,_⟩:=g3.fresh id B b o e1 e2 e3 hb0
 simp at k1):P:=h
theorem Bd1 {P:Prop} (h:P:=by
 have g2:(decide (x.mo < y.mo) || ((y.mo == x.mo) && decide (x.la≤y.la)))=true:=by
  rw [ID,Bw,AH,Bw,lx86]; omega
 simp [Nt,g,g2]):P:=h
theorem Ayh {P:Prop} (h:P:=by
 simp only [lx94,AV.sc.injEq,Value.int.injEq,AW,C5] at h
 rw [show y=n by omega]):P:=h
theorem Ayi {P:Prop} (h:P:=by
 simp only [hz,↓reduceIte]; exact key _ _ _ _ (by rw [e]; exact hnx _ _ (by simp [Cz])) (hpop _) h3 h4):P:=h
theorem Bd2 {P:Prop} (h:P:=by
 refine .ag (hl.symm.trans hl') (fun i d u hd hu=>?_) h2
 have hi:i < _:=(lx22.1 hd).1
 have hci:=lx50 (hl ▸ hi)
 exact ih i _ d hci hd (h1 i _ u hci hu)):P:=h
theorem Bd3 {P:Prop} (h:P:=by
 have:=grownCap_ge w ys.length 0 el
 simp only [Array.size_append,lx55,lx63,size_zeroCells,c3,n3,CL,←Gx]
 exact Qw _ (by omega)):P:=h
theorem Bd4 {P:Prop} (h:P:=by
 refine n4'.weaken ?_
 intro k v _ hk
 have hlt:=(lx22.1 hk).1
 simp only [Array.toList_append,lx64]
 rw [lx61 (by simpa using hlt)]
 exact hk):P:=h
theorem Bmt {P:Prop} (h:P:=by
 have e:=Mz (p:=p) hr' hv hn
 rw [hx] at hv
 simp (maxSteps:=10000000) only [CW,Jw,Nat.reduceAdd,Nat.reduceEqDiff,↓reduceIte,CL]
 exact Oy (a6 h1 h2 hx e1 hv e)):P:=h
theorem Ah1 {P:Prop} (h:P:=by
 exact ⟨s,e,E,cnt+1,sT,finK hs hE⟩):P:=h
theorem Ajs {P:Prop} (h:P:=by
 simp (maxSteps:=10000000) only [AX,AT,Ai]):P:=h
theorem Ah2 {P:Prop} (h:P:=by
 exact zF1 (a4 x1 x2 hu x3)
 all_goals done):P:=h
theorem Ayj {P:Prop} (h:P:=by
 have:j=i:=by omega
 subst this
 rw [ho] at hoj; cases hoj
 rw [hp] at hpj; cases hpj):P:=h
theorem Ayk {P:Prop} (h:P:=by
 exact BT (f:=fun j=>UP a (ms.getD j default) (BO ms j)) (fun _=>rfl) _):P:=h
theorem Bd5 {P:Prop} (h:P:=by
 have hk0:k - H'.length=0:=by
  have:=(lx22.1 hk).1
  simp at this; omega
 rw [hk0] at hk
 simp at hk
 exact .inr ⟨by omega,hk.symm⟩):P:=h
theorem Bd6 {P:Prop} (h:P:=by
 obtain ⟨q1,q2⟩:=ht g fn c hk hfn hb
 exact VM (ih g) hm 60 hfn hb q1 q2 hnr (MY (hgo 0) fun r' s'' hh=>by obtain ⟨rfl,rfl⟩:=hh; rfl)):P:=h
theorem Bd7 {P:Prop} (h:P:=by
 have hi:i < ds.length:=(lx22.1 hb).1
 have hci:=lx50 (l:=cs) (hl ▸ hi)
 exact ih i _ b hci hb (h1 i _ u hci hu)):P:=h
theorem Ah3 {P:Prop} (h:P:=by
 rintro ⟨id,B,o,h1,_⟩
 simp at h1):P:=h
theorem Ayl {P:Prop} (h:P:=by
 rw [lx23,lx81,lx50 hi]; rfl):P:=h
theorem Bd8 {P:Prop} (h:P:=by
 refine .sl ⟨_,_,rfl⟩ fun hc1 h1=>?_
 cases h1
 refine ⟨hv',fun B h1 _ _=>?_⟩
 rw [hid] at h1
 cases h1
 exact ⟨by simp,.inl ⟨rfl,_,rfl⟩⟩):P:=h
theorem Bd9 {P:Prop} (h:P:=by
 cases x <;> first | (simp [NA] at h; done) | skip
 simp only [NA,AH,lx86] at h
 obtain ⟨⟨⟨rfl,rfl⟩,rfl⟩,rfl⟩:=h
 rfl):P:=h
theorem Bda {P:Prop} (h:P:=by
 exact ⟨h.val,h.fit,h.cx,h.vl,h.va,by simp only [lx1]; exact h.ll,Au5 h.lf _ (KN (by decide)),h.ac,h.fa,h.lo,h.so⟩):P:=h
theorem Aym {P:Prop} (h:P:=by
 intro e he
 obtain ⟨i,hi⟩:=lx44.1 he
 exact (h5 i e hi).1):P:=h
theorem Ayn {P:Prop} (h:P:=by
 simp only at g3' ⊢
 rw [g3'] at hlen
 exact List.length_eq_zero_iff.1 hlen.symm):P:=h
theorem Bmu {P:Prop} (h:P:=by
 cases hh
 exact Xc (ih g) hm hfn hb q1 q2 (MY (hgo H.length) fun r' s'' hh=>by obtain ⟨rfl,rfl⟩:=hh; exact ⟨rfl,rfl,rfl⟩)):P:=h
theorem Bdb {P:Prop} (h:P:=by
 split at h
 ·simp only [lx24] at h
  obtain ⟨v,hv,rfl⟩:=h
  exact Ar0 hE hs hv K Q hK
 ·exact Aqz hE hs h K Q hK):P:=h
theorem Bdc {P:Prop} (h:P:=by
 cases x <;> first | (simp [NA] at h; done) | skip
 simp only [NA,AH,lx86] at h
 obtain ⟨rfl,h2⟩:=h
 rw [Kx _ _ h2]):P:=h
theorem Ajt {P:Prop} (h:P:=by
 simp (maxSteps:=10000000) only [AX,AT]):P:=h
theorem Ah4 {P:Prop} (h:P:=by
 cases o.dst <;> exact ⟨rfl,rfl⟩):P:=h
theorem Ayo {P:Prop} (h:P:=by
 have:=k4
 unfold World.shape? at this
 rw [m2] at this
 simpa using this.symm):P:=h
theorem Bdd {P:Prop} (h:P:=by
 unfold Oper.wp
 rw [h1]
 rcases h2 with h2 | ⟨h2,h5⟩
 ·rw [h2]; exact hK _ _ X' loc' h3 h4
 ·rw [h2]; subst h5; exact hK _ _ X' loc' h3 h4):P:=h
theorem Bde {P:Prop} (h:P:=by
 refine Ac ?_
 simp (maxSteps:=10000000) +contextual -implicitDefEqProofs only [AX,AT,Ao,St.put,↓reduceIte,AL,Bb,HY]):P:=h
theorem Bdf {P:Prop} (h:P:=by
 obtain ⟨A1,k1,k2,_⟩:=key j B1 e1 e3
 obtain ⟨A2,l1,l2,_⟩:=key j' B2 e2 e4
 exact h1.inj _ _ A1 A2 b' o o' k1 l1 k2 l2 e5 e6):P:=h
theorem Bdg {P:Prop} (h:P:=by
 simp (maxSteps:=10000000) only [AX,AT,↓reduceIte,reduceCtorEq,Nat.reduceAdd,Nat.reduceEqDiff,CW,Jw,givT]
 all_goals done):P:=h
theorem Bdh {P:Prop} (h:P:=by
 have hi:=(lx22.1 hd).1
 have hci:=lx50 (hl ▸ hi)
 exact ih i _ d hci hd (g2 i _ u hci hu)):P:=h
theorem Bdi {P:Prop} (h:P:=by
 unfold Builtin.len_
 simp only [lx39,lx45,Ah,Ar,f2,lx17,Al]):P:=h
theorem Ayp {P:Prop} (h:P:=by
 intro args r hr
 obtain ⟨x,hq,rfl,rfl⟩:=Arc hr
 exact h x hq):P:=h
theorem Bdj {P:Prop} (h:P:=by
 cases h
 rw [hev] at hx
 generalize hq:a.eval x=c at hx
 refine ⟨c,?_,hx⟩
 cases hx
 unfold execOp
 simp only [ho,hq]; rfl):P:=h
theorem Bdk {P:Prop} (h:P:=by
 refine .pt rfl ?_
 intro hc1 he
 cases he
 refine ⟨by simp,fun B e1 e2 e3=>?_⟩
 exact ⟨w.heap.size,0,by simp,by simp⟩):P:=h
theorem Bdl {P:Prop} (h:P:=by
 simp only [lx24] at hs
 obtain ⟨v,hv,rfl⟩:=hs
 exact ⟨v,by rw [Bt],by rw [hv]; simp [Bt]⟩):P:=h
theorem Bdm {P:Prop} (h:P:=by
 simp only [Bool.not_true,DD,lx9,Ah,G4,lx17,hg,Bool.not_false,lx8]
 rfl):P:=h
theorem Bdn {P:Prop} (h:P:=by
 obtain ⟨q1,q2⟩:=ht g fn c hk hfn hb
 exact Ab (ih g) hm hfn hb q1 q2 hok (MY (hgo 0) fun r' s'' hh=>hh.1)):P:=h
theorem Bdo {P:Prop} (h:P:=by
 all_goals simp (maxSteps:=10000000) only [AX,AT,↓reduceIte,reduceCtorEq,Nat.reduceAdd,Nat.reduceEqDiff,CW,Jw,BS]
 all_goals done):P:=h
theorem Bdp {P:Prop} (h:P:=by
 obtain ⟨b,hb,h⟩:=CQ h
 obtain ⟨a',rfl,rfl⟩:=R8 ha
 obtain ⟨b',rfl,rfl⟩:=R8 hb
 rw [←h]; rfl):P:=h
theorem Ayq {P:Prop} (h:P:=by
 simp only [IntKind.wrap,IntKind.bits,IntKind.signed]; simp; omega):P:=h
theorem Bdq {P:Prop} (h:P:=by
 exact Co (f:=Sz) (fun m=>by cases h:m.c <;> simp [Sz,Wn,SQ,Hu,h,AV.noref,norefs,E9,JA,Jq]) _):P:=h
theorem Bdr {P:Prop} (h:P:=by
 rintro b ⟨id,B,o,e1,e2,e3⟩ hb0
 obtain ⟨B1,o1,k1,_⟩:=g3.fresh id B b o e1 e2 e3 (hx b hb0)
 simp at k1):P:=h
theorem Bds {P:Prop} (h:P:=by
 cases e1; exact ⟨_,rfl,rfl,Av _,(show 10 < 11 by decide),rfl,rfl,rfl,Ag5 (els:=[]) rfl rfl⟩):P:=h
theorem Ayr {P:Prop} (h:P:=by
 have:(m+1≤j)↔(m≤j):=by omega
 simp only [this]):P:=h
theorem Bdt {P:Prop} (h:P:=by
 split at h
 ·cases h; exact hi
 ·split at h
  ·rename_i ht
   cases h
   exact (NZ hi ht).1
  ·cases h):P:=h
theorem Aus {P:Prop} (h:P:=by
 rw [lx81,lx50 hla] at hA
 rw [lx50 hla]
 simpa using hA):P:=h
theorem Aut {P:Prop} (h:P:=by
 unfold Value.okWide at hok
 rw [hu] at hok
 obtain ⟨cs,rfl,_⟩:=hok
 simp only [WI,hu]
 exact Ba5 h2 o):P:=h
theorem Auu {P:Prop} (h:P:=by
 simp only [Bp,lx24] at h
 obtain ⟨l,hl',rfl⟩:=h
 rw [QN cs hl' ⟨hl,h1⟩]):P:=h
theorem Auv {P:Prop} (h:P:=by
 have:=hn j hj
 rw [lx81,lx50 (by omega)] at this
 simpa using this):P:=h
theorem Auw {P:Prop} (h:P:=by
 simp only [Bool.not_true,DD,lx9,Al,lx17,KP]
 exact hrec):P:=h
theorem Aux {P:Prop} (h:P:=by
 simp only [AM,opS,Int.reduceEq,lx8,lx9,↓reduceIte] at hf
 split at hf <;> exact .inl hf):P:=h
theorem Ji {P:Prop} (h:P:=by
 refine AB ?_ ?_ (Av _) (ih _)
 all_goals exact qc7):P:=h
theorem Bdu {P:Prop} (h:P:=by
 have hm:=DJ hr'
 obtain ⟨x,hx⟩:∃ x,l.getD r default=x:=⟨_,rfl⟩
 have e1:=he x (by rw [←hx]; exact hm)
 simp only [AL,Bb] at e1
 by_cases hv:p (l.getD r default)=true
 ·exact Bmt
 ·rw [Hw] at hv
  have e:=De hn hv
  rw [hx] at hv
  simp (maxSteps:=10000000) only [CW,Jw,Nat.reduceAdd,Nat.reduceEqDiff,↓reduceIte,CL]
  refine Pb (a6 h1 h2 hx e1 hv w1) ?_
  refine AB ?_ ?_ (Av _) (ih (r+1) cnt ⟨by omega,e⟩ (by omega))
  ·exact Gm
  ·trivial):P:=h
theorem Auy {P:Prop} (h:P:=by
 refine Ac ?_
 simp (maxSteps:=10000000) only [CW,Jw,Nat.reduceAdd,Nat.reduceEqDiff,↓reduceIte,CL]
 refine Dz c2 ?_
 refine Bd ?_
 refine Dz (a2 w1 b1) ?_
 refine AD ?_
 refine Dz w4 ?_
 repeat' (first | exact Aa (by kernel_rfl) | refine ⟨Aa (by kernel_rfl),?_⟩ | refine And.intro ?_ ?_ | fail)
 all_goals first | rfl | skip
 refine AB ?_ ?_ (Av _) ih3
 ·exact Gm
 ·exact Aq _):P:=h
theorem Aju {P:Prop} (h:P:=by
 repeat' (first | exact Aa (by kernel_rfl) | refine ⟨Aa (by kernel_rfl),?_⟩ | refine And.intro ?_ ?_ | fail)
 all_goals first | rfl | skip
 refine AB ?_ ?_ (Av _) ih
 ·exact Gm
 ·exact Aq _):P:=h
theorem Jj {P:Prop} (h:P:=by
 rw [e]; exact hnx _ _ (by simp [Cz,B5])):P:=h
theorem WM {P:Prop} (h:P:=by
 all_goals first | exact .refl _ | exact Hd _ _ | exact wkT _ _ _ _ | exact Ci _ _ _ | omega | skip):P:=h
theorem Auz {P:Prop} (h:P:=by
 subst t2
 obtain ⟨a1,w1,⟨X1,loc1,q1,q2⟩,q3⟩:=Ga (Q:=fun a' w'=>∃ X' loc',SR w' X' loc' s1 a'∧Evo w X ((tr 0).hc loc) w' X' (s1.hc loc'))
  (Pj hE hm (id:=id) hD t1 hs (fun a' w' X' loc' k1 k2=>⟨rfl,X',loc',by rw [←t3]; exact k1,by rw [←t3]; exact k2⟩)) b k cs
 exact Ay7):P:=h
theorem Av0 {P:Prop} (h:P:=by
 repeat' (first | exact Aa (by kernel_rfl) | refine ⟨Aa (by kernel_rfl),?_⟩ | refine And.intro ?_ ?_ | fail)
 all_goals first | rfl | skip
 refine AB ?_ ?_ (Av _) ih
 ·exact Gm
 ·exact DN _ [_]):P:=h
theorem Acn {P:Prop} (h:P:=by
 all_goals first | rfl | skip
 refine AB ?_ ?_ (Av _) ih
 all_goals exact Ay8):P:=h
theorem Av1 {P:Prop} (h:P:=by
 refine AD ?_
 refine gP0 ?_
 repeat' (first | exact Aa (by kernel_rfl) | refine ⟨Aa (by kernel_rfl),?_⟩ | refine And.intro ?_ ?_ | fail)
 all_goals exact Ajp):P:=h
theorem Et {P:Prop} (h:P:=by
 all_goals first | rfl | skip):P:=h
theorem Av2 {P:Prop} (h:P:=by
 refine Dz (a2 e2 eF) ?_
 repeat' (first | exact Aa (by kernel_rfl) | refine ⟨Aa (by kernel_rfl),?_⟩ | refine And.intro ?_ ?_ | fail)
 all_goals exact Ajp):P:=h
theorem Av3 {P:Prop} (h:P:=by
 obtain ⟨q1,q2⟩:=ht g fn c hk hfn hb
 rw [Tr.toL_ofL] at hgo
 split at hh
 ·exact Bmu
 ·split at hh
  ·rename_i H3 n3 htr
   exact Bms
  ·cases hh):P:=h
theorem Av4 {P:Prop} (h:P:=by
 refine Dz e1 ?_
 repeat' (first | exact Aa (by kernel_rfl) | refine ⟨Aa (by kernel_rfl),?_⟩ | refine And.intro ?_ ?_ | fail)
 all_goals exact Ajp):P:=h
theorem Av5 {P:Prop} (h:P:=by
 have hx:=h x (by simp [Op.operands])
 have hy:=h y (by simp [Op.operands])
 simp only [Aw,←hx,←hy] at hs ⊢
 clear hx hy h
 exact Aya):P:=h
theorem Ajv {P:Prop} (h:P:=by
 refine AB ?_ (Aq _) (Av _) ih3
 exact Bcj):P:=h
theorem Av6 {P:Prop} (h:P:=by
 have hx:=hm x (by simp)
 have hy:=hm y (by simp)
 simp only [←hx,←hy] at hs ⊢
 clear hx hy hm h
 exact Bcr):P:=h
theorem Av7 {P:Prop} (h:P:=by
 rintro r cnt ⟨hr,hn⟩ ih
 refine Ac ?_
 by_cases hr':r < l.length
 ·have h1:decide ((r:Int) < (l.length:Int))=true:=by rw [Bw]; omega
  have h2:decide (r < l.length)=true:=by rw [Bw]; omega
  have w1:IntKind.i64.wrap ((r:Int)+1)=((r+1:Nat):Int):=by rw [CR (by omega) (by omega)]; omega
  exact Bdu
 ·exact qc9):P:=h
theorem Aco {P:Prop} (h:P:=by
 refine AB ?_ ?_ (Av _) (ih (r+1) cnt ⟨by omega,e⟩ (by omega))
 ·exact Gm
 ·trivial):P:=h
theorem An {P:Prop} (h:P:=by
 omega):P:=h
theorem F6 {P:Prop} (h:P:=by
 simp; omega):P:=h
theorem Acp {P:Prop} (h:P:=by
 rw [←Array.toList_inj]; simpa using hat):P:=h
theorem Acq {P:Prop} (h:P:=by
 rw [←Array.toList_inj]; simpa using har):P:=h
theorem AZ {P:Prop} (h:P:=by
 simp):P:=h
theorem WN {P:Prop} (h:P:=by
 rw [←h1]; exact (lx22.1 hx).1):P:=h
theorem Au {P:Prop} (h:P:=by
 rw [Bw]; omega):P:=h
theorem B8 {P:Prop} (h:P:=by
 rw [Ew (by omega) (by omega)]; omega):P:=h
theorem CT {P:Prop} (h:P:=by
 rw [CR (by omega) (by omega)]; omega):P:=h
theorem JF {P:Prop} (h:P:=by
 rw [lx108]; omega):P:=h
theorem L4 {P:Prop} (h:P:=by
 rw [Cy]; omega):P:=h
theorem Ajw {P:Prop} (h:P:=by
 rw [lx81,lx50 (by omega)]; rfl):P:=h
theorem Acr {P:Prop} (h:P:=by
 rw [CR (by omega) (by omega)]):P:=h
theorem WO {P:Prop} (h:P:=by
 rw [Bw]; exact ho1):P:=h
theorem L5 {P:Prop} (h:P:=by
 rw [←hX]; rfl):P:=h
theorem Ajx {P:Prop} (h:P:=by
 rw [lx81,lx50 h]; rfl):P:=h
theorem Ajy {P:Prop} (h:P:=by
 rw [Int.tmod_eq_emod_of_nonneg (by omega)]; omega):P:=h
theorem Ajz {P:Prop} (h:P:=by
 simp only [digB,AH,Nat.ble_eq]; omega):P:=h
theorem H6 {P:Prop} (h:P:=by
 simp only [Di,hc,hd,Int.reduceEq,lx8,lx9,↓reduceIte]):P:=h
theorem Acs {P:Prop} (h:P:=by
 rw [Bw]; exact j1):P:=h
theorem Acu {P:Prop} (h:P:=by
 rw [Bw]; exact j2):P:=h
theorem QI {P:Prop} (h:P:=by
 have:=htk; simp [B5] at this; omega):P:=h
theorem Ox {P:Prop} (h:P:=by
 rw [ByteArray.size_append]; omega):P:=h
theorem Cb {P Q:Prop} (h:Q) (f:Q→P:=by
 intro h
 simp (maxSteps:=10000000) only [CW,Jw,Nat.reduceAdd,Nat.reduceEqDiff,↓reduceIte,CL]
 exact h):P:=f h
theorem qd2 {P Q:Prop} (h:Q) (f:Q→P:=by
 intro h
 simp only [Py,Vz,VA,VB,VC,VD,VE,VF,VG,VH,VI,Pz,MS,VK,PS,MU,P0,Nat.reduceEqDiff,↓reduceIte,lx111,lx5,List.getD_cons_zero,List.getD_cons_succ,hw1,hw2,Nat.reduceAdd,Nat.reduceEqDiff,lx8,lx9,↓reduceIte,CL]
 exact h):P:=f h
theorem qd3 {P Q:Prop} (h:Q) (f:Q→P:=by
 intro h
 simp only [AM,opS,Int.reduceEq,lx8,lx9,↓reduceIte,IA,No,GV,Gu,or_self,or_false,false_or,or_true,true_or]
 exact h):P:=f h
theorem qd4 {P Q:Prop} (h:Q) (f:Q→P:=by
 intro h
 simp only [CW,Jw,Nat.reduceAdd,Nat.reduceEqDiff,lx8,lx9,↓reduceIte,CL,MQ,MR,MF,MJ,MG,MH,MK,ML,MM,MN,MO,MI,J1,Ik,J2,Il,MP,Nat.reduceAdd,Nat.reduceEqDiff,Nat.reduceLT,Nat.reduceLeDiff,↓reduceIte,and_self,C5,false_and,AW,lx72,lx91,lx42,List.take_nil,lx8,lx9,reduceCtorEq,CL,dead,hEf,hPf,hIf]
 exact h):P:=f h
theorem qd5 {P Q:Prop} (h:Q) (f:Q→P:=by
 intro h
 simp only [Py,Vz,VA,VB,VC,VD,VE,VF,VG,VH,VI,Pz,MS,VK,PS,MU,P0,Nat.reduceEqDiff,↓reduceIte,lx111,lx5,List.getD_cons_zero,List.getD_cons_succ]
 exact h):P:=f h
theorem qd6 {P Q:Prop} (h:Q) (f:Q→P:=by
 intro h
 refine Ac ?_
 simp (maxSteps:=10000000) +contextual -implicitDefEqProofs only [AX,AT,St.put,Nat.reduceAdd,Int.reduceAdd,B9]
 refine Bd ?_
 exact h):P:=f h
theorem qd7 {P Q:Prop} (h:Q) (f:Q→P:=by
 intro h
 refine Ac ?_
 simp (maxSteps:=10000000) +contextual -implicitDefEqProofs only [AX,AT,St.put,CS,AL]
 exact h):P:=f h
theorem qd8 {P Q:Prop} (h:Q) (f:Q→P:=by
 intro h
 simp only [CW,Jw,Nat.reduceAdd,Nat.reduceEqDiff,lx8,lx9,↓reduceIte,CL,MQ,MR,MF,MJ,MG,MH,MK,ML,MM,MN,MO,MI,J1,Ik,J2,Il,MP,Nat.reduceAdd,Nat.reduceEqDiff,Nat.reduceLT,Nat.reduceLeDiff,↓reduceIte,and_self,C5,false_and,AW,lx72,lx91,lx42,List.take_nil,lx8,lx9,reduceCtorEq,CL,dead]
 exact h):P:=f h
theorem qd9 {P Q:Prop} (h:Q) (f:Q→P:=by
 intro h
 simp (maxSteps:=10000000) +contextual -implicitDefEqProofs only [AX,AT,St.put,B9]
 exact h):P:=f h
theorem Bdx {P Q:Prop} (h:Q) (f:Q→P:=by
 intro h
 simp only [Tryz.f174,Ae,lx52,lx63,Nat.reduceAdd,Nat.reduceSub,List.replicate]
 refine Ac ?_
 simp (maxSteps:=10000000) +contextual -implicitDefEqProofs only [AX,AT,St.put,Nat.reduceAdd,Se,Int.reduceAdd,B9]
 refine Bd ?_
 refine Dz (a9 c1 hi x1 w2 w3 w4 c3 w1 @BJ) ?_
 refine AD ?_
 exact h):P:=f h
theorem Bdy {P Q:Prop} (h:Q) (f:Q→P:=by
 intro h
 refine Bd ?_
 simp (maxSteps:=10000000) +contextual -implicitDefEqProofs only [AX,AT,St.put,Am,Aj,Ds,pl,↓reduceIte,reduceCtorEq,Nat.reduceAdd,Nat.reduceEqDiff,Int.reduceLT,Nat.reduceBEq,Nat.reduceLT,CS,Int.reduceAdd,B9,DO,norefs,AV.noref,Int.reduceBEq,e3,w1]
 exact h):P:=f h
theorem Ays {P Q:Prop} (h:Q) (f:Q→P:=by
 intro h
 simp only [Tryz.f208,Ae,lx52,lx63,Nat.reduceAdd,Nat.reduceSub,List.replicate]
 simp only [Df,O9]
 refine Ac ?_
 exact h):P:=f h
theorem Ayt {P Q:Prop} (h:Q) (f:Q→P:=by
 intro h
 simp only [Tryz.f113,Ae,lx52,lx63,Nat.reduceAdd,Nat.reduceSub,List.replicate]
 simp only [Df,O9]
 refine Ac ?_
 exact h):P:=f h
theorem Bdz {P Q:Prop} (h:Q) (f:Q→P:=by
 intro h
 simp only [Tryz.f48,Ae,lx52,lx63,Nat.reduceAdd,Nat.reduceSub,List.replicate]
 refine Ac ?_
 simp (maxSteps:=10000000) +contextual -implicitDefEqProofs only [AX,AT,St.put,B9,lx5]
 refine Bd ?_
 exact h):P:=f h
theorem Be0 {P Q:Prop} (h:Q) (f:Q→P:=by
 intro h
 simp only [Tryz.f182,Ae,lx52,lx63,Nat.reduceAdd,Nat.reduceSub,List.replicate]
 refine Ac ?_
 refine Dz g1 ?_
 refine Bd ?_
 refine Dz (Jk g2 g3 g4 k1 g5 g6 w1 hX5 hXs hXn @lsA) ?_
 refine AD ?_
 exact h):P:=f h
theorem Be1 {P Q:Prop} (h:Q) (f:Q→P:=by
 intro h
 refine AD ?_
 simp (maxSteps:=10000000) +contextual -implicitDefEqProofs only [AX,AT,St.put,Am,Aj,Ds,pl,↓reduceIte,reduceCtorEq,Nat.reduceAdd,Nat.reduceEqDiff,Int.reduceLT,Nat.reduceLT,CS,Int.reduceAdd,B9,e4,w1]
 exact h):P:=f h
theorem Bmw {P Q:Prop} (h:Q) (f:Q→P:=by
 intro h
 simp (maxSteps:=10000000) +contextual -implicitDefEqProofs only [AX,AT,St.put,Am,Aj,Ds,pl,↓reduceIte,reduceCtorEq,Nat.reduceAdd,Nat.reduceEqDiff,Int.reduceLT,Nat.reduceLT,CS,Int.reduceAdd,B9,DO,norefs,AV.noref,e1,e2]
 exact h):P:=f h
theorem Ayu {P Q:Prop} (h:Q) (f:Q→P:=by
 intro h
 simp only [Tryz.f152,Ae,lx52,lx63,Nat.reduceAdd,Nat.reduceSub,List.replicate]
 refine Ac ?_
 exact h):P:=f h
theorem Be2 {P Q:Prop} (h:Q) (f:Q→P:=by
 intro h
 refine Ab (AF (.nil) (.nil)) rfl Tryz.func205 rfl (by decide) (by kernel_rfl) (by kernel_rfl) ?_
 simp only [Tryz.f205,Ae,lx52,lx63,Nat.reduceAdd,Nat.reduceSub,List.replicate]
 refine Ac ?_
 exact h):P:=f h
theorem Ayv {P Q:Prop} (h:Q) (f:Q→P:=by
 intro h
 simp only [Tryz.f132,Ae,lx52,lx63,Nat.reduceAdd,Nat.reduceSub,List.replicate]
 refine Ac ?_
 exact h):P:=f h
theorem Ayw {P Q:Prop} (h:Q) (f:Q→P:=by
 intro h
 simp only [Tryz.f54,Ae,lx52,lx63,Nat.reduceAdd,Nat.reduceSub,List.replicate]
 refine Ac ?_
 exact h):P:=f h
theorem Be3 {P Q:Prop} (h:Q) (f:Q→P:=by
 intro h
 refine Ab (AF ((.cons ok .nil)) (.nil)) rfl Tryz.func159 rfl (by decide) (by kernel_rfl) (by kernel_rfl) ?_
 simp only [Tryz.f159,Ae,lx52,lx63,Nat.reduceAdd,Nat.reduceSub,List.replicate]
 exact h):P:=f h
theorem Be4 {P Q:Prop} (h:Q) (f:Q→P:=by
 intro h
 simp only [Tryz.f158,Ae,lx52,lx63,Nat.reduceAdd,Nat.reduceSub,List.replicate]
 simp only [Df,O9]
 refine Ac ?_
 exact h):P:=f h
theorem Be5 {P Q:Prop} (h:Q) (f:Q→P:=by
 intro h
 refine .cond false (by simp only [ev,gd0,gd1,gd2,gd3,gd4,gd5,gd6,gd7,gd8,gd9,Azf,Azg,Azh,Azi,Azj,Azk,Azl]) ?_
 refine .skip ?_
 exact h):P:=f h
theorem Be6 {P Q:Prop} (h:Q) (f:Q→P:=by
 intro h
 simp only [Tryz.f92,Ae,lx52,lx63,Nat.reduceAdd,Nat.reduceSub,List.replicate]
 refine Ac ?_
 refine gP0 ?_
 exact h):P:=f h
theorem Ak0 {P Q:Prop} (h:Q) (f:Q→P:=by
 intro h
 simp only [lx90,lx64]
 exact h):P:=f h
theorem Be7 {P Q:Prop} (h:Q) (f:Q→P:=by
 intro h
 simp only [Tryz.f131,Ae,lx52,lx63,Nat.reduceAdd,Nat.reduceSub,List.replicate]
 refine Ac ?_
 refine qd9 ?_
 refine Bd ?_
 exact h):P:=f h
theorem Ak1 {P Q:Prop} (h:Q) (f:Q→P:=by
 intro h
 refine Ac ?_
 simp only [Aum]
 refine Cb ?_
 exact h):P:=f h
theorem Be8 {P Q:Prop} (h:Q) (f:Q→P:=by
 intro h
 refine Ac ?_
 refine Cb ?_
 simp (maxSteps:=10000000) +contextual -implicitDefEqProofs only [AX,AT,Ao,St.put,↓reduceIte,B9,b2,wk]
 exact h):P:=f h
theorem Be9 {P Q:Prop} (h:Q) (f:Q→P:=by
 intro h
 simp only [Tryz.f89,Ae,lx52,lx63,Nat.reduceAdd,Nat.reduceSub,List.replicate]
 refine qd6 ?_
 refine Bmw ?_
 exact h):P:=f h
end Go.SX
