/-
  Lemmas towards ModesSteps (joined texts: K0).
  Conditions: none.
-/
import Derived.KernelRfl
set_option linter.unusedSimpArgs false
set_option linter.unusedVariables false
set_option maxRecDepth 100000
namespace Go.SX
open Go
theorem aI {a b:Prop} (x:a) (y:b):a∧b:=⟨x,y⟩
theorem b8 {a b c d e f g h:Prop} (i:a) (j:b) (k:c) (l:d) (m:e) (n:f) (o:g) (p:h):a∧b∧c∧d∧e∧f∧g∧h:=⟨i,j,k,l,m,n,o,p⟩
theorem lx1:type_of% @Bool.and_assoc:=@Bool.and_assoc
theorem lx2.{u}:type_of% @List.length_set.{u}:=@List.length_set.{u}
theorem lx3.{u}:type_of% @List.getElem?_concat_length.{u}:=@List.getElem?_concat_length.{u}
theorem lx4.{u}:type_of% @List.append_assoc.{u}:=@List.append_assoc.{u}
theorem lx5.{u}:type_of% @List.length_append.{u}:=@List.length_append.{u}
theorem lx6.{u}:type_of% @if_true.{u}:=@if_true.{u}
theorem lx7.{u}:type_of% @if_false.{u}:=@if_false.{u}
theorem lx8.{u}:type_of% @ite_self.{u}:=@ite_self.{u}
theorem lx9.{u}:type_of% @Option.isSome_none.{u}:=@Option.isSome_none.{u}
theorem lx10.{u}:type_of% @Option.getD_some.{u}:=@Option.getD_some.{u}
theorem lx11.{u}:type_of% @List.set_cons_succ.{u}:=@List.set_cons_succ.{u}
theorem lx12.{u,v}:type_of% @List.map_append.{u,v}:=@List.map_append.{u,v}
theorem Ar:type_of% @Nat.le_refl:=@Nat.le_refl
theorem Nz:type_of% @Nat.le_trans:=@Nat.le_trans
theorem Le:type_of% @Nat.lt_of_lt_of_le:=@Nat.lt_of_lt_of_le
theorem lx16.{u}:type_of% @Option.some.injEq.{u}:=@Option.some.injEq.{u}
theorem lx17.{u,v}:type_of% @Option.bind_some.{u,v}:=@Option.bind_some.{u,v}
theorem lx18.{u}:type_of% @List.getElem?_append.{u}:=@List.getElem?_append.{u}
theorem lx19.{u}:type_of% @List.getElem?_take.{u}:=@List.getElem?_take.{u}
theorem lx20.{u}:type_of% @List.getElem?_drop.{u}:=@List.getElem?_drop.{u}
theorem lx21.{u}:type_of% @List.getElem?_set.{u}:=@List.getElem?_set.{u}
theorem lx22.{u}:type_of% @List.getElem?_eq_some_iff.{u}:=@List.getElem?_eq_some_iff.{u}
theorem lx23.{u,v}:type_of% @List.getElem?_map.{u,v}:=@List.getElem?_map.{u,v}
theorem lx24.{u,v}:type_of% @Option.map_eq_some_iff.{u,v}:=@Option.map_eq_some_iff.{u,v}
theorem lx25.{u}:type_of% @List.mem_of_getElem?.{u}:=@List.mem_of_getElem?.{u}
theorem Bu:type_of% @Nat.zero_le:=@Nat.zero_le
theorem AX:type_of% @Bool.and_eq_true:=@Bool.and_eq_true
theorem lx28.{u}:type_of% @List.all_eq_true.{u}:=@List.all_eq_true.{u}
theorem lx29.{u}:type_of% @Array.length_toList.{u}:=@Array.length_toList.{u}
theorem lx30.{u}:type_of% @List.getElem?_eq_none.{u}:=@List.getElem?_eq_none.{u}
theorem Jm:type_of% @Nat.add_zero:=@Nat.add_zero
theorem lx32.{u,v}:type_of% @List.map_cons.{u,v}:=@List.map_cons.{u,v}
theorem Hh:type_of% @Nat.add_assoc:=@Nat.add_assoc
theorem lx34.{u,v}:type_of% @Option.map_some.{u,v}:=@Option.map_some.{u,v}
theorem lx35.{u,v}:type_of% @List.mem_map.{u,v}:=@List.mem_map.{u,v}
theorem Jn:type_of% @List.mem_range:=@List.mem_range
theorem Dy:type_of% @Bool.false_eq_true:=@Bool.false_eq_true
theorem lx38.{u}:type_of% @List.mem_of_mem_take.{u}:=@List.mem_of_mem_take.{u}
theorem lx39.{u}:type_of% @List.getElem?_toArray.{u}:=@List.getElem?_toArray.{u}
theorem lx40.{u,v}:type_of% @Prod.mk.injEq.{u,v}:=@Prod.mk.injEq.{u,v}
theorem Hs:type_of% @Nat.add_mul:=@Nat.add_mul
theorem lx42.{u}:type_of% @List.take_zero.{u}:=@List.take_zero.{u}
theorem AN:type_of% @decide_eq_true_eq:=@decide_eq_true_eq
theorem lx44.{u}:type_of% @List.mem_iff_getElem?.{u}:=@List.mem_iff_getElem?.{u}
theorem lx45.{u}:type_of% @List.getElem?_cons_zero.{u}:=@List.getElem?_cons_zero.{u}
theorem Mx:type_of% @Nat.sub_self:=@Nat.sub_self
theorem lx47.{u,v}:type_of% @List.map_nil.{u,v}:=@List.map_nil.{u,v}
theorem lx48.{u}:type_of% @List.mem_cons_self.{u}:=@List.mem_cons_self.{u}
theorem lx49.{u}:type_of% @List.mem_cons_of_mem.{u}:=@List.mem_cons_of_mem.{u}
theorem lx50.{u}:type_of% @Array.getElem?_eq_some_iff.{u}:=@Array.getElem?_eq_some_iff.{u}
theorem lx51.{u}:type_of% @List.getElem?_eq_getElem.{u}:=@List.getElem?_eq_getElem.{u}
theorem lx52.{u}:type_of% @List.getElem?_set_ne.{u}:=@List.getElem?_set_ne.{u}
theorem lx53.{u}:type_of% @List.length_cons.{u}:=@List.length_cons.{u}
theorem lx54.{u}:type_of% @List.getElem?_cons_succ.{u}:=@List.getElem?_cons_succ.{u}
theorem PK:type_of% @Nat.mul_le_mul_right:=@Nat.mul_le_mul_right
theorem lx56.{u}:type_of% @List.size_toArray.{u}:=@List.size_toArray.{u}
theorem B6:type_of% @Nat.zero_add:=@Nat.zero_add
theorem lx58.{u,v}:type_of% @List.length_map.{u,v}:=@List.length_map.{u,v}
theorem lx59.{u}:type_of% @List.mem_cons.{u}:=@List.mem_cons.{u}
theorem lx60.{u}:type_of% @List.eq_nil_of_length_eq_zero.{u}:=@List.eq_nil_of_length_eq_zero.{u}
theorem lx61.{u}:type_of% @List.getElem?_append_left.{u}:=@List.getElem?_append_left.{u}
theorem lx62.{u}:type_of% @List.getElem?_append_right.{u}:=@List.getElem?_append_right.{u}
theorem lx63.{u}:type_of% @List.length_nil.{u}:=@List.length_nil.{u}
theorem lx64.{u}:type_of% @List.nil_append.{u}:=@List.nil_append.{u}
theorem lx65.{u}:type_of% @List.ext_getElem?.{u}:=@List.ext_getElem?.{u}
theorem lx66.{u}:type_of% @List.append_nil.{u}:=@List.append_nil.{u}
theorem lx67.{u}:type_of% @List.take_append_drop.{u}:=@List.take_append_drop.{u}
theorem lx68.{u}:type_of% @List.length_take.{u}:=@List.length_take.{u}
theorem lx69.{u}:type_of% @List.getElem_of_mem.{u}:=@List.getElem_of_mem.{u}
theorem lx70.{u}:type_of% @List.mem_singleton.{u}:=@List.mem_singleton.{u}
theorem My:type_of% @Bool.not_true:=@Bool.not_true
theorem lx72.{u}:type_of% @List.set_eq_of_length_le.{u}:=@List.set_eq_of_length_le.{u}
theorem lx73.{u}:type_of% @List.drop_zero.{u}:=@List.drop_zero.{u}
theorem lx74.{u}:type_of% @List.take_length.{u}:=@List.take_length.{u}
theorem lx75.{u}:type_of% @List.drop_eq_getElem_cons.{u}:=@List.drop_eq_getElem_cons.{u}
theorem lx76.{u}:type_of% @List.mem_append.{u}:=@List.mem_append.{u}
theorem lx77.{u}:type_of% @List.mem_append_left.{u}:=@List.mem_append_left.{u}
theorem IW:type_of% @Bool.or_eq_true:=@Bool.or_eq_true
theorem Ej:type_of% @Nat.lt_or_ge:=@Nat.lt_or_ge
theorem lx80.{u}:type_of% @List.getD_eq_getElem?_getD.{u}:=@List.getD_eq_getElem?_getD.{u}
theorem IK:type_of% @Bool.false_or:=@Bool.false_or
theorem J2:type_of% @Bool.not_eq_true':=@Bool.not_eq_true'
theorem Jo:type_of% @Bool.or_false:=@Bool.or_false
theorem GX:type_of% @Bool.true_and:=@Bool.true_and
theorem lx85.{u}:type_of% @beq_iff_eq.{u}:=@beq_iff_eq.{u}
theorem lx86.{u}:type_of% @List.length_filter_le.{u}:=@List.length_filter_le.{u}
theorem J8:type_of% @Bool.or_eq_false_iff:=@Bool.or_eq_false_iff
theorem J9:type_of% @Bool.not_false:=@Bool.not_false
theorem Ir:type_of% @Nat.lt_succ_self:=@Nat.lt_succ_self
theorem lx90.{u}:type_of% @List.getElem_mem.{u}:=@List.getElem_mem.{u}
theorem lx91.{u}:type_of% @List.cons_append.{u}:=@List.cons_append.{u}
theorem lx92.{u}:type_of% @List.take_succ_cons.{u}:=@List.take_succ_cons.{u}
theorem lx93.{u}:type_of% @List.length_drop.{u}:=@List.length_drop.{u}
theorem LK:type_of% @Bool.false_and:=@Bool.false_and
theorem lx95.{u}:type_of% @Classical.choose_spec.{u}:=@Classical.choose_spec.{u}
theorem lx96.{u}:type_of% @List.cons.injEq.{u}:=@List.cons.injEq.{u}
theorem lx97.{u}:type_of% @List.any_eq_false.{u}:=@List.any_eq_false.{u}
theorem NA:type_of% @Int.natCast_nonneg:=@Int.natCast_nonneg
theorem CY:type_of% @true_and:=@true_and
theorem Ay:type_of% @and_true:=@and_true
theorem GY:type_of% @Bool.and_true:=@Bool.and_true
theorem Fj:type_of% @or_false:=@or_false
theorem Hp:type_of% @Int.toNat_natCast:=@Int.toNat_natCast
theorem Ka:type_of% @Bool.or_true:=@Bool.or_true
theorem Kb:type_of% @Bool.true_or:=@Bool.true_or
theorem HS:type_of% @Bool.and_false:=@Bool.and_false
theorem RT:type_of% @Nat.mod_two_eq_zero_or_one:=@Nat.mod_two_eq_zero_or_one
theorem BT:type_of% @decide_eq_false_iff_not:=@decide_eq_false_iff_not
theorem HU:type_of% @decide_eq_true:=@decide_eq_true
theorem E8:type_of% @decide_eq_false:=@decide_eq_false
theorem Hq:type_of% @Bool.not_eq_true:=@Bool.not_eq_true
theorem lx113.{u}:type_of% @beq_eq_false_iff_ne.{u}:=@beq_eq_false_iff_ne.{u}
theorem Lj:type_of% @Bool.eq_false_iff:=@Bool.eq_false_iff
theorem lx115.{u}:type_of% @List.take_succ_eq_append_getElem.{u}:=@List.take_succ_eq_append_getElem.{u}
theorem Lk:type_of% @Bool.not_eq_false':=@Bool.not_eq_false'
theorem lx117.{u}:type_of% @List.set_cons_zero.{u}:=@List.set_cons_zero.{u}
theorem lx118.{u}:type_of% @List.take_of_length_le.{u}:=@List.take_of_length_le.{u}
theorem lx119.{u}:type_of% @List.set_append_right.{u}:=@List.set_append_right.{u}
theorem Ol:type_of% @Nat.add_sub_cancel_left:=@Nat.add_sub_cancel_left
theorem lx121.{u}:type_of% @List.not_mem_nil.{u}:=@List.not_mem_nil.{u}
theorem lx122.{u}:type_of% @List.pairwise_iff_getElem.{u}:=@List.pairwise_iff_getElem.{u}
theorem GZ:type_of% @Int.eq_ofNat_of_zero_le:=@Int.eq_ofNat_of_zero_le
theorem lx124.{u}:type_of% @List.getD_cons_zero.{u}:=@List.getD_cons_zero.{u}
theorem lx125.{u}:type_of% @List.getD_cons_succ.{u}:=@List.getD_cons_succ.{u}
theorem lx126.{u}:type_of% @List.pairwise_cons.{u}:=@List.pairwise_cons.{u}
theorem Va:type_of% @Bool.and_eq_false_iff:=@Bool.and_eq_false_iff
theorem Gn {P:Prop} (h:P:=by
 simp (maxSteps:=10000000) only [AY,AW,↓reduceIte,reduceCtorEq,Nat.reduceAdd,Nat.reduceEqDiff,Bn,Dj]):P:=h
theorem qc2 {P:Prop} (h:P:=by
 simp only [Av,opS,Int.reduceEq,lx6,lx7,↓reduceIte,JO,Oa,Im,Ho,or_self,Fj,false_or,or_true,true_or]
 refine key _ _ _ _ ?_ ?_ ?_ ?_
 ·have e:(((st:List Int).length:Nat):Int)=(st.length:Int) - 0+0:=by simp [lx5,lx68]
  rw [e]; exact hnx _ _ (by simp [BZ,Br])
 ·exact h2
 ·exact h3
 ·exact h4):P:=h
theorem RU {P:Prop} (h:P:=by
 repeat' (first | exact Ad (by kernel_rfl) | refine ⟨Ad (by kernel_rfl),?_⟩ | refine And.intro ?_ ?_ | fail)
 all_goals first | exact .refl _ | exact .inl rfl | exact Df _ _ _ | skip
 all_goals done):P:=h
theorem qc4 {P:Prop} (h:P:=by
 simp only [JB,LY,LZ,L0,L1,L2,L3,L4,L5,L6,L7,JC,H6,L8,JD,H7,JE,Nat.reduceEqDiff,↓reduceIte,lx117,lx11,lx124,lx125,NT,L9,Ks,M8,Ud,GY,GX,Abh,Abi,hj1,hj2,hw1,hw2]
 all_goals done):P:=h
theorem qc5 {P:Prop} (h:P:=by
 all_goals simp (maxSteps:=10000000) only [AY,AW,↓reduceIte,reduceCtorEq,Nat.reduceAdd,Nat.reduceEqDiff,Bn,Dj,Ab]
 all_goals done):P:=h
theorem Nw {P:Prop} (h:P:=by
 simp only [Av,opS,Int.reduceEq,lx6,lx7,↓reduceIte,or_self,Fj,false_or,or_true,true_or,put,pop,eff] at h; cases h):P:=h
theorem Mz {P:Prop} (h:P:=by
 simp only [Av,opS,Int.reduceEq,lx6,lx7,↓reduceIte,or_self,Fj,false_or,or_true,true_or,put,pop,eff]; omega):P:=h
theorem qc8 {P:Prop} (h:P:=by
 have hrl:r=l.length:=by omega
 subst hrl
 have h1:decide ((l.length:Int) < (l.length:Int))=false:=by simp
 have e:=Uc (p:=p) hn
 simp (maxSteps:=10000000) only [Bn,Dj,Nat.reduceAdd,Nat.reduceEqDiff,↓reduceIte,B6]
 simp (maxSteps:=10000000) +contextual -implicitDefEqProofs only [AY,AW,St.put,↓reduceIte,h1,e]):P:=h
theorem qc9 {P:Prop} (h:P:=by
 simp only [Av,opS,Int.reduceEq,lx6,lx7,↓reduceIte,JO,Oa,Im,Ho,or_self,Fj,false_or,or_true,true_or]
 have ht:1≤st.length:=by have:=htk; simp [Br] at this; omega
 refine key _ _ _ _ ?_ ?_ ?_ ?_
 ·have e:(((st.take (st.length - 1):List Int).length:Nat):Int)=(st.length:Int) - 1+0:=by simp [lx5,lx68]; omega
  rw [e]; exact hnx _ _ (by simp [BZ,Br])
 ·exact hpop _
 ·exact h3
 ·exact h4):P:=h
theorem Amn {P:Prop} (h:P:=by
 all_goals try repeat' (first | exact Ad (by kernel_rfl) | refine ⟨Ad (by kernel_rfl),?_⟩ | refine And.intro ?_ ?_ | fail)
 refine Ao ?_ ?_ (Ar _) (ih2 (cnt+1) _)
 all_goals simp (maxSteps:=10000000) only [AY,AW,↓reduceIte,reduceCtorEq,Nat.reduceAdd,Nat.reduceEqDiff,Bn,Dj,lx5,lx12,Bg]
 all_goals done):P:=h
theorem Ay8 {P:Prop} (h:P:=by
 have h1:decide ((k:Int) < (n:Int))=true:=by rw [AN]; omega
 have h2:decide ((0:Int)≤(k:Int))=true:=by rw [AN]; omega
 have w1:IntKind.i64.wrap ((k:Int)+1)=((k+1:Nat):Int):=by rw [Bd (by omega) (by omega)]; omega
 have h3:decide (k < (List.replicate k (-1:Int)++List.replicate (n - k) 0).length)=true:=by rw [AN]; simp; omega
 have hm:((List.replicate k (-1:Int)++List.replicate (n - k) 0).map (kA .i64)).set k (AV.sc (.int .i64 (-1)))=(List.replicate (k+1) (-1:Int)++List.replicate (n - (k+1)) 0).map (kA .i64):=by
  rw [←Aoa hk',List.map_set]; rfl
 obtain ⟨L,hL⟩:∃ L,List.replicate k (-1:Int)++List.replicate (n - k) 0=L:=⟨_,rfl⟩
 rw [hL] at h3 hm ⊢
 refine Aa ?_
 simp (maxSteps:=10000000) only [Bn,Dj,Nat.reduceAdd,Nat.reduceEqDiff,↓reduceIte,B6]
 refine Jk (a6 h1 h3 w1 hm @Ab @Ax) ?_
 refine Ao ?_ ?_ (Ar _) (ih (k+1) _ (by omega) (by omega))
 all_goals simp (maxSteps:=10000000) only [AY,AW,↓reduceIte,reduceCtorEq,Nat.reduceAdd,Nat.reduceEqDiff,List.replicate_succ,Bn,Dj,AB,Ab]
 all_goals done):P:=h
theorem Bh8 {P:Prop} (h:P:=by
 rw [hv] at E4
 simp only [C4] at E4
 have ih2:=fun v7 c=>ih2 (r,⟨ins'++X,ens',u⟩,v7) c ⟨g1,hsa,by simp only [lx5]; omega⟩ (by simp only; omega)
 simp only [lx5] at ih2
 have hsz':decide ((ins'.length+X.length) * 16≤140737488355328)=true:=by rw [AN]; omega
 have htk':List.take ins'.length (ins'.map B9)=ins'.map B9:=lx118 (by simp)
 have hma':ins'.map B9++X.map B9=(ins'++X).map B9:=by rw [lx12]
 refine Aa ?_
 simp (maxSteps:=10000000) only [Bn,Dj,Nat.reduceAdd,Nat.reduceEqDiff,↓reduceIte,B6]
 refine O3 (a9 c1 w2 E4 hsz' htk' hma' @C4 @AD @Me) ?_
 repeat' (first | exact Ad (by kernel_rfl) | refine ⟨Ad (by kernel_rfl),?_⟩ | refine And.intro ?_ ?_ | fail)
 refine Ao ?_ ?_ (Ar _) (ih2 c' _)
 all_goals simp (maxSteps:=10000000) only [AY,AW,↓reduceIte,reduceCtorEq,Nat.reduceAdd,Nat.reduceEqDiff,Bn,Dj,C4]
 all_goals done):P:=h
theorem Bh9 {P:Prop} (h:P:=by
 have b14:(k == 14)=false:=by rw [lx113]; exact h14
 have b15:(k == 15)=false:=by rw [lx113]; exact h15
 have b16:(k == 16)=false:=by rw [lx113]; exact h16
 have b17:(k == 17)=false:=by rw [lx113]; exact h17
 have b18:(k == 18)=false:=by rw [lx113]; exact h18
 have b19:(k == 19)=false:=by rw [lx113]; exact h19
 have b20:(k == 20)=false:=by rw [lx113]; exact h20
 have b21:(k == 21)=false:=by rw [lx113]; exact h21
 have b22:(k == 22)=false:=by rw [lx113]; exact h22
 have b23:(k == 23)=false:=by rw [lx113]; exact h23
 have b24:(k == 24)=false:=by rw [lx113]; exact h24
 have hu:CL k a b=0:=by simp only [CL,h12,h13,h14,h15,h16,h17,h18,h19,h20,h21,h22,h23,h24,lx7]
 exact RF (a16 x1 x2 hu b12 b13 b14 b15 b16 b17 b18 b19 b20 b21 b22 b23 b24)
 all_goals done):P:=h
theorem Ay9 {P:Prop} (h:P:=by
 have x3:=fun t=>UI t
 cases Cq:(c != 0) <;> cases hd0:(d != 0) <;> rw [Cq,hd0] at hu <;> simp (maxSteps:=10000000) +contextual -implicitDefEqProofs only [AY,AW,Au,St.put,Ap,Am,DO,pl,↓reduceIte,Nat.reduceEqDiff,Nat.reduceBEq,CK,AB,Int.reduceBEq,x1,x2,hu,Cq,hd0,x3]
 all_goals done):P:=h
theorem Agc {P:Prop} (h:P:=by
 repeat' (first | exact Ad (by kernel_rfl) | refine ⟨Ad (by kernel_rfl),?_⟩ | refine And.intro ?_ ?_ | fail)
 all_goals first | exact .refl _ | exact F0 _ _ | omega | trivial | exact .inl rfl | exact Df _ _ _ | skip
 all_goals done):P:=h
theorem Auj {P:Prop} (h:P:=by
 repeat' (first | exact Ad (by kernel_rfl) | refine ⟨Ad (by kernel_rfl),?_⟩ | refine And.intro ?_ ?_ | fail)
 refine Ao ?_ ?_ (Ar _) (ih _)
 all_goals simp (maxSteps:=10000000) only [AY,AW,↓reduceIte,reduceCtorEq,Nat.reduceAdd,Nat.reduceEqDiff,Bn,Dj,Ab,Az]
 all_goals done):P:=h
theorem Auk {P:Prop} (h:P:=by
 repeat' (first | exact Ad (by kernel_rfl) | refine ⟨Ad (by kernel_rfl),?_⟩ | refine And.intro ?_ ?_ | fail)
 refine Ao ?_ ?_ (Ar _) (ih _)
 all_goals simp (maxSteps:=10000000) only [AY,AW,↓reduceIte,reduceCtorEq,Nat.reduceAdd,Nat.reduceEqDiff,Bn,Dj]
 all_goals done):P:=h
theorem Bha {P:Prop} (h:P:=by
 simp only at hG hE
 rw [hE] at hG
 rw [hG] at hr
 simp only [hr,lx5,lx53,lx63,B6] at ih
 have hsz':decide ((ins'.length+1) * 16≤140737488355328)=true:=by rw [AN]; omega
 have htk':List.take ins'.length (ins'.map B9)=ins'.map B9:=lx118 (by simp)
 have hma':ins'.map B9++[.ag [.sc (.int .i64 31),.sc (.int .i64 0)]]=(ins'++[(⟨31,0⟩:In)]).map B9:=by rw [lx12]; rfl
 clear ih2
 refine Aa ?_
 simp (maxSteps:=10000000) only [Bn,Dj,Nat.reduceAdd,Nat.reduceEqDiff,↓reduceIte,B6]
 refine O3 (a6 w1 hsz' htk' hma' @Pw @C4) ?_
 refine Ao ?_ ?_ (Ar _) (ih (cnt'+1) v8' _)
 all_goals simp (maxSteps:=10000000) only [AY,AW,↓reduceIte,reduceCtorEq,Nat.reduceAdd,Nat.reduceEqDiff,Bn,Dj,C4]
 all_goals done):P:=h
theorem Agd {P:Prop} (h:P:=by
 simp (maxSteps:=10000000) only [Bn,Dj,Nat.reduceAdd,Nat.reduceEqDiff,↓reduceIte,B6]
 simp only [Xt,Ac8,Xu,Ac9,and_self,Ay,lx53,lx63,Nat.reduceAdd]):P:=h
theorem Aya {P:Prop} (h:P:=by
 have hkl:k=a.length:=by omega
 subst hkl
 have h2:decide ((a.length:Int) < (a.length:Int))=false:=by simp
 have h3:decide (a=b)=true:=by rw [AN]; exact Ro he hn
 simp (maxSteps:=10000000) only [Bn,Dj,Nat.reduceAdd,Nat.reduceEqDiff,↓reduceIte,B6]
 simp (maxSteps:=10000000) +contextual -implicitDefEqProofs only [AY,AW,St.put,↓reduceIte,Dc,h2,h3]
 all_goals done):P:=h
theorem Adx {P:Prop} (h:P:=by
 simp (maxSteps:=10000000) only [AY,AW,↓reduceIte,reduceCtorEq,Nat.reduceAdd,Nat.reduceEqDiff,Bn,Dj]
 all_goals done):P:=h
theorem Bhb {P:Prop} (h:P:=by
 refine Aa ?_
 simp (maxSteps:=10000000) only [Bn,Dj,Nat.reduceAdd,Nat.reduceEqDiff,↓reduceIte,B6]
 cases b1 <;> cases b2 <;> cases b3
 rotate_left 7
 ·have hf:Eb c mo tr ix=some x:=hfa rfl
  rw [hf]
  simp (maxSteps:=10000000) +contextual -implicitDefEqProofs only [AY,AW,Au,St.put,↓reduceIte,reduceCtorEq,Nat.reduceAdd,Int.reduceLT,Nat.reduceLT,Dc,Int.reduceAdd,CK,BU,Ab,norefs,AV.noref,h1,h2,Cu,Ax,hx,hb1,hb2,hb3,pcO,Option.isSome_some,lx10]
  all_goals done
 all_goals
  have hv:=htn rfl
  refine Hr (a7 h1 h2 w1 hx hb1 hb2 hb3) ?_
  refine Ao ?_ ?_ (Ar _) (ih hv _)
  all_goals simp (maxSteps:=10000000) only [AY,AW,↓reduceIte,reduceCtorEq,Nat.reduceAdd,Nat.reduceEqDiff,Bn,Dj,Ab]
 all_goals done):P:=h
theorem Aul {P:Prop} (h:P:=by
 rcases hc with rfl | rfl
 all_goals refine Aa ?_
 all_goals simp (maxSteps:=10000000) +contextual -implicitDefEqProofs only [AY,AW,Au,St.put,DO,↓reduceIte,Nat.reduceAdd,Nat.reduceLeDiff,Nat.reduceMul,Int.reduceLT,Nat.reduceBEq,Nat.reduceLT,Dc,Pw,Int.reduceAdd,Int.reduceMul,CK,E6,hl,AM,Int.reduceBEq,E0,E2,Cq]
 all_goals exact Nn _ _ _ _ _ _ _ _ rfl
 all_goals done):P:=h
theorem Ayb {P:Prop} (h:P:=by
 refine Aa ?_
 by_cases h1:a.mo=b.mo
 ·by_cases h2:a.tr=b.tr
  ·simp (maxSteps:=10000000) +contextual -implicitDefEqProofs only [AY,AW,St.put,↓reduceIte,reduceCtorEq,Nat.reduceAdd,Dc,Int.reduceAdd,CK,AZ,BU,LD,h1,h2]
   all_goals done
  ·have h2':(a.tr != b.tr)=true:=by simpa using h2
   simp (maxSteps:=10000000) +contextual -implicitDefEqProofs only [AY,AW,St.put,↓reduceIte,reduceCtorEq,Nat.reduceAdd,Dc,Int.reduceAdd,CK,AZ,BU,LD,h1,h2,h2']
   all_goals done
 ·have h1':(a.mo != b.mo)=true:=by simpa using h1
  simp (maxSteps:=10000000) +contextual -implicitDefEqProofs only [AY,AW,St.put,↓reduceIte,reduceCtorEq,Nat.reduceAdd,Dc,Int.reduceAdd,CK,AZ,BU,LD,h1,h1']
  all_goals done):P:=h
theorem Aum {P:Prop} (h:P:=by
 simp only [JB,LY,LZ,L0,L1,L2,L3,L4,L5,L6,L7,JC,H6,L8,JD,H7,JE,Nat.reduceEqDiff,↓reduceIte,lx117,lx11,lx124,lx125,NT,L9,Ks,M8,Ud,GY,GX,Abh,Abi,dead]
 all_goals done):P:=h
theorem Jp {P:Prop} (h:P:=by
 simp (maxSteps:=10000000) only [AY,AW,Ab]):P:=h
theorem Ayc {P:Prop} (h:P:=by
 obtain ⟨b,base⟩:=p
 rw [hlc] at g3'
 simp only at g3' ⊢
 obtain ⟨q1,⟨cs,q2⟩,q3⟩:=g3'
 refine ⟨q1,⟨cs,by rw [←k4]; exact q2⟩,fun i e he=>?_⟩
 have hi:i < B.els.length:=(lx22.1 he).1
 have he0:A.els[i]?=some (A.els[i]'(by omega)):=lx51 (by omega)
 obtain ⟨r1,r2⟩:=q3 i _ he0
 obtain ⟨s1,s2⟩:=Ajj ((GH k6).2 i _ e he0 he)
 refine ⟨by rw [←s1,←k5]; exact r1,fun m d hd=>?_⟩
 have hm:m < e.cells.length:=(lx22.1 hd).1
 have Cq:=lx51 (l:=(A.els[i]'(by omega)).cells) (i:=m) (by omega)
 obtain ⟨u,t1,t2,t3⟩:=r2 m _ Cq
 exact ⟨u,by rw [←k5]; exact t1,t2,hvr (s2 m _ d Cq hd) t3⟩):P:=h
theorem Ayd {P:Prop} (h:P:=by
 have h1:(tr == 1)=false:=by rw [lx113]; omega
 have h2:(tr == 2)=false:=by rw [lx113]; omega
 have h3:(tr == 3)=false:=by rw [lx113]; omega
 have h4:(tr == 4)=false:=by rw [lx113]; omega
 have h5:(tr == 5)=false:=by rw [lx113]; omega
 have h6:(tr == 6)=false:=by rw [lx113]; omega
 have g:KB c ⟨mo,tr,ix,pc⟩=false:=by
  unfold KB
  rw [if_neg (by simp only; omega),if_neg (by simp only; omega),if_neg (by simp only; omega),if_neg (by simp only; omega),HS]
 rw [g]
 clear h
 exact IU (IL w2 h0 h1 h2 h3 h4 h5 h6 @BU @Ab @OV)
 all_goals done):P:=h
theorem Aye {P:Prop} (h:P:=by
 obtain ⟨m1,⟨cs,m2⟩,m3⟩:=q3
 refine ⟨m1,⟨cs,by rw [←k5]; exact m2⟩,fun i f hf'=>?_⟩
 have hi:i < B.els.length:=(lx22.1 hf').1
 have he:=lx51 (l:=B1.els) (i:=i) (by omega)
 obtain ⟨n1,n2⟩:=m3 i _ he
 obtain ⟨hj,hrn⟩:=k8 i _ f he hf'
 obtain ⟨u1,u2⟩:=Ajl hrn hj
 refine ⟨by rw [←u1,n1,k6],fun jj a ha'=>?_⟩
 have hjj:jj < f.cells.length:=(lx22.1 ha').1
 have hx:=lx51 (l:=(B1.els[i]'(by omega)).cells) (i:=jj) (by omega)
 obtain ⟨c,p1,p2,p3⟩:=n2 jj _ hx
 exact ⟨c,by rw [←k6]; exact p1,p2,hvr (u2 jj _ a hx ha') p3⟩):P:=h
theorem Aun {P:Prop} (h:P:=by
 obtain ⟨w',fr,s',X',loc',r,c,g1,g2⟩:=ih (fun x hx=>hlex x (lx49 _ hx)) b cs a1 w1 X1 loc1 hb hf q1 w0 X0 Cq hn (hev.trans q2)
 exact ⟨w',fr,s',X',loc',r,c,q3.trans g1,g2⟩):P:=h
theorem Ayf {P:Prop} (h:P:=by
 rw [h7] at x4
 have e:=Akc hk' h7
 simp (maxSteps:=10000000) only [Bn,Dj,Nat.reduceAdd,Nat.reduceEqDiff,↓reduceIte,B6]
 simp (maxSteps:=10000000) +contextual -implicitDefEqProofs only [AY,AW,St.put,Ap,Am,DO,pl,↓reduceIte,reduceCtorEq,Nat.reduceAdd,Nat.reduceEqDiff,Dc,Int.reduceAdd,CK,E6,BU,Ab,norefs,AV.noref,h3,h4,h5,h6,w2,ha,hb,x4,Dr,Cu,Bo,h1,h2,ht,e]
 repeat' (first | exact Ad (by kernel_rfl) | refine ⟨Ad (by kernel_rfl),?_⟩ | refine And.intro ?_ ?_ | fail)
 all_goals done):P:=h
theorem Auo {P:Prop} (h:P:=by
 all_goals simp (maxSteps:=10000000) only [AY,AW,↓reduceIte,reduceCtorEq,Nat.reduceAdd,Nat.reduceEqDiff,Bn,Dj,Ab,AS,hE.1,hE.2]
 all_goals done):P:=h
theorem Ayg {P:Prop} (h:P:=by
 have h1:((a.length:Int) != (b.length:Int))=true:=by simp; omega
 have h2:decide (a=b)=false:=by rw [BT]; intro h; exact he (by rw [h])
 simp (maxSteps:=10000000) +contextual -implicitDefEqProofs only [AY,AW,St.put,↓reduceIte,Dc,AZ,h1,h2]):P:=h
theorem Aup {P:Prop} (h:P:=by
 refine ⟨e1.symm.trans h2.1,fun i y v hy hv=>?_⟩
 have hi:i < T'.length:=(lx22.1 hy).1
 have hx:T[i]?=some (T[i]'(by omega)):=lx51 (by omega)
 exact hvr (e2 i _ y hx hy) (h2.2 i _ v hx hv)):P:=h
theorem Amo {P:Prop} (h:P:=by
 obtain ⟨q1,q2⟩:=h5 i B.els[i] (by simp [hi])
 obtain ⟨c,e1,e2,e3⟩:=q2 j (B.els[i].cells[j]'(by omega)) (by simp)
 rw [e1]
 exact ⟨rfl,e2⟩):P:=h
theorem Bhc {P:Prop} (h:P:=by
 have b1:(k == 10)=false:=by rw [lx113]; exact h1
 by_cases h2:k=11
 ·subst h2
  have hu:Rp 11 a=Hn (c == 0):=by rw [Rp,if_neg (by decide),if_pos rfl,hc']
  exact RF (a3 x1 x2 hu)
  all_goals done
 have b2:(k == 11)=false:=by rw [lx113]; exact h2
 have hu:Rp k a=0:=by rw [Rp,if_neg h1,if_neg h2]
 exact RF (a4 x1 b1 b2 hu)
 all_goals done):P:=h
theorem Ayh {P:Prop} (h:P:=by
 rw [h4] at e146
 simp (maxSteps:=10000000) only [Bn,Dj,Nat.reduceAdd,Nat.reduceEqDiff,↓reduceIte,B6]
 simp (maxSteps:=10000000) +contextual -implicitDefEqProofs only [AY,AW,St.put,Ap,Am,DO,pl,↓reduceIte,reduceCtorEq,Nat.reduceAdd,Nat.reduceEqDiff,Dc,Int.reduceAdd,CK,E6,Ab,norefs,AV.noref,h3,e146,Bo,h1,h2,ht,e,h4]
 all_goals done):P:=h
theorem Ayi {P:Prop} (h:P:=by
 have o1:decide ((Br x.op).1≤h)=false:=by rw [BT]; exact ho1
 have e:=hbad (q:=True) (fun hk=>ho1 hk.1)
 simp (maxSteps:=10000000) only [Bn,Dj,Nat.reduceAdd,Nat.reduceEqDiff,↓reduceIte,B6]
 exact IU (a27 c1 w1 c3 c4 hp c6 hx c7 c8 c9 c10 hh e1 w2 w3 hA b31 b12 b13 b14 o1 e @AM @Ab @EO @AD @Ax)
 all_goals done):P:=h
theorem Ayj {P:Prop} (h:P:=by
 have e:=hno (by rw [hb]; simp only [loX,c1,c2,IK,c3,Kb])
 simp (maxSteps:=10000000) only [Bn,Dj,Nat.reduceAdd,Nat.reduceEqDiff,↓reduceIte,B6]
 exact JW (G0 g1 g2 ho c1 c2 x4 x3 c3 e @Bg @Az @B4)
 repeat' (first | exact Ad (by kernel_rfl) | refine ⟨Ad (by kernel_rfl),?_⟩ | refine And.intro ?_ ?_ | fail)
 all_goals done):P:=h
theorem Ayk {P:Prop} (h:P:=by
 simp (maxSteps:=10000000) only [AY,AW,↓reduceIte,reduceCtorEq,Nat.reduceAdd,Nat.reduceEqDiff,Bn,Dj,Yh]
 all_goals done):P:=h
theorem Ayl {P:Prop} (h:P:=by
 rw [h4] at e103
 simp (maxSteps:=10000000) only [Bn,Dj,Nat.reduceAdd,Nat.reduceEqDiff,↓reduceIte,B6]
 simp (maxSteps:=10000000) +contextual -implicitDefEqProofs only [AY,AW,St.put,DO,pl,↓reduceIte,reduceCtorEq,Nat.reduceAdd,Nat.reduceEqDiff,Dc,Int.reduceAdd,CK,E6,Ab,norefs,AV.noref,h3,e103,Bo,h1,h2,ht,e,h4]
 all_goals done):P:=h
theorem Auq {P:Prop} (h:P:=by
 all_goals simp (maxSteps:=10000000) only [AY,AW,↓reduceIte,reduceCtorEq,Nat.reduceAdd,Nat.reduceEqDiff,Bn,Dj,Bg]
 all_goals done):P:=h
theorem Aym {P:Prop} (h:P:=by
 all_goals try repeat' (first | exact Ad (by kernel_rfl) | refine ⟨Ad (by kernel_rfl),?_⟩ | refine And.intro ?_ ?_ | fail)
 refine Ao ?_ ?_ (Ar _) (ih2 (cnt+1+1+1) _)
 all_goals simp (maxSteps:=10000000) only [AY,AW,↓reduceIte,reduceCtorEq,Nat.reduceAdd,Nat.reduceEqDiff,Bn,Dj,lx5,lx12,Bg,lx4]
 all_goals done):P:=h
theorem Ayn {P:Prop} (h:P:=by
 have hrl:r=b.size:=by omega
 subst hrl
 have h1:decide ((b.size:Int) < (b.size:Int))=false:=by simp
 have e:=Af0 hn
 simp (maxSteps:=10000000) only [Bn,Dj,Nat.reduceAdd,Nat.reduceEqDiff,↓reduceIte,B6]
 simp (maxSteps:=10000000) +contextual -implicitDefEqProofs only [AY,AW,St.put,↓reduceIte,Dc,h1,Nh,e]
 all_goals done):P:=h
theorem Aur {P:Prop} (h:P:=by
 refine Ao ?_ (Aw _) (Ar _) ih3
 simp (maxSteps:=10000000) only [AY,AW,↓reduceIte,reduceCtorEq,Nat.reduceAdd,Nat.reduceEqDiff,Bn,Dj,Alb]
 all_goals done):P:=h
theorem Ady {P:Prop} (h:P:=by
 exact RF (a4 x1 x2 hu x3)
 all_goals done):P:=h
theorem Ayo {P:Prop} (h:P:=by
 intro k B hB hBl
 have hk:k < H'.length:=(lx22.1 hB).1
 have hA:=lx51 (l:=H) (i:=k) (by omega)
 refine ⟨_,hA,?_⟩
 rcases hg k _ B hA hB with h | h | ⟨e1,e2,e3,e4,e5⟩
 ·rw [h]; exact ⟨hBl,rfl,rfl,rfl,BX _ _ _⟩
 ·rw [h] at hBl; cases hBl
 ·exact ⟨e1.trans hBl,e2,e3,e4,e5⟩):P:=h
theorem Aus {P:Prop} (h:P:=by
 repeat' split at hs
 all_goals first | (cases hs; done) | skip
 cases hs
 refine ⟨_,by rw [Cc],?_⟩
 simp_all [Cc]):P:=h
theorem Amp {P:Prop} (h:P:=by
 all_goals first | rfl | trivial | omega | exact .refl _ | exact Df _ _ _ | exact .sl0 _ _ _ (by simp [AP]) | skip
 all_goals done):P:=h
theorem Yp {P:Prop} (h:P:=by
 all_goals first | rfl | trivial | omega | exact .refl _ | skip
 all_goals done):P:=h
theorem Ayp {P:Prop} (h:P:=by
 repeat' (refine Aia (fun h=>?_) (fun h=>?_))
 all_goals refine congrArg (fun b=>AV.sc (.bool b)) (Bool.eq_iff_iff.2 ?_)
 all_goals simp only [IW,AX,J2,AN,BT,lx85,Dy,false_iff,true_iff,Va] at *
 all_goals omega):P:=h
theorem Ayq {P:Prop} (h:P:=by
 have e:=hno (by rw [hb]; simp [loX,c2])
 simp (maxSteps:=10000000) only [Bn,Dj,Nat.reduceAdd,Nat.reduceEqDiff,↓reduceIte,B6]
 exact JW (a9 g1 g2 ho c1 c2 e @Bg @Az @B4)
 repeat' (first | exact Ad (by kernel_rfl) | refine ⟨Ad (by kernel_rfl),?_⟩ | refine And.intro ?_ ?_ | fail)
 all_goals done):P:=h
theorem Ayr {P:Prop} (h:P:=by
 have e:=hno (by rw [hb]; simp [loX,c1])
 simp (maxSteps:=10000000) only [Bn,Dj,Nat.reduceAdd,Nat.reduceEqDiff,↓reduceIte,B6]
 exact JW (a8 g1 g2 ho c1 e @Bg @Az @B4)
 repeat' (first | exact Ad (by kernel_rfl) | refine ⟨Ad (by kernel_rfl),?_⟩ | refine And.intro ?_ ?_ | fail)
 all_goals done):P:=h
theorem Ays {P:Prop} (h:P:=by
 by_cases h1:m.dn=true∨256 < m.ef.length
 ·exact Afg h1
 ·have:n=B:=by
   rw [not_or] at h1
   cases hd:m.dn with
   | true=>exact absurd hd h1.1
   | false=>
    rcases Ej n B with h | h
    ·exact absurd ⟨hd,h,by omega⟩ hgo
    ·omega
  rw [this,Mx]
  rfl):P:=h
theorem Ayt {P:Prop} (h:P:=by
 repeat' (first | exact Ad (by kernel_rfl) | refine ⟨Ad (by kernel_rfl),?_⟩ | refine And.intro ?_ ?_ | fail)
 refine key _ _ ?_ ?_
 ·simp (maxSteps:=10000000) only [AY,AW,↓reduceIte,reduceCtorEq,Nat.reduceAdd,Nat.reduceEqDiff,Bn,Dj,Oi]
 ·rw [lx12]; exact Aw _
 all_goals done):P:=h
theorem Age {P:Prop} (h:P:=by
 subst r4; subst hp
 rw [lx42]
 exact .vw0 (fun h=>by cases h) (Bu _)):P:=h
theorem Ayu {P:Prop} (h:P:=by
 rintro id ver i off v ⟨h1,h2⟩
 have h1':ver < c:=h1
 refine ⟨Nat.lt_succ_of_lt h1',fun B e1 e2 e3=>?_⟩
 by_cases hid:id=H.length
 ·subst hid
  simp only at e1
  rw [hB] at e1; cases e1
  simp only at e3; omega
 ·simp only at e1
  rw [hne id hid] at e1
  simp only [hid,lx7]
  exact h2 B e1 e2 e3):P:=h
theorem Ayv {P:Prop} (h:P:=by
 refine Hr (Hg hb hb2 w1 hg k0 k1 tl z1 @Gz @HQ) ?_
 refine Ao ?_ ?_ (Ar _) (ih3 (cnt+1+1) _)
 all_goals simp (maxSteps:=10000000) only [AY,AW,↓reduceIte,reduceCtorEq,Nat.reduceAdd,Nat.reduceEqDiff,Bn,Dj,Lh,lx5,lx12,Be,RA]
 all_goals done):P:=h
theorem Ayw {P:Prop} (h:P:=by
 repeat' (first | exact Ad (by kernel_rfl) | refine ⟨Ad (by kernel_rfl),?_⟩ | refine And.intro ?_ ?_ | fail)
 refine Ao ?_ ?_ (Ar _) (ih _)
 all_goals simp (maxSteps:=10000000) only [AY,AW,↓reduceIte,reduceCtorEq,Nat.reduceAdd,Nat.reduceEqDiff,Bn,Dj,AS]
 all_goals done):P:=h
theorem Ayx {P:Prop} (h:P:=by
 refine Aa ?_
 refine Hr (a5 hz @Ch @Fi @Ji @dl2) ?_
 repeat' (first | exact Ad (by kernel_rfl) | refine ⟨Ad (by kernel_rfl),?_⟩ | refine And.intro ?_ ?_ | fail)
 all_goals first | exact .refl _ | exact .inl rfl | exact Df _ _ _ | omega | trivial | skip
 all_goals done):P:=h
theorem Bhd {P:Prop} (h:P:=by
 intro hn
 rcases ih (by omega) with g | g
 ·by_cases hlt:n < (Q n).2.length
  ·exact .inl fun j hj=>by
    rcases Nat.lt_succ_iff_lt_or_eq.1 hj with hj | rfl
    ·exact g j hj
    ·exact hlt
  ·exact .inr ⟨n,by omega,g,Nat.le_antisymm (by omega) (hln n g)⟩
 ·exact .inr g):P:=h
theorem Aut {P:Prop} (h:P:=by
 unfold execOp
 simp only [ho,resolve,invoke,builtin,Sem.run_bind,Sem.run_pure,Result.andThen_ok,List.map_toArray,lx32,lx47,hr]):P:=h
theorem Ayy {P:Prop} (h:P:=by
 simp (maxSteps:=10000000) only [Bn,Dj,Nat.reduceAdd,Nat.reduceEqDiff,↓reduceIte,B6]
 refine Hr (a2 n1 n2) ?_
 repeat' (first | exact Ad (by kernel_rfl) | refine ⟨Ad (by kernel_rfl),?_⟩ | refine And.intro ?_ ?_ | fail)
 all_goals first | exact .refl _ | rfl | skip):P:=h
theorem Ayz {P:Prop} (h:P:=by
 have g:∀ k:Int,1≤k→k≤31→(op=k)=False:=fun k h1 h2=>by have:=hno k h1 h2; simpa using this
 simp [insP,EY,DM,g,EU] at hip
 have:=hno 12 (by decide) (by decide)
 have:=hno 13 (by decide) (by decide)
 have:=hno 14 (by decide) (by decide)
 simp_all
 omega):P:=h
theorem Az0 {P:Prop} (h:P:=by
 obtain ⟨k1,k2⟩:=g2 _ rfl
 refine ⟨k1,fun B' q1 q2 q3=>?_⟩
 obtain ⟨b',base',r1,r2⟩:=k2 B' q1 q2 q3
 rw [hq] at h2
 rw [h2] at r2
 simp only [Value.pointer.injEq,lx16,Go.Addr.mk.injEq] at r2
 exact ⟨b',base',r1,by rw [r2.1,r2.2.1,Hh]⟩):P:=h
theorem Az1 {P:Prop} (h:P:=by
 simp only [AB] at e1
 refine Ac (Aq ((.cons k1 .nil)) (.nil)) rfl Tryz.func116 rfl (by decide) (by kernel_rfl) (by kernel_rfl) ?_
 simp only [Tryz.f116,Af,lx53,lx63,Nat.reduceAdd,Nat.reduceSub,List.replicate]
 refine Aa ?_
 exact IU e1):P:=h
theorem Az2 {P:Prop} (h:P:=by
 simp (maxSteps:=10000000) only [Bn,Dj,Nat.reduceAdd,Nat.reduceEqDiff,↓reduceIte,B6]
 exact IU (a7 h1 h2 hx hb' e2 @Ab @OV)
 repeat' (first | exact Ad (by kernel_rfl) | refine ⟨Ad (by kernel_rfl),?_⟩ | refine And.intro ?_ ?_ | fail)
 all_goals done):P:=h
theorem Az3 {P:Prop} (h:P:=by
 rw [h2] at x2
 simp (maxSteps:=10000000) +contextual -implicitDefEqProofs only [AY,AW,Au,St.put,Ap,Am,DO,pl,↓reduceIte,reduceCtorEq,Nat.reduceAdd,Nat.reduceEqDiff,Dc,Int.reduceAdd,CK,AB,Ab,OV,hlm,x2,Bo,h1,h2]
 all_goals done):P:=h
theorem Auu {P:Prop} (h:P:=by
 rw [if_neg h,if_neg]
 intro h'
 simp only [AX,lx85,AN] at h'
 exact h ⟨h'.1.1.1,h'.1.1.2,h'.1.2,h'.2⟩):P:=h
theorem Az4 {P:Prop} (h:P:=by
 all_goals simp (maxSteps:=10000000) +contextual -implicitDefEqProofs only [AY,AW,St.put,Ap,Am,DO,pl,↓reduceIte,reduceCtorEq,Nat.reduceAdd,Int.reduceEq,Nat.reduceBEq,Dc,Int.reduceAdd,CK,AZ,BU,Ab,Int.reduceBEq,OV,w2,w5,w6,h0,KB]
 all_goals done):P:=h
theorem Auv {P:Prop} (h:P:=by
 refine Aa ?_
 simp (maxSteps:=10000000) +contextual -implicitDefEqProofs only [AY,AW,Au,St.put,↓reduceIte,AB,AZ,EU]):P:=h
theorem Az5 {P:Prop} (h:P:=by
 repeat' split at hs
 all_goals first | (cases hs; done) | skip
 all_goals
  cases hs
  refine ⟨_,by rw [Cc],?_⟩
  simp_all [Cc]):P:=h
theorem Amq {P:Prop} (h:P:=by
 rw [lx30 (show s.H.length≤k by omega),lx30]
 simp; omega):P:=h
theorem Az6 {P:Prop} (h:P:=by
 repeat' (first | exact Ad (by kernel_rfl) | refine ⟨Ad (by kernel_rfl),?_⟩ | refine And.intro ?_ ?_ | fail)
 all_goals first | exact .refl _ | (simp [AV.freshIn,Db,AP,Cj,AV.fresh,Ml,Y7]; done) | skip
 all_goals done):P:=h
theorem Az7 {P:Prop} (h:P:=by
 rw [h1] at hlm
 simp (maxSteps:=10000000) +contextual -implicitDefEqProofs only [AY,AW,Au,St.put,Ap,Am,DO,pl,↓reduceIte,reduceCtorEq,Nat.reduceAdd,Dc,Int.reduceAdd,CK,AB,Ab,OV,hlm,Bo,h1]
 all_goals done):P:=h
theorem Auw {P:Prop} (h:P:=by
 all_goals simp (maxSteps:=10000000) only [AY,AW,↓reduceIte,reduceCtorEq,Nat.reduceAdd,Nat.reduceEqDiff,Bn,Dj,Lh]
 all_goals done):P:=h
theorem Az8 {P:Prop} (h:P:=by
 rw [h2] at x2
 simp (maxSteps:=10000000) +contextual -implicitDefEqProofs only [AY,AW,St.put,Ap,Am,DO,pl,↓reduceIte,Nat.reduceAdd,Nat.reduceEqDiff,Dc,Int.reduceAdd,CK,AB,Ab,x1,x2,Bo,h1,h2]
 all_goals done):P:=h
theorem Az9 {P:Prop} (h:P:=by
 rcases idx j with rfl | ⟨j,rfl⟩ | ⟨j,rfl⟩
 ·rw [if_neg (by omega)]; rfl
 ·rw [Eh,Eh,g1]
  by_cases hj:j=k
  ·subst hj; simp
  ·rw [if_neg hj,if_neg (by omega)]
 ·rw [Dv,Dv,if_neg (by omega)]):P:=h
theorem Aza {P:Prop} (h:P:=by
 rcases idx j with rfl | ⟨j,rfl⟩ | ⟨j,rfl⟩
 ·rw [if_neg (by omega)]; rfl
 ·rw [Eh,Eh,if_neg (by omega)]
 ·rw [Dv,Dv,g1]
  by_cases hj:j=k
  ·subst hj; simp
  ·rw [if_neg hj,if_neg (by omega)]):P:=h
theorem Aux {P:Prop} (h:P:=by
 rw [h1] at h3
 rcases h3 with rfl | rfl <;> (have:=hs (by decide); simp [DM] at this; rcases h2 with h2 | h2 <;> omega)):P:=h
theorem Azb {P:Prop} (h:P:=by
 simp (maxSteps:=10000000) +contextual -implicitDefEqProofs only [AY,AW,St.put,Ap,Am,DO,pl,↓reduceIte,reduceCtorEq,Nat.reduceAdd,Dc,Int.reduceAdd,CK,AZ,BU,Ab,OV,w2,h0,KB]
 all_goals done):P:=h
theorem Agf {P:Prop} (h:P:=by
 subst h0
 rw [lx42]
 exact .vw0 (fun h=>by cases h) k3):P:=h
theorem Azc {P:Prop} (h:P:=by
 refine ⟨fun i=>?_,by simp [tpL]; omega⟩
 simp only [tpL]
 rw [lx80,lx19]
 split
 ·rw [←lx80]; exact hu i
 ·exact Le (by decide) (Ar 256)):P:=h
theorem Azd {P:Prop} (h:P:=by
 obtain ⟨F,kF,E⟩:=Dg hs
 simp only [CI,Int.reduceEq,↓reduceIte]
 generalize Ec _ m a _=r1 at E ⊢
 obtain ⟨⟨zv',vars',zl',left',act',zm',lamps',fau'⟩,ef',po'⟩:=r1
 exact ⟨p,m',c',pW2⟩):P:=h
theorem Aze {P:Prop} (h:P:=by
 rw [h1] at x1
 simp (maxSteps:=10000000) +contextual -implicitDefEqProofs only [AY,AW,St.put,Ap,Am,DO,pl,↓reduceIte,Nat.reduceAdd,Dc,Int.reduceAdd,CK,AB,Ab,x1,Bo,h1]
 all_goals done):P:=h
theorem Azf {P:Prop} (h:P:=by
 simp (maxSteps:=10000000) only [Bn,Dj,Nat.reduceAdd,Nat.reduceEqDiff,↓reduceIte,B6]
 repeat' (first | exact trivial | refine And.intro (.jk _) ?_ | refine And.intro h ?_ | refine And.intro (.nr rfl) ?_)):P:=h
theorem Azg {P:Prop} (h:P:=by
 cases h
 obtain ⟨a,rfl,ha⟩:=M1 hx
 obtain ⟨b,rfl,hb⟩:=M1 hy
 cases a <;> simp only [okK,Dy] at ha
 cases b <;> simp only [okK,Dy] at hb
 simp [An,J4,eqK]):P:=h
theorem Azh {P:Prop} (h:P:=by
 intro b s hs
 have hb:b < w.heap.size:=by
  unfold World.shape? at hs
  split at hs
  ·rename_i c e fr hh; exact (lx50.1 hh).1
  ·cases hs
 unfold World.shape? at *
 rw [hold b hb]; exact hs):P:=h
theorem Azi {P:Prop} (h:P:=by
 have g2:(decide (x.mo < y.mo) || ((y.mo == x.mo) && decide (x.la≤y.la)))=true:=by
  rw [IW,AN,AX,AN,lx85]; omega
 simp [Gd,g,g2]):P:=h
theorem Auy {P:Prop} (h:P:=by
 simp only [hz,↓reduceIte]; exact key _ _ _ _ (by rw [e]; exact hnx _ _ (by simp [BZ])) (hpop _) h3 h4):P:=h
theorem Azj {P:Prop} (h:P:=by
 refine .ag (hl.symm.trans hl') (fun i d u hd hu=>?_) h2
 have hi:i < _:=(lx22.1 hd).1
 have hci:=lx51 (hl ▸ hi)
 exact ih i _ d hci hd (h1 i _ u hci hu)):P:=h
theorem Amr {P:Prop} (h:P:=by
 simp only [lx5,lx53,lx63]; omega):P:=h
theorem Azk {P:Prop} (h:P:=by
 have:=grownCap_ge w ys.length 0 el
 simp only [Array.size_append,lx56,lx63,size_zeroCells,c3,n3,B6,←Hs]
 exact PK _ (by omega)):P:=h
theorem Azl {P:Prop} (h:P:=by
 have:q=0∨q=1∨q=2∨q=3∨q=4∨q=5∨q=6∨q=7∨q=8∨q=9:=by omega
 rcases this with rfl | rfl | rfl | rfl | rfl | rfl | rfl | rfl | rfl | rfl <;> rfl):P:=h
theorem Azm {P:Prop} (h:P:=by
 subst h12
 have hu:CL 12 a b=AT (c * d):=by simp only [CL,hc,hd,Int.reduceEq,lx6,lx7,↓reduceIte]
 have x3:=RP (c * d)
 exact RF (a5 x1 x2 hu x3 w1)
 all_goals done):P:=h
theorem Azn {P:Prop} (h:P:=by
 subst h15
 have hu:CL 15 a b=AT (c+d):=by simp only [CL,hc,hd,Int.reduceEq,lx6,lx7,↓reduceIte]
 have x3:=RP (c+d)
 exact RF (a5 x1 x2 hu x3 w2)
 all_goals done):P:=h
theorem Azo {P:Prop} (h:P:=by
 subst h16
 have hu:CL 16 a b=AT (c - d):=by simp only [CL,hc,hd,Int.reduceEq,lx6,lx7,↓reduceIte]
 have x3:=RP (c - d)
 exact RF (a5 x1 x2 hu x3 w3)
 all_goals done):P:=h
theorem Azp {P:Prop} (h:P:=by
 all_goals try exact ⟨.refl _,La _ _ _ _⟩
 all_goals first | (rw [Ck]; exact ⟨.inr (.inl rfl),La _ _ _ _⟩) | exact La _ _ _ _ | exact .refl _ | exact F0 _ _ | skip
 all_goals done):P:=h
theorem Aqa {P:Prop} (h:P:=by
 refine n4'.weaken ?_
 intro k v _ hk
 have hlt:=(lx22.1 hk).1
 simp only [Array.toList_append,lx64]
 rw [lx61 (by simpa using hlt)]
 exact hk):P:=h
theorem Aqb {P:Prop} (h:P:=by
 rw [c1,IK] at hb2
 simp (maxSteps:=10000000) only [Bn,Dj,Nat.reduceAdd,Nat.reduceEqDiff,↓reduceIte,B6]
 exact IU (a7 h1 hi hv c1 hb2 e @Nh)
 all_goals done):P:=h
theorem ZF {P:Prop} (h:P:=by
 subst hz
 rw [if_pos rfl] at hu
 exact RF (a3 x1 x2 hu)
 all_goals done):P:=h
theorem Azq {P:Prop} (h:P:=by
 have e:=KT (p:=p) hr' hv hn
 rw [hx] at hv
 simp (maxSteps:=10000000) only [Bn,Dj,Nat.reduceAdd,Nat.reduceEqDiff,↓reduceIte,B6]
 exact IU (a6 h1 h2 hx e1 hv e)):P:=h
theorem Azr {P:Prop} (h:P:=by
 have e:=KT (p:=p) hr' hv hn
 rw [hx] at hv
 simp (maxSteps:=10000000) only [Bn,Dj,Nat.reduceAdd,Nat.reduceEqDiff,↓reduceIte,B6]
 exact RF (a6 h1 h2 hx e1 hv e)):P:=h
theorem RV {P:Prop} (h:P:=by
 exact ⟨s,e,E,cnt+1,sT,finK hs hE⟩):P:=h
theorem RW {P:Prop} (h:P:=by
 exact ⟨s,e,E,cnt+1,rT,finK hs hE⟩):P:=h
theorem Aqc {P:Prop} (h:P:=by
 obtain ⟨P,ver,c1,E1⟩:=G 2 2 rfl (by omega)
 have hl1:=L 2
 have E2:=F (AJ t 2 b).2 3 3 rfl (by omega) (by omega) (M 2)
 generalize AJ t 2 b=V at hl1 E1 E2 ⊢
 exact sA):P:=h
theorem Aqd {P:Prop} (h:P:=by
 obtain ⟨P,ver,c1,E1⟩:=G 1 1 rfl (by omega)
 have hl1:=L 1
 have E2:=F (AJ t 1 b).2 2 2 rfl (by omega) (by omega) (M 1)
 generalize AJ t 1 b=V at hl1 E1 E2 ⊢
 exact sA):P:=h
theorem Aqe {P:Prop} (h:P:=by
 refine Aa ?_
 refine Hr (a4 w1 h1 h2 hx) ?_
 repeat' (first | exact Ad (by kernel_rfl) | refine ⟨Ad (by kernel_rfl),?_⟩ | refine And.intro ?_ ?_ | fail)
 all_goals done):P:=h
theorem Aqf {P:Prop} (h:P:=by
 intro d hd
 obtain ⟨j,hj,rfl⟩:=lx69 hd
 have:=hok j hj
 rw [lx80,lx51 hj,lx10] at this
 rw [this]; simp):P:=h
theorem Aqg {P:Prop} (h:P:=by
 simp (maxSteps:=10000000) only [Bn,Dj,Nat.reduceAdd,Nat.reduceEqDiff,↓reduceIte,B6]
 simp only [Xt,Ac8,Xu,Ac9,and_self,Ay]):P:=h
theorem Aqh {P:Prop} (h:P:=by
 unfold Ei
 rw [lx80]
 by_cases h:i.toNat < c.ins.length
 ·rw [List.getElem?_replicate,if_pos h]; rfl
 ·rw [List.getElem?_replicate,if_neg h]; rfl):P:=h
theorem Aqi {P:Prop} (h:P:=by
 rcases Ej i K with g | g
 ·exact g
 ·obtain rfl:i=K:=by omega
  rcases hN2 with ⟨g1,g2⟩ | ⟨g0,g1,g2⟩
  ·omega
  ·rw [g1] at hf; cases hf):P:=h
theorem Agg {P:Prop} (h:P:=by
 have:j=i:=by omega
 subst this
 rw [ho] at hoj; cases hoj
 rw [hp] at hpj; cases hpj):P:=h
theorem Aqj {P:Prop} (h:P:=by
 rcases Ej i K with g | g
 ·rw [hK1 i hlt' g] at hf; cases hf
 ·obtain rfl:i=K:=by omega
  rcases hN2 with ⟨g1,g2⟩ | ⟨g0,g1,g2⟩ <;> omega):P:=h
theorem Aqk {P:Prop} (h:P:=by
 have hk0:k - H'.length=0:=by
  have:=(lx22.1 hk).1
  simp at this; omega
 rw [hk0] at hk
 simp at hk
 exact .inr ⟨by omega,hk.symm⟩):P:=h
theorem Aql {P:Prop} (h:P:=by
 refine Aa ?_
 cases b <;> simp (maxSteps:=10000000) +contextual -implicitDefEqProofs only [AY,AW,St.put,↓reduceIte,AB,AZ,Hn]
 all_goals done):P:=h
theorem Aqm {P:Prop} (h:P:=by
 all_goals simp (maxSteps:=10000000) +contextual -implicitDefEqProofs only [AY,AW,St.put,↓reduceIte,Int.reduceEq,Nat.reduceBEq,AB,Int.reduceBEq,Br]
 all_goals done):P:=h
theorem Aqn {P:Prop} (h:P:=by
 have hi:i < ds.length:=(lx22.1 hb).1
 have hci:=lx51 (l:=cs) (hl ▸ hi)
 exact ih i _ b hci hb (h1 i _ u hci hu)):P:=h
theorem Aqo {P:Prop} (h:P:=by
 simp (maxSteps:=10000000) only [Bn,Dj,Nat.reduceAdd,Nat.reduceEqDiff,↓reduceIte,B6]
 exact IU (a6 h1 hi hv c1 e @Nh)
 all_goals done):P:=h
theorem Aqp {P:Prop} (h:P:=by
 refine .sl ⟨_,_,rfl⟩ fun hc1 h1=>?_
 cases h1
 refine ⟨hv',fun B h1 _ _=>?_⟩
 rw [hid] at h1
 cases h1
 exact ⟨by simp,.inl ⟨rfl,_,rfl⟩⟩):P:=h
theorem MB {P:Prop} (h:P:=by
 repeat' (first | exact Ad (by kernel_rfl) | refine ⟨Ad (by kernel_rfl),?_⟩ | refine And.intro ?_ ?_ | fail)
 refine Ao ?_ ?_ (Ar _) (ih _)
 all_goals exact qc5):P:=h
theorem Azs {P:Prop} (h:P:=by
 obtain ⟨c',E4⟩:=Bjb t ht 2 ins'.length a' 2 rfl (by omega) (by omega) g2 [⟨true,0,36,7,[.ag [.vw true [],.vw true [],.vw true [],.vw true [],.vw true [],.sc (.int .i64 0),.sc (.int .i64 0)]],false⟩,
  ⟨true,2,9,1,[stA goB,stA LI],true⟩,⟨true,3,3,1,[.sc (.int .i64 p0),.sc (.int .i64 p1)],true⟩,⟨true,4,3,1,[.sc (.int .i64 0),.sc (.int .i64 5),.sc (.int .i64 (-3))],true⟩,
  ⟨true,5,36,7,[.ag [.sl 7 v7' 0 ins'.length,.sl 2 2 0 2,.sl 8 v8' 0 (ens.length+1),.sl 3 3 0 2,.sl 4 4 0 3,.sc (.int .i64 2),.sc (.int .i64 2)]],false⟩,⟨true,6,99,4,Pf.map D8,true⟩,
  ⟨true,v7',102,2,ins'.map B9,false⟩,⟨true,v8',99,4,(ens++[(⟨k1,k2,k3,(ins.length:Int)⟩:En)]).map D8,false⟩] cnt'
 have hsl:=Jj t 2 ins'.length a'
 have hsa:=PD ht 2 ins'.length g2
 rw [mkN] at g1
 simp only at g1
 obtain ⟨X,hX⟩:∃ X,(CU t 2 ins'.length a').1=X:=⟨_,rfl⟩
 obtain ⟨u,hu⟩:∃ u,(CU t 2 ins'.length a').2=u:=⟨_,rfl⟩
 rw [hX] at hsl
 rw [hu] at hsa
 simp only [hX,hu] at E4 g1
 exact Bh8):P:=h
theorem Aqq {P:Prop} (h:P:=by
 have h1:decide ((r:Int) < (c.ens.length:Int))=true:=by rw [AN]; omega
 have h2:decide (r < c.ens.length)=true:=by rw [AN]; omega
 have w1:IntKind.i64.wrap ((r:Int)+1)=((r+1:Nat):Int):=by rw [Bd (by omega) (by omega)]; omega
 have ih:=fun v c'=>ih (r+1) c' ⟨by omega,v⟩ (by omega)
 have hfa:=fun h=>Aoo (p:=Af7 mo tr ix) hr' h hn
 have htn:=fun h=>Bl (p:=fun j=>Af7 mo tr ix (c.ens.getD j default)=false) hn h
 obtain ⟨x,hx⟩:∃ x,c.ens.getD r default=x:=⟨_,rfl⟩
 rw [hx] at hfa htn
 obtain ⟨b1,hb1⟩:∃ b,(x.mo == mo)=b:=⟨_,rfl⟩
 obtain ⟨b2,hb2⟩:∃ b,(x.tr == tr)=b:=⟨_,rfl⟩
 obtain ⟨b3,hb3⟩:∃ b,(x.ix == ix)=b:=⟨_,rfl⟩
 rw [Af7,hb1,hb2,hb3] at hfa htn
 exact Bhb):P:=h
theorem RX {P:Prop} (h:P:=by
 refine Ao ?_ ?_ (Ar _) (ih (r+1) cnt ⟨by omega,e⟩ (by omega))
 ·exact Gn
 ·trivial):P:=h
theorem Azt {P:Prop} (h:P:=by
 by_cases h23:k=23
 ·subst h23
  have hu:CL 23 a b=Hn ((c != 0) && (d != 0)):=by simp only [CL,hc,hd,Int.reduceEq,lx6,lx7,↓reduceIte]
  exact Ay9
 by_cases h24:k=24
 ·subst h24
  have hu:CL 24 a b=Hn ((c != 0) || (d != 0)):=by simp only [CL,hc,hd,Int.reduceEq,lx6,lx7,↓reduceIte]
  exact Ay9
 have b12:(k == 12)=false:=by rw [lx113]; exact h12
 have b13:(k == 13)=false:=by rw [lx113]; exact h13
 exact Bh9):P:=h
theorem Aqr {P:Prop} (h:P:=by
 have key:∀ n,n≤64→(∀ j,j < n→j < (Q j).2.length)∨∃ K,K≤64∧(∀ j,j < K→j < (Q j).2.length)∧(Q K).2.length=K:=by
  intro n
  induction n with
  | zero=>intro _; exact .inl fun j hj=>absurd hj (by omega)
  | succ n ih=>
   exact Bhd
 rcases key 64 (Ar _) with g | ⟨K,g1,g2,g3⟩
 ·exact ⟨64,Ar _,g,.inl rfl⟩
 ·exact ⟨K,g1,g2,.inr g3⟩):P:=h
theorem JU {P:Prop} (h:P:=by
 rw [e]; exact hnx _ _ (by simp [BZ,Br])):P:=h
theorem ZG {P:Prop} (h:P:=by
 all_goals simp (maxSteps:=10000000) only [AY,AW,↓reduceIte,reduceCtorEq,Nat.reduceAdd,Nat.reduceEqDiff,Bn,Dj]
 all_goals done):P:=h
theorem Aqs {P:Prop} (h:P:=by
 have c4:decide ((0:Int) < (k:Int))=false:=by rw [BT]; omega
 rw [c4,LK] at hY
 rw [hY] at hb
 have ih:=ih hb
 simp (maxSteps:=10000000) only [Bn,Dj,Nat.reduceAdd,Nat.reduceEqDiff,↓reduceIte,B6]
 refine O2 (IV g1 g2 ho c1 c2 x4 x3 c3 c4 w1 @Bg @Az @B4) ?_
 exact Auj):P:=h
theorem Aqt {P:Prop} (h:P:=by
 subst t2
 obtain ⟨a1,w1,⟨X1,loc1,q1,q2⟩,q3⟩:=G4 (Q:=fun a' w'=>∃ X' loc',SR w' X' loc' s1 a'∧Evo w X ((tr 0).hc loc) w' X' (s1.hc loc'))
  (O6 hE hm (id:=id) hD t1 hs (fun a' w' X' loc' k1 k2=>⟨rfl,X',loc',by rw [←t3]; exact k1,by rw [←t3]; exact k2⟩)) b k cs
 exact Aun):P:=h
theorem Aqu {P:Prop} (h:P:=by
 simp only [My,J9,LK,GX,HS,GY,Jo,IK,Ka,Kb,Dy,lx6,lx7,↓reduceIte] at ih2 hb'
 refine Hr (IL h1 h2 w1 hy ha hb hb' hg hn ht hz) ?_
 all_goals exact Amn):P:=h
theorem Aqv {P:Prop} (h:P:=by
 repeat' (first | exact Ad (by kernel_rfl) | refine ⟨Ad (by kernel_rfl),?_⟩ | refine And.intro ?_ ?_ | fail)
 refine Ao ?_ ?_ (Ar _) (ih (cnt+1+1) _)
 all_goals exact qc5):P:=h
theorem Aqw {P:Prop} (h:P:=by
 all_goals try repeat' (first | exact Ad (by kernel_rfl) | refine ⟨Ad (by kernel_rfl),?_⟩ | refine And.intro ?_ ?_ | fail)
 refine Ao ?_ ?_ (Ar _) (ih2 w _)
 all_goals exact Auq):P:=h
theorem Azu {P:Prop} (h:P:=by
 subst h18
 have hu:CL 18 a b=Hn (decide (c≤d)):=by simp only [CL,hc,hd,Int.reduceEq,lx6,lx7,↓reduceIte]
 have x3:=UI (decide (c≤d))
 exact Ady):P:=h
theorem Azv {P:Prop} (h:P:=by
 subst h20
 have hu:CL 20 a b=Hn (decide (d≤c)):=by simp only [CL,hc,hd,Int.reduceEq,lx6,lx7,↓reduceIte]
 have x3:=UI (decide (d≤c))
 exact Ady):P:=h
theorem Azw {P:Prop} (h:P:=by
 subst h17
 have hu:CL 17 a b=Hn (decide (c < d)):=by simp only [CL,hc,hd,Int.reduceEq,lx6,lx7,↓reduceIte]
 have x3:=UI (decide (c < d))
 exact Ady):P:=h
theorem Azx {P:Prop} (h:P:=by
 subst h19
 have hu:CL 19 a b=Hn (decide (d < c)):=by simp only [CL,hc,hd,Int.reduceEq,lx6,lx7,↓reduceIte]
 have x3:=UI (decide (d < c))
 exact Ady):P:=h
theorem Azy {P:Prop} (h:P:=by
 subst h21
 have hu:CL 21 a b=Hn (c == d):=by simp only [CL,hc,hd,Int.reduceEq,lx6,lx7,↓reduceIte]
 have x3:=UI (c == d)
 exact Ady):P:=h
theorem Azz {P:Prop} (h:P:=by
 subst h22
 have hu:CL 22 a b=Hn (c != d):=by simp only [CL,hc,hd,Int.reduceEq,lx6,lx7,↓reduceIte]
 have x3:=UI (c != d)
 exact Ady):P:=h
theorem Aqx {P:Prop} (h:P:=by
 have hE:RES.ens=ens++[⟨k1,k2,k3,(ins.length:Int)⟩]:=by
  rw [←hRES]; exact (Zh ht _ (B8 ht ha1l)).2.1
 rw [←g1] at hG hE
 exact Bha):P:=h
theorem Aqy {P:Prop} (h:P:=by
 refine Aa ?_
 by_cases h1:k=10
 ·subst h1
  have hu:Rp 10 a=-c:=by rw [Rp,if_pos rfl,hc']
  exact RF (a3 x1 w1 hu)
  all_goals done
 exact Bhc):P:=h
theorem Aqz {P:Prop} (h:P:=by
 cases x <;> first | (simp [U3] at h; done) | skip
 simp only [U3,AX,lx85] at h
 obtain ⟨⟨⟨rfl,rfl⟩,rfl⟩,rfl⟩:=h
 rfl):P:=h
theorem Ba0 {P:Prop} (h:P:=by
 subst hR
 simp only [lx59,lx121,Fj] at hb
 rcases hb with rfl | rfl | rfl <;> simp [KF,Gb,BP,Mp,kA,AV.noref,norefs]):P:=h
theorem Ar0 {P:Prop} (h:P:=by
 exact ⟨h.val,h.fit,h.cx,h.vl,h.va,by simp only [lx2]; exact h.ll,Aph h.lf _ (Lc (by decide)),h.ac,h.fa,h.lo,h.so⟩):P:=h
theorem Agh {P:Prop} (h:P:=by
 intro e he
 obtain ⟨i,hi⟩:=lx44.1 he
 exact (h5 i e hi).1):P:=h
theorem Agi {P:Prop} (h:P:=by
 simp only at g3' ⊢
 rw [g3'] at hlen
 exact List.length_eq_zero_iff.1 hlen.symm):P:=h
theorem Ar1 {P:Prop} (h:P:=by
 split at h
 ·simp only [lx24] at h
  obtain ⟨v,hv,rfl⟩:=h
  exact An2 hE hs hv K Q hK
 ·exact An1 hE hs h K Q hK):P:=h
theorem Ar2 {P:Prop} (h:P:=by
 cases x <;> first | (simp [U3] at h; done) | skip
 simp only [U3,AX,lx85] at h
 obtain ⟨rfl,h2⟩:=h
 rw [KX _ _ h2]):P:=h
theorem Ar3 {P:Prop} (h:P:=by
 have hx:=h x (by simp [Op.operands])
 have hy:=h y (by simp [Op.operands])
 simp only [AH,←hx,←hy] at hs ⊢
 clear hx hy h
 exact Aus):P:=h
theorem Ar4 {P:Prop} (h:P:=by
 simp (maxSteps:=10000000) +contextual -implicitDefEqProofs only [AY,AW,St.put,↓reduceIte,Int.reduceLE,AB,Br,h,g]
 all_goals done):P:=h
theorem Ar5 {P:Prop} (h:P:=by
 rcases hK2 with ⟨g1,g2⟩ | ⟨g0,g1,g2⟩
 ·exact ⟨K,hK,g2,.inl ⟨g1,rfl⟩⟩
 ·exact ⟨K+1,g0,g2,.inr ⟨g0,g1,rfl⟩⟩):P:=h
theorem RY {P:Prop} (h:P:=by
 cases o.dst <;> exact ⟨rfl,rfl⟩):P:=h
theorem Ar6 {P:Prop} (h:P:=by
 simp (maxSteps:=10000000) only [Bn,Dj,Nat.reduceAdd,Nat.reduceEqDiff,↓reduceIte,B6]
 exact IU (a2 e @Ab)
 all_goals done):P:=h
theorem Agj {P:Prop} (h:P:=by
 have:=k4
 unfold World.shape? at this
 rw [m2] at this
 simpa using this.symm):P:=h
theorem Ar7 {P:Prop} (h:P:=by
 unfold Oper.wp
 rw [h1]
 rcases h2 with h2 | ⟨h2,h5⟩
 ·rw [h2]; exact hK _ _ X' loc' h3 h4
 ·rw [h2]; subst h5; exact hK _ _ X' loc' h3 h4):P:=h
theorem Ar8 {P:Prop} (h:P:=by
 rw [lx115 hlt,lx80,lx51 hlt,lx12,lx4]; rfl):P:=h
theorem Ar9 {P:Prop} (h:P:=by
 obtain ⟨A1,k1,k2,_⟩:=key j B1 e1 e3
 obtain ⟨A2,l1,l2,_⟩:=key j' B2 e2 e4
 exact h1.inj _ _ A1 A2 b' o o' k1 l1 k2 l2 e5 e6):P:=h
theorem Ara {P:Prop} (h:P:=by
 rw [lx80,lx80,lx51 h1,lx51 h2] at this
 exact this):P:=h
theorem Arb {P:Prop} (h:P:=by
 simp (maxSteps:=10000000) only [AY,AW,↓reduceIte,reduceCtorEq,Nat.reduceAdd,Nat.reduceEqDiff,Bn,Dj,Lh]
 all_goals done):P:=h
theorem Arc {P:Prop} (h:P:=by
 simp (maxSteps:=10000000) only [AY,AW,↓reduceIte,reduceCtorEq,Nat.reduceAdd,Nat.reduceEqDiff,Bn,Dj,givT]
 all_goals done):P:=h
theorem Ard {P:Prop} (h:P:=by
 simp (maxSteps:=10000000) only [AY,AW,↓reduceIte,reduceCtorEq,Nat.reduceAdd,Nat.reduceEqDiff,Bn,Dj,Am0]
 all_goals done):P:=h
theorem Are {P:Prop} (h:P:=by
 have hi:=(lx22.1 hd).1
 have hci:=lx51 (hl ▸ hi)
 exact ih i _ d hci hd (g2 i _ u hci hu)):P:=h
theorem Arf {P:Prop} (h:P:=by
 unfold Builtin.len_
 simp only [lx39,lx45,Ak,AG,f2,lx17,An]):P:=h
theorem Agk {P:Prop} (h:P:=by
 intro args r hr
 obtain ⟨x,hq,rfl,rfl⟩:=Ana hr
 exact h x hq):P:=h
theorem Agl {P:Prop} (h:P:=by
 obtain ⟨B1,o1,k1,_⟩:=g3.fresh id B b o e1 e2 e3 hb0
 simp at k1):P:=h
theorem Arh {P:Prop} (h:P:=by
 simp (maxSteps:=10000000) only [Bn,Dj,Nat.reduceAdd,Nat.reduceEqDiff,↓reduceIte,B6]
 refine J7 hb ?_
 exact RU):P:=h
theorem Vb {P:Prop} (h:P:=by
 rintro ⟨id,B,o,h1,_⟩
 simp at h1):P:=h
theorem Ari {P:Prop} (h:P:=by
 cases h
 rw [hev] at hx
 generalize hq:a.eval x=c at hx
 refine ⟨c,?_,hx⟩
 cases hx
 unfold execOp
 simp only [ho,hq]; rfl):P:=h
theorem Arj {P:Prop} (h:P:=by
 refine .pt rfl ?_
 intro hc1 he
 cases he
 refine ⟨by simp,fun B e1 e2 e3=>?_⟩
 exact ⟨w.heap.size,0,by simp,by simp⟩):P:=h
theorem Ark {P:Prop} (h:P:=by
 simp only [lx24] at hs
 obtain ⟨v,hv,rfl⟩:=hs
 exact ⟨v,by rw [Cc],by rw [hv]; simp [Cc]⟩):P:=h
theorem Arl {P:Prop} (h:P:=by
 simp only [My,Dy,lx7,Ak,HV,lx17,hg,J9,lx6]
 rfl):P:=h
theorem Arm {P:Prop} (h:P:=by
 simp only [Bg,CM] at E22
 simp only [CI,Ec,hz,Int.reduceEq,↓reduceIte]
 exact ⟨e,p,cnt+1+1+1,rW⟩):P:=h
theorem Arn {P:Prop} (h:P:=by
 obtain ⟨b,hb,h⟩:=Dw h
 obtain ⟨a',rfl,rfl⟩:=Rd ha
 obtain ⟨b',rfl,rfl⟩:=Rd hb
 rw [←h]; rfl):P:=h
theorem Aro {P:Prop} (h:P:=by
 simp only [IntKind.wrap,IntKind.bits,IntKind.signed]; simp; omega):P:=h
theorem Agm {P:Prop} (h:P:=by
 refine Ao ?_ ?_ (Ar _) (ih2 v _)
 all_goals exact Auo):P:=h
theorem Arp {P:Prop} (h:P:=by
 rw [hz] at E58
 simp only [CI,Ec,hz,Int.reduceEq,↓reduceIte,Dy]
 exact ⟨e,p,cnt+1+1,rW⟩):P:=h
theorem Arq {P:Prop} (h:P:=by
 rintro b ⟨id,B,o,e1,e2,e3⟩ hb0
 obtain ⟨B1,o1,k1,_⟩:=g3.fresh id B b o e1 e2 e3 (hx b hb0)
 simp at k1):P:=h
theorem Arr {P:Prop} (h:P:=by
 cases e1; exact ⟨_,rfl,rfl,Ar _,(show 10 < 11 by decide),rfl,rfl,rfl,HF (els:=[]) rfl rfl⟩):P:=h
theorem Agn {P:Prop} (h:P:=by
 have:(m+1≤j)↔(m≤j):=by omega
 simp only [this]):P:=h
theorem Ars {P:Prop} (h:P:=by
 rw [hz] at E58
 simp only [CI,hz,Int.reduceEq,↓reduceIte,Dy]
 exact ⟨e,p,cnt+1+1,rW⟩):P:=h
theorem Ago {P:Prop} (h:P:=by
 refine Ao ?_ (Aw _) (Ar _) ih3
 exact Ayk):P:=h
theorem Art {P:Prop} (h:P:=by
 have hx:=hm x (by simp)
 have hy:=hm y (by simp)
 simp only [←hx,←hy] at hs ⊢
 clear hx hy hm h
 exact Az5):P:=h
theorem Aru {P:Prop} (h:P:=by
 rw [lx80,lx51 hla] at hA
 rw [lx51 hla]
 simpa using hA):P:=h
theorem Arv {P:Prop} (h:P:=by
 cases e1; exact ⟨_,rfl,rfl,Ar _,(show 8 < 9 by decide),rfl,rfl,rfl,HF (els:=[]) rfl rfl⟩):P:=h
theorem Arw {P:Prop} (h:P:=by
 simp only [CI,hz,Int.reduceEq,↓reduceIte,Dy]
 exact ⟨e,cnt+1+1,cnt+1+1+1,rW⟩):P:=h
theorem Arx {P:Prop} (h:P:=by
 simp only [DQ,OZ,DB] at E68
 simp only [CI,Int.reduceEq,↓reduceIte]
 exact ⟨e,p,cnt+1+1,rW2⟩):P:=h
theorem Ary {P:Prop} (h:P:=by
 obtain rfl:=ET g1
 obtain rfl:=ET g2
 obtain rfl:=HB.1 g3
 obtain rfl:=JN.1 g4
 simp):P:=h
theorem ZH {P:Prop} (h:P:=by
 simp (maxSteps:=10000000) only [AY,AW]):P:=h
theorem Arz {P:Prop} (h:P:=by
 unfold Value.okWide at hok
 rw [hu] at hok
 obtain ⟨cs,rfl,_⟩:=hok
 simp only [U5,hu]
 exact Avv h2 o):P:=h
theorem As0 {P:Prop} (h:P:=by
 simp only [Cv,lx24] at h
 obtain ⟨l,hl',rfl⟩:=h
 rw [PQ cs hl' ⟨hl,h1⟩]):P:=h
theorem As1 {P:Prop} (h:P:=by
 have:=hn j hj
 rw [lx80,lx51 (by omega)] at this
 simpa using this):P:=h
theorem As2 {P:Prop} (h:P:=by
 simp only [My,Dy,lx7,An,lx17,GX]
 exact hrec):P:=h
theorem As3 {P:Prop} (h:P:=by
 simp only [AN] at h3
 rw [Bs,E8 (by omega:¬ s.fau≤2147483647)]; simp):P:=h
theorem As4 {P:Prop} (h:P:=by
 simp only [Av,opS,Int.reduceEq,lx6,lx7,↓reduceIte] at hf
 split at hf <;> exact .inl hf):P:=h
theorem Ba1 {P:Prop} (h:P:=by
 have h2:decide (r < l.length)=true:=by rw [AN]; omega
 have w1:IntKind.i64.wrap ((r:Int)+1)=((r+1:Nat):Int):=by rw [Bd (by omega) (by omega)]; omega
 have hm:=B7 hr'
 obtain ⟨x,hx⟩:∃ x,l.getD r default=x:=⟨_,rfl⟩
 have e1:=he x (by rw [←hx]; exact hm)
 simp only [AB,AZ] at e1
 by_cases hv:p (l.getD r default)=true
 ·exact Azq
 ·rw [Hq] at hv
  have e:=Bl hn hv
  rw [hx] at hv
  simp (maxSteps:=10000000) only [Bn,Dj,Nat.reduceAdd,Nat.reduceEqDiff,↓reduceIte,B6]
  refine Jk (a6 h1 h2 hx e1 hv w1) ?_
  exact RX):P:=h
theorem JV {P:Prop} (h:P:=by
 refine Ao ?_ ?_ (Ar _) (ih _)
 all_goals exact qc5):P:=h
theorem As5 {P:Prop} (h:P:=by
 by_cases hv:p (l.getD r default)=true
 ·exact Azr
 ·rw [Hq] at hv
  have e:=Bl hn hv
  rw [hx] at hv
  simp (maxSteps:=10000000) only [Bn,Dj,Nat.reduceAdd,Nat.reduceEqDiff,↓reduceIte,B6]
  refine Hr (a6 h1 h2 hx e1 hv w1) ?_
  exact RX):P:=h
theorem As6 {P:Prop} (h:P:=by
 obtain ⟨r,rfl⟩:∃ q,r=q+1:=⟨r - 1,by omega⟩
 have c1:decide ((0:Int) < ((r+1:Nat):Int))=true:=by rw [AN]; omega
 have w2:IntKind.i64.wrap (((r+1:Nat):Int) - 1)=(r:Int):=by rw [Bd (by omega) (by omega)]; omega
 exact Azs):P:=h
theorem As7 {P:Prop} (h:P:=by
 rw [h7] at x4
 have ih:=fun c=>ih (k+1) c ⟨by omega,Bl hn h7⟩ (by omega)
 simp (maxSteps:=10000000) only [Bn,Dj,Nat.reduceAdd,Nat.reduceEqDiff,↓reduceIte,B6]
 refine Jk (G0 h3 h4 h5 h6 w1 w2 ha hb x4 @BU @Ab @Cu) ?_
 exact MB):P:=h
theorem As8 {P:Prop} (h:P:=by
 have e:=Bl hn hb2
 simp only [Rj,hv,J8] at hb2
 simp (maxSteps:=10000000) only [Bn,Dj,Nat.reduceAdd,Nat.reduceEqDiff,↓reduceIte,B6]
 refine Jk (a7 h1 hi hv hb2.1 hb2.2 w1 @Nh) ?_
 exact RX):P:=h
theorem As9 {P:Prop} (h:P:=by
 by_cases h17:k=17
 ·exact Azw
 by_cases h18:k=18
 ·exact Azu
 by_cases h19:k=19
 ·exact Azx
 by_cases h20:k=20
 ·exact Azv
 by_cases h21:k=21
 ·exact Azy
 by_cases h22:k=22
 ·exact Azz
 exact Azt):P:=h
theorem Asa {P:Prop} (h:P:=by
 simp (maxSteps:=10000000) only [Bn,Dj,Nat.reduceAdd,Nat.reduceEqDiff,↓reduceIte,B6]
 refine Jk (a7 h1 h2 hx hb' w1 @Ab @OV) ?_
 exact MB):P:=h
theorem Asb {P:Prop} (h:P:=by
 rintro r cnt ⟨hr,hn⟩ ih
 refine Aa ?_
 by_cases hr':r < l.length
 ·have h1:decide ((r:Int) < (l.length:Int))=true:=by rw [AN]; omega
  exact Ba1
 ·exact qc8):P:=h
theorem Ah {P:Prop} (h:P:=by
 omega):P:=h
theorem Ft {P:Prop} (h:P:=by
 simp; omega):P:=h
theorem ZI {P:Prop} (h:P:=by
 rw [←Array.toList_inj]; simpa using hat):P:=h
theorem ZJ {P:Prop} (h:P:=by
 rw [←Array.toList_inj]; simpa using har):P:=h
theorem Bc {P:Prop} (h:P:=by
 simp):P:=h
theorem Vd {P:Prop} (h:P:=by
 rw [←h1]; exact (lx22.1 hx).1):P:=h
theorem Ae {P:Prop} (h:P:=by
 rw [AN]; omega):P:=h
theorem AA {P:Prop} (h:P:=by
 rw [Bd (by omega) (by omega)]; omega):P:=h
theorem ZK {P:Prop} (h:P:=by
 rw [LF,e,Ka]; rfl):P:=h
theorem Gg {P:Prop} (h:P:=by
 rw [BT]; omega):P:=h
theorem RZ {P:Prop} (h:P:=by
 rw [List.map_set]; rfl):P:=h
theorem R0 {P:Prop} (h:P:=by
 rw [lx12]; rfl):P:=h
theorem Om {P:Prop} (h:P:=by
 rw [Bd (by omega) (by omega)]):P:=h
theorem Ve {P:Prop} (h:P:=by
 rw [AN]; exact ho1):P:=h
theorem ZL {P:Prop} (h:P:=by
 rw [lx113]; exact G0):P:=h
theorem ZM {P:Prop} (h:P:=by
 simp only [CL,hc,hd,Int.reduceEq,lx6,lx7,↓reduceIte]):P:=h
theorem R3 {P:Prop} (h:P:=by
 rw [decide_eq_decide]; omega):P:=h
theorem On {P:Prop} (h:P:=by
 rw [AN]; exact j1):P:=h
theorem Oo {P:Prop} (h:P:=by
 rw [AN]; exact j2):P:=h
theorem PL {P:Prop} (h:P:=by
 have:=htk; simp [Br] at this; omega):P:=h
theorem Asc {P:Prop} (h:P:=by
 have:=(lx22.1 g1).1; simp only [lx53,lx63] at this; omega):P:=h
theorem Agp {P:Prop} (h:P:=by
 rw [lx58,lx68]; omega):P:=h
theorem ZN {P:Prop} (h:P:=by
 rw [lx80,lx51 hlt]; exact lx90 hlt):P:=h
theorem Bq {P Q:Prop} (h:Q) (f:Q→P:=by
 intro h
 simp (maxSteps:=10000000) only [Bn,Dj,Nat.reduceAdd,Nat.reduceEqDiff,↓reduceIte,B6]
 exact h):P:=f h
theorem qd2 {P Q:Prop} (h:Q) (f:Q→P:=by
 intro h
 simp only [JB,LY,LZ,L0,L1,L2,L3,L4,L5,L6,L7,JC,H6,L8,JD,H7,JE,Nat.reduceEqDiff,↓reduceIte,lx117,lx11,lx124,lx125,hw1,hw2,Nat.reduceAdd,Nat.reduceEqDiff,lx6,lx7,↓reduceIte,B6]
 exact h):P:=f h
theorem ZO {P Q:Prop} (h:Q) (f:Q→P:=by
 intro h
 simp only [Av,opS,Int.reduceEq,lx6,lx7,↓reduceIte,JO,Oa,Im,Ho,or_self,Fj,false_or,or_true,true_or]
 exact h):P:=f h
theorem qd4 {P Q:Prop} (h:Q) (f:Q→P:=by
 intro h
 refine Aa ?_
 simp (maxSteps:=10000000) +contextual -implicitDefEqProofs only [AY,AW,St.put,Dc,AB]
 exact h):P:=f h
theorem qd5 {P Q:Prop} (h:Q) (f:Q→P:=by
 intro h
 simp only [lx91,lx64,lx53,lx63,Nat.reduceAdd]
 exact h):P:=f h
theorem qd6 {P Q:Prop} (h:Q) (f:Q→P:=by
 intro h
 simp only [Tryz.f43,Af,lx53,lx63,Nat.reduceAdd,Nat.reduceSub,List.replicate]
 simp only [N7,No]
 exact h):P:=f h
theorem qd7 {P Q:Prop} (h:Q) (f:Q→P:=by
 intro h
 simp only [Bn,Dj,hz1,hz2,tv,Abv,Uf,Abk,Abo,Abl,Abm,Abp,Abq,Abr,Abs,Abt,Abn,Xj,Ta,Xk,Tb,Abu,Nat.reduceAdd,Nat.reduceEqDiff,Nat.reduceLT,Nat.reduceLeDiff,↓reduceIte,and_self,CY,false_and,Ay,lx73,lx92,lx42,List.take_nil,lx6,lx7,reduceCtorEq,B6,dead]
 exact h):P:=f h
theorem qd8 {P Q:Prop} (h:Q) (f:Q→P:=by
 intro h
 simp only [Bn,Dj,JB,LY,LZ,L0,L1,L2,L3,L4,L5,L6,L7,JC,H6,L8,JD,H7,JE,Nat.reduceEqDiff,↓reduceIte,lx117,lx11,lx124,lx125,Nat.reduceAdd,Nat.reduceEqDiff,lx6,lx7,↓reduceIte,B6]
 exact h):P:=f h
theorem qd9 {P Q:Prop} (h:Q) (f:Q→P:=by
 intro h
 simp only [JB,LY,LZ,L0,L1,L2,L3,L4,L5,L6,L7,JC,H6,L8,JD,H7,JE,Nat.reduceEqDiff,↓reduceIte,lx117,lx11,lx124,lx125,Nat.reduceAdd,Nat.reduceEqDiff,lx6,lx7,↓reduceIte,B6]
 exact h):P:=f h
theorem Amt {P Q:Prop} (h:Q) (f:Q→P:=by
 intro h
 simp only [Tryz.f83,Af,lx53,lx63,Nat.reduceAdd,Nat.reduceSub,List.replicate]
 exact h):P:=f h
theorem Auz {P Q:Prop} (h:Q) (f:Q→P:=by
 intro h
 simp only [Tryz.f153,Af,lx53,lx63,Nat.reduceAdd,Nat.reduceSub,List.replicate]
 simp only [DQ,OZ]
 refine Aa ?_
 exact h):P:=f h
theorem Av0 {P Q:Prop} (h:Q) (f:Q→P:=by
 intro h
 simp only [Tryz.f208,Af,lx53,lx63,Nat.reduceAdd,Nat.reduceSub,List.replicate]
 simp only [Dx,Ny]
 refine Aa ?_
 exact h):P:=f h
theorem Av1 {P Q:Prop} (h:Q) (f:Q→P:=by
 intro h
 simp only [Tryz.f113,Af,lx53,lx63,Nat.reduceAdd,Nat.reduceSub,List.replicate]
 simp only [Dx,Ny]
 refine Aa ?_
 exact h):P:=f h
theorem Adz {P Q:Prop} (h:Q) (f:Q→P:=by
 intro h
 refine Aa ?_
 simp only [Yo,lx91,lx64]
 exact h):P:=f h
theorem Agq {P Q:Prop} (h:Q) (f:Q→P:=by
 intro h
 refine .cond false rfl ?_
 rw [if_neg (by simp)]
 exact h):P:=f h
theorem Av2 {P Q:Prop} (h:Q) (f:Q→P:=by
 intro h
 simp only [Tryz.f152,Af,lx53,lx63,Nat.reduceAdd,Nat.reduceSub,List.replicate]
 refine Aa ?_
 exact h):P:=f h
theorem Av3 {P Q:Prop} (h:Q) (f:Q→P:=by
 intro h
 simp only [Tryz.f54,Af,lx53,lx63,Nat.reduceAdd,Nat.reduceSub,List.replicate]
 refine Aa ?_
 exact h):P:=f h
theorem Agr {P Q:Prop} (h:Q) (f:Q→P:=by
 intro h
 refine Aa ?_
 simp only [Lh,lx91,lx64]
 exact h):P:=f h
theorem Ba4 {P Q:Prop} (h:Q) (f:Q→P:=by
 intro h
 refine Ac (Aq ((.cons ok .nil)) (.nil)) rfl Tryz.func159 rfl (by decide) (by kernel_rfl) (by kernel_rfl) ?_
 simp only [Tryz.f159,Af,lx53,lx63,Nat.reduceAdd,Nat.reduceSub,List.replicate]
 exact h):P:=f h
theorem TK {P Q:Prop} (h:Q) (f:Q→P:=by
 intro h
 simp only [Nc,Ann,Ay]
 exact h):P:=f h
theorem Ba5 {P Q:Prop} (h:Q) (f:Q→P:=by
 intro h
 simp (maxSteps:=10000000) +contextual -implicitDefEqProofs only [AY,AW,St.put,↓reduceIte,Dc,AZ,h1]
 exact h):P:=f h
theorem Yq {P Q:Prop} (h:Q) (f:Q→P:=by
 intro h
 simp only [lx91,lx64]
 exact h):P:=f h
theorem Ba6 {P Q:Prop} (h:Q) (f:Q→P:=by
 intro h
 simp only [Tryz.f200,Af,lx53,lx63,Nat.reduceAdd,Nat.reduceSub,List.replicate]
 simp only [DQ,OZ]
 refine Aa ?_
 exact h):P:=f h
theorem Ba7 {P Q:Prop} (h:Q) (f:Q→P:=by
 intro h
 simp only [Tryz.f158,Af,lx53,lx63,Nat.reduceAdd,Nat.reduceSub,List.replicate]
 simp only [Dx,Ny]
 refine Aa ?_
 exact h):P:=f h
theorem Av4 {P Q:Prop} (h:Q) (f:Q→P:=by
 intro h
 refine ⟨P,c2+2,c2+3,?_⟩
 rw [←lx4 R P,hQ,hQl]
 exact h):P:=f h
theorem Ae0 {P Q:Prop} (h:Q) (f:Q→P:=by
 intro h
 refine Aa ?_
 refine Bq ?_
 refine Jk (a2 h1 @Ab) ?_
 exact h):P:=f h
theorem Ags {P Q:Prop} (h:Q) (f:Q→P:=by
 intro h
 refine Aa ?_
 simp only [Alb]
 refine Bq ?_
 exact h):P:=f h
end Go.SX
