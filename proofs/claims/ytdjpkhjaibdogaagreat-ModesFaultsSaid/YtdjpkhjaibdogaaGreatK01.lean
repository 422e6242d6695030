/-
  Lemmas towards ModesFaults (joined texts: K0).
  Conditions: none.
-/
import Derived.KernelRfl
set_option linter.unusedSimpArgs false
set_option linter.unusedVariables false
set_option maxRecDepth 100000
namespace Go.SX
open Go
theorem aI {a b:Prop} (x:a) (y:b):a∧b:=⟨x,y⟩
theorem b8 {a b c d e f g h:Prop} (i:a) (j:b) (k:c) (l:d) (m:e) (n:f) (o:g) (p:h):a∧b∧c∧d∧e∧f∧g∧h:=⟨i,j,k,l,m,n,o,p⟩
theorem lx1:type_of% @Bool.and_assoc:=@Bool.and_assoc
theorem lx2.{u}:type_of% @List.length_set.{u}:=@List.length_set.{u}
theorem lx3.{u}:type_of% @List.getElem?_concat_length.{u}:=@List.getElem?_concat_length.{u}
theorem lx4.{u}:type_of% @List.append_assoc.{u}:=@List.append_assoc.{u}
theorem lx5.{u}:type_of% @List.length_append.{u}:=@List.length_append.{u}
theorem lx6.{u}:type_of% @if_true.{u}:=@if_true.{u}
theorem lx7.{u}:type_of% @if_false.{u}:=@if_false.{u}
theorem lx8.{u}:type_of% @ite_self.{u}:=@ite_self.{u}
theorem lx9.{u}:type_of% @Option.isSome_none.{u}:=@Option.isSome_none.{u}
theorem lx10.{u}:type_of% @Option.getD_some.{u}:=@Option.getD_some.{u}
theorem lx11.{u}:type_of% @List.set_cons_succ.{u}:=@List.set_cons_succ.{u}
theorem lx12.{u,v}:type_of% @List.map_append.{u,v}:=@List.map_append.{u,v}
theorem Ax:type_of% @Nat.le_refl:=@Nat.le_refl
theorem Og:type_of% @Nat.le_trans:=@Nat.le_trans
theorem J5:type_of% @Nat.lt_of_lt_of_le:=@Nat.lt_of_lt_of_le
theorem lx16.{u}:type_of% @Option.some.injEq.{u}:=@Option.some.injEq.{u}
theorem lx17.{u,v}:type_of% @Option.bind_some.{u,v}:=@Option.bind_some.{u,v}
theorem lx18.{u}:type_of% @List.getElem?_append.{u}:=@List.getElem?_append.{u}
theorem lx19.{u}:type_of% @List.getElem?_take.{u}:=@List.getElem?_take.{u}
theorem lx20.{u}:type_of% @List.getElem?_drop.{u}:=@List.getElem?_drop.{u}
theorem lx21.{u}:type_of% @List.getElem?_set.{u}:=@List.getElem?_set.{u}
theorem lx22.{u}:type_of% @List.getElem?_eq_some_iff.{u}:=@List.getElem?_eq_some_iff.{u}
theorem lx23.{u,v}:type_of% @List.getElem?_map.{u,v}:=@List.getElem?_map.{u,v}
theorem lx24.{u,v}:type_of% @Option.map_eq_some_iff.{u,v}:=@Option.map_eq_some_iff.{u,v}
theorem lx25.{u}:type_of% @List.mem_of_getElem?.{u}:=@List.mem_of_getElem?.{u}
theorem BX:type_of% @Nat.zero_le:=@Nat.zero_le
theorem AH:type_of% @Bool.and_eq_true:=@Bool.and_eq_true
theorem lx28.{u}:type_of% @List.all_eq_true.{u}:=@List.all_eq_true.{u}
theorem lx29.{u}:type_of% @Array.length_toList.{u}:=@Array.length_toList.{u}
theorem lx30.{u}:type_of% @List.getElem?_eq_none.{u}:=@List.getElem?_eq_none.{u}
theorem IW:type_of% @Nat.add_zero:=@Nat.add_zero
theorem lx32.{u,v}:type_of% @List.map_cons.{u,v}:=@List.map_cons.{u,v}
theorem Gd:type_of% @Nat.add_assoc:=@Nat.add_assoc
theorem lx34.{u,v}:type_of% @Option.map_some.{u,v}:=@Option.map_some.{u,v}
theorem lx35.{u,v}:type_of% @List.mem_map.{u,v}:=@List.mem_map.{u,v}
theorem HG:type_of% @List.mem_range:=@List.mem_range
theorem Em:type_of% @Bool.false_eq_true:=@Bool.false_eq_true
theorem lx38.{u}:type_of% @List.mem_of_mem_take.{u}:=@List.mem_of_mem_take.{u}
theorem lx39.{u}:type_of% @List.getElem?_toArray.{u}:=@List.getElem?_toArray.{u}
theorem lx40.{u,v}:type_of% @Prod.mk.injEq.{u,v}:=@Prod.mk.injEq.{u,v}
theorem Gt:type_of% @Nat.add_mul:=@Nat.add_mul
theorem lx42.{u}:type_of% @List.take_zero.{u}:=@List.take_zero.{u}
theorem AR:type_of% @decide_eq_true_eq:=@decide_eq_true_eq
theorem lx44.{u}:type_of% @List.mem_iff_getElem?.{u}:=@List.mem_iff_getElem?.{u}
theorem lx45.{u}:type_of% @List.getElem?_cons_zero.{u}:=@List.getElem?_cons_zero.{u}
theorem K3:type_of% @Nat.sub_self:=@Nat.sub_self
theorem lx47.{u,v}:type_of% @List.map_nil.{u,v}:=@List.map_nil.{u,v}
theorem lx48.{u}:type_of% @List.mem_cons_self.{u}:=@List.mem_cons_self.{u}
theorem lx49.{u}:type_of% @List.mem_cons_of_mem.{u}:=@List.mem_cons_of_mem.{u}
theorem lx50.{u}:type_of% @Array.getElem?_eq_some_iff.{u}:=@Array.getElem?_eq_some_iff.{u}
theorem lx51.{u}:type_of% @List.getElem?_eq_getElem.{u}:=@List.getElem?_eq_getElem.{u}
theorem lx52.{u}:type_of% @List.getElem?_set_ne.{u}:=@List.getElem?_set_ne.{u}
theorem lx53.{u}:type_of% @List.length_cons.{u}:=@List.length_cons.{u}
theorem lx54.{u}:type_of% @List.getElem?_cons_succ.{u}:=@List.getElem?_cons_succ.{u}
theorem Oh:type_of% @Nat.mul_le_mul_right:=@Nat.mul_le_mul_right
theorem lx56.{u}:type_of% @List.size_toArray.{u}:=@List.size_toArray.{u}
theorem BO:type_of% @Nat.zero_add:=@Nat.zero_add
theorem lx58.{u,v}:type_of% @List.length_map.{u,v}:=@List.length_map.{u,v}
theorem lx59.{u}:type_of% @List.mem_cons.{u}:=@List.mem_cons.{u}
theorem lx60.{u}:type_of% @List.eq_nil_of_length_eq_zero.{u}:=@List.eq_nil_of_length_eq_zero.{u}
theorem lx61.{u}:type_of% @List.getElem?_append_left.{u}:=@List.getElem?_append_left.{u}
theorem lx62.{u}:type_of% @List.getElem?_append_right.{u}:=@List.getElem?_append_right.{u}
theorem lx63.{u}:type_of% @List.length_nil.{u}:=@List.length_nil.{u}
theorem lx64.{u}:type_of% @List.nil_append.{u}:=@List.nil_append.{u}
theorem lx65.{u}:type_of% @List.ext_getElem?.{u}:=@List.ext_getElem?.{u}
theorem lx66.{u}:type_of% @List.append_nil.{u}:=@List.append_nil.{u}
theorem lx67.{u}:type_of% @List.take_append_drop.{u}:=@List.take_append_drop.{u}
theorem lx68.{u}:type_of% @List.length_take.{u}:=@List.length_take.{u}
theorem lx69.{u}:type_of% @List.getElem_of_mem.{u}:=@List.getElem_of_mem.{u}
theorem lx70.{u}:type_of% @List.mem_singleton.{u}:=@List.mem_singleton.{u}
theorem W0:type_of% @Bool.not_true:=@Bool.not_true
theorem lx72.{u}:type_of% @List.set_eq_of_length_le.{u}:=@List.set_eq_of_length_le.{u}
theorem lx73.{u}:type_of% @List.drop_zero.{u}:=@List.drop_zero.{u}
theorem lx74.{u}:type_of% @List.take_length.{u}:=@List.take_length.{u}
theorem lx75.{u}:type_of% @List.drop_eq_getElem_cons.{u}:=@List.drop_eq_getElem_cons.{u}
theorem lx76.{u}:type_of% @List.mem_append.{u}:=@List.mem_append.{u}
theorem lx77.{u}:type_of% @List.mem_append_left.{u}:=@List.mem_append_left.{u}
theorem IX:type_of% @Bool.or_eq_true:=@Bool.or_eq_true
theorem DF:type_of% @Nat.lt_or_ge:=@Nat.lt_or_ge
theorem lx80.{u}:type_of% @List.getD_eq_getElem?_getD.{u}:=@List.getD_eq_getElem?_getD.{u}
theorem Oi:type_of% @Bool.false_or:=@Bool.false_or
theorem J6:type_of% @Bool.not_eq_true':=@Bool.not_eq_true'
theorem Oj:type_of% @Bool.or_false:=@Bool.or_false
theorem Kw:type_of% @Bool.true_and:=@Bool.true_and
theorem lx85.{u}:type_of% @beq_iff_eq.{u}:=@beq_iff_eq.{u}
theorem lx86.{u}:type_of% @List.length_filter_le.{u}:=@List.length_filter_le.{u}
theorem J7:type_of% @Bool.or_eq_false_iff:=@Bool.or_eq_false_iff
theorem TO:type_of% @Bool.not_false:=@Bool.not_false
theorem IY:type_of% @Nat.lt_succ_self:=@Nat.lt_succ_self
theorem lx90.{u}:type_of% @List.getElem_mem.{u}:=@List.getElem_mem.{u}
theorem lx91.{u}:type_of% @List.cons_append.{u}:=@List.cons_append.{u}
theorem lx92.{u}:type_of% @List.take_succ_cons.{u}:=@List.take_succ_cons.{u}
theorem lx93.{u}:type_of% @List.length_drop.{u}:=@List.length_drop.{u}
theorem W1:type_of% @Bool.false_and:=@Bool.false_and
theorem lx95.{u}:type_of% @Classical.choose_spec.{u}:=@Classical.choose_spec.{u}
theorem lx96.{u}:type_of% @List.cons.injEq.{u}:=@List.cons.injEq.{u}
theorem lx97.{u}:type_of% @List.any_eq_false.{u}:=@List.any_eq_false.{u}
theorem Nv:type_of% @Int.natCast_nonneg:=@Int.natCast_nonneg
theorem D3:type_of% @true_and:=@true_and
theorem Ay:type_of% @and_true:=@and_true
theorem Ol:type_of% @Bool.and_true:=@Bool.and_true
theorem GH:type_of% @or_false:=@or_false
theorem K4:type_of% @Int.toNat_natCast:=@Int.toNat_natCast
theorem Ani:type_of% @Bool.or_true:=@Bool.or_true
theorem Adg:type_of% @Bool.true_or:=@Bool.true_or
theorem MS:type_of% @Bool.and_false:=@Bool.and_false
theorem Qt:type_of% @Nat.mod_two_eq_zero_or_one:=@Nat.mod_two_eq_zero_or_one
theorem BJ:type_of% @decide_eq_false_iff_not:=@decide_eq_false_iff_not
theorem I6:type_of% @decide_eq_true:=@decide_eq_true
theorem GX:type_of% @decide_eq_false:=@decide_eq_false
theorem GY:type_of% @Bool.not_eq_true:=@Bool.not_eq_true
theorem lx113.{u}:type_of% @beq_eq_false_iff_ne.{u}:=@beq_eq_false_iff_ne.{u}
theorem K5:type_of% @Bool.eq_false_iff:=@Bool.eq_false_iff
theorem lx115.{u}:type_of% @List.take_succ_eq_append_getElem.{u}:=@List.take_succ_eq_append_getElem.{u}
theorem Hj:type_of% @Bool.not_eq_false':=@Bool.not_eq_false'
theorem lx117.{u}:type_of% @List.set_cons_zero.{u}:=@List.set_cons_zero.{u}
theorem lx118.{u}:type_of% @List.take_of_length_le.{u}:=@List.take_of_length_le.{u}
theorem lx119.{u}:type_of% @List.set_append_right.{u}:=@List.set_append_right.{u}
theorem IK:type_of% @Nat.add_sub_cancel_left:=@Nat.add_sub_cancel_left
theorem lx121.{u}:type_of% @List.not_mem_nil.{u}:=@List.not_mem_nil.{u}
theorem lx122.{u}:type_of% @List.pairwise_iff_getElem.{u}:=@List.pairwise_iff_getElem.{u}
theorem IL:type_of% @Int.eq_ofNat_of_zero_le:=@Int.eq_ofNat_of_zero_le
theorem lx124.{u}:type_of% @List.getD_cons_zero.{u}:=@List.getD_cons_zero.{u}
theorem lx125.{u}:type_of% @List.getD_cons_succ.{u}:=@List.getD_cons_succ.{u}
theorem lx126.{u}:type_of% @List.pairwise_cons.{u}:=@List.pairwise_cons.{u}
theorem Qu:type_of% @Bool.and_eq_false_iff:=@Bool.and_eq_false_iff
theorem IZ {P:Prop} (h:P:=by
 simp (maxSteps:=10000000) only [Bk,Bg,↓reduceIte,reduceCtorEq,Nat.reduceAdd,Nat.reduceEqDiff,Cg,EX]):P:=h
theorem qc2 {P:Prop} (h:P:=by
 simp only [AO,opS,Int.reduceEq,lx6,lx7,↓reduceIte,I4,NI,Hh,Hb,or_self,GH,false_or,or_true,true_or]
 refine key _ _ _ _ ?_ ?_ ?_ ?_
 ·have e:(((st:List Int).length:Nat):Int)=(st.length:Int) - 0+0:=by simp [lx5,lx68]
  rw [e]; exact hnx _ _ (by simp [Bz,B6])
 ·exact h2
 ·exact h3
 ·exact h4):P:=h
theorem WY {P:Prop} (h:P:=by
 repeat' (first | exact Ae (by kernel_rfl) | refine ⟨Ae (by kernel_rfl),?_⟩ | refine And.intro ?_ ?_ | fail)
 all_goals first | exact .refl _ | exact .inl rfl | exact DY _ _ _ | skip
 all_goals done):P:=h
theorem qc4 {P:Prop} (h:P:=by
 simp only [NP,SH,SI,SJ,SK,SL,SM,SN,SO,SP,SQ,NQ,LF,SU,NR,LG,NS,Nat.reduceEqDiff,↓reduceIte,lx117,lx11,lx124,lx125,RP,Px,LC,NO,ZC,Ol,Kw,Akk,Akl,hj1,hj2,hw1,hw2]
 all_goals done):P:=h
theorem qc5 {P:Prop} (h:P:=by
 all_goals simp (maxSteps:=10000000) only [Bk,Bg,↓reduceIte,reduceCtorEq,Nat.reduceAdd,Nat.reduceEqDiff,Cg,EX,Ac]
 all_goals done):P:=h
theorem K6 {P:Prop} (h:P:=by
 simp only [AO,opS,Int.reduceEq,lx6,lx7,↓reduceIte,or_self,GH,false_or,or_true,true_or,put,pop,eff]; omega):P:=h
theorem qc8 {P:Prop} (h:P:=by
 have hrl:r=l.length:=by omega
 subst hrl
 have h1:decide ((l.length:Int) < (l.length:Int))=false:=by simp
 have e:=SD (p:=p) hn
 simp (maxSteps:=10000000) only [Cg,EX,Nat.reduceAdd,Nat.reduceEqDiff,↓reduceIte,BO]
 simp (maxSteps:=10000000) +contextual -implicitDefEqProofs only [Bk,Bg,St.put,↓reduceIte,h1,e]):P:=h
theorem qc9 {P:Prop} (h:P:=by
 simp only [AO,opS,Int.reduceEq,lx6,lx7,↓reduceIte,I4,NI,Hh,Hb,or_self,GH,false_or,or_true,true_or]
 have ht:1≤st.length:=by have:=htk; simp [B6] at this; omega
 refine key _ _ _ _ ?_ ?_ ?_ ?_
 ·have e:(((st.take (st.length - 1):List Int).length:Nat):Int)=(st.length:Int) - 1+0:=by simp [lx5,lx68]; omega
  rw [e]; exact hnx _ _ (by simp [Bz,B6])
 ·exact hpop _
 ·exact h3
 ·exact h4):P:=h
theorem Bcm {P:Prop} (h:P:=by
 have h1:decide ((k:Int) < (n:Int))=true:=by rw [AR]; omega
 have h2:decide ((0:Int)≤(k:Int))=true:=by rw [AR]; omega
 have w1:IntKind.i64.wrap ((k:Int)+1)=((k+1:Nat):Int):=by rw [Bd (by omega) (by omega)]; omega
 have h3:decide (k < (List.replicate k (-1:Int)++List.replicate (n - k) 0).length)=true:=by rw [AR]; simp; omega
 have hm:((List.replicate k (-1:Int)++List.replicate (n - k) 0).map (kA .i64)).set k (AV.sc (.int .i64 (-1)))=(List.replicate (k+1) (-1:Int)++List.replicate (n - (k+1)) 0).map (kA .i64):=by
  rw [←Aly hk',List.map_set]; rfl
 obtain ⟨L,hL⟩:∃ L,List.replicate k (-1:Int)++List.replicate (n - k) 0=L:=⟨_,rfl⟩
 rw [hL] at h3 hm ⊢
 refine Aa ?_
 simp (maxSteps:=10000000) only [Cg,EX,Nat.reduceAdd,Nat.reduceEqDiff,↓reduceIte,BO]
 refine Nw (a6 h1 h3 w1 hm @Ac @AA) ?_
 refine AD ?_ ?_ (Ax _) (ih (k+1) _ (by omega) (by omega))
 all_goals simp (maxSteps:=10000000) only [Bk,Bg,↓reduceIte,reduceCtorEq,Nat.reduceAdd,Nat.reduceEqDiff,List.replicate_succ,Cg,EX,AB,Ac]
 all_goals done):P:=h
theorem Bcn {P:Prop} (h:P:=by
 rw [hv] at E4
 simp only [Dl] at E4
 have ih2:=fun v7 c=>ih2 (r,⟨ins'++X,ens',u⟩,v7) c ⟨g1,hsa,by simp only [lx5]; omega⟩ (by simp only; omega)
 simp only [lx5] at ih2
 have hsz':decide ((ins'.length+X.length) * 16≤140737488355328)=true:=by rw [AR]; omega
 have htk':List.take ins'.length (ins'.map BS)=ins'.map BS:=lx118 (by simp)
 have hma':ins'.map BS++X.map BS=(ins'++X).map BS:=by rw [lx12]
 refine Aa ?_
 simp (maxSteps:=10000000) only [Cg,EX,Nat.reduceAdd,Nat.reduceEqDiff,↓reduceIte,BO]
 refine Nx (a9 c1 w2 E4 hsz' htk' hma' @Dl @AJ @KO) ?_
 repeat' (first | exact Ae (by kernel_rfl) | refine ⟨Ae (by kernel_rfl),?_⟩ | refine And.intro ?_ ?_ | fail)
 refine AD ?_ ?_ (Ax _) (ih2 c' _)
 all_goals simp (maxSteps:=10000000) only [Bk,Bg,↓reduceIte,reduceCtorEq,Nat.reduceAdd,Nat.reduceEqDiff,Cg,EX,Dl]
 all_goals done):P:=h
theorem Bco {P:Prop} (h:P:=by
 have b14:(k == 14)=false:=by rw [lx113]; exact h14
 have b15:(k == 15)=false:=by rw [lx113]; exact h15
 have b16:(k == 16)=false:=by rw [lx113]; exact h16
 have b17:(k == 17)=false:=by rw [lx113]; exact h17
 have b18:(k == 18)=false:=by rw [lx113]; exact h18
 have b19:(k == 19)=false:=by rw [lx113]; exact h19
 have b20:(k == 20)=false:=by rw [lx113]; exact h20
 have b21:(k == 21)=false:=by rw [lx113]; exact h21
 have b22:(k == 22)=false:=by rw [lx113]; exact h22
 have b23:(k == 23)=false:=by rw [lx113]; exact h23
 have b24:(k == 24)=false:=by rw [lx113]; exact h24
 have hu:CK k a b=0:=by simp only [CK,h12,h13,h14,h15,h16,h17,h18,h19,h20,h21,h22,h23,h24,lx7]
 exact TH (a16 x1 x2 hu b12 b13 b14 b15 b16 b17 b18 b19 b20 b21 b22 b23 b24)
 all_goals done):P:=h
theorem Au1 {P:Prop} (h:P:=by
 have x3:=fun t=>Wx t
 cases BW:(c != 0) <;> cases hd0:(d != 0) <;> rw [BW,hd0] at hu <;> simp (maxSteps:=10000000) +contextual -implicitDefEqProofs only [Bk,Bg,Ao,St.put,Ap,Al,D8,pl,↓reduceIte,Nat.reduceEqDiff,Nat.reduceBEq,Dq,AB,Int.reduceBEq,x1,x2,hu,BW,hd0,x3]
 all_goals done):P:=h
theorem Au2 {P:Prop} (h:P:=by
 repeat' (first | exact Ae (by kernel_rfl) | refine ⟨Ae (by kernel_rfl),?_⟩ | refine And.intro ?_ ?_ | fail)
 refine AD ?_ ?_ (Ax _) (ih _)
 all_goals simp (maxSteps:=10000000) only [Bk,Bg,↓reduceIte,reduceCtorEq,Nat.reduceAdd,Nat.reduceEqDiff,Cg,EX,Ac,AL]
 all_goals done):P:=h
theorem Aqk {P:Prop} (h:P:=by
 repeat' (first | exact Ae (by kernel_rfl) | refine ⟨Ae (by kernel_rfl),?_⟩ | refine And.intro ?_ ?_ | fail)
 refine AD ?_ ?_ (Ax _) (ih _)
 all_goals simp (maxSteps:=10000000) only [Bk,Bg,↓reduceIte,reduceCtorEq,Nat.reduceAdd,Nat.reduceEqDiff,Cg,EX]
 all_goals done):P:=h
theorem Bcp {P:Prop} (h:P:=by
 simp only at hG hE
 rw [hE] at hG
 rw [hG] at hr
 simp only [hr,lx5,lx53,lx63,BO] at ih
 have hsz':decide ((ins'.length+1) * 16≤140737488355328)=true:=by rw [AR]; omega
 have htk':List.take ins'.length (ins'.map BS)=ins'.map BS:=lx118 (by simp)
 have hma':ins'.map BS++[.ag [.sc (.int .i64 31),.sc (.int .i64 0)]]=(ins'++[(⟨31,0⟩:In)]).map BS:=by rw [lx12]; rfl
 clear ih2
 refine Aa ?_
 simp (maxSteps:=10000000) only [Cg,EX,Nat.reduceAdd,Nat.reduceEqDiff,↓reduceIte,BO]
 refine Nx (a6 w1 hsz' htk' hma' @Qc @Dl) ?_
 refine AD ?_ ?_ (Ax _) (ih (cnt'+1) v8' _)
 all_goals simp (maxSteps:=10000000) only [Bk,Bg,↓reduceIte,reduceCtorEq,Nat.reduceAdd,Nat.reduceEqDiff,Cg,EX,Dl]
 all_goals done):P:=h
theorem Bcq {P:Prop} (h:P:=by
 simp (maxSteps:=10000000) only [Cg,EX,Nat.reduceAdd,Nat.reduceEqDiff,↓reduceIte,BO]
 simp only [V7,ZR,V8,ZS,and_self,Ay,lx53,lx63,Nat.reduceAdd]):P:=h
theorem Au3 {P:Prop} (h:P:=by
 have hkl:k=a.length:=by omega
 subst hkl
 have h2:decide ((a.length:Int) < (a.length:Int))=false:=by simp
 have h3:decide (a=b)=true:=by rw [AR]; exact PV he hn
 simp (maxSteps:=10000000) only [Cg,EX,Nat.reduceAdd,Nat.reduceEqDiff,↓reduceIte,BO]
 simp (maxSteps:=10000000) +contextual -implicitDefEqProofs only [Bk,Bg,St.put,↓reduceIte,D5,h2,h3]
 all_goals done):P:=h
theorem Adh {P:Prop} (h:P:=by
 simp (maxSteps:=10000000) only [Bk,Bg,↓reduceIte,reduceCtorEq,Nat.reduceAdd,Nat.reduceEqDiff,Cg,EX]
 all_goals done):P:=h
theorem Bcr {P:Prop} (h:P:=by
 refine Aa ?_
 simp (maxSteps:=10000000) only [Cg,EX,Nat.reduceAdd,Nat.reduceEqDiff,↓reduceIte,BO]
 cases b1 <;> cases b2 <;> cases b3
 rotate_left 7
 ·have hf:ET c mo tr ix=some x:=hfa rfl
  rw [hf]
  simp (maxSteps:=10000000) +contextual -implicitDefEqProofs only [Bk,Bg,Ao,St.put,↓reduceIte,reduceCtorEq,Nat.reduceAdd,Int.reduceLT,Nat.reduceLT,D5,Int.reduceAdd,Dq,Cf,Ac,norefs,AV.noref,h1,h2,Dk,AA,hx,hb1,hb2,hb3,pcO,Option.isSome_some,lx10]
  all_goals done
 all_goals
  have hv:=htn rfl
  refine gF1 (a7 h1 h2 w1 hx hb1 hb2 hb3) ?_
  refine AD ?_ ?_ (Ax _) (ih hv _)
  all_goals simp (maxSteps:=10000000) only [Bk,Bg,↓reduceIte,reduceCtorEq,Nat.reduceAdd,Nat.reduceEqDiff,Cg,EX,Ac]
 all_goals done):P:=h
theorem Aql {P:Prop} (h:P:=by
 rcases hc with rfl | rfl
 all_goals refine Aa ?_
 all_goals simp (maxSteps:=10000000) +contextual -implicitDefEqProofs only [Bk,Bg,Ao,St.put,D8,↓reduceIte,Nat.reduceAdd,Nat.reduceLeDiff,Nat.reduceMul,Int.reduceLT,Nat.reduceBEq,Nat.reduceLT,D5,Qc,Int.reduceAdd,Int.reduceMul,Dq,Fe,hl,AX,Int.reduceBEq,E0,E2,BW]
 all_goals exact LW _ _ _ _ _ _ _ _ rfl
 all_goals done):P:=h
theorem Bcs {P:Prop} (h:P:=by
 refine Aa ?_
 by_cases h1:a.mo=b.mo
 ·by_cases h2:a.tr=b.tr
  ·simp (maxSteps:=10000000) +contextual -implicitDefEqProofs only [Bk,Bg,St.put,↓reduceIte,reduceCtorEq,Nat.reduceAdd,D5,Int.reduceAdd,Dq,AU,Cf,H4,h1,h2]
   all_goals done
  ·have h2':(a.tr != b.tr)=true:=by simpa using h2
   simp (maxSteps:=10000000) +contextual -implicitDefEqProofs only [Bk,Bg,St.put,↓reduceIte,reduceCtorEq,Nat.reduceAdd,D5,Int.reduceAdd,Dq,AU,Cf,H4,h1,h2,h2']
   all_goals done
 ·have h1':(a.mo != b.mo)=true:=by simpa using h1
  simp (maxSteps:=10000000) +contextual -implicitDefEqProofs only [Bk,Bg,St.put,↓reduceIte,reduceCtorEq,Nat.reduceAdd,D5,Int.reduceAdd,Dq,AU,Cf,H4,h1,h1']
  all_goals done):P:=h
theorem Aax {P:Prop} (h:P:=by
 simp (maxSteps:=10000000) only [Bk,Bg,Ac]):P:=h
theorem Au4 {P:Prop} (h:P:=by
 obtain ⟨b,base⟩:=p
 rw [hlc] at g3'
 simp only at g3' ⊢
 obtain ⟨q1,⟨cs,q2⟩,q3⟩:=g3'
 refine ⟨q1,⟨cs,by rw [←k4]; exact q2⟩,fun i e he=>?_⟩
 have hi:i < B.els.length:=(lx22.1 he).1
 have he0:A.els[i]?=some (A.els[i]'(by omega)):=lx51 (by omega)
 obtain ⟨r1,r2⟩:=q3 i _ he0
 obtain ⟨s1,s2⟩:=Agr ((Gc k6).2 i _ e he0 he)
 refine ⟨by rw [←s1,←k5]; exact r1,fun m d hd=>?_⟩
 have hm:m < e.cells.length:=(lx22.1 hd).1
 have BW:=lx51 (l:=(A.els[i]'(by omega)).cells) (i:=m) (by omega)
 obtain ⟨u,t1,t2,t3⟩:=r2 m _ BW
 exact ⟨u,by rw [←k5]; exact t1,t2,hvr (s2 m _ d BW hd) t3⟩):P:=h
theorem Bct {P:Prop} (h:P:=by
 have h1:(tr == 1)=false:=by rw [lx113]; omega
 have h2:(tr == 2)=false:=by rw [lx113]; omega
 have h3:(tr == 3)=false:=by rw [lx113]; omega
 have h4:(tr == 4)=false:=by rw [lx113]; omega
 have h5:(tr == 5)=false:=by rw [lx113]; omega
 have h6:(tr == 6)=false:=by rw [lx113]; omega
 have g:IB c ⟨mo,tr,ix,pc⟩=false:=by
  unfold IB
  rw [if_neg (by simp only; omega),if_neg (by simp only; omega),if_neg (by simp only; omega),if_neg (by simp only; omega),MS]
 rw [g]
 clear h
 exact MU (HH w2 h0 h1 h2 h3 h4 h5 h6 @Cf @Ac @XE)
 all_goals done):P:=h
theorem Au5 {P:Prop} (h:P:=by
 obtain ⟨m1,⟨cs,m2⟩,m3⟩:=q3
 refine ⟨m1,⟨cs,by rw [←k5]; exact m2⟩,fun i f hf'=>?_⟩
 have hi:i < B.els.length:=(lx22.1 hf').1
 have he:=lx51 (l:=B1.els) (i:=i) (by omega)
 obtain ⟨n1,n2⟩:=m3 i _ he
 obtain ⟨hj,hrn⟩:=k8 i _ f he hf'
 obtain ⟨u1,u2⟩:=Agt hrn hj
 refine ⟨by rw [←u1,n1,k6],fun jj a ha'=>?_⟩
 have hjj:jj < f.cells.length:=(lx22.1 ha').1
 have hx:=lx51 (l:=(B1.els[i]'(by omega)).cells) (i:=jj) (by omega)
 obtain ⟨c,p1,p2,p3⟩:=n2 jj _ hx
 exact ⟨c,by rw [←k6]; exact p1,p2,hvr (u2 jj _ a hx ha') p3⟩):P:=h
theorem Aqm {P:Prop} (h:P:=by
 obtain ⟨w',fr,s',X',loc',r,c,g1,g2⟩:=ih (fun x hx=>hlex x (lx49 _ hx)) b cs a1 w1 X1 loc1 hb hf q1 w0 X0 BW hn (hev.trans q2)
 exact ⟨w',fr,s',X',loc',r,c,q3.trans g1,g2⟩):P:=h
theorem Bcu {P:Prop} (h:P:=by
 rw [h7] at x4
 have e:=Ahm hk' h7
 simp (maxSteps:=10000000) only [Cg,EX,Nat.reduceAdd,Nat.reduceEqDiff,↓reduceIte,BO]
 simp (maxSteps:=10000000) +contextual -implicitDefEqProofs only [Bk,Bg,St.put,Ap,Al,D8,pl,↓reduceIte,reduceCtorEq,Nat.reduceAdd,Nat.reduceEqDiff,D5,Int.reduceAdd,Dq,Fe,Cf,Ac,norefs,AV.noref,h3,h4,h5,h6,w2,ha,hb,x4,Dh,Dk,Be,h1,h2,ht,e]
 repeat' (first | exact Ae (by kernel_rfl) | refine ⟨Ae (by kernel_rfl),?_⟩ | refine And.intro ?_ ?_ | fail)
 all_goals done):P:=h
theorem Aqn {P:Prop} (h:P:=by
 all_goals simp (maxSteps:=10000000) only [Bk,Bg,↓reduceIte,reduceCtorEq,Nat.reduceAdd,Nat.reduceEqDiff,Cg,EX,Ac,Bm,hE.1,hE.2]
 all_goals done):P:=h
theorem Au6 {P:Prop} (h:P:=by
 have h1:((a.length:Int) != (b.length:Int))=true:=by simp; omega
 have h2:decide (a=b)=false:=by rw [BJ]; intro h; exact he (by rw [h])
 simp (maxSteps:=10000000) +contextual -implicitDefEqProofs only [Bk,Bg,St.put,↓reduceIte,D5,AU,h1,h2]):P:=h
theorem Aqo {P:Prop} (h:P:=by
 refine ⟨e1.symm.trans h2.1,fun i y v hy hv=>?_⟩
 have hi:i < T'.length:=(lx22.1 hy).1
 have hx:T[i]?=some (T[i]'(by omega)):=lx51 (by omega)
 exact hvr (e2 i _ y hx hy) (h2.2 i _ v hx hv)):P:=h
theorem Ajv {P:Prop} (h:P:=by
 obtain ⟨q1,q2⟩:=h5 i B.els[i] (by simp [hi])
 obtain ⟨c,e1,e2,e3⟩:=q2 j (B.els[i].cells[j]'(by omega)) (by simp)
 rw [e1]
 exact ⟨rfl,e2⟩):P:=h
theorem Bcv {P:Prop} (h:P:=by
 have b1:(k == 10)=false:=by rw [lx113]; exact h1
 by_cases h2:k=11
 ·subst h2
  have hu:Tl 11 a=Gr (c == 0):=by rw [Tl,if_neg (by decide),if_pos rfl,hc']
  exact TH (a3 x1 x2 hu)
  all_goals done
 have b2:(k == 11)=false:=by rw [lx113]; exact h2
 have hu:Tl k a=0:=by rw [Tl,if_neg h1,if_neg h2]
 exact TH (a4 x1 b1 b2 hu)
 all_goals done):P:=h
theorem Au7 {P:Prop} (h:P:=by
 rw [h4] at e146
 simp (maxSteps:=10000000) only [Cg,EX,Nat.reduceAdd,Nat.reduceEqDiff,↓reduceIte,BO]
 simp (maxSteps:=10000000) +contextual -implicitDefEqProofs only [Bk,Bg,St.put,Ap,Al,D8,pl,↓reduceIte,reduceCtorEq,Nat.reduceAdd,Nat.reduceEqDiff,D5,Int.reduceAdd,Dq,Fe,Ac,norefs,AV.noref,h3,e146,Be,h1,h2,ht,e,h4]
 all_goals done):P:=h
theorem Au8 {P:Prop} (h:P:=by
 have o1:decide ((B6 x.op).1≤h)=false:=by rw [BJ]; exact ho1
 have e:=hbad (q:=True) (fun hk=>ho1 hk.1)
 simp (maxSteps:=10000000) only [Cg,EX,Nat.reduceAdd,Nat.reduceEqDiff,↓reduceIte,BO]
 exact MU (a27 c1 w1 c3 c4 hp c6 hx c7 c8 c9 c10 hh e1 w2 w3 hA b31 b12 b13 b14 o1 e @AX @Ac @D0 @AJ @AA)
 all_goals done):P:=h
theorem Bcw {P:Prop} (h:P:=by
 have e:=hno (by rw [hb]; simp only [loX,c1,c2,Oi,c3,Adg])
 simp (maxSteps:=10000000) only [Cg,EX,Nat.reduceAdd,Nat.reduceEqDiff,↓reduceIte,BO]
 exact Mc (Hd g1 g2 ho c1 c2 x4 x3 c3 e @Bl @AL @Bq)
 repeat' (first | exact Ae (by kernel_rfl) | refine ⟨Ae (by kernel_rfl),?_⟩ | refine And.intro ?_ ?_ | fail)
 all_goals done):P:=h
theorem Au9 {P:Prop} (h:P:=by
 simp (maxSteps:=10000000) only [Bk,Bg,↓reduceIte,reduceCtorEq,Nat.reduceAdd,Nat.reduceEqDiff,Cg,EX,WV]
 all_goals done):P:=h
theorem Aua {P:Prop} (h:P:=by
 all_goals simp (maxSteps:=10000000) only [Bk,Bg,↓reduceIte,reduceCtorEq,Nat.reduceAdd,Nat.reduceEqDiff,Cg,EX,Bl]
 all_goals done):P:=h
theorem Bcx {P:Prop} (h:P:=by
 have hrl:r=b.size:=by omega
 subst hrl
 have h1:decide ((b.size:Int) < (b.size:Int))=false:=by simp
 have e:=Ac1 hn
 simp (maxSteps:=10000000) only [Cg,EX,Nat.reduceAdd,Nat.reduceEqDiff,↓reduceIte,BO]
 simp (maxSteps:=10000000) +contextual -implicitDefEqProofs only [Bk,Bg,St.put,↓reduceIte,D5,h1,LN,e]
 all_goals done):P:=h
theorem Aay {P:Prop} (h:P:=by
 exact TH (a4 x1 x2 hu x3)
 all_goals done):P:=h
theorem Aub {P:Prop} (h:P:=by
 intro k B hB hBl
 have hk:k < H'.length:=(lx22.1 hB).1
 have hA:=lx51 (l:=H) (i:=k) (by omega)
 refine ⟨_,hA,?_⟩
 rcases hg k _ B hA hB with h | h | ⟨e1,e2,e3,e4,e5⟩
 ·rw [h]; exact ⟨hBl,rfl,rfl,rfl,Ct _ _ _⟩
 ·rw [h] at hBl; cases hBl
 ·exact ⟨e1.trans hBl,e2,e3,e4,e5⟩):P:=h
theorem Aqp {P:Prop} (h:P:=by
 repeat' split at hs
 all_goals first | (cases hs; done) | skip
 cases hs
 refine ⟨_,by rw [Bn],?_⟩
 simp_all [Bn]):P:=h
theorem Ajw {P:Prop} (h:P:=by
 all_goals first | rfl | trivial | omega | exact .refl _ | exact DY _ _ _ | exact .sl0 _ _ _ (by simp [AE]) | skip
 all_goals done):P:=h
theorem W2 {P:Prop} (h:P:=by
 all_goals first | rfl | trivial | omega | exact .refl _ | skip
 all_goals done):P:=h
theorem Bcy {P:Prop} (h:P:=by
 repeat' (refine Afh (fun h=>?_) (fun h=>?_))
 all_goals refine congrArg (fun b=>AV.sc (.bool b)) (Bool.eq_iff_iff.2 ?_)
 all_goals simp only [IX,AH,J6,AR,BJ,lx85,Em,false_iff,true_iff,Qu] at *
 all_goals omega):P:=h
theorem Bcz {P:Prop} (h:P:=by
 have e:=hno (by rw [hb]; simp [loX,c2])
 simp (maxSteps:=10000000) only [Cg,EX,Nat.reduceAdd,Nat.reduceEqDiff,↓reduceIte,BO]
 exact Mc (a9 g1 g2 ho c1 c2 e @Bl @AL @Bq)
 repeat' (first | exact Ae (by kernel_rfl) | refine ⟨Ae (by kernel_rfl),?_⟩ | refine And.intro ?_ ?_ | fail)
 all_goals done):P:=h
theorem Bd0 {P:Prop} (h:P:=by
 have e:=hno (by rw [hb]; simp [loX,c1])
 simp (maxSteps:=10000000) only [Cg,EX,Nat.reduceAdd,Nat.reduceEqDiff,↓reduceIte,BO]
 exact Mc (a8 g1 g2 ho c1 e @Bl @AL @Bq)
 repeat' (first | exact Ae (by kernel_rfl) | refine ⟨Ae (by kernel_rfl),?_⟩ | refine And.intro ?_ ?_ | fail)
 all_goals done):P:=h
theorem Bd1 {P:Prop} (h:P:=by
 by_cases h1:m.dn=true∨256 < m.ef.length
 ·exact Acm h1
 ·have:n=B:=by
   rw [not_or] at h1
   cases hd:m.dn with
   | true=>exact absurd hd h1.1
   | false=>
    rcases DF n B with h | h
    ·exact absurd ⟨hd,h,by omega⟩ hgo
    ·omega
  rw [this,K3]
  rfl):P:=h
theorem Adi {P:Prop} (h:P:=by
 subst r4; subst hp
 rw [lx42]
 exact .vw0 (fun h=>by cases h) (BX _)):P:=h
theorem Auc {P:Prop} (h:P:=by
 rintro id ver i off v ⟨h1,h2⟩
 have h1':ver < c:=h1
 refine ⟨Nat.lt_succ_of_lt h1',fun B e1 e2 e3=>?_⟩
 by_cases hid:id=H.length
 ·subst hid
  simp only at e1
  rw [hB] at e1; cases e1
  simp only at e3; omega
 ·simp only at e1
  rw [hne id hid] at e1
  simp only [hid,lx7]
  exact h2 B e1 e2 e3):P:=h
theorem Bd2 {P:Prop} (h:P:=by
 refine Aa ?_
 refine gF1 (a5 hz @EU @JB @Qr @dl2) ?_
 repeat' (first | exact Ae (by kernel_rfl) | refine ⟨Ae (by kernel_rfl),?_⟩ | refine And.intro ?_ ?_ | fail)
 all_goals first | exact .refl _ | exact .inl rfl | exact DY _ _ _ | omega | trivial | skip
 all_goals done):P:=h
theorem Bd3 {P:Prop} (h:P:=by
 intro hn
 rcases ih (by omega) with g | g
 ·by_cases hlt:n < (Q n).2.length
  ·exact .inl fun j hj=>by
    rcases Nat.lt_succ_iff_lt_or_eq.1 hj with hj | rfl
    ·exact g j hj
    ·exact hlt
  ·exact .inr ⟨n,by omega,g,Nat.le_antisymm (by omega) (hln n g)⟩
 ·exact .inr g):P:=h
theorem Aqq {P:Prop} (h:P:=by
 unfold execOp
 simp only [ho,resolve,invoke,builtin,Sem.run_bind,Sem.run_pure,Result.andThen_ok,List.map_toArray,lx32,lx47,hr]):P:=h
theorem Bd4 {P:Prop} (h:P:=by
 simp (maxSteps:=10000000) only [Cg,EX,Nat.reduceAdd,Nat.reduceEqDiff,↓reduceIte,BO]
 refine gF1 (a2 n1 n2) ?_
 repeat' (first | exact Ae (by kernel_rfl) | refine ⟨Ae (by kernel_rfl),?_⟩ | refine And.intro ?_ ?_ | fail)
 all_goals first | exact .refl _ | rfl | skip):P:=h
theorem Aud {P:Prop} (h:P:=by
 have g:∀ k:Int,1≤k→k≤31→(op=k)=False:=fun k h1 h2=>by have:=hno k h1 h2; simpa using this
 simp [insP,Eg,Dc,g,HD] at hip
 have:=hno 12 (by decide) (by decide)
 have:=hno 13 (by decide) (by decide)
 have:=hno 14 (by decide) (by decide)
 simp_all
 omega):P:=h
theorem Aue {P:Prop} (h:P:=by
 obtain ⟨k1,k2⟩:=g2 _ rfl
 refine ⟨k1,fun B' q1 q2 q3=>?_⟩
 obtain ⟨b',base',r1,r2⟩:=k2 B' q1 q2 q3
 rw [hq] at h2
 rw [h2] at r2
 simp only [Value.pointer.injEq,lx16,Go.Addr.mk.injEq] at r2
 exact ⟨b',base',r1,by rw [r2.1,r2.2.1,Gd]⟩):P:=h
theorem Auf {P:Prop} (h:P:=by
 simp only [AB] at e1
 refine Ab (Aq ((.cons k1 .nil)) (.nil)) rfl Tryz.func116 rfl (by decide) (by kernel_rfl) (by kernel_rfl) ?_
 simp only [Tryz.f116,Af,lx53,lx63,Nat.reduceAdd,Nat.reduceSub,List.replicate]
 refine Aa ?_
 exact MU e1):P:=h
theorem Aqr {P:Prop} (h:P:=by
 rw [if_neg h,if_neg]
 intro h'
 simp only [AH,lx85,AR] at h'
 exact h ⟨h'.1.1.1,h'.1.1.2,h'.1.2,h'.2⟩):P:=h
theorem Bd5 {P:Prop} (h:P:=by
 all_goals simp (maxSteps:=10000000) +contextual -implicitDefEqProofs only [Bk,Bg,St.put,Ap,Al,D8,pl,↓reduceIte,reduceCtorEq,Nat.reduceAdd,Int.reduceEq,Nat.reduceBEq,D5,Int.reduceAdd,Dq,AU,Cf,Ac,Int.reduceBEq,XE,w2,w5,w6,h0,IB]
 all_goals done):P:=h
theorem Aug {P:Prop} (h:P:=by
 refine Aa ?_
 simp (maxSteps:=10000000) +contextual -implicitDefEqProofs only [Bk,Bg,Ao,St.put,↓reduceIte,AB,AU,HD]):P:=h
theorem Auh {P:Prop} (h:P:=by
 repeat' split at hs
 all_goals first | (cases hs; done) | skip
 all_goals
  cases hs
  refine ⟨_,by rw [Bn],?_⟩
  simp_all [Bn]):P:=h
theorem Ajx {P:Prop} (h:P:=by
 rw [lx30 (show s.H.length≤k by omega),lx30]
 simp; omega):P:=h
theorem Bd6 {P:Prop} (h:P:=by
 repeat' (first | exact Ae (by kernel_rfl) | refine ⟨Ae (by kernel_rfl),?_⟩ | refine And.intro ?_ ?_ | fail)
 all_goals first | exact .refl _ | (simp [AV.freshIn,Ee,AE,Cz,AV.fresh,KS,XJ]; done) | skip
 all_goals done):P:=h
theorem Aui {P:Prop} (h:P:=by
 rw [h2] at x2
 simp (maxSteps:=10000000) +contextual -implicitDefEqProofs only [Bk,Bg,St.put,Ap,Al,D8,pl,↓reduceIte,Nat.reduceAdd,Nat.reduceEqDiff,D5,Int.reduceAdd,Dq,AB,Ac,x1,x2,Be,h1,h2]
 all_goals done):P:=h
theorem Auj {P:Prop} (h:P:=by
 rcases idx j with rfl | ⟨j,rfl⟩ | ⟨j,rfl⟩
 ·rw [if_neg (by omega)]; rfl
 ·rw [DD,DD,g1]
  by_cases hj:j=k
  ·subst hj; simp
  ·rw [if_neg hj,if_neg (by omega)]
 ·rw [C3,C3,if_neg (by omega)]):P:=h
theorem Auk {P:Prop} (h:P:=by
 rcases idx j with rfl | ⟨j,rfl⟩ | ⟨j,rfl⟩
 ·rw [if_neg (by omega)]; rfl
 ·rw [DD,DD,if_neg (by omega)]
 ·rw [C3,C3,g1]
  by_cases hj:j=k
  ·subst hj; simp
  ·rw [if_neg hj,if_neg (by omega)]):P:=h
theorem Aqs {P:Prop} (h:P:=by
 rw [h1] at h3
 rcases h3 with rfl | rfl <;> (have:=hs (by decide); simp [Dc] at this; rcases h2 with h2 | h2 <;> omega)):P:=h
theorem Bd7 {P:Prop} (h:P:=by
 simp (maxSteps:=10000000) +contextual -implicitDefEqProofs only [Bk,Bg,St.put,Ap,Al,D8,pl,↓reduceIte,reduceCtorEq,Nat.reduceAdd,D5,Int.reduceAdd,Dq,AU,Cf,Ac,XE,w2,h0,IB]
 all_goals done):P:=h
theorem Adj {P:Prop} (h:P:=by
 subst h0
 rw [lx42]
 exact .vw0 (fun h=>by cases h) k3):P:=h
theorem Aul {P:Prop} (h:P:=by
 refine ⟨fun i=>?_,by simp [tpL]; omega⟩
 simp only [tpL]
 rw [lx80,lx19]
 split
 ·rw [←lx80]; exact hu i
 ·exact J5 (by decide) (Ax 256)):P:=h
theorem Aum {P:Prop} (h:P:=by
 obtain ⟨F,kF,E⟩:=D1 hs
 simp only [CT,Int.reduceEq,↓reduceIte]
 generalize DU _ m a _=r1 at E ⊢
 obtain ⟨⟨zv',vars',zl',left',act',zm',lamps',fau'⟩,ef',po'⟩:=r1
 exact ⟨p,m',c',pW2⟩):P:=h
theorem Aun {P:Prop} (h:P:=by
 rw [h1] at x1
 simp (maxSteps:=10000000) +contextual -implicitDefEqProofs only [Bk,Bg,St.put,Ap,Al,D8,pl,↓reduceIte,Nat.reduceAdd,D5,Int.reduceAdd,Dq,AB,Ac,x1,Be,h1]
 all_goals done):P:=h
theorem Bd8 {P:Prop} (h:P:=by
 simp (maxSteps:=10000000) only [Cg,EX,Nat.reduceAdd,Nat.reduceEqDiff,↓reduceIte,BO]
 repeat' (first | exact trivial | refine And.intro (.jk _) ?_ | refine And.intro h ?_ | refine And.intro (.nr rfl) ?_)):P:=h
theorem Auo {P:Prop} (h:P:=by
 cases h
 obtain ⟨a,rfl,ha⟩:=Lw hx
 obtain ⟨b,rfl,hb⟩:=Lw hy
 cases a <;> simp only [okK,Em] at ha
 cases b <;> simp only [okK,Em] at hb
 simp [Ak,I1,eqK]):P:=h
theorem Aup {P:Prop} (h:P:=by
 intro b s hs
 have hb:b < w.heap.size:=by
  unfold World.shape? at hs
  split at hs
  ·rename_i c e fr hh; exact (lx50.1 hh).1
  ·cases hs
 unfold World.shape? at *
 rw [hold b hb]; exact hs):P:=h
theorem Auq {P:Prop} (h:P:=by
 have g2:(decide (x.mo < y.mo) || ((y.mo == x.mo) && decide (x.la≤y.la)))=true:=by
  rw [IX,AR,AH,AR,lx85]; omega
 simp [L0,g,g2]):P:=h
theorem Aqt {P:Prop} (h:P:=by
 simp only [hz,↓reduceIte]; exact key _ _ _ _ (by rw [e]; exact hnx _ _ (by simp [Bz])) (hpop _) h3 h4):P:=h
theorem Aur {P:Prop} (h:P:=by
 have h10:q=0∨q=1∨q=2∨q=3∨q=4∨q=5∨q=6∨q=7∨q=8∨q=9:=by omega
 rcases h10 with rfl | rfl | rfl | rfl | rfl | rfl | rfl | rfl | rfl | rfl <;> decide):P:=h
theorem Aus {P:Prop} (h:P:=by
 refine .ag (hl.symm.trans hl') (fun i d u hd hu=>?_) h2
 have hi:i < _:=(lx22.1 hd).1
 have hci:=lx51 (hl ▸ hi)
 exact ih i _ d hci hd (h1 i _ u hci hu)):P:=h
theorem Ajy {P:Prop} (h:P:=by
 simp only [lx5,lx53,lx63]; omega):P:=h
theorem Aut {P:Prop} (h:P:=by
 have:=grownCap_ge w ys.length 0 el
 simp only [Array.size_append,lx56,lx63,size_zeroCells,c3,n3,BO,←Gt]
 exact Oh _ (by omega)):P:=h
theorem Auu {P:Prop} (h:P:=by
 have:q=0∨q=1∨q=2∨q=3∨q=4∨q=5∨q=6∨q=7∨q=8∨q=9:=by omega
 rcases this with rfl | rfl | rfl | rfl | rfl | rfl | rfl | rfl | rfl | rfl <;> rfl):P:=h
theorem Bd9 {P:Prop} (h:P:=by
 subst h12
 have hu:CK 12 a b=AM (c * d):=by simp only [CK,hc,hd,Int.reduceEq,lx6,lx7,↓reduceIte]
 have x3:=Ac9 (c * d)
 exact TH (a5 x1 x2 hu x3 w1)
 all_goals done):P:=h
theorem Bda {P:Prop} (h:P:=by
 subst h15
 have hu:CK 15 a b=AM (c+d):=by simp only [CK,hc,hd,Int.reduceEq,lx6,lx7,↓reduceIte]
 have x3:=Ac9 (c+d)
 exact TH (a5 x1 x2 hu x3 w2)
 all_goals done):P:=h
theorem Bdb {P:Prop} (h:P:=by
 subst h16
 have hu:CK 16 a b=AM (c - d):=by simp only [CK,hc,hd,Int.reduceEq,lx6,lx7,↓reduceIte]
 have x3:=Ac9 (c - d)
 exact TH (a5 x1 x2 hu x3 w3)
 all_goals done):P:=h
theorem Auv {P:Prop} (h:P:=by
 all_goals try exact ⟨.refl _,J3 _ _ _ _⟩
 all_goals first | (rw [Bx]; exact ⟨.inr (.inl rfl),J3 _ _ _ _⟩) | exact J3 _ _ _ _ | exact .refl _ | exact Jp _ _ | skip
 all_goals done):P:=h
theorem Anj {P:Prop} (h:P:=by
 refine n4'.weaken ?_
 intro k v _ hk
 have hlt:=(lx22.1 hk).1
 simp only [Array.toList_append,lx64]
 rw [lx61 (by simpa using hlt)]
 exact hk):P:=h
theorem Auw {P:Prop} (h:P:=by
 rw [c1,Oi] at hb2
 simp (maxSteps:=10000000) only [Cg,EX,Nat.reduceAdd,Nat.reduceEqDiff,↓reduceIte,BO]
 exact MU (a7 h1 hi hv c1 hb2 e @LN)
 all_goals done):P:=h
theorem Ank {P:Prop} (h:P:=by
 subst hz
 rw [if_pos rfl] at hu
 exact TH (a3 x1 x2 hu)
 all_goals done):P:=h
theorem Aux {P:Prop} (h:P:=by
 have e:=JN (p:=p) hr' hv hn
 rw [hx] at hv
 simp (maxSteps:=10000000) only [Cg,EX,Nat.reduceAdd,Nat.reduceEqDiff,↓reduceIte,BO]
 exact MU (a6 h1 h2 hx e1 hv e)):P:=h
theorem Auy {P:Prop} (h:P:=by
 have e:=JN (p:=p) hr' hv hn
 rw [hx] at hv
 simp (maxSteps:=10000000) only [Cg,EX,Nat.reduceAdd,Nat.reduceEqDiff,↓reduceIte,BO]
 exact TH (a6 h1 h2 hx e1 hv e)):P:=h
theorem Qv {P:Prop} (h:P:=by
 exact ⟨s,e,E,cnt+1,sT,finK hs hE⟩):P:=h
theorem Anl {P:Prop} (h:P:=by
 obtain ⟨P,ver,c1,E1⟩:=G 2 2 rfl (by omega)
 have hl1:=L 2
 have E2:=F (An t 2 b).2 3 3 rfl (by omega) (by omega) (M 2)
 generalize An t 2 b=V at hl1 E1 E2 ⊢
 exact sA):P:=h
theorem Anm {P:Prop} (h:P:=by
 obtain ⟨P,ver,c1,E1⟩:=G 1 1 rfl (by omega)
 have hl1:=L 1
 have E2:=F (An t 1 b).2 2 2 rfl (by omega) (by omega) (M 1)
 generalize An t 1 b=V at hl1 E1 E2 ⊢
 exact sA):P:=h
theorem Auz {P:Prop} (h:P:=by
 refine Aa ?_
 refine gF1 (a4 w1 h1 h2 hx) ?_
 repeat' (first | exact Ae (by kernel_rfl) | refine ⟨Ae (by kernel_rfl),?_⟩ | refine And.intro ?_ ?_ | fail)
 all_goals done):P:=h
theorem Av0 {P:Prop} (h:P:=by
 simp (maxSteps:=10000000) only [Cg,EX,Nat.reduceAdd,Nat.reduceEqDiff,↓reduceIte,BO]
 simp only [V7,ZR,V8,ZS,and_self,Ay]):P:=h
theorem Av1 {P:Prop} (h:P:=by
 unfold Fj
 rw [lx80]
 by_cases h:i.toNat < c.ins.length
 ·rw [List.getElem?_replicate,if_pos h]; rfl
 ·rw [List.getElem?_replicate,if_neg h]; rfl):P:=h
theorem Av2 {P:Prop} (h:P:=by
 rcases DF i K with g | g
 ·exact g
 ·obtain rfl:i=K:=by omega
  rcases hN2 with ⟨g1,g2⟩ | ⟨g0,g1,g2⟩
  ·omega
  ·rw [g1] at hf; cases hf):P:=h
theorem Adk {P:Prop} (h:P:=by
 have:j=i:=by omega
 subst this
 rw [ho] at hoj; cases hoj
 rw [hp] at hpj; cases hpj):P:=h
theorem Av3 {P:Prop} (h:P:=by
 rcases DF i K with g | g
 ·rw [hK1 i hlt' g] at hf; cases hf
 ·obtain rfl:i=K:=by omega
  rcases hN2 with ⟨g1,g2⟩ | ⟨g0,g1,g2⟩ <;> omega):P:=h
theorem Ann {P:Prop} (h:P:=by
 have hk0:k - H'.length=0:=by
  have:=(lx22.1 hk).1
  simp at this; omega
 rw [hk0] at hk
 simp at hk
 exact .inr ⟨by omega,hk.symm⟩):P:=h
theorem Av4 {P:Prop} (h:P:=by
 refine Aa ?_
 cases b <;> simp (maxSteps:=10000000) +contextual -implicitDefEqProofs only [Bk,Bg,St.put,↓reduceIte,AB,AU,Gr]
 all_goals done):P:=h
theorem Av5 {P:Prop} (h:P:=by
 all_goals simp (maxSteps:=10000000) +contextual -implicitDefEqProofs only [Bk,Bg,St.put,↓reduceIte,Int.reduceEq,Nat.reduceBEq,AB,Int.reduceBEq,B6]
 all_goals done):P:=h
theorem Ano {P:Prop} (h:P:=by
 have hi:i < ds.length:=(lx22.1 hb).1
 have hci:=lx51 (l:=cs) (hl ▸ hi)
 exact ih i _ b hci hb (h1 i _ u hci hu)):P:=h
theorem Av6 {P:Prop} (h:P:=by
 simp (maxSteps:=10000000) only [Cg,EX,Nat.reduceAdd,Nat.reduceEqDiff,↓reduceIte,BO]
 exact MU (a6 h1 hi hv c1 e @LN)
 all_goals done):P:=h
theorem Anp {P:Prop} (h:P:=by
 refine .sl ⟨_,_,rfl⟩ fun hc1 h1=>?_
 cases h1
 refine ⟨hv',fun B h1 _ _=>?_⟩
 rw [hid] at h1
 cases h1
 exact ⟨by simp,.inl ⟨rfl,_,rfl⟩⟩):P:=h
theorem Anq {P:Prop} (h:P:=by
 repeat' (first | exact Ae (by kernel_rfl) | refine ⟨Ae (by kernel_rfl),?_⟩ | refine And.intro ?_ ?_ | fail)
 refine AD ?_ ?_ (Ax _) (ih _)
 all_goals exact qc5):P:=h
theorem Av7 {P:Prop} (h:P:=by
 obtain ⟨c',E4⟩:=Bf3 t ht 2 ins'.length a' 2 rfl (by omega) (by omega) g2 [⟨true,0,36,7,[.ag [.vw true [],.vw true [],.vw true [],.vw true [],.vw true [],.sc (.int .i64 0),.sc (.int .i64 0)]],false⟩,
  ⟨true,2,9,1,[stA goB,stA Ic],true⟩,⟨true,3,3,1,[.sc (.int .i64 p0),.sc (.int .i64 p1)],true⟩,⟨true,4,3,1,[.sc (.int .i64 0),.sc (.int .i64 5),.sc (.int .i64 (-3))],true⟩,
  ⟨true,5,36,7,[.ag [.sl 7 v7' 0 ins'.length,.sl 2 2 0 2,.sl 8 v8' 0 (ens.length+1),.sl 3 3 0 2,.sl 4 4 0 3,.sc (.int .i64 2),.sc (.int .i64 2)]],false⟩,⟨true,6,99,4,HB.map DP,true⟩,
  ⟨true,v7',102,2,ins'.map BS,false⟩,⟨true,v8',99,4,(ens++[(⟨k1,k2,k3,(ins.length:Int)⟩:En)]).map DP,false⟩] cnt'
 have hsl:=Ib t 2 ins'.length a'
 have hsa:=Oa ht 2 ins'.length g2
 rw [mkN] at g1
 simp only at g1
 obtain ⟨X,hX⟩:∃ X,(BV t 2 ins'.length a').1=X:=⟨_,rfl⟩
 obtain ⟨u,hu⟩:∃ u,(BV t 2 ins'.length a').2=u:=⟨_,rfl⟩
 rw [hX] at hsl
 rw [hu] at hsa
 simp only [hX,hu] at E4 g1
 exact Bcn):P:=h
theorem Av8 {P:Prop} (h:P:=by
 have h1:decide ((r:Int) < (c.ens.length:Int))=true:=by rw [AR]; omega
 have h2:decide (r < c.ens.length)=true:=by rw [AR]; omega
 have w1:IntKind.i64.wrap ((r:Int)+1)=((r+1:Nat):Int):=by rw [Bd (by omega) (by omega)]; omega
 have ih:=fun v c'=>ih (r+1) c' ⟨by omega,v⟩ (by omega)
 have hfa:=fun h=>Am3 (p:=Ahu mo tr ix) hr' h hn
 have htn:=fun h=>Cl (p:=fun j=>Ahu mo tr ix (c.ens.getD j default)=false) hn h
 obtain ⟨x,hx⟩:∃ x,c.ens.getD r default=x:=⟨_,rfl⟩
 rw [hx] at hfa htn
 obtain ⟨b1,hb1⟩:∃ b,(x.mo == mo)=b:=⟨_,rfl⟩
 obtain ⟨b2,hb2⟩:∃ b,(x.tr == tr)=b:=⟨_,rfl⟩
 obtain ⟨b3,hb3⟩:∃ b,(x.ix == ix)=b:=⟨_,rfl⟩
 rw [Ahu,hb1,hb2,hb3] at hfa htn
 exact Bcr):P:=h
theorem Qw {P:Prop} (h:P:=by
 refine AD ?_ ?_ (Ax _) (ih (r+1) cnt ⟨by omega,e⟩ (by omega))
 ·exact IZ
 ·trivial):P:=h
theorem Av9 {P:Prop} (h:P:=by
 by_cases h23:k=23
 ·subst h23
  have hu:CK 23 a b=Gr ((c != 0) && (d != 0)):=by simp only [CK,hc,hd,Int.reduceEq,lx6,lx7,↓reduceIte]
  exact Au1
 by_cases h24:k=24
 ·subst h24
  have hu:CK 24 a b=Gr ((c != 0) || (d != 0)):=by simp only [CK,hc,hd,Int.reduceEq,lx6,lx7,↓reduceIte]
  exact Au1
 have b12:(k == 12)=false:=by rw [lx113]; exact h12
 have b13:(k == 13)=false:=by rw [lx113]; exact h13
 exact Bco):P:=h
theorem Ava {P:Prop} (h:P:=by
 have key:∀ n,n≤64→(∀ j,j < n→j < (Q j).2.length)∨∃ K,K≤64∧(∀ j,j < K→j < (Q j).2.length)∧(Q K).2.length=K:=by
  intro n
  induction n with
  | zero=>intro _; exact .inl fun j hj=>absurd hj (by omega)
  | succ n ih=>
   exact Bd3
 rcases key 64 (Ax _) with g | ⟨K,g1,g2,g3⟩
 ·exact ⟨64,Ax _,g,.inl rfl⟩
 ·exact ⟨K,g1,g2,.inr g3⟩):P:=h
theorem IM {P:Prop} (h:P:=by
 rw [e]; exact hnx _ _ (by simp [Bz,B6])):P:=h
theorem Adl {P:Prop} (h:P:=by
 all_goals simp (maxSteps:=10000000) only [Bk,Bg,↓reduceIte,reduceCtorEq,Nat.reduceAdd,Nat.reduceEqDiff,Cg,EX]
 all_goals done):P:=h
theorem Avb {P:Prop} (h:P:=by
 have c4:decide ((0:Int) < (k:Int))=false:=by rw [BJ]; omega
 rw [c4,W1] at hY
 rw [hY] at hb
 have ih:=ih hb
 simp (maxSteps:=10000000) only [Cg,EX,Nat.reduceAdd,Nat.reduceEqDiff,↓reduceIte,BO]
 refine Yr (I8 g1 g2 ho c1 c2 x4 x3 c3 c4 w1 @Bl @AL @Bq) ?_
 exact Au2):P:=h
theorem Anr {P:Prop} (h:P:=by
 subst t2
 obtain ⟨a1,w1,⟨X1,loc1,q1,q2⟩,q3⟩:=Gh (Q:=fun a' w'=>∃ X' loc',SR w' X' loc' s1 a'∧Evo w X ((tr 0).hc loc) w' X' (s1.hc loc'))
  (NA hE hm (id:=id) hD t1 hs (fun a' w' X' loc' k1 k2=>⟨rfl,X',loc',by rw [←t3]; exact k1,by rw [←t3]; exact k2⟩)) b k cs
 exact Aqm):P:=h
theorem Ans {P:Prop} (h:P:=by
 repeat' (first | exact Ae (by kernel_rfl) | refine ⟨Ae (by kernel_rfl),?_⟩ | refine And.intro ?_ ?_ | fail)
 refine AD ?_ ?_ (Ax _) (ih (cnt+1+1) _)
 all_goals exact qc5):P:=h
theorem Avc {P:Prop} (h:P:=by
 subst h18
 have hu:CK 18 a b=Gr (decide (c≤d)):=by simp only [CK,hc,hd,Int.reduceEq,lx6,lx7,↓reduceIte]
 have x3:=Wx (decide (c≤d))
 exact Aay):P:=h
theorem Avd {P:Prop} (h:P:=by
 subst h20
 have hu:CK 20 a b=Gr (decide (d≤c)):=by simp only [CK,hc,hd,Int.reduceEq,lx6,lx7,↓reduceIte]
 have x3:=Wx (decide (d≤c))
 exact Aay):P:=h
theorem Ave {P:Prop} (h:P:=by
 subst h17
 have hu:CK 17 a b=Gr (decide (c < d)):=by simp only [CK,hc,hd,Int.reduceEq,lx6,lx7,↓reduceIte]
 have x3:=Wx (decide (c < d))
 exact Aay):P:=h
theorem Avf {P:Prop} (h:P:=by
 subst h19
 have hu:CK 19 a b=Gr (decide (d < c)):=by simp only [CK,hc,hd,Int.reduceEq,lx6,lx7,↓reduceIte]
 have x3:=Wx (decide (d < c))
 exact Aay):P:=h
theorem Avg {P:Prop} (h:P:=by
 subst h21
 have hu:CK 21 a b=Gr (c == d):=by simp only [CK,hc,hd,Int.reduceEq,lx6,lx7,↓reduceIte]
 have x3:=Wx (c == d)
 exact Aay):P:=h
theorem Avh {P:Prop} (h:P:=by
 subst h22
 have hu:CK 22 a b=Gr (c != d):=by simp only [CK,hc,hd,Int.reduceEq,lx6,lx7,↓reduceIte]
 have x3:=Wx (c != d)
 exact Aay):P:=h
theorem Ant {P:Prop} (h:P:=by
 have hE:RES.ens=ens++[⟨k1,k2,k3,(ins.length:Int)⟩]:=by
  rw [←hRES]; exact (Tv ht _ (Bc ht ha1l)).2.1
 rw [←g1] at hG hE
 exact Bcp):P:=h
theorem Avi {P:Prop} (h:P:=by
 refine Aa ?_
 by_cases h1:k=10
 ·subst h1
  have hu:Tl 10 a=-c:=by rw [Tl,if_pos rfl,hc']
  exact TH (a3 x1 w1 hu)
  all_goals done
 exact Bcv):P:=h
theorem Anu {P:Prop} (h:P:=by
 cases x <;> first | (simp [TI] at h; done) | skip
 simp only [TI,AH,lx85] at h
 obtain ⟨⟨⟨rfl,rfl⟩,rfl⟩,rfl⟩:=h
 rfl):P:=h
theorem Anv {P:Prop} (h:P:=by
 exact ⟨h.val,h.fit,h.cx,h.vl,h.va,by simp only [lx2]; exact h.ll,Ams h.lf _ (J4 (by decide)),h.ac,h.fa,h.lo,h.so⟩):P:=h
theorem Adm {P:Prop} (h:P:=by
 intro e he
 obtain ⟨i,hi⟩:=lx44.1 he
 exact (h5 i e hi).1):P:=h
theorem Adn {P:Prop} (h:P:=by
 simp only at g3' ⊢
 rw [g3'] at hlen
 exact List.length_eq_zero_iff.1 hlen.symm):P:=h
theorem Anw {P:Prop} (h:P:=by
 split at h
 ·simp only [lx24] at h
  obtain ⟨v,hv,rfl⟩:=h
  exact Ak8 hE hs hv K Q hK
 ·exact Ak7 hE hs h K Q hK):P:=h
theorem Anx {P:Prop} (h:P:=by
 cases x <;> first | (simp [TI] at h; done) | skip
 simp only [TI,AH,lx85] at h
 obtain ⟨rfl,h2⟩:=h
 rw [JR _ _ h2]):P:=h
theorem Anz {P:Prop} (h:P:=by
 have hx:=h x (by simp [Op.operands])
 have hy:=h y (by simp [Op.operands])
 simp only [Au,←hx,←hy] at hs ⊢
 clear hx hy h
 exact Aqp):P:=h
theorem Avj {P:Prop} (h:P:=by
 simp (maxSteps:=10000000) +contextual -implicitDefEqProofs only [Bk,Bg,St.put,↓reduceIte,Int.reduceLE,AB,B6,h,g]
 all_goals done):P:=h
theorem Avk {P:Prop} (h:P:=by
 rcases hK2 with ⟨g1,g2⟩ | ⟨g0,g1,g2⟩
 ·exact ⟨K,hK,g2,.inl ⟨g1,rfl⟩⟩
 ·exact ⟨K+1,g0,g2,.inr ⟨g0,g1,rfl⟩⟩):P:=h
theorem Qx {P:Prop} (h:P:=by
 cases o.dst <;> exact ⟨rfl,rfl⟩):P:=h
theorem Avl {P:Prop} (h:P:=by
 simp (maxSteps:=10000000) only [Cg,EX,Nat.reduceAdd,Nat.reduceEqDiff,↓reduceIte,BO]
 exact MU (a2 e @Ac)
 all_goals done):P:=h
theorem Ado {P:Prop} (h:P:=by
 have:=k4
 unfold World.shape? at this
 rw [m2] at this
 simpa using this.symm):P:=h
theorem Ao0 {P:Prop} (h:P:=by
 unfold Oper.wp
 rw [h1]
 rcases h2 with h2 | ⟨h2,h5⟩
 ·rw [h2]; exact hK _ _ X' loc' h3 h4
 ·rw [h2]; subst h5; exact hK _ _ X' loc' h3 h4):P:=h
theorem Avm {P:Prop} (h:P:=by
 rw [lx115 hlt,lx80,lx51 hlt,lx12,lx4]; rfl):P:=h
theorem Ao1 {P:Prop} (h:P:=by
 obtain ⟨A1,k1,k2,_⟩:=key j B1 e1 e3
 obtain ⟨A2,l1,l2,_⟩:=key j' B2 e2 e4
 exact h1.inj _ _ A1 A2 b' o o' k1 l1 k2 l2 e5 e6):P:=h
theorem Ao2 {P:Prop} (h:P:=by
 rw [lx80,lx80,lx51 h1,lx51 h2] at this
 exact this):P:=h
theorem Ao3 {P:Prop} (h:P:=by
 simp (maxSteps:=10000000) only [Bk,Bg,↓reduceIte,reduceCtorEq,Nat.reduceAdd,Nat.reduceEqDiff,Cg,EX,givT]
 all_goals done):P:=h
theorem Ao4 {P:Prop} (h:P:=by
 simp (maxSteps:=10000000) only [Bk,Bg,↓reduceIte,reduceCtorEq,Nat.reduceAdd,Nat.reduceEqDiff,Cg,EX,Aj6]
 all_goals done):P:=h
theorem Ao5 {P:Prop} (h:P:=by
 have hi:=(lx22.1 hd).1
 have hci:=lx51 (hl ▸ hi)
 exact ih i _ d hci hd (g2 i _ u hci hu)):P:=h
theorem Ao6 {P:Prop} (h:P:=by
 unfold Builtin.len_
 simp only [lx39,lx45,Ai,Ar,f2,lx17,Ak]):P:=h
theorem Adp {P:Prop} (h:P:=by
 intro args r hr
 obtain ⟨x,hq,rfl,rfl⟩:=Akg hr
 exact h x hq):P:=h
theorem Adq {P:Prop} (h:P:=by
 obtain ⟨B1,o1,k1,_⟩:=g3.fresh id B b o e1 e2 e3 hb0
 simp at k1):P:=h
theorem Ao7 {P:Prop} (h:P:=by
 simp (maxSteps:=10000000) only [Cg,EX,Nat.reduceAdd,Nat.reduceEqDiff,↓reduceIte,BO]
 refine I5 hb ?_
 exact WY):P:=h
theorem TP {P:Prop} (h:P:=by
 rintro ⟨id,B,o,h1,_⟩
 simp at h1):P:=h
theorem Ao8 {P:Prop} (h:P:=by
 cases h
 rw [hev] at hx
 generalize hq:a.eval x=c at hx
 refine ⟨c,?_,hx⟩
 cases hx
 unfold execOp
 simp only [ho,hq]; rfl):P:=h
theorem Ao9 {P:Prop} (h:P:=by
 refine .pt rfl ?_
 intro hc1 he
 cases he
 refine ⟨by simp,fun B e1 e2 e3=>?_⟩
 exact ⟨w.heap.size,0,by simp,by simp⟩):P:=h
theorem Aoa {P:Prop} (h:P:=by
 simp only [lx24] at hs
 obtain ⟨v,hv,rfl⟩:=hs
 exact ⟨v,by rw [Bn],by rw [hv]; simp [Bn]⟩):P:=h
theorem Aob {P:Prop} (h:P:=by
 simp only [W0,Em,lx7,Ai,GZ,lx17,hg,TO,lx6]
 rfl):P:=h
theorem Aoc {P:Prop} (h:P:=by
 obtain ⟨b,hb,h⟩:=C4 h
 obtain ⟨a',rfl,rfl⟩:=PI ha
 obtain ⟨b',rfl,rfl⟩:=PI hb
 rw [←h]; rfl):P:=h
theorem Adr {P:Prop} (h:P:=by
 simp only [IntKind.wrap,IntKind.bits,IntKind.signed]; simp; omega):P:=h
theorem Ads {P:Prop} (h:P:=by
 refine AD ?_ ?_ (Ax _) (ih2 v _)
 all_goals exact Aqn):P:=h
theorem Aod {P:Prop} (h:P:=by
 rintro b ⟨id,B,o,e1,e2,e3⟩ hb0
 obtain ⟨B1,o1,k1,_⟩:=g3.fresh id B b o e1 e2 e3 (hx b hb0)
 simp at k1):P:=h
theorem Aoe {P:Prop} (h:P:=by
 cases e1; exact ⟨_,rfl,rfl,Ax _,(show 10 < 11 by decide),rfl,rfl,rfl,II (els:=[]) rfl rfl⟩):P:=h
theorem Adt {P:Prop} (h:P:=by
 have:(m+1≤j)↔(m≤j):=by omega
 simp only [this]):P:=h
theorem Adu {P:Prop} (h:P:=by
 refine AD ?_ (AS _) (Ax _) ih3
 exact Au9):P:=h
theorem Aof {P:Prop} (h:P:=by
 have hx:=hm x (by simp)
 have hy:=hm y (by simp)
 simp only [←hx,←hy] at hs ⊢
 clear hx hy hm h
 exact Auh):P:=h
theorem Aog {P:Prop} (h:P:=by
 rw [lx80,lx51 hla] at hA
 rw [lx51 hla]
 simpa using hA):P:=h
theorem Yj {P:Prop} (h:P:=by
 simp (maxSteps:=10000000) only [Bk,Bg]):P:=h
theorem Aoh {P:Prop} (h:P:=by
 unfold Value.okWide at hok
 rw [hu] at hok
 obtain ⟨cs,rfl,_⟩:=hok
 simp only [TK,hu]
 exact Art h2 o):P:=h
theorem Aoi {P:Prop} (h:P:=by
 simp only [BZ,lx24] at h
 obtain ⟨l,hl',rfl⟩:=h
 rw [Ot cs hl' ⟨hl,h1⟩]):P:=h
theorem Aoj {P:Prop} (h:P:=by
 have:=hn j hj
 rw [lx80,lx51 (by omega)] at this
 simpa using this):P:=h
theorem Aok {P:Prop} (h:P:=by
 simp only [W0,Em,lx7,Ak,lx17,Kw]
 exact hrec):P:=h
theorem Avn {P:Prop} (h:P:=by
 simp only [AR] at h3
 rw [BU,GX (by omega:¬ s.fau≤2147483647)]; simp):P:=h
theorem Aol {P:Prop} (h:P:=by
 simp only [AO,opS,Int.reduceEq,lx6,lx7,↓reduceIte] at hf
 split at hf <;> exact .inl hf):P:=h
theorem Adv {P:Prop} (h:P:=by
 exact ⟨_,_,_,rfl,rfl,.inr ⟨by decide,rfl⟩⟩):P:=h
theorem Avo {P:Prop} (h:P:=by
 have h2:decide (r < l.length)=true:=by rw [AR]; omega
 have w1:IntKind.i64.wrap ((r:Int)+1)=((r+1:Nat):Int):=by rw [Bd (by omega) (by omega)]; omega
 have hm:=CM hr'
 obtain ⟨x,hx⟩:∃ x,l.getD r default=x:=⟨_,rfl⟩
 have e1:=he x (by rw [←hx]; exact hm)
 simp only [AB,AU] at e1
 by_cases hv:p (l.getD r default)=true
 ·exact Aux
 ·rw [GY] at hv
  have e:=Cl hn hv
  rw [hx] at hv
  simp (maxSteps:=10000000) only [Cg,EX,Nat.reduceAdd,Nat.reduceEqDiff,↓reduceIte,BO]
  refine Nw (a6 h1 h2 hx e1 hv w1) ?_
  exact Qw):P:=h
theorem I7 {P:Prop} (h:P:=by
 refine AD ?_ ?_ (Ax _) (ih _)
 all_goals exact qc5):P:=h
theorem Aom {P:Prop} (h:P:=by
 by_cases hv:p (l.getD r default)=true
 ·exact Auy
 ·rw [GY] at hv
  have e:=Cl hn hv
  rw [hx] at hv
  simp (maxSteps:=10000000) only [Cg,EX,Nat.reduceAdd,Nat.reduceEqDiff,↓reduceIte,BO]
  refine gF1 (a6 h1 h2 hx e1 hv w1) ?_
  exact Qw):P:=h
theorem Aon {P:Prop} (h:P:=by
 obtain ⟨r,rfl⟩:∃ q,r=q+1:=⟨r - 1,by omega⟩
 have c1:decide ((0:Int) < ((r+1:Nat):Int))=true:=by rw [AR]; omega
 have w2:IntKind.i64.wrap (((r+1:Nat):Int) - 1)=(r:Int):=by rw [Bd (by omega) (by omega)]; omega
 exact Av7):P:=h
theorem Avp {P:Prop} (h:P:=by
 rw [h7] at x4
 have ih:=fun c=>ih (k+1) c ⟨by omega,Cl hn h7⟩ (by omega)
 simp (maxSteps:=10000000) only [Cg,EX,Nat.reduceAdd,Nat.reduceEqDiff,↓reduceIte,BO]
 refine Nw (Hd h3 h4 h5 h6 w1 w2 ha hb x4 @Cf @Ac @Dk) ?_
 exact Anq):P:=h
theorem Avq {P:Prop} (h:P:=by
 have e:=Cl hn hb2
 simp only [Wn,hv,J7] at hb2
 simp (maxSteps:=10000000) only [Cg,EX,Nat.reduceAdd,Nat.reduceEqDiff,↓reduceIte,BO]
 refine Nw (a7 h1 hi hv hb2.1 hb2.2 w1 @LN) ?_
 exact Qw):P:=h
theorem Avr {P:Prop} (h:P:=by
 by_cases h17:k=17
 ·exact Ave
 by_cases h18:k=18
 ·exact Avc
 by_cases h19:k=19
 ·exact Avf
 by_cases h20:k=20
 ·exact Avd
 by_cases h21:k=21
 ·exact Avg
 by_cases h22:k=22
 ·exact Avh
 exact Av9):P:=h
theorem Aoo {P:Prop} (h:P:=by
 rintro r cnt ⟨hr,hn⟩ ih
 refine Aa ?_
 by_cases hr':r < l.length
 ·have h1:decide ((r:Int) < (l.length:Int))=true:=by rw [AR]; omega
  exact Avo
 ·exact qc8):P:=h
theorem Ah {P:Prop} (h:P:=by
 omega):P:=h
theorem E6 {P:Prop} (h:P:=by
 simp; omega):P:=h
theorem Yk {P:Prop} (h:P:=by
 rw [←Array.toList_inj]; simpa using hat):P:=h
theorem Yl {P:Prop} (h:P:=by
 rw [←Array.toList_inj]; simpa using har):P:=h
theorem Br {P:Prop} (h:P:=by
 simp):P:=h
theorem TQ {P:Prop} (h:P:=by
 rw [←h1]; exact (lx22.1 hx).1):P:=h
theorem Aj {P:Prop} (h:P:=by
 rw [AR]; omega):P:=h
theorem AK {P:Prop} (h:P:=by
 rw [Bd (by omega) (by omega)]; omega):P:=h
theorem Ke {P:Prop} (h:P:=by
 rw [BJ]; omega):P:=h
theorem Ym {P:Prop} (h:P:=by
 rw [List.map_set]; rfl):P:=h
theorem Adw {P:Prop} (h:P:=by
 rw [lx12]; rfl):P:=h
theorem Yn {P:Prop} (h:P:=by
 rw [Bd (by omega) (by omega)]):P:=h
theorem TR {P:Prop} (h:P:=by
 rw [AR]; exact ho1):P:=h
theorem Adx {P:Prop} (h:P:=by
 rw [lx113]; exact Hd):P:=h
theorem Aop {P:Prop} (h:P:=by
 simp only [CK,hc,hd,Int.reduceEq,lx6,lx7,↓reduceIte]):P:=h
theorem Ady {P:Prop} (h:P:=by
 rw [decide_eq_decide]; omega):P:=h
theorem Yo {P:Prop} (h:P:=by
 rw [AR]; exact j1):P:=h
theorem Yp {P:Prop} (h:P:=by
 rw [AR]; exact j2):P:=h
theorem Om {P:Prop} (h:P:=by
 have:=htk; simp [B6] at this; omega):P:=h
theorem Avs {P:Prop} (h:P:=by
 have:=(lx22.1 g1).1; simp only [lx53,lx63] at this; omega):P:=h
theorem Aoq {P:Prop} (h:P:=by
 rw [lx58,lx68]; omega):P:=h
theorem Avt {P:Prop} (h:P:=by
 rw [lx80,lx51 hlt]; exact lx90 hlt):P:=h
theorem CL {P Q:Prop} (h:Q) (f:Q→P:=by
 intro h
 simp (maxSteps:=10000000) only [Cg,EX,Nat.reduceAdd,Nat.reduceEqDiff,↓reduceIte,BO]
 exact h):P:=f h
theorem qd2 {P Q:Prop} (h:Q) (f:Q→P:=by
 intro h
 simp only [NP,SH,SI,SJ,SK,SL,SM,SN,SO,SP,SQ,NQ,LF,SU,NR,LG,NS,Nat.reduceEqDiff,↓reduceIte,lx117,lx11,lx124,lx125,hw1,hw2,Nat.reduceAdd,Nat.reduceEqDiff,lx6,lx7,↓reduceIte,BO]
 exact h):P:=f h
theorem Yq {P Q:Prop} (h:Q) (f:Q→P:=by
 intro h
 simp only [AO,opS,Int.reduceEq,lx6,lx7,↓reduceIte,I4,NI,Hh,Hb,or_self,GH,false_or,or_true,true_or]
 exact h):P:=f h
theorem qd4 {P Q:Prop} (h:Q) (f:Q→P:=by
 intro h
 refine Aa ?_
 simp (maxSteps:=10000000) +contextual -implicitDefEqProofs only [Bk,Bg,St.put,D5,AB]
 exact h):P:=f h
theorem qd5 {P Q:Prop} (h:Q) (f:Q→P:=by
 intro h
 simp only [lx91,lx64,lx53,lx63,Nat.reduceAdd]
 exact h):P:=f h
theorem qd6 {P Q:Prop} (h:Q) (f:Q→P:=by
 intro h
 simp only [Tryz.f43,Af,lx53,lx63,Nat.reduceAdd,Nat.reduceSub,List.replicate]
 simp only [MI,LX]
 exact h):P:=f h
theorem qd7 {P Q:Prop} (h:Q) (f:Q→P:=by
 intro h
 simp only [Cg,EX,hz1,hz2,tv,Akx,ZE,Akm,Akq,Akn,Ako,Akr,Aks,Akt,Aku,Akv,Akp,Agd,Abm,Age,Abn,Akw,Nat.reduceAdd,Nat.reduceEqDiff,Nat.reduceLT,Nat.reduceLeDiff,↓reduceIte,and_self,D3,false_and,Ay,lx73,lx92,lx42,List.take_nil,lx6,lx7,reduceCtorEq,BO,dead]
 exact h):P:=f h
theorem qd8 {P Q:Prop} (h:Q) (f:Q→P:=by
 intro h
 simp only [Cg,EX,NP,SH,SI,SJ,SK,SL,SM,SN,SO,SP,SQ,NQ,LF,SU,NR,LG,NS,Nat.reduceEqDiff,↓reduceIte,lx117,lx11,lx124,lx125,Nat.reduceAdd,Nat.reduceEqDiff,lx6,lx7,↓reduceIte,BO]
 exact h):P:=f h
theorem Ajz {P Q:Prop} (h:Q) (f:Q→P:=by
 intro h
 simp only [Tryz.f83,Af,lx53,lx63,Nat.reduceAdd,Nat.reduceSub,List.replicate]
 exact h):P:=f h
theorem Aqv {P Q:Prop} (h:Q) (f:Q→P:=by
 intro h
 simp only [Tryz.f208,Af,lx53,lx63,Nat.reduceAdd,Nat.reduceSub,List.replicate]
 simp only [C5,Mb]
 refine Aa ?_
 exact h):P:=f h
theorem Aqw {P Q:Prop} (h:Q) (f:Q→P:=by
 intro h
 simp only [Tryz.f113,Af,lx53,lx63,Nat.reduceAdd,Nat.reduceSub,List.replicate]
 simp only [C5,Mb]
 refine Aa ?_
 exact h):P:=f h
theorem Aaz {P Q:Prop} (h:Q) (f:Q→P:=by
 intro h
 refine Aa ?_
 simp only [WZ,lx91,lx64]
 exact h):P:=f h
theorem Aqx {P Q:Prop} (h:Q) (f:Q→P:=by
 intro h
 refine .cond false rfl ?_
 rw [if_neg (by simp)]
 exact h):P:=f h
theorem Aqy {P Q:Prop} (h:Q) (f:Q→P:=by
 intro h
 simp only [Tryz.f152,Af,lx53,lx63,Nat.reduceAdd,Nat.reduceSub,List.replicate]
 refine Aa ?_
 exact h):P:=f h
theorem Aqz {P Q:Prop} (h:Q) (f:Q→P:=by
 intro h
 simp only [Tryz.f54,Af,lx53,lx63,Nat.reduceAdd,Nat.reduceSub,List.replicate]
 refine Aa ?_
 exact h):P:=f h
theorem Avw {P Q:Prop} (h:Q) (f:Q→P:=by
 intro h
 refine Ab (Aq ((.cons ok .nil)) (.nil)) rfl Tryz.func159 rfl (by decide) (by kernel_rfl) (by kernel_rfl) ?_
 simp only [Tryz.f159,Af,lx53,lx63,Nat.reduceAdd,Nat.reduceSub,List.replicate]
 exact h):P:=f h
theorem W3 {P Q:Prop} (h:Q) (f:Q→P:=by
 intro h
 simp only [Ags,Al6,Ay]
 exact h):P:=f h
theorem Avx {P Q:Prop} (h:Q) (f:Q→P:=by
 intro h
 simp (maxSteps:=10000000) +contextual -implicitDefEqProofs only [Bk,Bg,St.put,↓reduceIte,D5,AU,h1]
 exact h):P:=f h
theorem Avy {P Q:Prop} (h:Q) (f:Q→P:=by
 intro h
 simp only [lx91,lx64]
 exact h):P:=f h
theorem Avz {P Q:Prop} (h:Q) (f:Q→P:=by
 intro h
 simp only [Tryz.f158,Af,lx53,lx63,Nat.reduceAdd,Nat.reduceSub,List.replicate]
 simp only [C5,Mb]
 refine Aa ?_
 exact h):P:=f h
theorem Ar0 {P Q:Prop} (h:Q) (f:Q→P:=by
 intro h
 refine ⟨P,c2+2,c2+3,?_⟩
 rw [←lx4 R P,hQ,hQl]
 exact h):P:=f h
theorem Bdc {P Q:Prop} (h:Q) (f:Q→P:=by
 intro h
 refine Aa ?_
 refine CL ?_
 refine Nw (a2 h1 @Ac) ?_
 exact h):P:=f h
end Go.SX
