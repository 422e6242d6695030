/-
  Lemmas towards ModesFaults (joined texts: ED, FJ).
  Conditions: none.
-/
import Derived.Test.YtdjpkhjaibdogaaGreatK01
import Derived.Test.YtdjpkhjaibdogaaGreatK02
import Derived.Test.YtdjpkhjaibdogaaGreatK30
import Derived.Test.YtdjpkhjaibdogaaGreatK18
set_option linter.unusedSimpArgs false
set_option linter.unusedVariables false
set_option maxRecDepth 100000
set_option maxHeartbeats 8000000
namespace Go.Proofs.YtdjpkhjaibdogaaGreat
open Go Go.SX
attribute [local congr] ite_congr
theorem Hu {P:Program} {E:Env} {n0:Nat} {rs:List ResultVar} {R:AV→St→Prop} {k:List Item} {id:Nat} {ops:Array Oper} {t:Bool} {y:Code} {s:St} (s1:St) (h1:Vc P E n0 [] (fun _ s'=>s'=s1) [.code (.region id ops t)] s)
  (h2:Go P E n0 rs R (.code y::k) s1) (hq:E.perm id≠some []:=by (intro h; cases h)):Go P E n0 rs R (.code (.seq (.region id ops t) y)::k) s:=by
 cases h1 with
 | region hr h=>
  cases h with
  | fin _ hR=>subst hR; exact .seq (.region hr h2)
 | draw hpm hr h=>
  cases h with
  | fin _ hR=>
   subst hR
   cases hb:ops.toList.any Fb with
   | true=>exact .seq (.drawH hpm hb hr h2)
   | false=>exact .seq (.draw hpm (Ea _ _ _ _ hb hr) h2)
 | drawP hpm hr h=>
  cases h with
  | fin _ hR=>subst hR; exact .seq (.drawP hpm hr h2)
 | sem hpm=>exact absurd hpm hq
theorem WK (id ver:Nat) (els:List AV) (lo:Nat) (hlo:lo≤id):∀ (A B:List Blk) (i:Nat),i+A.length≤lo→∃ D,Ka id ver els lo i (A++B)=A++D
 | [],B,i,_=>⟨_,rfl⟩
 | b::A,B,i,h=>by
  simp only [lx53] at h
  obtain ⟨D,hD⟩:=WK id ver els lo hlo A B (i+1) (by omega)
  refine ⟨D,?_⟩
  rw [lx91,Ka,if_neg (by omega),if_pos (by omega),hD]
  rfl
theorem Ai6 (t:Tp) (ht:TpOk t) (d base a:Nat) (hd:d≤5) (hb:base+100 * d≤10000) (ha:a≤200) (R:List Blk) (cnt:Nat):
  ∃ cnt',HSpec Tryz.prog 43 [.pt 0 t.v 0 0,.sc (.int .i64 (base:Int)),.sc (.int .i64 (d:Int))] (NH t a::R) cnt (.vw false ((BV t d base a).1.map BS)) (NH t (BV t d base a).2::R) cnt':=by
 obtain ⟨P,ver,c',h⟩:=R4 t ht d base a hd hb ha R cnt
 refine ⟨c',?_⟩
 have h1:=h.frz (R.length+1) (R.length+P.length+1) (PY ver (BV t d base a).1) (by
  rw [lx54,←lx4,←lx5]; exact JB _ _ _) rfl (by simp) (KO _)
 obtain ⟨D,hD⟩:=WK (R.length+P.length+1) ver ((BV t d base a).1.map BS) (R.length+1) (by omega) (NH t (BV t d base a).2::R) (P++[PY ver (BV t d base a).1]) 0 (by simp)
 have h2:Agc (R.length+P.length+1) ver ((BV t d base a).1.map BS) (.sl (R.length+P.length+1) ver 0 (BV t d base a).1.length)=.vw false ((BV t d base a).1.map BS):=by
  rw [ZE,if_pos ⟨rfl,rfl⟩,lx73,lx118 (by simp)]
 simp only [PY] at h1
 rw [h2] at h1
 rw [lx91] at hD
 simp only [PY] at hD
 rw [hD] at h1
 exact h1.wk (.refl _) (DY _ _ _) (Ax _)
def Ba1 (args:List AV) (H:List Blk) (cnt:Nat) (r:AV) (H':List Blk) (cnt':Nat):Prop:=
 ∀ (t:Tp) (a d base:Nat) (R:List Blk),args=[.pt 0 t.v 0 0,.sc (.int .i64 (base:Int)),.sc (.int .i64 (d:Int))]→H=NH t a::R→
  r=.vw false ((BV t d base a).1.map BS)∧H'=NH t (BV t d base a).2::R
noncomputable def Ba2:=hF Tryz.prog 43 Ba1
theorem Ba3:Ql Tryz.prog 43 Ba2:=LU _ _ _
theorem Bf3 (t:Tp) (ht:TpOk t) (d base a:Nat) (D:Int) (hD:D=(d:Int)) (hd:d≤5) (hb:base+100 * d≤10000) (ha:a≤200) (R:List Blk) (cnt:Nat):
  ∃ cnt',Ba2 [.pt 0 t.v 0 0,.sc (.int .i64 (base:Int)),.sc (.int .i64 D)] (⟨true,t.v,96,2,[.ag [.vw t.z (t.l.map uA),.sc (.int .i64 (a:Int))]],false⟩::R) cnt=
   some (.vw false ((BV t d base a).1.map BS),⟨true,t.v,96,2,[.ag [.vw t.z (t.l.map uA),.sc (.int .i64 ((BV t d base a).2:Int))]],false⟩::R,cnt'):=by
 subst hD
 obtain ⟨c',h⟩:=Ai6 t ht d base a hd hb ha R cnt
 obtain ⟨r,H',c',e,d'⟩:=LV (D:=Ba1) h (by
  intro t' a' d' b' R' h1 h2
  simp only [lx96,Ay,AV.sc.injEq,Value.int.injEq,D3] at h1 h2
  obtain ⟨⟨rfl,rfl⟩,rfl⟩:=And.intro (N8 h2.1) h2.2
  obtain rfl:d=d':=Ah
  obtain rfl:base=b':=Ah
  exact ⟨rfl,rfl⟩)
 obtain ⟨rfl,rfl⟩:=d' t a d base R rfl rfl
 exact ⟨c',e⟩
theorem XR (l:List In):Cz (l.map BS)=true:=Ep (f:=BS) (fun _=>by simp [BS,kA,AV.fresh,Cz]) l
theorem XS (l:List En):Cz (l.map DP)=true:=Ep (f:=DP) (fun _=>by simp [DP,kA,AV.fresh,Cz]) l
def HB:List En:=[⟨0,1,0,0⟩,⟨0,2,0,0⟩,⟨0,3,3,0⟩,⟨0,5,1,0⟩,⟨0,6,0,0⟩,⟨1,1,0,0⟩,⟨1,3,3,0⟩,⟨1,4,63,0⟩,⟨1,6,1,0⟩]
structure Mk where
 ins:List In
 ens:List En
 a:Nat
def mkN (t:Tp):Nat→Mk→Mk
 | 0,m=>m
 | n+1,m=>mkN t n ⟨m.ins++(BV t 2 m.ins.length m.a).1,m.ens,(BV t 2 m.ins.length m.a).2⟩
def KU (t:Tp) (i:Nat) (m:Mk) (a:Nat):Mk:=
 let m':=mkN t (Cn t a 4) ⟨m.ins,m.ens++[{ HB.getD i default with pc:=m.ins.length }],Bb t a⟩
 ⟨m'.ins++[⟨31,0⟩],m'.ens,m'.a⟩
def mkI (t:Tp) (i:Nat) (m:Mk):Mk:=
 if 0 < i then if Cn t m.a 2=0 then ⟨m.ins,m.ens,Bb t m.a⟩ else KU t i m (Bb t m.a) else KU t i m m.a
def Qd (t:Tp) (a:Nat):Nat→Mk
 | 0=>⟨[],[],a⟩
 | i+1=>mkI t i (Qd t a i)
structure MkOk (m:Mk) (i:Nat):Prop where
 ins:m.ins.length≤49 * i
 ens:m.ens.length≤i
 a:m.a≤200
theorem Tv {t:Tp} (ht:TpOk t):∀ (n:Nat) {m:Mk},m.a≤200→(mkN t n m).ins.length≤m.ins.length+16 * n∧(mkN t n m).ens=m.ens∧(mkN t n m).a≤200
 | 0,m,h=>⟨by simp [mkN],rfl,h⟩
 | n+1,m,h=>by
  have h1:=Oa ht 2 m.ins.length h
  have h2:=Ib t 2 m.ins.length m.a
  obtain ⟨g1,g2,g3⟩:=Tv ht n (m:=⟨m.ins++(BV t 2 m.ins.length m.a).1,m.ens,(BV t 2 m.ins.length m.a).2⟩) h1
  simp only [lx5] at g1
  exact ⟨by rw [mkN]; omega,g2,g3⟩
theorem Aag {t:Tp} (ht:TpOk t) {i:Nat} {m:Mk} (h:MkOk m i) {a:Nat} (ha:a≤200):MkOk (KU t i m a) (i+1):=by
 have hn:Cn t a 4 < 4:=Cc (by omega)
 obtain ⟨g1,g2,g3⟩:=Tv ht (Cn t a 4) (m:=⟨m.ins,m.ens++[{ HB.getD i default with pc:=m.ins.length }],Bb t a⟩) (Bc ht ha)
 have:=h.ins
 have:=h.ens
 refine ⟨?_,?_,g3⟩
 ·simp only [KU,lx5,lx53,lx63] at *; omega
 ·simp only [KU,g2,lx5,lx53,lx63]; omega
theorem Asw {t:Tp} (ht:TpOk t) {i:Nat} {m:Mk} (h:MkOk m i):MkOk (mkI t i m) (i+1):=by
 have h1:=h.ins
 have h2:=h.ens
 unfold mkI
 split
 ·split
  ·exact ⟨by simp only; omega,by simp only; omega,Bc ht h.a⟩
  ·exact Aag ht h (Bc ht h.a)
 ·exact Aag ht h h.a
theorem P1 {t:Tp} (ht:TpOk t) {a:Nat} (ha:a≤200):∀ i,MkOk (Qd t a i) i
 | 0=>⟨by simp [Qd],by simp [Qd],ha⟩
 | i+1=>Asw ht (P1 ht ha i)
def goB:ByteArray:=⟨#[103,111]⟩
def Ic:ByteArray:=⟨#[111,118,101,114]⟩
def tpL (z:Bool) (l:List Nat) (v:Nat):Tp:=⟨z && decide (min l.length 200=l.length),l.take 200,v⟩
def Hv (t:Tp):Cd:=
 let m:=Qd t (Bb t (Bb t 0)) 9
 ⟨false,m.ins,false,[goB,Ic],false,m.ens,false,[((Cn t 0 4:Nat):Int),((Cn t (Bb t 0) 4:Nat):Int)],false,[0,5,-3],2,2⟩
def R5 (d v:Nat) (c:Cd):AV:=.ag [.sl (d+0) v 0 c.ins.length,.sl (d+1) v 0 c.strs.length,.sl (d+2) v 0 c.ens.length,.sl (d+3) v 0 c.pri.length,.sl (d+4) v 0 c.vars.length,.sc (.int .i64 c.tim),.sc (.int .i64 c.evs)]
def R6 (v:Nat) (c:Cd):List Blk:=[⟨true,v,102,2,c.ins.map BS,false⟩,⟨true,v,9,1,c.strs.map stA,false⟩,⟨true,v,99,4,c.ens.map DP,false⟩,⟨true,v,3,1,c.pri.map (kA .i64),false⟩,⟨true,v,3,1,c.vars.map (kA .i64),false⟩]
theorem II {d:Nat} {σ:Nat→Nat} {c2:Nat} {H1:List Blk} {els:List AV} (hn:norefs els=true) (hj:Gj els=true):∀ (i:Nat) (e f:AV),els[i]?=some e→els[i]?=some f→f≠.jk∧Rn d σ c2 H1 e f:=by
 intro i e f h1 h2
 rw [h1] at h2; cases h2
 exact ⟨LB hj _ (lx25 h1),.nr (Fy hn _ (lx25 h1))⟩
def MN (l:List Nat) (j:Nat):Nat:=l.getD j 0
theorem Ai8 (l:List In):Gj (l.map BS)=true:=HU (f:=BS) (fun x=>by simp [BS]) l
theorem Ai9 (l:List En):Gj (l.map DP)=true:=HU (f:=DP) (fun x=>by simp [DP]) l
theorem Acl (z:Bool) (l:List Nat) (hu:∀ i,l.getD i default < 256) (H:List Blk) (cnt:Nat):HSpec Tryz.prog 14 [.vw z (l.map uA)] H cnt (R5 H.length cnt (Hv (tpL z l 1))) (H++R6 cnt (Hv (tpL z l 1))) (cnt+1):=by
 have ht:TpOk (tpL z l 1):=by
  exact Aul
 refine S9 (Am (lit:=false) (pm:=fun _=>none) .nil .nil .nil (.cons Qq (.cons Ba3 .nil))) rfl (MN [7,2,8,3,4]) Tryz.func14 rfl (by decide) (by kernel_rfl) (by simp [norefs,AV.noref,Acf]) ?_ (Nat.le_succ _) ?_
 ·intro i j Bi Bj h1 h2 _ _ h
  have hi:i < 5:=(lx22.1 h1).1
  have hj:j < 5:=(lx22.1 h2).1
  have h5:∀ k,k < 5→k=0∨k=1∨k=2∨k=3∨k=4:=Ah
  rcases h5 i hi with rfl | rfl | rfl | rfl | rfl <;> rcases h5 j hj with rfl | rfl | rfl | rfl | rfl <;> first | rfl | (simp [MN] at h)
 simp only [Tryz.f14,Af,lx53,lx63,Nat.reduceAdd,Nat.reduceSub,List.replicate]
 have hmn:min (l.length:Int) 200=((min l.length 200:Nat):Int):=Ah
 have g1:decide (((min l.length 200:Nat):Int)≤(l.length:Int))=true:=Aj
 have htk:List.take (min l.length 200) (l.map uA)=(l.take 200).map uA:=by rw [List.map_take,Nat.min_comm,←List.take_take,lx118 (l:=List.map uA l) (Nat.le_of_eq (lx58 _))]
 refine Hu ?s1 ?h1 ?h2
 case h1=>
  simp (maxSteps:=10000000) +contextual -implicitDefEqProofs only [Bk,Bg,St.put,Nat.reduceAdd,D5,Int.reduceAdd,Dq]
  rfl
 refine Hu ?s2 ?h3 ?h4
 case h3=>
  refine Nx (a4 hmn g1 htk @H9) ?_
  rfl
 refine AD (T':=Cg 0 83 [(2,.pt 0 0 0 0),(3,.pt 1 1 0 0)]) ?_ (AS _) (Ax _) ?_
 ·exact IZ
 refine Mu 0 1 (BX _) (BX _) (by simp) (by simp) ?_ ?_
 ·simp only [NP,SH,SI,SJ,SK,SL,SM,SN,SO,SP,SQ,NQ,LF,SU,NR,LG,NS,Nat.reduceEqDiff,↓reduceIte,lx117,lx11,lx124,lx125,RP,Px,LC,NO,ZC,Ol,Kw]
 refine qd8 ?_
 have hz:(z && decide (min l.length 200=l.length))=(tpL z l 1).z:=rfl
 have hll:List.take 200 l=(tpL z l 1).l:=rfl
 have hv:(tpL z l 1).v=1:=rfl
 rw [hz,hll]
 generalize tpL z l 1=t at ht hv ⊢
 clear hz hll hmn g1 htk hu
 have E1:=fun a n N h h1 h2 h3=>e42 t ht a n N h h1 h2 h3
 simp only [hv] at E1
 have hb1:=Bc ht (a:=0) (by omega)
 have hb2:=Bc ht hb1
 have E2:=E1 0 4 4 rfl (by omega) (by omega) (by omega)
 have E3:=E1 (Bb t 0) 4 4 rfl (by omega) (by omega) hb1
 rw [Int.natCast_zero] at E2
 refine Aa ?_
 refine Nx (a3 E2 E3 @Bew) ?_
 obtain ⟨a0,ha0⟩:∃ a0,Bb t (Bb t 0)=a0:=⟨_,rfl⟩
 obtain ⟨p0,hp0⟩:∃ p0,((Cn t 0 4:Nat):Int)=p0:=⟨_,rfl⟩
 obtain ⟨p1,hp1⟩:∃ p1,((Cn t (Bb t 0) 4:Nat):Int)=p1:=⟨_,rfl⟩
 have hRES:Hv t=⟨false,(Qd t a0 9).ins,false,[goB,Ic],false,(Qd t a0 9).ens,false,[p0,p1],false,[0,5,-3],2,2⟩:=by rw [←ha0,←hp0,←hp1]; rfl
 rw [hRES]
 clear E2 E3 hRES
 rw [ha0] at hb2
 simp only [ha0,hp0,hp1]
 refine AD (T':=Cg 0 83 [(2,.pt 1 0 0 0),(3,.pt 0 1 0 0),(4,.pt 5 5 0 0),(5,.sl 6 6 0 9),(6,.sc (.int .i64 0))]) ?_ (AS _) (Ax _) ?_
 ·exact IZ
 refine Ix (T':=Cg 0 83 [(2,.pt 1 0 0 0),(3,.pt 0 1 0 0),(4,.pt 5 5 0 0),(5,.sl 6 6 0 9),(6,.sc (.int .i64 0))])
  (H':=[⟨true,1,96,2,[.ag [.vw t.z (t.l.map uA),.sc (.int .i64 (a0:Int))]],false⟩,⟨true,0,36,7,[.ag [.vw true [],.vw true [],.vw true [],.vw true [],.vw true [],.sc (.int .i64 0),.sc (.int .i64 0)]],false⟩,
   ⟨true,2,9,1,[stA goB,stA Ic],true⟩,⟨true,3,3,1,[.sc (.int .i64 p0),.sc (.int .i64 p1)],true⟩,⟨true,4,3,1,[.sc (.int .i64 0),.sc (.int .i64 5),.sc (.int .i64 (-3))],true⟩,
   ⟨true,5,36,7,[.ag [.sl 7 7 0 0,.sl 2 2 0 2,.vw true [],.sl 3 3 0 2,.sl 4 4 0 3,.sc (.int .i64 2),.sc (.int .i64 2)]],false⟩,⟨true,6,99,4,HB.map DP,true⟩]) 7 102 2 8 (by omega) (by omega) (Ct _ _ _) ?_ ?_
 ·refine W3 ?_
  refine ⟨.inl rfl,.inl rfl,.inl rfl,.inl rfl,.inl rfl,Iy _ _ _ _ _ _ _ _ _ _ ?_,.inl rfl⟩
  exact ⟨Jr ⟨.nil,Ct _ _ _⟩,trivial⟩
 refine qd5 ?_
 refine Ix (T':=Cg 0 83 [(2,.pt 1 0 0 0),(3,.pt 0 1 0 0),(4,.pt 5 5 0 0),(5,.sl 6 6 0 9),(6,.sc (.int .i64 0))])
  (H':=[⟨true,1,96,2,[.ag [.vw t.z (t.l.map uA),.sc (.int .i64 (a0:Int))]],false⟩,⟨true,0,36,7,[.ag [.vw true [],.vw true [],.vw true [],.vw true [],.vw true [],.sc (.int .i64 0),.sc (.int .i64 0)]],false⟩,
   ⟨true,2,9,1,[stA goB,stA Ic],true⟩,⟨true,3,3,1,[.sc (.int .i64 p0),.sc (.int .i64 p1)],true⟩,⟨true,4,3,1,[.sc (.int .i64 0),.sc (.int .i64 5),.sc (.int .i64 (-3))],true⟩,
   ⟨true,5,36,7,[.ag [.sl 7 7 0 0,.sl 2 2 0 2,.sl 8 8 0 0,.sl 3 3 0 2,.sl 4 4 0 3,.sc (.int .i64 2),.sc (.int .i64 2)]],false⟩,⟨true,6,99,4,HB.map DP,true⟩,⟨true,7,102,2,[],false⟩]) 8 99 4 9 (by omega) (by omega) (Ct _ _ _) ?_ ?_
 ·refine W3 ?_
  refine ⟨.inl rfl,.inl rfl,.inl rfl,.inl rfl,.inl rfl,Iy _ _ _ _ _ _ _ _ _ _ ?_,.inl rfl,.inl rfl⟩
  exact ⟨Jr ⟨.refl _,.refl _,.nil,Ct _ _ _⟩,trivial⟩
 refine qd5 ?_
 have hkl:HB.length=9:=rfl
 refine Aw (σ:=Nat × Nat × Nat) (fun y cnt=>⟨Cg 0 83 [(2,.pt 1 0 0 0),(3,.pt 0 1 0 0),(4,.pt 5 5 0 0),(5,.sl 6 6 0 9),(6,.sc (.int .i64 (y.1:Int)))],
  [⟨true,1,96,2,[.ag [.vw t.z (t.l.map uA),.sc (.int .i64 ((Qd t a0 y.1).a:Int))]],false⟩,⟨true,0,36,7,[.ag [.vw true [],.vw true [],.vw true [],.vw true [],.vw true [],.sc (.int .i64 0),.sc (.int .i64 0)]],false⟩,
   ⟨true,2,9,1,[stA goB,stA Ic],true⟩,⟨true,3,3,1,[.sc (.int .i64 p0),.sc (.int .i64 p1)],true⟩,⟨true,4,3,1,[.sc (.int .i64 0),.sc (.int .i64 5),.sc (.int .i64 (-3))],true⟩,
   ⟨true,5,36,7,[.ag [.sl 7 y.2.1 0 (Qd t a0 y.1).ins.length,.sl 2 2 0 2,.sl 8 y.2.2 0 (Qd t a0 y.1).ens.length,.sl 3 3 0 2,.sl 4 4 0 3,.sc (.int .i64 2),.sc (.int .i64 2)]],false⟩,⟨true,6,99,4,HB.map DP,true⟩,
   ⟨true,y.2.1,102,2,(Qd t a0 y.1).ins.map BS,false⟩,⟨true,y.2.2,99,4,(Qd t a0 y.1).ens.map DP,false⟩],cnt⟩)
  (fun y=>y.1≤9) (fun y=>9 - y.1) (0,7,8) (BX _) (EM _) (AS _) rfl ?_
 rintro ⟨i,v7,v8⟩ cnt hi ih
 simp only at hi
 have hm:=P1 ht hb2 i
 have hmn:Qd t a0 (i+1)=mkI t i (Qd t a0 i):=rfl
 by_cases hi9:i < 9
 rotate_left
 ·obtain rfl:i=9:=by omega
  obtain ⟨mm,hmm⟩:∃ mm,Qd t a0 9=mm:=⟨_,rfl⟩
  simp only [hmm]
  obtain ⟨ins,ens,a⟩:=mm
  have h1:decide (((9:Nat):Int) < 9)=false:=by decide
  have ht1:List.take ins.length (ins.map BS)=ins.map BS:=lx118 (by simp)
  have ht2:List.take ens.length (ens.map DP)=ens.map DP:=lx118 (by simp)
  refine Aa ?_
  refine CL ?_
  simp (maxSteps:=10000000) +contextual -implicitDefEqProofs only [Bk,Bg,St.put,↓reduceIte,Nat.reduceAdd,Int.reduceLT,Nat.reduceLT,D5,Int.reduceAdd,Dq,AB,Dl,R5,R6]
  refine ⟨Ap7 ⟨.sl 0 v7 0 _ _ rfl rfl rfl (IY _),.sl 1 2 0 2 _ rfl rfl rfl (IY _),.sl 2 v8 0 _ _ rfl rfl rfl (IY _),.sl 3 3 0 2 _ rfl rfl rfl (IY _),.sl 4 4 0 3 _ rfl rfl rfl (IY _),.nr rfl,.nr rfl,trivial⟩,fun j B2 e1 e2=>?_⟩
  have hj:j < 5:=(lx22.1 e1).1
  have h5:j=0∨j=1∨j=2∨j=3∨j=4:=Ah
  rcases h5 with rfl | rfl | rfl | rfl | rfl
  ·cases e1; exact ⟨_,rfl,rfl,Ax _,IY _,rfl,rfl,rfl,II (KO _) (Ai8 _)⟩
  ·cases e1; exact ⟨_,rfl,rfl,Ax _,IY _,rfl,rfl,rfl,II (XD [goB,Ic]) rfl⟩
  ·cases e1; exact ⟨_,rfl,rfl,Ax _,IY _,rfl,rfl,rfl,II (XC _) (Ai9 _)⟩
  ·cases e1; exact ⟨_,rfl,rfl,Ax _,IY _,rfl,rfl,rfl,II (Cm [p0,p1]) rfl⟩
  ·cases e1; exact ⟨_,rfl,rfl,Ax _,IY _,rfl,rfl,rfl,II (Cm [0,5,-3]) rfl⟩
  all_goals done
 have ih:=fun v7 v8 c=>ih (i+1,v7,v8) c (by simp only; omega) (by simp only; omega)
 simp only [hmn] at ih
 obtain ⟨mm,hmm⟩:∃ mm,Qd t a0 i=mm:=⟨_,rfl⟩
 rw [hmm] at hm ih
 simp only [hmm]
 obtain ⟨ins,ens,a⟩:=mm
 have hi1:=hm.ins
 have hi2:=hm.ens
 have hi3:=hm.a
 simp only at hi1 hi2 hi3
 have h1:decide ((i:Int) < 9)=true:=Aj
 have h2:decide (i < HB.length)=true:=Aj
 have w1:IntKind.i64.wrap ((i:Int)+1)=((i+1:Nat):Int):=AK
 have E2:=E1 a 2 2 rfl (by omega) (by omega) hi3
 by_cases hskip:0 < i∧Cn t a 2=0
 ·have hr:mkI t i ⟨ins,ens,a⟩=⟨ins,ens,Bb t a⟩:=by rw [mkI,if_pos hskip.1,if_pos hskip.2]
  simp only [hr] at ih
  have h3:decide ((0:Int) < (i:Int))=true:=Aj
  rw [hskip.2] at E2
  refine Aa ?_
  refine CL ?_
  refine Nx (a5 h1 h3 w1 E2 @Dl) ?_
  refine AD ?_ ?_ (Ax _) (ih v7 v8 _)
  all_goals simp (maxSteps:=10000000) only [Bk,Bg,↓reduceIte,reduceCtorEq,Nat.reduceAdd,Nat.reduceEqDiff,Cg,EX,Dl]
  all_goals done
 obtain ⟨a1,ha1,hr⟩:∃ a1,(a1=if 0 < i then Bb t a else a)∧mkI t i ⟨ins,ens,a⟩=KU t i ⟨ins,ens,a⟩ a1:=by
  refine ⟨_,rfl,?_⟩
  rw [mkI]
  split
  ·rename_i h; rw [if_neg (fun h'=>hskip ⟨h,h'⟩)]
  ·rfl
 have ha1l:a1≤200:=by rw [ha1]; split; exact Bc ht hi3; exact hi3
 have E3:=E1 a1 4 4 rfl (by omega) (by omega) ha1l
 obtain ⟨key,hkey⟩:∃ key,HB.getD i default=key:=⟨_,rfl⟩
 obtain ⟨k1,k2,k3,k4⟩:=key
 have hsz:decide ((ens.length+1) * 32≤140737488355328)=true:=Aj
 have htk:List.take ens.length (ens.map DP)=ens.map DP:=lx118 (by simp)
 have hma:ens.map DP++[.ag [.sc (.int .i64 k1),.sc (.int .i64 k2),.sc (.int .i64 k3),.sc (.int .i64 (ins.length:Int))]]=(ens++[(⟨k1,k2,k3,(ins.length:Int)⟩:En)]).map DP:=Adw
 by_cases hi0:0 < i
 ·have h3:decide ((0:Int) < (i:Int))=true:=by rw [AR]; omega
  have h4:(((Cn t a 2:Nat):Int) == 0)=false:=by
   rw [lx113]
   intro h; exact hskip ⟨hi0,by omega⟩
  rw [if_pos hi0] at ha1
  rw [ha1] at E3 hr ha1l
  obtain ⟨RES,hRES⟩:∃ RES,mkN t (Cn t (Bb t a) 4) ⟨ins,ens++[⟨k1,k2,k3,(ins.length:Int)⟩],Bb t (Bb t a)⟩=RES:=⟨_,rfl⟩
  have hn4:Cn t (Bb t a) 4 < 4:=Cc (by omega)
  refine Aa ?_
  refine CL ?_
  refine Nx (I8 h1 h2 h3 h4 E2 E3 hkey hsz htk hma @Cf @Dl @AA) ?_
  generalize cnt+1+1=v8' at *
  refine Aw (σ:=Nat × Mk × Nat) (fun y cnt=>⟨Cg 0 83 [(2,.pt 1 0 0 0),(3,.pt 0 1 0 0),(4,.pt 5 5 0 0),(5,.sl 6 6 0 9),(6,.sc (.int .i64 (i:Int))),(8,.sc (.int .i64 (y.1:Int)))],
   [⟨true,1,96,2,[.ag [.vw t.z (t.l.map uA),.sc (.int .i64 (y.2.1.a:Int))]],false⟩,⟨true,0,36,7,[.ag [.vw true [],.vw true [],.vw true [],.vw true [],.vw true [],.sc (.int .i64 0),.sc (.int .i64 0)]],false⟩,
    ⟨true,2,9,1,[stA goB,stA Ic],true⟩,⟨true,3,3,1,[.sc (.int .i64 p0),.sc (.int .i64 p1)],true⟩,⟨true,4,3,1,[.sc (.int .i64 0),.sc (.int .i64 5),.sc (.int .i64 (-3))],true⟩,
    ⟨true,5,36,7,[.ag [.sl 7 y.2.2 0 y.2.1.ins.length,.sl 2 2 0 2,.sl 8 v8' 0 (ens.length+1),.sl 3 3 0 2,.sl 4 4 0 3,.sc (.int .i64 2),.sc (.int .i64 2)]],false⟩,⟨true,6,99,4,HB.map DP,true⟩,
    ⟨true,y.2.2,102,2,y.2.1.ins.map BS,false⟩,⟨true,v8',99,4,(ens++[(⟨k1,k2,k3,(ins.length:Int)⟩:En)]).map DP,false⟩],cnt⟩)
   (fun y=>mkN t y.1 y.2.1=RES∧y.2.1.a≤200∧y.2.1.ins.length+16 * y.1≤600) (fun y=>y.1) (Cn t (Bb t a) 4,⟨ins,ens++[⟨k1,k2,k3,(ins.length:Int)⟩],Bb t (Bb t a)⟩,v7) ⟨hRES,Bc ht ha1l,by simp only; omega⟩ ?_ ?_ rfl ?_
  ·exact IZ
  ·simp (maxSteps:=10000000) only [Bk,Bg,Dl]
  rintro ⟨r,⟨ins',ens',a'⟩,v7'⟩ cnt' ⟨g1,g2,g3⟩ ih2
  simp only at g1 g2 g3
  by_cases J8:0 < r
  ·exact Aon
  ·obtain rfl:r=0:=by omega
   have g1:(⟨ins',ens',a'⟩:Mk)=RES:=g1
   have hG:KU t i ⟨ins,ens,a⟩ (Bb t a)=⟨RES.ins++[⟨31,0⟩],RES.ens,RES.a⟩:=by
    rw [←hRES,KU]; simp only [hkey]
   exact Ant
 ·have h3:decide ((0:Int) < (i:Int))=false:=by rw [BJ]; omega
  rw [if_neg hi0] at ha1
  rw [ha1] at E3 hr ha1l
  obtain ⟨RES,hRES⟩:∃ RES,mkN t (Cn t a 4) ⟨ins,ens++[⟨k1,k2,k3,(ins.length:Int)⟩],Bb t a⟩=RES:=⟨_,rfl⟩
  have hn4:Cn t a 4 < 4:=Cc (by omega)
  refine Aa ?_
  refine CL ?_
  refine Nx (HH h1 h2 h3 E3 hkey hsz htk hma @Cf @Dl @AA) ?_
  generalize cnt+1+1=v8' at *
  refine Aw (σ:=Nat × Mk × Nat) (fun y cnt=>⟨Cg 0 83 [(2,.pt 1 0 0 0),(3,.pt 0 1 0 0),(4,.pt 5 5 0 0),(5,.sl 6 6 0 9),(6,.sc (.int .i64 (i:Int))),(8,.sc (.int .i64 (y.1:Int)))],
   [⟨true,1,96,2,[.ag [.vw t.z (t.l.map uA),.sc (.int .i64 (y.2.1.a:Int))]],false⟩,⟨true,0,36,7,[.ag [.vw true [],.vw true [],.vw true [],.vw true [],.vw true [],.sc (.int .i64 0),.sc (.int .i64 0)]],false⟩,
    ⟨true,2,9,1,[stA goB,stA Ic],true⟩,⟨true,3,3,1,[.sc (.int .i64 p0),.sc (.int .i64 p1)],true⟩,⟨true,4,3,1,[.sc (.int .i64 0),.sc (.int .i64 5),.sc (.int .i64 (-3))],true⟩,
    ⟨true,5,36,7,[.ag [.sl 7 y.2.2 0 y.2.1.ins.length,.sl 2 2 0 2,.sl 8 v8' 0 (ens.length+1),.sl 3 3 0 2,.sl 4 4 0 3,.sc (.int .i64 2),.sc (.int .i64 2)]],false⟩,⟨true,6,99,4,HB.map DP,true⟩,
    ⟨true,y.2.2,102,2,y.2.1.ins.map BS,false⟩,⟨true,v8',99,4,(ens++[(⟨k1,k2,k3,(ins.length:Int)⟩:En)]).map DP,false⟩],cnt⟩)
   (fun y=>mkN t y.1 y.2.1=RES∧y.2.1.a≤200∧y.2.1.ins.length+16 * y.1≤600) (fun y=>y.1) (Cn t (a) 4,⟨ins,ens++[⟨k1,k2,k3,(ins.length:Int)⟩],Bb t (a)⟩,v7) ⟨hRES,Bc ht ha1l,by simp only; omega⟩ ?_ ?_ rfl ?_
  ·exact IZ
  ·simp (maxSteps:=10000000) only [Bk,Bg,Dl]
  rintro ⟨r,⟨ins',ens',a'⟩,v7'⟩ cnt' ⟨g1,g2,g3⟩ ih2
  simp only at g1 g2 g3
  by_cases J8:0 < r
  ·exact Aon
  ·obtain rfl:r=0:=by omega
   have g1:(⟨ins',ens',a'⟩:Mk)=RES:=g1
   have hG:KU t i ⟨ins,ens,a⟩ (a)=⟨RES.ins++[⟨31,0⟩],RES.ens,RES.a⟩:=by
    rw [←hRES,KU]; simp only [hkey]
   exact Ant
def Hi (c:Cd) (v:Vn) (at':Int):Option (List Int × List Ef × Nat):=
 if (DC c v 1000 (LZ v at')).1.dn=true∧(DC c v 1000 (LZ v at')).1.ef.length≤256 then
  some ((DC c v 1000 (LZ v at')).1.va,(DC c v 1000 (LZ v at')).1.ef,(DC c v 1000 (LZ v at')).2) else none
def MO:Option (List Int × List Ef × Nat)→AV
 | some r=>.tu [.vw false (r.1.map (kA .i64)),.vw false (r.2.1.map Ek),kA .i64 r.2.2,kA .i64 0]
 | none=>.tu [.vw true [],.vw true [],kA .i64 0,kA .i64 52]
theorem XT (o:Option (List Int × List Ef × Nat)):(MO o).noref=true:=by
 cases o with
 | none=>simp [MO,kA,AV.noref,norefs]
 | some r=>simp [MO,kA,AV.noref,norefs,Cm,PU]
theorem Aia {c:Cd} {v:Vn} (h:Hg c v=true):EnvI c v∧(∀ x ∈ v.vars,D6 x)∧v.vars.length=c.vars.length:=by
 simp only [Hg,AH,lx85,J6,lx97,GY] at h
 obtain ⟨⟨⟨⟨⟨⟨⟨_,h1⟩,h2⟩,h3⟩,h4⟩,_⟩,h5⟩,h6⟩:=h
 have bad:∀ lo n,EY lo n=false→lo≤n∧n≤2147483647:=fun lo n hb=>by
  simp only [EY,J7,BJ] at hb; omega
 exact ⟨⟨h2,fun x hx=>bad _ _ (h4 x hx),bad _ _ h5,bad _ _ h6⟩,fun x hx=>bad _ _ (h3 x hx),by omega⟩
theorem Aib {c:Cd} {v:Vn} {at':Int} (h:ExeQ c v at'):MOk c (LZ v at'):=by
 obtain ⟨_,h2,h3⟩:=Aia h.env
 obtain ⟨e,he,rfl⟩:=h.ent
 exact ⟨.ent he,fun x hx=>absurd hx (by simp [LZ]),h2,h3⟩
def exT (w:Nat) (wid:Nat) (n:Int):List AV:=Cg 0 71 [(3,.sc (.int .i64 1000)),(12,.pt wid w 0 0),(14,.sc (.int .i64 n))]
theorem Asx {σ:Nat→Nat} {c2:Nat} {H:List Blk} {a w b w':Nat} {n:Int} (h:Rn 0 σ c2 H (.pt a w 0 0) (.pt b w' 0 0)):RnL 0 σ c2 H (exT w a n) (exT w' b n):=by
 unfold exT
 exact Bd8
theorem Acm {c:Cd} {v:Vn} {f:Nat} {m:Ms} (h:m.dn=true∨256 < m.ef.length):DC c v f m=(m,0):=by
 cases f with
 | zero=>rfl
 | succ f=>rw [DC,if_pos h]
theorem Aic (c:Cd) (v:Vn) (x:In) (m:Ms):(AO c v x m).ef.length≤m.ef.length+1:=by
 have key:∀ r:Ms,AO c v x m=r→r.ef.length≤m.ef.length+1→(AO c v x m).ef.length≤m.ef.length+1:=fun r h1 h2=>h1 ▸ h2
 obtain ⟨op,a⟩:=x
 have put:∀ n (m:Ms),(I4 n m).ef=m.ef:=fun _ _=>rfl
 have pop:∀ (m:Ms),(Hh m).ef=m.ef:=fun _=>rfl
 have eff:∀ x (m:Ms),(NI x m).ef.length=m.ef.length+1:=fun _ _=>by simp [NI]
 rcases Gk op with (rfl | rfl | rfl | rfl | rfl | rfl | rfl | rfl | rfl | rfl | rfl | rfl | rfl | rfl | rfl | rfl | rfl | rfl | rfl | rfl | rfl | rfl | rfl | rfl | rfl | rfl | rfl | rfl | rfl | rfl | rfl) | hno
 ·exact K6
 ·exact K6
 ·exact K6
 ·exact K6
 ·exact K6
 ·exact K6
 ·exact K6
 ·exact K6
 ·exact K6
 ·exact K6
 ·exact K6
 ·exact K6
 ·simp only [AO,opS,Int.reduceEq,lx6,lx7,↓reduceIte]
  by_cases hz:Hb { m with pc:=m.pc+1 }=0 <;> simp only [hz,↓reduceIte,pop,put] <;> omega
 ·simp only [AO,opS,Int.reduceEq,lx6,lx7,↓reduceIte]
  by_cases hz:Hb { m with pc:=m.pc+1 }≤0 <;> simp only [hz,↓reduceIte,pop,put] <;> omega
 ·exact K6
 ·exact K6
 ·exact K6
 ·exact K6
 ·exact K6
 ·exact K6
 ·exact K6
 ·exact K6
 ·exact K6
 ·exact K6
 ·exact K6
 ·exact K6
 ·exact K6
 ·exact K6
 ·exact K6
 ·exact K6
 ·exact K6
 ·have g:∀ k:Int,1≤k→k≤31→(op=k)=False:=fun k h1 h2=>by have:=hno k h1 h2; simpa using this
  simp [AO,opS,g,eff]
theorem Acn (c:Cd) (v:Vn) (at':Int) (h:ExeQ c v at'):IQ Tryz.prog 157 [B5 c,.sc (.int .i64 at'),Ma v,.sc (.int .i64 1000)] (MO (Hi c v at')):=by
 have hv:=H8 h.env
 obtain ⟨he,_,_⟩:=Aia h.env
 have hm0:=Aib h
 obtain ⟨F203,k203,E203⟩:=D1 (XQ c v at' h ⟨true,0,36,7,[B5 c],false⟩ ⟨true,1,104,6,[Ma v],false⟩ 2)
 simp only [Ac,Bm,AB,AU,dead,Nat.reduceAdd] at E203
 refine Gy (Am (lit:=false) (pm:=fun _=>none) .nil .nil .nil (.cons k203 (.cons (Azy c v) .nil))) rfl Tryz.func157 rfl (by decide) (by kernel_rfl) (XT _) ?_
 simp only [Tryz.f157,Af,lx53,lx63,Nat.reduceAdd,Nat.reduceSub,List.replicate]
 refine Aa ?_
 refine gF1 E203 ?_
 refine AD (T':=exT 7 6 0) (H':=[dead,dead,dead,dead,dead,⟨true,6,3,1,v.vars.map (kA .i64),false⟩,⟨true,7,253,17,[.ag [.vw c.zi (c.ins.map BS),.vw c.zs (c.strs.map stA),.vw c.ze (c.ens.map DP),.vw c.zp (c.pri.map (kA .i64)),.vw c.zv (c.vars.map (kA .i64)),.sc (.int .i64 c.tim),.sc (.int .i64 c.evs),.sl 5 6 0 v.vars.length,.vw v.zl (v.left.map (kA .i64)),.sc (.int .u64 v.clo),.sc (.int .u32 v.act),.sc (.int .i64 v.pl'),.sc (.int .i64 v.ba),.sc (.int .i64 at'),.sc (.bool false),.vw true [],.vw true []]],false⟩]) ?_ ?_ (Ax _) ?_
 ·simp (maxSteps:=10000000) only [Bk,Bg,↓reduceIte,reduceCtorEq,Nat.reduceAdd,Nat.reduceEqDiff,Cg,EX,exT]
 ·simp (maxSteps:=10000000) only [Bk,Bg,dead]
 refine Ix (T':=exT 7 6 0) (H':=[dead,dead,dead,dead,dead,⟨true,6,3,1,v.vars.map (kA .i64),false⟩,⟨true,7,253,17,[.ag [.vw c.zi (c.ins.map BS),.vw c.zs (c.strs.map stA),.vw c.ze (c.ens.map DP),.vw c.zp (c.pri.map (kA .i64)),.vw c.zv (c.vars.map (kA .i64)),.sc (.int .i64 c.tim),.sc (.int .i64 c.evs),.sl 5 6 0 v.vars.length,.vw v.zl (v.left.map (kA .i64)),.sc (.int .u64 v.clo),.sc (.int .u32 v.act),.sc (.int .i64 v.pl'),.sc (.int .i64 v.ba),.sc (.int .i64 at'),.sc (.bool false),.sl 7 8 0 0,.vw true []]],false⟩]) 8 3 1 9 (by omega) (by omega) (Ct _ _ _) ?_ ?_
 ·refine W3 ?_
  refine ⟨.inl rfl,.inl rfl,.inl rfl,.inl rfl,.inl rfl,.inl rfl,Iy _ _ _ _ _ _ _ _ _ _ ⟨Jr ⟨.refl _,.refl _,.refl _,.refl _,.refl _,.refl _,.refl _,.refl _,.refl _,.refl _,.refl _,.refl _,.refl _,.refl _,.refl _,.nil,Ct _ _ _⟩,trivial⟩⟩
 refine qd5 ?_
 refine Ix (T':=exT 7 6 0) (H':=[dead,dead,dead,dead,dead,⟨true,6,3,1,v.vars.map (kA .i64),false⟩,⟨true,7,253,17,[.ag [.vw c.zi (c.ins.map BS),.vw c.zs (c.strs.map stA),.vw c.ze (c.ens.map DP),.vw c.zp (c.pri.map (kA .i64)),.vw c.zv (c.vars.map (kA .i64)),.sc (.int .i64 c.tim),.sc (.int .i64 c.evs),.sl 5 6 0 v.vars.length,.vw v.zl (v.left.map (kA .i64)),.sc (.int .u64 v.clo),.sc (.int .u32 v.act),.sc (.int .i64 v.pl'),.sc (.int .i64 v.ba),.sc (.int .i64 at'),.sc (.bool false),.sl 7 8 0 0,.sl 8 9 0 0]],false⟩,⟨true,8,3,1,[],false⟩]) 9 73 5 10 (by omega) (by omega) (Ct _ _ _) ?_ ?_
 ·refine W3 ?_
  refine ⟨.inl rfl,.inl rfl,.inl rfl,.inl rfl,.inl rfl,.inl rfl,Iy _ _ _ _ _ _ _ _ _ _ ⟨Jr ⟨.refl _,.refl _,.refl _,.refl _,.refl _,.refl _,.refl _,.refl _,.refl _,.refl _,.refl _,.refl _,.refl _,.refl _,.refl _,.refl _,.nil,trivial⟩,trivial⟩,.inl rfl⟩
 refine qd5 ?_
 have hpt:∀ {H:List Blk} (j v':Nat) (B:Blk),H[MN [6,5,7,8] j]?=some B→B.live=true→B.ver=v'→Rn 0 (MN [6,5,7,8]) 11 H (.pt (MN [6,5,7,8] j) v' 0 0) (.pt j 10 0 0):=fun {H} j v' B e1 e2 e3=>by
  have:=Rn.pt (d:=0) (σ:=MN [6,5,7,8]) (c2:=11) (H1:=H) (v2:=10) j v' 0 0 B e1 e2 e3 (by omega)
  rwa [BO] at this
 have hsl:∀ {H:List Blk} (j v' n:Nat) (B:Blk),H[MN [6,5,7,8] j]?=some B→B.live=true→B.ver=v'→Rn 0 (MN [6,5,7,8]) 11 H (.sl (MN [6,5,7,8] j) v' 0 n) (.sl j 10 0 n):=fun {H} j v' n B e1 e2 e3=>by
  have:=Rn.sl (d:=0) (σ:=MN [6,5,7,8]) (c2:=11) (H1:=H) (v2:=10) j v' 0 n B e1 e2 e3 (by omega)
  rwa [BO] at this
 refine Ax6 (T':=exT 10 0 0) (H2:=mH c v (LZ v at') 10 10 10 10 []) (c2:=11) (MN [6,5,7,8]) (Asx (hpt 0 7 _ rfl rfl rfl)) ?_ ?_ (by omega) ?_
 ·intro j B2 e1 e2
  have hj:j < 4:=(lx22.1 e1).1
  have h4:j=0∨j=1∨j=2∨j=3:=Ah
  rcases h4 with rfl | rfl | rfl | rfl
  ·cases e1
   refine ⟨_,rfl,rfl,Ax _,(show 10 < 11 by decide),rfl,rfl,rfl,fun i e f g1 g2=>?_⟩
   obtain rfl:i=0:=Avs
   cases g1; cases g2
   refine ⟨by simp,Ap7 ⟨.nr rfl,.nr rfl,.nr rfl,.nr rfl,.nr rfl,.nr rfl,.nr rfl,hsl 1 _ _ _ rfl rfl rfl,.nr rfl,.nr rfl,.nr rfl,.nr rfl,.nr rfl,.nr rfl,.nr rfl,hsl 2 _ _ _ rfl rfl rfl,hsl 3 _ _ _ rfl rfl rfl,trivial⟩⟩
  ·cases e1; exact ⟨_,rfl,rfl,Ax _,(show 10 < 11 by decide),rfl,rfl,rfl,II (Cm _) (HU (f:=kA .i64) (fun x=>by simp [kA]) _)⟩
  ·exact Aoe
  ·exact Aoe
 ·intro i j Bi Bj e1 e2 _ _ e
  have hi:i < 4:=(lx22.1 e1).1
  have hj:j < 4:=(lx22.1 e2).1
  revert e
  revert i j
  intro i j e1 e2 hi hj
  have key:∀ i,i < 4→∀ j,j < 4→MN [6,5,7,8] i=MN [6,5,7,8] j→i=j:=by decide
  exact key i hi j hj
 obtain ⟨B,hB⟩:∃ B:Nat,B=1000:=⟨_,rfl⟩
 have hx:Hi c v at'=if (DC c v B (LZ v at')).1.dn=true∧(DC c v B (LZ v at')).1.ef.length≤256 then
  some ((DC c v B (LZ v at')).1.va,(DC c v B (LZ v at')).1.ef,(DC c v B (LZ v at')).2) else none:=by rw [hB]; rfl
 rw [hx]
 clear hx
 refine Aw (σ:=Nat × Ms × Nat × Nat × List AV) (fun y cnt=>⟨exT 10 0 y.1,mH c v y.2.1 10 10 y.2.2.1 y.2.2.2.1 y.2.2.2.2,cnt⟩)
  (fun y=>y.1≤B∧(y.2.1.dn=false→MOk c y.2.1)∧y.2.1.ef.length≤257∧y.2.2.2.2.take y.2.1.st.length=y.2.1.st.map (kA .i64)∧
   DC c v B (LZ v at')=((DC c v (B - y.1) y.2.1).1,y.1+(DC c v (B - y.1) y.2.1).2)) (fun y=>B - y.1) (0,LZ v at',10,10,[]) ⟨BX _,fun _=>hm0,by simp [LZ],rfl,by rw [Nat.sub_zero,BO]⟩ (EM _) (AS _) rfl ?_
 rintro ⟨n,m,s,e,E⟩ cnt ⟨hn,hm,hef,hE,hrun⟩ ih
 simp only at hn hm hef hE hrun
 have n1:decide ((n:Int) < 1000)=decide (n < B):=Ady
 have n2:decide (((m.ef.length:Nat):Int)≤256)=decide (m.ef.length≤256):=Ady
 by_cases hgo:m.dn=false∧n < B∧m.ef.length≤256
 ·obtain ⟨g1,g2,g3⟩:=hgo
  have hm:=hm g1
  have hq:=Ai3 hv he hm (by omega)
  have hop:=Ai4 hv hm
  obtain ⟨s',e',E',cnt',x1,x2⟩:=Bf2 hq hop 10 10 s e E hE cnt
  have hr1:DC c v (B - n) m=((DC c v (B - (n+1)) (AO c v (AF c m.pc) m)).1,(DC c v (B - (n+1)) (AO c v (AF c m.pc) m)).2+1):=by
   rw [show B - n=(B - (n+1))+1 by omega,DC,if_neg (by rw [g1]; simp; omega)]
  rw [hr1] at hrun
  have hm2:(AO c v (AF c m.pc) m).dn=false→MOk c (AO c v (AF c m.pc) m):=fun hd=>WJ hv he hm (fun h31=>by
   have:(AO c v (AF c m.pc) m).dn=true:=by simp [AO,opS,h31]
   rw [this] at hd; cases hd)
  have hef2:(AO c v (AF c m.pc) m).ef.length≤m.ef.length+1:=Aic c v _ m
  generalize AO c v (AF c m.pc) m=M at x1 x2 hrun hm2 hef2
  obtain ⟨H2,hH2⟩:∃ H2,mH c v M 10 10 s' e' E'=H2:=⟨_,rfl⟩
  rw [hH2] at x1
  have w1:IntKind.i64.wrap ((n:Int)+1)=((n+1:Nat):Int):=AK
  have ih2:=fun c'=>ih (n+1,M,s',e',E') c' ⟨by simp only; omega,hm2,by simp only; omega,x2,by simp only; rw [hrun]; simp only [lx40,D3]; omega⟩ (by simp only; omega)
  simp only [hH2] at ih2
  clear ih hH2 hm2 hef2 hrun hr1 hop hq x2 hE hm
  have n3:decide (n < B)=true:=by rw [AR]; exact g2
  have n4:decide (m.ef.length≤256)=true:=by rw [AR]; exact g3
  rw [n3] at n1
  rw [n4] at n2
  obtain ⟨pc,dn,va,st,ef⟩:=m
  simp only at g1 n2
  subst g1
  simp only [mH,AB,AU] at x1
  refine Aa ?_
  simp only [exT,mH]
  refine CL ?_
  refine gF1 (a4 n1 n2 x1 w1) ?_
  repeat' (first | exact Ae (by kernel_rfl) | refine ⟨Ae (by kernel_rfl),?_⟩ | refine And.intro ?_ ?_ | fail)
  refine AD ?_ (AS _) (Ax _) (ih2 _)
  simp (maxSteps:=10000000) only [Bk,Bg,↓reduceIte,reduceCtorEq,Nat.reduceAdd,Nat.reduceEqDiff,Cg,EX,exT]
  all_goals done
 have hstop:DC c v (B - n) m=(m,0):=by
  exact Bd1
 rw [hstop] at hrun
 rw [hrun]
 clear ih hstop hrun hm
 simp only [IW]
 obtain ⟨pc,dn,va,st,ef⟩:=m
 simp only at hgo hef hE n2
 have te:List.take ef.length (ef.map Ek)=ef.map Ek:=lx118 (by simp)
 have tv:List.take va.length (va.map (kA .i64))=va.map (kA .i64):=lx118 (by simp)
 have n5:decide ((256:Int) < ((ef.length:Nat):Int))=decide (256 < ef.length):=Ady
 cases dn with
 | true=>
  by_cases g3:ef.length≤256
  ·have n4:decide (256 < ef.length)=false:=by rw [BJ]; omega
   rw [n4] at n5
   rw [if_pos ⟨rfl,g3⟩]
   refine Aa ?_
   simp only [exT,mH,MO]
   refine CL ?_
   refine gF1 (a3 n5 te tv) ?_
   exact Bd6
  ·have n4:decide (256 < ef.length)=true:=by rw [AR]; omega
   rw [n4] at n5
   rw [if_neg (fun h=>g3 h.2)]
   refine Aa ?_
   simp only [exT,mH,MO]
   refine CL ?_
   refine gF1 n5 ?_
   repeat' (first | exact Ae (by kernel_rfl) | refine ⟨Ae (by kernel_rfl),?_⟩ | refine And.intro ?_ ?_ | fail)
   all_goals first | exact .refl _ | rfl | skip
   all_goals done
 | false=>
  rw [if_neg (fun h=>by cases h.1)]
  have hc:decide (n < B)=false∨decide (ef.length≤256)=false:=by
   rcases DF n B with h | h
   ·right; rw [BJ]; exact fun h'=>hgo ⟨rfl,h,h'⟩
   ·left; rw [BJ]; omega
  obtain ⟨b1,hb1⟩:∃ b,decide (n < B)=b:=⟨_,rfl⟩
  obtain ⟨b2,hb2⟩:∃ b,decide (ef.length≤256)=b:=⟨_,rfl⟩
  rw [hb1] at n1 hc
  rw [hb2] at n2 hc
  cases b1 <;> cases b2 <;> first | (exfalso; revert hc; decide) | skip
  all_goals
   refine Aa ?_
   simp only [exT,mH,MO]
   exact Bd4
  all_goals done
end Go.Proofs.YtdjpkhjaibdogaaGreat
