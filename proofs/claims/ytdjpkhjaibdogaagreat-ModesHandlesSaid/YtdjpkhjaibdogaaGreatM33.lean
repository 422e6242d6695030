/-
  Lemmas towards ModesHandles (joined texts: ED, FJ).
  Conditions: none.
-/
import Derived.Test.YtdjpkhjaibdogaaGreatM01
import Derived.Test.YtdjpkhjaibdogaaGreatM02
import Derived.Test.YtdjpkhjaibdogaaGreatM32
import Derived.Test.YtdjpkhjaibdogaaGreatM18
import Derived.Test.YtdjpkhjaibdogaaGreatM31
set_option linter.unusedSimpArgs false
set_option linter.unusedVariables false
set_option maxRecDepth 100000
set_option maxHeartbeats 8000000
namespace Go.Proofs.YtdjpkhjaibdogaaGreat
open Go Go.SX
attribute [local congr] ite_congr
theorem Hj {P:Program} {E:Env} {n0:Nat} {rs:List ResultVar} {R:AV→St→Prop} {k:List Item} {id:Nat} {ops:Array Oper} {t:Bool} {y:Code} {s:St} (s1:St) (h1:Vc P E n0 [] (fun _ s'=>s'=s1) [.code (.region id ops t)] s)
  (h2:Go P E n0 rs R (.code y::k) s1) (hq:E.perm id≠some []:=by (intro h; cases h)):Go P E n0 rs R (.code (.seq (.region id ops t) y)::k) s:=by
 cases h1 with
 | region hr h=>
  cases h with
  | fin _ hR=>subst hR; exact .seq (.region hr h2)
 | draw hpm hr h=>
  cases h with
  | fin _ hR=>
   subst hR
   cases hb:ops.toList.any Fl with
   | true=>exact .seq (.drawH hpm hb hr h2)
   | false=>exact .seq (.draw hpm (EU _ _ _ _ hb hr) h2)
 | drawP hpm hr h=>
  cases h with
  | fin _ hR=>subst hR; exact .seq (.drawP hpm hr h2)
 | sem hpm=>exact absurd hpm hq
theorem Xj (id ver:Nat) (els:List AV) (lo:Nat) (hlo:lo≤id):∀ (A B:List Blk) (i:Nat),i+A.length≤lo→∃ D,HU id ver els lo i (A++B)=A++D
 | [],B,i,_=>⟨_,rfl⟩
 | b::A,B,i,h=>by
  simp only [lx53] at h
  obtain ⟨D,hD⟩:=Xj id ver els lo hlo A B (i+1) (by omega)
  refine ⟨D,?_⟩
  rw [lx91,HU,if_neg (by omega),if_pos (by omega),hD]
  rfl
theorem Aj4 (t:Tp) (ht:TpOk t) (d base a:Nat) (hd:d≤5) (hb:base+100 * d≤10000) (ha:a≤200) (R:List Blk) (cnt:Nat):
  ∃ cnt',HSpec Tryz.prog 43 [.pt 0 t.v 0 0,.sc (.int .i64 (base:Int)),.sc (.int .i64 (d:Int))] (Oo t a::R) cnt (.vw false ((CP t d base a).1.map BY)) (Oo t (CP t d base a).2::R) cnt':=by
 obtain ⟨P,ver,c',h⟩:=SQ t ht d base a hd hb ha R cnt
 refine ⟨c',?_⟩
 have h1:=h.frz (R.length+1) (R.length+P.length+1) (QS ver (CP t d base a).1) (by
  rw [lx54,←lx4,←lx5]; exact Fw _ _ _) rfl (by simp) (LA _)
 obtain ⟨D,hD⟩:=Xj (R.length+P.length+1) ver ((CP t d base a).1.map BY) (R.length+1) (by omega) (Oo t (CP t d base a).2::R) (P++[QS ver (CP t d base a).1]) 0 (by simp)
 have h2:Aha (R.length+P.length+1) ver ((CP t d base a).1.map BY) (.sl (R.length+P.length+1) ver 0 (CP t d base a).1.length)=.vw false ((CP t d base a).1.map BY):=by
  rw [Aac,if_pos ⟨rfl,rfl⟩,lx73,lx118 (by simp)]
 simp only [QS] at h1
 rw [h2] at h1
 rw [lx91] at hD
 simp only [QS] at hD
 rw [hD] at h1
 exact h1.wk (.refl _) (C8 _ _ _) (Aw _)
def Bbx (args:List AV) (H:List Blk) (cnt:Nat) (r:AV) (H':List Blk) (cnt':Nat):Prop:=
 ∀ (t:Tp) (a d base:Nat) (R:List Blk),args=[.pt 0 t.v 0 0,.sc (.int .i64 (base:Int)),.sc (.int .i64 (d:Int))]→H=Oo t a::R→
  r=.vw false ((CP t d base a).1.map BY)∧H'=Oo t (CP t d base a).2::R
noncomputable def Bby:=hF Tryz.prog 43 Bbx
theorem Bbz:M8 Tryz.prog 43 Bby:=JC _ _ _
theorem Bgp (t:Tp) (ht:TpOk t) (d base a:Nat) (D:Int) (hD:D=(d:Int)) (hd:d≤5) (hb:base+100 * d≤10000) (ha:a≤200) (R:List Blk) (cnt:Nat):
  ∃ cnt',Bby [.pt 0 t.v 0 0,.sc (.int .i64 (base:Int)),.sc (.int .i64 D)] (⟨true,t.v,96,2,[.ag [.vw t.z (t.l.map uA),.sc (.int .i64 (a:Int))]],false⟩::R) cnt=
   some (.vw false ((CP t d base a).1.map BY),⟨true,t.v,96,2,[.ag [.vw t.z (t.l.map uA),.sc (.int .i64 ((CP t d base a).2:Int))]],false⟩::R,cnt'):=by
 subst hD
 obtain ⟨c',h⟩:=Aj4 t ht d base a hd hb ha R cnt
 obtain ⟨r,H',c',e,d'⟩:=JD (D:=Bbx) h (by
  intro t' a' d' b' R' h1 h2
  simp only [lx96,Az,AV.sc.injEq,Value.int.injEq,Du] at h1 h2
  obtain ⟨⟨rfl,rfl⟩,rfl⟩:=And.intro (ON h2.1) h2.2
  obtain rfl:d=d':=Ai
  obtain rfl:base=b':=Ai
  exact ⟨rfl,rfl⟩)
 obtain ⟨rfl,rfl⟩:=d' t a d base R rfl rfl
 exact ⟨c',e⟩
theorem Yy (l:List In):Cc (l.map BY)=true:=Ei (f:=BY) (fun _=>by simp [BY,kA,AV.fresh,Cc]) l
theorem Yz (l:List En):Cc (l.map D3)=true:=Ei (f:=D3) (fun _=>by simp [D3,kA,AV.fresh,Cc]) l
def Ot:List En:=[⟨0,1,0,0⟩,⟨0,2,0,0⟩,⟨0,3,3,0⟩,⟨0,5,1,0⟩,⟨0,6,0,0⟩,⟨1,1,0,0⟩,⟨1,3,3,0⟩,⟨1,4,63,0⟩,⟨1,6,1,0⟩]
structure Mk where
 ins:List In
 ens:List En
 a:Nat
def mkN (t:Tp):Nat→Mk→Mk
 | 0,m=>m
 | n+1,m=>mkN t n ⟨m.ins++(CP t 2 m.ins.length m.a).1,m.ens,(CP t 2 m.ins.length m.a).2⟩
def Rj (t:Tp) (i:Nat) (m:Mk) (a:Nat):Mk:=
 let m':=mkN t (Dc t a 4) ⟨m.ins,m.ens++[{ Ot.getD i default with pc:=m.ins.length }],Ck t a⟩
 ⟨m'.ins++[⟨31,0⟩],m'.ens,m'.a⟩
def mkI (t:Tp) (i:Nat) (m:Mk):Mk:=
 if 0 < i then if Dc t m.a 2=0 then ⟨m.ins,m.ens,Ck t m.a⟩ else Rj t i m (Ck t m.a) else Rj t i m m.a
def XB (t:Tp) (a:Nat):Nat→Mk
 | 0=>⟨[],[],a⟩
 | i+1=>mkI t i (XB t a i)
structure MkOk (m:Mk) (i:Nat):Prop where
 ins:m.ins.length≤49 * i
 ens:m.ens.length≤i
 a:m.a≤200
theorem YA {t:Tp} (ht:TpOk t):∀ (n:Nat) {m:Mk},m.a≤200→(mkN t n m).ins.length≤m.ins.length+16 * n∧(mkN t n m).ens=m.ens∧(mkN t n m).a≤200
 | 0,m,h=>⟨by simp [mkN],rfl,h⟩
 | n+1,m,h=>by
  have h1:=OP ht 2 m.ins.length h
  have h2:=IW t 2 m.ins.length m.a
  obtain ⟨g1,g2,g3⟩:=YA ht n (m:=⟨m.ins++(CP t 2 m.ins.length m.a).1,m.ens,(CP t 2 m.ins.length m.a).2⟩) h1
  simp only [lx5] at g1
  exact ⟨by rw [mkN]; omega,g2,g3⟩
theorem Abp {t:Tp} (ht:TpOk t) {i:Nat} {m:Mk} (h:MkOk m i) {a:Nat} (ha:a≤200):MkOk (Rj t i m a) (i+1):=by
 have hn:Dc t a 4 < 4:=E7 (by omega)
 obtain ⟨g1,g2,g3⟩:=YA ht (Dc t a 4) (m:=⟨m.ins,m.ens++[{ Ot.getD i default with pc:=m.ins.length }],Ck t a⟩) (BW ht ha)
 have:=h.ins
 have:=h.ens
 refine ⟨?_,?_,g3⟩
 ·simp only [Rj,lx5,lx53,lx63] at *; omega
 ·simp only [Rj,g2,lx5,lx53,lx63]; omega
theorem Aum {t:Tp} (ht:TpOk t) {i:Nat} {m:Mk} (h:MkOk m i):MkOk (mkI t i m) (i+1):=by
 have h1:=h.ins
 have h2:=h.ens
 unfold mkI
 split
 ·split
  ·exact ⟨by simp only; omega,by simp only; omega,BW ht h.a⟩
  ·exact Abp ht h (BW ht h.a)
 ·exact Abp ht h h.a
theorem YB {t:Tp} (ht:TpOk t) {a:Nat} (ha:a≤200):∀ i,MkOk (XB t a i) i
 | 0=>⟨by simp [XB],by simp [XB],ha⟩
 | i+1=>Aum ht (YB ht ha i)
def goB:ByteArray:=⟨#[103,111]⟩
def Lf:ByteArray:=⟨#[111,118,101,114]⟩
def tpL (z:Bool) (l:List Nat) (v:Nat):Tp:=⟨z && decide (min l.length 200=l.length),l.take 200,v⟩
def JE (t:Tp):Cd:=
 let m:=XB t (Ck t (Ck t 0)) 9
 ⟨false,m.ins,false,[goB,Lf],false,m.ens,false,[((Dc t 0 4:Nat):Int),((Dc t (Ck t 0) 4:Nat):Int)],false,[0,5,-3],2,2⟩
def SS (d v:Nat) (c:Cd):AV:=.ag [.sl (d+0) v 0 c.ins.length,.sl (d+1) v 0 c.strs.length,.sl (d+2) v 0 c.ens.length,.sl (d+3) v 0 c.pri.length,.sl (d+4) v 0 c.vars.length,.sc (.int .i64 c.tim),.sc (.int .i64 c.evs)]
def SU (v:Nat) (c:Cd):List Blk:=[⟨true,v,102,2,c.ins.map BY,false⟩,⟨true,v,9,1,c.strs.map stA,false⟩,⟨true,v,99,4,c.ens.map D3,false⟩,⟨true,v,3,1,c.pri.map (kA .i64),false⟩,⟨true,v,3,1,c.vars.map (kA .i64),false⟩]
theorem Hk {d:Nat} {σ:Nat→Nat} {c2:Nat} {H1:List Blk} {els:List AV} (hn:norefs els=true) (hj:GC els=true):∀ (i:Nat) (e f:AV),els[i]?=some e→els[i]?=some f→f≠.jk∧Rn d σ c2 H1 e f:=by
 intro i e f h1 h2
 rw [h1] at h2; cases h2
 exact ⟨Mm hj _ (lx25 h1),.nr (Ge hn _ (lx25 h1))⟩
def Hl (l:List Nat) (j:Nat):Nat:=l.getD j 0
theorem Aj6 (l:List In):GC (l.map BY)=true:=HD (f:=BY) (fun x=>by simp [BY]) l
theorem Aj7 (l:List En):GC (l.map D3)=true:=HD (f:=D3) (fun x=>by simp [D3]) l
theorem Adq (z:Bool) (l:List Nat) (hu:∀ i,l.getD i default < 256) (H:List Blk) (cnt:Nat):HSpec Tryz.prog 14 [.vw z (l.map uA)] H cnt (SS H.length cnt (JE (tpL z l 1))) (H++SU cnt (JE (tpL z l 1))) (cnt+1):=by
 have ht:TpOk (tpL z l 1):=by
  exact Awr
 refine TP (Aj (lit:=false) (pm:=fun _=>none) .nil .nil .nil (.cons Ri (.cons Bbz .nil))) rfl (Hl [7,2,8,3,4]) Tryz.func14 rfl (by decide) (by kernel_rfl) (by simp [norefs,AV.noref,Adm]) ?_ (Nat.le_succ _) ?_
 ·intro i j Bi Bj h1 h2 _ _ h
  have hi:i < 5:=(lx22.1 h1).1
  have hj:j < 5:=(lx22.1 h2).1
  have h5:∀ k,k < 5→k=0∨k=1∨k=2∨k=3∨k=4:=Ai
  rcases h5 i hi with rfl | rfl | rfl | rfl | rfl <;> rcases h5 j hj with rfl | rfl | rfl | rfl | rfl <;> first | rfl | (simp [Hl] at h)
 simp only [Tryz.f14,Af,lx53,lx63,Nat.reduceAdd,Nat.reduceSub,List.replicate]
 have hmn:min (l.length:Int) 200=((min l.length 200:Nat):Int):=Ai
 have g1:decide (((min l.length 200:Nat):Int)≤(l.length:Int))=true:=Ae
 have htk:List.take (min l.length 200) (l.map uA)=(l.take 200).map uA:=by rw [List.map_take,Nat.min_comm,←List.take_take,lx118 (l:=List.map uA l) (Nat.le_of_eq (lx58 _))]
 refine Hj ?s1 ?h1 ?h2
 case h1=>
  simp (maxSteps:=10000000) +contextual -implicitDefEqProofs only [AX,AW,St.put,Nat.reduceAdd,Dd,Int.reduceAdd,CO]
  rfl
 refine Hj ?s2 ?h3 ?h4
 case h3=>
  refine Od (a4 hmn g1 htk @IT) ?_
  rfl
 refine Av (T':=Bm 0 83 [(2,.pt 0 0 0 0),(3,.pt 1 1 0 0)]) ?_ (AM _) (Aw _) ?_
 ·exact F4
 refine J7 0 1 (BT _) (BT _) (by simp) (by simp) ?_ ?_
 ·simp only [Mp,P8,P9,Qa,Qb,Qc,Qd,Qe,Qf,Qg,Qh,Mq,J8,Qi,Mr,J9,Mt,Nat.reduceEqDiff,↓reduceIte,lx117,lx11,lx124,lx125,Nb,Lv,J6,Mn,Ty,Gt,Gs]
 refine qd8 ?_
 have hz:(z && decide (min l.length 200=l.length))=(tpL z l 1).z:=rfl
 have hll:List.take 200 l=(tpL z l 1).l:=rfl
 have hv:(tpL z l 1).v=1:=rfl
 rw [hz,hll]
 generalize tpL z l 1=t at ht hv ⊢
 clear hz hll hmn g1 htk hu
 have E1:=fun a n N h h1 h2 h3=>e42 t ht a n N h h1 h2 h3
 simp only [hv] at E1
 have hb1:=BW ht (a:=0) (by omega)
 have hb2:=BW ht hb1
 have E2:=E1 0 4 4 rfl (by omega) (by omega) (by omega)
 have E3:=E1 (Ck t 0) 4 4 rfl (by omega) (by omega) hb1
 rw [Int.natCast_zero] at E2
 refine Ab ?_
 refine Od (a3 E2 E3 @Bgg) ?_
 obtain ⟨a0,ha0⟩:∃ a0,Ck t (Ck t 0)=a0:=⟨_,rfl⟩
 obtain ⟨p0,hp0⟩:∃ p0,((Dc t 0 4:Nat):Int)=p0:=⟨_,rfl⟩
 obtain ⟨p1,hp1⟩:∃ p1,((Dc t (Ck t 0) 4:Nat):Int)=p1:=⟨_,rfl⟩
 have hRES:JE t=⟨false,(XB t a0 9).ins,false,[goB,Lf],false,(XB t a0 9).ens,false,[p0,p1],false,[0,5,-3],2,2⟩:=by rw [←ha0,←hp0,←hp1]; rfl
 rw [hRES]
 clear E2 E3 hRES
 rw [ha0] at hb2
 simp only [ha0,hp0,hp1]
 refine Av (T':=Bm 0 83 [(2,.pt 1 0 0 0),(3,.pt 0 1 0 0),(4,.pt 5 5 0 0),(5,.sl 6 6 0 9),(6,.sc (.int .i64 0))]) ?_ (AM _) (Aw _) ?_
 ·exact F4
 refine E6 (T':=Bm 0 83 [(2,.pt 1 0 0 0),(3,.pt 0 1 0 0),(4,.pt 5 5 0 0),(5,.sl 6 6 0 9),(6,.sc (.int .i64 0))])
  (H':=[⟨true,1,96,2,[.ag [.vw t.z (t.l.map uA),.sc (.int .i64 (a0:Int))]],false⟩,⟨true,0,36,7,[.ag [.vw true [],.vw true [],.vw true [],.vw true [],.vw true [],.sc (.int .i64 0),.sc (.int .i64 0)]],false⟩,
   ⟨true,2,9,1,[stA goB,stA Lf],true⟩,⟨true,3,3,1,[.sc (.int .i64 p0),.sc (.int .i64 p1)],true⟩,⟨true,4,3,1,[.sc (.int .i64 0),.sc (.int .i64 5),.sc (.int .i64 (-3))],true⟩,
   ⟨true,5,36,7,[.ag [.sl 7 7 0 0,.sl 2 2 0 2,.vw true [],.sl 3 3 0 2,.sl 4 4 0 3,.sc (.int .i64 2),.sc (.int .i64 2)]],false⟩,⟨true,6,99,4,Ot.map D3,true⟩]) 7 102 2 8 (by omega) (by omega) (BP _ _ _) ?_ ?_
 ·refine S2 ?_
  refine ⟨.inl rfl,.inl rfl,.inl rfl,.inl rfl,.inl rfl,Fp _ _ _ _ _ _ _ _ _ _ ?_,.inl rfl⟩
  exact ⟨Gf ⟨.nil,BP _ _ _⟩,trivial⟩
 refine qd5 ?_
 refine E6 (T':=Bm 0 83 [(2,.pt 1 0 0 0),(3,.pt 0 1 0 0),(4,.pt 5 5 0 0),(5,.sl 6 6 0 9),(6,.sc (.int .i64 0))])
  (H':=[⟨true,1,96,2,[.ag [.vw t.z (t.l.map uA),.sc (.int .i64 (a0:Int))]],false⟩,⟨true,0,36,7,[.ag [.vw true [],.vw true [],.vw true [],.vw true [],.vw true [],.sc (.int .i64 0),.sc (.int .i64 0)]],false⟩,
   ⟨true,2,9,1,[stA goB,stA Lf],true⟩,⟨true,3,3,1,[.sc (.int .i64 p0),.sc (.int .i64 p1)],true⟩,⟨true,4,3,1,[.sc (.int .i64 0),.sc (.int .i64 5),.sc (.int .i64 (-3))],true⟩,
   ⟨true,5,36,7,[.ag [.sl 7 7 0 0,.sl 2 2 0 2,.sl 8 8 0 0,.sl 3 3 0 2,.sl 4 4 0 3,.sc (.int .i64 2),.sc (.int .i64 2)]],false⟩,⟨true,6,99,4,Ot.map D3,true⟩,⟨true,7,102,2,[],false⟩]) 8 99 4 9 (by omega) (by omega) (BP _ _ _) ?_ ?_
 ·refine S2 ?_
  refine ⟨.inl rfl,.inl rfl,.inl rfl,.inl rfl,.inl rfl,Fp _ _ _ _ _ _ _ _ _ _ ?_,.inl rfl,.inl rfl⟩
  exact ⟨Gf ⟨.refl _,.refl _,.nil,BP _ _ _⟩,trivial⟩
 refine qd5 ?_
 have hkl:Ot.length=9:=rfl
 refine Am (σ:=Nat × Nat × Nat) (fun y cnt=>⟨Bm 0 83 [(2,.pt 1 0 0 0),(3,.pt 0 1 0 0),(4,.pt 5 5 0 0),(5,.sl 6 6 0 9),(6,.sc (.int .i64 (y.1:Int)))],
  [⟨true,1,96,2,[.ag [.vw t.z (t.l.map uA),.sc (.int .i64 ((XB t a0 y.1).a:Int))]],false⟩,⟨true,0,36,7,[.ag [.vw true [],.vw true [],.vw true [],.vw true [],.vw true [],.sc (.int .i64 0),.sc (.int .i64 0)]],false⟩,
   ⟨true,2,9,1,[stA goB,stA Lf],true⟩,⟨true,3,3,1,[.sc (.int .i64 p0),.sc (.int .i64 p1)],true⟩,⟨true,4,3,1,[.sc (.int .i64 0),.sc (.int .i64 5),.sc (.int .i64 (-3))],true⟩,
   ⟨true,5,36,7,[.ag [.sl 7 y.2.1 0 (XB t a0 y.1).ins.length,.sl 2 2 0 2,.sl 8 y.2.2 0 (XB t a0 y.1).ens.length,.sl 3 3 0 2,.sl 4 4 0 3,.sc (.int .i64 2),.sc (.int .i64 2)]],false⟩,⟨true,6,99,4,Ot.map D3,true⟩,
   ⟨true,y.2.1,102,2,(XB t a0 y.1).ins.map BY,false⟩,⟨true,y.2.2,99,4,(XB t a0 y.1).ens.map D3,false⟩],cnt⟩)
  (fun y=>y.1≤9) (fun y=>9 - y.1) (0,7,8) (BT _) (CT _) (AM _) rfl ?_
 rintro ⟨i,v7,v8⟩ cnt hi ih
 simp only at hi
 have hm:=YB ht hb2 i
 have hmn:XB t a0 (i+1)=mkI t i (XB t a0 i):=rfl
 by_cases hi9:i < 9
 rotate_left
 ·obtain rfl:i=9:=by omega
  obtain ⟨mm,hmm⟩:∃ mm,XB t a0 9=mm:=⟨_,rfl⟩
  simp only [hmm]
  obtain ⟨ins,ens,a⟩:=mm
  have h1:decide (((9:Nat):Int) < 9)=false:=by decide
  have ht1:List.take ins.length (ins.map BY)=ins.map BY:=lx118 (by simp)
  have ht2:List.take ens.length (ens.map D3)=ens.map D3:=lx118 (by simp)
  refine Ab ?_
  refine BJ ?_
  simp (maxSteps:=10000000) +contextual -implicitDefEqProofs only [AX,AW,St.put,↓reduceIte,Nat.reduceAdd,Int.reduceLT,Nat.reduceLT,Dd,Int.reduceAdd,CO,AA,CZ,SS,SU]
  refine ⟨Ahs ⟨.sl 0 v7 0 _ _ rfl rfl rfl (Iv _),.sl 1 2 0 2 _ rfl rfl rfl (Iv _),.sl 2 v8 0 _ _ rfl rfl rfl (Iv _),.sl 3 3 0 2 _ rfl rfl rfl (Iv _),.sl 4 4 0 3 _ rfl rfl rfl (Iv _),.nr rfl,.nr rfl,trivial⟩,fun j B2 e1 e2=>?_⟩
  have hj:j < 5:=(lx22.1 e1).1
  have h5:j=0∨j=1∨j=2∨j=3∨j=4:=Ai
  rcases h5 with rfl | rfl | rfl | rfl | rfl
  ·cases e1; exact ⟨_,rfl,rfl,Aw _,Iv _,rfl,rfl,rfl,Hk (LA _) (Aj6 _)⟩
  ·cases e1; exact ⟨_,rfl,rfl,Aw _,Iv _,rfl,rfl,rfl,Hk (Yg [goB,Lf]) rfl⟩
  ·cases e1; exact ⟨_,rfl,rfl,Aw _,Iv _,rfl,rfl,rfl,Hk (Yf _) (Aj7 _)⟩
  ·cases e1; exact ⟨_,rfl,rfl,Aw _,Iv _,rfl,rfl,rfl,Hk (Bx [p0,p1]) rfl⟩
  ·cases e1; exact ⟨_,rfl,rfl,Aw _,Iv _,rfl,rfl,rfl,Hk (Bx [0,5,-3]) rfl⟩
  all_goals done
 have ih:=fun v7 v8 c=>ih (i+1,v7,v8) c (by simp only; omega) (by simp only; omega)
 simp only [hmn] at ih
 obtain ⟨mm,hmm⟩:∃ mm,XB t a0 i=mm:=⟨_,rfl⟩
 rw [hmm] at hm ih
 simp only [hmm]
 obtain ⟨ins,ens,a⟩:=mm
 have hi1:=hm.ins
 have hi2:=hm.ens
 have hi3:=hm.a
 simp only at hi1 hi2 hi3
 have h1:decide ((i:Int) < 9)=true:=Ae
 have h2:decide (i < Ot.length)=true:=Ae
 have w1:IntKind.i64.wrap ((i:Int)+1)=((i+1:Nat):Int):=Ay
 have E2:=E1 a 2 2 rfl (by omega) (by omega) hi3
 by_cases hskip:0 < i∧Dc t a 2=0
 ·have hr:mkI t i ⟨ins,ens,a⟩=⟨ins,ens,Ck t a⟩:=by rw [mkI,if_pos hskip.1,if_pos hskip.2]
  simp only [hr] at ih
  have h3:decide ((0:Int) < (i:Int))=true:=Ae
  rw [hskip.2] at E2
  refine Ab ?_
  refine BJ ?_
  refine Od (a5 h1 h3 w1 E2 @CZ) ?_
  refine Av ?_ ?_ (Aw _) (ih v7 v8 _)
  all_goals simp (maxSteps:=10000000) only [AX,AW,↓reduceIte,reduceCtorEq,Nat.reduceAdd,Nat.reduceEqDiff,Bm,D2,CZ]
  all_goals done
 obtain ⟨a1,ha1,hr⟩:∃ a1,(a1=if 0 < i then Ck t a else a)∧mkI t i ⟨ins,ens,a⟩=Rj t i ⟨ins,ens,a⟩ a1:=by
  refine ⟨_,rfl,?_⟩
  rw [mkI]
  split
  ·rename_i h; rw [if_neg (fun h'=>hskip ⟨h,h'⟩)]
  ·rfl
 have ha1l:a1≤200:=by rw [ha1]; split; exact BW ht hi3; exact hi3
 have E3:=E1 a1 4 4 rfl (by omega) (by omega) ha1l
 obtain ⟨key,hkey⟩:∃ key,Ot.getD i default=key:=⟨_,rfl⟩
 obtain ⟨k1,k2,k3,k4⟩:=key
 have hsz:decide ((ens.length+1) * 32≤140737488355328)=true:=Ae
 have htk:List.take ens.length (ens.map D3)=ens.map D3:=lx118 (by simp)
 have hma:ens.map D3++[.ag [.sc (.int .i64 k1),.sc (.int .i64 k2),.sc (.int .i64 k3),.sc (.int .i64 (ins.length:Int))]]=(ens++[(⟨k1,k2,k3,(ins.length:Int)⟩:En)]).map D3:=Rq
 by_cases hi0:0 < i
 ·have h3:decide ((0:Int) < (i:Int))=true:=by rw [AR]; omega
  have h4:(((Dc t a 2:Nat):Int) == 0)=false:=by
   rw [lx113]
   intro h; exact hskip ⟨hi0,by omega⟩
  rw [if_pos hi0] at ha1
  rw [ha1] at E3 hr ha1l
  obtain ⟨RES,hRES⟩:∃ RES,mkN t (Dc t (Ck t a) 4) ⟨ins,ens++[⟨k1,k2,k3,(ins.length:Int)⟩],Ck t (Ck t a)⟩=RES:=⟨_,rfl⟩
  have hn4:Dc t (Ck t a) 4 < 4:=E7 (by omega)
  refine Ab ?_
  refine BJ ?_
  refine Od (Ix h1 h2 h3 h4 E2 E3 hkey hsz htk hma @Bw @CZ @Ax) ?_
  generalize cnt+1+1=v8' at *
  refine Am (σ:=Nat × Mk × Nat) (fun y cnt=>⟨Bm 0 83 [(2,.pt 1 0 0 0),(3,.pt 0 1 0 0),(4,.pt 5 5 0 0),(5,.sl 6 6 0 9),(6,.sc (.int .i64 (i:Int))),(8,.sc (.int .i64 (y.1:Int)))],
   [⟨true,1,96,2,[.ag [.vw t.z (t.l.map uA),.sc (.int .i64 (y.2.1.a:Int))]],false⟩,⟨true,0,36,7,[.ag [.vw true [],.vw true [],.vw true [],.vw true [],.vw true [],.sc (.int .i64 0),.sc (.int .i64 0)]],false⟩,
    ⟨true,2,9,1,[stA goB,stA Lf],true⟩,⟨true,3,3,1,[.sc (.int .i64 p0),.sc (.int .i64 p1)],true⟩,⟨true,4,3,1,[.sc (.int .i64 0),.sc (.int .i64 5),.sc (.int .i64 (-3))],true⟩,
    ⟨true,5,36,7,[.ag [.sl 7 y.2.2 0 y.2.1.ins.length,.sl 2 2 0 2,.sl 8 v8' 0 (ens.length+1),.sl 3 3 0 2,.sl 4 4 0 3,.sc (.int .i64 2),.sc (.int .i64 2)]],false⟩,⟨true,6,99,4,Ot.map D3,true⟩,
    ⟨true,y.2.2,102,2,y.2.1.ins.map BY,false⟩,⟨true,v8',99,4,(ens++[(⟨k1,k2,k3,(ins.length:Int)⟩:En)]).map D3,false⟩],cnt⟩)
   (fun y=>mkN t y.1 y.2.1=RES∧y.2.1.a≤200∧y.2.1.ins.length+16 * y.1≤600) (fun y=>y.1) (Dc t (Ck t a) 4,⟨ins,ens++[⟨k1,k2,k3,(ins.length:Int)⟩],Ck t (Ck t a)⟩,v7) ⟨hRES,BW ht ha1l,by simp only; omega⟩ ?_ ?_ rfl ?_
  ·exact F4
  ·simp (maxSteps:=10000000) only [AX,AW,CZ]
  rintro ⟨r,⟨ins',ens',a'⟩,v7'⟩ cnt' ⟨g1,g2,g3⟩ ih2
  simp only at g1 g2 g3
  by_cases IY:0 < r
  ·exact Apv
  ·obtain rfl:r=0:=by omega
   have g1:(⟨ins',ens',a'⟩:Mk)=RES:=g1
   have hG:Rj t i ⟨ins,ens,a⟩ (Ck t a)=⟨RES.ins++[⟨31,0⟩],RES.ens,RES.a⟩:=by
    rw [←hRES,Rj]; simp only [hkey]
   exact Aor
 ·have h3:decide ((0:Int) < (i:Int))=false:=by rw [Bz]; omega
  rw [if_neg hi0] at ha1
  rw [ha1] at E3 hr ha1l
  obtain ⟨RES,hRES⟩:∃ RES,mkN t (Dc t a 4) ⟨ins,ens++[⟨k1,k2,k3,(ins.length:Int)⟩],Ck t a⟩=RES:=⟨_,rfl⟩
  have hn4:Dc t a 4 < 4:=E7 (by omega)
  refine Ab ?_
  refine BJ ?_
  refine Od (Ij h1 h2 h3 E3 hkey hsz htk hma @Bw @CZ @Ax) ?_
  generalize cnt+1+1=v8' at *
  refine Am (σ:=Nat × Mk × Nat) (fun y cnt=>⟨Bm 0 83 [(2,.pt 1 0 0 0),(3,.pt 0 1 0 0),(4,.pt 5 5 0 0),(5,.sl 6 6 0 9),(6,.sc (.int .i64 (i:Int))),(8,.sc (.int .i64 (y.1:Int)))],
   [⟨true,1,96,2,[.ag [.vw t.z (t.l.map uA),.sc (.int .i64 (y.2.1.a:Int))]],false⟩,⟨true,0,36,7,[.ag [.vw true [],.vw true [],.vw true [],.vw true [],.vw true [],.sc (.int .i64 0),.sc (.int .i64 0)]],false⟩,
    ⟨true,2,9,1,[stA goB,stA Lf],true⟩,⟨true,3,3,1,[.sc (.int .i64 p0),.sc (.int .i64 p1)],true⟩,⟨true,4,3,1,[.sc (.int .i64 0),.sc (.int .i64 5),.sc (.int .i64 (-3))],true⟩,
    ⟨true,5,36,7,[.ag [.sl 7 y.2.2 0 y.2.1.ins.length,.sl 2 2 0 2,.sl 8 v8' 0 (ens.length+1),.sl 3 3 0 2,.sl 4 4 0 3,.sc (.int .i64 2),.sc (.int .i64 2)]],false⟩,⟨true,6,99,4,Ot.map D3,true⟩,
    ⟨true,y.2.2,102,2,y.2.1.ins.map BY,false⟩,⟨true,v8',99,4,(ens++[(⟨k1,k2,k3,(ins.length:Int)⟩:En)]).map D3,false⟩],cnt⟩)
   (fun y=>mkN t y.1 y.2.1=RES∧y.2.1.a≤200∧y.2.1.ins.length+16 * y.1≤600) (fun y=>y.1) (Dc t (a) 4,⟨ins,ens++[⟨k1,k2,k3,(ins.length:Int)⟩],Ck t (a)⟩,v7) ⟨hRES,BW ht ha1l,by simp only; omega⟩ ?_ ?_ rfl ?_
  ·exact F4
  ·simp (maxSteps:=10000000) only [AX,AW,CZ]
  rintro ⟨r,⟨ins',ens',a'⟩,v7'⟩ cnt' ⟨g1,g2,g3⟩ ih2
  simp only at g1 g2 g3
  by_cases IY:0 < r
  ·exact Apv
  ·obtain rfl:r=0:=by omega
   have g1:(⟨ins',ens',a'⟩:Mk)=RES:=g1
   have hG:Rj t i ⟨ins,ens,a⟩ (a)=⟨RES.ins++[⟨31,0⟩],RES.ens,RES.a⟩:=by
    rw [←hRES,Rj]; simp only [hkey]
   exact Aor
def Gk (c:Cd) (v:Vn) (at':Int):Option (List Int × List Ef × Nat):=
 if (CX c v 1000 (Jo v at')).1.dn=true∧(CX c v 1000 (Jo v at')).1.ef.length≤256 then
  some ((CX c v 1000 (Jo v at')).1.va,(CX c v 1000 (Jo v at')).1.ef,(CX c v 1000 (Jo v at')).2) else none
def JJ:Option (List Int × List Ef × Nat)→AV
 | some r=>.tu [.vw false (r.1.map (kA .i64)),.vw false (r.2.1.map C6),kA .i64 r.2.2,kA .i64 0]
 | none=>.tu [.vw true [],.vw true [],kA .i64 0,kA .i64 52]
theorem QY (o:Option (List Int × List Ef × Nat)):(JJ o).noref=true:=by
 cases o with
 | none=>simp [JJ,kA,AV.noref,norefs]
 | some r=>simp [JJ,kA,AV.noref,norefs,Bx,Jl]
theorem Xk {c:Cd} {v:Vn} (h:GH c v=true):EnvI c v∧(∀ x ∈ v.vars,ER x)∧v.vars.length=c.vars.length:=by
 simp only [GH,AT,lx85,JK,lx97,Hs] at h
 obtain ⟨⟨⟨⟨⟨⟨⟨_,h1⟩,h2⟩,h3⟩,h4⟩,_⟩,h5⟩,h6⟩:=h
 have bad:∀ lo n,De lo n=false→lo≤n∧n≤2147483647:=fun lo n hb=>by
  simp only [De,JL,Bz] at hb; omega
 exact ⟨⟨h2,fun x hx=>bad _ _ (h4 x hx),bad _ _ h5,bad _ _ h6⟩,fun x hx=>bad _ _ (h3 x hx),by omega⟩
theorem YC {c:Cd} {v:Vn} {at':Int} (h:ExeQ c v at'):MOk c (Jo v at'):=by
 obtain ⟨_,h2,h3⟩:=Xk h.env
 obtain ⟨e,he,rfl⟩:=h.ent
 exact ⟨.ent he,fun x hx=>absurd hx (by simp [Jo]),h2,h3⟩
def exT (w:Nat) (wid:Nat) (n:Int):List AV:=Bm 0 71 [(3,.sc (.int .i64 1000)),(12,.pt wid w 0 0),(14,.sc (.int .i64 n))]
theorem Aun {σ:Nat→Nat} {c2:Nat} {H:List Blk} {a w b w':Nat} {n:Int} (h:Rn 0 σ c2 H (.pt a w 0 0) (.pt b w' 0 0)):RnL 0 σ c2 H (exT w a n) (exT w' b n):=by
 unfold exT
 exact Awu
theorem Adr {c:Cd} {v:Vn} {f:Nat} {m:Ms} (h:m.dn=true∨256 < m.ef.length):CX c v f m=(m,0):=by
 cases f with
 | zero=>rfl
 | succ f=>rw [CX,if_pos h]
theorem Xl (c:Cd) (v:Vn) (x:In) (m:Ms):(Au c v x m).ef.length≤m.ef.length+1:=by
 have key:∀ r:Ms,Au c v x m=r→r.ef.length≤m.ef.length+1→(Au c v x m).ef.length≤m.ef.length+1:=fun r h1 h2=>h1 ▸ h2
 obtain ⟨op,a⟩:=x
 have put:∀ n (m:Ms),(Jm n m).ef=m.ef:=fun _ _=>rfl
 have pop:∀ (m:Ms),(HO m).ef=m.ef:=fun _=>rfl
 have eff:∀ x (m:Ms),(Nr x m).ef.length=m.ef.length+1:=fun _ _=>by simp [Nr]
 rcases DF op with (rfl | rfl | rfl | rfl | rfl | rfl | rfl | rfl | rfl | rfl | rfl | rfl | rfl | rfl | rfl | rfl | rfl | rfl | rfl | rfl | rfl | rfl | rfl | rfl | rfl | rfl | rfl | rfl | rfl | rfl | rfl) | hno
 ·exact LP
 ·exact LP
 ·exact LP
 ·exact LP
 ·exact LP
 ·exact LP
 ·exact LP
 ·exact LP
 ·exact LP
 ·exact LP
 ·exact LP
 ·exact LP
 ·simp only [Au,opS,Int.reduceEq,lx6,lx7,↓reduceIte]
  by_cases hz:G9 { m with pc:=m.pc+1 }=0 <;> simp only [hz,↓reduceIte,pop,put] <;> omega
 ·simp only [Au,opS,Int.reduceEq,lx6,lx7,↓reduceIte]
  by_cases hz:G9 { m with pc:=m.pc+1 }≤0 <;> simp only [hz,↓reduceIte,pop,put] <;> omega
 ·exact LP
 ·exact LP
 ·exact LP
 ·exact LP
 ·exact LP
 ·exact LP
 ·exact LP
 ·exact LP
 ·exact LP
 ·exact LP
 ·exact LP
 ·exact LP
 ·exact LP
 ·exact LP
 ·exact LP
 ·exact LP
 ·exact LP
 ·have g:∀ k:Int,1≤k→k≤31→(op=k)=False:=fun k h1 h2=>by have:=hno k h1 h2; simpa using this
  simp [Au,opS,g,eff]
theorem Ads (c:Cd) (v:Vn) (at':Int) (h:ExeQ c v at'):Hz Tryz.prog 157 [Bv c,.sc (.int .i64 at'),JA v,.sc (.int .i64 1000)] (JJ (Gk c v at')):=by
 have hv:=Fe h.env
 obtain ⟨he,_,_⟩:=Xk h.env
 have hm0:=YC h
 obtain ⟨F203,k203,E203⟩:=Dz (Yx c v at' h ⟨true,0,36,7,[Bv c],false⟩ ⟨true,1,104,6,[JA v],false⟩ 2)
 simp only [Aa,AP,AA,AY,dead,Nat.reduceAdd] at E203
 refine D1 (Aj (lit:=false) (pm:=fun _=>none) .nil .nil .nil (.cons k203 (.cons (Bbu c v) .nil))) rfl Tryz.func157 rfl (by decide) (by kernel_rfl) (QY _) ?_
 simp only [Tryz.f157,Af,lx53,lx63,Nat.reduceAdd,Nat.reduceSub,List.replicate]
 refine Ab ?_
 refine It E203 ?_
 refine Av (T':=exT 7 6 0) (H':=[dead,dead,dead,dead,dead,⟨true,6,3,1,v.vars.map (kA .i64),false⟩,⟨true,7,253,17,[.ag [.vw c.zi (c.ins.map BY),.vw c.zs (c.strs.map stA),.vw c.ze (c.ens.map D3),.vw c.zp (c.pri.map (kA .i64)),.vw c.zv (c.vars.map (kA .i64)),.sc (.int .i64 c.tim),.sc (.int .i64 c.evs),.sl 5 6 0 v.vars.length,.vw v.zl (v.left.map (kA .i64)),.sc (.int .u64 v.clo),.sc (.int .u32 v.act),.sc (.int .i64 v.pl'),.sc (.int .i64 v.ba),.sc (.int .i64 at'),.sc (.bool false),.vw true [],.vw true []]],false⟩]) ?_ ?_ (Aw _) ?_
 ·simp (maxSteps:=10000000) only [AX,AW,↓reduceIte,reduceCtorEq,Nat.reduceAdd,Nat.reduceEqDiff,Bm,D2,exT]
 ·simp (maxSteps:=10000000) only [AX,AW,dead]
 refine E6 (T':=exT 7 6 0) (H':=[dead,dead,dead,dead,dead,⟨true,6,3,1,v.vars.map (kA .i64),false⟩,⟨true,7,253,17,[.ag [.vw c.zi (c.ins.map BY),.vw c.zs (c.strs.map stA),.vw c.ze (c.ens.map D3),.vw c.zp (c.pri.map (kA .i64)),.vw c.zv (c.vars.map (kA .i64)),.sc (.int .i64 c.tim),.sc (.int .i64 c.evs),.sl 5 6 0 v.vars.length,.vw v.zl (v.left.map (kA .i64)),.sc (.int .u64 v.clo),.sc (.int .u32 v.act),.sc (.int .i64 v.pl'),.sc (.int .i64 v.ba),.sc (.int .i64 at'),.sc (.bool false),.sl 7 8 0 0,.vw true []]],false⟩]) 8 3 1 9 (by omega) (by omega) (BP _ _ _) ?_ ?_
 ·refine S2 ?_
  refine ⟨.inl rfl,.inl rfl,.inl rfl,.inl rfl,.inl rfl,.inl rfl,Fp _ _ _ _ _ _ _ _ _ _ ⟨Gf ⟨.refl _,.refl _,.refl _,.refl _,.refl _,.refl _,.refl _,.refl _,.refl _,.refl _,.refl _,.refl _,.refl _,.refl _,.refl _,.nil,BP _ _ _⟩,trivial⟩⟩
 refine qd5 ?_
 refine E6 (T':=exT 7 6 0) (H':=[dead,dead,dead,dead,dead,⟨true,6,3,1,v.vars.map (kA .i64),false⟩,⟨true,7,253,17,[.ag [.vw c.zi (c.ins.map BY),.vw c.zs (c.strs.map stA),.vw c.ze (c.ens.map D3),.vw c.zp (c.pri.map (kA .i64)),.vw c.zv (c.vars.map (kA .i64)),.sc (.int .i64 c.tim),.sc (.int .i64 c.evs),.sl 5 6 0 v.vars.length,.vw v.zl (v.left.map (kA .i64)),.sc (.int .u64 v.clo),.sc (.int .u32 v.act),.sc (.int .i64 v.pl'),.sc (.int .i64 v.ba),.sc (.int .i64 at'),.sc (.bool false),.sl 7 8 0 0,.sl 8 9 0 0]],false⟩,⟨true,8,3,1,[],false⟩]) 9 73 5 10 (by omega) (by omega) (BP _ _ _) ?_ ?_
 ·refine S2 ?_
  refine ⟨.inl rfl,.inl rfl,.inl rfl,.inl rfl,.inl rfl,.inl rfl,Fp _ _ _ _ _ _ _ _ _ _ ⟨Gf ⟨.refl _,.refl _,.refl _,.refl _,.refl _,.refl _,.refl _,.refl _,.refl _,.refl _,.refl _,.refl _,.refl _,.refl _,.refl _,.refl _,.nil,trivial⟩,trivial⟩,.inl rfl⟩
 refine qd5 ?_
 have hpt:∀ {H:List Blk} (j v':Nat) (B:Blk),H[Hl [6,5,7,8] j]?=some B→B.live=true→B.ver=v'→Rn 0 (Hl [6,5,7,8]) 11 H (.pt (Hl [6,5,7,8] j) v' 0 0) (.pt j 10 0 0):=fun {H} j v' B e1 e2 e3=>by
  have:=Rn.pt (d:=0) (σ:=Hl [6,5,7,8]) (c2:=11) (H1:=H) (v2:=10) j v' 0 0 B e1 e2 e3 (by omega)
  rwa [B4] at this
 have hsl:∀ {H:List Blk} (j v' n:Nat) (B:Blk),H[Hl [6,5,7,8] j]?=some B→B.live=true→B.ver=v'→Rn 0 (Hl [6,5,7,8]) 11 H (.sl (Hl [6,5,7,8] j) v' 0 n) (.sl j 10 0 n):=fun {H} j v' n B e1 e2 e3=>by
  have:=Rn.sl (d:=0) (σ:=Hl [6,5,7,8]) (c2:=11) (H1:=H) (v2:=10) j v' 0 n B e1 e2 e3 (by omega)
  rwa [B4] at this
 refine Aqi (T':=exT 10 0 0) (H2:=mH c v (Jo v at') 10 10 10 10 []) (c2:=11) (Hl [6,5,7,8]) (Aun (hpt 0 7 _ rfl rfl rfl)) ?_ ?_ (by omega) ?_
 ·intro j B2 e1 e2
  have hj:j < 4:=(lx22.1 e1).1
  have h4:j=0∨j=1∨j=2∨j=3:=Ai
  rcases h4 with rfl | rfl | rfl | rfl
  ·cases e1
   refine ⟨_,rfl,rfl,Aw _,(show 10 < 11 by decide),rfl,rfl,rfl,fun i e f g1 g2=>?_⟩
   obtain rfl:i=0:=Aq1
   cases g1; cases g2
   refine ⟨by simp,Ahs ⟨.nr rfl,.nr rfl,.nr rfl,.nr rfl,.nr rfl,.nr rfl,.nr rfl,hsl 1 _ _ _ rfl rfl rfl,.nr rfl,.nr rfl,.nr rfl,.nr rfl,.nr rfl,.nr rfl,.nr rfl,hsl 2 _ _ _ rfl rfl rfl,hsl 3 _ _ _ rfl rfl rfl,trivial⟩⟩
  ·cases e1; exact ⟨_,rfl,rfl,Aw _,(show 10 < 11 by decide),rfl,rfl,rfl,Hk (Bx _) (HD (f:=kA .i64) (fun x=>by simp [kA]) _)⟩
  ·exact Aph
  ·exact Aph
 ·intro i j Bi Bj e1 e2 _ _ e
  have hi:i < 4:=(lx22.1 e1).1
  have hj:j < 4:=(lx22.1 e2).1
  revert e
  revert i j
  intro i j e1 e2 hi hj
  have key:∀ i,i < 4→∀ j,j < 4→Hl [6,5,7,8] i=Hl [6,5,7,8] j→i=j:=by decide
  exact key i hi j hj
 obtain ⟨B,hB⟩:∃ B:Nat,B=1000:=⟨_,rfl⟩
 have hx:Gk c v at'=if (CX c v B (Jo v at')).1.dn=true∧(CX c v B (Jo v at')).1.ef.length≤256 then
  some ((CX c v B (Jo v at')).1.va,(CX c v B (Jo v at')).1.ef,(CX c v B (Jo v at')).2) else none:=by rw [hB]; rfl
 rw [hx]
 clear hx
 refine Am (σ:=Nat × Ms × Nat × Nat × List AV) (fun y cnt=>⟨exT 10 0 y.1,mH c v y.2.1 10 10 y.2.2.1 y.2.2.2.1 y.2.2.2.2,cnt⟩)
  (fun y=>y.1≤B∧(y.2.1.dn=false→MOk c y.2.1)∧y.2.1.ef.length≤257∧y.2.2.2.2.take y.2.1.st.length=y.2.1.st.map (kA .i64)∧
   CX c v B (Jo v at')=((CX c v (B - y.1) y.2.1).1,y.1+(CX c v (B - y.1) y.2.1).2)) (fun y=>B - y.1) (0,Jo v at',10,10,[]) ⟨BT _,fun _=>hm0,by simp [Jo],rfl,by rw [Nat.sub_zero,B4]⟩ (CT _) (AM _) rfl ?_
 rintro ⟨n,m,s,e,E⟩ cnt ⟨hn,hm,hef,hE,hrun⟩ ih
 simp only at hn hm hef hE hrun
 have n1:decide ((n:Int) < 1000)=decide (n < B):=Rr
 have n2:decide (((m.ef.length:Nat):Int)≤256)=decide (m.ef.length≤256):=Rr
 by_cases hgo:m.dn=false∧n < B∧m.ef.length≤256
 ·obtain ⟨g1,g2,g3⟩:=hgo
  have hm:=hm g1
  have hq:=Xg hv he hm (by omega)
  have hop:=Xi hv hm
  obtain ⟨s',e',E',cnt',x1,x2⟩:=Bgo hq hop 10 10 s e E hE cnt
  have hr1:CX c v (B - n) m=((CX c v (B - (n+1)) (Au c v (AD c m.pc) m)).1,(CX c v (B - (n+1)) (Au c v (AD c m.pc) m)).2+1):=by
   rw [show B - n=(B - (n+1))+1 by omega,CX,if_neg (by rw [g1]; simp; omega)]
  rw [hr1] at hrun
  have hm2:(Au c v (AD c m.pc) m).dn=false→MOk c (Au c v (AD c m.pc) m):=fun hd=>QW hv he hm (fun h31=>by
   have:(Au c v (AD c m.pc) m).dn=true:=by simp [Au,opS,h31]
   rw [this] at hd; cases hd)
  have hef2:(Au c v (AD c m.pc) m).ef.length≤m.ef.length+1:=Xl c v _ m
  generalize Au c v (AD c m.pc) m=M at x1 x2 hrun hm2 hef2
  obtain ⟨H2,hH2⟩:∃ H2,mH c v M 10 10 s' e' E'=H2:=⟨_,rfl⟩
  rw [hH2] at x1
  have w1:IntKind.i64.wrap ((n:Int)+1)=((n+1:Nat):Int):=Ay
  have ih2:=fun c'=>ih (n+1,M,s',e',E') c' ⟨by simp only; omega,hm2,by simp only; omega,x2,by simp only; rw [hrun]; simp only [lx40,Du]; omega⟩ (by simp only; omega)
  simp only [hH2] at ih2
  clear ih hH2 hm2 hef2 hrun hr1 hop hq x2 hE hm
  have n3:decide (n < B)=true:=by rw [AR]; exact g2
  have n4:decide (m.ef.length≤256)=true:=by rw [AR]; exact g3
  rw [n3] at n1
  rw [n4] at n2
  obtain ⟨pc,dn,va,st,ef⟩:=m
  simp only at g1 n2
  subst g1
  simp only [mH,AA,AY] at x1
  refine Ab ?_
  simp only [exT,mH]
  refine BJ ?_
  refine It (a4 n1 n2 x1 w1) ?_
  repeat' (first | exact Ac (by kernel_rfl) | refine ⟨Ac (by kernel_rfl),?_⟩ | refine And.intro ?_ ?_ | fail)
  refine Av ?_ (AM _) (Aw _) (ih2 _)
  simp (maxSteps:=10000000) only [AX,AW,↓reduceIte,reduceCtorEq,Nat.reduceAdd,Nat.reduceEqDiff,Bm,D2,exT]
  all_goals done
 have hstop:CX c v (B - n) m=(m,0):=by
  exact Aw9
 rw [hstop] at hrun
 rw [hrun]
 clear ih hstop hrun hm
 simp only [JF]
 obtain ⟨pc,dn,va,st,ef⟩:=m
 simp only at hgo hef hE n2
 have te:List.take ef.length (ef.map C6)=ef.map C6:=lx118 (by simp)
 have tv:List.take va.length (va.map (kA .i64))=va.map (kA .i64):=lx118 (by simp)
 have n5:decide ((256:Int) < ((ef.length:Nat):Int))=decide (256 < ef.length):=Rr
 cases dn with
 | true=>
  by_cases g3:ef.length≤256
  ·have n4:decide (256 < ef.length)=false:=by rw [Bz]; omega
   rw [n4] at n5
   rw [if_pos ⟨rfl,g3⟩]
   refine Ab ?_
   simp only [exT,mH,JJ]
   refine BJ ?_
   refine It (a3 n5 te tv) ?_
   exact Awl
  ·have n4:decide (256 < ef.length)=true:=by rw [AR]; omega
   rw [n4] at n5
   rw [if_neg (fun h=>g3 h.2)]
   refine Ab ?_
   simp only [exT,mH,JJ]
   refine BJ ?_
   refine It n5 ?_
   repeat' (first | exact Ac (by kernel_rfl) | refine ⟨Ac (by kernel_rfl),?_⟩ | refine And.intro ?_ ?_ | fail)
   all_goals first | exact .refl _ | rfl | skip
   all_goals done
 | false=>
  rw [if_neg (fun h=>by cases h.1)]
  have hc:decide (n < B)=false∨decide (ef.length≤256)=false:=by
   rcases Ec n B with h | h
   ·right; rw [Bz]; exact fun h'=>hgo ⟨rfl,h,h'⟩
   ·left; rw [Bz]; omega
  obtain ⟨b1,hb1⟩:∃ b,decide (n < B)=b:=⟨_,rfl⟩
  obtain ⟨b2,hb2⟩:∃ b,decide (ef.length≤256)=b:=⟨_,rfl⟩
  rw [hb1] at n1 hc
  rw [hb2] at n2 hc
  cases b1 <;> cases b2 <;> first | (exfalso; revert hc; decide) | skip
  all_goals
   refine Ab ?_
   simp only [exT,mH,JJ]
   exact Awd
  all_goals done
end Go.Proofs.YtdjpkhjaibdogaaGreat
