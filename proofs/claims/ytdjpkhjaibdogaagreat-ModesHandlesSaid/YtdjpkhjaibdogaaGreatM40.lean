/-
  Lemmas towards ModesHandles (joined texts: GW, EE, EF, EG, EH, EI, EJ, EK, EL, HA, MT, HT).
  Conditions: none.
-/
import Derived.Test.YtdjpkhjaibdogaaGreatM01
import Derived.Test.YtdjpkhjaibdogaaGreatM02
import Derived.Test.YtdjpkhjaibdogaaGreatM39
import Derived.Test.YtdjpkhjaibdogaaGreatM33
import Derived.Test.YtdjpkhjaibdogaaGreatM19
import Derived.Test.YtdjpkhjaibdogaaGreatM14
import Derived.Test.YtdjpkhjaibdogaaGreatM23
set_option linter.unusedSimpArgs false
set_option linter.unusedVariables false
set_option maxRecDepth 100000
set_option maxHeartbeats 8000000
namespace Go.Proofs.YtdjpkhjaibdogaaGreat
open Go Go.SX
attribute [local congr] ite_congr
theorem YS (a:Rs):MD a a=true:=by simp [MD]
theorem RuI.bare {c:Cd} {x:Cx} {r:Ru} (h:RuI c x r):Bo c (Q2 r).s=true:=by
 obtain ⟨⟨zv',vars',zl',left',act',zm',lamps',fau'⟩,ef',po'⟩:=r
 have h2:RuI c x ⟨⟨false,vars',false,left',act',false,lamps',fau'⟩,[],[]⟩:=⟨h.val,h.fit,h.cx,h.vl,h.va,h.ll,h.lf,h.ac,h.fa,h.lo,h.so⟩
 have h3:=Ae6 h2
 exact h3
theorem Ao0 {c:Cd} (hf:Fit c) (s:Rs) (ev:Ev) (x:Cx) (h:(GZ c s ev x).2=0):Bo c (Q2 (GZ c s ev x).1).s=true:=by
 unfold GZ at h ⊢
 by_cases h1:Bo c s=false
 ·rw [if_pos h1] at h; exact absurd h (by simp)
 rw [if_neg h1] at h ⊢
 by_cases h2:HM x=false
 ·rw [if_pos h2] at h; exact absurd h (by simp)
 rw [if_neg h2] at h ⊢
 by_cases h3:Yq c ev=false
 ·rw [if_pos h3] at h; exact absurd h (by simp)
 rw [if_neg h3]
 have hm:ev.mo < c.pri.length:=by
  rw [Bool.not_eq_false] at h3
  exact Aes
 have:=(Ann (ev:=ev) hm (Uf hf (by simpa using h1) (by simpa using h2))).1
 exact this.bare
theorem Uk (c:Cd) (hf:Fit c) (s:Rs) (ev:Ev) (x:Cx):Di Tryz.prog 34 [Bv c,Fv s,CV ev,JB x] (.sc (.bool true)):=by
 have x1:=e72 c hf s ev x
 have hst:=Ao0 hf s ev x
 generalize GZ c s ev x=p at x1 hst
 obtain ⟨⟨⟨zv',vars',zl',left',act',zm',lamps',fau'⟩,ef',po'⟩,e⟩:=p
 have x2:=e39 ⟨false,vars',false,left',act',false,lamps',fau'⟩ ⟨false,vars',false,left',act',false,lamps',fau'⟩
 rw [YS] at x2
 have x3:=e27 false ef' false ef'
 have x4:=e73 false po' false po'
 have x5:=e40 c ⟨false,vars',false,left',act',false,lamps',fau'⟩ hf
 simp only [decide_true] at x3 x4
 simp only [Aa,Aq,Bl,AN,Jt,AA] at x1 x2 x5
 refine Ad (Aj (lit:=false) (pm:=fun _=>none) (.cons Bg8 (.cons Bg7 (.cons Bg6 (.cons Au9 .nil)))) (.cons Bh7 (.cons Bh0 .nil)) .nil .nil) rfl Tryz.func34 rfl (by decide) (by kernel_rfl) (by kernel_rfl) ?_
 simp only [Tryz.f34,Af,lx53,lx63,Nat.reduceAdd,Nat.reduceSub,List.replicate]
 simp only [Aa,Aq,Bl,AN]
 refine Ab ?_
 by_cases he:e=0
 ·subst he
  have:=hst rfl
  simp only [Q2] at this
  rw [this] at x5
  exact zG1 (a5 x1 x2 x3 x4 x5)
  all_goals done
 ·have b1:(e != 0)=true:=by simpa using he
  exact zG1 (a5 x1 x2 x3 x4 b1)
  all_goals done
noncomputable def f34:=Er hnQ (fun p=>[Bv p.1,Fv p.2.1,CV p.2.2.1,JB p.2.2.2]) (fun _=>.sc (.bool true))
theorem e34 (c:Cd) (h:Fit c) (s:Rs) (ev:Ev) (x:Cx):f34 [Bv c,Fv s,CV ev,JB x]=some (.sc (.bool true)):=
 (AJ (q:=hnQ) (enc:=fun p=>[Bv p.1,Fv p.2.1,CV p.2.2.1,JB p.2.2.2]) (out:=fun _=>.sc (.bool true)) (c,s,ev,x) h (by
  rintro ⟨a,b,d,e⟩ h
  simp only [lx96,Az] at h
  rw [CS h.1,Jk h.2.1,KI h.2.2.1,OK h.2.2.2]) :)
theorem Bh8:DK Tryz.prog 34 f34:=AE <| by
 rintro ⟨c,s,ev,x⟩ h
 exact Uk c h s ev x
theorem Aec {l:List Nat} (h:∀ x ∈ l,x < 256) (i:Nat):l.getD i default < 256:=by
 rw [lx80]
 cases hx:l[i]? with
 | none=>decide
 | some x=>exact h x (lx25 hx)
def u8Q (p:Bool × List Nat):Prop:=∀ x ∈ p.2,x < 256
def HQ (l:Bool × List Nat):Cd:=JE (tpL l.1 l.2 1)
noncomputable def f14:=Er u8Q (fun p=>[.vw p.1 (p.2.map uA)]) (fun p=>Bv (HQ p))
theorem e14 (z:Bool) (l:List Nat) (h:∀ x ∈ l,x < 256):f14 [.vw z (l.map uA)]=some (Bv (HQ (z,l))):=
 (AJ (q:=u8Q) (enc:=fun p=>[.vw p.1 (p.2.map uA)]) (out:=fun p=>Bv (HQ p)) (z,l) h (by
  rintro ⟨a,b⟩ h
  simp only [lx96,AV.vw.injEq,No,Az] at h
  rw [h.1,h.2]) :)
theorem YT (l:List ByteArray):Cc (l.map stA)=true:=Ei (f:=stA) (fun _=>by simp [stA,AV.fresh]) l
theorem Ajx (v:Nat) (c:Cd) (h1:c.zi=false) (h2:c.zs=false) (h3:c.ze=false) (h4:c.zp=false) (h5:c.zv=false):Ao (SU v c) (SS 0 v c)=Bv c∧(SS 0 v c).freshIn (SU v c)=true:=by
 obtain ⟨zi,ins,zs,strs,ze,ens,zp,pri,zv,vars,tim,evs⟩:=c
 simp only at h1 h2 h3 h4 h5
 subst h1; subst h2; subst h3; subst h4; subst h5
 constructor
 ·simp [SS,SU,Ao,Al,AO,Bv,kA,lx118]
 ·simp [SS,SU,AV.freshIn,C5,AO,Cc,AV.fresh,Yy,Yz,YT,LH]
theorem Bh9:FOk Tryz.prog 14 f14:=Lu <| by
 rintro ⟨z,l⟩ h
 obtain ⟨g1,g2⟩:=Ajx 0 (HQ (z,l)) rfl rfl rfl rfl rfl
 have:=Adq z l (Aec h) [] 0
 exact X9 (Ad8 _) this (by rw [lx64]; exact g1 ▸ .refl _) (by rw [lx64]; exact g2)
theorem Av2 (z:Bool) (l:List Nat) (hu:∀ i,l.getD i default < 256) (v:Nat):TpOk (tpL z l v):=by
 exact Awr
theorem Aed (p:Bool × List Nat) (h:u8Q p):Fit (HQ p)∧(HQ p).vars=[0,5,-3]:=by
 have ht:=Av2 p.1 p.2 (Aec h) 1
 have hm:=YB ht (BW ht (BW ht (a:=0) (by omega))) 9
 have h1:=hm.ins
 have h2:=hm.ens
 refine ⟨⟨?_,by simp [HQ,JE],?_,by simp [HQ,JE],by simp [HQ,JE],by simp [HQ,JE],by simp [HQ,JE],?_⟩,rfl⟩
 ·simp only [HQ,JE]; omega
 ·simp only [HQ,JE]; omega
 ·intro b hb
  simp only [HQ,JE,lx59,lx121,E8] at hb
  rcases hb with rfl | rfl
  ·decide
  ·decide
def nx (l:List Nat) (i n:Nat):Nat:=if l.length≤i then 0 else l.getD i default % n
theorem As0 {l:List Nat} {i n:Nat} (h:0 < n):nx l i n < n:=by
 unfold nx; split
 ·exact h
 ·exact Nat.mod_lt _ h
def nxQ (p:(Bool × List Nat) × Nat × Nat):Prop:=(∀ x ∈ p.1.2,x < 256)∧0 < p.2.2∧p.2.2≤1000∧p.2.1≤1000000
noncomputable def f84:=Er nxQ (fun p=>[.vw p.1.1 (p.1.2.map uA),.sc (.int .i64 (p.2.1:Int)),.sc (.int .i64 (p.2.2:Int))]) (fun p=>.sc (.int .i64 (nx p.1.2 p.2.1 p.2.2:Nat)))
theorem e84 (z:Bool) (l:List Nat) (i n:Nat) (N:Int) (hN:N=(n:Int)) (h:∀ x ∈ l,x < 256) (h1:0 < n) (h2:n≤1000) (h3:i≤1000000):
  f84 [.vw z (l.map uA),.sc (.int .i64 (i:Int)),.sc (.int .i64 N)]=some (.sc (.int .i64 (nx l i n:Nat))):=by
 subst hN
 exact (AJ (q:=nxQ) (enc:=fun p=>[.vw p.1.1 (p.1.2.map uA),.sc (.int .i64 (p.2.1:Int)),.sc (.int .i64 (p.2.2:Int))]) (out:=fun p=>.sc (.int .i64 (nx p.1.2 p.2.1 p.2.2:Nat))) ((z,l),i,n) ⟨h,h1,h2,h3⟩ (by
  rintro ⟨⟨a,b⟩,c,d⟩ h
  simp only [lx96,AV.vw.injEq,AV.sc.injEq,Value.int.injEq,No,Az,Du] at h
  obtain ⟨⟨rfl,rfl⟩,h1,h2⟩:=h
  obtain rfl:c=i:=Ai
  obtain rfl:d=n:=Ai
  rfl) :)
theorem Bha:DK Tryz.prog 84 f84:=AE <| by
 rintro ⟨⟨z,l⟩,i,n⟩ ⟨h,h1,h2,h3⟩
 simp only at h h1 h2 h3 ⊢
 have hu:=Aec h i
 refine Ad (Ar (.nil) (.nil)) rfl Tryz.func84 rfl (by decide) (by kernel_rfl) (by kernel_rfl) ?_
 simp only [Tryz.f84,Af,lx53,lx63,Nat.reduceAdd,Nat.reduceSub,List.replicate]
 refine Ab ?_
 by_cases hi:l.length≤i
 ·have g1:decide ((l.length:Int)≤(i:Int))=true:=by rw [AR]; omega
  rw [nx,if_pos hi]
  simp (maxSteps:=10000000) +contextual -implicitDefEqProofs only [AX,AW,St.put,↓reduceIte,Dd,g1]
  all_goals done
 ·have g1:decide ((l.length:Int)≤(i:Int))=false:=by rw [Bz]; omega
  have g2:decide ((i:Int) < (l.length:Int))=true:=Ae
  have g3:decide (i < l.length)=true:=Ae
  obtain ⟨x,hx⟩:∃ x,l.getD i default=x:=⟨_,rfl⟩
  rw [hx] at hu
  have w3:IntKind.i64.wrap (x:Int)=(x:Int):=Ba (by omega) (by omega)
  have hz:¬ (n:Int)=0:=Ai
  have hr:Int.tmod (x:Int) (n:Int)=((x % n:Nat):Int):=rfl
  rw [nx,if_neg hi,hx]
  exact zE1 (Gv g1 g2 g3 w3 hx hz hr @IT @Xd @Ax)
  all_goals done
def evN (i:Nat):Int:=[0,1,2,7,-1,-5,100,2147483647,-2147483647,65536].getD i 0
def etN (i:Nat):Int:=[0,0,1,50,2147483647].getD i 0
theorem Av3 {q:Nat} (h:q < 10):([.sc (.int .i64 0),.sc (.int .i64 1),.sc (.int .i64 2),.sc (.int .i64 7),.sc (.int .i64 (-1)),.sc (.int .i64 (-5)),.sc (.int .i64 100),.sc (.int .i64 2147483647),.sc (.int .i64 (-2147483647)),.sc (.int .i64 65536)]:List AV)[q]?=some (.sc (.int .i64 (evN q))):=by
 exact Ax0
theorem Av4 {q:Nat} (h:q < 5):([.sc (.int .i64 0),.sc (.int .i64 0),.sc (.int .i64 1),.sc (.int .i64 50),.sc (.int .i64 2147483647)]:List AV)[q]?=some (.sc (.int .i64 (etN q))):=by
 have:q=0∨q=1∨q=2∨q=3∨q=4:=Ai
 rcases this with rfl | rfl | rfl | rfl | rfl <;> rfl
def Ur (l:List Nat) (n:Nat):List Int:=(List.range n).map fun i=>evN (nx l i 10)
def Xx (l:List Nat) (k n:Nat):List Int:=(List.range n).map fun i=>etN (nx l (k+i) 5)
def YU (l:List Nat) (k:Nat):Nat→Int
 | 0=>0
 | i+1=>EO .or .u64 (M5 .u64 (YU l k i) 8) (IntKind.u64.wrap (nx l (k+i) 256:Nat))
def HS (c:Cd):Nat:=(min c.tim 200).toNat
def Ao1 (c:Cd) (l:List Nat):Int:=
 EO .and .u32 (IntKind.u32.wrap (nx l (c.vars.length+HS c+8) 256:Nat)) (IntKind.u32.wrap (M5 .u32 1 ((min c.pri.length 16:Nat):Int) - 1))
def Oq (c:Cd) (l:List Nat):Vn:=
 let k:=c.vars.length+HS c
 ⟨false,Ur l c.vars.length,false,Xx l c.vars.length (HS c),YU l k 8,Ao1 c l,(nx l (k+9) 5:Nat),(nx l (k+10) 4:Nat)⟩
theorem Ajy (c:Cd) (hq:Fit c) (z:Bool) (l:List Nat) (h8:∀ x ∈ l,x < 256):Hz Tryz.prog 44 [Bv c,.vw z (l.map uA)] (JA (Oq c l)):=by
 have hfv:=hq.vars
 have hft:=hq.tim
 have hfp:=hq.pri
 obtain ⟨RES,hRES⟩:∃ R,Oq c l=R:=⟨_,rfl⟩
 rw [hRES]
 refine D1 (Aj (lit:=false) (pm:=fun _=>none) (.cons Bha .nil) .nil .nil .nil) rfl Tryz.func44 rfl (by decide) (by kernel_rfl) (SL _) ?_
 simp only [Tryz.f44,Af,lx53,lx63,Nat.reduceAdd,Nat.reduceSub,List.replicate]
 refine Ab ?_
 refine Od (a2 @Aa @AP) ?_
 refine Av (T':=Bm 0 96 [(1,.vw z (l.map uA)),(2,.pt 0 0 0 0),(4,.pt 1 1 0 0),(5,.pt 2 2 0 0),(6,.sc (.int .i64 0))]) (H':=[⟨true,0,36,7,[Bv c],false⟩,⟨true,1,104,6,[.ag [.vw true [],.vw true [],.sc (.int .u64 0),.sc (.int .u32 0),.sc (.int .i64 0),.sc (.int .i64 0)]],false⟩,⟨true,2,104,6,[.ag [.vw true [],.vw true [],.sc (.int .u64 0),.sc (.int .u32 0),.sc (.int .i64 0),.sc (.int .i64 0)]],false⟩]) ?_ ?_ (Aw _) ?_
 ·exact F4
 ·exact I1
 refine E6 (T':=Bm 0 96 [(1,.vw z (l.map uA)),(2,.pt 0 0 0 0),(4,.pt 1 1 0 0),(5,.pt 2 2 0 0),(6,.sc (.int .i64 0))]) (H':=[⟨true,0,36,7,[Bv c],false⟩,⟨true,1,104,6,[.ag [.vw true [],.vw true [],.sc (.int .u64 0),.sc (.int .u32 0),.sc (.int .i64 0),.sc (.int .i64 0)]],false⟩,⟨true,2,104,6,[.ag [.sl 3 3 0 0,.vw true [],.sc (.int .u64 0),.sc (.int .u32 0),.sc (.int .i64 0),.sc (.int .i64 0)]],false⟩]) 3 3 1 4 (by omega) (by omega) (BP _ _ _) ?_ ?_
 ·refine S2 ?_
  exact ⟨.inl rfl,.inl rfl,Fp _ _ _ _ _ _ _ _ _ _ ⟨Gf ⟨.nil,BP _ _ _⟩,trivial⟩⟩
 refine qd5 ?_
 refine E6 (T':=Bm 0 96 [(1,.vw z (l.map uA)),(2,.pt 0 0 0 0),(4,.pt 1 1 0 0),(5,.pt 2 2 0 0),(6,.sc (.int .i64 0))]) (H':=[⟨true,0,36,7,[Bv c],false⟩,⟨true,1,104,6,[.ag [.vw true [],.vw true [],.sc (.int .u64 0),.sc (.int .u32 0),.sc (.int .i64 0),.sc (.int .i64 0)]],false⟩,⟨true,2,104,6,[.ag [.sl 3 3 0 0,.sl 4 4 0 0,.sc (.int .u64 0),.sc (.int .u32 0),.sc (.int .i64 0),.sc (.int .i64 0)]],false⟩,⟨true,3,3,1,[],false⟩]) 4 3 1 5 (by omega) (by omega) (BP _ _ _) ?_ ?_
 ·refine S2 ?_
  exact ⟨.inl rfl,.inl rfl,Fp _ _ _ _ _ _ _ _ _ _ ⟨Gf ⟨.refl _,.nil,BP _ _ _⟩,trivial⟩,.inl rfl⟩
 refine qd5 ?_
 refine Am (σ:=Nat × Nat) (fun y cnt=>⟨Bm 0 96 [(1,.vw z (l.map uA)),(2,.pt 0 0 0 0),(4,.pt 1 1 0 0),(5,.pt 2 2 0 0),(6,.sc (.int .i64 (y.1:Int)))],
  [⟨true,0,36,7,[Bv c],false⟩,⟨true,1,104,6,[.ag [.vw true [],.vw true [],.sc (.int .u64 0),.sc (.int .u32 0),.sc (.int .i64 0),.sc (.int .i64 0)]],false⟩,⟨true,2,104,6,[.ag [.sl 3 y.2 0 y.1,.sl 4 4 0 0,.sc (.int .u64 0),.sc (.int .u32 0),.sc (.int .i64 0),.sc (.int .i64 0)]],false⟩,⟨true,y.2,3,1,(Ur l y.1).map (kA .i64),false⟩,⟨true,4,3,1,[],false⟩],cnt⟩)
  (fun y=>y.1≤c.vars.length) (fun y=>c.vars.length - y.1) (0,3) (BT _) ?_ ?_ rfl ?_
 ·exact F4
 ·simp (maxSteps:=10000000) only [AX,AW,Aa,Ur,List.range_zero]
 rintro ⟨k,v3⟩ cnt hk ih
 simp only at hk
 by_cases hk':k < c.vars.length
 ·have h1:decide ((k:Int) < (c.vars.length:Int))=true:=by rw [AR]; omega
  have w1:IntKind.i64.wrap ((k:Int)+1)=((k+1:Nat):Int):=Ay
  have E1:=e84 z l k 10 10 rfl h8 (by omega) (by omega) (by omega)
  have hq1:=As0 (l:=l) (i:=k) (n:=10) (by omega)
  have ha:(Ur l k).map (kA .i64)++[AV.sc (.int .i64 (evN (nx l k 10)))]=(Ur l (k+1)).map (kA .i64):=by rw [Ur,Ur,List.range_succ,lx12,lx12]; rfl
  obtain ⟨q,hq1'⟩:∃ q,nx l k 10=q:=⟨_,rfl⟩
  rw [hq1'] at E1 hq1 ha
  have g1:decide ((q:Int) < 10)=true:=Ae
  have g2:=Av3 hq1
  have hln:(Ur l k).length=k:=by simp [Ur]
  have hsz:decide ((k+1) * 8≤140737488355328)=true:=Ae
  have ht:List.take k ((Ur l k).map (kA .i64))=(Ur l k).map (kA .i64):=lx118 (by simp [hln])
  have ih:=fun v c=>ih (k+1,v) c (by simp only; omega) (by simp only; omega)
  simp only at ih
  refine Ab ?_
  refine BJ ?_
  refine Od (Gv h1 w1 E1 g1 g2 hsz ht ha @Aa @Aj0) ?_
  exact Aop
 obtain rfl:k=c.vars.length:=Ai
 have h1:decide ((c.vars.length:Int) < (c.vars.length:Int))=false:=Bc
 clear ih
 refine Ab ?_
 refine BJ ?_
 refine Od (a2 h1 @Aa) ?_
 clear h1
 refine Am (σ:=Nat × Nat) (fun y cnt=>⟨Bm 0 96 [(1,.vw z (l.map uA)),(2,.pt 0 0 0 0),(4,.pt 1 1 0 0),(5,.pt 2 2 0 0),(7,.sc (.int .i64 c.vars.length)),(8,.sc (.int .i64 (y.1:Int)))],
  [⟨true,0,36,7,[Bv c],false⟩,⟨true,1,104,6,[.ag [.vw true [],.vw true [],.sc (.int .u64 0),.sc (.int .u32 0),.sc (.int .i64 0),.sc (.int .i64 0)]],false⟩,⟨true,2,104,6,[.ag [.sl 3 v3 0 c.vars.length,.sl 4 y.2 0 y.1,.sc (.int .u64 0),.sc (.int .u32 0),.sc (.int .i64 0),.sc (.int .i64 0)]],false⟩,⟨true,v3,3,1,(Ur l c.vars.length).map (kA .i64),false⟩,⟨true,y.2,3,1,(Xx l c.vars.length y.1).map (kA .i64),false⟩],cnt⟩)
  (fun y=>y.1≤HS c) (fun y=>HS c - y.1) (0,4) (BT _) ?_ ?_ rfl ?_
 ·exact F4
 ·simp (maxSteps:=10000000) only [AX,AW,Aa,Xx,List.range_zero]
 clear hk
 rintro ⟨k,v4⟩ cnt hk ih
 simp only at hk
 have htn:HS c≤200:=by unfold HS; omega
 by_cases hk':k < HS c
 ·have h1:decide ((k:Int) < min c.tim 200)=true:=by
   rw [AR]; unfold HS at hk'; omega
  have w1:IntKind.i64.wrap ((k:Int)+1)=((k+1:Nat):Int):=Ay
  have w2:IntKind.i64.wrap ((c.vars.length:Int)+(k:Int))=((c.vars.length+k:Nat):Int):=Ay
  have E1:=e84 z l (c.vars.length+k) 5 5 rfl h8 (by omega) (by omega) (by omega)
  have hq1:=As0 (l:=l) (i:=c.vars.length+k) (n:=5) (by omega)
  have ha:(Xx l c.vars.length k).map (kA .i64)++[AV.sc (.int .i64 (etN (nx l (c.vars.length+k) 5)))]=(Xx l c.vars.length (k+1)).map (kA .i64):=by rw [Xx,Xx,List.range_succ,lx12,lx12]; rfl
  obtain ⟨q,hq1'⟩:∃ q,nx l (c.vars.length+k) 5=q:=⟨_,rfl⟩
  rw [hq1'] at E1 hq1 ha
  have g1:decide ((q:Int) < 5)=true:=Ae
  have g2:=Av4 hq1
  have hln:(Xx l c.vars.length k).length=k:=by simp [Xx]
  have hsz:decide ((k+1) * 8≤140737488355328)=true:=Ae
  have ht:List.take k ((Xx l c.vars.length k).map (kA .i64))=(Xx l c.vars.length k).map (kA .i64):=lx118 (by simp [hln])
  have ih:=fun v c=>ih (k+1,v) c (by simp only; omega) (by simp only; omega)
  simp only at ih
  refine Ab ?_
  refine BJ ?_
  refine Od (Gv h1 w1 w2 E1 g1 g2 hsz ht ha @Aa) ?_
  exact Aop
 obtain rfl:k=HS c:=Ai
 have h1:decide (((HS c:Nat):Int) < min c.tim 200)=false:=by
  rw [Bz]; unfold HS; omega
 have w2:IntKind.i64.wrap ((c.vars.length:Int)+((HS c:Nat):Int))=((c.vars.length+HS c:Nat):Int):=Ay
 clear ih
 refine Ab ?_
 refine BJ ?_
 refine Od (a3 h1 w2 @Aa) ?_
 clear h1 w2
 obtain ⟨m,hm⟩:∃ m,c.vars.length+HS c=m:=⟨_,rfl⟩
 simp only [hm]
 refine Am (σ:=Nat) (fun y cnt=>⟨Bm 0 96 [(1,.vw z (l.map uA)),(2,.pt 0 0 0 0),(4,.pt 1 1 0 0),(5,.pt 2 2 0 0),(7,.sc (.int .i64 m)),(9,.sc (.int .i64 (y:Int)))],
  [⟨true,0,36,7,[Bv c],false⟩,⟨true,1,104,6,[.ag [.vw true [],.vw true [],.sc (.int .u64 0),.sc (.int .u32 0),.sc (.int .i64 0),.sc (.int .i64 0)]],false⟩,⟨true,2,104,6,[.ag [.sl 3 v3 0 c.vars.length,.sl 4 v4 0 (HS c),.sc (.int .u64 (YU l m y)),.sc (.int .u32 0),.sc (.int .i64 0),.sc (.int .i64 0)]],false⟩,⟨true,v3,3,1,(Ur l c.vars.length).map (kA .i64),false⟩,⟨true,v4,3,1,(Xx l c.vars.length (HS c)).map (kA .i64),false⟩],cnt⟩)
  (fun y=>y≤8) (fun y=>8 - y) 0 (BT _) ?_ ?_ rfl ?_
 ·exact F4
 ·simp (maxSteps:=10000000) only [AX,AW,Aa,YU]
 clear hk
 rintro k cnt hk ih
 have hk:k≤8:=hk
 have hml:m≤200000:=Ai
 by_cases hk':k < 8
 ·have h1:decide ((k:Int) < 8)=true:=by rw [AR]; omega
  have w1:IntKind.i64.wrap ((k:Int)+1)=((k+1:Nat):Int):=Ay
  have w2:IntKind.i64.wrap ((m:Int)+(k:Int))=((m+k:Nat):Int):=Ay
  have E1:=e84 z l (m+k) 256 256 rfl h8 (by omega) (by omega) (by omega)
  have hcs:YU l m (k+1)=EO .or .u64 (M5 .u64 (YU l m k) 8) (IntKind.u64.wrap (nx l (m+k) 256:Nat)):=rfl
  have ih:=fun c=>ih (k+1) c (show k+1≤8 by omega) (show 8 - (k+1) < 8 - k by omega)
  simp only [hcs] at ih
  refine Ab ?_
  refine BJ ?_
  refine Od (a5 h1 w1 w2 E1 @Aa) ?_
  exact LQ
 obtain rfl:k=8:=Ai
 have h1:decide (((8:Nat):Int) < 8)=false:=by decide
 have w8:IntKind.i64.wrap ((m:Int)+8)=((m+8:Nat):Int):=Ay
 have w9:IntKind.i64.wrap ((m:Int)+9)=((m+9:Nat):Int):=Ay
 have w10:IntKind.i64.wrap ((m:Int)+10)=((m+10:Nat):Int):=Ay
 have E1:=e84 z l (m+8) 256 256 rfl h8 (by omega) (by omega) (by omega)
 have E2:=e84 z l (m+9) 5 5 rfl h8 (by omega) (by omega) (by omega)
 have E3:=e84 z l (m+10) 4 4 rfl h8 (by omega) (by omega) (by omega)
 clear ih
 have hln:(Xx l c.vars.length (HS c)).length=HS c:=by simp [Xx]
 have hln3:(Ur l c.vars.length).length=c.vars.length:=by simp [Ur]
 have ht:List.take (HS c) ((Xx l c.vars.length (HS c)).map (kA .i64))=(Xx l c.vars.length (HS c)).map (kA .i64):=lx118 (by simp [hln])
 have ht3:List.take c.vars.length ((Ur l c.vars.length).map (kA .i64))=(Ur l c.vars.length).map (kA .i64):=lx118 (by simp [hln3])
 have hR:RES=⟨false,Ur l c.vars.length,false,Xx l c.vars.length (HS c),YU l m 8,Ao1 c l,(nx l (m+9) 5:Nat),(nx l (m+10) 4:Nat)⟩:=by rw [←hRES,←hm]; rfl
 rw [hR]
 have hmin:min (c.pri.length:Int) 16=((min c.pri.length 16:Nat):Int):=Ai
 have hmw:IntKind.u64.wrap ((min c.pri.length 16:Nat):Int)=((min c.pri.length 16:Nat):Int):=D6 (by omega) (by omega)
 have hact:Ao1 c l=EO .and .u32 (IntKind.u32.wrap (nx l (m+8) 256:Nat)) (IntKind.u32.wrap (M5 .u32 1 ((min c.pri.length 16:Nat):Int) - 1)):=by rw [Ao1,hm]
 refine Ab ?_
 refine BJ ?_
 simp (maxSteps:=10000000) +contextual -implicitDefEqProofs only [AX,AW,St.put,Ao,Al,DN,pl,↓reduceIte,reduceCtorEq,Nat.reduceAdd,Nat.reduceLeDiff,Int.reduceLT,Nat.reduceLT,Dd,Int.reduceAdd,CO,E5,Aa,w8,w9,w10,E1,E2,E3,ht,ht3,hmin,hmw,←hact]
 repeat' (first | exact Ac (by kernel_rfl) | refine ⟨Ac (by kernel_rfl),?_⟩ | refine And.intro ?_ ?_ | fail)
 all_goals first | (simp [AV.freshIn,C5,AO,Cc,AV.fresh,LH]; done) | skip
 all_goals done
def cuQ (p:Cd × Bool × List Nat):Prop:=Fit p.1∧∀ x ∈ p.2.2,x < 256
noncomputable def f44:=Er cuQ (fun p=>[Bv p.1,.vw p.2.1 (p.2.2.map uA)]) (fun p=>JA (Oq p.1 p.2.2))
theorem e44 (c:Cd) (h:Fit c) (z:Bool) (l:List Nat) (h8:∀ x ∈ l,x < 256):f44 [Bv c,.vw z (l.map uA)]=some (JA (Oq c l)):=
 (AJ (q:=cuQ) (enc:=fun p=>[Bv p.1,.vw p.2.1 (p.2.2.map uA)]) (out:=fun p=>JA (Oq p.1 p.2.2)) (c,z,l) ⟨h,h8⟩ (by
  rintro ⟨a,b,d⟩ h
  simp only [lx96,AV.vw.injEq,No,Az] at h
  rw [CS h.1,h.2.1,h.2.2]) :)
theorem Bhd:FOk Tryz.prog 44 f44:=Lu <| by
 rintro ⟨c,z,l⟩ ⟨h1,h2⟩
 exact Ajy c h1 z l h2
def stQ (l:List Nat) (act:Int) (n:Nat):Bool:=BV act (n / 3:Nat) && decide (n < l.length) && decide (0 < l.getD n default % 3)
def stX (l:List Nat) (n:Nat):Lo:=⟨(n / 3:Nat),(9 * (n % 3):Nat),⟨(l.getD n default % 9:Nat),0,0,0⟩⟩
def OS (l:List Nat) (act:Int):Nat→List Lo
 | 0=>[]
 | n+1=>if stQ l act n then OS l act n++[stX l n] else OS l act n
theorem Ac0 (l:List Nat) (act:Int):∀ n,(OS l act n).length≤n
 | 0=>by simp [OS]
 | n+1=>by
  have:=Ac0 l act n
  rw [OS]; split
  ·simp; omega
  ·omega
def LL (c:Cd) (l:List Nat):Rs:=⟨false,(Oq c l).vars,false,(Oq c l).left,(Oq c l).act,false,OS l (Oq c l).act (3 * c.pri.length),0⟩
theorem YV (c:Cd) (hq:Fit c) (z:Bool) (l:List Nat) (h8:∀ x ∈ l,x < 256):C1 Tryz.prog 15 [Bv c,.vw z (l.map uA)] (Fv (LL c l)):=by
 have hfp:=hq.pri
 have E1:=e44 c hq z l h8
 have hE:(Oq c l).zv=false∧(Oq c l).zl=false:=⟨rfl,rfl⟩
 obtain ⟨RES,hRES⟩:∃ R,LL c l=R:=⟨_,rfl⟩
 rw [hRES]
 rw [LL] at hRES
 generalize Oq c l=V at E1 hE hRES
 have hR:RES=⟨false,V.vars,false,V.left,V.act,false,OS l V.act (3 * c.pri.length),0⟩:=hRES.symm
 rw [hR]
 clear hR hRES
 simp only [Aa,AP,hE.1,hE.2] at E1
 refine BO (Aj (lit:=false) (pm:=fun _=>none) .nil .nil (.cons Bhd .nil) .nil) rfl Tryz.func15 rfl (by decide) (by kernel_rfl) (Ade _) ?_
 simp only [Tryz.f15,Af,lx53,lx63,Nat.reduceAdd,Nat.reduceSub,List.replicate]
 refine Ab ?_
 refine Od (a3 E1 @Aa @Aq) ?_
 refine Av (T':=Bm 0 73 [(1,.vw z (l.map uA)),(2,.pt 0 0 0 0),(4,.pt 1 1 0 0),(5,.pt 2 2 0 0),(6,.pt 3 3 0 0),(7,.sc (.int .i64 0))]) (H':=[⟨true,0,36,7,[Bv c],false⟩,⟨true,1,41,5,[.ag [.vw true [],.vw true [],.sc (.int .u32 0),.vw true [],.sc (.int .i64 0)]],false⟩,⟨true,2,104,6,[JA V],false⟩,⟨true,3,41,5,[.ag [.vw false (V.vars.map (kA .i64)),.vw false (V.left.map (kA .i64)),.sc (.int .u32 V.act),.vw true [],.sc (.int .i64 0)]],false⟩]) ?_ ?_ (Aw _) ?_
 ·exact F4
 ·simp (maxSteps:=10000000) only [AX,AW,Aa,AP,hE.1,hE.2]
 refine E6 (T':=Bm 0 73 [(1,.vw z (l.map uA)),(2,.pt 0 0 0 0),(4,.pt 1 1 0 0),(5,.pt 2 2 0 0),(6,.pt 3 3 0 0),(7,.sc (.int .i64 0))]) (H':=[⟨true,0,36,7,[Bv c],false⟩,⟨true,1,41,5,[.ag [.vw true [],.vw true [],.sc (.int .u32 0),.vw true [],.sc (.int .i64 0)]],false⟩,⟨true,2,104,6,[JA V],false⟩,⟨true,3,41,5,[.ag [.vw false (V.vars.map (kA .i64)),.vw false (V.left.map (kA .i64)),.sc (.int .u32 V.act),.sl 4 4 0 0,.sc (.int .i64 0)]],false⟩]) 4 82 6 5 (by omega) (by omega) (BP _ _ _) ?_ ?_
 ·refine S2 ?_
  exact ⟨.inl rfl,.inl rfl,.inl rfl,Fp _ _ _ _ _ _ _ _ _ _ ⟨Gf ⟨.refl _,.refl _,.refl _,.nil,BP _ _ _⟩,trivial⟩⟩
 refine qd5 ?_
 refine Am (σ:=Nat × Nat) (fun y cnt=>⟨Bm 0 73 [(1,.vw z (l.map uA)),(2,.pt 0 0 0 0),(4,.pt 1 1 0 0),(5,.pt 2 2 0 0),(6,.pt 3 3 0 0),(7,.sc (.int .i64 (y.1:Int)))],
  [⟨true,0,36,7,[Bv c],false⟩,⟨true,1,41,5,[.ag [.vw true [],.vw true [],.sc (.int .u32 0),.vw true [],.sc (.int .i64 0)]],false⟩,⟨true,2,104,6,[JA V],false⟩,⟨true,3,41,5,[.ag [.vw false (V.vars.map (kA .i64)),.vw false (V.left.map (kA .i64)),.sc (.int .u32 V.act),.sl 4 y.2 0 (OS l V.act (3 * y.1)).length,.sc (.int .i64 0)]],false⟩,⟨true,y.2,82,6,(OS l V.act (3 * y.1)).map Bg,false⟩],cnt⟩)
  (fun y=>y.1≤c.pri.length) (fun y=>c.pri.length - y.1) (0,4) (BT _) ?_ ?_ rfl ?_
 ·exact F4
 ·simp (maxSteps:=10000000) only [AX,AW,Aa,AP,hE.1,hE.2,OS]
 rintro ⟨m,v4⟩ cnt hm ih
 simp only at hm
 by_cases hm':m < c.pri.length
 rotate_left
 ·obtain rfl:m=c.pri.length:=by omega
  have h1:decide ((c.pri.length:Int) < (c.pri.length:Int))=false:=Bc
  have ht:List.take (OS l V.act (3 * c.pri.length)).length ((OS l V.act (3 * c.pri.length)).map Bg)=(OS l V.act (3 * c.pri.length)).map Bg:=lx118 (by simp)
  clear ih
  refine Ab ?_
  refine BJ ?_
  exact zE1 (a4 h1 ht @Aa @AP)
  all_goals done
 have h1:decide ((m:Int) < (c.pri.length:Int))=true:=Ae
 have w1:IntKind.i64.wrap ((m:Int)+1)=((m+1:Nat):Int):=Ay
 have w3:IntKind.i64.wrap (3 * (m:Int))=((3 * m:Nat):Int):=Ay
 have wm:IntKind.u64.wrap (m:Int)=(m:Int):=D6 (by omega) (by omega)
 have ih:=fun v c=>ih (m+1,v) c (by simp only; omega) (by simp only; omega)
 simp only at ih
 refine Ab ?_
 refine BJ ?_
 refine Od (a3 h1 @Aa @AP) ?_
 refine Am (σ:=Nat × Nat) (fun y cnt=>⟨Bm 0 73 [(1,.vw z (l.map uA)),(2,.pt 0 0 0 0),(4,.pt 1 1 0 0),(5,.pt 2 2 0 0),(6,.pt 3 3 0 0),(7,.sc (.int .i64 (m:Int))),(8,.sc (.int .i64 (y.1:Int)))],
  [⟨true,0,36,7,[Bv c],false⟩,⟨true,1,41,5,[.ag [.vw true [],.vw true [],.sc (.int .u32 0),.vw true [],.sc (.int .i64 0)]],false⟩,⟨true,2,104,6,[JA V],false⟩,⟨true,3,41,5,[.ag [.vw false (V.vars.map (kA .i64)),.vw false (V.left.map (kA .i64)),.sc (.int .u32 V.act),.sl 4 y.2 0 (OS l V.act (3 * m+y.1)).length,.sc (.int .i64 0)]],false⟩,⟨true,y.2,82,6,(OS l V.act (3 * m+y.1)).map Bg,false⟩],cnt⟩)
  (fun y=>y.1≤3) (fun y=>3 - y.1) (0,v4) (BT _) ?_ ?_ rfl ?_
 ·exact F4
 ·simp (maxSteps:=10000000) only [AX,AW,Aa,AP,hE.1,hE.2,JF]
 rintro ⟨k,v⟩ cnt' hk ih2
 simp only at hk
 by_cases hk':k < 3
 rotate_left
 ·obtain rfl:k=3:=by omega
  have h2:decide (((3:Nat):Int) < 3)=false:=by decide
  have h3:3 * (m+1)=3 * m+3:=Ai
  simp only [h3] at ih
  clear ih2
  refine Ab ?_
  refine BJ ?_
  refine Od (a3 w1 @Aa @AP) ?_
  refine Av ?_ ?_ (Aw _) (ih v _)
  all_goals exact As7
 have h2:decide ((k:Int) < 3)=true:=Ae
 have w2:IntKind.i64.wrap ((k:Int)+1)=((k+1:Nat):Int):=Ay
 have w4:IntKind.i64.wrap (((3 * m:Nat):Int)+(k:Int))=((3 * m+k:Nat):Int):=Ay
 have ih2:=fun v c=>ih2 (k+1,v) c (by simp only; omega) (by simp only; omega)
 have hS:OS l V.act (3 * m+(k+1))=if stQ l V.act (3 * m+k) then OS l V.act (3 * m+k)++[stX l (3 * m+k)] else OS l V.act (3 * m+k):=rfl
 have hd:(3 * m+k) / 3=m:=Ai
 have hd2:(3 * m+k) % 3=k:=Ai
 simp only at ih2
 obtain ⟨n,hn⟩:∃ n,3 * m+k=n:=⟨_,rfl⟩
 rw [hn] at hd hd2
 have hQ:stQ l V.act n=(BV V.act m && decide (n < l.length) && decide (0 < l.getD n default % 3)):=by rw [stQ,hd]
 have hX:stX l n=⟨(m:Int),(9 * k:Nat),⟨(l.getD n default % 9:Nat),0,0,0⟩⟩:=by rw [stX,hd,hd2]
 have hll:=Ac0 l V.act n
 simp only [hn] at w4 hS
 cases c1:EO .and .u32 (ID .u32 V.act m) 1 == 1 with
 | false=>
  have hq0:stQ l V.act n=false:=by rw [hQ,BV,c1]; rfl
  rw [hq0] at hS
  simp only [hS] at ih2
  refine Ab ?_
  refine BJ ?_
  refine Od (a9 h2 w2 w3 w4 wm c1 hn @Aa @AP) ?_
  exact Aev
 | true=>
 cases c2:decide (n < l.length) with
 | false=>
  have hq0:stQ l V.act n=false:=by rw [hQ,c2]; simp
  have c2':decide ((n:Int) < (l.length:Int))=false:=by
   rw [Bz] at c2 ⊢; omega
  rw [hq0] at hS
  simp only [hS] at ih2
  refine Ab ?_
  refine BJ ?_
  refine Od (Gv h2 w2 w3 w4 wm c1 c2' hn @Aa @AP) ?_
  exact Aev
 | true=>
 have hu:=Aec h8 n
 have c2':decide ((n:Int) < (l.length:Int))=true:=by
  rw [AR] at c2 ⊢; omega
 obtain ⟨x,hx⟩:∃ x,l.getD n default=x:=⟨_,rfl⟩
 rw [hx] at hu hQ hX
 have hr:Int.tmod (x:Int) 3=((x % 3:Nat):Int):=rfl
 have hr9:Int.tmod (x:Int) 9=((x % 9:Nat):Int):=rfl
 have wx:IntKind.i64.wrap (x:Int)=(x:Int):=Ba (by omega) (by omega)
 have wk:IntKind.i64.wrap (9 * (k:Int))=((9 * k:Nat):Int):=Ay
 cases c3:decide (0 < x % 3) with
 | false=>
  have hq0:stQ l V.act n=false:=by rw [hQ,c3]; simp
  have c3':decide ((0:Int) < ((x % 3:Nat):Int))=false:=by
   rw [Bz] at c3 ⊢; omega
  rw [hq0] at hS
  simp only [hS] at ih2
  refine Ab ?_
  refine BJ ?_
  refine Od (a16 h2 w2 w3 w4 wm c1 c2 c2' hx hr c3' hn @Aa @AP @IT @Xd) ?_
  exact Aev
 | true=>
  have hq0:stQ l V.act n=true:=by rw [hQ,BV,c1,c2,c3]; rfl
  have c3':decide ((0:Int) < ((x % 3:Nat):Int))=true:=by
   rw [AR] at c3 ⊢; omega
  rw [hq0] at hS
  simp only [lx6] at hS
  simp only [hS,lx5,lx53,lx63,B4] at ih2
  have hsz:decide (((OS l V.act n).length+1) * 48≤140737488355328)=true:=Ae
  have ht:List.take (OS l V.act n).length ((OS l V.act n).map Bg)=(OS l V.act n).map Bg:=lx118 (by simp)
  have ha:(OS l V.act n).map Bg++[.ag [.sc (.int .i64 m),.sc (.int .i64 (9 * k:Nat)),.sc (.int .i64 (x % 9:Nat)),.sc (.int .i64 0),.sc (.int .i64 0),.sc (.int .i64 0)]]=(OS l V.act n++[stX l n]).map Bg:=by rw [lx12,hX]; rfl
  refine Ab ?_
  refine BJ ?_
  refine Od (a22 h2 w2 w3 w4 wm c1 c2 c2' hx hr hr9 wx wk c3' hn hsz ht ha @Aa @AP @IT @Xd) ?_
  repeat' (first | exact Ac (by kernel_rfl) | refine ⟨Ac (by kernel_rfl),?_⟩ | refine And.intro ?_ ?_ | fail)
  refine Av ?_ ?_ (Aw _) (ih2 (cnt'+1) _)
  all_goals exact As7
noncomputable def f15:=Er cuQ (fun p=>[Bv p.1,.vw p.2.1 (p.2.2.map uA)]) (fun p=>Fv (LL p.1 p.2.2))
theorem e15 (c:Cd) (h:Fit c) (z:Bool) (l:List Nat) (h8:∀ x ∈ l,x < 256):f15 [Bv c,.vw z (l.map uA)]=some (Fv (LL c l)):=
 (AJ (q:=cuQ) (enc:=fun p=>[Bv p.1,.vw p.2.1 (p.2.2.map uA)]) (out:=fun p=>Fv (LL p.1 p.2.2)) (c,z,l) ⟨h,h8⟩ (by
  rintro ⟨a,b,d⟩ h
  simp only [lx96,AV.vw.injEq,No,Az] at h
  rw [CS h.1,h.2.1,h.2.2]) :)
theorem Bhe:VOk Tryz.prog 15 f15:=Lr <| by
 rintro ⟨c,z,l⟩ ⟨h1,h2⟩
 exact YV c h1 z l h2
def Us (l:List Nat):Nat→Cx
 | 0=>⟨100,0,0,0⟩
 | i+1=>⟨(Us l i).ti+(l.getD i default:Nat),EO .or .u64 (M5 .u64 (Us l i).clo 8) (IntKind.u64.wrap (l.getD i default:Nat)),(l.getD i default % 5:Nat),(Us l i).ba⟩
theorem Ajz {l:List Nat} (h8:∀ x ∈ l,x < 256):∀ i,100≤(Us l i).ti∧(Us l i).ti≤100+256 * i
 | 0=>by simp [Us]
 | i+1=>by
  have:=Ajz h8 i
  have:=Aec h8 i
  simp only [Us]; omega
def Fz (l:List Nat):Cx:=Us l (min l.length 8)
theorem Ul (z:Bool) (l:List Nat) (h8:∀ x ∈ l,x < 256):Hz Tryz.prog 16 [.vw z (l.map uA)] (JB (Fz l)):=by
 refine D1 (Aj (lit:=false) (pm:=fun _=>none) .nil .nil .nil .nil) rfl Tryz.func16 rfl (by decide) (by kernel_rfl) (by simp [JB,kA,AV.noref,norefs]) ?_
 simp only [Tryz.f16,Af,lx53,lx63,Nat.reduceAdd,Nat.reduceSub,List.replicate]
 refine Ab ?_
 refine Od @Bl ?_
 refine Am (σ:=Nat) (fun k cnt=>⟨Bm 0 43 [(0,.vw z (l.map uA)),(2,.pt 0 0 0 0),(3,.pt 1 1 0 0),(4,.sc (.int .i64 (k:Int)))],[⟨true,0,27,4,[.ag [.sc (.int .i64 0),.sc (.int .u64 0),.sc (.int .i64 0),.sc (.int .i64 0)]],false⟩,⟨true,1,27,4,[JB (Us l k)],false⟩],cnt⟩)
  (fun k=>k≤min l.length 8) (fun k=>8 - k) 0 (BT _) ?_ ?_ rfl ?_
 ·exact F4
 ·simp (maxSteps:=10000000) only [AX,AW,Bl,Us]
 rintro k cnt hk ih
 have hk:k≤min l.length 8:=hk
 by_cases c1:k < l.length
 ·have g1:decide ((k:Int) < (l.length:Int))=true:=by rw [AR]; omega
  have g3:decide (k < l.length)=true:=Ae
  by_cases c2:k < 8
  ·have g2:decide ((k:Int) < 8)=true:=by rw [AR]; omega
   have w1:IntKind.i64.wrap ((k:Int)+1)=((k+1:Nat):Int):=Ay
   have ih:=fun c=>ih (k+1) c (show k+1≤min l.length 8 by omega) (show 8 - (k+1) < 8 - k by omega)
   have hu:=Aec h8 k
   have hti:=Ajz h8 k
   have hc:Us l (k+1)=⟨(Us l k).ti+(l.getD k default:Nat),EO .or .u64 (M5 .u64 (Us l k).clo 8) (IntKind.u64.wrap (l.getD k default:Nat)),(l.getD k default % 5:Nat),(Us l k).ba⟩:=rfl
   simp only [hc,Bl] at ih
   obtain ⟨x,hx⟩:∃ x,l.getD k default=x:=⟨_,rfl⟩
   rw [hx] at hu
   simp only [hx] at ih
   have hr:Int.tmod (x:Int) 5=((x % 5:Nat):Int):=rfl
   have wx:IntKind.i64.wrap (x:Int)=(x:Int):=Ba (by omega) (by omega)
   have wt:IntKind.i64.wrap ((Us l k).ti+(x:Int))=(Us l k).ti+(x:Int):=Ba (by omega) (by omega)
   refine Ab ?_
   refine BJ ?_
   refine Od (Ij g1 g2 g3 w1 hx hr wx wt @Bl @IT @Xd) ?_
   exact Akd
  ·obtain rfl:k=8:=by omega
   have g2:decide (((8:Nat):Int) < 8)=false:=by decide
   have hR:Fz l=Us l 8:=by rw [Fz,show min l.length 8=8 by omega]
   rw [hR]
   clear ih
   refine Ab ?_
   refine BJ ?_
   refine Od @Bl ?_
   all_goals first | rfl | (simp [AV.freshIn,C5]; done) | skip
   all_goals done
 ·obtain rfl:k=l.length:=by omega
  have g1:decide ((l.length:Int) < (l.length:Int))=false:=Bc
  have hR:Fz l=Us l l.length:=by rw [Fz,show min l.length 8=l.length by omega]
  rw [hR]
  clear ih
  refine Ab ?_
  refine BJ ?_
  refine Od (a2 g1 @Bl) ?_
  all_goals first | rfl | (simp [AV.freshIn,C5]; done) | skip
  all_goals done
noncomputable def f16:=Er u8Q (fun p=>[.vw p.1 (p.2.map uA)]) (fun p=>JB (Fz p.2))
theorem e16 (z:Bool) (l:List Nat) (h:∀ x ∈ l,x < 256):f16 [.vw z (l.map uA)]=some (JB (Fz l)):=
 (AJ (q:=u8Q) (enc:=fun p=>[.vw p.1 (p.2.map uA)]) (out:=fun p=>JB (Fz p.2)) (z,l) h (by
  rintro ⟨a,b⟩ h
  simp only [lx96,AV.vw.injEq,No,Az] at h
  rw [h.1,h.2]) :)
theorem Bhf:FOk Tryz.prog 16 f16:=Lu <| by
 rintro ⟨z,l⟩ h
 exact Ul z l h
def mt (j:Nat) (p:Nat × Lo):Bool:=(p.2.mo == (p.1:Int)) && (p.2.la == (j:Int))
def Av5 (ps:List (Nat × Lo)) (j:Nat):Option Lm:=(ps.find? (mt j)).map (·.2.se)
structure LpI (ps:List (Nat × Lo)) (out:List Lm) (S:Nat):Prop where
 len:out.length=64
 lt:S < 2 ^ 64
 at_:∀ j,j < 64→out.getD j default=(Av5 ps j).getD default∧S.testBit j=(Av5 ps j).isSome
def Bhg (ps:List (Nat × Lo)) (j:Nat):Option Lm:=Av5 ps.reverse j
structure LqI (ps:List (Nat × Lo)) (out:List Lm):Prop where
 len:out.length=64
 at_:∀ j,j < 64→out.getD j default=(Bhg ps j).getD default
end Go.Proofs.YtdjpkhjaibdogaaGreat
namespace Go.Proofs.YtdjpkhjaibdogaaGreat
open Go Go.SX
def c0:Cd:=⟨false,[],false,[goB,Lf],false,[],false,[0,0],false,[0,5,-3],2,2⟩
structure CodI (ins:List In) (ens:List En):Prop where
 ex:∃ g:Nat→Int,g ins.length=-1∧(∀ k,k < ins.length→insP c0 (ins.getD k default)=false∧Kj (ins.getD k default) (g k)∧0≤g k∧g k≤48∧
  ∀ p ∈ BR (ins.getD k default) ((k:Nat):Int) (g k),∃ q,q≤ins.length∧p=((q:Int),g q))∧∀ e ∈ ens,∃ q,q < ins.length∧e.pc=(q:Int)∧g q=0
def sameK (a b:En):Prop:=a.mo=b.mo∧a.tr=b.tr∧a.ix=b.ix
structure EnsI (ens:List En) (i:Nat):Prop where
 key:∀ e ∈ ens,∃ j,j < i∧sameK e (Ot.getD j default)
 pw:ens.Pairwise fun a b=>Lb a b=true
end Go.Proofs.YtdjpkhjaibdogaaGreat
namespace Go.Proofs.YtdjpkhjaibdogaaGreat
open Go Go.SX
attribute [local congr] ite_congr
def hsB (c:Cd) (s:Rs) (x:Cx) (raw:Ev):List Blk:=[⟨true,0,46,3,[CV raw],false⟩,⟨true,1,36,7,[Bv c],false⟩,⟨true,2,41,5,[Fv s],false⟩,⟨true,3,27,4,[JB x],false⟩]
theorem Aee (hs13:Di Tryz.prog 13 [] (.sc (.bool true))) (z:Bool) (l:List Nat) (hl8:∀ x ∈ l,x < 256) (zm:Bool) (m:List Nat) (hm8:∀ x ∈ m,x < 256) (raw:Ev):
  Di Tryz.prog 9 [.vw z (l.map uA),.vw zm (m.map uA),CV raw] (.sc (.bool true)):=by
 obtain ⟨F13,k13,E13⟩:=Ip hs13
 have E14:=e14 z l hl8
 obtain ⟨c,hc⟩:∃ c,HQ (z,l)=c:=⟨_,rfl⟩
 have hq:=(Aed (z,l) hl8).1
 rw [hc] at E14 hq
 have E15:=e15 c hq zm m hm8
 obtain ⟨s,hs⟩:∃ s,LL c m=s:=⟨_,rfl⟩
 rw [hs] at E15
 have E16:=e16 zm m hm8
 obtain ⟨x,hx⟩:∃ x,Fz m=x:=⟨_,rfl⟩
 rw [hx] at E16
 clear hc hs hx
 have E34:=fun e=>e34 c hq s e x
 have E34r:=E34 raw
 have E34a:=fun a b=>E34 ⟨a,b,b - 2⟩
 have E34b:=fun a b=>E34 ⟨a,b,-1⟩
 clear E34
 simp only [Aa,Aq,Bl,AN] at E14 E15 E16 E34r E34a E34b
 refine Ad (Aj (lit:=false) (pm:=fun _=>none) (.cons k13 (.cons Bh8 .nil)) (.cons Bhe .nil) (.cons Bh9 (.cons Bhf .nil)) .nil) rfl Tryz.func9 rfl (by decide) (by kernel_rfl) (by kernel_rfl) ?_
 simp only [Tryz.f9,Af,lx53,lx63,Nat.reduceAdd,Nat.reduceSub,List.replicate]
 refine Ab ?_
 refine LR (a3 E14 E15 E16) ?_
 clear E14 E15 E16
 refine Am (σ:=Nat) (fun i cnt=>⟨Bm 0 55 [(5,.pt 0 0 0 0),(6,.sc (.bool false)),(7,.pt 1 1 0 0),(8,.pt 2 2 0 0),(9,.pt 3 3 0 0),(10,.sc (.int .i64 (i:Int)))],hsB c s x raw,cnt⟩)
  (fun i=>i≤8) (fun i=>8 - i) 0 (BT _) ?_ ?_ rfl ?_
 ·exact F4
 ·simp (maxSteps:=10000000) only [AX,AW,Aa,Aq,AN,Bl,hsB]
 rintro i cnt hi ih
 have hi:i≤8:=hi
 by_cases hi':i < 8
 rotate_left
 ·obtain rfl:i=8:=by omega
  have h1:decide (((8:Nat):Int) < 8)=false:=by decide
  clear ih
  refine Ab ?_
  refine BJ ?_
  simp (maxSteps:=10000000) +contextual -implicitDefEqProofs only [AX,AW,Ap,St.put,Ao,Al,DN,pl,↓reduceIte,Nat.reduceAdd,Nat.reduceEqDiff,Int.reduceLT,Nat.reduceLT,Dd,Int.reduceAdd,CO,Aa,Aq,Bl,AN,hsB,E13,E34r]
  all_goals done
 have h1:decide ((i:Int) < 8)=true:=Ae
 have w1:IntKind.i64.wrap ((i:Int)+1)=((i+1:Nat):Int):=Ay
 have ih:=fun c=>ih (i+1) c (show i+1≤8 by omega) (show 8 - (i+1) < 8 - i by omega)
 refine Ab ?_
 refine BJ ?_
 simp (maxSteps:=10000000) +contextual -implicitDefEqProofs only [AW,St.put,↓reduceIte,CO,Aa,Aq,Bl,AN,hsB,h1]
 refine Am (σ:=Nat) (fun j cnt=>⟨Bm 0 55 [(5,.pt 0 0 0 0),(6,.sc (.bool false)),(7,.pt 1 1 0 0),(8,.pt 2 2 0 0),(9,.pt 3 3 0 0),(10,.sc (.int .i64 (i:Int))),(11,.sc (.int .i64 (j:Int)))],hsB c s x raw,cnt⟩)
  (fun j=>j≤4) (fun j=>4 - j) 0 (BT _) ?_ ?_ rfl ?_
 ·exact F4
 ·simp (maxSteps:=10000000) only [AX,AW,Aa,Aq,AN,Bl,hsB]
 rintro j cnt1 hj ih2
 have hj:j≤4:=hj
 by_cases hj':j < 4
 rotate_left
 ·obtain rfl:j=4:=by omega
  have g1:decide (((4:Nat):Int) < 4)=false:=by decide
  clear ih2
  refine Ab ?_
  refine BJ ?_
  simp (maxSteps:=10000000) +contextual -implicitDefEqProofs only [AX,AW,St.put,↓reduceIte,Int.reduceLT,Nat.reduceLT,CO,Aa,Aq,Bl,AN,hsB,w1]
  refine Av ?_ ?_ (Aw _) (ih _)
  all_goals exact Aot
 have g1:decide ((j:Int) < 4)=true:=Ae
 have w2:IntKind.i64.wrap ((j:Int)+1)=((j+1:Nat):Int):=Ay
 have w3:IntKind.i64.wrap ((j:Int) - 2)=(j:Int) - 2:=Ba (by omega) (by omega)
 have ih2:=fun c=>ih2 (j+1) c (show j+1≤4 by omega) (show 4 - (j+1) < 4 - j by omega)
 refine Ab ?_
 refine BJ ?_
 simp (maxSteps:=10000000) +contextual -implicitDefEqProofs only [AX,AW,Ap,St.put,Ao,Al,DN,pl,↓reduceIte,Nat.reduceAdd,Nat.reduceLeDiff,Nat.reduceEqDiff,Dd,Int.reduceAdd,CO,Aa,Aq,Bl,AN,hsB,g1,w2,w3,E34a,E34b]
 refine Av ?_ ?_ (Aw _) (ih2 _)
 all_goals exact Aot
end Go.Proofs.YtdjpkhjaibdogaaGreat
namespace Go.Proofs.YtdjpkhjaibdogaaGreat
open Go Go.SX
theorem Bcp {n:Int} (h:(Lit.int .u8 n).wf=true):0≤n∧n < 256:=by
 have h1:IntKind.min .u8=0:=rfl
 have h2:IntKind.max .u8=255:=rfl
 simp only [Lit.wf,h1,h2,AT,AR] at h
 omega
theorem Bcq {c:List AV} (h:HasC Tryz.prog 5 c):∃ n,c=[kA .u8 n]∧0≤n∧n < 256:=by
 obtain ⟨n,rfl,hn⟩:=h.inv_int un5
 exact ⟨n,rfl,Bcp hn⟩
theorem Bhh {a:AV} (h:HasV Tryz.prog 5 a):∃ n,a=kA .u8 n∧0≤n∧n < 256:=by
 obtain ⟨c,hc,rfl⟩:=h
 obtain ⟨n,rfl,hn⟩:=Bcq hc
 exact ⟨n,rfl,hn⟩
theorem Aef {α:Type} {q:α→Prop} {enc:α→List AV} {r:AV} (x:α) (hq:q x):Er q enc (fun _=>r) (enc x)=some r:=by
 unfold Er
 rw [dif_pos ⟨x,hq,rfl⟩]
theorem Bcr {a:AV} (h:HasV Tryz.prog 22 a):∃ p:Bool × List Nat,a=.vw p.1 (p.2.map uA)∧u8Q p:=by
 obtain ⟨c,hc,rfl⟩:=h
 obtain ⟨z,es,rfl,hes⟩:=hc.inv_slice Tryz.underlying22
 obtain ⟨l,rfl⟩:=HasV.list (f:=fun x:Fin 256=>uA x.val) (fun a ha=>by
  obtain ⟨n,rfl,h1,h2⟩:=Bhh ha
  exact ⟨⟨n.toNat,by omega⟩,by simp only [uA,kA]; congr 2; omega⟩) hes
 refine ⟨(z,l.map (·.val)),by simp [List.map_map]; rfl,fun x hx=>?_⟩
 obtain ⟨y,_,rfl⟩:=lx35.1 hx
 exact y.isLt
theorem hc3 {c:List AV} (h:HasC Tryz.prog 3 c):∃ n,c=[kA .i64 n]:=by
 obtain ⟨n,rfl,_⟩:=h.inv_int un3
 exact ⟨n,rfl⟩
theorem Bhi {a:AV} (h:HasV Tryz.prog 46 a):∃ x:Ev,a=CV x:=by
 obtain ⟨c,hc,rfl⟩:=h
 have h0:HasFs Tryz.prog [3,3,3] c:=hc.inv_struct (fs:=_) Tryz.underlying46
 obtain ⟨c1,r1,rfl,g1,h1⟩:=h0.inv_cons
 obtain ⟨c2,r2,rfl,g2,h2⟩:=h1.inv_cons
 obtain ⟨c3,r3,rfl,g3,h3⟩:=h2.inv_cons
 obtain rfl:=h3.inv_nil
 obtain ⟨n1,rfl⟩:=hc3 g1
 obtain ⟨n2,rfl⟩:=hc3 g2
 obtain ⟨n3,rfl⟩:=hc3 g3
 exact ⟨⟨n1,n2,n3⟩,rfl⟩
end Go.Proofs.YtdjpkhjaibdogaaGreat
