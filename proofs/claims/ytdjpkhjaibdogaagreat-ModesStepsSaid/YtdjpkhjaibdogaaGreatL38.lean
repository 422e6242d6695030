/-
  Lemmas towards ModesSteps (joined texts: FW, FX, FY, FZ, FZB, GK).
  Conditions: none.
-/
import Derived.Test.YtdjpkhjaibdogaaGreatL01
import Derived.Test.YtdjpkhjaibdogaaGreatL37
import Derived.Test.YtdjpkhjaibdogaaGreatL02
import Derived.Test.YtdjpkhjaibdogaaGreatL27
set_option linter.unusedSimpArgs false
set_option linter.unusedVariables false
set_option maxRecDepth 100000
set_option maxHeartbeats 8000000
namespace Go.Proofs.YtdjpkhjaibdogaaGreat
open Go Go.SX
theorem Ns {a b:Lo}:IS a b < 0↔Et a b:=Ad3 a b
theorem Adp:∀ {l:List Lo},(∀ i,i+1 < l.length→Et (l.getD i default) (l.getD (i+1) default))→Io l
 | [],_=>List.Pairwise.nil
 | [x],_=>List.pairwise_singleton _ _
 | x::y::l,h=>by
  have h1:Et x y:=h 0 (by simp)
  have h2:Io (y::l):=Adp fun i hi=>h (i+1) (by simpa using hi)
  refine lx126.2 ⟨fun z hz=>?_,h2⟩
  rcases lx59.1 hz with rfl | hz
  ·exact h1
  ·exact JS h1 ((lx126.1 h2).1 z hz)
theorem Axa {l:List Lo} (h:Io l) {i:Nat} (hi:i+1 < l.length):Et (l.getD i default) (l.getD (i+1) default):=by
 rw [lx80,lx80,lx51 (by omega),lx51 hi]
 exact lx122.1 h i (i+1) (by omega) hi (by omega)
theorem All {l:List Int} {lo:Int} (h:l.any (Dl lo)=false):∀ y ∈ l,lo≤y∧y≤2147483647:=fun y hy=>by
 have:=lx97.1 h y hy
 simp only [Dl,IW,AN,not_or] at this
 omega
theorem UW {c:Cd} {s:Rs} {x:Cx} (hf:Fit c) (h:Bs c s=true) (hx:Ii x=true):RuI c x ⟨s,[],[]⟩:=by
 simp only [Bs,AX,J2,AN] at h
 obtain ⟨⟨h1,h2⟩,h3⟩:=h
 have hv:=Fo h1
 have hl:=B5 hv
 simp only [Ha,C5,AX,lx85,J2] at h1
 obtain ⟨⟨⟨⟨⟨⟨⟨_,e2⟩,e3⟩,e4⟩,e5⟩,e6⟩,_⟩,_⟩:=h1
 simp only [Ii,AX,AN] at hx
 have hlo:∀ i,i < s.lamps.length→IF c s i=false:=fun i hi=>by
  rw [Lj]
  intro hc
  rw [Jc.2 ⟨i,hi,hc⟩] at h3; cases h3
 refine ⟨hv,hf,⟨⟨by omega,by omega⟩,⟨by omega,by omega⟩,by omega,by omega⟩,by exact_mod_cast e2,fun y hy=>?_,e3,fun y hy=>?_,?_,h2,fun o ho=>?_,Adp fun i hi=>?_⟩
 ·exact All e4 y hy
 ·exact All e5 y hy
 ·exact Al6 (by omega) e6
 ·obtain ⟨i,hi,rfl⟩:=lx69 ho
  have:=hlo i hi
  simp only [IF,J8] at this
  have h4:=this.1
  rw [lx80,lx51 hi,lx10] at h4
  simp only [loX,J8,BT,Lk] at h4
  obtain ⟨⟨⟨⟨⟨k1,k2⟩,k3⟩,k4⟩,k5⟩,k6⟩:=h4
  exact ⟨⟨Int.not_lt.1 k1,Int.not_le.1 k2⟩,k3,⟨Int.not_lt.1 k4,Int.not_le.1 k5⟩,k6⟩
 ·have:=hlo (i+1) hi
  simp only [IF,loY,J8,Va,BT] at this
  rcases this.2 with h4 | h4
  ·omega
  ·exact Ns.1 (Int.not_le.1 (by rw [Nat.add_sub_cancel] at h4; exact h4))
theorem Afx {c:Cd} {x:Cx} {r:Ru} (h:RuI c x r):Bs c r.s=true:=by
 have h1:=h.env
 have h2:Ha c (C5 r.s cx0)=true:=by
  simp only [Ha,C5,AX,lx85,J2] at h1 ⊢
  obtain ⟨⟨⟨⟨⟨⟨⟨e1,e2⟩,e3⟩,e4⟩,e5⟩,e6⟩,_⟩,_⟩:=h1
  exact ⟨⟨⟨⟨⟨⟨⟨e1,e2⟩,e3⟩,e4⟩,e5⟩,e6⟩,by decide⟩,by decide⟩
 have h3:=h.fa
 rw [Mh,h2]
 ·simp [h3.1,h3.2]
 ·intro i hi
  have hg:r.s.lamps.getD i default=r.s.lamps[i]:=by rw [lx80,lx51 hi]; rfl
  obtain ⟨⟨k1,k2⟩,k3,⟨k4,k5⟩,k6⟩:=h.lo _ (lx90 hi)
  have e1:loX c r.s (r.s.lamps.getD i default)=false:=by
   rw [hg]
   simp only [loX,J8,BT,Lk]
   exact ⟨⟨⟨⟨⟨Int.not_lt.2 k1,Int.not_le.2 k2⟩,k3⟩,Int.not_lt.2 k4⟩,Int.not_le.2 k5⟩,k6⟩
  have e2:loY r.s i=false:=by
   cases i with
   | zero=>simp [loY]
   | succ i=>
    have:=Ns.2 (Axa h.so hi)
    simp only [loY,Va,BT,Nat.add_sub_cancel]
    exact .inr (Int.not_le.2 this)
  rw [IF,e1,e2]; rfl
end Go.Proofs.YtdjpkhjaibdogaaGreat
namespace Go.Proofs.YtdjpkhjaibdogaaGreat
open Go Go.SX
attribute [local congr] ite_congr
def Mp:Rs:=⟨true,[],true,[],0,true,[],0⟩
end Go.Proofs.YtdjpkhjaibdogaaGreat
namespace Go.Proofs.YtdjpkhjaibdogaaGreat
open Go Go.SX
def HK (n:Int):Int:=max (n - 1) 0
def Nt (l:List Int):Nat→List Ev
 | 0=>[]
 | i+1=>if l.getD i default=1 then Nt l i++[⟨5,i,-1⟩] else Nt l i
def RA (e:Ed):Ev:=⟨if e.cl then 3 else 4,e.sw,-1⟩
def LJ (s:Rs):Rs:={ s with left:=s.left.map HK }
def RB (s:Rs) (ed:List Ed) (po:List Ev):List Ev:=Nt s.left s.left.length++ed.map RA++po
def edB (ed:List Ed):Bool:=ed.any fun e=>!EU e.sw 0 63
def poB (c:Cd) (po:List Ev):Bool:=po.any fun e=>!Ym c e
noncomputable def He (c:Cd) (s:Rs) (ed:List Ed) (po:List Ev) (x:Cx):Ru × Int:=
 if Bs c s=false then (⟨Mp,[],[]⟩,1) else if Ii x=false then (⟨Mp,[],[]⟩,5) else if edB ed=true then (⟨Mp,[],[]⟩,41) else if poB c po=true then (⟨Mp,[],[]⟩,55)
 else (Eu c x (RB s ed po) ⟨LJ s,[],[]⟩,0)
def Hf (p:Ru × Int):AV:=.tu [.ag [.vw false (p.1.s.vars.map (kA .i64)),.vw false (p.1.s.left.map (kA .i64)),.sc (.int .u32 p.1.s.act),.vw false (p.1.s.lamps.map Bp),kA .i64 p.1.s.fau],.vw false (p.1.ef.map Dd),kA .i64 p.2]
theorem JT (p:Ru × Int):(Hf p).noref=true:=by simp [Hf,kA,AV.noref,norefs]
theorem Apo (r r':Ru) (h:II r=II r') (e:Int):Hf (r,e)=Hf (r',e):=by
 have:∀ r:Ru,Hf (r,e)=Hf (II r,e):=fun _=>rfl
 rw [this r,this r',h]
theorem Adq (c:Cd) (x:Cx) (l:List Ev) (r r':Ru) (h:II r=II r'):II (Eu c x l r)=II (Eu c x l r'):=by
 have key:∀ r,Eu c x l (II r)=II (Eu c x l r):=fun r=>Alk (IJ c x) (fun _=>rfl) (fun _=>rfl) l r
 rw [←key,←key,h]
def PG (s:Rs):Nat→Ru
 | 0=>⟨s,[],[]⟩
 | i+1=>if 0 < s.left.getD i default then { PG s i with s:={ (PG s i).s with zl:=false,left:=(PG s i).s.left.set i (CM (s.left.getD i default - 1) 0 2147483647) } } else PG s i
theorem UX (s:Rs):∀ i,(PG s i).s.left.length=s.left.length
 | 0=>rfl
 | i+1=>by
  rw [PG]
  split
  ·simp only [lx2]; exact UX s i
  ·exact UX s i
theorem Alm {s:Rs} (h:∀ y ∈ s.left,0≤y∧y≤2147483647):∀ i,i≤s.left.length→II (PG s i)=II ⟨{ s with left:=(s.left.take i).map HK++s.left.drop i },[],[]⟩
 | 0,_=>by simp [PG]
 | i+1,hi=>by
  have ih:=Alm h i (by omega)
  have hl:i < s.left.length:=hi
  have hg:s.left.getD i default=s.left[i]:=by rw [lx80,lx51 hl]; rfl
  have hb:=h _ (lx90 hl)
  have hA:((s.left.take i).map HK).length=i:=Agp
  have hsv:∀ v,((s.left.take i).map HK++s.left.drop i).set i v=(s.left.take i).map HK++v::s.left.drop (i+1):=fun v=>by
   rw [lx75 hl,lx119 _ _ (by omega),hA,Mx,lx117]
  have hset:((s.left.take i).map HK++s.left.drop i).set i (HK s.left[i])=(s.left.take (i+1)).map HK++s.left.drop (i+1):=by
   rw [hsv,lx115 hl,lx12,lx4]; rfl
  have hleft:(PG s i).s.left=(s.left.take i).map HK++s.left.drop i:=by
   have:=congrArg (fun r:Ru=>r.s.left) ih
   exact this
  rw [PG,hg]
  by_cases h0:0 < s.left[i]
  ·rw [if_pos h0]
   have hc:CM (s.left[i] - 1) 0 2147483647=HK s.left[i]:=by unfold CM HK; omega
   have e:∀ r:Ru,∀ v,II { r with s:={ r.s with zl:=false,left:=v } }={ II r with s:={ (II r).s with left:=v } }:=fun _ _=>rfl
   rw [e,ih,hleft,hc,hset]; rfl
  ·rw [if_neg h0,ih]
   have hd:HK s.left[i]=s.left[i]:=by unfold HK; omega
   rw [←hset,hd]
   have hself:((s.left.take i).map HK++s.left.drop i).set i s.left[i]=(s.left.take i).map HK++s.left.drop i:=by
    rw [hsv,←lx75 hl]
   rw [hself]
theorem Apq {s:Rs} (h:∀ y ∈ s.left,0≤y∧y≤2147483647):II (PG s s.left.length)=II ⟨LJ s,[],[]⟩:=by
 rw [Alm h _ (Ar _)]
 simp [LJ]
theorem Zr {c:Cd} {x:Cx} {s:Rs} (h:RuI c x ⟨s,[],[]⟩):RuI c x ⟨LJ s,[],[]⟩:=by
 refine ⟨h.val,h.fit,h.cx,h.vl,h.va,by simp only [LJ,lx58]; exact h.ll,fun y hy=>?_,h.ac,h.fa,h.lo,h.so⟩
 simp only [LJ,lx35] at hy
 obtain ⟨z,hz,rfl⟩:=hy
 have:=h.lf z hz
 unfold HK; omega
theorem RuI.nf {c:Cd} {x:Cx} {r r':Ru} (h:RuI c x r) (e:II r=II r'):RuI c x r':=by
 obtain ⟨⟨zv,vars,zl,left,act,zm,lamps,fau⟩,ef,po⟩:=r
 obtain ⟨⟨zv',vars',zl',left',act',zm',lamps',fau'⟩,ef',po'⟩:=r'
 simp only [II,Ru.mk.injEq,Rs.mk.injEq,CY] at e
 obtain ⟨⟨rfl,rfl,rfl,rfl,rfl⟩,rfl,rfl⟩:=e
 exact ⟨h.val,h.fit,h.cx,h.vl,h.va,h.ll,h.lf,h.ac,h.fa,h.lo,h.so⟩
theorem PH (l:List Int):∀ i,(Nt l i).length≤i
 | 0=>Ar _
 | i+1=>by
  have:=PH l i
  rw [Nt]; split
  ·simp; omega
  ·omega
theorem Aln (c:Cd) (l:List Int):∀ i,PoI c (Nt l i)
 | 0=>fun e he=>by simp [Nt] at he
 | i+1=>by
  rw [Nt]; split
  ·exact (Aln c l i).add (by show (-1:Int) < _; omega)
  ·exact Aln c l i
theorem UY {c:Cd} {s:Rs} {ed:List Ed} {po:List Ev} (h:poB c po=false):PoI c (RB s ed po):=by
 refine ((Aln c _ _).app fun e he=>?_).app fun e he=>?_
 ·obtain ⟨d,_,rfl⟩:=lx35.1 he
  show (-1:Int) < _; omega
 ·have:=lx97.1 h e he
  simp only [J2,Bool.not_eq_false] at this
  simp only [Ym,AX] at this
  have:=(F8.1 this.2).2
  omega
end Go.Proofs.YtdjpkhjaibdogaaGreat
namespace Go.Proofs.YtdjpkhjaibdogaaGreat
open Go Go.SX
attribute [local congr] ite_congr
theorem Yf {c:Cd} {x:Cx} {s s':Rs} {ef ef':List Ef} {w e w' e':Nat} {pf pf':AV} {b b':Blk} {R R':List Blk} (h:Gm c x s ef w e pf b R=Gm c x s' ef' w' e' pf' b' R'):s=s'∧ef=ef'∧w=w'∧e=e'∧pf=pf'∧b=b'∧R=R':=by
 obtain ⟨zv,vars,zl,left,act,zm,lamps,fau⟩:=s
 obtain ⟨zv',vars',zl',left',act',zm',lamps',fau'⟩:=s'
 simp only [Gm,lx96,Blk.mk.injEq,AV.ag.injEq,AV.sl.injEq,AV.vw.injEq,AV.sc.injEq,Value.int.injEq,Ay,CY] at h
 obtain ⟨⟨rfl,⟨rfl,g1⟩,⟨rfl,g2⟩,rfl,⟨rfl,g3⟩,rfl,_,rfl⟩,⟨rfl,g4⟩,rfl,rfl⟩:=h
 exact Ary
def ruX (s:Rs):Ru:=⟨s,[],[]⟩
def Axb (s:Rs) (i n:Int):Rs:={ s with zl:=false,left:=s.left.set i.toNat (CM n 0 2147483647) }
def D68 (c:Cd) (x:Cx) (args:List AV) (H:List Blk) (cnt:Nat) (a:AV) (H':List Blk) (cnt':Nat):Prop:=
 ∀ (s:Rs) (w e p:Nat) (R:List Blk) (i n:Int),args=[.pt 0 w 0 0,.sc (.int .i64 i),.sc (.int .i64 n)]→H=Gm c x s [] w e (.sl 2 p 0 0) ⟨true,p,46,3,[],false⟩ R→
  a=.tu []∧H'=Gm c x (Axb s i n) [] w e (.sl 2 p 0 0) ⟨true,p,46,3,[],false⟩ R∧cnt'=cnt+1
noncomputable def f68 (c:Cd) (x:Cx):=hF Tryz.prog 68 (D68 c x)
theorem Bjm (c:Cd) (x:Cx):Mu Tryz.prog 68 (f68 c x):=Ik _ _ _
theorem e68 (c:Cd) (x:Cx) (s:Rs) (w e p:Nat) {R:List Blk} (hR:Pc R) (i n:Int) (h0:0≤i) (h1:i < s.left.length) (hl1:s.left.length≤1000) (cnt:Nat):
  f68 c x [.pt 0 w 0 0,.sc (.int .i64 i),.sc (.int .i64 n)] (Gm c x s [] w e (.sl 2 p 0 0) ⟨true,p,46,3,[],false⟩ R) cnt=
   some (.tu [],Gm c x (Axb s i n) [] w e (.sl 2 p 0 0) ⟨true,p,46,3,[],false⟩ R,cnt+1):=by
 obtain ⟨a,H',c',g1,g2⟩:=Il (D:=D68 c x) (Mm c x (ruX s) w e p R hR i n h0 h1 hl1 cnt) (by
  intro s' w2 e2 p2 R2 i2 n2 a1 a2
  simp only [lx96,AV.sc.injEq,Value.int.injEq,Ay,CY] at a1
  obtain ⟨_,rfl,rfl⟩:=a1
  obtain ⟨rfl,_,rfl,rfl,h5,_,rfl⟩:=Yf a2
  simp only [AV.sl.injEq,Ay,CY] at h5
  obtain ⟨rfl,_⟩:=h5
  exact ⟨rfl,rfl,rfl⟩)
 obtain ⟨rfl,rfl,rfl⟩:=g2 s w e p R i n rfl rfl
 exact g1
def D62 (c:Cd) (x:Cx) (args:List AV) (H:List Blk) (cnt:Nat) (a:AV) (H':List Blk) (cnt':Nat):Prop:=
 ∀ (l:List Ev) (s:Rs) (w e v:Nat) (pf:AV) (b2:Blk) (R:List Blk),args=[.pt 0 w 0 0,.sl 3 v 0 l.length]→H=Gm c x s [] w e pf b2 (⟨true,v,46,3,l.map Cf,false⟩::R)→
  a=.tu []∧∃ e',H'=Gm c x (Eu c x l ⟨s,[],[]⟩).s (Eu c x l ⟨s,[],[]⟩).ef w e' (.vw true []) dead (⟨true,v,46,3,l.map Cf,false⟩::R)
noncomputable def f62 (c:Cd) (x:Cx):=hF Tryz.prog 62 (D62 c x)
theorem Bjn (c:Cd) (x:Cx):Mu Tryz.prog 62 (f62 c x):=Ik _ _ _
theorem e62 (c:Cd) (x:Cx) (l:List Ev) (hPo:PoI c l) (hll:l.length≤100000) (s:Rs) (h:RuI c x ⟨s,[],[]⟩) (w e v:Nat) (pf:AV) (b2:Blk) {R:List Blk} (hR:Pc R) (cnt:Nat):
  ∃ e' cnt',f62 c x [.pt 0 w 0 0,.sl 3 v 0 l.length] (Gm c x s [] w e pf b2 (⟨true,v,46,3,l.map Cf,false⟩::R)) cnt=
   some (.tu [],Gm c x (Eu c x l ⟨s,[],[]⟩).s (Eu c x l ⟨s,[],[]⟩).ef w e' (.vw true []) dead (⟨true,v,46,3,l.map Cf,false⟩::R),cnt'):=by
 obtain ⟨e',cnt',h1⟩:=Alh c x (some v) l hPo hll s [] h (by simp) w e pf b2 R hR cnt
 obtain ⟨a,H',c',g1,g2⟩:=Il (D:=D62 c x) h1 (by
  intro l' s' w2 e2 v2 pf2 b22 R2 a1 a2
  simp only [Hd] at a2
  obtain ⟨rfl,_,rfl,rfl,_,_,h7⟩:=Yf a2
  simp only [lx96,Blk.mk.injEq,Ay,CY] at h7
  obtain ⟨⟨rfl,h8⟩,rfl⟩:=h7
  obtain rfl:=K6.1 h8
  exact ⟨rfl,e',rfl⟩)
 obtain ⟨rfl,e3,rfl⟩:=g2 l s w e v pf b2 R rfl rfl
 exact ⟨e3,c',g1⟩
theorem Alo (c:Cd) (hf:Fit c) (s:Rs) (ze:Bool) (ed:List Ed) (zp:Bool) (po:List Ev) (x:Cx) (h:¬ (Bs c s=true∧Ii x=true)):
  C6 Tryz.prog 25 [BP c,Gb s,.vw ze (ed.map K8),.vw zp (po.map Cf),KF x] (Hf (He c s ed po x)):=by
 have x1:=e40 c s hf
 have x2:=e60 x
 obtain ⟨zv,vars,zl,left,act,zm,lamps,fau⟩:=s
 obtain ⟨ti,clo,pl',ba⟩:=x
 simp only [Ab,Az,Cl] at x1 x2
 refine BW (Aj (lit:=false) (pm:=fun _=>none) (.cons Awm (.cons Be0 .nil)) .nil .nil .nil) rfl Tryz.func25 rfl (by decide) (by kernel_rfl) (JT _) ?_
 simp only [Tryz.f25,Af,lx53,lx63,Nat.reduceAdd,Nat.reduceSub,List.replicate]
 refine Aa ?_
 cases h1:Bs c ⟨zv,vars,zl,left,act,zm,lamps,fau⟩ with
 | false=>
  rw [h1] at x1
  have e:He c ⟨zv,vars,zl,left,act,zm,lamps,fau⟩ ed po ⟨ti,clo,pl',ba⟩=(⟨Mp,[],[]⟩,1):=by rw [He,if_pos h1]
  rw [e]
  simp (maxSteps:=10000000) +contextual -implicitDefEqProofs only [AY,AW,St.put,Ap,Am,DO,pl,↓reduceIte,Nat.reduceAdd,Int.reduceLT,Nat.reduceLT,Dc,Int.reduceAdd,CK,AB,Az,Ab,Cl,x1,Hf,Mp]
  all_goals done
 | true=>
 rw [h1] at x1
 cases h2:Ii ⟨ti,clo,pl',ba⟩ with
 | false=>
  rw [h2] at x2
  have e:He c ⟨zv,vars,zl,left,act,zm,lamps,fau⟩ ed po ⟨ti,clo,pl',ba⟩=(⟨Mp,[],[]⟩,5):=by rw [He,if_neg (by rw [h1]; simp),if_pos h2]
  rw [e]
  simp (maxSteps:=10000000) +contextual -implicitDefEqProofs only [AY,AW,St.put,Ap,Am,DO,pl,↓reduceIte,Nat.reduceAdd,Nat.reduceEqDiff,Int.reduceLT,Nat.reduceLT,Dc,Int.reduceAdd,CK,AB,Az,Ab,Cl,x1,x2,Hf,Mp]
  all_goals done
 | true=>exact absurd ⟨h1,h2⟩ h
def Lh (ze:Bool) (ed:List Ed) (zp:Bool) (po:List Ev) (l:AV) (o:List (Nat × AV)):List AV:=Bn 0 130 ([(2,.vw ze (ed.map K8)),(3,.vw zp (po.map Cf)),(5,.pt 4 0 0 0),(6,.pt 5 1 0 0),(10,.pt 6 3 0 0),(13,.pt 0 4 0 0),(14,l)]++o)
theorem Aua (s:Rs):∀ i,PG s i=⟨(PG s i).s,[],[]⟩
 | 0=>rfl
 | i+1=>by
  have ih:=Aua s i
  rw [PG]
  split
  ·rw [ih]
  ·exact ih
theorem Alp (c:Cd) (hf:Fit c) (s:Rs) (ze:Bool) (ed:List Ed) (zp:Bool) (po:List Ev) (x:Cx) (hed:ed.length≤1000) (hpl:po.length≤1000) (h1:Bs c s=true) (h2:Ii x=true):
  C6 Tryz.prog 25 [BP c,Gb s,.vw ze (ed.map K8),.vw zp (po.map Cf),KF x] (Hf (He c s ed po x)):=by
 have e:He c s ed po x=if edB ed=true then (⟨Mp,[],[]⟩,41) else if poB c po=true then (⟨Mp,[],[]⟩,55) else (Eu c x (RB s ed po) ⟨LJ s,[],[]⟩,0):=by rw [He,if_neg (by rw [h1]; simp),if_neg (by rw [h2]; simp)]
 obtain ⟨Z,hZ⟩:∃ Z,He c s ed po x=Z:=⟨_,rfl⟩
 rw [hZ] at e ⊢
 have x1:=e40 c s hf
 have x2:=e60 x
 have x3:=e67 c hf
 rw [h1] at x1
 rw [h2] at x2
 have hru:=UW hf h1 h2
 have hvl:=B5 hru.val
 have hll:s.left.length≤128:=by have:=hru.ll; simp only at this; omega
 obtain ⟨R,hR⟩:∃ R:List Blk,[⟨true,0,36,7,[BP c],false⟩,⟨true,1,41,5,[Gb s],false⟩,⟨true,3,41,5,[Gb Mp],false⟩]=R:=⟨_,rfl⟩
 have nR:Pc R:=fun b hb=>by
  exact Ba0
 have nR2:∀ v (l:List Ev),Pc (⟨true,v,46,3,l.map Cf,false⟩::R):=fun v l b hb=>by
  rcases lx59.1 hb with rfl | hb
  ·exact Er _
  ·exact nR b hb
 refine BW (Aj (lit:=true) (pm:=fun _=>none) (.cons Awm (.cons Be0 (.cons Biv .nil))) .nil .nil (.cons (Bjm c x) (.cons (Bjn c x) .nil))) rfl Tryz.func25 rfl (by decide) (by kernel_rfl) (JT _) ?_
 simp only [Tryz.f25,Af,lx53,lx63,Nat.reduceAdd,Nat.reduceSub,List.replicate]
 simp only [Ab,Az,Cl,Be,Mp,lx47] at x1 x2 x3 hR
 refine ER ?s1 ?a1 ?b1
 case a1=>
  refine gF0 ?_
  rfl
 refine .seq ?_
 refine ER ?s2 ?a2 ?b2
 case a2=>
  refine Hr x1 ?_
  rfl
 refine Agq ?_
 refine .skip ?_
 refine .seq ?_
 refine ER ?s3 ?a3 ?b3
 case a3=>
  refine Hr x2 ?_
  rfl
 refine Agq ?_
 refine .skip ?_
 refine ER ?s4 ?a4 ?b4
 case a4=>
  refine gF0 ?_
  rfl
 refine ER ?s5 ?a5 ?b5
 case a5=>
  simp (maxSteps:=10000000) +contextual -implicitDefEqProofs only [AW,St.put,CK,AL]
  rfl
 refine Ao (T':=Bn 0 130 [(2,.vw ze (ed.map K8)),(3,.vw zp (po.map Cf)),(5,.pt 0 0 0 0),(6,.pt 1 1 0 0),(10,.pt 3 3 0 0),(13,.pt 4 4 0 0),(14,.vw true [])]) ?_ (Aw _) (Ar _) ?_
 ·exact Adx
 refine Avn [dead,dead] (by simp [dead]) ?_
 refine Yq ?_
 refine JA 0 4 (Bu _) (Bu _) (by simp) (by simp) ?_ ?_
 ·exact Aum
 simp only [Bn,Dj,dead,JB,LY,LZ,L0,L1,L2,L3,L4,L5,L6,L7,JC,H6,L8,JD,H7,JE,Nat.reduceEqDiff,↓reduceIte,lx117,lx11,lx124,lx125,Nat.reduceAdd,Nat.reduceEqDiff,lx6,lx7,↓reduceIte,B6]
 refine JA 1 5 (Bu _) (Bu _) (by simp) (by simp) ?_ ?_
 ·exact Aum
 refine qd9 ?_
 refine JA 3 6 (Bu _) (Bu _) (by simp) (by simp) ?_ ?_
 ·exact Aum
 refine qd9 ?_
 have q1:((Gm c x s [] 4 5 (.vw true []) ⟨true,2,27,4,[KF x],false⟩ (dead::R)).set 1 dead).set 1 ⟨true,5,73,5,[],false⟩=Gm c x s [] 4 5 (.vw true []) ⟨true,2,27,4,[KF x],false⟩ (dead::R):=rfl
 refine Ku (T':=Lh ze ed zp po (.vw true []) []) (H':=(Gm c x s [] 4 5 (.vw true []) ⟨true,2,27,4,[KF x],false⟩ (dead::R)).set 1 dead) 1 5 73 5 6 (by simp [Gm]) (Ar _) (Ir _) ?_ ?_ ?_
 ·simp only [Lh,lx91,lx64,Bn,Dj,Nat.reduceAdd,Nat.reduceEqDiff,lx6,lx7,↓reduceIte,B6]
  exact BX _ _ _
 ·subst hR
  exact ⟨F2 _ _ _ _ _ _ _ _ _ _ ⟨Gw ⟨.refl _,.refl _,.refl _,.refl _,.refl _,.refl _,.refl _,.refl _,.refl _,.refl _,.refl _,.refl _,.refl _,.refl _,.refl _,.refl _,.nil,.refl _,trivial⟩,trivial⟩,.inr (.inl rfl),.inl rfl,.inl rfl,Ea _ _ _⟩
 rw [q1]
 have q2:((Gm c x s [] 4 5 (.sl 2 6 0 0) ⟨true,6,46,3,[],false⟩ (dead::R)).set 2 dead).set 2 ⟨true,6,46,3,[],false⟩=Gm c x s [] 4 5 (.sl 2 6 0 0) ⟨true,6,46,3,[],false⟩ (dead::R):=rfl
 refine Ku (T':=Lh ze ed zp po (.vw true []) []) (H':=(Gm c x s [] 4 5 (.sl 2 6 0 0) ⟨true,6,46,3,[],false⟩ (dead::R)).set 2 dead) 2 6 46 3 7 (by simp [Gm]) (Ar _) (Ir _) (BX _ _ _) ?_ ?_
 ·exact ⟨F2 _ _ _ _ _ _ _ _ _ _ ⟨Gw ⟨.refl _,.refl _,.refl _,.refl _,.refl _,.refl _,.refl _,.refl _,.refl _,.refl _,.refl _,.refl _,.refl _,.refl _,.refl _,.refl _,.refl _,.nil,trivial⟩,trivial⟩,.inl rfl,.inr (.inl rfl),.inl rfl,Ea _ _ _⟩
 rw [q2]
 have q3:(Gm c x s [] 4 5 (.sl 2 6 0 0) ⟨true,6,46,3,[],false⟩ (dead::R)).set 3 ⟨true,7,46,3,[],false⟩=Gm c x s [] 4 5 (.sl 2 6 0 0) ⟨true,6,46,3,[],false⟩ (⟨true,7,46,3,[],false⟩::R):=rfl
 refine Ku (T':=Lh ze ed zp po (.sl 3 7 0 0) []) (H':=Gm c x s [] 4 5 (.sl 2 6 0 0) ⟨true,6,46,3,[],false⟩ (dead::R)) 3 7 46 3 8 (by simp [Gm]) (Ar _) (Ir _) ?_ (Ea _ _ _) ?_
 ·simp only [Lh,lx91,lx64]
  exact Aqg
 rw [q3]
 clear q1 q2 q3
 refine Agr ?_
 refine Bq ?_
 simp (maxSteps:=10000000) +contextual -implicitDefEqProofs only [AW,St.put,CK,AL]
 have hlf:=hru.lf
 have htl:=fun i=>UX s i
 have hle:=fun i=>PH s.left i
 have hsl:=hll
 clear x1 x2
 refine Al (σ:=Nat × Nat) (fun y cnt=>⟨Lh ze ed zp po (.sl 3 y.2 0 (Nt s.left y.1).length) [(15,.sc (.int .i64 (y.1:Int)))],Gm c x (PG s y.1).s [] 4 5 (.sl 2 6 0 0) ⟨true,6,46,3,[],false⟩ (⟨true,y.2,46,3,(Nt s.left y.1).map Cf,false⟩::R),cnt⟩)
  (fun y=>y.1≤s.left.length) (fun y=>s.left.length - y.1) (0,7) (Bu _) ?_ ?_ rfl ?_
 ·simp (maxSteps:=10000000) only [AY,AW,↓reduceIte,reduceCtorEq,Nat.reduceAdd,Nat.reduceEqDiff,Bn,Dj,Lh,Nt]
  all_goals done
 ·simp only [Nt,PG,lx47]; exact Aw _
 rintro ⟨i,v⟩ cnt hi ih
 simp only at hi
 by_cases hlt:i < s.left.length
 ·have hb:decide ((i:Int) < ((s.left.length:Nat):Int))=true:=by rw [AN]; omega
  have hb2:decide (i < s.left.length)=true:=Ae
  have w1:IntKind.i64.wrap ((i:Int)+1)=((i+1:Nat):Int):=AA
  have hm:s.left.getD i default ∈ s.left:=ZN
  have ha:=hlf _ hm
  have x5:=fun n cnt=>e68 c x (PG s i).s 4 5 6 (nR2 v (Nt s.left i)) (i:Int) n (by omega) (by rw [htl]; omega) (by rw [htl]; omega) cnt
  have r1:(PG s (i+1)).s=if 0 < s.left.getD i default then Axb (PG s i).s i (s.left.getD i default - 1) else (PG s i).s:=by rw [PG]; split <;> rfl
  have r2:Nt s.left (i+1)=if s.left.getD i default=1 then Nt s.left i++[⟨5,i,-1⟩] else Nt s.left i:=rfl
  have ih2:=fun v' c'=>ih (i+1,v') c' (by simp only; omega) (by simp only; omega)
  have hl1:=hle i
  simp only [r1,r2] at ih2
  obtain ⟨a,hg⟩:∃ a,s.left.getD i default=a:=⟨_,rfl⟩
  rw [hg] at ha
  simp only [hg] at ih2
  have w2:IntKind.i64.wrap (a - 1)=a - 1:=Bd (by omega) (by omega)
  clear ih r1 r2 hm htl hle hlf
  generalize Nt s.left i=L at *
  generalize (PG s i).s=S at *
  have tl:(L.map Cf).take L.length=L.map Cf:=lx118 (by simp)
  have z1:decide ((L.length+1) * 24≤140737488355328)=true:=Ae
  simp only [Gm,lx47,lx63,←hR] at x5 ih2 ⊢
  refine Agr ?_
  refine Bq ?_
  by_cases h0:0 < a
  ·have c0:decide (0 < a)=true:=by rw [AN]; exact h0
   by_cases h1':a=1
   ·have c1:(a == 1)=true:=by rw [h1']; rfl
    simp (maxSteps:=10000000) +contextual -implicitDefEqProofs only [AY,AW,St.put,DO,↓reduceIte,reduceCtorEq,Nat.reduceAdd,Nat.reduceLeDiff,Nat.reduceEqDiff,Nat.reduceMul,Int.reduceLT,Nat.reduceLT,Dc,Int.reduceAdd,Int.reduceMul,CK,E6,hl,Bh,AL,Bz,Ca,Bb,AQ,AR,Bk,AB,norefs,AV.noref,lx11,hb,hb2,w1,w2,hg,c0,c1,x5,tl,z1,CV,Ax]
    simp only [if_pos h0,if_pos h1'] at ih2
    refine Ao ?_ ?_ (Ar _) (ih2 (cnt+1+1) _)
    all_goals simp (maxSteps:=10000000) only [AY,AW,↓reduceIte,reduceCtorEq,Nat.reduceAdd,Nat.reduceEqDiff,Bn,Dj,Lh,lx5,lx12,Be]
    all_goals done
   ·have c1:(a == 1)=false:=by rw [lx113]; exact h1'
    simp (maxSteps:=10000000) +contextual -implicitDefEqProofs only [AY,AW,St.put,DO,↓reduceIte,reduceCtorEq,Nat.reduceEqDiff,Dc,CK,E6,hl,Bh,AL,Ca,Bb,AQ,AR,Bk,AB,AV.noref,lx11,hb,hb2,w1,w2,hg,c0,c1,x5,CV,Ax]
    simp only [if_pos h0,if_neg h1'] at ih2
    refine Ao ?_ ?_ (Ar _) (ih2 v _)
    all_goals exact Auw
  ·have c0:decide (0 < a)=false:=by rw [BT]; exact h0
   simp (maxSteps:=10000000) +contextual -implicitDefEqProofs only [AY,AW,St.put,↓reduceIte,reduceCtorEq,Dc,CK,Bh,AL,Ca,Bb,AQ,AR,Bk,AB,AV.noref,lx11,hb,hb2,w1,hg,c0,CV,Ax]
   simp only [if_neg h0,if_neg (show ¬ a=1 by omega)] at ih2
   refine Ao ?_ ?_ (Ar _) (ih2 v _)
   all_goals exact Auw
 obtain rfl:i=s.left.length:=Ah
 have hb:decide ((s.left.length:Int) < ((s.left.length:Nat):Int))=false:=Bc
 have hL:=PH s.left s.left.length
 clear ih
 have hLr:(PG s s.left.length).s.left.length=s.left.length:=htl _
 have hnf:=Apq hlf
 rw [Aua] at hnf
 have hee:RB s ed po=Nt s.left s.left.length++ed.map RA++po:=rfl
 obtain ⟨L,hLL⟩:∃ L,Nt s.left s.left.length=L:=⟨_,rfl⟩
 obtain ⟨S,hSS⟩:∃ S,(PG s s.left.length).s=S:=⟨_,rfl⟩
 rw [hLL] at hL hee ⊢
 rw [hSS] at hLr hnf ⊢
 have hruS:=(Zr hru).nf hnf.symm
 rw [←hR]
 refine Aa ?_
 simp only [Lh,lx91,lx64,Gm]
 refine Bq ?_
 refine Hr hb ?_
 clear hLL hSS hb htl hle hi
 refine Al (σ:=Nat × Nat) (fun y cnt=>⟨Lh ze ed zp po (.sl 3 y.2 0 (L++(ed.take y.1).map RA).length) [(16,.sc (.int .i64 (y.1:Int)))],Gm c x S [] 4 5 (.sl 2 6 0 0) ⟨true,6,46,3,[],false⟩ (⟨true,y.2,46,3,(L++(ed.take y.1).map RA).map Cf,false⟩::R),cnt⟩)
  (fun y=>y.1≤ed.length∧∀ j,j < y.1→EU (ed.getD j default).sw 0 63=true) (fun y=>ed.length - y.1) (0,v) ⟨Bu _,fun j hj=>absurd hj (by simp)⟩ ?_ ?_ rfl ?_
 ·exact Arb
 ·simp only [lx42,lx47,lx66,Gm,←hR]; exact Aw _
 clear cnt v
 rintro ⟨i,v⟩ cnt ⟨hi,hok⟩ ih
 simp only at hi hok
 by_cases hlt:i < ed.length
 ·have hb:decide ((i:Int) < ((ed.length:Nat):Int))=true:=by rw [AN]; omega
  have hb2:decide (i < ed.length)=true:=Ae
  have w1:IntKind.i64.wrap ((i:Int)+1)=((i+1:Nat):Int):=AA
  have hm:ed.getD i default ∈ ed:=ZN
  have htk:L++(ed.take (i+1)).map RA=(L++(ed.take i).map RA)++[RA (ed.getD i default)]:=by
   exact Ar8
  have hLm:(L++(ed.take i).map RA).length≤2000:=by rw [lx5,lx58,lx68]; omega
  have ih2:=fun (hk:EU (ed.getD i default).sw 0 63=true) v' c'=>ih (i+1,v') c' ⟨by simp only; omega,fun j hj=>by
   rcases Nat.lt_succ_iff_lt_or_eq.1 hj with hj | rfl
   ·exact hok j hj
   ·exact hk⟩ (by simp only; omega)
  simp only [htk] at ih2
  obtain ⟨⟨sw,cl⟩,hg⟩:∃ a,ed.getD i default=a:=⟨_,rfl⟩
  simp only [hg] at ih2
  rw [hg] at hm
  clear ih htk
  generalize L++List.map RA (ed.take i)=M at *
  have tl:(M.map Cf).take M.length=M.map Cf:=lx118 (by simp)
  have z1:decide ((M.length+1) * 24≤140737488355328)=true:=Ae
  simp only [Gm,lx47,lx63,←hR] at ih2 ⊢
  refine Agr ?_
  refine Bq ?_
  cases hk:EU sw 0 63 with
  | false=>
   have hE:edB ed=true:=List.any_eq_true.2 ⟨_,hm,by simp [hk]⟩
   have hZ':Z=(⟨Mp,[],[]⟩,41):=by rw [e,if_pos hE]
   rw [hZ']
   have hk2:decide (sw < 0)=true∨decide (sw < 0)=false∧decide (63 < sw)=true:=by
    simp only [EU,Va,BT] at hk
    by_cases h0:sw < 0
    ·exact .inl (HU h0)
    ·exact .inr ⟨E8 h0,HU (by omega)⟩
   rcases hk2 with k0 | ⟨k0,k1⟩
   ·simp (maxSteps:=10000000) +contextual -implicitDefEqProofs only [AY,AW,Au,St.put,Ap,Am,↓reduceIte,reduceCtorEq,Nat.reduceAdd,Int.reduceLT,Nat.reduceLT,Dc,Int.reduceAdd,CK,Bh,AL,CX,Bz,Ca,BJ,Bb,AQ,AR,Bk,AB,Gz,norefs,AV.noref,lx11,hb,hb2,hg,k0,HQ,Ax,Hf,Mp]
    all_goals done
   ·simp (maxSteps:=10000000) +contextual -implicitDefEqProofs only [AY,AW,Au,St.put,Ap,Am,↓reduceIte,reduceCtorEq,Nat.reduceAdd,Int.reduceLT,Nat.reduceLT,Dc,Int.reduceAdd,CK,Bh,AL,CX,Bz,Ca,BJ,Bb,AQ,AR,Bk,AB,Gz,norefs,AV.noref,lx11,hb,hb2,hg,k0,k1,HQ,Ax,Hf,Mp]
    all_goals done
  | true=>
   have ih3:=ih2 hk
   clear ih2
   have hk3:=F8.1 hk
   have k0:decide (sw < 0)=false:=E8 (by omega)
   have k1:decide (63 < sw)=false:=E8 (by omega)
   cases cl with
   | true=>
    exact Ayv
   | false=>
    exact Ayv
 obtain rfl:i=ed.length:=Ah
 have hE:edB ed=false:=by
  rw [edB,lx97]
  exact Aqf
 rw [if_neg (by rw [hE]; simp)] at e
 clear ih hok hE hi
 have hb:decide ((ed.length:Int) < ((ed.length:Nat):Int))=false:=Bc
 rw [lx74]
 have hM:(L++ed.map RA).length≤2000:=by rw [lx5,lx58]; omega
 generalize L++ed.map RA=M at *
 refine Aa ?_
 simp only [Lh,lx91,lx64,Gm,←hR]
 refine Bq ?_
 refine Hr hb ?_
 clear hb
 refine Al (σ:=Nat) (fun i cnt=>⟨Lh ze ed zp po (.sl 3 v 0 M.length) [(18,.sc (.int .i64 (i:Int)))],Gm c x S [] 4 5 (.sl 2 6 0 0) ⟨true,6,46,3,[],false⟩ (⟨true,v,46,3,M.map Cf,false⟩::R),cnt⟩)
  (fun i=>i≤po.length∧∀ j,j < i→Ym c (po.getD j default)=true) (fun i=>po.length - i) 0 ⟨Bu _,fun j hj=>absurd hj (by simp)⟩ ?_ ?_ rfl ?_
 ·exact Arb
 ·simp only [Gm,←hR]; exact Aw _
 clear cnt
 rintro i cnt ⟨hi,hok⟩ ih
 by_cases hlt:i < po.length
 ·have hb:decide ((i:Int) < ((po.length:Nat):Int))=true:=by rw [AN]; omega
  have hb2:decide (i < po.length)=true:=Ae
  have w1:IntKind.i64.wrap ((i:Int)+1)=((i+1:Nat):Int):=AA
  have hm:po.getD i default ∈ po:=ZN
  have ih2:=fun (hk:Ym c (po.getD i default)=true) c'=>ih (i+1) c' ⟨by omega,fun j hj=>by
   rcases Nat.lt_succ_iff_lt_or_eq.1 hj with hj | rfl
   ·exact hok j hj
   ·exact hk⟩ (by omega)
  obtain ⟨⟨tr,ix,mo⟩,hg⟩:∃ a,po.getD i default=a:=⟨_,rfl⟩
  rw [hg] at ih2 hm
  have x6:=x3 ⟨tr,ix,mo⟩
  clear ih
  simp only [Gm,lx47,lx63,←hR] at ih2 x6 ⊢
  refine Agr ?_
  refine Bq ?_
  cases hk:Ym c ⟨tr,ix,mo⟩ with
  | false=>
   rw [hk] at x6
   have hE:poB c po=true:=List.any_eq_true.2 ⟨_,hm,by simp [hk]⟩
   have hZ':Z=(⟨Mp,[],[]⟩,55):=by rw [e,if_pos hE]
   rw [hZ']
   simp (maxSteps:=10000000) +contextual -implicitDefEqProofs only [AY,AW,St.put,Ap,Am,DO,pl,↓reduceIte,Nat.reduceAdd,Nat.reduceEqDiff,Int.reduceLT,Nat.reduceLT,Dc,Int.reduceAdd,CK,E6,Bh,AL,Bz,BJ,Bb,Bk,AB,Be,norefs,AV.noref,lx11,hb,hb2,hg,x6,C7,Ax,Hf,Mp]
   all_goals done
  | true=>
   rw [hk] at x6
   refine Hr (a5 hb hb2 w1 hg x6) ?_
   refine Ao ?_ ?_ (Ar _) (ih2 hk _)
   all_goals exact Auw
 obtain rfl:i=po.length:=Ah
 have hP:poB c po=false:=by
  rw [poB,lx97]
  exact Aqf
 rw [if_neg (by rw [hP]; simp)] at e
 have hpo:=UY (s:=s) (ed:=ed) hP
 rw [hee] at e hpo
 have hb:decide ((po.length:Int) < ((po.length:Nat):Int))=false:=Bc
 obtain ⟨e',c',x7⟩:=e62 c x (M++po) hpo (by rw [lx5]; omega) S hruS 4 5 cnt (.sl 2 6 0 0) ⟨true,6,46,3,[],false⟩ nR (cnt+1)
 rw [e,Apo _ _ (Adq c x (M++po) _ _ hnf.symm)]
 clear e hpo hP hok ih hi x3 hru hruS hnf hlf hvl
 generalize Eu c x (M++po) ⟨S,[],[]⟩=q at x7 ⊢
 obtain ⟨⟨zv',vars',zl',left',act',zm',lamps',fau'⟩,ef',po'⟩:=q
 have tl:(M.map Cf).take M.length=M.map Cf:=lx118 (by simp)
 have tef:(ef'.map Dd).take ef'.length=ef'.map Dd:=lx118 (by simp)
 have z1:decide ((M.length+po.length) * 24≤140737488355328)=true:=Ae
 simp only [Gm,lx47,lx63,lx12,lx5,←hR] at x7 ⊢
 refine Agr ?_
 refine Bq ?_
 simp (maxSteps:=10000000) +contextual -implicitDefEqProofs only [AY,AW,St.put,Ap,Am,DO,↓reduceIte,reduceCtorEq,Nat.reduceAdd,Nat.reduceLeDiff,Nat.reduceEqDiff,Int.reduceLT,Nat.reduceLT,Dc,Int.reduceAdd,CK,E6,hl,Bh,Bb,Bk,AB,norefs,AV.noref,lx11,hb,tl,tef,z1,x7,C7,Er,Hf]
 all_goals done
theorem Zs (c:Cd) (hf:Fit c) (s:Rs) (ze:Bool) (ed:List Ed) (zp:Bool) (po:List Ev) (x:Cx) (hed:ed.length≤1000) (hpl:po.length≤1000):
  C6 Tryz.prog 25 [BP c,Gb s,.vw ze (ed.map K8),.vw zp (po.map Cf),KF x] (Hf (He c s ed po x)):=by
 by_cases h:Bs c s=true∧Ii x=true
 ·exact Alp c hf s ze ed zp po x hed hpl h.1 h.2
 ·exact Alo c hf s ze ed zp po x h
def sdQ (p:Cd × Rs × (Bool × List Ed) × (Bool × List Ev) × Cx):Prop:=Fit p.1∧p.2.2.1.2.length≤1000∧p.2.2.2.1.2.length≤1000
noncomputable def f25:=Ew sdQ (fun p=>[BP p.1,Gb p.2.1,.vw p.2.2.1.1 (p.2.2.1.2.map K8),.vw p.2.2.2.1.1 (p.2.2.2.1.2.map Cf),KF p.2.2.2.2]) (fun p=>Hf (He p.1 p.2.1 p.2.2.1.2 p.2.2.2.1.2 p.2.2.2.2))
theorem e25 (c:Cd) (h:Fit c) (s:Rs) (ze:Bool) (ed:List Ed) (zp:Bool) (po:List Ev) (x:Cx) (hed:ed.length≤1000) (hpl:po.length≤1000):
  f25 [BP c,Gb s,.vw ze (ed.map K8),.vw zp (po.map Cf),KF x]=some (Hf (He c s ed po x)):=
 (AK (q:=sdQ) (enc:=fun p=>[BP p.1,Gb p.2.1,.vw p.2.2.1.1 (p.2.2.1.2.map K8),.vw p.2.2.2.1.1 (p.2.2.2.1.2.map Cf),KF p.2.2.2.2]) (out:=fun p=>Hf (He p.1 p.2.1 p.2.2.1.2 p.2.2.2.1.2 p.2.2.2.2)) (c,s,(ze,ed),(zp,po),x) ⟨h,hed,hpl⟩ (by
  rintro ⟨a,b,⟨d1,d2⟩,⟨e1,e2⟩,g⟩ h
  simp only [lx96,AV.vw.injEq,Ad6,K6,Ay] at h
  rw [CT h.1,JM h.2.1,h.2.2.1.1,h.2.2.1.2,h.2.2.2.1.1,h.2.2.2.1.2,UG h.2.2.2.2]) :)
theorem Bjo:VOk Tryz.prog 25 f25:=LU <| by
 rintro ⟨c,s,⟨ze,ed⟩,⟨zp,po⟩,x⟩ ⟨h1,h2,h3⟩
 exact Zs c h1 s ze ed zp po x h2 h3
theorem Adr {H:List Blk} {id:Nat} (h:id < H.length) (b z:Blk):(H++[b]).set id z=H.set id z++[b]:=by
 rw [List.set_append_left _ _ h]
theorem UZ (ls:List Lo) (x:Lo) (hn:ls.length≤100000) (H:List Blk) (id v u:Nat) (tmp:Bool) (hB:H[id]?=some ⟨true,v,82,6,ls.map Bp,false⟩) (cnt:Nat):
  HSpec Tryz.prog 234 [.sl id v 0 ls.length,.sc (.int .i64 (ls.length:Int)),.sl H.length u 0 1] (H++[⟨true,u,82,6,[Bp x],tmp⟩]) cnt (.sl id cnt 0 (ls.length+1)) (H.set id ⟨true,cnt,82,6,(ls++[x]).map Bp,false⟩) (cnt+1):=by
 have hid:id < H.length:=(lx22.1 hB).1
 have g1:∀ b,(H++[b])[id]?=some ⟨true,v,82,6,ls.map Bp,false⟩:=fun b=>by rw [lx61 hid]; exact hB
 have g2:=fun b z=>Adr hid b z
 have hz:decide ((ls.length+1) * 48≤140737488355328)=true:=Ae
 have tl:(ls.map Bp).take ls.length=ls.map Bp:=lx118 (by simp)
 have q1:decide ((0:Int)≤(ls.length:Int))=true:=Ae
 have q2:decide ((ls.length:Int)≤(ls.length:Int))=true:=Bc
 refine Ag (Aj (lit:=true) (pm:=fun _=>none) .nil .nil .nil .nil) rfl Tryz.func234 rfl (by decide) (by kernel_rfl) ?_
 simp only [Tryz.f234,Af,lx53,lx63,Nat.reduceAdd,Nat.reduceSub,List.replicate]
 refine Aa ?_
 cases tmp
 all_goals simp (maxSteps:=10000000) +contextual -implicitDefEqProofs only [AY,AW,St.put,↓reduceIte,Nat.reduceAdd,Int.reduceLT,Nat.reduceBEq,Nat.reduceLT,Dc,Int.reduceAdd,CK,Bh,AL,Bb,DA,Bk,Bg,Int.reduceBEq,g1,g2,hz,tl,q2,hB,lx5,lx3,List.dropLast_concat,lx12]
 all_goals try repeat' (first | exact Ad (by kernel_rfl) | refine ⟨Ad (by kernel_rfl),?_⟩ | refine And.intro ?_ ?_ | fail)
 all_goals first | exact .refl _ | exact .inl rfl | exact Df _ _ _ | skip
 all_goals done
theorem Alq (ls:List Lo) (x:Lo) (i:Nat) (hi:i≤ls.length) (hn:ls.length≤100000) (H:List Blk) (id v u:Nat) (tmp:Bool) (hB:H[id]?=some ⟨true,v,82,6,ls.map Bp,false⟩) (cnt:Nat):
  HSpec Tryz.prog 234 [.sl id v 0 ls.length,.sc (.int .i64 (i:Int)),.sl H.length u 0 1] (H++[⟨true,u,82,6,[Bp x],tmp⟩]) cnt (.sl id cnt 0 (ls.length+1)) (H.set id ⟨true,cnt,82,6,(ls.take i++x::ls.drop i).map Bp,false⟩) (cnt+1):=by
 have hid:id < H.length:=(lx22.1 hB).1
 rcases Nat.lt_or_eq_of_le hi with h | rfl
 ·have:=XP ls x i h hn (H++[⟨true,u,82,6,[Bp x],tmp⟩]) id H.length v u tmp (by rw [lx61 hid]; exact hB) (lx3 ..) (by omega) cnt
  refine this.wk (.refl _) ?_ (Ar _)
  rw [Adr hid]
  exact Df _ _ _
 ·have:=UZ ls x hn H id v u tmp hB cnt
  rw [lx74,List.drop_length]
  exact this
def Ee (x:Lo) (l:List Lo):Nat:=(l.filter fun y=>decide (Et y x)).length
def Nu (x:Lo) (l:List Lo):Bool:=decide (Ee x l < l.length) && (IS (l.getD (Ee x l) default) x == 0)
theorem Mq {x:Lo}:∀ {l:List Lo},Io l→∀ i,i < l.length→(Et (l.getD i default) x↔i < Ee x l)
 | [],_,i,hi=>by simp at hi
 | y::l,h,i,hi=>by
  have hh:=lx126.1 h
  by_cases hy:Et y x
  ·have e:Ee x (y::l)=Ee x l+1:=by simp [Ee,List.filter_cons,hy]
   rw [e]
   cases i with
   | zero=>simp [hy]
   | succ i=>
    have:=Mq hh.2 i (by simpa using hi) (x:=x)
    simp only [lx125]
    rw [this]; omega
  ·have hno:∀ z ∈ l,¬ Et z x:=fun z hz hc=>by
    have:=hh.1 z hz
    exact hy (JS this hc)
   have e:Ee x (y::l)=0:=by
    simp only [Ee,List.filter_cons,hy,decide_false,Dy,lx7]
    rw [List.filter_eq_nil_iff.2 (fun z hz=>by simpa using hno z hz)]; rfl
   rw [e]
   constructor
   ·intro hc
    cases i with
    | zero=>exact absurd hc hy
    | succ i=>
     simp only [lx125] at hc
     have hi':i < l.length:=by simpa using hi
     rw [lx80,lx51 hi'] at hc
     exact absurd hc (hno _ (lx90 hi'))
   ·intro hc; omega
theorem Alr {a b:Lo}:(IS a b == 0)=decide (KK a b):=by
 have h1:=Ns (a:=a) (b:=b)
 have h2:G9 a.mo b.mo=0↔a.mo=b.mo:=by unfold G9; split <;> (try split) <;> omega
 have h3:G9 a.la b.la=0↔a.la=b.la:=by unfold G9; split <;> (try split) <;> omega
 have h4:IS a b=0↔KK a b:=by
  rw [IS,Ad2]
  unfold KK
  by_cases h:G9 a.mo b.mo=0
  ·rw [if_pos h,h3]; have:=h2.1 h; omega
  ·rw [if_neg h]
   have:¬ a.mo=b.mo:=fun hh=>h (h2.2 hh)
   constructor
   ·intro hc; exact absurd hc h
   ·intro hc; exact absurd hc.1 this
 by_cases h:KK a b
 ·rw [HU h,h4.2 h]; rfl
 ·rw [E8 h,lx113]; exact fun hc=>h (h4.1 hc)
theorem Apr {n h:Nat} (hn:n≤1000000) (hh:n / 2=h):IntKind.i64.wrap (I2 .u64 (IntKind.u64.wrap (n:Int)) 1)=(h:Int):=by
 have e1:IntKind.u64.wrap (n:Int)=(n:Int):=Eg (by omega) (by omega)
 have e:min ((1:Int).toNat) (IntKind.bits .u64)=1:=rfl
 rw [e1,I2,e,Int.fdiv_eq_ediv_of_nonneg _ (by decide),Bd (by omega) (by omega)]
 omega
theorem Ads (x:Lo) (l:List Lo):Ee x l≤l.length:=lx86 _ _
theorem RC {x:Lo}:∀ {l:List Lo},Io l→KL x l=if Nu x l=true then l.set (Ee x l) x else l.take (Ee x l)++x::l.drop (Ee x l)
 | [],_=>by simp [KL,Nu,Ee]
 | y::l,h=>by
  have hh:=lx126.1 h
  by_cases hy:Et y x
  ·have e:Ee x (y::l)=Ee x l+1:=by simp [Ee,List.filter_cons,hy]
   have e2:Nu x (y::l)=Nu x l:=by simp [Nu,e]
   rw [KL,if_pos hy,RC hh.2,e2,e]
   by_cases hc:Nu x l=true
   ·rw [if_pos hc,if_pos hc]; rfl
   ·rw [if_neg hc,if_neg hc]; rfl
  ·have e:Ee x (y::l)=0:=by
    rcases Nat.eq_zero_or_pos (Ee x (y::l)) with h0 | h0
    ·exact h0
    ·exact absurd ((Mq h 0 (by simp)).2 h0) hy
   have e2:Nu x (y::l)=decide (KK y x):=by
    simp only [Nu,e,lx124,Alr]
    simp
   rw [KL,if_neg hy,e2,e]
   by_cases hc:KK y x
   ·rw [if_pos hc,if_pos (by simpa using hc)]; rfl
   ·rw [if_neg hc,if_neg (by simpa using hc)]; rfl
def bsQ (p:(Bool × List Lo) × Lo):Prop:=Io p.1.2∧p.1.2.length≤100000
def bsA (x:Lo) (l:List Lo):AV:=.tu [.sc (.int .i64 (Ee x l:Nat)),.sc (.bool (Nu x l))]
noncomputable def f233:=Ew bsQ (fun p=>[.vw p.1.1 (p.1.2.map Bp),Bp p.2,.fn 80 []]) (fun p=>bsA p.2 p.1.2)
theorem Bey (z:Bool) (l:List Lo) (x:Lo) (h:Io l) (hl1:l.length≤100000):f233 [.vw z (l.map Bp),Bp x,.fn 80 []]=some (bsA x l):=
 (AK (q:=bsQ) (enc:=fun p=>[.vw p.1.1 (p.1.2.map Bp),Bp p.2,.fn 80 []]) (out:=fun p=>bsA p.2 p.1.2) ((z,l),x) ⟨h,hl1⟩ (by
  rintro ⟨⟨z',l'⟩,x'⟩ h
  simp only [lx96,AV.vw.injEq,HB,Ay] at h
  rw [h.1.1,h.1.2,K5 h.2]) :)
theorem Aub:DC Tryz.prog 233 f233:=AF <| by
 rintro ⟨⟨z,l⟩,x⟩ ⟨hso,hl1⟩
 simp only at hso hl1
 have x1:=fun a=>e80 a x
 have hp:=Ads x l
 simp only
 refine Ac (MZ (.cons Bdp .nil)) rfl Tryz.func233 rfl (by decide) (by kernel_rfl) (by simp [bsA,okc,Ahe,Value.oneCell']) ?_
 simp only [Tryz.f233,Af,lx53,lx63,Nat.reduceAdd,Nat.reduceSub,List.replicate]
 refine Aa ?_
 refine gG0 ?_
 have hsf:=fun i hi=>Mq hso (x:=x) i hi
 have ho:=fun a=>Ns (a:=a) (b:=x)
 refine Al (σ:=Nat × Nat) (fun y cnt=>⟨Bn 0 49 [(0,.vw z (l.map Bp)),(1,Bp x),(2,.fn 80 []),(4,.pt 0 0 0 0),(8,.sc (.int .i64 l.length)),(9,.sc (.int .i64 (y.1:Int))),(10,.sc (.int .i64 (y.2:Int)))],[⟨true,0,82,6,[Bp x],false⟩],cnt⟩)
  (fun y=>y.1≤Ee x l∧Ee x l≤y.2∧y.2≤l.length) (fun y=>y.2 - y.1) (0,l.length) ⟨Bu _,hp,Ar _⟩ ?_ ?_ rfl ?_
 ·simp (maxSteps:=10000000) only [AY,AW,↓reduceIte,reduceCtorEq,Nat.reduceAdd,Nat.reduceEqDiff,Bn,Dj,Bg]
  all_goals done
 ·simp only [Bg]; exact Aw _
 rintro ⟨i,j⟩ cnt ⟨hi,hj,hjl⟩ ih
 simp only at hi hj hjl
 by_cases hlt:i < j
 ·have hb:decide ((i:Int) < (j:Int))=true:=by rw [AN]; omega
  obtain ⟨h,hh⟩:∃ h,(i+j) / 2=h:=⟨_,rfl⟩
  have h1:i≤h∧h < j:=Ah
  have w1:IntKind.i64.wrap ((i:Int)+(j:Int))=((i+j:Nat):Int):=AA
  have w2:IntKind.i64.wrap ((h:Int)+1)=((h+1:Nat):Int):=AA
  have w3:=Apr (n:=i+j) (by omega) hh
  have hb2:decide (h < l.length)=true:=Ae
  have hb4:decide ((h:Int) < ((l.length:Nat):Int))=true:=Ae
  obtain ⟨y,hg⟩:∃ y,l.getD h default=y:=⟨_,rfl⟩
  have hc:=hsf h (by omega)
  rw [hg] at hc
  have hy:=ho y
  have x2:=x1 y
  have ih1:=fun hc2 c'=>ih (h+1,j) c' ⟨hc2,hj,hjl⟩ (by simp only; omega)
  have ih2:=fun hc2 c'=>ih (i,h) c' ⟨hi,hc2,by omega⟩ (by simp only; omega)
  clear ih hsf ho x1
  simp only [Bg] at x2
  refine Aa ?_
  refine Bq ?_
  by_cases hyl:IS y x < 0
  ·have c0:decide (IS y x < 0)=true:=by rw [AN]; exact hyl
   simp (maxSteps:=10000000) +contextual -implicitDefEqProofs only [AY,AW,St.put,Ap,Am,DO,pl,↓reduceIte,Nat.reduceAdd,Dc,Int.reduceAdd,CK,Bg,norefs,AV.noref,hb,w1,w2,w3,hb2,hb4,hg,x2,c0,B4,Ax]
   refine Ao ?_ ?_ (Ar _) (ih1 (by have:=hc.1 (hy.1 hyl); omega) _)
   all_goals exact Auq
  ·have c0:decide (IS y x < 0)=false:=by rw [BT]; exact hyl
   simp (maxSteps:=10000000) +contextual -implicitDefEqProofs only [AY,AW,St.put,Ap,Am,DO,pl,↓reduceIte,Nat.reduceAdd,Dc,Int.reduceAdd,CK,Bg,norefs,AV.noref,hb,w1,w3,hb2,hb4,hg,x2,c0,B4,Ax]
   refine Ao ?_ ?_ (Ar _) (ih2 (by
    rcases Ej h (Ee x l) with g | g
    ·exact absurd (hy.2 (hc.2 g)) hyl
    ·exact g) _)
   all_goals exact Auq
 ·obtain rfl:i=Ee x l:=by omega
  obtain rfl:j=Ee x l:=Ah
  have hb:decide (((Ee x l:Nat):Int) < ((Ee x l:Nat):Int))=false:=Bc
  clear ih hsf ho
  have hhit:Nu x l=(decide (Ee x l < l.length) && (IS (l.getD (Ee x l) default) x == 0)):=rfl
  rw [bsA,hhit]
  generalize Ee x l=p at *
  by_cases hpl:p < l.length
  ·have hb2:decide (p < l.length)=true:=by rw [AN]; exact hpl
   have hb3:decide ((p:Int) < ((l.length:Nat):Int))=true:=Ae
   obtain ⟨y,hg⟩:∃ y,l.getD p default=y:=⟨_,rfl⟩
   have x2:=x1 y
   rw [hg,hb2]
   simp only [Bg] at x2
   refine Aa ?_
   refine Bq ?_
   exact zG1 (a5 hb hb2 hb3 hg x2)
   all_goals done
  ·have hb2:decide (p < l.length)=false:=by rw [BT]; exact hpl
   have hb3:decide ((p:Int) < ((l.length:Nat):Int))=false:=Gg
   rw [hb2]
   refine Aa ?_
   refine Bq ?_
   exact zG1 (a3 hb hb3 @EO)
   all_goals done
end Go.Proofs.YtdjpkhjaibdogaaGreat
