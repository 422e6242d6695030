/-
  Lemmas towards ModesPriority (joined texts: CG, DS, DT, EA, PC0, PC).
  Conditions: none.
-/
import Derived.Test.YtdjpkhjaibdogaaGreatL01
import Derived.Test.YtdjpkhjaibdogaaGreatL02
import Derived.Test.YtdjpkhjaibdogaaGreatL27
import Derived.Test.YtdjpkhjaibdogaaGreatL24
import Derived.Test.YtdjpkhjaibdogaaGreatL20
import Derived.Test.YtdjpkhjaibdogaaGreatL15
set_option linter.unusedSimpArgs false
set_option linter.unusedVariables false
set_option maxRecDepth 100000
set_option maxHeartbeats 8000000
namespace Go.Proofs.YtdjpkhjaibdogaaGreat
open Go Go.SX
attribute [local congr] ite_congr
theorem Ss (l:List Int):Cu (l.map (kA .i64))=true:=IP (f:=kA .i64) (fun _=>by simp [kA,AV.fresh]) l
theorem Abv (l:List Ef):Cu (l.map EJ)=true:=IP (f:=EJ) (fun _=>by simp [EJ,kA,stA,AV.fresh,Cu]) l
theorem Abw (n:Nat) (v:Value):Cu (List.replicate n (.sc v))=true:=by
 induction n with
 | zero=>rfl
 | succ n ih=>rw [List.replicate_succ]; simp [Cu,AV.fresh,ih]
theorem DU {P:Program} {g:Nat} {args:List AV} {H:List Blk} {c:Nat} {r:AV} {H':List Blk} {c':Nat} (h:HSpec P g args H c r H' c'):∃ F,Jo P g F∧F args H c=some (r,H',c'):=
 ⟨mkH (fun _:Unit=>True) (fun _=>(args,H,c)) (fun _=>(r,H',c')),IU (fun _ _=>h),IT (q:=fun _:Unit=>True) (enc:=fun _=>(args,H,c)) (out:=fun _=>(r,H',c')) () trivial (fun _ _ _=>rfl)⟩
theorem Jb (z:Bool) (l:List Int) (H:List Blk) (cnt:Nat) (hs:l.length≤1000000):
  HSpec Tryz.prog 54 [.vw z (l.map (kA .i64))] H cnt (.sl H.length (cnt+1) 0 l.length) (H++[⟨true,cnt+1,3,1,l.map (kA .i64),false⟩]) (cnt+2):=by
 cases l with
 | nil=>exact Qa (fun cap=>LI cap H cnt) (fun a cap=>LJ a cap H cnt)
 | cons a r=>
  refine Ad (Af (lit:=false) (pm:=fun _=>none) .nil .nil .nil .nil) rfl Tryz.func54 rfl (by decide) (by kernel_rfl) ?_
  refine Ayw ?_
  have hr:decide ((r.length+1) * 8≤140737488355328)=true:=by rw [Bw]; simp only [lx52] at hs; omega
  have hn:norefs (r.map (kA .i64))=true:=Es r
  exact SP (a4 hn hr @Ba8 @Kw)
  repeat' (first | exact Aa (by kernel_rfl) | refine ⟨Aa (by kernel_rfl),?_⟩ | refine And.intro ?_ ?_ | fail)
  all_goals exact Aak
theorem Td (z:Bool) (l:List Lo) (H:List Blk) (cnt:Nat) (hs:l.length≤1000000):
  HSpec Tryz.prog 152 [.vw z (l.map B6)] H cnt (.sl H.length (cnt+1) 0 l.length) (H++[⟨true,cnt+1,82,6,l.map B6,false⟩]) (cnt+2):=by
 cases l with
 | nil=>exact Qa (fun cap=>Kf cap H cnt) (fun a cap=>Kg a cap H cnt)
 | cons a r=>
  refine Ad (Af (lit:=false) (pm:=fun _=>none) .nil .nil .nil .nil) rfl Tryz.func152 rfl (by decide) (by kernel_rfl) ?_
  refine Ayu ?_
  have hr:decide ((r.length+1) * 48≤140737488355328)=true:=by rw [Bw]; simp only [lx52] at hs; omega
  have hn:norefs (r.map B6)=true:=Sq r
  exact SP (a6 hn hr @BS @Ba9 @Kw @CJ)
  repeat' (first | exact Aa (by kernel_rfl) | refine ⟨Aa (by kernel_rfl),?_⟩ | refine And.intro ?_ ?_ | fail)
  all_goals exact Aak
noncomputable def Nj (c:Cd):Rs × Int:=if AY c=0 then (⟨false,c.vars,false,List.replicate c.tim.toNat 0,0,true,[],0⟩,0) else (⟨true,[],true,[],0,true,[],0⟩,1)
noncomputable def f20:=EF Fit (fun c=>[CI c]) (fun c=>.tu [Ki (Nj c).1,kA .i64 (Nj c).2])
theorem e20 (c:Cd) (h:Fit c):f20 [CI c]=some (.tu [Ki (Nj c).1,.sc (.int .i64 (Nj c).2)]):=
 (AK (q:=Fit) (enc:=fun c=>[CI c]) (out:=fun c=>.tu [Ki (Nj c).1,kA .i64 (Nj c).2]) c h (by
  intro b h
  simp only [lx94,AW] at h
  rw [Dn h]) :)
theorem Asw {c:Cd} (h:AY c≠0):Nj c=(⟨true,[],true,[],0,true,[],0⟩,1):=by rw [Nj,if_neg h]
theorem Asx {c:Cd} (h:AY c=0):Nj c=(⟨false,c.vars,false,List.replicate c.tim.toNat 0,0,true,[],0⟩,0):=by rw [Nj,if_pos h]
theorem Aig (c:Cd):(AV.tu [Ki (Nj c).1,kA .i64 (Nj c).2]).noref=true:=by simp [kA,AV.noref,norefs,UJ]
theorem Boj:FOk Tryz.prog 20 f20:=Am9 <| by
 rintro c hq
 have x1:=e53 c hq
 simp only [Ai] at x1
 by_cases h:AY c=0
 rotate_left
 ·have b1:(AY c != 0)=true:=by simpa using h
  refine EU (Af (lit:=false) (pm:=fun _=>none) (.cons Asq .nil) .nil .nil .nil) rfl Tryz.func20 rfl (by decide) (by kernel_rfl) (Aig c) ?_
  simp only [Tryz.f20,Ae,lx52,lx63,Nat.reduceAdd,Nat.reduceSub,List.replicate]
  rw [Asw h]
  refine Ac ?_
  refine gC1 (a3 x1 b1 @Bf) ?_
  repeat' (first | exact Aa (by kernel_rfl) | refine ⟨Aa (by kernel_rfl),?_⟩ | refine And.intro ?_ ?_ | fail)
  all_goals first | rfl | skip
  all_goals done
 have hlm:=CK h
 have b1:(AY c != 0)=false:=by simp [h]
 rw [Asx h]
 obtain ⟨F54,k54,e54⟩:=DU (Jb c.zv c.vars [⟨true,0,36,7,[CI c],false⟩,⟨true,1,41,5,[Ki ⟨true,[],true,[],0,true,[],0⟩],false⟩] 2 (by omega))
 simp only [Ai,Bf,lx90,lx64,lx52,lx63,lx46,Nat.reduceAdd] at e54
 have hsz:decide (c.tim * 8≤140737488355328)=true:=Au
 have hsz2:decide (c.tim≤c.tim)=true:=Au
 have g0:decide ((0:Int)≤c.tim)=true:=Au
 have ht1:List.take c.vars.length (c.vars.map (kA .i64))=c.vars.map (kA .i64):=lx12 (by simp)
 have ht2:List.take c.tim.toNat (List.replicate c.tim.toNat (AV.sc (.int .i64 0)))=(List.replicate c.tim.toNat 0).map (kA .i64):=by rw [lx12 (by simp),List.map_replicate]; rfl
 refine EU (Af (lit:=false) (pm:=fun _=>none) (.cons Asq .nil) .nil .nil (.cons k54 .nil)) rfl Tryz.func20 rfl (by decide) (by kernel_rfl) (by simp [kA,AV.noref,norefs,UJ]) ?_
 simp only [Tryz.f20,Ae,lx52,lx63,Nat.reduceAdd,Nat.reduceSub,List.replicate]
 refine Ac ?_
 refine gC1 (a9 x1 b1 e54 hsz hsz2 g0 ht1 ht2 @Bf) ?_
 repeat' (first | exact Aa (by kernel_rfl) | refine ⟨Aa (by kernel_rfl),?_⟩ | refine And.intro ?_ ?_ | fail)
 all_goals first | (simp [AV.freshIn,Hb,AJ,Cu,AV.fresh,Ss,Abw]; done) | skip
 all_goals done
theorem Asy (x y:Int):decide (Gg x y < 0)=decide (x < y):=by
 unfold Gg
 split
 ·rename_i h; simp [h]
 ·rename_i h
  split <;> simp [h]
def elF (r:Nat→Int) (i:Nat):AV:=.sc (.int .i64 (r i))
theorem Aby (r:Nat→Int) (i:Nat):elF r i=.sc (.int .i64 (r i)):=rfl
theorem Bao (r:Nat→Int) (t:List Nat) (j x:Nat):(t.map (elF r)).set j (.sc (.int .i64 (r x)))=(t.set j x).map (elF r):=by
 rw [List.map_set]; rfl
structure Ctx where
 r:Nat→Int
 n:Nat
 K:Nat→Int
 v:Nat
 v0:Nat
 ty0:Nat
 es0:Nat
 els0:List AV
 fc:List AV→Option AV
structure CtxOk (C:Ctx):Prop where
 hc:DC Tryz.prog 111 C.fc
 he:∀ x y,x < C.n→y < C.n→C.fc [elF C.r x,elF C.r y,.vp C.els0 0 0]=some (.sc (.int .i64 (Gg (C.K y) (C.K x))))
 inj:∀ x y,x < C.n→y < C.n→elF C.r x=elF C.r y→x=y
 n:C.n≤1000000
def blD (C:Ctx) (t:List Nat):Blk:=⟨true,C.v,3,1,t.map (elF C.r),false⟩
def blC (C:Ctx):Blk:=⟨true,C.v0,C.ty0,C.es0,C.els0,false⟩
def cmV (C:Ctx):AV:=.fn 111 [.pt 0 C.v0 0 0]
def daV (C:Ctx):AV:=.sl 1 C.v 0 C.n
def TagQ (C:Ctx) (t:List Nat):Prop:=t.length=C.n∧∀ i,i < C.n→t.getD i default < C.n
theorem At1 {C:Ctx} (h:CtxOk C) {t u:List Nat} (ht:TagQ C t) (hu:TagQ C u) (e:blD C t=blD C u):t=u:=by
 simp only [blD,Blk.mk.injEq,C5,AW] at e
 refine List.ext_getElem (by rw [ht.1,hu.1]) fun i h1 h2=>?_
 have e1:(t.map (elF C.r))[i]?=(u.map (elF C.r))[i]?:=by rw [e]
 rw [lx23,lx23,lx50 h1,lx50 h2] at e1
 simp only [lx34,lx16] at e1
 have g1:=ht.2 i (by rw [←ht.1]; exact h1)
 have g2:=hu.2 i (by rw [←hu.1]; exact h2)
 rw [lx81,lx50 h1,lx4] at g1
 rw [lx81,lx50 h2,lx4] at g2
 exact h.inj _ _ g1 g2 e1
theorem TagQ.seg {C:Ctx} {t u:List Nat} {a b:Nat} (h:TagQ C t) (hs:Seg t u a b) (hb:b≤C.n):TagQ C u:=by
 refine ⟨hs.len.trans h.1,fun i hi=>?_⟩
 by_cases c:a≤i∧i < b
 ·obtain ⟨j,_,j2,e⟩:=hs.frm i c.1 c.2
  rw [e]; exact h.2 j (by omega)
 ·rw [hs.out i (by omega)]; exact h.2 i hi
theorem TagQ.sw {C:Ctx} {t:List Nat} {i j:Nat} (h:TagQ C t) (hi:i < C.n) (hj:j < C.n):TagQ C (WH t i j):=
 h.seg (Aff (a:=0) (b:=C.n) (Bq _) hi (Bq _) hj (by rw [h.1]; exact Av _)) (Av _)
theorem Wl {a b:Nat} (h:kA .i64 (a:Int)=kA .i64 (b:Int)):a=b:=by
 have:=BR h; omega
noncomputable def Bhj (C:Ctx):=mkH (fun p:List Nat × Nat × Nat × Nat=>TagQ C p.1∧p.2.1≤p.2.2.1∧p.2.2.1≤C.n) (fun p=>([daV C,kA .i64 p.2.1,kA .i64 p.2.2.1,cmV C],[blC C,blD C p.1],p.2.2.2))
 (fun p=>(.tu [],[blC C,blD C (LG C.K p.1 p.2.1 p.2.2.1)],p.2.2.2))
theorem Bhk {C:Ctx} (h:CtxOk C) (t:List Nat) (a b c:Nat) (ht:TagQ C t) (hab:a≤b) (hb:b≤C.n):
  Bhj C [daV C,kA .i64 a,kA .i64 b,cmV C] [blC C,blD C t] c=some (.tu [],[blC C,blD C (LG C.K t a b)],c):=
 IT (q:=fun p:List Nat × Nat × Nat × Nat=>TagQ C p.1∧p.2.1≤p.2.2.1∧p.2.2.1≤C.n) (enc:=fun p=>([daV C,kA .i64 p.2.1,kA .i64 p.2.2.1,cmV C],[blC C,blD C p.1],p.2.2.2))
  (out:=fun p=>(.tu [],[blC C,blD C (LG C.K p.1 p.2.1 p.2.2.1)],p.2.2.2)) (t,a,b,c) ⟨ht,hab,hb⟩ (by
  rintro ⟨t',a',b',c'⟩ ⟨ht',_⟩ e
  simp only [lx40,lx94,AW,C5] at e
  obtain ⟨⟨e1,e2⟩,e3,rfl⟩:=e
  rw [Wl e1,Wl e2,At1 h ht' ht e3])
theorem UM {K:Nat→Int} {t:List Nat} {a j:Nat} (h:¬ (a < j∧K (t.getD (j - 1) default) < K (t.getD j default))):M9 K a j t=t:=by
 cases j with
 | zero=>rfl
 | succ j=>rw [M9,if_neg (by simpa using h)]
theorem Bap {C:Ctx} (h:CtxOk C):Jo Tryz.prog 201 (Bhj C):=IU <| by
 rintro ⟨t,a,b,cnt⟩ ⟨ht,hab,hb⟩
 obtain ⟨hc,he,hinj,hn⟩:=h
 obtain ⟨r,n,K,v,v0,ty0,es0,els0,fc⟩:=C
 simp only at hc he hn hb hab
 have htl:=ht.1
 simp only at htl
 refine Ad (Af (lit:=false) (pm:=fun _=>none) (.cons hc .nil) .nil .nil .nil) rfl Tryz.func201 rfl (by decide) (by kernel_rfl) ?_
 simp only [Tryz.f201,Ae,lx52,lx63,Nat.reduceAdd,Nat.reduceSub,List.replicate]
 simp only [blC,blD,daV,cmV]
 obtain ⟨RES,hRES⟩:∃ u,LG K t a b=u:=⟨_,rfl⟩
 rw [hRES]
 have w0:IntKind.i64.wrap ((a:Int)+1)=((a+1:Nat):Int):=CT
 refine Ac ?_
 simp (maxSteps:=10000000) +contextual -implicitDefEqProofs only [AX,AT,St.put,B9,AL,w0]
 refine Az (σ:=Nat × List Nat) (fun y _=>⟨CW 0 53 [(0,.sl 1 v 0 n),(1,.sc (.int .i64 a)),(2,.sc (.int .i64 b)),(3,.fn 111 [.pt 0 v0 0 0]),(8,.sc (.int .i64 y.1))],[⟨true,v0,ty0,es0,els0,false⟩,⟨true,v,3,1,y.2.map (elF r),false⟩],cnt⟩)
  (fun y=>a+1≤y.1∧(y.1≤b∨y.1=a+1)∧TagQ ⟨r,n,K,v,v0,ty0,es0,els0,fc⟩ y.2∧S9 K a t (y.1 - a - 1)=y.2) (fun y=>b - y.1) (a+1,t) ⟨by simp only; omega,.inr rfl,ht,by simp only; rw [show a+1 - a - 1=0 by omega]; rfl⟩ ?_ ?_ rfl ?_
 ·exact Gm
 ·exact Ajt
 rintro ⟨i,u⟩ cn ⟨hi1,hi2,hu,hins⟩ ih
 simp only at hi1 hi2 hu hins
 have hul:=hu.1
 have hut:=hu.2
 simp only at hul hut
 by_cases hib:i < b
 rotate_left
 ·have q1:decide ((i:Int) < (b:Int))=false:=by rw [Cy]; omega
  have hfin:RES=u:=by
   rw [←hRES,←hins,LG]
   congr 1; omega
  rw [hfin]
  refine Ac ?_
  refine Cb ?_
  simp (maxSteps:=10000000) +contextual -implicitDefEqProofs only [AX,AT,St.put,↓reduceIte,B9,q1]
  all_goals first | exact .refl _ | rfl | trivial | omega
 have q1:decide ((i:Int) < (b:Int))=true:=Au
 obtain ⟨m,rfl⟩:∃ m,i=a+m+1:=⟨i - a - 1,by omega⟩
 rw [show a+m+1 - a - 1=m by omega] at hins
 have w1:IntKind.i64.wrap (((a+m+1:Nat):Int)+1)=((a+m+1+1:Nat):Int):=CT
 obtain ⟨NX,hNX⟩:∃ x,M9 K a (a+m+1) u=x:=⟨_,rfl⟩
 have hnx:S9 K a t (m+1)=NX:=by rw [S9,hins,hNX]
 refine Ac ?_
 refine Cb ?_
 simp (maxSteps:=10000000) +contextual -implicitDefEqProofs only [AT,St.put,↓reduceIte,B9,q1]
 refine Az (σ:=Nat × List Nat) (fun y _=>⟨CW 0 53 [(0,.sl 1 v 0 n),(1,.sc (.int .i64 a)),(2,.sc (.int .i64 b)),(3,.fn 111 [.pt 0 v0 0 0]),(8,.sc (.int .i64 (a+m+1:Nat))),(9,.sc (.int .i64 y.1))],[⟨true,v0,ty0,es0,els0,false⟩,⟨true,v,3,1,y.2.map (elF r),false⟩],cnt⟩)
  (fun y=>y.1≤a+m+1∧a≤y.1∧TagQ ⟨r,n,K,v,v0,ty0,es0,els0,fc⟩ y.2∧M9 K a y.1 y.2=NX) (fun y=>y.1) (a+m+1,u) ⟨Av _,by simp only; omega,hu,hNX⟩ ?_ ?_ rfl ?_
 ·exact Gm
 ·exact Ajt
 rintro ⟨j,s⟩ cm ⟨hj1,hj2,hs,hns⟩ jh
 simp only at hj1 hj2 hs hns
 have hsl:=hs.1
 have hst:=hs.2
 simp only at hsl hst
 have hend:M9 K a j s=s→NX=s:=fun h=>by rw [←hns,h]
 by_cases hja:a < j
 rotate_left
 ·have q2:decide ((a:Int) < (j:Int))=false:=by rw [Cy]; omega
  have hfin:=hend (UM (fun h=>hja h.1))
  refine Ac ?_
  refine Cb ?_
  refine gC1 (a2 q2 w1) ?_
  repeat' (first | exact Aa (by kernel_rfl) | refine ⟨Aa (by kernel_rfl),?_⟩ | refine And.intro ?_ ?_ | fail)
  refine AB ?_ ?_ (Av _) (ih (a+m+1+1,s) 0 ⟨by simp only; omega,by simp only; omega,hs,by simp only; rw [show a+m+1+1 - a - 1=m+1 by omega,hnx,hfin]⟩ (by simp only; omega))
  all_goals exact Ay8
 have q2:decide ((a:Int) < (j:Int))=true:=Au
 obtain ⟨k,rfl⟩:∃ k,j=k+1:=⟨j - 1,by omega⟩
 have w2:IntKind.i64.wrap (((k+1:Nat):Int) - 1)=(k:Int):=CT
 have q3:decide (k+1 < s.length)=true:=Au
 have q4:decide (k < s.length)=true:=Au
 have q5:decide (((k+1:Nat):Int) < (n:Int))=true:=Au
 have q6:decide ((k:Int) < (n:Int))=true:=Au
 have hcm:=he (s.getD (k+1) default) (s.getD k default) (hst _ (by omega)) (hst _ (by omega))
 simp only [Aby] at hcm
 have q7:=Asy (K (s.getD k default)) (K (s.getD (k+1) default))
 refine Ac ?_
 by_cases hlt:K (s.getD k default) < K (s.getD (k+1) default)
 ·rw [AA hlt] at q7
  have s1:=fun t j x=>Bao r t j x
  have hsw:(s.set (k+1) (s.getD k default)).set k (s.getD (k+1) default)=WH s (k+1) k:=rfl
  have hnx2:M9 K a k (WH s (k+1) k)=NX:=by rw [←hns,M9,if_pos ⟨hja,hlt⟩]
  refine Cb ?_
  refine gC1 (Hp q2 q3 q4 q5 q6 q7 w2 hcm s1 hsw @AO @Aby) ?_
  repeat' (first | exact Aa (by kernel_rfl) | refine ⟨Aa (by kernel_rfl),?_⟩ | refine And.intro ?_ ?_ | fail)
  refine AB ?_ ?_ (Av _) (jh (k,WH s (k+1) k) 0 ⟨by simp only; omega,by simp only; omega,hs.sw (by simp only; omega) (by simp only; omega),hnx2⟩ (by simp only; omega))
  all_goals exact Aye
 ·rw [Ce hlt] at q7
  have hfin:=hend (UM (by simp only [Nat.add_sub_cancel]; exact fun h=>hlt h.2))
  refine Cb ?_
  refine gC1 (Jk q2 q3 q4 q5 q6 q7 w1 w2 hcm @AO @Aby) ?_
  repeat' (first | exact Aa (by kernel_rfl) | refine ⟨Aa (by kernel_rfl),?_⟩ | refine And.intro ?_ ?_ | fail)
  refine AB ?_ ?_ (Av _) (ih (a+m+1+1,s) 0 ⟨by simp only; omega,by simp only; omega,hs,by simp only; rw [show a+m+1+1 - a - 1=m+1 by omega,hnx,hfin]⟩ (by simp only; omega))
  all_goals exact Aye
theorem Fl {n k:Nat} (h:k < n):(List.range n).getD k default=k:=by
 rw [lx81,lx50 (by simpa using h)]; simp
theorem Bok {K:Nat→Int} {u w:List Nat} {n:Nat} (hu:u.length=n) (hw:w.length=n) (su:Srt K u 0 n) (sw:Srt K w 0 n) (bu:Stb K u) (bw:Stb K w)
  (uw:∀ i,i < n→∃ j,j < n∧u.getD i default=w.getD j default) (wu:∀ i,i < n→∃ j,j < n∧w.getD i default=u.getD j default):u=w:=by
 have inj:∀ (v:List Nat),v.length=n→Stb K v→∀ a b,a < b→b < n→v.getD a default=v.getD b default→False:=fun v hv bv a b h1 h2 e=>by
  have:=bv a b h1 (by omega) (by rw [e])
  omega
 have main:∀ i,i < n→u.getD i default=w.getD i default:=by
  intro i
  induction i using Nat.strongRecOn with
  | ind i ih=>
   intro hi
   obtain ⟨k,hk,ek⟩:=uw i hi
   obtain ⟨l,hl',el⟩:=wu i hi
   have k1:¬ k < i:=fun h=>inj u hu bu k i h hi (by rw [ih k h hk,ek])
   have l1:¬ l < i:=fun h=>inj w hw bw l i h hi (by rw [←ih l h hl',el])
   by_cases hki:k=i
   ·rw [ek,hki]
   by_cases hli:l=i
   ·rw [el,hli]
   have s1:=su i l (Bq _) (by omega) hl'
   have s2:=sw i k (Bq _) (by omega) hk
   rw [←el] at s1
   rw [←ek] at s2
   have e:K (u.getD i default)=K (w.getD i default):=An
   have b1:=bu i l (by omega) (by omega) (by rw [e,el])
   have b2:=bw i k (by omega) (by omega) (by rw [←e,ek])
   omega
 refine List.ext_getElem (by omega) fun i h1 h2=>?_
 have:=main i (by omega)
 rw [lx81,lx81,lx50 h1,lx50 h2] at this
 exact this
def UN (K:Nat→Int) (n:Nat):Nat→List Nat
 | 0=>[]
 | q+1=>UN K n q++(List.range n).filter (fun i=>K i == 99 - (q:Int))
theorem Qm (K:Nat→Int) (n:Nat) (hK:∀ i,i < n→K i≤99):∀ q x,x ∈ UN K n q↔x < n∧99 - (q:Int) < K x
 | 0,x=>by
  simp only [UN,lx112,false_iff,not_and]
  intro hx; have:=hK x hx; omega
 | q+1,x=>by
  rw [UN,lx77,Qm K n hK q x,List.mem_filter,Hr,lx86]
  constructor
  ·rintro (⟨h1,h2⟩ | ⟨h1,h2⟩)
   ·exact ⟨h1,by omega⟩
   ·exact ⟨h1,by omega⟩
  ·rintro ⟨h1,h2⟩
   by_cases h:K x=99 - (q:Int)
   ·exact .inr ⟨h1,h⟩
   ·exact .inl ⟨h1,by omega⟩
theorem Ao3 (K:Nat→Int) (n:Nat) (hK:∀ i,i < n→K i≤99):∀ q,(UN K n q).Pairwise fun a b=>K b≤K a∧(K a=K b→a < b)
 | 0=>.nil
 | q+1=>by
  rw [UN]
  refine List.pairwise_append.2 ⟨Ao3 K n hK q,?_,fun a ha b hb=>?_⟩
  ·have h1:(List.range n).Pairwise (fun a b=>a < b):=List.pairwise_lt_range
   have h2:((List.range n).filter (fun i=>K i == 99 - (q:Int))).Pairwise (fun a b=>a < b):=h1.filter _
   refine (List.pairwise_iff_getElem.2 fun i j hi hj hij=>?_)
   have g1:=List.pairwise_iff_getElem.1 h2 i j hi hj hij
   have g2:=(List.mem_filter.1 (lx89 hi)).2
   have g3:=(List.mem_filter.1 (lx89 hj)).2
   simp only [lx86] at g2 g3
   exact ⟨by omega,fun _=>g1⟩
  ·have h1:=(Qm K n hK q a).1 ha
   have h2:=(List.mem_filter.1 hb).2
   simp only [lx86] at h2
   exact ⟨by omega,fun h=>by omega⟩
theorem KD {l:List Nat} {i:Nat} (h:i < l.length):l.getD i default=l[i]:=by
 rw [lx81,lx50 h]; rfl
theorem ZJ (K:Nat→Int) (n:Nat) (hK:∀ i,i < n→0≤K i∧K i≤99):LG K (List.range n) 0 n=UN K n 100:=by
 have hst:Stb K (List.range n):=fun i j h1 h2 _=>by
  rw [U2] at h2
  rw [Fl (by omega),Fl h2]; exact h1
 obtain ⟨g1,g2,g3⟩:=Afi (a:=0) (b:=n) hst (by simp)
 have hp:=Ao3 K n (fun i hi=>(hK i hi).2) 100
 have hm:∀ x,x ∈ UN K n 100↔x < n:=fun x=>by
  rw [Qm K n (fun i hi=>(hK i hi).2)]
  exact ⟨fun h=>h.1,fun h=>⟨h,by have:=hK x h; omega⟩⟩
 have hnd:(UN K n 100).Nodup:=hp.imp fun h e=>by
  subst e
  exact absurd (h.2 rfl) (Nat.lt_irrefl _)
 have hperm:(UN K n 100).Perm (List.range n):=(List.perm_ext_iff_of_nodup hnd List.nodup_range).2 fun a=>by rw [hm,Hr]
 have hlen:(UN K n 100).length=n:=by rw [hperm.length_eq,U2]
 have hidx:∀ x,x < n→∃ j,j < n∧(UN K n 100).getD j default=x:=fun x hx=>by
  obtain ⟨j,hj,e⟩:=lx69 ((hm x).2 hx)
  exact ⟨j,by omega,by rw [KD hj,e]⟩
 refine Bok (by rw [g1.len,U2]) hlen g2 ?_ g3 ?_ (fun i hi=>?_) (fun i hi=>?_)
 ·intro i j _ hij hj
  have:=List.pairwise_iff_getElem.1 hp i j (by omega) (by omega) hij
  rw [KD (by omega),KD (by omega)]; exact this.1
 ·intro i j hij hj
  have:=List.pairwise_iff_getElem.1 hp i j (by omega) hj hij
  rw [KD (by omega),KD hj]; exact this.2
 ·obtain ⟨j,_,hj,e⟩:=g1.frm i (Bq _) hi
  rw [Fl hj] at e
  obtain ⟨m,h1,h2⟩:=hidx j hj
  exact ⟨m,h1,by rw [e,h2]⟩
 ·have h:(UN K n 100).getD i default < n:=by
   rw [KD (by omega)]
   exact (hm _).1 (lx89 _)
  obtain ⟨j,_,hj,e⟩:=g1.to _ (Bq _) h
  rw [Fl h] at e
  exact ⟨j,hj,e⟩
theorem ZK {C:Ctx} (h:CtxOk C) (t:List Nat) (cnt:Nat) (ht:TagQ C t) (hn:C.n < 20):
  HSpec Tryz.prog 154 [daV C,kA .i64 C.n,cmV C] [blC C,blD C t] cnt (.tu []) [blC C,blD C (LG C.K t 0 C.n)] cnt:=by
 have E:=Bhk h t 0 C.n cnt ht (Bq _) (Av _)
 refine Ad (Af (lit:=false) (pm:=fun _=>none) .nil .nil .nil (.cons (Bap h) .nil)) rfl Tryz.func154 rfl (by decide) (by kernel_rfl) ?_
 simp only [Tryz.f154,Ae,lx52,lx63,Nat.reduceAdd,Nat.reduceSub,List.replicate]
 obtain ⟨RES,hRES⟩:∃ u,LG C.K t 0 C.n=u:=⟨_,rfl⟩
 rw [hRES] at E ⊢
 obtain ⟨r,n,K,v,v0,ty0,es0,els0,fc⟩:=C
 simp only at hn
 simp only [blC,blD,daV,cmV,AL,Int.natCast_zero] at E ⊢
 have h1:decide ((20:Int)≤(n:Int))=false:=L4
 have h2:decide ((20:Int) < (n:Int))=false:=L4
 refine Ac ?_
 refine qd9 ?_
 refine Az (σ:=Unit) (fun _ c=>⟨CW 0 63 [(0,.sl 1 v 0 n),(1,.sc (.int .i64 n)),(2,.fn 111 [.pt 0 v0 0 0]),(6,.sc (.int .i64 20)),(7,.sc (.int .i64 0)),(8,.sc (.int .i64 20))],[⟨true,v0,ty0,es0,els0,false⟩,⟨true,v,3,1,t.map (elF r),false⟩],cnt⟩)
  (fun _=>True) (fun _=>0) () trivial ?_ ?_ rfl ?_
 ·exact Gm
 ·exact Ajt
 rintro _ c - ih
 refine Ac ?_
 refine Cb ?_
 simp (maxSteps:=10000000) +contextual -implicitDefEqProofs only [AX,AT,St.put,Ds,↓reduceIte,B9,DO,hl,h1,E]
 refine Az (σ:=Unit) (fun _ c=>⟨CW 0 63 [(0,.sl 1 v 0 n),(1,.sc (.int .i64 n)),(2,.fn 111 [.pt 0 v0 0 0]),(6,.sc (.int .i64 20))],[⟨true,v0,ty0,es0,els0,false⟩,⟨true,v,3,1,RES.map (elF r),false⟩],cnt⟩)
  (fun _=>True) (fun _=>0) () trivial ?_ ?_ rfl ?_
 ·exact Gm
 ·exact Ajt
 rintro _ c' - ih'
 refine Ac ?_
 refine Cb ?_
 simp (maxSteps:=10000000) +contextual -implicitDefEqProofs only [AX,AT,St.put,↓reduceIte,B9,h2]
 all_goals first | exact .refl _ | rfl | trivial | omega | skip
 all_goals done
theorem Aih {C:Ctx} (h:CtxOk C) (t:List Nat) (cnt:Nat) (ht:TagQ C t) (hn:C.n < 20):
  HSpec Tryz.prog 110 [daV C,cmV C] [blC C,blD C t] cnt (.tu []) [blC C,blD C (LG C.K t 0 C.n)] cnt:=by
 obtain ⟨F,k,E⟩:=DU (ZK h t cnt ht hn)
 refine Ad (Af (lit:=false) (pm:=fun _=>none) .nil .nil .nil (.cons k .nil)) rfl Tryz.func110 rfl (by decide) (by kernel_rfl) ?_
 simp only [Tryz.f110,Ae,lx52,lx63,Nat.reduceAdd,Nat.reduceSub,List.replicate]
 obtain ⟨RES,hRES⟩:∃ u,LG C.K t 0 C.n=u:=⟨_,rfl⟩
 rw [hRES] at E ⊢
 obtain ⟨r,n,K,v,v0,ty0,es0,els0,fc⟩:=C
 simp only [blC,blD,daV,cmV,AL] at E ⊢
 refine Ac ?_
 simp (maxSteps:=10000000) +contextual -implicitDefEqProofs only [AX,AT,St.put,Ds,↓reduceIte,CS,B9,DO,hl,E]
 all_goals first | exact .refl _ | rfl | trivial | omega | skip
 all_goals done
def Gh (c:Cd) (i:Nat):Int:=c.pri.getD i default
def Ht (c:Cd):List Nat:=UN (Gh c) c.pri.length 100
def nI (i:Nat):AV:=kA .i64 (i:Int)
theorem ZL (i:Nat):nI i=.sc (.int .i64 (i:Int)):=rfl
theorem Aii (l:List Nat):Cu (l.map nI)=true:=IP (f:=nI) (fun _=>by simp [nI,kA,AV.fresh]) l
theorem Aij (l:List Nat):norefs (l.map nI)=true:=Co (f:=nI) (fun _=>by simp [nI,kA,AV.noref]) l
theorem Nk (l:List Nat):Bs 1 (l.map nI)=true:=BT (f:=nI) (fun _=>rfl) l
def sgQ (p:Nat × Nat × Cd):Prop:=Fit p.2.2∧p.1 < p.2.2.pri.length∧p.2.1 < p.2.2.pri.length
noncomputable def f111:=EF sgQ (fun p=>[nI p.1,nI p.2.1,.vp [CI p.2.2] 0 0]) (fun p=>kA .i64 (Gg (Gh p.2.2 p.2.1) (Gh p.2.2 p.1)))
theorem Bol (c:Cd) (x y:Nat) (h:Fit c) (hx:x < c.pri.length) (hy:y < c.pri.length):f111 [nI x,nI y,.vp [CI c] 0 0]=some (.sc (.int .i64 (Gg (Gh c y) (Gh c x)))):=
 (AK (q:=sgQ) (enc:=fun p=>[nI p.1,nI p.2.1,.vp [CI p.2.2] 0 0]) (out:=fun p=>kA .i64 (Gg (Gh p.2.2 p.2.1) (Gh p.2.2 p.1))) (x,y,c) ⟨h,hx,hy⟩ (by
  rintro ⟨a,b,d⟩ h
  simp only [lx94,AV.vp.injEq,AW,C5] at h
  rw [Wl h.1,Wl h.2.1,Dn h.2.2]) :)
theorem Bhl:DC Tryz.prog 111 f111:=AN <| by
 rintro ⟨x,y,c⟩ ⟨hq,hx,hy⟩
 simp only at hq hx hy ⊢
 have h1:decide ((x:Int) < (c.pri.length:Int))=true:=Au
 have h2:decide ((y:Int) < (c.pri.length:Int))=true:=Au
 have h3:decide (x < c.pri.length)=true:=Au
 have h4:decide (y < c.pri.length)=true:=Au
 have hkx:c.pri.getD x default=Gh c x:=rfl
 have hky:c.pri.getD y default=Gh c y:=rfl
 refine Ab (AF ((.cons Ax1 .nil)) (.nil)) rfl Tryz.func111 rfl (by decide) (by kernel_rfl) (by kernel_rfl) ?_
 simp only [Tryz.f111,Ae,lx52,lx63,Nat.reduceAdd,Nat.reduceSub,List.replicate]
 refine Ac ?_
 exact SP (a8 h1 h2 h3 h4 hkx hky @ZL @Bhb)
 repeat' (first | exact Aa (by kernel_rfl) | refine ⟨Aa (by kernel_rfl),?_⟩ | refine And.intro ?_ ?_ | fail)
 all_goals done
noncomputable def Ao4 (c:Cd) (v:Nat):Ctx:=⟨fun i=>(i:Int),c.pri.length,Gh c,v,0,36,7,[CI c],f111⟩
theorem At2 {c:Cd} (h:Fit c) (v:Nat):CtxOk (Ao4 c v) where
 hc:=Bhl
 he x y hx hy:=Bol c x y h hx hy
 inj x y _ _ h:=by
  simp only [elF,Ao4,AV.sc.injEq,Value.int.injEq,C5] at h
  omega
 n:=Qv h.pri (by decide)
theorem Wm {c:Cd} (h:AY c=0) {i:Nat} (hi:i < c.pri.length):0≤Gh c i∧Gh c i≤99:=by
 have:=(Iw h).2.1
 rw [Jp,Jt,Ju] at this
 have h1:=this.1
 simp only [Abr,Ju] at h1
 have h2:=lx95.1 h1.1.1.2 _ (DJ hi)
 simp only [prB,Hw,Ow] at h2
 exact Fx.1 h2
theorem At3 {K:Nat→Int} {n:Nat} (hK:∀ i,i < n→0≤K i∧K i≤99):(UN K n 100).length=n:=by
 have hst:Stb K (List.range n):=fun i j h1 h2 _=>by
  rw [U2] at h2
  rw [Fl (by omega),Fl h2]; exact h1
 have g1:=(Afi (a:=0) (b:=n) hst (by simp)).1.len
 rw [ZJ K n hK,U2] at g1
 exact g1
theorem Su {c:Cd} (h:AY c=0):(Ht c).length=c.pri.length:=At3 fun i hi=>Wm h hi
theorem Ag1 {c:Cd} (h:AY c=0) {x:Nat} (hx:x ∈ Ht c):x < c.pri.length:=((Qm (Gh c) c.pri.length (fun i hi=>(Wm h hi).2) 100 x).1 hx).1
theorem ZM (c:Cd) (hq:Fit c) (h:AY c=0):C4 Tryz.prog 71 [CI c] (.vw false ((Ht c).map nI)):=by
 have hlm:=CK h
 have hR:LG (Gh c) (List.range c.pri.length) 0 c.pri.length=Ht c:=ZJ _ _ fun i hi=>Wm h hi
 have hln:=Su h
 obtain ⟨F,k110,E⟩:∃ F,Jo Tryz.prog 110 F∧∀ v cnt,F [.sl 1 v 0 c.pri.length,.fn 111 [.pt 0 0 0 0]] [⟨true,0,36,7,[CI c],false⟩,⟨true,v,3,1,(List.range c.pri.length).map nI,false⟩] cnt=some (.tu [],[⟨true,0,36,7,[CI c],false⟩,⟨true,v,3,1,(Ht c).map nI,false⟩],cnt):=by
  refine ⟨mkH (fun _:Nat × Nat=>True) (fun p=>([.sl 1 p.1 0 c.pri.length,.fn 111 [.pt 0 0 0 0]],[⟨true,0,36,7,[CI c],false⟩,⟨true,p.1,3,1,(List.range c.pri.length).map nI,false⟩],p.2)) (fun p=>(.tu [],[⟨true,0,36,7,[CI c],false⟩,⟨true,p.1,3,1,(Ht c).map nI,false⟩],p.2)),IU ?_,fun v cnt=>?_⟩
  ·rintro ⟨v,cnt⟩ -
   have:=Aih (At2 hq v) (List.range c.pri.length) cnt ⟨by simp [Ao4],fun i hi=>by
    have hi:i < c.pri.length:=hi
    rw [Fl hi]; exact hi⟩ (by simp only [Ao4]; omega)
   simp only [Ao4,daV,cmV,blC,blD,hR] at this
   exact this
  ·exact IT (q:=fun _:Nat × Nat=>True) (enc:=fun p=>([.sl 1 p.1 0 c.pri.length,.fn 111 [.pt 0 0 0 0]],[⟨true,0,36,7,[CI c],false⟩,⟨true,p.1,3,1,(List.range c.pri.length).map nI,false⟩],p.2)) (out:=fun p=>(.tu [],[⟨true,0,36,7,[CI c],false⟩,⟨true,p.1,3,1,(Ht c).map nI,false⟩],p.2)) (v,cnt) trivial (by
    rintro ⟨v',cnt'⟩ - h
    simp only [lx40,lx94,AV.sl.injEq,AW,C5] at h
    rw [h.1,h.2.2])
 refine EU (Af (lit:=false) (pm:=fun _=>none) .nil .nil .nil (.cons k110 .nil)) rfl Tryz.func71 rfl (by decide) (by kernel_rfl) (by simp [AV.noref,Aij]) ?_
 simp only [Tryz.f71,Ae,lx52,lx63,Nat.reduceAdd,Nat.reduceSub,List.replicate]
 refine Ac ?_
 refine gC0 ?_
 refine AB (T':=CW 0 20 [(1,.pt 0 0 0 0),(3,.vw true []),(7,.sc (.int .i64 c.pri.length)),(8,.sc (.int .i64 ((0:Nat):Int)))]) ?_ (Aq _) (Av _) ?_
 ·exact Gm
 refine HX (T':=CW 0 20 [(1,.pt 0 0 0 0),(3,.sl 1 1 0 0),(7,.sc (.int .i64 c.pri.length)),(8,.sc (.int .i64 ((0:Nat):Int)))]) 1 3 1 2 (by omega) (by omega) ?_ (M7 _ _ _) ?_
 ·refine Cb ?_
  simp only [Zl,Afd,Zm,Afe,and_self,AW,lx52,lx63,Nat.reduceAdd]
 refine Ak0 ?_
 refine Az (σ:=Nat × Nat) (fun y cnt=>⟨CW 0 20 [(1,.pt 0 0 0 0),(3,.sl 1 y.2 0 y.1),(7,.sc (.int .i64 c.pri.length)),(8,.sc (.int .i64 y.1))],[⟨true,0,36,7,[CI c],false⟩,⟨true,y.2,3,1,(List.range y.1).map nI,false⟩],cnt⟩)
  (fun y=>y.1≤c.pri.length) (fun y=>c.pri.length - y.1) (0,1) (Bq _) (Fj _) ?_ rfl ?_
 ·simp (maxSteps:=10000000) only [AX,AT,Ai,List.range_zero]
 rintro ⟨k,v⟩ cnt hk ih
 simp only at hk
 by_cases hk':k < c.pri.length
 ·have h1:decide ((k:Int) < (c.pri.length:Int))=true:=by rw [Bw]; omega
  have w1:IntKind.i64.wrap ((k:Int)+1)=((k+1:Nat):Int):=CT
  have hsz:decide ((k+1) * 8≤140737488355328)=true:=Au
  have ht:List.take k ((List.range k).map nI)=(List.range k).map nI:=lx12 (by simp)
  have ha:(List.range k).map nI++[AV.sc (.int .i64 (k:Int))]=(List.range (k+1)).map nI:=by rw [List.range_succ,lx10]; rfl
  have ih:=fun v c=>ih (k+1,v) c (by simp only; omega) (by simp only; omega)
  simp only at ih
  refine Ac ?_
  refine Cb ?_
  refine gC1 (a5 h1 w1 hsz ht ha) ?_
  refine AB ?_ ?_ (Av _) (ih (cnt+1) _)
  all_goals exact qc7
 obtain rfl:k=c.pri.length:=An
 have h1:decide ((c.pri.length:Int) < (c.pri.length:Int))=false:=AZ
 have E:=E v cnt
 simp only [Ai] at E
 have ht:List.take c.pri.length ((Ht c).map nI)=(Ht c).map nI:=lx12 (by simp [hln])
 clear ih
 refine Ac ?_
 refine Cb ?_
 refine gC1 (a3 h1 E ht) ?_
 all_goals first | (simp [AV.freshIn,Hb,AJ,Cu,AV.fresh,Aii]; done) | skip
 all_goals done
noncomputable def hF (P:Program) (g:Nat) (D:List AV→List Blk→Nat→AV→List Blk→Nat→Prop) (args:List AV) (H:List Blk) (cnt:Nat):Option (AV × List Blk × Nat):=
 open Classical in if h:∃ p:AV × List Blk × Nat,HSpec P g args H cnt p.1 p.2.1 p.2.2∧D args H cnt p.1 p.2.1 p.2.2 then some h.choose else none
theorem Ee (P:Program) (g:Nat) (D:List AV→List Blk→Nat→AV→List Blk→Nat→Prop):Jo P g (hF P g D):=by
 intro args H cnt r H' cnt' h
 unfold hF at h
 split at h
 ·rename_i hx
  have h2:=hx.choose_spec.1
  injection h with h
  rw [h] at h2
  exact h2
 ·cases h
theorem O7 {P:Program} {g:Nat} {D:List AV→List Blk→Nat→AV→List Blk→Nat→Prop} {args:List AV} {H:List Blk} {cnt:Nat} {r:AV} {H':List Blk} {cnt':Nat} (h:HSpec P g args H cnt r H' cnt') (hd:D args H cnt r H' cnt'):
  ∃ r H' cnt',hF P g D args H cnt=some (r,H',cnt')∧D args H cnt r H' cnt':=by
 have hx:∃ p:AV × List Blk × Nat,HSpec P g args H cnt p.1 p.2.1 p.2.2∧D args H cnt p.1 p.2.1 p.2.2:=⟨(r,H',cnt'),h,hd⟩
 refine ⟨hx.choose.1,hx.choose.2.1,hx.choose.2.2,?_,hx.choose_spec.2⟩
 unfold hF
 rw [dif_pos hx]
def uA (x:Nat):AV:=.sc (.int .u8 (x:Int))
theorem ZN (l:List Nat):Bs 1 (l.map uA)=true:=BT (f:=uA) (fun _=>rfl) l
structure Tp where
 z:Bool
 l:List Nat
 v:Nat
structure TpOk (t:Tp):Prop where
 u:∀ i,t.l.getD i default < 256
 len:t.l.length≤200
def LZ (t:Tp) (a n:Nat):Nat:=if a < t.l.length then t.l.getD a default % n else 0
def Od (t:Tp) (a:Nat):Nat:=if a < t.l.length then a+1 else a
def Bom (i:Nat):Int:=[0,1,2,3,-1,7,1000,2147483647,-2147483647,65536].getD i 0
def Ax5 (t:Tp) (k a:Nat):In:=
 if k=1 then ⟨2,LZ t a 3⟩ else if k=2 then ⟨4,LZ t a 64⟩ else if k=3 then ⟨5,LZ t a 2⟩ else if k=4 then ⟨6,LZ t a 2⟩ else if k=5 then ⟨7+(LZ t a 2:Nat),0⟩ else ⟨1,Bom (LZ t a 10)⟩
def Gi (t:Tp):Nat→Nat→List In × Nat
 | 0,a=>([Ax5 t (if 5 < LZ t a 9 then 0 else LZ t a 9) (Od t a)],Od t (Od t a))
 | d+1,a=>
  let k:=LZ t a 9
  let b:=Od t a
  if k=6 then let x:=Gi t d b; (x.1++[⟨9+(LZ t x.2 2:Nat),0⟩],Od t x.2)
  else if k=7∨k=8 then let x:=Gi t d b; let y:=Gi t d x.2; (x.1++y.1++[⟨11,12+(LZ t y.2 13:Nat)⟩],Od t y.2)
  else ([Ax5 t k b],Od t b)
theorem Kj (H0:List Blk) {A B:List Blk} (h:WkH H0 A B):∀ R:List Blk,WkH H0 (R++A) (R++B)
 | []=>h
 | x::R=>by
  rw [lx90,lx90,Cj]
  exact ⟨.inr (.inl rfl),Kj H0 h R⟩
theorem ZO (Q l:List Blk) (x:Blk):(Q++(x::l))[Q.length]?=some x:=AZ
theorem ZP (Q l:List Blk) (x y:Blk):(Q++(x::y::l))[Q.length+1]?=some y:=AZ
theorem Abz (Q l:List Blk) (x y z:Blk):(Q++(x::y::z::l))[Q.length+1+1]?=some z:=by
 rw [F0,lx62 (by omega),KW]; rfl
theorem Aik (Q l:List Blk) (x z:Blk):(Q++(x::l)).set Q.length z=Q++(z::l):=AZ
theorem Ail (Q l:List Blk) (x y z:Blk):(Q++(x::y::l)).set (Q.length+1) z=Q++(x::z::l):=by
 rw [List.set_append_right _ _ (by omega),KW]; rfl
theorem dl1 (Q:List Blk) (t x:Blk):(t::(Q++[x])).dropLast=t::Q:=by
 rw [←lx90,List.dropLast_concat]
theorem dl2 (Q:List Blk) (t x y:Blk):(t::(Q++[x,y])).dropLast=t::(Q++[x]):=by
 rw [show t::(Q++[x,y])=(t::(Q++[x]))++[y] by simp,List.dropLast_concat]
theorem dl3 (Q:List Blk) (t x y z:Blk):(t::(Q++[x,y,z])).dropLast=t::(Q++[x,y]):=by
 rw [show t::(Q++[x,y,z])=(t::(Q++[x,y]))++[z] by simp,List.dropLast_concat]
end Go.Proofs.YtdjpkhjaibdogaaGreat
namespace Go.Proofs.YtdjpkhjaibdogaaGreat
open Go Go.SX
theorem apK (Q l:List Blk) (n k:Nat) (h:n=Q.length+k):(Q++l)[n]?=l[k]?:=by subst h; simp [lx62]
theorem scK (Q l:List Blk) (t z:Blk) (n k:Nat) (h:n=Q.length+k+1):(t::(Q++l)).set n z=t::(Q++l.set k z):=by subst h; simp [List.set_append_right]
theorem glK (Q l m:List Blk) (t:Blk) (h:∃ x,l=m++[x]):(t::(Q++l)).dropLast=t::(Q++m):=by
 obtain ⟨x,rfl⟩:=h
 rw [←lx6,←lx90,List.dropLast_concat]
theorem ga0 (Q l:List Blk) (x0:Blk):(Q++(x0::l))[Q.length]?=some x0:=apK _ _ _ 0 (by omega)
theorem gs0 (Q l:List Blk) (t z x0:Blk):(t::(Q++(x0::l))).set (Q.length+1) z=t::(Q++(z::l)):=scK _ _ _ _ _ 0 (by omega)
theorem ga1 (Q l:List Blk) (x0 x1:Blk):(Q++(x0::x1::l))[Q.length+1]?=some x1:=apK _ _ _ 1 (by omega)
theorem gs1 (Q l:List Blk) (t z x0 x1:Blk):(t::(Q++(x0::x1::l))).set (Q.length+1+1) z=t::(Q++(x0::z::l)):=scK _ _ _ _ _ 1 (by omega)
theorem ga2 (Q l:List Blk) (x0 x1 x2:Blk):(Q++(x0::x1::x2::l))[Q.length+1+1]?=some x2:=apK _ _ _ 2 (by omega)
theorem gs2 (Q l:List Blk) (t z x0 x1 x2:Blk):(t::(Q++(x0::x1::x2::l))).set (Q.length+1+1+1) z=t::(Q++(x0::x1::z::l)):=scK _ _ _ _ _ 2 (by omega)
theorem ga3 (Q l:List Blk) (x0 x1 x2 x3:Blk):(Q++(x0::x1::x2::x3::l))[Q.length+1+1+1]?=some x3:=apK _ _ _ 3 (by omega)
theorem gs3 (Q l:List Blk) (t z x0 x1 x2 x3:Blk):(t::(Q++(x0::x1::x2::x3::l))).set (Q.length+1+1+1+1) z=t::(Q++(x0::x1::x2::z::l)):=scK _ _ _ _ _ 3 (by omega)
theorem ga4 (Q l:List Blk) (x0 x1 x2 x3 x4:Blk):(Q++(x0::x1::x2::x3::x4::l))[Q.length+1+1+1+1]?=some x4:=apK _ _ _ 4 (by omega)
theorem gl1 (Q:List Blk) (t x0:Blk):(t::(Q++[x0])).dropLast=t::(Q++[]):=glK _ _ _ _ (by simp)
theorem gl3 (Q:List Blk) (t x0 x1 x2:Blk):(t::(Q++[x0,x1,x2])).dropLast=t::(Q++[x0,x1]):=glK _ _ _ _ (by simp)
theorem gl5 (Q:List Blk) (t x0 x1 x2 x3 x4:Blk):(t::(Q++[x0,x1,x2,x3,x4])).dropLast=t::(Q++[x0,x1,x2,x3]):=glK _ _ _ _ (by simp)
theorem wkT (H0 R l:List Blk) (b:Blk):WkH H0 (b::(R++l)) (b::R):=Ci H0 l (b::R)
theorem lsA (b y:Blk) (l:List Blk):∀ R:List Blk,Cs (b::(R++(y::l)))=Cs (y::l)
 | []=>rfl
 | c::R=>by rw [lx90]; exact lsA c y l R
end Go.Proofs.YtdjpkhjaibdogaaGreat
namespace Go.Proofs.YtdjpkhjaibdogaaGreat
open Go Go.SX
attribute [local congr] ite_congr
def Ck (w:Nat) (r:Rd):Blk:=⟨true,w,173,7,[EG r],false⟩
theorem H5 (w:Nat) (r:Rd):Ck w r=⟨true,w,173,7,[.ag [.vw r.z (r.T.map Ey),.sc (.int .i64 r.en),.sc (.int .i64 (r.i:Int)),.sc (.int .i64 0),.sc (.int .i64 0),.sc (.int .i64 r.op),.sc (.int .i64 r.pa)]],false⟩:=rfl
theorem Ag3 {w w':Nat} {r r':Rd} {R R':List Blk} (h:Ck w r::R=Ck w' r'::R'):w=w'∧r=r'∧R=R':=by
 simp only [Ck,lx94,Blk.mk.injEq,AW,C5] at h
 obtain ⟨⟨rfl,h2⟩,rfl⟩:=h
 exact ⟨rfl,Afq h2,rfl⟩
def RdD {α:Type} (enc:α→List AV) (res:α→Rd→AV) (nx:α→Rd→Rd) (k:α→Rd→Nat) (args:List AV) (H:List Blk) (cnt:Nat) (a:AV) (H':List Blk) (cnt':Nat):Prop:=
 ∀ w r R x,args=.pt 0 w 0 0::enc x→H=Ck w r::R→a=res x r∧H'=Ck w (nx x r)::R∧cnt'=cnt+k x r
noncomputable def rdF (g:Nat) {α:Type} (enc:α→List AV) (res:α→Rd→AV) (nx:α→Rd→Rd) (k:α→Rd→Nat):=hF Tryz.prog g (RdD enc res nx k)
theorem Hl {g:Nat} {α:Type} {enc:α→List AV} {res:α→Rd→AV} {nx:α→Rd→Rd} {k:α→Rd→Nat} (hi:∀ x y,enc x=enc y→x=y) {w:Nat} {r:Rd} {R:List Blk} {x:α} {cnt:Nat}
  (h:HSpec Tryz.prog g (.pt 0 w 0 0::enc x) (Ck w r::R) cnt (res x r) (Ck w (nx x r)::R) (cnt+k x r)):rdF g enc res nx k (.pt 0 w 0 0::enc x) (Ck w r::R) cnt=some (res x r,Ck w (nx x r)::R,cnt+k x r):=by
 obtain ⟨a,H',c',g1,g2⟩:=O7 (D:=RdD enc res nx k) h (by
  intro w' r' R' x' a1 a2
  obtain ⟨rfl,rfl,rfl⟩:=Ag3 a2
  obtain rfl:=hi _ _ (List.cons.inj a1).2
  exact ⟨rfl,rfl,rfl⟩)
 obtain ⟨rfl,rfl,rfl⟩:=g2 w r R x rfl rfl
 exact g1
def Rd.up (r:Rd):Rd:={ r with i:=r.i+1 }
theorem Ao7 (x y:ByteArray) (h:[AV.sc (.string x)]=[AV.sc (.string y)]):x=y:=by simpa using h
theorem Iy (x y:Int) (h:[AV.sc (.int .i64 x)]=[AV.sc (.int .i64 y)]):x=y:=by simpa using h
theorem Bop (w:Nat) (r:Rd) (R:List Blk) (s:ByteArray) (cnt:Nat) (h:Nd r s=true) (hi:r.i < 1000000):HSpec Tryz.prog 181 [.pt 0 w 0 0,.sc (.string s)] (Ck w r::R) cnt (.tu []) (Ck w r.up::R) (cnt+0):=by
 have e1:=Sg r s
 rw [h,E4] at e1
 have w1:IntKind.i64.wrap ((r.i:Int)+1)=((r.i+1:Nat):Int):=B8
 refine Ad (Af (lit:=false) (pm:=fun _=>none) (.cons UF .nil) .nil .nil .nil) rfl Tryz.func181 rfl (by decide) (by kernel_rfl) ?_
 simp only [Tryz.f181,Ae,lx52,lx63,Nat.reduceAdd,Nat.reduceSub,List.replicate]
 refine Ac ?_
 simp (maxSteps:=10000000) +contextual -implicitDefEqProofs only [AX,AT,St.put,Am,Aj,Ds,pl,↓reduceIte,reduceCtorEq,Nat.reduceAdd,Nat.reduceLeDiff,Int.reduceLT,Nat.reduceLT,CS,Int.reduceAdd,B9,H5,e1,w1,Rd.up,Gl]
 repeat' (first | exact Aa (by kernel_rfl) | refine ⟨Aa (by kernel_rfl),?_⟩ | refine And.intro ?_ ?_ | fail)
 all_goals exact WM
noncomputable def f181:=rdF 181 (fun s:ByteArray=>[.sc (.string s)]) (fun _ _=>.tu []) (fun _ r=>r.up) (fun _ _=>0)
theorem UO:Jo Tryz.prog 181 f181:=Ee _ _ _
theorem Sv (w:Nat) (r:Rd) (R:List Blk) (s:ByteArray) (cnt:Nat) (h:Nd r s=true) (hi:r.i < 1000000):f181 [.pt 0 w 0 0,.sc (.string s)] (Ck w r::R) cnt=some (.tu [],Ck w r.up::R,cnt):=Hl Ao7 (Bop w r R s cnt h hi)
theorem Boq (w:Nat) (r:Rd) (R:List Blk) (k:Int) (cnt:Nat) (h:(nxt r).k=k) (hi:r.i < 1000000):HSpec Tryz.prog 180 [.pt 0 w 0 0,.sc (.int .i64 k)] (Ck w r::R) cnt (Ey (nxt r)) (Ck w r.up::R) (cnt+2):=by
 have e1:=Bgq r k
 have e2:=Ta r
 rw [h,E4,lx74] at e1
 rw [E4] at e2
 obtain ⟨t,ht⟩:∃ t,nxt r=t:=⟨_,rfl⟩
 rw [ht] at e2 ⊢
 have w1:IntKind.i64.wrap ((r.i:Int)+1)=((r.i+1:Nat):Int):=B8
 refine Ad (Af (lit:=false) (pm:=fun _=>none) (.cons Aws (.cons Nc .nil)) .nil .nil .nil) rfl Tryz.func180 rfl (by decide) (by kernel_rfl) ?_
 simp only [Tryz.f180,Ae,lx52,lx63,Nat.reduceAdd,Nat.reduceSub,List.replicate]
 refine Ac ?_
 simp (maxSteps:=10000000) +contextual -implicitDefEqProofs only [AX,AT,St.put,Am,Aj,Ds,pl,↓reduceIte,reduceCtorEq,Nat.reduceAdd,Nat.reduceLeDiff,Nat.reduceEqDiff,Int.reduceLT,Nat.reduceLT,CS,Se,Int.reduceAdd,B9,H5,e1,e2,w1,Rd.up,I7,lx6,lx7,ga0,gs0,ga1,gs1]
 repeat' (first | exact Aa (by kernel_rfl) | refine ⟨Aa (by kernel_rfl),?_⟩ | refine And.intro ?_ ?_ | fail)
 all_goals exact WM
noncomputable def f180:=rdF 180 (fun s:Int=>[.sc (.int .i64 s)]) (fun _ r=>Ey (nxt r)) (fun _ r=>r.up) (fun _ _=>2)
theorem Ax6:Jo Tryz.prog 180 f180:=Ee _ _ _
theorem Bhm (w:Nat) (r:Rd) (R:List Blk) (s:Int) (cnt:Nat) (h:(nxt r).k=s) (hi:r.i < 1000000):f180 [.pt 0 w 0 0,.sc (.int .i64 s)] (Ck w r::R) cnt=some (Ey (nxt r),Ck w r.up::R,cnt+2):=Hl Iy (Boq w r R s cnt h hi)
theorem Bor (w:Nat) (r:Rd) (R:List Blk) (cnt:Nat) (h:(nxt r).k=1) (hi:r.i < 1000000):HSpec Tryz.prog 179 [.pt 0 w 0 0] (Ck w r::R) cnt (.sc (.string (nxt r).tx)) (Ck w r.up::R) (cnt+2):=by
 have e1:=fun R cnt=>Bhm w r R 1 cnt h hi
 obtain ⟨t,ht⟩:∃ t,nxt r=t:=⟨_,rfl⟩
 obtain ⟨b,hb⟩:∃ b,Ck w r=b:=⟨_,rfl⟩
 obtain ⟨b',hb'⟩:∃ b,Ck w r.up=b:=⟨_,rfl⟩
 rw [ht] at e1 ⊢
 rw [hb,hb'] at e1 ⊢
 refine Ad (Af (lit:=false) (pm:=fun _=>none) .nil .nil .nil (.cons Ax6 .nil)) rfl Tryz.func179 rfl (by decide) (by kernel_rfl) ?_
 simp only [Tryz.f179,Ae,lx52,lx63,Nat.reduceAdd,Nat.reduceSub,List.replicate]
 refine Ac ?_
 exact Pd (a2 e1 @I7)
 repeat' (first | exact Aa (by kernel_rfl) | refine ⟨Aa (by kernel_rfl),?_⟩ | refine And.intro ?_ ?_ | fail)
 all_goals exact WM
noncomputable def f179:=rdF 179 (fun _:Unit=>[]) (fun _ r=>.sc (.string (nxt r).tx)) (fun _ r=>r.up) (fun _ _=>2)
theorem Ax7:Jo Tryz.prog 179 f179:=Ee _ _ _
theorem Bar (w:Nat) (r:Rd) (R:List Blk) (cnt:Nat) (h:(nxt r).k=1) (hi:r.i < 1000000):f179 [.pt 0 w 0 0] (Ck w r::R) cnt=some (.sc (.string (nxt r).tx),Ck w r.up::R,cnt+2):=Hl (x:=()) (fun _ _ _=>rfl) (Bor w r R cnt h hi)
end Go.Proofs.YtdjpkhjaibdogaaGreat
