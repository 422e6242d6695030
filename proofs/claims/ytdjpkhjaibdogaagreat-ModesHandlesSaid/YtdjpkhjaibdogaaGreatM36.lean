/-
  Lemmas towards ModesHandles (joined texts: FO, FP, FQ, FR, FS).
  Conditions: none.
-/
import Derived.Test.YtdjpkhjaibdogaaGreatM01
import Derived.Test.YtdjpkhjaibdogaaGreatM02
import Derived.Test.YtdjpkhjaibdogaaGreatM35
import Derived.Test.YtdjpkhjaibdogaaGreatM19
import Derived.Test.YtdjpkhjaibdogaaGreatM18
set_option linter.unusedSimpArgs false
set_option linter.unusedVariables false
set_option maxRecDepth 100000
set_option maxHeartbeats 8000000
namespace Go.Proofs.YtdjpkhjaibdogaaGreat
open Go Go.SX
attribute [local congr] ite_congr
theorem Gl {l m:List Int} (h:l.map (kA .i64)=m.map (kA .i64)):l=m:=D8 (f:=kA .i64) (fun _ _=>Bt) h
theorem Abs {c:Cd} {x:Cx} {r r':Ru} {w e p w' e' p':Nat} {R R':List Blk} (h:Ek c x r w e p R=Ek c x r' w' e' p' R'):r=r'∧w=w'∧e=e'∧p=p'∧R=R':=by
 obtain ⟨⟨zv,vars,zl,left,act,zm,lamps,fau⟩,ef,po⟩:=r
 obtain ⟨⟨zv',vars',zl',left',act',zm',lamps',fau'⟩,ef',po'⟩:=r'
 simp only [Ek,QZ,lx96,Blk.mk.injEq,AV.ag.injEq,AV.sl.injEq,AV.vw.injEq,AV.sc.injEq,Value.int.injEq,Az,Du] at h
 obtain ⟨⟨rfl,⟨rfl,g1⟩,⟨rfl,g2⟩,rfl,⟨rfl,g3⟩,rfl,_⟩,⟨rfl,g4⟩,⟨rfl,g5⟩,rfl⟩:=h
 obtain rfl:=Gl g1
 obtain rfl:=Gl g2
 obtain rfl:=Ie.1 g3
 obtain rfl:=KK.1 g4
 obtain rfl:=TZ.1 g5
 simp
def Bc3 (c:Cd) (x:Cx) (m:Int) (R:List Blk) (args:List AV) (H:List Blk) (cnt:Nat) (a:AV) (H':List Blk) (cnt':Nat):Prop:=
 ∀ (f:Ef) (r:Ru) (w e p:Nat),args=[.pt 0 w 0 0,.sc (.int .i64 m),C6 f]→H=Ek c x r w e p R→a=.tu []∧∃ e' p',H'=Ek c x (CH x m f r) w e' p' R
noncomputable def f200 (c:Cd) (x:Cx) (m:Int) (R:List Blk):=hF Tryz.prog 200 (Bc3 c x m R)
theorem Bc4 (c:Cd) (x:Cx) (m:Int) (R:List Blk):M8 Tryz.prog 200 (f200 c x m R):=JC _ _ _
theorem Bgx {c:Cd} {x:Cx} {m:Int} {f:Ef} {r:Ru} (h:AppQ m f r) (w e p:Nat) {R:List Blk} (hR:Xo R) (cnt:Nat):
  ∃ e' p' cnt',f200 c x m R [.pt 0 w 0 0,.sc (.int .i64 m),C6 f] (Ek c x r w e p R) cnt=some (.tu [],Ek c x (CH x m f r) w e' p' R,cnt'):=by
 obtain ⟨e',p',cnt',h1⟩:=Adw c x m f r h w e p R hR cnt
 obtain ⟨a,H',c',g1,g2⟩:=JD (D:=Bc3 c x m R) h1 (by
  intro f' r' w2 e2 p2 a1 a2
  simp only [lx96,Az,Du] at a1
  obtain ⟨_,a3⟩:=a1
  obtain rfl:=MC a3
  obtain ⟨rfl,rfl,rfl,rfl,_⟩:=Abs a2
  exact ⟨rfl,e',p',rfl⟩)
 obtain ⟨rfl,e3,p3,rfl⟩:=g2 f r w e p rfl rfl
 exact ⟨e3,p3,c',g1⟩
def Nv (r:Ru):Ru:={ r with s:={ r.s with fau:=min (r.s.fau+1) 2147483647 } }
theorem Xp (c:Cd) (x:Cx) (r:Ru) (hf:0≤r.s.fau∧r.s.fau≤2147483647) (w e p:Nat) (R:List Blk) (cnt:Nat):
  HSpec Tryz.prog 107 [.pt 0 w 0 0] (Ek c x r w e p R) cnt (.tu []) (Ek c x (Nv r) w e p R) cnt:=by
 obtain ⟨⟨zv,vars,zl,left,act,zm,lamps,fau⟩,ef,po⟩:=r
 simp only at hf
 have w1:IntKind.i64.wrap (fau+1)=fau+1:=Ba (by omega) (by omega)
 refine Ag (Aj (lit:=true) (pm:=fun _=>none) .nil .nil .nil .nil) rfl Tryz.func107 rfl (by decide) (by kernel_rfl) ?_
 simp only [Tryz.f107,Af,lx53,lx63,Nat.reduceAdd,Nat.reduceSub,List.replicate]
 simp only [Ek,QZ,Nv]
 refine Ab ?_
 refine It w1 ?_
 exact Aek
def Ub (l:List Ef) (r:Ru):Ru:={ r with ef:=r.ef++l }
def LI (l:List Int) (r:Ru):Ru:={ r with s:={ r.s with zv:=false,vars:=l } }
def appL (x:Cx) (m:Int) (l:List Ef) (r:Ru):Ru:=l.foldl (fun r f=>CH x m f r) r
def LJ (x:Cx) (m:Int) (r:Ru):Option (List Int × List Ef × Nat)→Ru × Bool
 | none=>(Nv r,false)
 | some y=>(Ub y.2.1 (appL x m y.2.1 (LI y.1 r)),y.2.1.any (fun f=>f.k == 30))
def C0 (c:Cd) (x:Cx) (m:Int) (ev:Ev) (r:Ru):Ru × Bool:=
 match Ea c m ev.tr ev.ix with
 | none=>(r,false)
 | some en=>LJ x m r (Gk c (C2 r.s x) en.pc)
structure OneQ (c:Cd) (x:Cx) (m:Int) (ev:Ev) (r:Ru):Prop where
 fit:Fit c
 fau:0≤r.s.fau∧r.s.fau≤2147483647
 len:r.ef.length≤1000000
 exe:∀ en,Ea c m ev.tr ev.ix=some en→ExeQ c (C2 r.s x) en.pc
 app:∀ en,Ea c m ev.tr ev.ix=some en→∀ y,Gk c (C2 r.s x) en.pc=some y→y.2.1.length≤256∧∀ i,(h:i < y.2.1.length)→AppQ m (y.2.1[i]) (appL x m (y.2.1.take i) (LI y.1 r))
theorem Anf (c:Cd) (x:Cx) (m:Int) (ev:Ev) (r:Ru) (h:OneQ c x m ev r) (hn:Ea c m ev.tr ev.ix=none) (w e p:Nat) (R:List Blk) (cnt:Nat):
  ∃ cnt',HSpec Tryz.prog 153 [.pt 0 w 0 0,.sc (.int .i64 m),CV ev] (Ek c x r w e p R) cnt (.sc (.bool false)) (Ek c x r w e p R) cnt':=by
 have E156:=Adj c h.fit m ev.tr ev.ix
 rw [hn] at E156
 simp only [Aa,AA] at E156
 obtain ⟨⟨zv,vars,zl,left,act,zm,lamps,fau⟩,ef,po⟩:=r
 obtain ⟨tr,ix,mo⟩:=ev
 refine ⟨cnt+1,?_⟩
 refine Ag (Aj (lit:=true) (pm:=fun _=>none) (.cons Aiv .nil) .nil .nil .nil) rfl Tryz.func153 rfl (by decide) (by kernel_rfl) ?_
 refine Asi ?_
 refine It (a3 E156 @Ca @Fw) ?_
 exact Aek
theorem YE (c:Cd) (x:Cx) (m:Int) (ev:Ev) (r:Ru) (h:OneQ c x m ev r) {en:En} (hn:Ea c m ev.tr ev.ix=some en) (hx:Gk c (C2 r.s x) en.pc=none) (w e p:Nat) (R:List Blk) (cnt:Nat):
  ∃ cnt',HSpec Tryz.prog 153 [.pt 0 w 0 0,.sc (.int .i64 m),CV ev] (Ek c x r w e p R) cnt (.sc (.bool false)) (Ek c x (Nv r) w e p R) cnt':=by
 have E156:=Adj c h.fit m ev.tr ev.ix
 have E157:=Aup c en.pc (C2 r.s x) (h.exe en hn)
 rw [hn] at E156
 rw [hx] at E157
 simp only [Aa,AA,AP,C2,JJ,pcO,lx34,lx10] at E156 E157
 obtain ⟨F107,k107,E107⟩:=Dz (Xp c x r h.fau w e p (R++[⟨true,cnt,46,3,[CV ev],false⟩,⟨true,cnt+1,104,6,[JA (C2 r.s x)],false⟩]) (cnt+1+1))
 obtain ⟨⟨zv,vars,zl,left,act,zm,lamps,fau⟩,ef,po⟩:=r
 obtain ⟨tr,ix,mo⟩:=ev
 simp only [Ek,QZ,AN,AP,C2] at E107
 refine ⟨cnt+1+1,?_⟩
 refine Ag (Aj (lit:=true) (pm:=fun _=>none) (.cons Aiv .nil) .nil (.cons Ars .nil) (.cons k107 .nil)) rfl Tryz.func153 rfl (by decide) (by kernel_rfl) ?_
 refine Asi ?_
 refine It (a7 E156 E157 E107 @Ca @Fw @IV @Nq) ?_
 exact Aek
def onT (w:Nat) (m:Int) (l:List Ef) (b:Bool) (i:Int):List AV:=Bm 0 115 [(0,.pt 0 w 0 0),(1,.sc (.int .i64 m)),(11,.vw false (l.map C6)),(14,.sc (.bool b)),(15,.sc (.int .i64 i))]
theorem SY {x:Cx} {m:Int} {l:List Ef} {i:Nat} (h:i < l.length) (r:Ru):appL x m (l.take (i+1)) r=CH x m (l[i]) (appL x m (l.take i) r):=by
 rw [appL,lx115 h,List.foldl_append]; rfl
theorem Xq {l:List Ef} {i:Nat} (h:i < l.length) (q:Ef→Bool):(l.take (i+1)).any q=((l.take i).any q || q l[i]):=by
 rw [lx115 h,List.any_append]; simp
theorem Ang (x:Cx) (m:Int) (f:Ef) (r:Ru):(CH x m f r).ef=r.ef:=by
 by_cases k21:f.k=21
 ·simp only [CH,k21,↓reduceIte]
 by_cases k22:f.k=22
 ·simp only [CH,k22,Int.reduceEq,↓reduceIte]
 by_cases k23:f.k=23
 ·cases hz:BV r.s.act f.a <;> simp only [CH,k23,hz,Int.reduceEq,Dt,↓reduceIte]
 by_cases k24:f.k=24
 ·cases hz:BV r.s.act f.a <;> simp only [CH,k24,hz,Int.reduceEq,Dt,↓reduceIte]
 by_cases k25:f.k=25
 ·simp only [CH,k25,Int.reduceEq,↓reduceIte]
 by_cases k19:f.k=19
 ·cases hz:BV r.s.act m <;> simp only [CH,El,k19,hz,Int.reduceEq,Dt,↓reduceIte]
 by_cases k20:f.k=20
 ·cases hz:BV r.s.act m <;> simp only [CH,El,k20,hz,Int.reduceEq,Dt,↓reduceIte]
 simp only [CH,k21,k22,k23,k24,k25,k19,k20,↓reduceIte]
theorem OQ (x:Cx) (m:Int):∀ (l:List Ef) (r:Ru),(appL x m l r).ef=r.ef
 | [],_=>rfl
 | f::l,r=>by
  have:=OQ x m l (CH x m f r)
  rw [Ang] at this
  exact this
theorem Uc {α:Type} (P:Nat→α→α→Prop) (n:Nat) (a0:α) (h:∀ i a,i < n→∃ b,P i a b):∃ V:Nat→α,V 0=a0∧∀ i,i < n→P i (V i) (V (i+1)):=by
 classical
 refine ⟨fun k=>Nat.rec a0 (fun i a=>if hi:i < n then Classical.choose (h i a hi) else a) k,rfl,fun i hi=>?_⟩
 simp only [dif_pos hi]
 exact lx95 (h i _ hi)
theorem Anh (c:Cd) (x:Cx) (m:Int) (ev:Ev) (r:Ru) (h:OneQ c x m ev r) {en:En} (hn:Ea c m ev.tr ev.ix=some en) {y:List Int × List Ef × Nat} (hx:Gk c (C2 r.s x) en.pc=some y) (w e p:Nat) (R:List Blk) (hR:Xo R) (cnt:Nat):
  ∃ e' p' cnt',HSpec Tryz.prog 153 [.pt 0 w 0 0,.sc (.int .i64 m),CV ev] (Ek c x r w e p R) cnt (.sc (.bool (LJ x m r (some y)).2)) (Ek c x (LJ x m r (some y)).1 w e' p' R) cnt':=by
 have E156:=Adj c h.fit m ev.tr ev.ix
 have E157:=Aup c en.pc (C2 r.s x) (h.exe en hn)
 rw [hn] at E156
 rw [hx] at E157
 obtain ⟨hle,ha⟩:=h.app en hn y hx
 simp only [Aa,AA,AP,C2,JJ,pcO,lx34,lx10] at E156 E157
 obtain ⟨⟨zv,vars,zl,left,act,zm,lamps,fau⟩,ef,po⟩:=r
 obtain ⟨tr,ix,mo⟩:=ev
 obtain ⟨va,l,st⟩:=y
 simp only at hle ha E157
 obtain ⟨R2,hR2⟩:∃ R2,R++[⟨true,cnt,46,3,[CV ⟨tr,ix,mo⟩],false⟩,⟨true,cnt+1,104,6,[JA (C2 ⟨zv,vars,zl,left,act,zm,lamps,fau⟩ x)],false⟩]=R2:=⟨_,rfl⟩
 have nR2:Xo R2:=fun b hb=>by
  rw [←hR2] at hb
  rcases lx76.1 hb with hb | hb
  ·exact hR b hb
  ·simp only [lx59,lx121,E8] at hb
   rcases hb with rfl | rfl <;> simp [CV,JA,kA,stA,AV.noref,norefs]
 obtain ⟨r0,IY⟩:∃ r0,LI va ⟨⟨zv,vars,zl,left,act,zm,lamps,fau⟩,ef,po⟩=r0:=⟨_,rfl⟩
 obtain ⟨V,hV0,hV⟩:=Uc (fun i (a b:Nat × Nat × Nat)=>∀ h:i < l.length,f200 c x m R2 [.pt 0 w 0 0,.sc (.int .i64 m),C6 l[i]] (Ek c x (appL x m (l.take i) r0) w a.1 a.2.1 R2) a.2.2=
   some (.tu [],Ek c x (CH x m l[i] (appL x m (l.take i) r0)) w b.1 b.2.1 R2,b.2.2)) l.length (e,p,cnt+1+1) (fun i a hi=>by
  obtain ⟨e2,p2,c2,x1⟩:=Bgx (c:=c) (x:=x) (ha i hi) w a.1 a.2.1 nR2 a.2.2
  rw [IY] at x1
  exact ⟨(e2,p2,c2),fun _=>x1⟩)
 refine ⟨(V l.length).2.2,(V l.length).2.1,(V l.length).2.2+1,?_⟩
 have hr1:LJ x m ⟨⟨zv,vars,zl,left,act,zm,lamps,fau⟩,ef,po⟩ (some (va,l,st))=(Ub l (appL x m l r0),l.any (fun f=>f.k == 30)):=by rw [←IY]; rfl
 rw [hr1]
 clear hr1
 refine Ag (Aj (lit:=true) (pm:=fun _=>none) (.cons Aiv .nil) .nil (.cons Ars .nil) (.cons (Bc4 c x m R2) .nil)) rfl Tryz.func153 rfl (by decide) (by kernel_rfl) ?_
 refine Asi ?_
 refine It (a6 E156 E157 @Ca @Fw @IV @Nq) ?_
 repeat' (first | exact Ac (by kernel_rfl) | refine ⟨Ac (by kernel_rfl),?_⟩ | refine And.intro ?_ ?_ | fail)
 refine Av (T':=onT w m l false 0) (H':=Ek c x r0 w e p R2) ?_ ?_ (Aw _) ?_
 ·simp (maxSteps:=10000000) only [AX,AW,↓reduceIte,reduceCtorEq,Nat.reduceAdd,Nat.reduceEqDiff,Bm,D2,onT]
 ·subst IY; subst hR2; simp only [Ek,QZ,LI,AN,AP,C2,AA]; exact AM _
 refine Am (σ:=Nat) (fun i _=>⟨onT w m l ((l.take i).any (fun f=>f.k == 30)) i,Ek c x (appL x m (l.take i) r0) w (V i).1 (V i).2.1 R2,(V i).2.2⟩)
  (fun i=>i≤l.length) (fun i=>l.length - i) 0 (BT _) (CT _) (by rw [hV0]; exact AM _) (by rw [hV0]) ?_
 intro i c1 hi ih
 try simp only at hi ih ⊢
 by_cases hlt:i < l.length
 ·have x1:=hV i hlt hlt
  have ih2:=ih (i+1) 0 (by omega) (by omega)
  clear ih hV
  simp only [SY hlt,Xq hlt] at ih2
  generalize (List.take i l).any (fun f=>f.k == 30)=b at ih2 ⊢
  generalize Ek c x (appL x m (l.take i) r0) w (V i).1 (V i).2.1 R2=H1 at x1 ⊢
  generalize Ek c x (CH x m l[i] (appL x m (l.take i) r0)) w (V (i+1)).1 (V (i+1)).2.1 R2=H2 at x1 ih2
  generalize (V i).2.2=c3 at x1 ⊢
  generalize (V (i+1)).2.2=c2 at x1 ih2
  have hlt':decide ((i:Int) < ((l.length:Nat):Int))=true:=Ae
  have h2:decide (i < l.length)=true:=Ae
  have hg:l.getD i default=l[i]:=by simp [List.getD,hlt]
  generalize l[i]=f at x1 ih2 hg
  obtain ⟨k,a1,a2,a3,t⟩:=f
  have w1:IntKind.i64.wrap ((i:Int)+1)=((i+1:Nat):Int):=Ay
  simp only [Dx] at x1
  refine Ab ?_
  simp only [onT]
  refine BJ ?_
  cases b
  all_goals
   refine It (a6 hlt' h2 hg x1 w1 @Hq) ?_
   repeat' (first | exact Ac (by kernel_rfl) | refine ⟨Ac (by kernel_rfl),?_⟩ | refine And.intro ?_ ?_ | fail)
   refine Av ?_ (AM _) (Aw _) ih2
   simp (maxSteps:=10000000) only [AX,AW,↓reduceIte,reduceCtorEq,Nat.reduceAdd,Nat.reduceEqDiff,Bm,D2,onT]
   all_goals done
 ·obtain rfl:i=l.length:=by omega
  clear ih hV
  have hlt':decide ((l.length:Int) < ((l.length:Nat):Int))=false:=Bc
  rw [lx74]
  have hef:(appL x m l r0).ef=ef:=by rw [OQ,←IY]; rfl
  have hlen:=h.len
  simp only at hlen
  generalize appL x m l r0=r1 at hef
  obtain ⟨⟨zv',vars',zl',left',act',zm',lamps',fau'⟩,ef',po'⟩:=r1
  simp only at hef
  subst hef
  have tef:(ef'.map C6).take ef'.length=ef'.map C6:=lx118 (by simp)
  have hsz:decide ((ef'.length+l.length) * 48≤140737488355328)=true:=Ae
  subst hR2
  generalize (V l.length).2.2=c3
  generalize (V l.length).2.1=p3
  generalize (V l.length).1=e3
  simp only [Ek,QZ,Ub]
  refine Ab ?_
  simp only [onT]
  refine BJ ?_
  refine It (a5 hlt' hsz tef @Hq @Jl) ?_
  exact Aek
theorem Adx (c:Cd) (x:Cx) (m:Int) (ev:Ev) (r:Ru) (h:OneQ c x m ev r) (w e p:Nat) (R:List Blk) (hR:Xo R) (cnt:Nat):
  ∃ e' p' cnt',HSpec Tryz.prog 153 [.pt 0 w 0 0,.sc (.int .i64 m),CV ev] (Ek c x r w e p R) cnt (.sc (.bool (C0 c x m ev r).2)) (Ek c x (C0 c x m ev r).1 w e' p' R) cnt':=by
 cases hn:Ea c m ev.tr ev.ix with
 | none=>
  have hr:C0 c x m ev r=(r,false):=by rw [C0,hn]
  rw [hr]
  obtain ⟨c',h1⟩:=Anf c x m ev r h hn w e p R cnt
  exact ⟨e,p,c',h1⟩
 | some en=>
  have hr:C0 c x m ev r=LJ x m r (Gk c (C2 r.s x) en.pc):=by rw [C0,hn]
  rw [hr]
  cases hx:Gk c (C2 r.s x) en.pc with
  | none=>
   obtain ⟨c',h1⟩:=YE c x m ev r h hn hx w e p R cnt
   exact ⟨e,p,c',h1⟩
  | some y=>exact Anh c x m ev r h hn hx w e p R hR cnt
end Go.Proofs.YtdjpkhjaibdogaaGreat
namespace Go.Proofs.YtdjpkhjaibdogaaGreat
open Go Go.SX
theorem YF {a b:Nat} (ha:a < 2 ^ 32) (hb:b < 2 ^ 32):EO .and .u32 a b=((a &&& b:Nat):Int):=by
 have h1:(BitVec.ofInt 32 (a:Int)).toNat=a:=TN 32 a ha
 have h2:(BitVec.ofInt 32 (b:Int)).toNat=b:=TN 32 b hb
 have h3:a &&& b < 2 ^ 32:=Nat.and_lt_two_pow a hb
 have:EO .and .u32 a b=IntKind.u32.wrap (((BitVec.ofInt 32 (a:Int)) &&& (BitVec.ofInt 32 (b:Int))).toNat:Int):=rfl
 rw [this,BitVec.toNat_and,h1,h2,Kv (by omega) (by omega)]
theorem Ady {a b:Nat} (ha:a < 2 ^ 32) (hb:b < 2 ^ 32):EO .or .u32 a b=((a ||| b:Nat):Int):=by
 have h1:(BitVec.ofInt 32 (a:Int)).toNat=a:=TN 32 a ha
 have h2:(BitVec.ofInt 32 (b:Int)).toNat=b:=TN 32 b hb
 have h3:a ||| b < 2 ^ 32:=Nat.or_lt_two_pow ha hb
 have:EO .or .u32 a b=IntKind.u32.wrap (((BitVec.ofInt 32 (a:Int)) ||| (BitVec.ofInt 32 (b:Int))).toNat:Int):=rfl
 rw [this,BitVec.toNat_or,h1,h2,Kv (by omega) (by omega)]
def Adz (a b:Nat):Nat:=(BitVec.ofNat 32 a &&& ~~~ BitVec.ofNat 32 b).toNat
theorem YG (a b:Nat):EO .andNot .u32 a b=((Adz a b:Nat):Int):=by
 have:EO .andNot .u32 a b=IntKind.u32.wrap (((BitVec.ofInt 32 (a:Int)) &&& ~~~ (BitVec.ofInt 32 (b:Int))).toNat:Int):=rfl
 rw [this,BitVec.ofInt_natCast,BitVec.ofInt_natCast,Kv (by omega) (by
  have:=(BitVec.ofNat 32 a &&& ~~~ BitVec.ofNat 32 b).isLt
  omega)]
 rfl
theorem Ajb {n:Nat} (hn:n < 32):M5 .u32 1 n=((2 ^ n:Nat):Int):=by
 have e:min ((n:Int).toNat) (IntKind.bits .u32)=n:=by
  have:IntKind.bits .u32=32:=rfl
  rw [this]; omega
 have hp:2 ^ n < 2 ^ 32:=Nat.pow_lt_pow_right (by decide) hn
 have e2:(1:Int) * 2 ^ n=((2 ^ n:Nat):Int):=Bc
 rw [M5,e,e2]
 exact Kv (MS _) (Int.lt_of_lt_of_le (Int.ofNat_lt.2 hp) (by decide))
theorem Ajc {a n:Nat} (hn:n < 32):ID .u32 a n=((a >>> n:Nat):Int):=by
 have e:min ((n:Int).toNat) (IntKind.bits .u32)=n:=by
  have:IntKind.bits .u32=32:=rfl
  rw [this]; omega
 have e2:(2:Int) ^ n=((2 ^ n:Nat):Int):=Bc
 rw [ID,e,e2,Int.fdiv_eq_ediv_of_nonneg _ (MS _),Nat.shiftRight_eq_div_pow]
 rfl
theorem Ani {a n:Nat} (ha:a < 2 ^ 32) (hn:n < 32):BV a n=a.testBit n:=by
 have h1:a >>> n < 2 ^ 32:=by rw [Nat.shiftRight_eq_div_pow]; exact Nat.lt_of_le_of_lt (Nat.div_le_self _ _) ha
 rw [BV,Ajc hn]
 have:EO .and .u32 ((a >>> n:Nat):Int) ((1:Nat):Int)=((a >>> n &&& 1:Nat):Int):=YF h1 (by omega)
 have e:((1:Nat):Int)=1:=rfl
 rw [e] at this
 rw [this,Nat.testBit]
 rw [Nat.and_comm 1,Nat.and_one_is_mod]
 have:=Rk (a >>> n)
 rcases this with h | h <;> rw [h] <;> rfl
theorem onN {a n:Nat} (ha:a < 2 ^ 32) (hn:n < 32):onB a n=((a ||| 2 ^ n:Nat):Int):=by
 rw [onB,Ajb hn,Ady ha (Nat.pow_lt_pow_right (by decide) hn)]
theorem Abt {a n:Nat} (hn:n < 32):Ua a n=((Adz a (2 ^ n):Nat):Int):=by
 rw [Ua,Ajb hn,YG]
theorem Ajd {a n m:Nat} (hn:n < 32) (hm:m < 32) (ha:a < 2 ^ 32):(Adz a (2 ^ n)).testBit m=(a.testBit m && !decide (n=m)):=by
 rw [Adz,←BitVec.getLsbD,BitVec.getLsbD_and,BitVec.getLsbD_not,BitVec.getLsbD_ofNat,BitVec.getLsbD_ofNat,Nat.testBit_two_pow]
 simp [hm]
theorem Abu (a b:Nat):Adz a b≤a:=by
 rw [Adz,BitVec.toNat_and]
 refine OU Nat.and_le_left ?_
 rw [BitVec.toNat_ofNat]
 exact Nat.mod_le _ _
theorem Aje {a:Int} {n:Nat} (hn:n≤16) (h:ID .u32 a n=0):∃ A:Nat,a=A∧A < 2 ^ n:=by
 have e:min ((n:Int).toNat) (IntKind.bits .u32)=n:=by
  have:IntKind.bits .u32=32:=rfl
  rw [this]; omega
 have e2:(2:Int) ^ n=((2 ^ n:Nat):Int):=Bc
 rw [ID,e,e2,Int.fdiv_eq_ediv_of_nonneg _ (MS _)] at h
 have hp:0 < 2 ^ n:=Nat.pow_pos (by decide)
 have h1:=Int.mul_ediv_add_emod a ((2 ^ n:Nat):Int)
 have h2:=Int.emod_nonneg a (b:=((2 ^ n:Nat):Int)) (by omega)
 have h3:=Int.emod_lt_of_pos a (b:=((2 ^ n:Nat):Int)) (by omega)
 rw [h,Int.mul_zero,Int.zero_add] at h1
 exact ⟨a.toNat,by omega,by omega⟩
theorem Ae0 {A n:Nat} (hn:n≤16) (h:A < 2 ^ n):ID .u32 (A:Int) n=0:=by
 rw [Ajc (by omega),Nat.shiftRight_eq_div_pow,Nat.div_eq_of_lt h]; rfl
def Eo (a b:Lo):Prop:=a.mo < b.mo∨a.mo=b.mo∧a.la < b.la
instance (a b:Lo):Decidable (Eo a b):=by unfold Eo; exact inferInstance
def Kp (a b:Lo):Prop:=a.mo=b.mo∧a.la=b.la
instance (a b:Lo):Decidable (Kp a b):=by unfold Kp; exact inferInstance
theorem Jr {a b d:Lo} (h:Eo a b) (h':Eo b d):Eo a d:=by unfold Eo at *; omega
theorem Art (a b:Lo):Eo a b∨Kp a b∨Eo b a:=by unfold Eo Kp; omega
def Kq (x:Lo):List Lo→List Lo
 | []=>[x]
 | y::l=>if Eo y x then y::Kq x l else if Kp y x then x::l else x::y::l
abbrev HP (l:List Lo):Prop:=l.Pairwise Eo
theorem Nw (x:Lo):∀ (l a:List Lo),(∀ y ∈ l,Eo x y)→l.foldl (Fy x) (a,true)=(a++l,true)
 | [],a,_=>by simp
 | y::l,a,h=>by
  have h1:=h y lx48
  have e:Fy x (a,true) y=(a++[y],true):=by
   unfold Eo at h1
   have:((y.mo != x.mo) || (y.la != x.la))=true:=by
    rw [Iu,bne_iff_ne,bne_iff_ne]; omega
   simp [Fy,this]
  rw [List.foldl_cons,e,Nw x l _ (fun z hz=>h z (lx49 _ hz))]
  simp
theorem SZ (x:Lo):∀ (l a:List Lo),HP l→
  (if (l.foldl (Fy x) (a,false)).2=true then (l.foldl (Fy x) (a,false)).1 else (l.foldl (Fy x) (a,false)).1++[x])=a++Kq x l
 | [],a,_=>by simp [Kq]
 | y::l,a,h=>by
  have h:=lx126.1 h
  obtain ⟨h1,h2⟩:=h
  rcases Art y x with h3 | h3 | h3
  ·have e:Fy x (a,false) y=(a++[y],false):=by
    unfold Eo at h3
    have g:((y.mo != x.mo) || (y.la != x.la))=true:=by
     rw [Iu,bne_iff_ne,bne_iff_ne]; omega
    have g2:(decide (x.mo < y.mo) || ((y.mo == x.mo) && decide (x.la≤y.la)))=false:=by
     rw [JL,Bz,YX,Bz,lx113]; omega
    simp [Fy,g,g2]
   rw [List.foldl_cons,e,SZ x l _ h2,Kq,if_pos h3]
   simp
  ·have h4:∀ z ∈ l,Eo x z:=fun z hz=>by
    have:=h1 z hz
    unfold Kp at h3; unfold Eo at *; omega
   have e:Fy x (a,false) y=(a++[x],true):=by
    unfold Kp at h3
    have g:((y.mo != x.mo) || (y.la != x.la))=false:=by
     rw [JL,bne_eq_false_iff_eq,bne_eq_false_iff_eq]; omega
    exact Awx
   have n3:¬ Eo y x:=by unfold Kp at h3; unfold Eo; omega
   rw [List.foldl_cons,e,Nw x l _ h4,Kq,if_neg n3,if_pos h3]
   simp
  ·have h4:∀ z ∈ l,Eo x z:=fun z hz=>Jr h3 (h1 z hz)
   have e:Fy x (a,false) y=(a++[x]++[y],true):=by
    unfold Eo at h3
    have g:((y.mo != x.mo) || (y.la != x.la))=true:=by
     rw [Iu,bne_iff_ne,bne_iff_ne]; omega
    exact Awx
   have n3:¬ Eo y x:=by unfold Eo at *; omega
   have n4:¬ Kp y x:=by unfold Kp; unfold Eo at h3; omega
   rw [List.foldl_cons,e,Nw x l _ h4,Kq,if_neg n3,if_neg n4]
   simp
theorem MI {l:List Lo} (h:HP l) (x:Lo):Xn l x=Kq x l:=by
 have:=SZ x l [] h
 rw [lx64] at this
 exact this
theorem Q1 {x:Lo}:∀ {l:List Lo} {y:Lo},y ∈ Kq x l→y=x∨y ∈ l
 | [],y,h=>by simp [Kq] at h; exact .inl h
 | z::l,y,h=>by
  rw [Kq] at h
  split at h
  ·rcases lx59.1 h with h | h
   ·exact .inr (h ▸ lx48)
   ·rcases Q1 h with h | h
    ·exact .inl h
    ·exact .inr (lx49 _ h)
  ·split at h
   ·rcases lx59.1 h with h | h
    ·exact .inl h
    ·exact .inr (lx49 _ h)
   ·rcases lx59.1 h with h | h
    ·exact .inl h
    ·exact .inr h
theorem Xr {x:Lo}:∀ {l:List Lo},HP l→HP (Kq x l)
 | [],_=>by simp [Kq]
 | y::l,h=>by
  have hh:=lx126.1 h
  obtain ⟨h1,h2⟩:=hh
  rw [Kq]
  split
  ·rename_i h3
   refine lx126.2 ⟨fun z hz=>?_,Xr h2⟩
   rcases Q1 hz with rfl | hz
   ·exact h3
   ·exact h1 z hz
  ·split
   ·rename_i h3
    refine lx126.2 ⟨fun z hz=>?_,h2⟩
    have:=h1 z hz
    unfold Kp at h3; unfold Eo at *; omega
   ·rename_i n3 n4
    have h3:Eo x y:=by
     rcases Art y x with h | h | h
     ·exact absurd h n3
     ·exact absurd h n4
     ·exact h
    refine lx126.2 ⟨fun z hz=>?_,h⟩
    rcases lx59.1 hz with rfl | hz
    ·exact h3
    ·exact Jr h3 (h1 z hz)
theorem Abv {lo hi:Int}:∀ {l:List Int},l.Pairwise (· < ·)→(∀ x ∈ l,lo≤x∧x < hi)→lo≤hi→(l.length:Int)≤hi - lo
 | [],_,_,h=>by simp; omega
 | x::l,h,hb,hle=>by
  have hh:=lx126.1 h
  have hx:=hb x lx48
  have:=Abv (lo:=x+1) (hi:=hi) hh.2 (fun y hy=>⟨by have:=hh.1 y hy; omega,(hb y (lx49 _ hy)).2⟩) (by omega)
  simp only [lx53]
  omega
theorem Anj {l:List Lo} (h:HP l) (hb:∀ o ∈ l,0≤o.mo∧o.mo < 16∧0≤o.la∧o.la < 64):l.length≤1024:=by
 have h1:(l.map fun o=>o.mo * 64+o.la).Pairwise (· < ·):=by
  rw [List.pairwise_map]
  refine List.Pairwise.imp_of_mem (fun {a b} ha hb' hab=>?_) h
  have:=hb a ha
  have:=hb b hb'
  unfold Eo at hab; omega
 have h2:=Abv (lo:=0) (hi:=1024) h1 (by
  intro x hx
  obtain ⟨o,ho,rfl⟩:=lx35.1 hx
  have:=hb o ho
  omega) (by decide)
 rw [lx58] at h2
 omega
structure EfI (c:Cd) (f:Ef):Prop where
 tim:f.k=21∨f.k=22→0≤f.a∧f.a < c.tim
 mod:f.k=23∨f.k=24→0≤f.a∧f.a < c.pri.length
 lam:f.k=19∨f.k=20→0≤f.a∧f.a < 64
theorem Ae1 (c:Cd) (v:Vn) (x:In) (m:Ms):∀ f ∈ (Au c v x m).ef,f ∈ m.ef∨(f.k=x.op∧(f.a=x.a∨x.op=29)):=by
 obtain ⟨op,a⟩:=x
 have put:∀ n (m:Ms),(Jm n m).ef=m.ef:=fun _ _=>rfl
 have pop:∀ (m:Ms),(HO m).ef=m.ef:=fun _=>rfl
 have eff:∀ x (m:Ms) f,f ∈ (Nr x m).ef→f ∈ m.ef∨f=x:=fun x m f hf=>by
  rcases lx76.1 hf with h | h
  ·exact .inl h
  ·exact .inr (lx70.1 h)
 intro f hf
 rcases DF op with (rfl | rfl | rfl | rfl | rfl | rfl | rfl | rfl | rfl | rfl | rfl | rfl | rfl | rfl | rfl | rfl | rfl | rfl | rfl | rfl | rfl | rfl | rfl | rfl | rfl | rfl | rfl | rfl | rfl | rfl | rfl) | hno
 rotate_right
 ·have g:∀ k:Int,1≤k→k≤31→(op=k)=False:=fun k h1 h2=>by have:=hno k h1 h2; simpa using this
  simp [Au,opS,g] at hf
  rcases eff _ _ f hf with h | h
  ·exact .inl h
  ·subst h; exact .inr ⟨rfl,.inl rfl⟩
 case inl.inr.inr.inr.inr.inr.inr.inr.inr.inr.inr.inr.inr.inl=>
  exact Apu
 case inl.inr.inr.inr.inr.inr.inr.inr.inr.inr.inr.inr.inr.inr.inl=>
  exact Apu
 all_goals
  simp only [Au,opS,Int.reduceEq,lx6,lx7,↓reduceIte,or_self,E8,false_or,or_true,true_or] at hf
  first
   | exact .inl hf
   | exact (eff _ _ f hf).elim .inl fun h=>by subst h; exact .inr ⟨rfl,by simp⟩
theorem Bc5 {c:Cd} {v:Vn} {m:Ms} (hv:Bf c=0) (h:MOk c m) (he:∀ f ∈ m.ef,EfI c f):∀ f ∈ (Au c v (AD c m.pc) m).ef,EfI c f:=by
 intro f hf
 rcases Ae1 c v _ m f hf with h1 | ⟨h1,h2⟩
 ·exact he f h1
 ·have hs:=fun hj=>Abm hv h hj
  generalize AD c m.pc=x at h1 h2 hs
  obtain ⟨op,a⟩:=x
  simp only at h1 h2 hs
  refine ⟨fun h3=>?_,fun h3=>?_,fun h3=>?_⟩
  ·exact Asg
  ·exact Asg
  ·exact Asg
theorem Ud {c:Cd} {v:Vn} (hv:Bf c=0) (he:EnvI c v):∀ (n:Nat) (m:Ms),(m.dn=false→MOk c m)→(∀ x ∈ m.va,ER x)→m.va.length=c.vars.length→(∀ f ∈ m.ef,EfI c f)→
  (∀ x ∈ (CX c v n m).1.va,ER x)∧(CX c v n m).1.va.length=c.vars.length∧∀ f ∈ (CX c v n m).1.ef,EfI c f
 | 0,m,_,h2,h3,h4=>⟨h2,h3,h4⟩
 | n+1,m,h1,h2,h3,h4=>by
  rw [CX]
  split
  ·exact ⟨h2,h3,h4⟩
  ·rename_i hs
   rw [not_or,Hs] at hs
   have hm:=h1 hs.1
   have h4':=Bc5 (v:=v) hv hm h4
   by_cases h31:(AD c m.pc).op=31
   ·have e:Au c v (AD c m.pc) m={ m with pc:=m.pc+1,dn:=true }:=by simp [Au,opS,h31]
    rw [e] at h4' ⊢
    exact Ud hv he n _ (fun h=>by cases h) h2 h3 h4'
   ·have hn:=QW hv he hm h31
    exact Ud hv he n _ (fun _=>hn) hn.va hn.vl h4'
theorem YH {c:Cd} {v:Vn} {at':Int} (h:ExeQ c v at') {y:List Int × List Ef × Nat} (hy:Gk c v at'=some y):
  (∀ x ∈ y.1,ER x)∧y.1.length=c.vars.length∧y.2.1.length≤256∧∀ f ∈ y.2.1,EfI c f:=by
 have hv:=Fe h.env
 obtain ⟨he,h2,h3⟩:=Xk h.env
 have hm:=YC h
 have key:=fun n=>Ud hv he n (Jo v at') (fun _=>hm) h2 h3 (fun f hf=>absurd hf (by simp [Jo]))
 obtain ⟨B,hB⟩:∃ B:Nat,B=1000:=⟨_,rfl⟩
 have hx:Gk c v at'=if (CX c v B (Jo v at')).1.dn=true∧(CX c v B (Jo v at')).1.ef.length≤256 then
  some ((CX c v B (Jo v at')).1.va,(CX c v B (Jo v at')).1.ef,(CX c v B (Jo v at')).2) else none:=by rw [hB]; rfl
 rw [hx] at hy
 have hk:=key B
 by_cases hc:(CX c v B (Jo v at')).1.dn=true∧(CX c v B (Jo v at')).1.ef.length≤256
 ·rw [if_pos hc] at hy
  cases hy
  exact ⟨hk.1,hk.2.1,hc.2,hk.2.2⟩
 ·rw [if_neg hc] at hy; cases hy
def LoI (c:Cd) (act:Int) (o:Lo):Prop:=(0≤o.mo∧o.mo < c.pri.length)∧BV act o.mo=true∧(0≤o.la∧o.la < 64)∧Ld o.se=true
def CxI (x:Cx):Prop:=(0≤x.ti∧x.ti≤1099511627776)∧(0≤x.pl'∧x.pl'≤2147483647)∧0≤x.ba∧x.ba≤2147483647
structure RuI (c:Cd) (x:Cx) (r:Ru):Prop where
 val:Bf c=0
 fit:Fit c
 cx:CxI x
 vl:r.s.vars.length=c.vars.length
 va:∀ y ∈ r.s.vars,ER y
 ll:(r.s.left.length:Int)=c.tim
 lf:∀ y ∈ r.s.left,0≤y∧y≤2147483647
 ac:∃ A:Nat,r.s.act=A∧A < 2 ^ c.pri.length
 fa:0≤r.s.fau∧r.s.fau≤2147483647
 lo:∀ o ∈ r.s.lamps,LoI c r.s.act o
 so:HP r.s.lamps
theorem Ajf {n:Nat} (hn:n≤16):2 ^ n < 2 ^ 32:=Nat.pow_lt_pow_right (by decide) (by omega)
theorem Aur {A n:Nat} (hA:A < 2 ^ n) (hn:n≤16) {a b:Int} (ha:0≤a∧a < n) (hb:0≤b∧b < n):BV (onB A a) b=(BV A b || decide (a=b)):=by
 obtain ⟨i,rfl⟩:=Gu ha.1
 obtain ⟨j,rfl⟩:=Gu hb.1
 have hA':A < 2 ^ 32:=Nat.lt_trans hA (Ajf hn)
 have hp:2 ^ i < 2 ^ 32:=Nat.pow_lt_pow_right (by decide) (by omega)
 rw [onN hA' (by omega),Ani (Nat.or_lt_two_pow hA' hp) (by omega),Ani hA' (by omega),Nat.testBit_or,Nat.testBit_two_pow]
 congr 1
 rw [decide_eq_decide]; omega
theorem Ank {A n:Nat} (hA:A < 2 ^ n) (hn:n≤16) {a b:Int} (ha:0≤a∧a < n) (hb:0≤b∧b < n):BV (Ua A a) b=(BV A b && !decide (a=b)):=by
 obtain ⟨i,rfl⟩:=Gu ha.1
 obtain ⟨j,rfl⟩:=Gu hb.1
 have hA':A < 2 ^ 32:=Nat.lt_trans hA (Ajf hn)
 rw [Abt (by omega),Ani (Nat.lt_of_le_of_lt (Abu _ _) hA') (by omega),Ani hA' (by omega),Ajd (by omega) (by omega) hA']
 congr 2
 rw [decide_eq_decide]; omega
theorem Bc6 {A n:Nat} (hA:A < 2 ^ n) (hn:n≤16) {a:Int} (ha:0≤a∧a < n):∃ B:Nat,onB A a=B∧B < 2 ^ n:=by
 obtain ⟨i,rfl⟩:=Gu ha.1
 exact ⟨_,onN (Nat.lt_trans hA (Ajf hn)) (by omega),Nat.or_lt_two_pow hA (Nat.pow_lt_pow_right (by decide) (by omega))⟩
theorem Aus {A n:Nat} (hA:A < 2 ^ n) (hn:n≤16) {a:Int} (ha:0≤a∧a < n):∃ B:Nat,Ua A a=B∧B < 2 ^ n:=by
 obtain ⟨i,rfl⟩:=Gu ha.1
 exact ⟨_,Abt (by omega),Nat.lt_of_le_of_lt (Abu _ _) hA⟩
theorem RuI.env {c:Cd} {x:Cx} {r:Ru} (h:RuI c x r):GH c (C2 r.s x)=true:=by
 obtain ⟨A,hA,hA2⟩:=h.ac
 have hl:=B9 h.val
 have hb:∀ lo n,lo≤n→n≤2147483647→De lo n=false:=fun lo n h1 h2=>by
  simp only [De,JL,Bz]; omega
 have hsh:ID .u32 r.s.act (c.pri.length:Int)=0:=by rw [hA]; exact Ae0 (by omega) hA2
 have ha:∀ (l:List Int) lo,(∀ y ∈ l,lo≤y∧y≤2147483647)→l.any (De lo)=false:=fun l lo hy=>by
  rw [lx97]
  intro y hy'
  rw [hb lo y (hy y hy').1 (hy y hy').2]; simp
 have h1:=ha r.s.vars (-2147483647) h.va
 have h2:=ha r.s.left 0 h.lf
 have h3:=hb 0 x.pl' h.cx.2.1.1 h.cx.2.1.2
 have h4:=hb 0 x.ba h.cx.2.2.1 h.cx.2.2.2
 have h5:((r.s.vars.length:Int) == c.vars.length)=true:=by rw [lx85]; exact_mod_cast h.vl
 have h6:((r.s.left.length:Int) == c.tim)=true:=by rw [lx85]; exact h.ll
 have h0:(Bf c == 0)=true:=by rw [h.val]; rfl
 simp only [GH,C2,h0,h1,h2,h3,h4,h5,h6,hsh]
 rfl
theorem RuI.lmp {c:Cd} {x:Cx} {r:Ru} (h:RuI c x r):r.s.lamps.length≤1024:=by
 have hl:=B9 h.val
 exact Anj h.so fun o ho=>by
  obtain ⟨h1,_,h2,_⟩:=h.lo o ho
  omega
theorem RuI.app {c:Cd} {x:Cx} {r:Ru} (h:RuI c x r) {m:Int} (hm:0≤m∧m < c.pri.length) {f:Ef} (hf:EfI c f) (hp:r.po.length≤1000000):AppQ m f r:=by
 have hl:=B9 h.val
 have hn:=h.lmp
 have hq:=h.ll
 exact ⟨fun hk=>by have:=hf.tim hk; omega,fun hk=>by have:=hf.mod hk; omega,by omega,by omega,by omega,hp⟩
theorem KP {n lo hi:Int} (h:lo≤hi):lo≤CU n lo hi∧CU n lo hi≤hi:=by unfold CU; omega
theorem Anl {P:Int→Prop} {l:List Int} (h:∀ y ∈ l,P y) (i:Nat) {v:Int} (hv:P v):∀ y ∈ l.set i v,P y:=fun y hy=>by
 rcases List.mem_or_eq_of_mem_set hy with h1 | h1
 ·exact h y h1
 ·rw [h1]; exact hv
theorem Ajg {c:Cd} {x:Cx} {r:Ru} (h:RuI c x r) {m a:Int} {se:Lm} (hm:0≤m∧m < c.pri.length) (ha:0≤a∧a < 64) (hs:Ld se=true):RuI c x (El r m a se):=by
 unfold El
 by_cases hz:BV r.s.act m=true
 ·rw [if_pos hz]
  refine ⟨h.val,h.fit,h.cx,h.vl,h.va,h.ll,h.lf,h.ac,h.fa,fun o ho=>?_,?_⟩
  ·simp only [MI h.so] at ho
   rcases Q1 ho with rfl | ho
   ·exact ⟨hm,hz,ha,hs⟩
   ·exact h.lo o ho
  ·simp only [MI h.so]; exact Xr h.so
 ·rw [if_neg hz]; exact h
theorem Aut {c:Cd} {x:Cx} {r:Ru} (h:RuI c x r) {m:Int} (hm:0≤m∧m < c.pri.length) {f:Ef} (hf:EfI c f):RuI c x (CH x m f r):=by
 have hl:=B9 h.val
 obtain ⟨A,hA,hA2⟩:=h.ac
 unfold CH
 by_cases k21:f.k=21
 ·rw [if_pos k21]
  exact Aov
 rw [if_neg k21]
 by_cases k22:f.k=22
 ·rw [if_pos k22]
  exact Aov
 rw [if_neg k22]
 by_cases k23:f.k=23
 ·rw [if_pos k23]
  have ha:=hf.mod (.inl k23)
  by_cases hz:BV r.s.act f.a=true
  ·rw [if_pos hz]; exact h
  ·rw [if_neg hz]
   refine ⟨h.val,h.fit,h.cx,h.vl,h.va,h.ll,h.lf,?_,h.fa,fun o ho=>?_,h.so⟩
   ·simp only [hA]; exact Bc6 hA2 (by omega) ha
   ·obtain ⟨g1,g2,g3⟩:=h.lo o ho
    refine ⟨g1,?_,g3⟩
    simp only [hA] at g2 ⊢
    rw [Aur hA2 (by omega) ha g1,g2]; rfl
 rw [if_neg k23]
 by_cases k24:f.k=24
 ·rw [if_pos k24]
  have ha:=hf.mod (.inr k24)
  by_cases hz:BV r.s.act f.a=true
  ·rw [if_pos hz]
   refine ⟨h.val,h.fit,h.cx,h.vl,h.va,h.ll,h.lf,?_,h.fa,fun o ho=>?_,h.so.filter _⟩
   ·simp only [hA]; exact Aus hA2 (by omega) ha
   ·obtain ⟨ho,hne⟩:=List.mem_filter.1 ho
    obtain ⟨g1,g2,g3⟩:=h.lo o ho
    refine ⟨g1,?_,g3⟩
    simp only [hA] at g2 ⊢
    rw [Ank hA2 (by omega) ha g1,g2]
    have:f.a≠o.mo:=fun e=>by rw [bne_iff_ne] at hne; exact hne e.symm
    simp [this]
  ·rw [if_neg hz]; exact h
 rw [if_neg k24]
 by_cases k25:f.k=25
 ·rw [if_pos k25]
  exact ⟨h.val,h.fit,h.cx,h.vl,h.va,h.ll,h.lf,h.ac,h.fa,h.lo,h.so⟩
 rw [if_neg k25]
 by_cases k19:f.k=19
 ·rw [if_pos k19]
  refine Ajg h hm (hf.lam (.inl k19)) ?_
  have:=KP (n:=f.b) (lo:=0) (hi:=8) (by decide)
  exact Iw ⟨this.1,this.2,⟨Int.le_refl 0,(by decide:(0:Int)≤1099511627776)⟩,Int.le_refl 0,(by decide:(0:Int)≤1000),.inl ⟨rfl,rfl⟩⟩
 rw [if_neg k19]
 by_cases k20:f.k=20
 ·rw [if_pos k20]
  refine Ajg h hm (hf.lam (.inr k20)) ?_
  have h1:=KP (n:=f.b) (lo:=1) (hi:=1000) (by decide)
  have h2:=KP (n:=f.c) (lo:=1) (hi:=1000) (by decide)
  have h3:=h.cx.1
  exact Iw ⟨(by decide:(0:Int)≤8),Int.le_refl 8,h3,by simp only; omega,h2.2,.inr ⟨by simp only; omega,h1⟩⟩
 rw [if_neg k20]
 exact h
theorem Anm (x:Cx) (m:Int) (f:Ef) (r:Ru):(CH x m f r).po.length≤r.po.length+1:=by
 have hp:∀ e:Ev,(r.po++[e]).length≤r.po.length+1:=fun e=>by simp
 by_cases k21:f.k=21
 ·simp only [CH,k21,↓reduceIte]; omega
 by_cases k22:f.k=22
 ·simp only [CH,k22,Int.reduceEq,↓reduceIte]; omega
 by_cases k23:f.k=23
 ·cases hz:BV r.s.act f.a <;> simp only [CH,k23,hz,Int.reduceEq,Dt,↓reduceIte,hp] <;> omega
 by_cases k24:f.k=24
 ·cases hz:BV r.s.act f.a <;> simp only [CH,k24,hz,Int.reduceEq,Dt,↓reduceIte,hp] <;> omega
 by_cases k25:f.k=25
 ·simp only [CH,k25,Int.reduceEq,↓reduceIte,hp]
 by_cases k19:f.k=19
 ·cases hz:BV r.s.act m <;> simp only [CH,El,k19,hz,Int.reduceEq,Dt,↓reduceIte] <;> omega
 by_cases k20:f.k=20
 ·cases hz:BV r.s.act m <;> simp only [CH,El,k20,hz,Int.reduceEq,Dt,↓reduceIte] <;> omega
 simp only [CH,k21,k22,k23,k24,k25,k19,k20,↓reduceIte]; omega
theorem Ue {c:Cd} {x:Cx} {m:Int} (hm:0≤m∧m < c.pri.length):∀ (l:List Ef) {r:Ru},RuI c x r→(∀ f ∈ l,EfI c f)→RuI c x (appL x m l r)
 | [],_,h,_=>h
 | f::l,r,h,hf=>Ue hm l (Aut h hm (hf f lx48)) (fun g hg=>hf g (lx49 _ hg))
theorem OR (x:Cx) (m:Int):∀ (l:List Ef) (r:Ru),(appL x m l r).po.length≤r.po.length+l.length
 | [],_=>Aw _
 | f::l,r=>by
  have h1:=OR x m l (CH x m f r)
  have h2:=Anm x m f r
  have e:appL x m (f::l) r=appL x m l (CH x m f r):=rfl
  rw [e,lx53]; omega
theorem Ajh {c:Cd} {x:Cx} {r:Ru} (h:RuI c x r) {l:List Int} (h1:∀ y ∈ l,ER y) (h2:l.length=c.vars.length):RuI c x (LI l r):=
 ⟨h.val,h.fit,h.cx,h2,h1,h.ll,h.lf,h.ac,h.fa,h.lo,h.so⟩
theorem Bc7 {c:Cd} {x:Cx} {r:Ru} (h:RuI c x r):RuI c x (Nv r):=by
 have:=h.fa
 exact ⟨h.val,h.fit,h.cx,h.vl,h.va,h.ll,h.lf,h.ac,by simp only [Nv]; omega,h.lo,h.so⟩
theorem RuI.exe {c:Cd} {x:Cx} {r:Ru} (h:RuI c x r) {m tr ix:Int} {en:En} (he:Ea c m tr ix=some en):ExeQ c (C2 r.s x) en.pc:=
 ⟨h.fit,h.env,en,List.mem_of_find?_eq_some he,rfl⟩
theorem RuI.one {c:Cd} {x:Cx} {r:Ru} (h:RuI c x r) {m:Int} (hm:0≤m∧m < c.pri.length) (ev:Ev) (he:r.ef.length≤1000000) (hp:r.po.length≤900000):OneQ c x m ev r:=by
 refine ⟨h.fit,h.fa,he,fun en hn=>h.exe hn,fun en hn y hy=>?_⟩
 obtain ⟨g1,g2,g3,g4⟩:=YH (h.exe hn) hy
 refine ⟨g3,fun i hi=>?_⟩
 have h1:=Ajh h g1 g2
 have h2:=Ue hm (y.2.1.take i) h1 (fun f hf=>g4 f (lx38 hf))
 refine h2.app hm (g4 _ (lx90 hi)) ?_
 have h3:=OR x m (y.2.1.take i) (LI y.1 r)
 rw [lx68] at h3
 have h4:(LI y.1 r).po.length=r.po.length:=rfl
 omega
theorem Aji {c:Cd} {x:Cx} {r:Ru} (h:RuI c x r) {m:Int} (hm:0≤m∧m < c.pri.length) (ev:Ev):
  RuI c x (C0 c x m ev r).1∧(C0 c x m ev r).1.ef.length≤r.ef.length+256∧(C0 c x m ev r).1.po.length≤r.po.length+256:=by
 rw [C0]
 cases hn:Ea c m ev.tr ev.ix with
 | none=>exact ⟨h,by simp,by simp⟩
 | some en=>
  simp only
  cases hy:Gk c (C2 r.s x) en.pc with
  | none=>exact ⟨Bc7 h,by simp [LJ,Nv],by simp [LJ,Nv]⟩
  | some y=>
   obtain ⟨g1,g2,g3,g4⟩:=YH (h.exe hn) hy
   have h2:=Ue hm y.2.1 (Ajh h g1 g2) g4
   have h3:=OR x m y.2.1 (LI y.1 r)
   have h4:(LI y.1 r).po.length=r.po.length:=rfl
   have h5:=OQ x m y.2.1 (LI y.1 r)
   have h6:(LI y.1 r).ef=r.ef:=rfl
   refine ⟨⟨h2.val,h2.fit,h2.cx,h2.vl,h2.va,h2.ll,h2.lf,h2.ac,h2.fa,h2.lo,h2.so⟩,?_,?_⟩
   ·simp only [LJ,Ub,lx5,h5,h6]; omega
   ·simp only [LJ,Ub]; omega
end Go.Proofs.YtdjpkhjaibdogaaGreat
