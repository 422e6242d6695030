/-
  Lemmas towards ModesFaults (joined texts: FD, FE, FF).
  Conditions: none.
-/
import Derived.Test.YtdjpkhjaibdogaaGreatK01
import Derived.Test.YtdjpkhjaibdogaaGreatK02
import Derived.Test.YtdjpkhjaibdogaaGreatK27
import Derived.Test.YtdjpkhjaibdogaaGreatK28
set_option linter.unusedSimpArgs false
set_option linter.unusedVariables false
set_option maxRecDepth 100000
set_option maxHeartbeats 8000000
namespace Go.Proofs.YtdjpkhjaibdogaaGreat
open Go Go.SX
attribute [local congr] ite_congr
theorem EU (a x:Blk) (R:List Blk):CZ (a::(R++[x]))=x.els:=by rw [←lx91,Dg]
structure Mk0 where
 c0:AV
 c1:AV
 c2:AV
 c3:AV
 c4:AV
 c5:AV
 c6:AV
 c7:AV
 c8:AV
 c9:AV
 c10:AV
 c11:AV
 c12:AV
 c13:AV
 c14:AV
 B1:Blk
 R:List Blk
 w:Nat
def TL (k:Mk0) (sv ev:AV) (B2 B3:Blk):List Blk:=⟨true,k.w,253,17,[.ag [k.c0,k.c1,k.c2,k.c3,k.c4,k.c5,k.c6,k.c7,k.c8,k.c9,k.c10,k.c11,k.c12,k.c13,k.c14,sv,ev]],false⟩::k.B1::B2::B3::k.R
theorem Tt {k k':Mk0} {sv ev sv' ev':AV} {B2 B3 B2' B3':Blk} (h:TL k sv ev B2 B3=TL k' sv' ev' B2' B3'):k=k'∧sv=sv'∧ev=ev'∧B2=B2'∧B3=B3':=by
 cases k; cases k'
 simp only [TL,lx96,Blk.mk.injEq,AV.ag.injEq,Ay,D3] at h
 simp_all
def skB (v:Nat) (E:List AV) (f:Bool):Blk:=⟨true,v,3,1,E,f⟩
theorem Aac {v v':Nat} {E E':List AV} {f f':Bool} (h:skB v E f=skB v' E' f'):v=v'∧E=E'∧f=f':=by simpa [skB] using h
structure Pt where
 k:Mk0
 ev:AV
 B3:Blk
 s:Nat
 n:Nat
 E:List AV
 f:Bool
 x:Int
 cnt:Nat
noncomputable def f227:=mkH (fun p:Pt=>p.n≤100000) (fun p=>([.pt 0 p.k.w 0 0,kA .i64 p.x],TL p.k (.sl 2 p.s 0 p.n) p.ev (skB p.s p.E p.f) p.B3,p.cnt))
 (fun p=>(.tu [],TL p.k (.sl 2 (p.cnt+1) 0 (p.n+1)) p.ev (skB (p.cnt+1) (p.E.take p.n++[kA .i64 p.x]) false) p.B3,p.cnt+2))
theorem Bey (c0 c1 c2 c3 c4 c5 c6 c7 c8 c9 c10 c11 c12 c13 c14:AV) (B1:Blk) (R:List Blk) (w:Nat) (ev:AV) (B3:Blk) (s n:Nat) (E:List AV) (f:Bool) (x:Int) (cnt:Nat) (hn:n≤100000):
  f227 [.pt 0 w 0 0,.sc (.int .i64 x)] (⟨true,w,253,17,[.ag [c0,c1,c2,c3,c4,c5,c6,c7,c8,c9,c10,c11,c12,c13,c14,.sl 2 s 0 n,ev]],false⟩::B1::⟨true,s,3,1,E,f⟩::B3::R) cnt=
   some (.tu [],⟨true,w,253,17,[.ag [c0,c1,c2,c3,c4,c5,c6,c7,c8,c9,c10,c11,c12,c13,c14,.sl 2 (cnt+1) 0 (n+1),ev]],false⟩::B1::⟨true,cnt+1,3,1,E.take n++[.sc (.int .i64 x)],false⟩::B3::R,cnt+2):=
 (Ir (q:=fun p:Pt=>p.n≤100000) (enc:=fun p=>([.pt 0 p.k.w 0 0,kA .i64 p.x],TL p.k (.sl 2 p.s 0 p.n) p.ev (skB p.s p.E p.f) p.B3,p.cnt))
  (out:=fun p=>(.tu [],TL p.k (.sl 2 (p.cnt+1) 0 (p.n+1)) p.ev (skB (p.cnt+1) (p.E.take p.n++[kA .i64 p.x]) false) p.B3,p.cnt+2)) ⟨⟨c0,c1,c2,c3,c4,c5,c6,c7,c8,c9,c10,c11,c12,c13,c14,B1,R,w⟩,ev,B3,s,n,E,f,x,cnt⟩ hn (by
  rintro ⟨k,ev',B3',s',n',E',f',x',cnt'⟩ _ h
  simp only [lx40,lx96,Ay] at h
  obtain ⟨⟨_,h1⟩,h2,h3⟩:=h
  obtain ⟨rfl,g1,rfl,g2,rfl⟩:=Tt h2
  simp only [AV.sl.injEq,D3] at g1
  obtain ⟨rfl,rfl⟩:=g1
  obtain ⟨_,rfl,rfl⟩:=Aac g2
  obtain rfl:=Bt h1
  obtain rfl:=h3
  rfl) :)
theorem Azu:Ql Tryz.prog 227 f227:=It <| by
 rintro ⟨⟨c0,c1,c2,c3,c4,c5,c6,c7,c8,c9,c10,c11,c12,c13,c14,B1,R,w⟩,ev,B3,s,n,E,f,x,cnt⟩ hq
 simp only at hq
 have hz:decide ((n+1) * 8≤140737488355328)=true:=Aj
 refine Ag (Am (lit:=true) (pm:=fun _=>none) .nil .nil .nil .nil) rfl Tryz.func227 rfl (by decide) (by kernel_rfl) ?_
 simp only [Tryz.f227,Af,lx53,lx63,Nat.reduceAdd,Nat.reduceSub,List.replicate]
 simp only [TL,skB]
 refine Aa ?_
 refine gF1 (a2 hz @EU) ?_
 exact .refl _
structure Tk where
 k:Mk0
 ev:AV
 B3:Blk
 s:Nat
 n:Nat
 E:List AV
 f:Bool
 x:Int
 cnt:Nat
def tkQ (p:Tk):Prop:=p.n≤100000∧p.E[p.n]?=some (kA .i64 p.x)
noncomputable def f228:=mkH tkQ (fun p=>([.pt 0 p.k.w 0 0],TL p.k (.sl 2 p.s 0 (p.n+1)) p.ev (skB p.s p.E p.f) p.B3,p.cnt))
 (fun p=>(kA .i64 p.x,TL p.k (.sl 2 p.s 0 p.n) p.ev (skB p.s p.E p.f) p.B3,p.cnt))
theorem Amg (c0 c1 c2 c3 c4 c5 c6 c7 c8 c9 c10 c11 c12 c13 c14:AV) (B1:Blk) (R:List Blk) (w:Nat) (ev:AV) (B3:Blk) (s n:Nat) (E:List AV) (f:Bool) (x:Int) (cnt:Nat) (hn:n≤100000) (hx:E[n]?=some (.sc (.int .i64 x))):
  f228 [.pt 0 w 0 0] (⟨true,w,253,17,[.ag [c0,c1,c2,c3,c4,c5,c6,c7,c8,c9,c10,c11,c12,c13,c14,.sl 2 s 0 (n+1),ev]],false⟩::B1::⟨true,s,3,1,E,f⟩::B3::R) cnt=
   some (.sc (.int .i64 x),⟨true,w,253,17,[.ag [c0,c1,c2,c3,c4,c5,c6,c7,c8,c9,c10,c11,c12,c13,c14,.sl 2 s 0 n,ev]],false⟩::B1::⟨true,s,3,1,E,f⟩::B3::R,cnt):=
 (Ir (q:=tkQ) (enc:=fun p=>([.pt 0 p.k.w 0 0],TL p.k (.sl 2 p.s 0 (p.n+1)) p.ev (skB p.s p.E p.f) p.B3,p.cnt))
  (out:=fun p=>(kA .i64 p.x,TL p.k (.sl 2 p.s 0 p.n) p.ev (skB p.s p.E p.f) p.B3,p.cnt)) ⟨⟨c0,c1,c2,c3,c4,c5,c6,c7,c8,c9,c10,c11,c12,c13,c14,B1,R,w⟩,ev,B3,s,n,E,f,x,cnt⟩ ⟨hn,hx⟩ (by
  rintro ⟨k,ev',B3',s',n',E',f',x',cnt'⟩ ⟨_,hx'⟩ h
  simp only [lx40,lx96,Ay] at h hx'
  obtain ⟨_,h2,h3⟩:=h
  obtain ⟨rfl,g1,rfl,g2,rfl⟩:=Tt h2
  simp only [AV.sl.injEq,D3,Nat.add_right_cancel_iff] at g1
  obtain ⟨rfl,rfl⟩:=g1
  obtain ⟨_,rfl,rfl⟩:=Aac g2
  rw [hx] at hx'
  obtain rfl:=Bt (Option.some.inj hx')
  obtain rfl:=h3
  rfl) :)
theorem Azv:Ql Tryz.prog 228 f228:=It <| by
 rintro ⟨⟨c0,c1,c2,c3,c4,c5,c6,c7,c8,c9,c10,c11,c12,c13,c14,B1,R,w⟩,ev,B3,s,n,E,f,x,cnt⟩ ⟨hq,hx⟩
 simp only at hq hx
 have w1:IntKind.i64.wrap (((n+1:Nat):Int) - 1)=(n:Int):=AK
 have h1:decide ((n:Int) < ((n+1:Nat):Int))=true:=Aj
 have h2:decide ((n:Int)≤((n+1:Nat):Int))=true:=Aj
 refine Ag (Am (lit:=true) (pm:=fun _=>none) .nil .nil .nil .nil) rfl Tryz.func228 rfl (by decide) (by kernel_rfl) ?_
 simp only [Tryz.f228,Af,lx53,lx63,Nat.reduceAdd,Nat.reduceSub,List.replicate]
 simp only [TL,skB]
 exact Auz
structure Pe where
 k:Mk0
 sv:AV
 B2:Blk
 s:Nat
 n:Nat
 E:List AV
 f:Bool
 i:In
 b:Int
 c:Int
 cnt:Nat
def eB:ByteArray:=⟨#[]⟩
noncomputable def f231:=mkH (fun p:Pe=>p.n≤100000) (fun p=>([.pt 0 p.k.w 0 0,BS p.i,kA .i64 p.b,kA .i64 p.c],TL p.k p.sv (.sl 3 p.s 0 p.n) p.B2 ⟨true,p.s,73,5,p.E,p.f⟩,p.cnt))
 (fun p=>(.tu [],TL p.k p.sv (.sl 3 (p.cnt+2) 0 (p.n+1)) p.B2 ⟨true,p.cnt+2,73,5,p.E.take p.n++[Ek ⟨p.i.op,p.i.a,p.b,p.c,eB⟩],false⟩,p.cnt+3))
theorem Bez (c0 c1 c2 c3 c4 c5 c6 c7 c8 c9 c10 c11 c12 c13 c14:AV) (B1:Blk) (R:List Blk) (w:Nat) (sv:AV) (B2:Blk) (s n:Nat) (E:List AV) (f:Bool) (op a b c:Int) (cnt:Nat) (hn:n≤100000):
  f231 [.pt 0 w 0 0,.ag [.sc (.int .i64 op),.sc (.int .i64 a)],.sc (.int .i64 b),.sc (.int .i64 c)] (⟨true,w,253,17,[.ag [c0,c1,c2,c3,c4,c5,c6,c7,c8,c9,c10,c11,c12,c13,c14,sv,.sl 3 s 0 n]],false⟩::B1::B2::⟨true,s,73,5,E,f⟩::R) cnt=
   some (.tu [],⟨true,w,253,17,[.ag [c0,c1,c2,c3,c4,c5,c6,c7,c8,c9,c10,c11,c12,c13,c14,sv,.sl 3 (cnt+2) 0 (n+1)]],false⟩::B1::B2::⟨true,cnt+2,73,5,E.take n++[.ag [.sc (.int .i64 op),.sc (.int .i64 a),.sc (.int .i64 b),.sc (.int .i64 c),.sc (.string eB)]],false⟩::R,cnt+3):=
 (Ir (q:=fun p:Pe=>p.n≤100000) (enc:=fun p=>([.pt 0 p.k.w 0 0,BS p.i,kA .i64 p.b,kA .i64 p.c],TL p.k p.sv (.sl 3 p.s 0 p.n) p.B2 ⟨true,p.s,73,5,p.E,p.f⟩,p.cnt))
  (out:=fun p=>(.tu [],TL p.k p.sv (.sl 3 (p.cnt+2) 0 (p.n+1)) p.B2 ⟨true,p.cnt+2,73,5,p.E.take p.n++[Ek ⟨p.i.op,p.i.a,p.b,p.c,eB⟩],false⟩,p.cnt+3)) ⟨⟨c0,c1,c2,c3,c4,c5,c6,c7,c8,c9,c10,c11,c12,c13,c14,B1,R,w⟩,sv,B2,s,n,E,f,⟨op,a⟩,b,c,cnt⟩ hn (by
  rintro ⟨k,sv',B2',s',n',E',f',i',b',c',cnt'⟩ _ h
  simp only [lx40,lx96,Ay] at h
  obtain ⟨⟨_,h1,h4,h5⟩,h2,h3⟩:=h
  obtain ⟨rfl,rfl,g1,rfl,g2⟩:=Tt h2
  simp only [AV.sl.injEq,D3] at g1
  obtain ⟨rfl,rfl⟩:=g1
  simp only [Blk.mk.injEq,D3] at g2
  obtain ⟨rfl,rfl⟩:=g2
  obtain rfl:=Aa0 h1
  obtain rfl:=Bt h4
  obtain rfl:=Bt h5
  obtain rfl:=h3
  rfl) :)
theorem Azw:Ql Tryz.prog 231 f231:=It <| by
 rintro ⟨⟨c0,c1,c2,c3,c4,c5,c6,c7,c8,c9,c10,c11,c12,c13,c14,B1,R,w⟩,sv,B2,s,n,E,f,⟨op,a⟩,b,c,cnt⟩ hq
 simp only at hq
 have hz:decide ((n+1) * 48≤140737488355328)=true:=Aj
 refine Ag (Am (lit:=true) (pm:=fun _=>none) .nil .nil .nil .nil) rfl Tryz.func231 rfl (by decide) (by kernel_rfl) ?_
 simp only [Tryz.f231,Af,lx53,lx63,Nat.reduceAdd,Nat.reduceSub,List.replicate]
 simp only [TL,eB]
 exact Bd2
structure Rk0 where
 c0:AV
 c1:AV
 c2:AV
 c3:AV
 c4:AV
 c5:AV
 c6:AV
 c7:AV
 c8:AV
 c9:AV
 c10:AV
 c11:AV
 c12:AV
 c13:AV
 c14:AV
 c15:AV
 c16:AV
 B1:Blk
 R:List Blk
 w:Nat
structure Ptr where
 k:Rk0
 ev:AV
 B3:Blk
 s:Nat
 n:Nat
 E:List AV
 f:Bool
 x:Int
 cnt:Nat
structure Tkr where
 k:Rk0
 ev:AV
 B3:Blk
 s:Nat
 n:Nat
 E:List AV
 f:Bool
 x:Int
 cnt:Nat
structure Per where
 k:Rk0
 sv:AV
 B2:Blk
 s:Nat
 n:Nat
 E:List AV
 f:Bool
 x:Ef
 cnt:Nat
structure Ms where
 pc:Int
 dn:Bool
 va:List Int
 st:List Int
 ef:List Ef
def Hb (m:Ms):Int:=m.st.getD (m.st.length - 1) 0
def Hh (m:Ms):Ms:={ m with st:=m.st.take (m.st.length - 1) }
def I4 (n:Int) (m:Ms):Ms:={ m with st:=m.st++[n] }
def NI (x:Ef) (m:Ms):Ms:={ m with ef:=m.ef++[x] }
def MJ (k:IntKind) (x a:Int):Int:=IntKind.i64.wrap (DE .and k (He k x a) 1)
def opS (c:Cd) (v:Vn) (x:In) (m:Ms):Ms:=
 if x.op=1 then I4 x.a m
 else if x.op=2 then I4 (m.va.getD x.a.toNat default) m
 else if x.op=3 then { Hh m with va:=m.va.set x.a.toNat (Hb m) }
 else if x.op=4 then I4 (MJ .u64 v.clo x.a) m
 else if x.op=5 then I4 (MJ .u32 v.act x.a) m
 else if x.op=6 then I4 (v.left.getD x.a.toNat default) m
 else if x.op=7 then I4 v.pl' m
 else if x.op=8 then I4 v.ba m
 else if x.op=9 then I4 (Tl 10 (Hb m)) (Hh m)
 else if x.op=10 then I4 (Tl 11 (Hb m)) (Hh m)
 else if x.op=11 then I4 (CK x.a (Hb (Hh m)) (Hb m)) (Hh (Hh m))
 else if x.op=12 then { m with pc:=x.a }
 else if x.op=13 then (if Hb m=0 then { Hh m with pc:=x.a } else Hh m)
 else if x.op=14 then (if Hb m≤0 then { Hh m with pc:=x.a } else I4 (Hb m - 1) (Hh m))
 else if x.op=15∨x.op=19∨x.op=21 then NI ⟨x.op,x.a,Hb m,0,eB⟩ (Hh m)
 else if x.op=20 then NI ⟨x.op,x.a,Hb (Hh m),Hb m,eB⟩ (Hh (Hh m))
 else if x.op=29 then NI ⟨x.op,0,Hb m,0,c.strs.getD x.a.toNat default⟩ (Hh m)
 else if x.op=31 then { m with dn:=true }
 else NI ⟨x.op,x.a,0,0,eB⟩ m
def tkO (op:Int):Nat:=if op=3∨op=9∨op=10∨op=13∨op=14∨op=15∨op=19∨op=21∨op=29 then 1 else if op=11∨op=20 then 2 else 0
structure StepQ (c:Cd) (v:Vn) (m:Ms) (x:In):Prop where
 pc0:0≤m.pc
 pc1:m.pc < c.ins.length
 at':c.ins.getD m.pc.toNat default=x
 ins:c.ins.length≤4000
 tk:tkO x.op≤m.st.length
 st:m.st.length≤1000
 ef:m.ef.length≤1000
 va:m.va.length≤1000
 lf:v.left.length≤1000
 ss:c.strs.length≤1000
 a2:x.op=2∨x.op=3→0≤x.a∧x.a < m.va.length
 a4:x.op=4→0≤x.a∧x.a≤63
 a5:x.op=5→0≤x.a∧x.a≤31
 a6:x.op=6→0≤x.a∧x.a < v.left.length
 a29:x.op=29→0≤x.a∧x.a < c.strs.length
 tp:m.st≠[]→-2147483647≤Hb m∧Hb m≤2147483647
def mH (c:Cd) (v:Vn) (m:Ms) (w u s e:Nat) (E:List AV):List Blk:=
 [⟨true,w,253,17,[.ag [.vw c.zi (c.ins.map BS),.vw c.zs (c.strs.map stA),.vw c.ze (c.ens.map DP),.vw c.zp (c.pri.map (kA .i64)),.vw c.zv (c.vars.map (kA .i64)),kA .i64 c.tim,kA .i64 c.evs,
  .sl 1 u 0 m.va.length,.vw v.zl (v.left.map (kA .i64)),.sc (.int .u64 v.clo),.sc (.int .u32 v.act),kA .i64 v.pl',kA .i64 v.ba,kA .i64 m.pc,bA m.dn,.sl 2 s 0 m.st.length,.sl 3 e 0 m.ef.length]],false⟩,
  ⟨true,u,3,1,m.va.map (kA .i64),false⟩,⟨true,s,3,1,E,false⟩,⟨true,e,73,5,m.ef.map Ek,false⟩]
def AO (c:Cd) (v:Vn) (x:In) (m:Ms):Ms:=opS c v x { m with pc:=m.pc+1 }
def MK (c:Cd) (v:Vn) (x:In) (m:Ms) (w u s e:Nat) (E:List AV) (cnt:Nat):Prop:=
 ∃ s' e' E' cnt',HSpec Tryz.prog 204 [.pt 0 w 0 0] (mH c v m w u s e E) cnt (.tu []) (mH c v (AO c v x m) w u s' e' E') cnt'∧E'.take (AO c v x m).st.length=(AO c v x m).st.map (kA .i64)
theorem LY {E:List AV} {st:List Int} {t:Int} (h:E.take (st++[t]).length=(st++[t]).map (kA .i64)):E[st.length]?=some (.sc (.int .i64 t))∧E.take st.length=st.map (kA .i64):=by
 rw [lx5,lx53,lx63,lx12] at h
 constructor
 ·have:=congrArg (fun l=>l[st.length]?) h
  simp only [lx19,BO,IY,lx6] at this
  rw [this,lx62 (by simp)]
  simp [kA]
 ·have:=congrArg (fun l=>l.take st.length) h
  simp only [List.take_take] at this
  rw [Nat.min_eq_left (by omega),List.take_left' (by simp)] at this
  exact this
theorem N9 {st:List Int} (h:1≤st.length):∃ r t,st=r++[t]:=⟨_,_,(List.dropLast_concat_getLast (l:=st) (by intro e; rw [e] at h; simp at h)).symm⟩
theorem ML (pc:Int) (dn:Bool) (va st:List Int) (t:Int) (ef:List Ef):Hb ⟨pc,dn,va,st++[t],ef⟩=t:=by simp [Hb]
theorem R3 (pc:Int) (dn:Bool) (va st:List Int) (t:Int) (ef:List Ef):Hh ⟨pc,dn,va,st++[t],ef⟩=⟨pc,dn,va,st,ef⟩:=by simp [Hh]
theorem PZ {m2:Ms} {pc:Int} {dn:Bool} {va st:List Int} {t:Int} {ef:List Ef} {E:List AV} (hs:m2=⟨pc,dn,va,st++[t],ef⟩) (hE:E.take st.length=st.map (kA .i64)):(E.take st.length++[kA .i64 t]).take m2.st.length=m2.st.map (kA .i64):=by
 rw [hs]; simp only [lx5,lx53,lx63]; rw [hE,lx12,lx118 (by simp)]; rfl
theorem finK {m2:Ms} {pc:Int} {dn:Bool} {va st:List Int} {ef:List Ef} {E:List AV} (hs:m2=⟨pc,dn,va,st,ef⟩) (hE:E.take st.length=st.map (kA .i64)):E.take m2.st.length=m2.st.map (kA .i64):=by
 rw [hs]; exact hE
def opI (op:Int):Prop:=op=1∨op=2∨op=3∨op=4∨op=5∨op=6∨op=7∨op=8∨op=9∨op=10∨op=11∨op=12∨op=13∨op=14∨op=15∨op=16∨op=17∨op=18∨op=19∨op=20∨op=21∨op=22∨op=23∨op=24∨op=25∨op=26∨op=27∨op=28∨op=29∨op=30∨op=31
theorem sS {P:Prop} (h:P:=by simp only [AO,opS,Int.reduceEq,lx6,lx7,↓reduceIte,I4,NI,ML,R3,or_self,GH,false_or,or_true,true_or]):P:=h
theorem sZ {P:Prop} (h:P:=by simp only [AO,opS,Int.reduceEq,lx6,lx7,↓reduceIte,I4,NI,ML,R3,or_self,GH,false_or,or_true,true_or,hz]):P:=h
theorem sT {P:Prop} (h:P:=by
 refine Ag (Am (lit:=true) (pm:=fun _=>none) (.cons Azh (.cons Azi .nil)) .nil .nil (.cons Azu (.cons Azv (.cons Azw .nil)))) rfl Tryz.func204 rfl (by decide) (by kernel_rfl) ?_
 simp only [Tryz.f204,Af,lx53,lx63,Nat.reduceAdd,Nat.reduceSub,List.replicate]
 simp only [mH,hs]
 refine Aa ?_
 simp (maxSteps:=10000000) +contextual -implicitDefEqProofs only [Bk,Bg,Ao,St.put,Ap,Al,D8,pl,Array.toList,lx6,lx7,↓reduceIte,reduceCtorEq,Nat.reduceAdd,Nat.reduceLeDiff,Nat.reduceEqDiff,Nat.reduceMul,Int.reduceEq,Int.reduceNe,Int.reduceLE,Int.reduceLT,ne_eq,Nat.reduceBEq,Nat.reduceLT,eq_self,Cu,lx8,D5,Qc,Int.reduceToNat,Nat.reduceSub,Int.reduceAdd,Int.reduceMul,Int.reduceSub,Dq,Fe,hl,Ch,Bh,Dz,CR,DK,Ci,DL,Di,Cj,Er,Es,B8,BQ,DA,Cr,AW,BR,Bu,Dt,C9,DM,Bv,Et,Bw,Eu,DN,CS,Da,CH,Ew,Fz,Ex,CI,Cb,Ck,Iq,Ey,Ez,F0,F2,DO,KI,KJ,EU,AB,AU,AX,Cf,Dl,Ac,B4,DR,norefs,AV.noref,Cs,CQ,Int.reduceBNe,Int.reduceBEq,h1,h2,w1,w2,w9,AJ,Dw,MD,Dh,AA,q3,JB,Qr,WD,lx3,lx11,lx4,lx5,dl1,dl2,hs,Bey,Bez,n1,n2,n3,te,i0,i1,i2,i3,z1,x1,si,E28,E28b,lx12,lx2,MJ]
 repeat' (first | exact Ae (by kernel_rfl) | refine ⟨Ae (by kernel_rfl),?_⟩ | refine And.intro ?_ ?_ | fail)
 all_goals first | exact .refl _ | exact .inl rfl | exact DY _ _ _ | omega | trivial | rfl | skip
 all_goals done):P:=h
theorem st0 (c:Cd) (v:Vn) (m:Ms) (x:In) (h:StepQ c v m x) (ho:x.op=1∨x.op=2∨x.op=4∨x.op=5∨x.op=6∨x.op=7∨x.op=8∨x.op=12∨x.op=31) (w u s e:Nat) (E:List AV) (hE:E.take m.st.length=m.st.map (kA .i64)) (cnt:Nat):MK c v x m w u s e E cnt:=by
 obtain ⟨pc,dn,va,st,ef⟩:=m
 obtain ⟨op,a⟩:=x
 obtain ⟨q1,q2,q3,q4,q5,q6,q7,q8,q9,q10,r2,r4,r5,r6,r29,rt⟩:=h
 simp only at ho q1 q2 q3 q4 q5 q6 q7 q8 q9 q10 hE r2 r4 r5 r6 r29 rt
 obtain ⟨p,rfl⟩:=IL q1
 rw [K4] at q3
 have h1:decide ((p:Int) < (c.ins.length:Int))=true:=Aj
 have h2:decide (p < c.ins.length)=true:=Aj
 have w1:IntKind.i64.wrap ((p:Int)+1)=(p:Int)+1:=Bd (by omega) (by omega)
 have i0:=trivial
 obtain ⟨i1,i2,i3,z1,x1,si,E28,E28b,w2,w9⟩:True∧True∧True∧True∧True∧True∧True∧True∧True∧True:=⟨i0,i0,i0,i0,i0,i0,i0,i0,i0,i0⟩
 have te:List.take ef.length (ef.map Ek)=ef.map Ek:=lx118 (by simp)
 obtain ⟨n1,n2,n3⟩:st.length≤100000∧ef.length≤100000∧st.length+1≤100000:=Ah
 rcases ho with rfl | rfl | rfl | rfl | rfl | rfl | rfl | rfl | rfl
 ·have hs:AO c v ⟨1,a⟩ ⟨(p:Int),dn,va,st,ef⟩=⟨(p:Int)+1,dn,va,st++[a],ef⟩:=sS
  exact ⟨cnt+2,e,E.take st.length++[kA .i64 (a)],cnt+3,sT,PZ hs hE⟩
 ·obtain ⟨j1,j2⟩:=r2 (.inl rfl)
  have i0:decide (0≤a)=true:=Yo
  have i1:decide (a < (va.length:Int))=true:=Yp
  have i2:decide (a.toNat < va.length)=true:=Aj
  have hs:AO c v ⟨2,a⟩ ⟨(p:Int),dn,va,st,ef⟩=⟨(p:Int)+1,dn,va,st++[va.getD a.toNat default],ef⟩:=sS
  exact ⟨cnt+2,e,E.take st.length++[kA .i64 (va.getD a.toNat default)],cnt+3,sT,PZ hs hE⟩
 ·have i1:=r4 rfl
  have i2:=i1.1
  have hs:AO c v ⟨4,a⟩ ⟨(p:Int),dn,va,st,ef⟩=⟨(p:Int)+1,dn,va,st++[MJ .u64 v.clo a],ef⟩:=sS
  exact ⟨cnt+2,e,E.take st.length++[kA .i64 (MJ .u64 v.clo a)],cnt+3,sT,PZ hs hE⟩
 ·have i1:=r5 rfl
  have i2:=i1.1
  have hs:AO c v ⟨5,a⟩ ⟨(p:Int),dn,va,st,ef⟩=⟨(p:Int)+1,dn,va,st++[MJ .u32 v.act a],ef⟩:=sS
  exact ⟨cnt+2,e,E.take st.length++[kA .i64 (MJ .u32 v.act a)],cnt+3,sT,PZ hs hE⟩
 ·obtain ⟨j1,j2⟩:=r6 rfl
  have i0:decide (0≤a)=true:=Yo
  have i1:decide (a < (v.left.length:Int))=true:=Yp
  have i2:decide (a.toNat < v.left.length)=true:=Aj
  have hs:AO c v ⟨6,a⟩ ⟨(p:Int),dn,va,st,ef⟩=⟨(p:Int)+1,dn,va,st++[v.left.getD a.toNat default],ef⟩:=sS
  exact ⟨cnt+2,e,E.take st.length++[kA .i64 (v.left.getD a.toNat default)],cnt+3,sT,PZ hs hE⟩
 ·have hs:AO c v ⟨7,a⟩ ⟨(p:Int),dn,va,st,ef⟩=⟨(p:Int)+1,dn,va,st++[v.pl'],ef⟩:=sS
  exact ⟨cnt+2,e,E.take st.length++[kA .i64 (v.pl')],cnt+3,sT,PZ hs hE⟩
 ·have hs:AO c v ⟨8,a⟩ ⟨(p:Int),dn,va,st,ef⟩=⟨(p:Int)+1,dn,va,st++[v.ba],ef⟩:=sS
  exact ⟨cnt+2,e,E.take st.length++[kA .i64 (v.ba)],cnt+3,sT,PZ hs hE⟩
 ·have hs:AO c v ⟨12,a⟩ ⟨(p:Int),dn,va,st,ef⟩=⟨a,dn,va,st,ef⟩:=sS
  exact Qv
 ·have hs:AO c v ⟨31,a⟩ ⟨(p:Int),dn,va,st,ef⟩=⟨(p:Int)+1,true,va,st,ef⟩:=sS
  exact Qv
theorem stM (c:Cd) (v:Vn) (m:Ms) (x:In) (h:StepQ c v m x) (ho:x.op=16∨x.op=17∨x.op=18∨x.op=22∨x.op=23∨x.op=24∨x.op=25∨x.op=26∨x.op=27∨x.op=28∨x.op=30) (w u s e:Nat) (E:List AV) (hE:E.take m.st.length=m.st.map (kA .i64)) (cnt:Nat):MK c v x m w u s e E cnt:=by
 obtain ⟨pc,dn,va,st,ef⟩:=m
 obtain ⟨op,a⟩:=x
 obtain ⟨q1,q2,q3,q4,q5,q6,q7,q8,q9,q10,r2,r4,r5,r6,r29,rt⟩:=h
 simp only at ho q1 q2 q3 q4 q5 q6 q7 q8 q9 q10 hE r2 r4 r5 r6 r29 rt
 obtain ⟨p,rfl⟩:=IL q1
 rw [K4] at q3
 have h1:decide ((p:Int) < (c.ins.length:Int))=true:=Aj
 have h2:decide (p < c.ins.length)=true:=Aj
 have w1:IntKind.i64.wrap ((p:Int)+1)=(p:Int)+1:=Bd (by omega) (by omega)
 have i0:=trivial
 obtain ⟨i1,i2,i3,z1,x1,si,E28,E28b,w2,w9⟩:True∧True∧True∧True∧True∧True∧True∧True∧True∧True:=⟨i0,i0,i0,i0,i0,i0,i0,i0,i0,i0⟩
 have te:List.take ef.length (ef.map Ek)=ef.map Ek:=lx118 (by simp)
 obtain ⟨n1,n2,n3⟩:st.length≤100000∧ef.length≤100000∧st.length+1≤100000:=Ah
 have hs:AO c v ⟨op,a⟩ ⟨(p:Int),dn,va,st,ef⟩=⟨(p:Int)+1,dn,va,st,ef++[⟨op,a,0,0,eB⟩]⟩:=by rcases ho with rfl | rfl | rfl | rfl | rfl | rfl | rfl | rfl | rfl | rfl | rfl <;> exact sS
 refine ⟨s,cnt+3,E,cnt+4,?_,finK hs hE⟩
 rcases ho with rfl | rfl | rfl | rfl | rfl | rfl | rfl | rfl | rfl | rfl | rfl
 all_goals exact sT
theorem st1 (c:Cd) (v:Vn) (m:Ms) (x:In) (h:StepQ c v m x) (ho:x.op=3∨x.op=9∨x.op=10∨x.op=13∨x.op=14∨x.op=29) (w u s e:Nat) (E:List AV) (hE:E.take m.st.length=m.st.map (kA .i64)) (cnt:Nat):MK c v x m w u s e E cnt:=by
 obtain ⟨pc,dn,va,st,ef⟩:=m
 obtain ⟨op,a⟩:=x
 obtain ⟨q1,q2,q3,q4,q5,q6,q7,q8,q9,q10,r2,r4,r5,r6,r29,rt⟩:=h
 simp only at ho q1 q2 q3 q4 q5 q6 q7 q8 q9 q10 hE r2 r4 r5 r6 r29 rt
 obtain ⟨p,rfl⟩:=IL q1
 rw [K4] at q3
 have h1:decide ((p:Int) < (c.ins.length:Int))=true:=Aj
 have h2:decide (p < c.ins.length)=true:=Aj
 have w1:IntKind.i64.wrap ((p:Int)+1)=(p:Int)+1:=Bd (by omega) (by omega)
 have i0:=trivial
 obtain ⟨i1,i2,i3,z1,x1,si,E28,E28b,w2,w9⟩:True∧True∧True∧True∧True∧True∧True∧True∧True∧True:=⟨i0,i0,i0,i0,i0,i0,i0,i0,i0,i0⟩
 have q5:1≤st.length:=by rcases ho with rfl | rfl | rfl | rfl | rfl | rfl <;> exact q5
 obtain ⟨st,t,rfl⟩:=N9 q5
 obtain ⟨hg,hE⟩:=LY hE
 rw [lx5,lx53,lx63] at q6
 have E28:=fun c0 c1 c2 c3 c4 c5 c6 c7 c8 c9 c10 c11 c12 c13 c14 B1 R w ev B3 s f cnt=>Amg c0 c1 c2 c3 c4 c5 c6 c7 c8 c9 c10 c11 c12 c13 c14 B1 R w ev B3 s st.length E f t cnt (by omega) hg
 have te:List.take ef.length (ef.map Ek)=ef.map Ek:=lx118 (by simp)
 obtain ⟨n1,n2,n3⟩:st.length≤100000∧ef.length≤100000∧st.length+1≤100000:=Ah
 rcases ho with rfl | rfl | rfl | rfl | rfl | rfl
 ·obtain ⟨j1,j2⟩:=r2 (.inr rfl)
  have i0:decide (0≤a)=true:=Yo
  have i1:decide (a < (va.length:Int))=true:=Yp
  have i2:decide (a.toNat < va.length)=true:=Aj
  have si:(va.map (kA .i64)).set a.toNat (.sc (.int .i64 t))=(va.set a.toNat t).map (kA .i64):=Ym
  have hs:AO c v ⟨3,a⟩ ⟨(p:Int),dn,va,st++[t],ef⟩=⟨(p:Int)+1,dn,va.set a.toNat t,st,ef⟩:=sS
  exact Qv
 ·have x1:=Azg 10 t
  have hs:AO c v ⟨9,a⟩ ⟨(p:Int),dn,va,st++[t],ef⟩=⟨(p:Int)+1,dn,va,st++[Tl 10 t],ef⟩:=sS
  exact ⟨cnt+2,e,E.take st.length++[kA .i64 (Tl 10 t)],cnt+3,sT,PZ hs hE⟩
 ·have x1:=Azg 11 t
  have hs:AO c v ⟨10,a⟩ ⟨(p:Int),dn,va,st++[t],ef⟩=⟨(p:Int)+1,dn,va,st++[Tl 11 t],ef⟩:=sS
  exact ⟨cnt+2,e,E.take st.length++[kA .i64 (Tl 11 t)],cnt+3,sT,PZ hs hE⟩
 ·by_cases hz:t=0
  ·have z1:(t == 0)=true:=by rw [lx85]; exact hz
   have hs:AO c v ⟨13,a⟩ ⟨(p:Int),dn,va,st++[t],ef⟩=⟨a,dn,va,st,ef⟩:=sZ
   exact Qv
  ·have z1:(t == 0)=false:=by rw [lx113]; exact hz
   have hs:AO c v ⟨13,a⟩ ⟨(p:Int),dn,va,st++[t],ef⟩=⟨(p:Int)+1,dn,va,st,ef⟩:=sZ
   exact Qv
 ·by_cases hz:t≤0
  ·have z1:decide (t≤0)=true:=by rw [AR]; exact hz
   have hs:AO c v ⟨14,a⟩ ⟨(p:Int),dn,va,st++[t],ef⟩=⟨a,dn,va,st,ef⟩:=sZ
   exact Qv
  ·have z1:decide (t≤0)=false:=by rw [BJ]; exact hz
   have hb:=rt (by simp)
   rw [ML] at hb
   have w2:IntKind.i64.wrap (t - 1)=t - 1:=Bd (by omega) (by omega)
   have hs:AO c v ⟨14,a⟩ ⟨(p:Int),dn,va,st++[t],ef⟩=⟨(p:Int)+1,dn,va,st++[t - 1],ef⟩:=sZ
   exact ⟨cnt+2,e,E.take st.length++[kA .i64 (t - 1)],cnt+3,sT,PZ hs hE⟩
 ·obtain ⟨j1,j2⟩:=r29 rfl
  have i0:decide (0≤a)=true:=Yo
  have i1:decide (a < (c.strs.length:Int))=true:=Yp
  have i2:decide (a.toNat < c.strs.length)=true:=Aj
  have z1:decide ((ef.length+1) * 48≤140737488355328)=true:=Aj
  have hs:AO c v ⟨29,a⟩ ⟨(p:Int),dn,va,st++[t],ef⟩=⟨(p:Int)+1,dn,va,st,ef++[⟨29,0,t,0,c.strs.getD a.toNat default⟩]⟩:=sS
  exact ⟨s,cnt+2,E,cnt+3,sT,finK hs hE⟩
theorem Bf1 (c:Cd) (v:Vn) (m:Ms) (x:In) (h:StepQ c v m x) (ho:x.op=15∨x.op=19∨x.op=21) (w u s e:Nat) (E:List AV) (hE:E.take m.st.length=m.st.map (kA .i64)) (cnt:Nat):MK c v x m w u s e E cnt:=by
 obtain ⟨pc,dn,va,st,ef⟩:=m
 obtain ⟨op,a⟩:=x
 obtain ⟨q1,q2,q3,q4,q5,q6,q7,q8,q9,q10,r2,r4,r5,r6,r29,rt⟩:=h
 simp only at ho q1 q2 q3 q4 q5 q6 q7 q8 q9 q10 hE r2 r4 r5 r6 r29 rt
 obtain ⟨p,rfl⟩:=IL q1
 rw [K4] at q3
 have h1:decide ((p:Int) < (c.ins.length:Int))=true:=Aj
 have h2:decide (p < c.ins.length)=true:=Aj
 have w1:IntKind.i64.wrap ((p:Int)+1)=(p:Int)+1:=Bd (by omega) (by omega)
 have i0:=trivial
 obtain ⟨i1,i2,i3,z1,x1,si,E28,E28b,w2,w9⟩:True∧True∧True∧True∧True∧True∧True∧True∧True∧True:=⟨i0,i0,i0,i0,i0,i0,i0,i0,i0,i0⟩
 have q5:1≤st.length:=by rcases ho with rfl | rfl | rfl <;> exact q5
 obtain ⟨st,t,rfl⟩:=N9 q5
 obtain ⟨hg,hE⟩:=LY hE
 rw [lx5,lx53,lx63] at q6
 have E28:=fun c0 c1 c2 c3 c4 c5 c6 c7 c8 c9 c10 c11 c12 c13 c14 B1 R w ev B3 s f cnt=>Amg c0 c1 c2 c3 c4 c5 c6 c7 c8 c9 c10 c11 c12 c13 c14 B1 R w ev B3 s st.length E f t cnt (by omega) hg
 have te:List.take ef.length (ef.map Ek)=ef.map Ek:=lx118 (by simp)
 obtain ⟨n1,n2,n3⟩:st.length≤100000∧ef.length≤100000∧st.length+1≤100000:=Ah
 have hs:AO c v ⟨op,a⟩ ⟨(p:Int),dn,va,st++[t],ef⟩=⟨(p:Int)+1,dn,va,st,ef++[⟨op,a,t,0,eB⟩]⟩:=by rcases ho with rfl | rfl | rfl <;> exact sS
 refine ⟨s,cnt+3,E,cnt+4,?_,finK hs hE⟩
 rcases ho with rfl | rfl | rfl
 all_goals exact sT
theorem st2 (c:Cd) (v:Vn) (m:Ms) (x:In) (h:StepQ c v m x) (ho:x.op=11∨x.op=20) (w u s e:Nat) (E:List AV) (hE:E.take m.st.length=m.st.map (kA .i64)) (cnt:Nat):MK c v x m w u s e E cnt:=by
 obtain ⟨pc,dn,va,st,ef⟩:=m
 obtain ⟨op,a⟩:=x
 obtain ⟨q1,q2,q3,q4,q5,q6,q7,q8,q9,q10,r2,r4,r5,r6,r29,rt⟩:=h
 simp only at ho q1 q2 q3 q4 q5 q6 q7 q8 q9 q10 hE r2 r4 r5 r6 r29 rt
 obtain ⟨p,rfl⟩:=IL q1
 rw [K4] at q3
 have h1:decide ((p:Int) < (c.ins.length:Int))=true:=Aj
 have h2:decide (p < c.ins.length)=true:=Aj
 have w1:IntKind.i64.wrap ((p:Int)+1)=(p:Int)+1:=Bd (by omega) (by omega)
 have i0:=trivial
 obtain ⟨i1,i2,i3,z1,x1,si,E28,E28b,w2,w9⟩:True∧True∧True∧True∧True∧True∧True∧True∧True∧True:=⟨i0,i0,i0,i0,i0,i0,i0,i0,i0,i0⟩
 have q5:2≤st.length:=by rcases ho with rfl | rfl <;> exact q5
 obtain ⟨st,t,rfl⟩:=N9 (st:=st) (by omega)
 obtain ⟨hg,hE⟩:=LY hE
 rw [lx5,lx53,lx63] at q5 q6
 obtain ⟨st,t2,rfl⟩:=N9 (st:=st) (by omega)
 obtain ⟨hg2,hE⟩:=LY hE
 rw [lx5,lx53,lx63] at q5 q6 hg
 have E28:=fun c0 c1 c2 c3 c4 c5 c6 c7 c8 c9 c10 c11 c12 c13 c14 B1 R w ev B3 s f cnt=>Amg c0 c1 c2 c3 c4 c5 c6 c7 c8 c9 c10 c11 c12 c13 c14 B1 R w ev B3 s (st.length+1) E f t cnt (by omega) hg
 have E28b:=fun c0 c1 c2 c3 c4 c5 c6 c7 c8 c9 c10 c11 c12 c13 c14 B1 R w ev B3 s f cnt=>Amg c0 c1 c2 c3 c4 c5 c6 c7 c8 c9 c10 c11 c12 c13 c14 B1 R w ev B3 s st.length E f t2 cnt (by omega) hg2
 have te:List.take ef.length (ef.map Ek)=ef.map Ek:=lx118 (by simp)
 obtain ⟨n1,n2,n3⟩:st.length≤100000∧ef.length≤100000∧st.length+1≤100000:=Ah
 rcases ho with rfl | rfl
 ·have x1:=Beo a t2 t
  have hs:AO c v ⟨11,a⟩ ⟨(p:Int),dn,va,st++[t2]++[t],ef⟩=⟨(p:Int)+1,dn,va,st++[CK a t2 t],ef⟩:=sS
  exact ⟨cnt+2,e,E.take st.length++[kA .i64 (CK a t2 t)],cnt+3,sT,PZ hs hE⟩
 ·have hs:AO c v ⟨20,a⟩ ⟨(p:Int),dn,va,st++[t2]++[t],ef⟩=⟨(p:Int)+1,dn,va,st,ef++[⟨20,a,t2,t,eB⟩]⟩:=sS
  exact ⟨s,cnt+3,E,cnt+4,sT,finK hs hE⟩
theorem Ai1 (c:Cd) (v:Vn) (m:Ms) (x:In) (h:StepQ c v m x) (ho:opI x.op) (w u s e:Nat) (E:List AV) (hE:E.take m.st.length=m.st.map (kA .i64)) (cnt:Nat):MK c v x m w u s e E cnt:=by
 have:(x.op=1∨x.op=2∨x.op=4∨x.op=5∨x.op=6∨x.op=7∨x.op=8∨x.op=12∨x.op=31)∨(x.op=16∨x.op=17∨x.op=18∨x.op=22∨x.op=23∨x.op=24∨x.op=25∨x.op=26∨x.op=27∨x.op=28∨x.op=30)∨(x.op=3∨x.op=9∨x.op=10∨x.op=13∨x.op=14∨x.op=29)∨(x.op=15∨x.op=19∨x.op=21)∨(x.op=11∨x.op=20):=by unfold opI at ho; omega
 rcases this with o | o | o | o | o
 ·exact st0 c v m x h o w u s e E hE cnt
 ·exact stM c v m x h o w u s e E hE cnt
 ·exact st1 c v m x h o w u s e E hE cnt
 ·exact Bf1 c v m x h o w u s e E hE cnt
 ·exact st2 c v m x h o w u s e E hE cnt
end Go.Proofs.YtdjpkhjaibdogaaGreat
