/-
  Lemmas towards ModesPriority (joined texts: PD, PE, PF, PG).
  Conditions: none.
-/
import Derived.Test.YtdjpkhjaibdogaaGreatL01
import Derived.Test.YtdjpkhjaibdogaaGreatL02
import Derived.Test.YtdjpkhjaibdogaaGreatL28
set_option linter.unusedSimpArgs false
set_option linter.unusedVariables false
set_option maxRecDepth 100000
set_option maxHeartbeats 8000000
namespace Go.Proofs.YtdjpkhjaibdogaaGreat
open Go Go.SX
attribute [local congr] ite_congr
def Jq (t:Tok):AV:=.ag [.sc (.int .i64 1),.sc (.int .i64 t.v),.sc (.string ⟨#[]⟩),.vw true [],.sc (.int .i64 t.at')]
def Bhn:List ByteArray:=[⟨#[116,114,117,101]⟩,⟨#[102,97,108,115,101]⟩,⟨#[112,108,97,121,101,114]⟩,⟨#[98,97,108,108]⟩,⟨#[99,108,111,115,101,100]⟩,⟨#[97,99,116,105,118,101]⟩,⟨#[108,101,102,116]⟩]
def unL:List ByteArray:=[⟨#[45]⟩,⟨#[33]⟩,⟨#[40]⟩]
def WG:List ByteArray:=[⟨#[42]⟩,⟨#[47]⟩,⟨#[37]⟩,⟨#[43]⟩,⟨#[45]⟩,⟨#[60]⟩,⟨#[60,61]⟩,⟨#[62]⟩,⟨#[62,61]⟩,⟨#[61,61]⟩,⟨#[33,61]⟩,⟨#[38,38]⟩,⟨#[124,124]⟩]
theorem Bos (w:Nat) (z:Bool) (T:List Tok) (en:Int) (i:Nat) (op pa:Int) (R:List Blk) (cnt:Nat) (t:Tok) (ht:nxt ⟨z,T,en,i,op,pa⟩=t) (hk:t.k=3) (ho:0≤op∧op < 32) (hi:i < 1000000):
  HSpec Tryz.prog 260 [.pt 0 w 0 0] (Ck w ⟨z,T,en,i,op,pa⟩::R) cnt (Jq t) (Ck w ⟨z,T,en,i+1,op+1,pa⟩::R) (cnt+3):=by
 have e1:=Ta ⟨z,T,en,i,op,pa⟩
 have e2:=Sk ⟨z,T,en,i,op,pa⟩ false Bhn (by decide)
 have e3:=Bgq ⟨z,T,en,i,op,pa⟩ 3
 have e4:=fun c=>Wc ⟨z,T,en,i,op+1,pa⟩ (op+1) 32 c (by omega)
 have e5:=ZB ⟨z,T,en,i,op+1,pa⟩
 rw [ht] at e1 e2 e3
 rw [We (Afr hk)] at e2
 rw [hk,lx74] at e3
 simp only [Bhn,lx31,lx46,Si] at e2
 simp only [E4] at e1 e2 e3 e4 e5
 have w1:IntKind.i64.wrap ((i:Int)+1)=((i+1:Nat):Int):=B8
 have w2:IntKind.i64.wrap (op+1)=op+1:=Ew (by omega) (by omega)
 have hkb:(t.k == 3)=true:=by rw [hk]; rfl
 refine Ad (Af (lit:=false) (pm:=fun _=>none) (.cons Nc (.cons Nf (.cons Aws (.cons Sh (.cons Sf .nil))))) .nil .nil .nil) rfl Tryz.func260 rfl (by decide) (by kernel_rfl) ?_
 simp only [Tryz.f260,Ae,lx52,lx63,Nat.reduceAdd,Nat.reduceSub,List.replicate]
 refine Ac ?_
 simp (maxSteps:=10000000) +contextual -implicitDefEqProofs only [AX,AT,Ao,St.put,Am,Aj,Ds,pl,↓reduceIte,reduceCtorEq,Nat.reduceAdd,Nat.reduceLeDiff,Nat.reduceEqDiff,Nat.reduceMul,Int.reduceLE,Int.reduceLT,Nat.reduceLT,CS,Se,Int.reduceAdd,Int.reduceMul,B9,H5,e1,e2,e3,e4,e5,w1,w2,I7,hkb,Jq,lx6,lx7,ga0,gs0,ga1,gs1,ga2]
 exact qc6
def Rd.ex (r:Rd):Rd:={ r with i:=r.i+1,op:=r.op+1 }
noncomputable def f260:=rdF 260 (fun _:Unit=>[]) (fun _ r=>Jq (nxt r)) (fun _ r=>r.ex) (fun _ _=>3)
theorem Bho:Jo Tryz.prog 260 f260:=Ee _ _ _
theorem Bot (w:Nat) (r:Rd) (R:List Blk) (cnt:Nat) (hk:(nxt r).k=3) (ho:0≤r.op∧r.op < 32) (hi:r.i < 1000000):f260 [.pt 0 w 0 0] (Ck w r::R) cnt=some (Jq (nxt r),Ck w r.ex::R,cnt+3):=Hl (x:=()) (fun _ _ _=>rfl) (Bos w r.z r.T r.en r.i r.op r.pa R cnt _ rfl hk ho hi)
theorem Bou (w:Nat) (r:Rd) (R:List Blk) (cnt:Nat) (hk:(nxt r).k=3) (ho:0≤r.op∧r.op < 32) (hi:r.i < 1000000):HSpec Tryz.prog 258 [.pt 0 w 0 0] (Ck w r::R) cnt (Jq (nxt r)) (Ck w r.ex::R) (cnt+6):=by
 have e0:=fun R cnt=>Bot w r R cnt hk ho hi
 have e1:=Ta r
 have e2:=Sk r false unL (by decide)
 rw [We (Afr hk)] at e2
 obtain ⟨t,ht⟩:∃ t,nxt r=t:=⟨_,rfl⟩
 rw [ht] at e0 e1 ⊢
 simp only [unL,lx31,lx46,Si] at e2
 simp only [Jq] at e0 ⊢
 simp only [Ck] at e0 ⊢
 obtain ⟨A,hA⟩:∃ A,EG r=A:=⟨_,rfl⟩
 obtain ⟨A',hA'⟩:∃ A,EG r.ex=A:=⟨_,rfl⟩
 rw [hA,hA'] at e0 ⊢
 rw [hA] at e1 e2
 refine Ad (Af (lit:=false) (pm:=fun _=>none) (.cons Nc (.cons Nf .nil)) .nil .nil (.cons Bho .nil)) rfl Tryz.func258 rfl (by decide) (by kernel_rfl) ?_
 simp only [Tryz.f258,Ae,lx52,lx63,Nat.reduceAdd,Nat.reduceSub,List.replicate]
 refine Ac ?_
 refine Dz (a9 e0 e1 e2 @I7 @ga0 @gs0 @ga1 @gs1 @ga2) ?_
 exact qc6
noncomputable def f258:=rdF 258 (fun _:Unit=>[]) (fun _ r=>Jq (nxt r)) (fun _ r=>r.ex) (fun _ _=>6)
theorem Bhp:Jo Tryz.prog 258 f258:=Ee _ _ _
theorem Bov (w:Nat) (r:Rd) (R:List Blk) (cnt:Nat) (hk:(nxt r).k=3) (ho:0≤r.op∧r.op < 32) (hi:r.i < 1000000):f258 [.pt 0 w 0 0] (Ck w r::R) cnt=some (Jq (nxt r),Ck w r.ex::R,cnt+6):=Hl (x:=()) (fun _ _ _=>rfl) (Bou w r R cnt hk ho hi)
def f0V (r:AV) (a:List AV):Option AV:=match a with
 | []=>some r
 | _=>none
theorem Ac0 {f:Nat} {r:AV} (h:Ba Tryz.prog f [] r):VOk Tryz.prog f (f0V r):=by
 intro a v hv
 cases a with
 | nil=>cases hv; exact h
 | cons x l=>cases hv
theorem Bow:Ba Tryz.prog 257 [] (.vw false (WG.map zA)):=vQ (lp:=[]) (lv:=[]) Ak Ak (by kernel_rfl)
theorem Bas (w:Nat) (r:Rd) (R:List Blk) (cnt:Nat) (hk:(nxt r).k=3) (ho:0≤r.op∧r.op < 32) (hi:r.i < 1000000):HSpec Tryz.prog 252 [.pt 0 w 0 0,.sc (.int .i64 6)] (Ck w r::R) cnt (Jq (nxt r)) (Ck w r.ex::R) (cnt+7):=by
 have e0:=fun R cnt=>Bov w r R cnt hk ho hi
 obtain ⟨t,ht⟩:∃ t,nxt r=t:=⟨_,rfl⟩
 rw [ht] at e0 ⊢
 simp only [Jq,Ck] at e0 ⊢
 obtain ⟨A,hA⟩:∃ A,EG r=A:=⟨_,rfl⟩
 obtain ⟨A',hA'⟩:∃ A,EG r.ex=A:=⟨_,rfl⟩
 rw [hA,hA'] at e0 ⊢
 refine Ad (Af (lit:=false) (pm:=fun _=>none) .nil .nil .nil (.cons Bhp .nil)) rfl Tryz.func252 rfl (by decide) (by kernel_rfl) ?_
 simp only [Tryz.f252,Ae,lx52,lx63,Nat.reduceAdd,Nat.reduceSub,List.replicate]
 refine Ac ?_
 refine Dz (a2 e0 @gs0) ?_
 exact qc6
noncomputable def f252:=rdF 252 (fun n:Int=>[.sc (.int .i64 n)]) (fun _ r=>Jq (nxt r)) (fun _ r=>r.ex) (fun n _=>7+2 * (6 - n).toNat)
theorem Bhq:Jo Tryz.prog 252 f252:=Ee _ _ _
theorem Bhr:∀ (m:Nat) (w:Nat) (r:Rd) (R:List Blk) (cnt:Nat) (_:m≤5) (_:(nxt r).k=3) (_:0≤r.op∧r.op < 32) (_:r.i < 1000000) (_:∀ s ∈ WG,O4 (nxt r.ex) s=false),HSpec Tryz.prog 252 [.pt 0 w 0 0,.sc (.int .i64 (6 - (m:Int)))] (Ck w r::R) cnt (Jq (nxt r)) (Ck w r.ex::R) (cnt+(7+2 * (6 - (6 - (m:Int))).toNat))
 | 0,w,r,R,cnt,_,hk,ho,hi,_=>Bas w r R cnt hk ho hi
 | m+1,w,r,R,cnt,hm,hk,ho,hi,hs=>by
  have hc:7+2 * (6 - (6 - ((m+1:Nat):Int))).toNat=7+2 * m+2:=An
  rw [hc]
  have e0:=fun R cnt=>Hl (g:=252) (enc:=fun n:Int=>[.sc (.int .i64 n)]) (res:=fun _ r=>Jq (nxt r)) (nx:=fun _ r=>r.ex) (k:=fun n _=>7+2 * (6 - n).toNat) Iy (Bhr m w r R cnt (by omega) hk ho hi hs)
  have ok:Jo Tryz.prog 252 (rdF 252 (fun n:Int=>[AV.sc (.int .i64 n)]) (fun _ r=>Jq (nxt r)) (fun _ r=>r.ex) (fun n _=>7+2 * (6 - n).toNat)):=Ee _ _ _
  obtain ⟨F,hF⟩:∃ F,(rdF 252 (fun n:Int=>[AV.sc (.int .i64 n)]) (fun _ r=>Jq (nxt r)) (fun _ r=>r.ex) (fun n _=>7+2 * (6 - n).toNat))=F:=⟨_,rfl⟩
  rw [hF] at ok e0
  have hc2:7+2 * (6 - (6 - (m:Int))).toNat=7+2 * m:=An
  simp only [hc2] at e0
  obtain ⟨n,hn⟩:∃ n:Int,6 - (m:Int)=n:=⟨_,rfl⟩
  have hn1:6 - ((m+1:Nat):Int)=n - 1:=An
  rw [hn1]
  rw [hn] at e0
  have w1:IntKind.i64.wrap (n - 1+1)=n:=B8
  have h1:decide (5 < n - 1)=false:=Ce (by omega)
  have e1:=Sk r.ex false WG (by decide)
  rw [Ann hs] at e1
  obtain ⟨L,hL⟩:∃ L,WG.map zA=L:=⟨_,rfl⟩
  have e2:f0V (.vw false L) []=some (.vw false L):=rfl
  have k257:=Ac0 Bow
  rw [hL] at e1 k257
  obtain ⟨t,ht⟩:∃ t,nxt r=t:=⟨_,rfl⟩
  rw [ht] at e0 ⊢
  simp only [Jq,Ck] at e0 ⊢
  obtain ⟨A,hA⟩:∃ A,EG r=A:=⟨_,rfl⟩
  obtain ⟨A',hA'⟩:∃ A,EG r.ex=A:=⟨_,rfl⟩
  rw [hA,hA'] at e0 ⊢
  rw [hA'] at e1
  obtain ⟨k,hk⟩:∃ k,7+2 * m=k:=⟨_,rfl⟩
  rw [hk] at e0 ⊢
  refine Ad (Af (lit:=false) (pm:=fun _=>none) (.cons Nf .nil) (.cons k257 .nil) .nil (.cons ok .nil)) rfl Tryz.func252 rfl (by decide) (by kernel_rfl) ?_
  simp only [Tryz.f252,Ae,lx52,lx63,Nat.reduceAdd,Nat.reduceSub,List.replicate]
  refine Ac ?_
  refine Dz (a5 e0 h1 w1 @ga1 @gs1) ?_
  refine Bd ?_
  refine Dz (a5 e1 e2 @ga0 @gs0 @ga1) ?_
  exact qc6
def Rd.fx (r:Rd):Rd:={ r with i:=r.i+1,op:=1,pa:=0 }
def Rd.z0 (r:Rd):Rd:={ r with op:=0,pa:=0 }
theorem Box (w:Nat) (r:Rd) (R:List Blk) (cnt:Nat) (hk:(nxt r).k=3) (ho:0≤r.op∧r.op < 32) (hi:r.i < 1000000) (hs:∀ s ∈ WG,O4 (nxt r.ex) s=false):f252 [.pt 0 w 0 0,.sc (.int .i64 1)] (Ck w r::R) cnt=some (Jq (nxt r),Ck w r.ex::R,cnt+17):=Hl (x:=1) Iy (Bhr 5 w r R cnt (by decide) hk ho hi hs)
theorem Boy (w:Nat) (r:Rd) (R:List Blk) (cnt:Nat) (hk:(nxt r).k=3) (hi:r.i < 1000000) (hs:∀ s ∈ WG,O4 (nxt r.up) s=false):HSpec Tryz.prog 239 [.pt 0 w 0 0] (Ck w r::R) cnt (Jq (nxt r)) (Ck w r.fx::R) (cnt+18):=by
 have e0:=fun R cnt=>Box w r.z0 R cnt hk ⟨show (0:Int)≤0 by decide,show (0:Int) < 32 by decide⟩ hi hs
 rw [show nxt r.z0=nxt r from rfl,show r.z0.ex=r.fx from rfl] at e0
 obtain ⟨t,ht⟩:∃ t,nxt r=t:=⟨_,rfl⟩
 rw [ht] at e0 ⊢
 simp only [Jq,H5,Rd.z0,Rd.fx] at e0 ⊢
 refine Ad (Af (lit:=false) (pm:=fun _=>none) .nil .nil .nil (.cons Bhq .nil)) rfl Tryz.func239 rfl (by decide) (by kernel_rfl) ?_
 simp only [Tryz.f239,Ae,lx52,lx63,Nat.reduceAdd,Nat.reduceSub,List.replicate]
 refine Ac ?_
 refine Dz (a2 e0 @gs0) ?_
 exact qc6
noncomputable def f239:=rdF 239 (fun _:Unit=>[]) (fun _ r=>Jq (nxt r)) (fun _ r=>r.fx) (fun _ _=>18)
theorem Bhs:Jo Tryz.prog 239 f239:=Ee _ _ _
theorem Boz (w:Nat) (r:Rd) (R:List Blk) (cnt:Nat) (hk:(nxt r).k=3) (hi:r.i < 1000000) (hs:∀ s ∈ WG,O4 (nxt r.up) s=false):f239 [.pt 0 w 0 0] (Ck w r::R) cnt=some (Jq (nxt r),Ck w r.fx::R,cnt+18):=Hl (x:=()) (fun _ _ _=>rfl) (Boy w r R cnt hk hi hs)
def LW:List ByteArray:=[⟨#[105,102]⟩,⟨#[114,101,112,101,97,116]⟩,⟨#[115,99,111,114,101]⟩,⟨#[102,105,114,101]⟩,⟨#[104,111,108,100]⟩,⟨#[114,101,108,101,97,115,101]⟩,⟨#[108,105,103,104,116]⟩,⟨#[98,108,105,110,107]⟩,⟨#[115,116,97,114,116]⟩,⟨#[115,116,111,112]⟩,⟨#[98,101,103,105,110]⟩,⟨#[101,110,100]⟩,⟨#[112,111,115,116]⟩,⟨#[112,108,97,121]⟩,⟨#[114,117,110]⟩,⟨#[104,97,108,116]⟩,⟨#[116,101,120,116]⟩,⟨#[99,111,110,115,117,109,101]⟩]
theorem At5:Ba Tryz.prog 215 [] (.vw false (LW.map zA)):=vQ (lp:=[]) (lv:=[]) Ak Ak (by kernel_rfl)
def Dg:ByteArray:=⟨#[115,99,111,114,101]⟩
def Gk:ByteArray:=⟨#[99,111,110,115,117,109,101]⟩
def BX:ByteArray:=⟨#[59]⟩
def E9 (v a1 a0:Int):AV:=.ag [.sc (.int .i64 4),.sc (.string ⟨#[]⟩),.sc (.string ⟨#[]⟩),.vw false [Jq ⟨3,⟨#[]⟩,v,a1⟩],.vw true [],.vw true [],.sc (.int .i64 a0)]
def JA (a0:Int):AV:=.ag [.sc (.int .i64 19),.sc (.string ⟨#[]⟩),.sc (.string ⟨#[]⟩),.vw true [],.vw true [],.vw true [],.sc (.int .i64 a0)]
def Rd.sc (r:Rd):Rd:={ r with i:=r.i+3,op:=1,pa:=0 }
def Rd.co (r:Rd):Rd:={ r with i:=r.i+2 }
theorem At6 (a:Int):∀ s ∈ WG,O4 ⟨5,BX,0,a⟩ s=false:=by
 intro s hs
 simp only [WG,lx59,lx112,or_false] at hs
 rcases hs with rfl | rfl | rfl | rfl | rfl | rfl | rfl | rfl | rfl | rfl | rfl | rfl | rfl <;> rfl
theorem Bht (w:Nat) (r:Rd) (R:List Blk) (cnt:Nat) (dp:Int) (hd:dp≤8) (a0 v a1 a2:Int) (h0:nxt r=⟨2,Dg,0,a0⟩) (h1:nxt r.up=⟨3,⟨#[]⟩,v,a1⟩) (h2:nxt r.up.up=⟨5,BX,0,a2⟩) (hi:r.i < 900000):HSpec Tryz.prog 216 [.pt 0 w 0 0,.sc (.int .i64 dp)] (Ck w r::R) cnt (E9 v a1 a0) (Ck w r.sc::R) (cnt+21):=by
 have g1:=Wc r dp 8
 have g2:=ZB r
 have g3:=Ta r
 have g4:=Sk r false LW (by decide)
 rw [h0] at g3 g4
 rw [show Wd ⟨2,Dg,0,a0⟩ LW=2 from rfl] at g4
 have g5:=fun R cnt=>Boz w r.up R cnt (by rw [h1]) (by show r.i+1 < 1000000; omega) (by rw [h2]; exact At6 a2)
 rw [h1] at g5
 have g6:=fun R cnt=>Sv w r.up.fx R BX cnt (by rw [Nd,show nxt r.up.fx=nxt r.up.up from rfl,h2]; rfl) (by show r.i+1+1 < 1000000; omega)
 rw [show r.up.fx.up=r.sc from rfl] at g6
 obtain ⟨L,hL⟩:∃ L,LW.map zA=L:=⟨_,rfl⟩
 have k215:=Ac0 At5
 rw [hL] at g4 k215
 have g7:f0V (.vw false L) []=some (.vw false L):=rfl
 have w1:IntKind.i64.wrap ((r.i:Int)+1)=((r.i+1:Nat):Int):=B8
 have w2:IntKind.i64.wrap 4=4:=rfl
 have g1:=fun c=>g1 c hd
 simp only [Ey] at g3
 simp only [E4,H5,Rd.up,Rd.fx,Rd.sc,BX] at g1 g2 g3 g4 g5 g6 ⊢
 simp only [E9]
 obtain ⟨X,hX⟩:∃ X,Jq ⟨3,⟨#[]⟩,v,a1⟩=X:=⟨_,rfl⟩
 have hX5:X.cells.length=5:=L5
 have hXs:X.stor=true:=L5
 have hXn:X.noref=true:=L5
 rw [hX] at g5 ⊢
 refine Ad (Af (lit:=true) (pm:=fun _=>none) (.cons Sh (.cons Sf (.cons Nc (.cons Nf .nil)))) (.cons k215 .nil) .nil (.cons Bhs (.cons UO .nil))) rfl Tryz.func216 rfl (by decide) (by kernel_rfl) ?_
 simp only [Tryz.f216,Ae,lx52,lx63,Nat.reduceAdd,Nat.reduceSub,List.replicate]
 refine Ac ?_
 refine Dz (a17 g1 g2 g3 g4 g5 g6 g7 w1 w2 hX5 hXs hXn @lsA @ga0 @gs0 @ga1 @gs1) ?_
 exact qc6
theorem Bhu (w:Nat) (r:Rd) (R:List Blk) (cnt:Nat) (dp:Int) (hd:dp≤8) (a0 a2:Int) (h0:nxt r=⟨2,Gk,0,a0⟩) (h2:nxt r.up=⟨5,BX,0,a2⟩) (hi:r.i < 900000):HSpec Tryz.prog 216 [.pt 0 w 0 0,.sc (.int .i64 dp)] (Ck w r::R) cnt (JA a0) (Ck w r.co::R) (cnt+2):=by
 have g1:=Wc r dp 8
 have g2:=ZB r
 have g3:=Ta r
 have g4:=Sk r false LW (by decide)
 rw [h0] at g3 g4
 rw [show Wd ⟨2,Gk,0,a0⟩ LW=17 from rfl] at g4
 have g6:=fun R cnt=>Sv w r.up R BX cnt (by rw [Nd,h2]; rfl) (by show r.i+1 < 1000000; omega)
 rw [show r.up.up=r.co from rfl] at g6
 obtain ⟨L,hL⟩:∃ L,LW.map zA=L:=⟨_,rfl⟩
 have k215:=Ac0 At5
 rw [hL] at g4 k215
 have g7:f0V (.vw false L) []=some (.vw false L):=rfl
 have w1:IntKind.i64.wrap ((r.i:Int)+1)=((r.i+1:Nat):Int):=B8
 have w2:IntKind.i64.wrap 19=19:=rfl
 have g1:=fun c=>g1 c hd
 simp only [Ey] at g3
 simp only [E4,H5,Rd.up,Rd.co,BX] at g1 g2 g3 g4 g6 ⊢
 simp only [JA]
 refine Ad (Af (lit:=true) (pm:=fun _=>none) (.cons Sh (.cons Sf (.cons Nc (.cons Nf .nil)))) (.cons k215 .nil) .nil (.cons UO .nil)) rfl Tryz.func216 rfl (by decide) (by kernel_rfl) ?_
 simp only [Tryz.f216,Ae,lx52,lx63,Nat.reduceAdd,Nat.reduceSub,List.replicate]
 refine Ac ?_
 refine Dz (Jl g1 g2 g3 g4 g6 g7 w1 w2 @lsA @ga0 @gs0 @ga1 @gs1) ?_
 exact qc6
def scB (r:Rd):Bool:=E8 (nxt r).tx.data.toList Dg.data.toList
def stR (r:Rd):AV:=bif scB r then E9 (nxt r.up).v (nxt r.up).at' (nxt r).at' else JA (nxt r).at'
def Ain (r:Rd):Rd:=bif scB r then r.sc else r.co
def stK (r:Rd):Nat:=bif scB r then 21 else 2
noncomputable def f216:=rdF 216 (fun n:Int=>[.sc (.int .i64 n)]) (fun _ r=>stR r) (fun _ r=>Ain r) (fun _ r=>stK r)
theorem Ax9:Jo Tryz.prog 216 f216:=Ee _ _ _
theorem Axa (w:Nat) (r:Rd) (R:List Blk) (cnt:Nat) (dp:Int) (hd:dp≤8) (a0 v a1 a2:Int) (h0:nxt r=⟨2,Dg,0,a0⟩) (h1:nxt r.up=⟨3,⟨#[]⟩,v,a1⟩) (h2:nxt r.up.up=⟨5,BX,0,a2⟩) (hi:r.i < 900000):f216 [.pt 0 w 0 0,.sc (.int .i64 dp)] (Ck w r::R) cnt=some (E9 v a1 a0,Ck w r.sc::R,cnt+21):=by
 have hb:scB r=true:=by rw [scB,h0]; rfl
 have e1:stR r=E9 v a1 a0:=by rw [stR,hb,h0,h1]; rfl
 have e2:Ain r=r.sc:=by rw [Ain,hb]; rfl
 have e3:stK r=21:=by rw [stK,hb]; rfl
 have h:=Bht w r R cnt dp hd a0 v a1 a2 h0 h1 h2 hi
 exact Bcv
theorem Bhv (w:Nat) (r:Rd) (R:List Blk) (cnt:Nat) (dp:Int) (hd:dp≤8) (a0 a2:Int) (h0:nxt r=⟨2,Gk,0,a0⟩) (h2:nxt r.up=⟨5,BX,0,a2⟩) (hi:r.i < 900000):f216 [.pt 0 w 0 0,.sc (.int .i64 dp)] (Ck w r::R) cnt=some (JA a0,Ck w r.co::R,cnt+2):=by
 have hb:scB r=false:=by rw [scB,h0]; rfl
 have e1:stR r=JA a0:=by rw [stR,hb,h0]; rfl
 have e2:Ain r=r.co:=by rw [Ain,hb]; rfl
 have e3:stK r=2:=by rw [stK,hb]; rfl
 have h:=Bhu w r R cnt dp hd a0 a2 h0 h2 hi
 exact Bcv
def Oe:ByteArray:=⟨#[123]⟩
def Gw:ByteArray:=⟨#[125]⟩
theorem Qn (id ver:Nat) (els:List AV) (lo:Nat) (l:List Blk):∀ (A:List Blk) (i:Nat),i+A.length≤lo→lo≤id→IV id ver els lo i (A++l)=A++IV id ver els lo (i+A.length) l
 | [],i,_,_=>by simp
 | b::A,i,h,h'=>by
  rw [lx90,IV,if_neg (by rw [lx52] at h; omega),if_pos (by rw [lx52] at h; omega),Qn id ver els lo l A (i+1) (by rw [lx52] at h; omega) h',lx52,lx90]
  congr 3
  omega
theorem ZQ {f:Nat} {args:List AV} {H A:List Blk} {cnt cnt':Nat} {id v n t e:Nat} {es:List AV} (h:HSpec Tryz.prog f args H cnt (.sl id v 0 n) (A++[⟨true,v,t,e,es,false⟩]) cnt') (hid:id=A.length) (hH:H.length≤A.length) (hn:norefs es=true) (hl:n=es.length):
  HSpec Tryz.prog f args H cnt (.vw false es) A cnt':=by
 subst hid
 have:=h.frz A.length A.length ⟨true,v,t,e,es,false⟩ (by simp) rfl hH hn
 rw [Qn _ _ _ _ _ _ _ (by omega) (Av _)] at this
 have e1:Pl A.length v es (.sl A.length v 0 n)=.vw false es:=by
  simp only [Pl,Er,and_self,lx8,lx72]
  rw [hl,lx73]
 rw [e1] at this
 exact this.wk (.refl _) (Ci _ _ _) (Av _)
def Rd.b1 (r:Rd):Rd:={ r with i:=r.i+5,op:=1,pa:=0 }
def Rd.b2 (r:Rd):Rd:={ r with i:=r.i+7,op:=1,pa:=0 }
theorem Bhw (w:Nat) (r:Rd) (R:List Blk) (cnt:Nat) (dp:Int) (hd:dp≤8) (b0 a0 v a1 a2 b1:Int) (h0:nxt r=⟨5,Oe,0,b0⟩) (h1:nxt r.up=⟨2,Dg,0,a0⟩) (h2:nxt r.up.up=⟨3,⟨#[]⟩,v,a1⟩) (h3:nxt r.up.up.up=⟨5,BX,0,a2⟩) (h4:nxt r.up.up.up.up=⟨5,Gw,0,b1⟩) (hi:r.i < 800000):
  HSpec Tryz.prog 182 [.pt 0 w 0 0,.sc (.int .i64 dp)] (Ck w r::R) cnt (.sl (R.length+1) (cnt+22) 0 1) (Ck w r.b1::(R++[⟨true,cnt+22,167,7,[E9 v a1 a0],false⟩])) (cnt+23):=by
 have g1:=fun R cnt=>Sv w r R Oe cnt (by rw [Nd,h0]; rfl) (by omega)
 have g2:=ZB r.up
 have g3:=Sg r.up Gw
 rw [Nd,h1,show O4 ⟨2,Dg,0,a0⟩ Gw=false from rfl] at g3
 have g4:=Sk r.up false LW (by decide)
 rw [h1,show Wd ⟨2,Dg,0,a0⟩ LW=2 from rfl] at g4
 have g5:=fun c=>Wc r.up 1 64 c (by decide)
 have g6:=fun R cnt=>Axa w r.up R cnt dp hd a0 v a1 a2 h1 h2 h3 (by show r.i+1 < 900000; omega)
 have g7:=ZB r.up.sc
 have g8:=Sg r.up.sc Gw
 rw [Nd,show nxt r.up.sc=nxt r.up.up.up.up from rfl,h4,show O4 ⟨5,Gw,0,b1⟩ Gw=true from rfl] at g8
 have g9:=fun R cnt=>Sv w r.up.sc R Gw cnt (by rw [Nd,show nxt r.up.sc=nxt r.up.up.up.up from rfl,h4]; rfl) (by show r.i+1+3 < 1000000; omega)
 rw [show r.up.sc.up=r.b1 from rfl] at g9
 obtain ⟨L,hL⟩:∃ L,LW.map zA=L:=⟨_,rfl⟩
 have k215:=Ac0 At5
 rw [hL] at g4 k215
 have k1:f0V (.vw false L) []=some (.vw false L):=rfl
 have w1:IntKind.i64.wrap 1=1:=rfl
 obtain ⟨X,hX⟩:∃ X,E9 v a1 a0=X:=⟨_,rfl⟩
 have hX5:X.cells.length=7:=L5
 have hXs:X.stor=true:=L5
 have hXn:X.noref=true:=L5
 rw [hX] at g6 ⊢
 simp only [Ck,Oe,Gw] at g1 g2 g3 g4 g5 g6 g7 g8 g9 ⊢
 obtain ⟨A0,hA0⟩:∃ A,EG r=A:=⟨_,rfl⟩
 obtain ⟨A1,hA1⟩:∃ A,EG r.up=A:=⟨_,rfl⟩
 obtain ⟨A2,hA2⟩:∃ A,EG r.up.sc=A:=⟨_,rfl⟩
 obtain ⟨A3,hA3⟩:∃ A,EG r.b1=A:=⟨_,rfl⟩
 simp only [hA0,hA1,hA2,hA3] at g1 g2 g3 g4 g5 g6 g7 g8 g9 ⊢
 refine Ad (Af (lit:=true) (pm:=fun _=>none) (.cons Sf (.cons UF (.cons Nf (.cons Sh .nil)))) (.cons k215 .nil) .nil (.cons Ax9 (.cons UO .nil))) rfl Tryz.func182 rfl (by decide) (by kernel_rfl) ?_
 refine Be0 ?_
 exact Pd (a3 g7 g8 g9)
 repeat' (first | exact Aa (by kernel_rfl) | refine ⟨Aa (by kernel_rfl),?_⟩ | refine And.intro ?_ ?_ | fail)
 all_goals exact WM
theorem Bhx (w:Nat) (r:Rd) (R:List Blk) (cnt:Nat) (dp:Int) (hd:dp≤8) (b0 a0 v a1 a2 c0 c1 b1:Int) (h0:nxt r=⟨5,Oe,0,b0⟩) (h1:nxt r.up=⟨2,Dg,0,a0⟩) (h2:nxt r.up.up=⟨3,⟨#[]⟩,v,a1⟩) (h3:nxt r.up.up.up=⟨5,BX,0,a2⟩) (h4:nxt r.up.up.up.up=⟨2,Gk,0,c0⟩) (h5:nxt r.up.up.up.up.up=⟨5,BX,0,c1⟩) (h6:nxt r.up.up.up.up.up.up=⟨5,Gw,0,b1⟩) (hi:r.i < 800000):
  HSpec Tryz.prog 182 [.pt 0 w 0 0,.sc (.int .i64 dp)] (Ck w r::R) cnt (.sl (R.length+1) (cnt+26) 0 2) (Ck w r.b2::(R++[⟨true,cnt+26,167,7,[E9 v a1 a0,JA c0],false⟩])) (cnt+27):=by
 have g1:=fun R cnt=>Sv w r R Oe cnt (by rw [Nd,h0]; rfl) (by omega)
 have g2:=ZB r.up
 have g3:=Sg r.up Gw
 rw [Nd,h1,show O4 ⟨2,Dg,0,a0⟩ Gw=false from rfl] at g3
 have g4:=Sk r.up false LW (by decide)
 rw [h1,show Wd ⟨2,Dg,0,a0⟩ LW=2 from rfl] at g4
 have g5:=fun c=>Wc r.up 1 64 c (by decide)
 have g6:=fun R cnt=>Axa w r.up R cnt dp hd a0 v a1 a2 h1 h2 h3 (by show r.i+1 < 900000; omega)
 have g7:=ZB r.up.sc
 have g8:=Sg r.up.sc Gw
 rw [Nd,show nxt r.up.sc=nxt r.up.up.up.up from rfl,h4,show O4 ⟨2,Gk,0,c0⟩ Gw=false from rfl] at g8
 have l4:=Sk r.up.sc false LW (by decide)
 rw [show nxt r.up.sc=nxt r.up.up.up.up from rfl,h4,show Wd ⟨2,Gk,0,c0⟩ LW=17 from rfl] at l4
 have l5:=fun c=>Wc r.up.sc 2 64 c (by decide)
 have l6:=fun R cnt=>Bhv w r.up.sc R cnt dp hd c0 c1 h4 h5 (by show r.i+1+3 < 900000; omega)
 have l7:=ZB r.up.sc.co
 have l8:=Sg r.up.sc.co Gw
 rw [Nd,show nxt r.up.sc.co=nxt r.up.up.up.up.up.up from rfl,h6,show O4 ⟨5,Gw,0,b1⟩ Gw=true from rfl] at l8
 have g9:=fun R cnt=>Sv w r.up.sc.co R Gw cnt (by rw [Nd,show nxt r.up.sc.co=nxt r.up.up.up.up.up.up from rfl,h6]; rfl) (by show r.i+1+3+2 < 1000000; omega)
 rw [show r.up.sc.co.up=r.b2 from rfl] at g9
 obtain ⟨L,hL⟩:∃ L,LW.map zA=L:=⟨_,rfl⟩
 have k215:=Ac0 At5
 rw [hL] at g4 l4 k215
 have k1:f0V (.vw false L) []=some (.vw false L):=rfl
 have w1:IntKind.i64.wrap 1=1:=rfl
 have w2:IntKind.i64.wrap 2=2:=rfl
 obtain ⟨X,hX⟩:∃ X,E9 v a1 a0=X:=⟨_,rfl⟩
 have hX5:X.cells.length=7:=L5
 have hXs:X.stor=true:=L5
 have hXn:X.noref=true:=L5
 rw [hX] at g6 ⊢
 obtain ⟨Y,hY⟩:∃ X,JA c0=X:=⟨_,rfl⟩
 have hY5:Y.cells.length=7:=by rw [←hY]; rfl
 have hYs:Y.stor=true:=by rw [←hY]; rfl
 have hYn:Y.noref=true:=by rw [←hY]; rfl
 rw [hY] at l6 ⊢
 simp only [Ck,Oe,Gw] at g1 g2 g3 g4 g5 g6 g7 g8 g9 l4 l5 l6 l7 l8 ⊢
 obtain ⟨A0,hA0⟩:∃ A,EG r=A:=⟨_,rfl⟩
 obtain ⟨A1,hA1⟩:∃ A,EG r.up=A:=⟨_,rfl⟩
 obtain ⟨A2,hA2⟩:∃ A,EG r.up.sc=A:=⟨_,rfl⟩
 obtain ⟨A3,hA3⟩:∃ A,EG r.b2=A:=⟨_,rfl⟩
 obtain ⟨A4,hA4⟩:∃ A,EG r.up.sc.co=A:=⟨_,rfl⟩
 simp only [hA0,hA1,hA2,hA3,hA4] at g1 g2 g3 g4 g5 g6 g7 g8 g9 l4 l5 l6 l7 l8 ⊢
 refine Ad (Af (lit:=true) (pm:=fun _=>none) (.cons Sf (.cons UF (.cons Nf (.cons Sh .nil)))) (.cons k215 .nil) .nil (.cons Ax9 (.cons UO .nil))) rfl Tryz.func182 rfl (by decide) (by kernel_rfl) ?_
 refine Be0 ?_
 refine Dz (Jl g7 g8 l4 k1 l5 l6 w2 hXn hY5 hYs hYn @lsA @gs0) ?_
 refine AD ?_
 exact Pd (a3 l7 l8 g9)
 repeat' (first | exact Aa (by kernel_rfl) | refine ⟨Aa (by kernel_rfl),?_⟩ | refine And.intro ?_ ?_ | fail)
 all_goals exact WM
def coB (r:Rd):Bool:=E8 (nxt r.up.up.up.up).tx.data.toList Gk.data.toList
def bkR (r:Rd):AV:=.vw false (E9 (nxt r.up.up).v (nxt r.up.up).at' (nxt r.up).at'::bif coB r then [JA (nxt r.up.up.up.up).at'] else [])
def bkX (r:Rd):Rd:=bif coB r then r.b2 else r.b1
def bkK (r:Rd):Nat:=bif coB r then 27 else 23
noncomputable def f182:=rdF 182 (fun n:Int=>[.sc (.int .i64 n)]) (fun _ r=>bkR r) (fun _ r=>bkX r) (fun _ r=>bkK r)
theorem Bhy:Jo Tryz.prog 182 f182:=Ee _ _ _
theorem Bhz (w:Nat) (r:Rd) (R:List Blk) (cnt:Nat) (dp:Int) (hd:dp≤8) (b0 a0 v a1 a2 b1:Int) (h0:nxt r=⟨5,Oe,0,b0⟩) (h1:nxt r.up=⟨2,Dg,0,a0⟩) (h2:nxt r.up.up=⟨3,⟨#[]⟩,v,a1⟩) (h3:nxt r.up.up.up=⟨5,BX,0,a2⟩) (h4:nxt r.up.up.up.up=⟨5,Gw,0,b1⟩) (hi:r.i < 800000):
  f182 [.pt 0 w 0 0,.sc (.int .i64 dp)] (Ck w r::R) cnt=some (.vw false [E9 v a1 a0],Ck w r.b1::R,cnt+23):=by
 have hb:coB r=false:=by rw [coB,h4]; rfl
 have e1:bkR r=.vw false [E9 v a1 a0]:=by rw [bkR,hb,h1,h2]; rfl
 have e2:bkX r=r.b1:=by rw [bkX,hb]; rfl
 have e3:bkK r=23:=by rw [bkK,hb]; rfl
 have h:=ZQ (A:=Ck w r.b1::R) (Bhw w r R cnt dp hd b0 a0 v a1 a2 b1 h0 h1 h2 h3 h4 hi) (by simp) (by simp) (by rfl) rfl
 exact Bcw
theorem Bi0 (w:Nat) (r:Rd) (R:List Blk) (cnt:Nat) (dp:Int) (hd:dp≤8) (b0 a0 v a1 a2 c0 c1 b1:Int) (h0:nxt r=⟨5,Oe,0,b0⟩) (h1:nxt r.up=⟨2,Dg,0,a0⟩) (h2:nxt r.up.up=⟨3,⟨#[]⟩,v,a1⟩) (h3:nxt r.up.up.up=⟨5,BX,0,a2⟩) (h4:nxt r.up.up.up.up=⟨2,Gk,0,c0⟩) (h5:nxt r.up.up.up.up.up=⟨5,BX,0,c1⟩) (h6:nxt r.up.up.up.up.up.up=⟨5,Gw,0,b1⟩) (hi:r.i < 800000):
  f182 [.pt 0 w 0 0,.sc (.int .i64 dp)] (Ck w r::R) cnt=some (.vw false [E9 v a1 a0,JA c0],Ck w r.b2::R,cnt+27):=by
 have hb:coB r=true:=by rw [coB,h4]; rfl
 have e1:bkR r=.vw false [E9 v a1 a0,JA c0]:=by rw [bkR,hb,h1,h2,h4]; rfl
 have e2:bkX r=r.b2:=by rw [bkX,hb]; rfl
 have e3:bkK r=27:=by rw [bkK,hb]; rfl
 have h:=ZQ (A:=Ck w r.b2::R) (Bhx w r R cnt dp hd b0 a0 v a1 a2 c0 c1 b1 h0 h1 h2 h3 h4 h5 h6 hi) (by simp) (by simp) (by rfl) rfl
 exact Bcw
def Aaf:List ByteArray:=[⟨#[115,116,97,114,116]⟩,⟨#[115,116,111,112]⟩,⟨#[99,108,111,115,101]⟩,⟨#[111,112,101,110]⟩,⟨#[116,105,109,101,114]⟩,⟨#[101,118,101,110,116]⟩]
theorem Bp0:Ba Tryz.prog 165 [] (.vw false (Aaf.map zA)):=vQ (lp:=[]) (lv:=[]) Ak Ak (by kernel_rfl)
def Dk:ByteArray:=⟨#[109,111,100,101]⟩
def Tg:ByteArray:=⟨#[111,110]⟩
def Bv:ByteArray:=⟨#[101,118,101,110,116]⟩
theorem ZR {f:Nat} {args:List AV} {H A l:List Blk} {cnt cnt':Nat} {r:AV} (h:HSpec Tryz.prog f args H cnt r (A++l) cnt') (k:Nat) (B:Blk) (hB:l[k]?=some B) (hl:B.live=true) (hH:H.length≤A.length) (hn:norefs B.els=true):
  HSpec Tryz.prog f args H cnt (Pl (A.length+k) B.ver B.els r) A cnt':=by
 have:=h.frz A.length (A.length+k) B (by rw [apK _ _ _ k rfl]; exact hB) hl (by omega) hn
 rw [Qn _ _ _ _ _ _ _ (by omega) (by omega)] at this
 exact this.wk (.refl _) (Ci _ _ _) (Av _)
def Rd.u (r:Rd) (k:Nat):Rd:={ r with i:=r.i+k }
def SQ (nm:ByteArray) (bk:AV) (a:Int):AV:=.ag [.sc (.int .i64 6),.sc (.string nm),bk,.sc (.int .i64 a)]
def Wn (nm:ByteArray) (p:Int) (hs:AV) (a:Int):AV:=.ag [.sc (.string nm),.sc (.int .i64 p),hs,.sc (.int .i64 a)]
structure MoT (r:Rd) (nm:ByteArray) (p:Int) (ev:ByteArray) (a0 a4:Int):Prop where
 t0:nxt r=⟨2,Dk,0,a0⟩
 t1:∃ a,nxt (r.u 1)=⟨1,nm,0,a⟩
 t2:∃ a,nxt (r.u 2)=⟨3,⟨#[]⟩,p,a⟩
 t3:∃ a,nxt (r.u 3)=⟨5,Oe,0,a⟩
 t4:nxt (r.u 4)=⟨2,Tg,0,a4⟩
 t5:∃ a,nxt (r.u 5)=⟨2,Bv,0,a⟩
 t6:∃ a,nxt (r.u 6)=⟨1,ev,0,a⟩
theorem Bp1 (w:Nat) (r:Rd) (R:List Blk) (cnt:Nat) (nm ev:ByteArray) (p a0 a4:Int) (h:MoT r nm p ev a0 a4) (hi:r.i < 700000) (bk:List AV) (hbk:norefs bk=true) (r':Rd) (kb:Nat) (he:∃ a,nxt r'=⟨5,Gw,0,a⟩) (hi':r'.i < 900000)
  (hb:∀ R cnt,f182 [.pt 0 w 0 0,.sc (.int .i64 1)] (Ck w (r.u 7)::R) cnt=some (.vw false bk,Ck w r'::R,cnt+kb)):
  HSpec Tryz.prog 139 [.pt 0 w 0 0] (Ck w r::R) cnt (Wn nm p (.sl (R.length+3+1) (cnt+1+1+2+2+1+2+kb+1) 0 1) a0) (Ck w r'.up::(R++[dead,dead,dead,⟨true,(cnt+1+1+2+2+1+2+kb+1),120,4,[SQ ev (.vw false bk) a4],false⟩])) (cnt+1+1+2+2+1+2+kb+1+1):=by
 obtain ⟨t0,⟨a1,t1⟩,⟨a2,t2⟩,⟨a3,t3⟩,t4,⟨a5,t5⟩,⟨a6,t6⟩⟩:=h
 obtain ⟨ae,he⟩:=he
 have g0:=Ta r
 have g1:=fun R cnt=>Sv w r R Dk cnt (by rw [Nd,t0]; rfl) (by omega)
 have g2:=fun R cnt=>Bar w (r.u 1) R cnt (by rw [t1]) (by show r.i+1 < 1000000; omega)
 have g3:=fun R cnt=>Bhm w (r.u 2) R 3 cnt (by rw [t2]) (by show r.i+2 < 1000000; omega)
 have g4:=fun R cnt=>Sv w (r.u 3) R Oe cnt (by rw [Nd,t3]; rfl) (by show r.i+3 < 1000000; omega)
 have g5:=ZB (r.u 4)
 have g6:=Sg (r.u 4) Gw
 have g7:=Sg (r.u 4) Tg
 have g8:=fun c=>Wc (r.u 4) 1 32 c (by decide)
 have g9:=Ta (r.u 4)
 have g10:=fun R cnt=>Sv w (r.u 4) R Tg cnt (by rw [Nd,t4]; rfl) (by show r.i+4 < 1000000; omega)
 have g11:=Sk (r.u 5) false Aaf (by decide)
 have g12:=fun R cnt=>Bar w (r.u 6) R cnt (by rw [t6]) (by show r.i+6 < 1000000; omega)
 have g13:=ZB r'
 have g14:=Sg r' Gw
 have g15:=fun R cnt=>Sv w r' R Gw cnt (by rw [Nd,he]; rfl) (by omega)
 rw [t0] at g0
 rw [t1] at g2
 rw [t2] at g3
 rw [Nd,t4,show O4 ⟨2,Tg,0,a4⟩ Gw=false from rfl] at g6
 rw [Nd,t4,show O4 ⟨2,Tg,0,a4⟩ Tg=true from rfl] at g7
 rw [t4] at g9
 rw [t5,show Wd ⟨2,Bv,0,a5⟩ Aaf=5 from rfl] at g11
 rw [t6] at g12
 rw [Nd,he,show O4 ⟨5,Gw,0,ae⟩ Gw=true from rfl] at g14
 rw [show r.up=r.u 1 from rfl] at g1
 rw [show (r.u 1).up=r.u 2 from rfl] at g2
 rw [show (r.u 2).up=r.u 3 from rfl] at g3
 rw [show (r.u 3).up=r.u 4 from rfl] at g4
 rw [show (r.u 4).up=r.u 5 from rfl] at g10
 rw [show (r.u 6).up=r.u 7 from rfl] at g12
 obtain ⟨L,hL⟩:∃ L,Aaf.map zA=L:=⟨_,rfl⟩
 have k165:=Ac0 Bp0
 rw [hL] at g11 k165
 have k1:f0V (.vw false L) []=some (.vw false L):=rfl
 have w1:IntKind.i64.wrap (((r.i+5:Nat):Int)+1)=((r.i+6:Nat):Int):=B8
 have w2:IntKind.i64.wrap 6=6:=rfl
 have w3:IntKind.i64.wrap 1=1:=rfl
 have hi5:Ck w (r.u 5)=⟨true,w,173,7,[.ag [.vw r.z (r.T.map Ey),.sc (.int .i64 r.en),.sc (.int .i64 ((r.i+5:Nat):Int)),.sc (.int .i64 0),.sc (.int .i64 0),.sc (.int .i64 r.op),.sc (.int .i64 r.pa)]],false⟩:=rfl
 have hi6:Ck w (r.u 6)=⟨true,w,173,7,[.ag [.vw r.z (r.T.map Ey),.sc (.int .i64 r.en),.sc (.int .i64 ((r.i+6:Nat):Int)),.sc (.int .i64 0),.sc (.int .i64 0),.sc (.int .i64 r.op),.sc (.int .i64 r.pa)]],false⟩:=rfl
 have ha5:EG (r.u 5)=.ag [.vw r.z (r.T.map Ey),.sc (.int .i64 r.en),.sc (.int .i64 ((r.i+5:Nat):Int)),.sc (.int .i64 0),.sc (.int .i64 0),.sc (.int .i64 r.op),.sc (.int .i64 r.pa)]:=rfl
 rw [hi5] at g10
 rw [ha5] at g11
 rw [hi6] at g12
 simp only [Ey] at g0 g3 g9
 simp only [Wn,SQ]
 simp only [Ck,Dk,Oe,Gw,Tg] at g1 g2 g3 g4 g6 g7 g10 g12 g14 g15 hb ⊢
 refine Ad (Af (lit:=true) (pm:=fun _=>none) (.cons Nc (.cons Sf (.cons UF (.cons Nf (.cons Sh .nil))))) (.cons k165 .nil) .nil (.cons UO (.cons Ax7 (.cons Ax6 (.cons Bhy .nil))))) rfl Tryz.func139 rfl (by decide) (by kernel_rfl) ?_
 simp only [Tryz.f139,Ae,lx52,lx63,Nat.reduceAdd,Nat.reduceSub,List.replicate]
 obtain ⟨A0,hA0⟩:∃ A,EG r=A:=⟨_,rfl⟩
 obtain ⟨A1,hA1⟩:∃ A,EG (r.u 1)=A:=⟨_,rfl⟩
 obtain ⟨A2,hA2⟩:∃ A,EG (r.u 2)=A:=⟨_,rfl⟩
 obtain ⟨A3,hA3⟩:∃ A,EG (r.u 3)=A:=⟨_,rfl⟩
 obtain ⟨A4,hA4⟩:∃ A,EG (r.u 4)=A:=⟨_,rfl⟩
 obtain ⟨A7,hA7⟩:∃ A,EG (r.u 7)=A:=⟨_,rfl⟩
 obtain ⟨A8,hA8⟩:∃ A,EG r'=A:=⟨_,rfl⟩
 obtain ⟨A9,hA9⟩:∃ A,EG r'.up=A:=⟨_,rfl⟩
 simp only [hA0,hA1,hA2,hA3,hA4,hA7,hA8,hA9] at g0 g1 g2 g3 g4 g5 g6 g7 g8 g9 g10 g12 g13 g14 g15 hb ⊢
 refine Ac ?_
 refine Dz (a8 g0 g1 g2 g3 g4 @lsA @ga1 @gs1) ?_
 refine Bd ?_
 refine Dz (a18 g5 g6 g7 g8 g9 g10 g11 k1 w1 w2 w3 g12 hb @lsA @ga1 @gs1 @ga2 @gs2) ?_
 refine AD ?_
 refine Dz (a7 g13 g14 g15 @lsA @ga0 @gs0 @ga1) ?_
 repeat' (first | exact Aa (by kernel_rfl) | refine ⟨Aa (by kernel_rfl),?_⟩ | refine And.intro ?_ ?_ | fail)
 all_goals first | exact .refl _ | (refine Kj _ ?_ _; exact ⟨.inl rfl,.inl rfl,.inl rfl,.inr (.inl rfl),trivial⟩) | omega | skip
def moK (kb:Nat):Nat:=kb+11
theorem Bi2 (w:Nat) (r:Rd) (R:List Blk) (cnt:Nat) (nm ev:ByteArray) (p a0 a4:Int) (h:MoT r nm p ev a0 a4) (hi:r.i < 700000) (bk:List AV) (hbk:norefs bk=true) (r':Rd) (kb:Nat) (he:∃ a,nxt r'=⟨5,Gw,0,a⟩) (hi':r'.i < 900000)
  (hb:∀ R cnt,f182 [.pt 0 w 0 0,.sc (.int .i64 1)] (Ck w (r.u 7)::R) cnt=some (.vw false bk,Ck w r'::R,cnt+kb)):
  HSpec Tryz.prog 139 [.pt 0 w 0 0] (Ck w r::R) cnt (Wn nm p (.vw false [SQ ev (.vw false bk) a4]) a0) (Ck w r'.up::R) (cnt+moK kb):=by
 have h1:=Bp1 w r R cnt nm ev p a0 a4 h hi bk hbk r' kb he hi' hb
 have h2:=ZR (A:=Ck w r'.up::R) (l:=[dead,dead,dead,⟨true,cnt+1+1+2+2+1+2+kb+1,120,4,[SQ ev (.vw false bk) a4],false⟩]) h1 3 _ rfl rfl (by simp) (by simp [norefs,AV.noref,SQ,hbk])
 have e:Pl ((Ck w r'.up::R).length+3) (cnt+1+1+2+2+1+2+kb+1) [SQ ev (.vw false bk) a4] (Wn nm p (.sl (R.length+3+1) (cnt+1+1+2+2+1+2+kb+1) 0 1) a0)=Wn nm p (.vw false [SQ ev (.vw false bk) a4]) a0:=by
  have:R.length+3+1=(Ck w r'.up::R).length+3:=AZ
  rw [this]
  simp [Pl,Wn,Er,D3]
 simp only at h2
 rw [e] at h2
 rw [show cnt+moK kb=cnt+1+1+2+2+1+2+kb+1+1 by unfold moK; omega]
 exact h2
end Go.Proofs.YtdjpkhjaibdogaaGreat
