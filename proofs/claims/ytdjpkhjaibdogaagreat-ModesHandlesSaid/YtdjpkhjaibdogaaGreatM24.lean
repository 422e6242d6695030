/-
  Lemmas towards ModesHandles (joined texts: BD, BE, BF, BG).
  Conditions: none.
-/
import Derived.Test.YtdjpkhjaibdogaaGreatM01
import Derived.Test.YtdjpkhjaibdogaaGreatM02
import Derived.Test.YtdjpkhjaibdogaaGreatM23
set_option linter.unusedSimpArgs false
set_option linter.unusedVariables false
set_option maxRecDepth 100000
set_option maxHeartbeats 8000000
namespace Go.Proofs.YtdjpkhjaibdogaaGreat
open Go Go.SX
attribute [local congr] ite_congr
def byN (b:ByteArray) (i:Nat):Nat:=(b.data.toList.getD i 0).toNat
theorem MB (H:List Blk) (b:ByteArray) (ag sz by' z fl):Agi Tryz.prog 9 H (.sc (.string b)) (some ⟨ag,sz,by',z,none,none,fl⟩)=some (.sc (.int .i64 b.size)):=by
 have h:B8 Tryz.prog (Builtin.len_ #[9] 0 #[.string b])=some (goInt b.size):=by
  unfold B8 Builtin.len_
  simp [Ak,An,AF,un9]
 simp only [Agi,Cr,h]
 rfl
theorem Ab5 (b:ByteArray) (k:IntKind) (i:Nat) (h:decide (i < b.size)=true) (ag sz by' z fl):iaD Tryz.prog 9 (.sc (.string b)) (.sc (.int k i)) (some ⟨ag,sz,by',z,none,none,fl⟩)=some (.sc (.int .u8 (byN b i))):=by
 simp only [AR] at h
 have h:B8 Tryz.prog (Instr.index 9 (.string b) (.int k i))=some (.int .u8 (byN b i)):=by
  unfold B8 Instr.index
  have hl:i < b.data.toList.length:=h
  have h3:b[i]?=some (b.data.toList.getD i 0):=by
   rw [getElem?_pos b i h,lx80,lx51 hl,lx10]; rfl
  have h0:(0:Int)≤(i:Int):=MS i
  simp only [Ak,asIntOf,An,lx17,AF,un9,if_pos h0,Ha,h3,byN]
 simp only [iaD,Cr,h]
 rfl
def QI (b:ByteArray) (i:Nat):Bool:=decide ((byN b i:Int) < 32) || decide ((126:Int) < (byN b i:Int))
def GF (b:ByteArray):Bool:=!(List.range b.size).any (QI b) && decide ((b.size:Int)≤32)
theorem IN {p:Nat→Bool} {n:Nat}:(List.range n).any p=true↔∃ i,i < n∧p i=true:=Bc
theorem W1 {b:ByteArray} {i:Nat} (hi:i < b.size) (h:QI b i=true):GF b=false:=by
 rw [GF,IN.2 ⟨i,hi,h⟩]; rfl
theorem Ada {b:ByteArray} (h:∀ i,i < b.size→QI b i=false):GF b=decide ((b.size:Int)≤32):=by
 have:(List.range b.size).any (QI b)=false:=by
  rw [JP]
  intro hc
  obtain ⟨i,hi,h2⟩:=IN.1 hc
  rw [h i hi] at h2; cases h2
 rw [GF,this]; rfl
noncomputable def f187:=Er (fun b:ByteArray=>b.size≤100000) (fun b=>[stA b]) (fun b=>bA (GF b))
theorem Baj (b:ByteArray) (h:b.size≤100000):f187 [.sc (.string b)]=some (.sc (.bool (GF b))):=
 (AJ (q:=fun b:ByteArray=>b.size≤100000) (enc:=fun b=>[stA b]) (out:=fun b=>bA (GF b)) b h (by intro y h; simp only [lx96,Az] at h; rw [TV h]) :)
theorem Bak:DK Tryz.prog 187 f187:=AE <| by
 rintro b hb
 refine Ad (Ar (.nil) (.nil)) rfl Tryz.func187 rfl (by decide) (by kernel_rfl) (by kernel_rfl) ?_
 simp only [Tryz.f187,Af,lx53,lx63,Nat.reduceAdd,Nat.reduceSub,List.replicate]
 refine Ab ?_
 simp (maxSteps:=10000000) +contextual -implicitDefEqProofs only [AX,AW,St.put,AY,CZ]
 refine Am (σ:=Nat) (fun r cnt=>⟨Bm 0 23 [(0,.sc (.string b)),(3,.sc (.int .i64 r))],[],cnt⟩)
  (fun r=>r≤b.size∧∀ j,j < r→QI b j=false) (fun r=>b.size - r) 0 ⟨by omega,by omega⟩ ?_ trivial rfl ?_
 ·exact F4
 rintro r cnt ⟨hr,hn⟩ ih
 refine Ab ?_
 by_cases hr':r < b.size
 ·have h1:decide ((r:Int) < (b.size:Int))=true:=by rw [AR]; omega
  have h2:decide (r < b.size)=true:=Ae
  have w1:IntKind.i64.wrap ((r:Int)+1)=((r+1:Nat):Int):=Ay
  have hi:=Ab5 b .i64 r h2
  obtain ⟨v,hv⟩:∃ v,byN b r=v:=⟨_,rfl⟩
  have hd:=hn
  cases hb2:QI b r with
  | true=>
   have e:=W1 hr' hb2
   simp only [QI,hv] at hb2
   cases c1:decide ((v:Int) < 32) with
   | true=>
    exact Aoj
   | false=>
    exact Ao8
  | false=>
   exact Apx
 ·exact Aw4
theorem Bal:DK Tryz.prog 147 f187:=AE <| by
 rintro b hb
 refine Ad (Ar (.nil) (.nil)) rfl Tryz.func147 rfl (by decide) (by kernel_rfl) (by kernel_rfl) ?_
 simp only [Tryz.f147,Af,lx53,lx63,Nat.reduceAdd,Nat.reduceSub,List.replicate]
 refine Ab ?_
 simp (maxSteps:=10000000) +contextual -implicitDefEqProofs only [AX,AW,St.put,AY,CZ]
 refine Am (σ:=Nat) (fun r cnt=>⟨Bm 0 23 [(0,.sc (.string b)),(3,.sc (.int .i64 r))],[],cnt⟩)
  (fun r=>r≤b.size∧∀ j,j < r→QI b j=false) (fun r=>b.size - r) 0 ⟨by omega,by omega⟩ ?_ trivial rfl ?_
 ·exact F4
 rintro r cnt ⟨hr,hn⟩ ih
 refine Ab ?_
 by_cases hr':r < b.size
 ·have h1:decide ((r:Int) < (b.size:Int))=true:=by rw [AR]; omega
  have h2:decide (r < b.size)=true:=Ae
  have w1:IntKind.i64.wrap ((r:Int)+1)=((r+1:Nat):Int):=Ay
  have hi:=Ab5 b .i64 r h2
  obtain ⟨v,hv⟩:∃ v,byN b r=v:=⟨_,rfl⟩
  have hd:=hn
  cases hb2:QI b r with
  | true=>
   have e:=W1 hr' hb2
   simp only [QI,hv] at hb2
   cases c1:decide ((v:Int) < 32) with
   | true=>
    exact Aoj
   | false=>
    exact Ao8
  | false=>
   exact Apx
 ·exact Aw4
noncomputable def f186:=Er (fun b:ByteArray=>b.size≤100000) (fun b=>[stA b]) (fun b=>bA (!GF b))
theorem Bfq (b:ByteArray) (h:b.size≤100000):f186 [stA b]=some (bA (!GF b)):=
 (AJ (q:=fun b:ByteArray=>b.size≤100000) (enc:=fun b=>[stA b]) (out:=fun b=>bA (!GF b)) b h (by intro y h; simp only [lx96,Az] at h; rw [TV h]) :)
theorem Bam:DK Tryz.prog 186 f186:=AE <| by
 rintro b hb
 refine Ad (Ar ((.cons Bak .nil)) (.nil)) rfl Tryz.func186 rfl (by decide) (by kernel_rfl) (by kernel_rfl) ?_
 simp only [Tryz.f186,Af,lx53,lx63,Nat.reduceAdd,Nat.reduceSub,List.replicate]
 refine Ab ?_
 simp (maxSteps:=10000000) +contextual -implicitDefEqProofs only [AX,AW,St.put,Ao,Al,DN,pl,↓reduceIte,CO,AY,CZ,Baj b hb]
def XA (x:Int):Bool:=!F0 x 0 99
noncomputable def f188:=Er (fun _:Int=>True) (fun x=>[kA .i64 x]) (fun x=>bA (XA x))
theorem Bfr (x:Int):f188 [kA .i64 x]=some (bA (XA x)):=
 (AJ (q:=fun _:Int=>True) (enc:=fun x=>[kA .i64 x]) (out:=fun x=>bA (XA x)) x trivial (by intro y h; simp only [lx96,Az] at h; rw [Bt h]) :)
theorem Ban:DK Tryz.prog 188 f188:=AE <| by
 rintro x -
 refine Ad (Ar ((.cons Qy .nil)) (.nil)) rfl Tryz.func188 rfl (by decide) (by kernel_rfl) (by kernel_rfl) ?_
 simp only [Tryz.f188,Af,lx53,lx63,Nat.reduceAdd,Nat.reduceSub,List.replicate]
 refine Ab ?_
 simp (maxSteps:=10000000) +contextual -implicitDefEqProofs only [AX,AW,St.put,Ao,Al,DN,pl,↓reduceIte,CO,AA,AY,Ol,XA]
def Yh (x:Int):Bool:=!F0 x (-2147483647) 2147483647
noncomputable def f189:=Er (fun _:Int=>True) (fun x=>[kA .i64 x]) (fun x=>bA (Yh x))
theorem Bfs (x:Int):f189 [kA .i64 x]=some (bA (Yh x)):=
 (AJ (q:=fun _:Int=>True) (enc:=fun x=>[kA .i64 x]) (out:=fun x=>bA (Yh x)) x trivial (by intro y h; simp only [lx96,Az] at h; rw [Bt h]) :)
theorem Bao:DK Tryz.prog 189 f189:=AE <| by
 rintro x -
 refine Ad (Ar ((.cons Qy .nil)) (.nil)) rfl Tryz.func189 rfl (by decide) (by kernel_rfl) (by kernel_rfl) ?_
 simp only [Tryz.f189,Af,lx53,lx63,Nat.reduceAdd,Nat.reduceSub,List.replicate]
 refine Ab ?_
 simp (maxSteps:=10000000) +contextual -implicitDefEqProofs only [AX,AW,St.put,Ao,Al,DN,pl,↓reduceIte,CO,AA,AY,Ol,Yh]
def Ki (c:Cd) (e:En):Bool:=F0 e.mo 0 (c.pri.length - 1) &&
 (if e.tr=1∨e.tr=2 then e.ix == 0 else if e.tr=3∨e.tr=4 then F0 e.ix 0 63 else if e.tr=5 then F0 e.ix 0 (c.tim - 1) else if e.tr=6 then F0 e.ix 0 (c.evs - 1) else false)
noncomputable def f192:=Er (fun p:Cd × En=>Fit p.1) (fun p=>[Bv p.1,D3 p.2]) (fun p=>bA (Ki p.1 p.2))
theorem Bap (c:Cd) (h:Fit c) (x:En):f192 [Bv c,D3 x]=some (.sc (.bool (Ki c x))):=
 (AJ (q:=fun p:Cd × En=>Fit p.1) (enc:=fun p=>[Bv p.1,D3 p.2]) (out:=fun p=>bA (Ki p.1 p.2)) (c,x) h (by
  rintro ⟨a,b⟩ h
  simp only [lx96,Az] at h
  rw [CS h.1,Jh h.2]) :)
theorem Baq:DK Tryz.prog 192 f192:=AE <| by
 rintro ⟨c,⟨mo,tr,ix,pc⟩⟩ hq
 simp only at hq
 obtain ⟨w1,w2,w3,w4,w5,w6⟩:=Gh hq
 refine Ad (Ar ((.cons Qy .nil)) (.nil)) rfl Tryz.func192 rfl (by decide) (by kernel_rfl) (by kernel_rfl) ?_
 simp only [Tryz.f192,Af,lx53,lx63,Nat.reduceAdd,Nat.reduceSub,List.replicate]
 refine Ab ?_
 cases h0:F0 mo 0 (c.pri.length - 1) with
 | false=>
  exact Awq
 | true=>
 rcases (by omega:tr=1∨tr=2∨tr=3∨tr=4∨tr=5∨tr=6∨(tr < 1∨6 < tr)) with rfl | rfl | rfl | rfl | rfl | rfl | h
 rotate_right
 ·exact Avv
 all_goals exact Awj
theorem Bar:DK Tryz.prog 148 f192:=AE <| by
 rintro ⟨c,⟨mo,tr,ix,pc⟩⟩ hq
 simp only at hq
 obtain ⟨w1,w2,w3,w4,w5,w6⟩:=Gh hq
 refine Ad (Ar ((.cons Ad9 .nil)) (.nil)) rfl Tryz.func148 rfl (by decide) (by kernel_rfl) (by kernel_rfl) ?_
 simp only [Tryz.f148,Af,lx53,lx63,Nat.reduceAdd,Nat.reduceSub,List.replicate]
 refine Ab ?_
 cases h0:F0 mo 0 (c.pri.length - 1) with
 | false=>
  exact Awq
 | true=>
 rcases (by omega:tr=1∨tr=2∨tr=3∨tr=4∨tr=5∨tr=6∨(tr < 1∨6 < tr)) with rfl | rfl | rfl | rfl | rfl | rfl | h
 rotate_right
 ·exact Avv
 all_goals exact Awj
noncomputable def f191:=Er (fun p:En × Cd=>Fit p.2) (fun p=>[D3 p.1,.vp [Bv p.2] 0 0]) (fun p=>bA (!Ki p.2 p.1))
theorem Bft (c:Cd) (h:Fit c) (x:En):f191 [D3 x,.vp [Bv c] 0 0]=some (bA (!Ki c x)):=
 (AJ (q:=fun p:En × Cd=>Fit p.2) (enc:=fun p=>[D3 p.1,.vp [Bv p.2] 0 0]) (out:=fun p=>bA (!Ki p.2 p.1)) (x,c) h (by
  rintro ⟨a,b⟩ h
  simp only [lx96,AV.vp.injEq,Az] at h
  rw [CS h.2,Jh h.1]) :)
theorem Bas:DK Tryz.prog 191 f191:=AE <| by
 rintro ⟨x,c⟩ hq
 simp only at hq
 have e1:=Bap c hq x
 simp only [Aa,Bw] at e1
 refine Ad (Ar ((.cons Baq .nil)) (.nil)) rfl Tryz.func191 rfl (by decide) (by kernel_rfl) (by kernel_rfl) ?_
 simp only [Tryz.f191,Af,lx53,lx63,Nat.reduceAdd,Nat.reduceSub,List.replicate]
 refine Ab ?_
 exact Ir (a3 e1 @Bw @Aa)
 all_goals done
def tgB (c:Cd) (e:En):Bool:=!F0 e.pc 0 (c.ins.length - 1)
noncomputable def f195:=Er (fun p:En × Cd=>Fit p.2) (fun p=>[D3 p.1,.vp [Bv p.2] 0 0]) (fun p=>bA (tgB p.2 p.1))
theorem Bfu (c:Cd) (h:Fit c) (x:En):f195 [D3 x,.vp [Bv c] 0 0]=some (bA (tgB c x)):=
 (AJ (q:=fun p:En × Cd=>Fit p.2) (enc:=fun p=>[D3 p.1,.vp [Bv p.2] 0 0]) (out:=fun p=>bA (tgB p.2 p.1)) (x,c) h (by
  rintro ⟨a,b⟩ h
  simp only [lx96,AV.vp.injEq,Az] at h
  rw [CS h.2,Jh h.1]) :)
theorem Bat:DK Tryz.prog 195 f195:=AE <| by
 rintro ⟨x,c⟩ hq
 simp only at hq
 obtain ⟨w1,w2,w3,w4,w5,w6⟩:=Gh hq
 refine Ad (Ar ((.cons Qy .nil)) (.nil)) rfl Tryz.func195 rfl (by decide) (by kernel_rfl) (by kernel_rfl) ?_
 simp only [Tryz.f195,Af,lx53,lx63,Nat.reduceAdd,Nat.reduceSub,List.replicate]
 refine Ab ?_
 simp (maxSteps:=10000000) +contextual -implicitDefEqProofs only [AX,AW,St.put,Ao,Al,DN,pl,↓reduceIte,reduceCtorEq,Nat.reduceAdd,Dd,Int.reduceAdd,CO,AY,Bw,Aa,AV.noref,Ol,w4,tgB]
 all_goals done
def Nk (c:Cd):Bool:=decide ((c.ins.length:Int)≤4000) && decide ((c.strs.length:Int)≤200) && decide ((c.ens.length:Int)≤512) && decide ((c.pri.length:Int)≤16) && decide ((c.vars.length:Int)≤128) && F0 c.tim 0 128 && F0 c.evs 0 128
noncomputable def f142:=Er Fit (fun c=>[Bv c]) (fun c=>bA (Nk c))
theorem Bfv (c:Cd) (h:Fit c):f142 [Bv c]=some (.sc (.bool (Nk c))):=
 (AJ (q:=Fit) (enc:=fun c=>[Bv c]) (out:=fun c=>bA (Nk c)) c h (by
  intro b h
  simp only [lx96,Az] at h
  rw [CS h]) :)
theorem Ar7:DK Tryz.prog 142 f142:=AE <| by
 rintro c hq
 refine Ad (Ar ((.cons Qy .nil)) (.nil)) rfl Tryz.func142 rfl (by decide) (by kernel_rfl) (by kernel_rfl) ?_
 simp only [Tryz.f142,Af,lx53,lx63,Nat.reduceAdd,Nat.reduceSub,List.replicate]
 refine Ab ?_
 simp (maxSteps:=10000000) +contextual -implicitDefEqProofs only [AX,AW,Ap,St.put,Ao,Al,DN,pl,↓reduceIte,reduceCtorEq,Nat.reduceAdd,Dd,Int.reduceAdd,CO,AY,Aa,Ol,Nk,lx1]
 all_goals done
theorem Ab7 {P:Program} {f:Nat} {a1 a2:List AV} {r1 r2:AV} (h1:Di P f a1 r1) (h2:Di P f a2 r2) (hne:a2≠a1):∃ F,DK P f F∧F a1=some r1∧F a2=some r2:=by
 refine ⟨fun a=>open Classical in if a=a1 then some r1 else if a=a2 then some r2 else none,?_,by simp,by simp [hne]⟩
 intro a v hv
 simp only at hv
 split at hv
 ·rename_i e; subst e; cases hv; exact h1
 ·split at hv
  ·rename_i e; subst e; cases hv; exact h2
  ·cases hv
def insP (c:Cd) (x:In):Bool:=!EP x.op && !F0 x.a (DG c x.op).1 (DG c x.op).2
theorem Am9 (c:Cd) (x:In):insP c x=!Qz c x:=by
 obtain ⟨op,a⟩:=x
 rcases DF op with (rfl | rfl | rfl | rfl | rfl | rfl | rfl | rfl | rfl | rfl | rfl | rfl | rfl | rfl | rfl | rfl | rfl | rfl | rfl | rfl | rfl | rfl | rfl | rfl | rfl | rfl | rfl | rfl | rfl | rfl | rfl) | h
 rotate_right
 have g:∀ k:Int,1≤k→k≤31→(op=k)=False:=fun k h1 h2=>by have:=h k h1 h2; simpa using this
 ·simp [insP,Qz,Bn,DG,EP,F0,h,g]
  omega
 all_goals simp [insP,Qz,Bn,DG,EP,F0]
 all_goals first | done | rw [Bool.eq_iff_iff]; simp; omega
def Yi (c:Cd):Bool:=c.strs.any (fun b=>!GF b) || c.pri.any XA || c.vars.any Yh || c.ens.any (fun e=>!Ki c e)
def Rf (c:Cd) (k:Nat):Bool:=Yi c || (c.ins.take k).any (insP c)
def Ic (c:Cd):Bool:=!(Yi c || c.ins.any (insP c))
theorem Adb (c:Cd):Rf c 0=Yi c:=by simp [Rf]
theorem W2 {α:Type} [Inhabited α] {p:α→Bool} {l:List α} {k:Nat} (h:k < l.length):(l.take (k+1)).any p=((l.take k).any p || p (l.getD k default)):=by
 rw [lx115 h,List.any_append,lx80,lx51 h]; simp
theorem Adc (c:Cd) {k:Nat} (h:k < c.ins.length):Rf c (k+1)=(Rf c k || insP c (c.ins.getD k default)):=by
 rw [Rf,Rf,W2 h,Bool.or_assoc]
theorem Aif (c:Cd):Rf c c.ins.length=(Yi c || c.ins.any (insP c)):=by rw [Rf,lx74]
noncomputable def f143:=Er Fit (fun c=>[Bv c]) (fun c=>bA (Ic c))
theorem Bau (c:Cd) (h:Fit c):f143 [Bv c]=some (.sc (.bool (Ic c))):=
 (AJ (q:=Fit) (enc:=fun c=>[Bv c]) (out:=fun c=>bA (Ic c)) c h (by
  intro b h
  simp only [lx96,Az] at h
  rw [CS h]) :)
theorem Ar8:DK Tryz.prog 143 f143:=AE <| by
 rintro c hq
 obtain ⟨q1,q2,q3,q4,q5,q6,q7,q8⟩:=hq
 have hq:Fit c:=⟨q1,q2,q3,q4,q5,q6,q7,q8⟩
 obtain ⟨F185,k185,e185⟩:=Ip (Bac Bam (fun b=>!GF b) c.zs c.strs (fun b hb=>Bfq b (q8 b hb)) (by omega))
 obtain ⟨F116,k116,e116,e116'⟩:=Ab7 (Ar5 Ban XA c.zp c.pri (fun b _=>Bfr b) (by omega)) (Ar5 Bao Yh c.zv c.vars (fun b _=>Bfs b) (by omega)) (by simp)
 obtain ⟨F190,k190,e190⟩:=Ip (Aie Bas (fun e=>!Ki c e) [Bv c] c.ze c.ens (fun b _=>Bft c hq b) (by omega))
 have x1:=fun op=>Bfo c hq op
 simp only [Aa,AY] at e190 e185 e116 e116' x1
 refine Ad (Ar ((.cons k185 (.cons k116 (.cons k190 (.cons Bah (.cons Qy (.cons Ar4 .nil))))))) (.nil)) rfl Tryz.func143 rfl (by decide) (by kernel_rfl) (by kernel_rfl) ?_
 simp only [Tryz.f143,Af,lx53,lx63,Nat.reduceAdd,Nat.reduceSub,List.replicate]
 refine Ab ?_
 have hp:Yi c=(c.strs.any (fun b=>!GF b) || c.pri.any XA || c.vars.any Yh || c.ens.any (fun e=>!Ki c e)):=rfl
 have hpc:Ic c=!Rf c c.ins.length:=by rw [Aif]; rfl
 rw [hpc]
 obtain ⟨b1,hb1⟩:∃ b,c.strs.any (fun b=>!GF b)=b:=⟨_,rfl⟩
 obtain ⟨b2,hb2⟩:∃ b,c.pri.any XA=b:=⟨_,rfl⟩
 obtain ⟨b3,hb3⟩:∃ b,c.vars.any Yh=b:=⟨_,rfl⟩
 obtain ⟨b4,hb4⟩:∃ b,c.ens.any (fun e=>!Ki c e)=b:=⟨_,rfl⟩
 rw [hb1] at e185 hp
 rw [hb2] at e116 hp
 rw [hb3] at e116' hp
 rw [hb4] at e190 hp
 clear hb1 hb2 hb3 hb4 hpc
 have h0:=Adb c
 rw [hp] at h0
 clear hp
 have hs:=fun k (hk:k < c.ins.length)=>Adc c hk
 obtain ⟨W,hW⟩:∃ W,Rf c=W:=⟨_,rfl⟩
 rw [hW] at h0 hs ⊢
 clear hW
 simp (maxSteps:=10000000) +contextual -implicitDefEqProofs only [AX,AW,Ap,St.put,Ao,Al,DN,pl,↓reduceIte,reduceCtorEq,Nat.reduceAdd,Nat.reduceEqDiff,Dd,Int.reduceAdd,CO,AY,Aa,e185,e116,e116',e190]
 refine Am (σ:=Nat) (fun k cnt=>⟨Bm 0 59 [(1,.pt 0 0 0 0),(3,.sc (.bool (W k))),(28,.vw c.zi (c.ins.map BY)),(29,.sc (.int .i64 c.ins.length)),(30,.sc (.int .i64 k))],[⟨true,0,36,7,[Bv c],false⟩],cnt⟩)
  (fun k=>k≤c.ins.length) (fun k=>c.ins.length - k) 0 (BT _) ?_ ?_ rfl ?_
 ·simp (maxSteps:=10000000) only [AX,AW,↓reduceIte,reduceCtorEq,Nat.reduceAdd,Nat.reduceEqDiff,Bm,D2,h0]
 ·exact I1
 rintro k cnt hk ih
 by_cases hk':k < c.ins.length
 rotate_left
 ·obtain rfl:k=c.ins.length:=by omega
  have h1:decide ((c.ins.length:Int) < (c.ins.length:Int))=false:=Bc
  refine Ab ?_
  refine BJ ?_
  simp (maxSteps:=10000000) +contextual -implicitDefEqProofs only [AX,AW,St.put,↓reduceIte,Aa,h1]
  all_goals done
 have h1:decide ((k:Int) < (c.ins.length:Int))=true:=Ae
 have h2:decide (k < c.ins.length)=true:=Ae
 have w1:IntKind.i64.wrap ((k:Int)+1)=((k+1:Nat):Int):=Ay
 have hs:=hs k hk'
 have ih:=fun c=>ih (k+1) c hk' (by omega)
 rw [hs] at ih
 obtain ⟨⟨op,a⟩,hx⟩:∃ x,c.ins.getD k default=x:=⟨_,rfl⟩
 rw [hx] at ih
 have x1:=x1 op
 have x2:=Ba7 op
 obtain ⟨w,hw⟩:∃ w,W k=w:=⟨_,rfl⟩
 rw [hw] at ih ⊢
 simp only [insP] at ih
 refine Ab ?_
 cases w with
 | true=>
  refine BJ ?_
  refine IX (a8 h1 h2 hx x1 w1 @AK @Aa @AB) ?_
  exact Jw
 | false=>
  cases hj:EP op with
  | true=>
   rw [hj] at x2 ih
   refine BJ ?_
   refine IX (a9 h1 h2 hx x1 x2 w1 @AK @Aa @AB) ?_
   exact Jw
  | false=>
   rw [hj] at x2 ih
   refine BJ ?_
   refine IX (Gv h1 h2 hx x1 x2 w1 @AK @Aa @AB @Ol) ?_
   exact Jw
def W3 (c:Cd) (x:In):Bool:=EP x.op && !F0 x.a 0 (c.ins.length - 1)
def Fu (c:Cd):Bool:=!c.ins.any (W3 c) && !c.ens.any (tgB c)
noncomputable def f144:=Er Fit (fun c=>[Bv c]) (fun c=>bA (Fu c))
theorem Bav (c:Cd) (h:Fit c):f144 [Bv c]=some (.sc (.bool (Fu c))):=
 (AJ (q:=Fit) (enc:=fun c=>[Bv c]) (out:=fun c=>bA (Fu c)) c h (by
  intro b h
  simp only [lx96,Az] at h
  rw [CS h]) :)
theorem Ar9:DK Tryz.prog 144 f144:=AE <| by
 rintro c hq
 obtain ⟨q1,q2,q3,q4,q5,q6,q7,q8⟩:=hq
 have hq:Fit c:=⟨q1,q2,q3,q4,q5,q6,q7,q8⟩
 obtain ⟨v1,v2,v3,v4,v5,v6⟩:=Gh hq
 obtain ⟨F190,k190,e190⟩:=Ip (Aie Bat (tgB c) [Bv c] c.ze c.ens (fun b _=>Bfu c hq b) (by omega))
 simp only [Aa,AY] at e190
 refine Ad (Ar ((.cons k190 (.cons Qy (.cons Ar4 .nil)))) (.nil)) rfl Tryz.func144 rfl (by decide) (by kernel_rfl) (by kernel_rfl) ?_
 simp only [Tryz.f144,Af,lx53,lx63,Nat.reduceAdd,Nat.reduceSub,List.replicate]
 refine Ab ?_
 refine IX @Aa ?_
 refine Am (σ:=Nat) (fun k cnt=>⟨Bm 0 31 [(1,.pt 0 0 0 0),(6,.vw c.zi (c.ins.map BY)),(7,.sc (.int .i64 c.ins.length)),(8,.sc (.int .i64 k))],[⟨true,0,36,7,[Bv c],false⟩],cnt⟩)
  (fun k=>k≤c.ins.length∧∀ j,j < k→W3 c (c.ins.getD j default)=false) (fun k=>c.ins.length - k) 0 ⟨by omega,by omega⟩ ?_ ?_ rfl ?_
 ·exact F4
 ·exact I1
 rintro k cnt ⟨hk,hn⟩ ih
 by_cases hk':k < c.ins.length
 rotate_left
 ·obtain rfl:k=c.ins.length:=by omega
  have h1:decide ((c.ins.length:Int) < (c.ins.length:Int))=false:=Bc
  have e:c.ins.any (W3 c)=false:=Io hn
  refine Ab ?_
  refine BJ ?_
  simp (maxSteps:=10000000) +contextual -implicitDefEqProofs only [AX,AW,St.put,Ao,Al,DN,pl,↓reduceIte,reduceCtorEq,Dd,CO,Aa,h1,e190,Fu,e]
  all_goals done
 have h1:decide ((k:Int) < (c.ins.length:Int))=true:=Ae
 have h2:decide (k < c.ins.length)=true:=Ae
 have w1:IntKind.i64.wrap ((k:Int)+1)=((k+1:Nat):Int):=Ay
 have ih:=fun c=>ih (k+1) c
 have hat:=Im (p:=W3 c) hk'
 have hne:=Bd hn (k:=k)
 obtain ⟨⟨op,a⟩,hx⟩:∃ x,c.ins.getD k default=x:=⟨_,rfl⟩
 rw [hx] at hat hne
 have x2:=Ba7 op
 refine Ab ?_
 cases hj:EP op with
 | false=>
  rw [hj] at x2
  have ih:=fun c=>ih c ⟨by omega,hne (by simp [W3,hj])⟩ (by omega)
  refine BJ ?_
  refine IX (a8 h1 h2 hx x2 w1 @AK @Aa @AB) ?_
  exact Jw
 | true=>
  rw [hj] at x2
  cases hi:F0 a 0 (c.ins.length - 1) with
  | true=>
   have ih:=fun c=>ih c ⟨by omega,hne (by simp [W3,hj,hi])⟩ (by omega)
   refine BJ ?_
   refine IX (Ij h1 h2 hx x2 v4 hi w1 @AK @Aa @AB @Ol) ?_
   exact Jw
  | false=>
   have e:=hat (by simp [W3,hj,hi])
   have e2:Fu c=false:=by rw [Fu,e]; rfl
   refine BJ ?_
   exact Ir (Ij h1 h2 hx x2 v4 hi e2 @AK @Aa @AB @Ol)
   all_goals done
def txX (b:ByteArray):Bool:=!GF b
def enX (c:Cd) (e:En):Bool:=!Ki c e
def nmX (c:Cd) (i:In):Bool:=!Qz c i
def Lc (c:Cd):Bool:=!(c.strs.any txX || c.pri.any XA || c.vars.any Yh || c.ens.any (enX c) || c.ins.any (nmX c))
theorem Aig (c:Cd):Lc c=Ic c:=by
 have:nmX c=insP c:=by funext i; rw [Am9]; rfl
 rw [Lc,Ic,Yi,this]; rfl
theorem Arb:DK Tryz.prog 100 f143:=AE <| by
 rintro c hq
 rw [←Aig]
 obtain ⟨q1,q2,q3,q4,q5,q6,q7,q8⟩:=hq
 have hq:Fit c:=⟨q1,q2,q3,q4,q5,q6,q7,q8⟩
 have y2:=fun x=>Bap c hq x
 have y3:=fun x=>Bfp c hq x
 simp only [Aa] at y2 y3
 refine Ad (Ar ((.cons Bal (.cons Ad9 (.cons Bar (.cons Bai .nil))))) (.nil)) rfl Tryz.func100 rfl (by decide) (by kernel_rfl) (by kernel_rfl) ?_
 simp only [Tryz.f100,Af,lx53,lx63,Nat.reduceAdd,Nat.reduceSub,List.replicate]
 refine Ab ?_
 refine IX @Aa ?_
 refine Am (σ:=Nat) (fun k cnt=>⟨Bm 0 80 [(1,.pt 0 0 0 0),(3,.sc (.int .i64 k))],[⟨true,0,36,7,[Bv c],false⟩],cnt⟩)
  (fun k=>k≤c.strs.length∧∀ j,j < k→(txX) (c.strs.getD j default)=false) (fun k=>c.strs.length - k) 0 ⟨by omega,by omega⟩ ?_ ?_ rfl ?_
 ·exact F4
 ·exact I1
 rintro k cnt ⟨hk,hn⟩ ih
 by_cases hk':k < c.strs.length
 ·have h1:decide ((k:Int) < (c.strs.length:Int))=true:=by rw [AR]; omega
  have h2:decide (k < c.strs.length)=true:=Ae
  have w1:IntKind.i64.wrap ((k:Int)+1)=((k+1:Nat):Int):=Ay
  have ih:=fun c=>ih (k+1) c
  have hat:=Im (p:=txX) hk'
  have hne:=Bd hn (k:=k)
  have hm:=Cf hk'
  obtain ⟨x,hx⟩:∃ x,c.strs.getD k default=x:=⟨_,rfl⟩
  rw [hx] at hat hne hm
  have x1:=Baj x (q8 x hm)
  refine Ab ?_
  cases hb:(txX) x with
  | true=>
   have e:=hat hb
   have e2:Lc c=false:=by rw [Lc,e]; rfl
   have hb':GF x=false:=by simpa [txX] using hb
   rw [hb'] at x1
   refine BJ ?_
   exact Ir (a8 h1 h2 hx x1 e2 @CZ @Aa @Ho)
   repeat' (first | exact Ac (by kernel_rfl) | refine ⟨Ac (by kernel_rfl),?_⟩ | refine And.intro ?_ ?_ | fail)
   all_goals done
  | false=>
   have ih:=fun c=>ih c ⟨by omega,hne hb⟩ (by omega)
   have hb':GF x=true:=by simpa [txX] using hb
   rw [hb'] at x1
   refine BJ ?_
   refine IX (a8 h1 h2 hx x1 w1 @CZ @Aa @Ho) ?_
   exact LQ
 have hkl:k=c.strs.length:=Ai
 subst hkl
 have h1:decide ((c.strs.length:Int) < (c.strs.length:Int))=false:=Bc
 have n3:c.strs.any (txX)=false:=Io hn
 clear hn ih hk hk'
 refine Ac6 ?_
 refine Am (σ:=Nat) (fun k cnt=>⟨Bm 0 80 [(1,.pt 0 0 0 0),(4,.sc (.int .i64 k))],[⟨true,0,36,7,[Bv c],false⟩],cnt⟩)
  (fun k=>k≤c.pri.length∧∀ j,j < k→(XA) (c.pri.getD j default)=false) (fun k=>c.pri.length - k) 0 ⟨by omega,by omega⟩ ?_ ?_ rfl ?_
 ·exact F4
 ·exact I1
 rintro k cnt ⟨hk,hn⟩ ih
 by_cases hk':k < c.pri.length
 ·have h1:decide ((k:Int) < (c.pri.length:Int))=true:=by rw [AR]; omega
  have h2:decide (k < c.pri.length)=true:=Ae
  have w1:IntKind.i64.wrap ((k:Int)+1)=((k+1:Nat):Int):=Ay
  have ih:=fun c=>ih (k+1) c
  have hat:=Im (p:=XA) hk'
  have hne:=Bd hn (k:=k)
  have hm:=Cf hk'
  obtain ⟨x,hx⟩:∃ x,c.pri.getD k default=x:=⟨_,rfl⟩
  rw [hx] at hat hne hm
  skip
  refine Ab ?_
  cases hb:(XA) x with
  | true=>
   have e:=hat hb
   have e2:Lc c=false:=Y3
   have hb':F0 x 0 99=false:=by simpa [XA] using hb
   exact Awh
  | false=>
   have ih:=fun c=>ih c ⟨by omega,hne hb⟩ (by omega)
   have hb':F0 x 0 99=true:=by simpa [XA] using hb
   exact Apz
 have hkl:k=c.pri.length:=Ai
 subst hkl
 have h1:decide ((c.pri.length:Int) < (c.pri.length:Int))=false:=Bc
 have n4:c.pri.any (XA)=false:=Io hn
 clear hn ih hk hk'
 refine Ac6 ?_
 refine Am (σ:=Nat) (fun k cnt=>⟨Bm 0 80 [(1,.pt 0 0 0 0),(5,.sc (.int .i64 k))],[⟨true,0,36,7,[Bv c],false⟩],cnt⟩)
  (fun k=>k≤c.vars.length∧∀ j,j < k→(Yh) (c.vars.getD j default)=false) (fun k=>c.vars.length - k) 0 ⟨by omega,by omega⟩ ?_ ?_ rfl ?_
 ·exact F4
 ·exact I1
 rintro k cnt ⟨hk,hn⟩ ih
 by_cases hk':k < c.vars.length
 ·have h1:decide ((k:Int) < (c.vars.length:Int))=true:=by rw [AR]; omega
  have h2:decide (k < c.vars.length)=true:=Ae
  have w1:IntKind.i64.wrap ((k:Int)+1)=((k+1:Nat):Int):=Ay
  have ih:=fun c=>ih (k+1) c
  have hat:=Im (p:=Yh) hk'
  have hne:=Bd hn (k:=k)
  have hm:=Cf hk'
  obtain ⟨x,hx⟩:∃ x,c.vars.getD k default=x:=⟨_,rfl⟩
  rw [hx] at hat hne hm
  skip
  refine Ab ?_
  cases hb:(Yh) x with
  | true=>
   have e:=hat hb
   have e2:Lc c=false:=Y3
   have hb':F0 x (-2147483647) 2147483647=false:=by simpa [Yh] using hb
   exact Awh
  | false=>
   have ih:=fun c=>ih c ⟨by omega,hne hb⟩ (by omega)
   have hb':F0 x (-2147483647) 2147483647=true:=by simpa [Yh] using hb
   exact Apz
 have hkl:k=c.vars.length:=Ai
 subst hkl
 have h1:decide ((c.vars.length:Int) < (c.vars.length:Int))=false:=Bc
 have n5:c.vars.any (Yh)=false:=Io hn
 clear hn ih hk hk'
 refine Ac6 ?_
 refine Am (σ:=Nat) (fun k cnt=>⟨Bm 0 80 [(1,.pt 0 0 0 0),(6,.sc (.int .i64 k))],[⟨true,0,36,7,[Bv c],false⟩],cnt⟩)
  (fun k=>k≤c.ens.length∧∀ j,j < k→(enX c) (c.ens.getD j default)=false) (fun k=>c.ens.length - k) 0 ⟨by omega,by omega⟩ ?_ ?_ rfl ?_
 ·exact F4
 ·exact I1
 rintro k cnt ⟨hk,hn⟩ ih
 by_cases hk':k < c.ens.length
 ·have h1:decide ((k:Int) < (c.ens.length:Int))=true:=by rw [AR]; omega
  have h2:decide (k < c.ens.length)=true:=Ae
  have w1:IntKind.i64.wrap ((k:Int)+1)=((k+1:Nat):Int):=Ay
  have ih:=fun c=>ih (k+1) c
  have hat:=Im (p:=enX c) hk'
  have hne:=Bd hn (k:=k)
  have hm:=Cf hk'
  obtain ⟨x,hx⟩:∃ x,c.ens.getD k default=x:=⟨_,rfl⟩
  rw [hx] at hat hne hm
  have y2:=y2 x
  simp only [Bw] at y2
  refine Ab ?_
  cases hb:(enX c) x with
  | true=>
   have e:=hat hb
   have e2:Lc c=false:=Y3
   have hb':Ki c x=false:=by simpa [enX] using hb
   rw [hb'] at y2
   refine BJ ?_
   exact Ir (a8 h1 h2 hx y2 e2 @Bw @Aa @Cq)
   repeat' (first | exact Ac (by kernel_rfl) | refine ⟨Ac (by kernel_rfl),?_⟩ | refine And.intro ?_ ?_ | fail)
   all_goals done
  | false=>
   have ih:=fun c=>ih c ⟨by omega,hne hb⟩ (by omega)
   have hb':Ki c x=true:=by simpa [enX] using hb
   rw [hb'] at y2
   refine BJ ?_
   refine IX (a8 h1 h2 hx y2 w1 @Bw @Aa @Cq) ?_
   exact LQ
 have hkl:k=c.ens.length:=Ai
 subst hkl
 have h1:decide ((c.ens.length:Int) < (c.ens.length:Int))=false:=Bc
 have n6:c.ens.any (enX c)=false:=Io hn
 clear hn ih hk hk'
 refine Ac6 ?_
 refine Am (σ:=Nat) (fun k cnt=>⟨Bm 0 80 [(1,.pt 0 0 0 0),(7,.sc (.int .i64 k))],[⟨true,0,36,7,[Bv c],false⟩],cnt⟩)
  (fun k=>k≤c.ins.length∧∀ j,j < k→(nmX c) (c.ins.getD j default)=false) (fun k=>c.ins.length - k) 0 ⟨by omega,by omega⟩ ?_ ?_ rfl ?_
 ·exact F4
 ·exact I1
 rintro k cnt ⟨hk,hn⟩ ih
 by_cases hk':k < c.ins.length
 ·have h1:decide ((k:Int) < (c.ins.length:Int))=true:=by rw [AR]; omega
  have h2:decide (k < c.ins.length)=true:=Ae
  have w1:IntKind.i64.wrap ((k:Int)+1)=((k+1:Nat):Int):=Ay
  have ih:=fun c=>ih (k+1) c
  have hat:=Im (p:=nmX c) hk'
  have hne:=Bd hn (k:=k)
  have hm:=Cf hk'
  obtain ⟨x,hx⟩:∃ x,c.ins.getD k default=x:=⟨_,rfl⟩
  rw [hx] at hat hne hm
  have y3:=y3 x
  simp only [AK] at y3
  refine Ab ?_
  cases hb:(nmX c) x with
  | true=>
   have e:=hat hb
   have e2:Lc c=false:=Y3
   have hb':Qz c x=false:=by simpa [nmX] using hb
   rw [hb'] at y3
   refine BJ ?_
   exact Ir (a8 h1 h2 hx y3 e2 @AK @Aa @AB)
   repeat' (first | exact Ac (by kernel_rfl) | refine ⟨Ac (by kernel_rfl),?_⟩ | refine And.intro ?_ ?_ | fail)
   all_goals done
  | false=>
   have ih:=fun c=>ih c ⟨by omega,hne hb⟩ (by omega)
   have hb':Qz c x=true:=by simpa [nmX] using hb
   rw [hb'] at y3
   refine BJ ?_
   refine IX (a8 h1 h2 hx y3 w1 @AK @Aa @AB) ?_
   exact LQ
 have hkl:k=c.ins.length:=Ai
 subst hkl
 have h1:decide ((c.ins.length:Int) < (c.ins.length:Int))=false:=Bc
 have n7:c.ins.any (nmX c)=false:=Io hn
 clear hn ih hk hk'
 refine Ab ?_
 refine BJ ?_
 simp (maxSteps:=10000000) +contextual -implicitDefEqProofs only [AX,AW,St.put,↓reduceIte,reduceCtorEq,Dd,CO,Aa,h1,Lc,n3,n4,n5,n6,n7]
 all_goals done
theorem Baw (op:Int):((Bn op).2.2 == 7)=EP op:=by
 rcases DF op with (rfl | rfl | rfl | rfl | rfl | rfl | rfl | rfl | rfl | rfl | rfl | rfl | rfl | rfl | rfl | rfl | rfl | rfl | rfl | rfl | rfl | rfl | rfl | rfl | rfl | rfl | rfl | rfl | rfl | rfl | rfl) | h
 rotate_right
 have g:∀ k:Int,1≤k→k≤31→(op=k)=False:=fun k h1 h2=>by have:=h k h1 h2; simpa using this
 ·simp [Bn,EP,h,g]
 all_goals rfl
theorem Arc:DK Tryz.prog 101 f144:=AE <| by
 rintro c hq
 obtain ⟨q1,q2,q3,q4,q5,q6,q7,q8⟩:=hq
 have hq:Fit c:=⟨q1,q2,q3,q4,q5,q6,q7,q8⟩
 obtain ⟨v1,v2,v3,v4,v5,v6⟩:=Gh hq
 refine Ad (Ar ((.cons Ab4 (.cons Ad9 .nil))) (.nil)) rfl Tryz.func101 rfl (by decide) (by kernel_rfl) (by kernel_rfl) ?_
 simp only [Tryz.f101,Af,lx53,lx63,Nat.reduceAdd,Nat.reduceSub,List.replicate]
 refine Ab ?_
 refine IX @Aa ?_
 refine Am (σ:=Nat) (fun k cnt=>⟨Bm 0 61 [(1,.pt 0 0 0 0),(3,.sc (.int .i64 k))],[⟨true,0,36,7,[Bv c],false⟩],cnt⟩)
  (fun k=>k≤c.ins.length∧∀ j,j < k→(W3 c) (c.ins.getD j default)=false) (fun k=>c.ins.length - k) 0 ⟨by omega,by omega⟩ ?_ ?_ rfl ?_
 ·exact F4
 ·exact I1
 rintro k cnt ⟨hk,hn⟩ ih
 by_cases hk':k < c.ins.length
 ·have h1:decide ((k:Int) < (c.ins.length:Int))=true:=by rw [AR]; omega
  have h2:decide (k < c.ins.length)=true:=Ae
  have w1:IntKind.i64.wrap ((k:Int)+1)=((k+1:Nat):Int):=Ay
  have ih:=fun c=>ih (k+1) c
  have hat:=Im (p:=W3 c) hk'
  have hne:=Bd hn (k:=k)
  have hm:=Cf hk'
  obtain ⟨⟨op,a⟩,hx⟩:∃ x,c.ins.getD k default=x:=⟨_,rfl⟩
  rw [hx] at hat hne hm
  have x1:=Am8 op
  have k7:=Baw op
  refine Ab ?_
  cases hb:(W3 c) ⟨op,a⟩ with
  | true=>
   have e:=hat hb
   have e2:Fu c=false:=by rw [Fu,e]; rfl
   simp only [W3,AT,JK] at hb
   obtain ⟨hb1,hb2⟩:=hb
   rw [hb1] at k7
   refine BJ ?_
   exact Ir (G0 h1 h2 hx x1 v4 k7 hb2 e2 @AK @Aa @AB @Ol)
   repeat' (first | exact Ac (by kernel_rfl) | refine ⟨Ac (by kernel_rfl),?_⟩ | refine And.intro ?_ ?_ | fail)
   all_goals done
  | false=>
   have ih:=fun c=>ih c ⟨by omega,hne hb⟩ (by omega)
   simp only [W3] at hb
   cases hb1:EP op with
   | false=>
    rw [hb1] at k7
    refine BJ ?_
    refine IX (a9 h1 h2 hx x1 k7 w1 @AK @Aa @AB) ?_
    repeat' (first | exact Ac (by kernel_rfl) | refine ⟨Ac (by kernel_rfl),?_⟩ | refine And.intro ?_ ?_ | fail)
    refine Av ?_ ?_ (Aw _) (ih _)
    all_goals simp (maxSteps:=10000000) only [AX,AW,↓reduceIte,reduceCtorEq,Nat.reduceAdd,Nat.reduceEqDiff,Bm,D2,Aa]
   | true=>
   rw [hb1] at k7 hb
   have hb2:F0 a 0 (c.ins.length - 1)=true:=by simpa using hb
   refine BJ ?_
   refine IX (G0 h1 h2 hx x1 v4 k7 hb2 w1 @AK @Aa @AB @Ol) ?_
   exact LQ
 have hkl:k=c.ins.length:=Ai
 subst hkl
 have h1:decide ((c.ins.length:Int) < (c.ins.length:Int))=false:=Bc
 have n3:c.ins.any (W3 c)=false:=Io hn
 clear hn ih hk hk'
 refine Ac6 ?_
 refine Am (σ:=Nat) (fun k cnt=>⟨Bm 0 61 [(1,.pt 0 0 0 0),(7,.sc (.int .i64 k))],[⟨true,0,36,7,[Bv c],false⟩],cnt⟩)
  (fun k=>k≤c.ens.length∧∀ j,j < k→(tgB c) (c.ens.getD j default)=false) (fun k=>c.ens.length - k) 0 ⟨by omega,by omega⟩ ?_ ?_ rfl ?_
 ·exact F4
 ·exact I1
 rintro k cnt ⟨hk,hn⟩ ih
 by_cases hk':k < c.ens.length
 ·have h1:decide ((k:Int) < (c.ens.length:Int))=true:=by rw [AR]; omega
  have h2:decide (k < c.ens.length)=true:=Ae
  have w1:IntKind.i64.wrap ((k:Int)+1)=((k+1:Nat):Int):=Ay
  have ih:=fun c=>ih (k+1) c
  have hat:=Im (p:=tgB c) hk'
  have hne:=Bd hn (k:=k)
  have hm:=Cf hk'
  obtain ⟨x,hx⟩:∃ x,c.ens.getD k default=x:=⟨_,rfl⟩
  rw [hx] at hat hne hm
  skip
  refine Ab ?_
  cases hb:(tgB c) x with
  | true=>
   have e:=hat hb
   have e2:Fu c=false:=by rw [Fu,e]; simp
   have hb':F0 x.pc 0 (c.ins.length - 1)=false:=by simpa [tgB] using hb
   refine BJ ?_
   exact Ir (Gv h1 h2 hx v4 hb' e2 @Bw @Aa @Cq @Ol)
   repeat' (first | exact Ac (by kernel_rfl) | refine ⟨Ac (by kernel_rfl),?_⟩ | refine And.intro ?_ ?_ | fail)
   all_goals done
  | false=>
   have ih:=fun c=>ih c ⟨by omega,hne hb⟩ (by omega)
   have hb':F0 x.pc 0 (c.ins.length - 1)=true:=by simpa [tgB] using hb
   refine BJ ?_
   refine IX (Gv h1 h2 hx v4 hb' w1 @Bw @Aa @Cq @Ol) ?_
   exact LQ
 have hkl:k=c.ens.length:=Ai
 subst hkl
 have h1:decide ((c.ens.length:Int) < (c.ens.length:Int))=false:=Bc
 have n7:c.ens.any (tgB c)=false:=Io hn
 clear hn ih hk hk'
 refine Ab ?_
 refine BJ ?_
 simp (maxSteps:=10000000) +contextual -implicitDefEqProofs only [AX,AW,St.put,↓reduceIte,reduceCtorEq,Dd,CO,Aa,h1,Fu,n3,n7]
 all_goals done
end Go.Proofs.YtdjpkhjaibdogaaGreat
namespace Go.Proofs.YtdjpkhjaibdogaaGreat
open Go Go.SX
def BR (x:In) (i h:Int):List (Int × Int):=
 if x.op=31 then [] else if x.op=12 then [(x.a,h)] else if x.op=13 then [(i+1,h - 1),(x.a,h - 1)] else if x.op=14 then [(i+1,h),(x.a,h - 1)]
 else [(i+1,h - (Bn x.op).1+(Bn x.op).2.1)]
def Kj (x:In) (h:Int):Prop:=(Bn x.op).1≤h∧(x.op=31→h=0)
def AD (c:Cd) (i:Int):In:=c.ins.getD i.toNat default
inductive Rch (c:Cd):Int→Int→Prop
 | ent {e:En} (h:e ∈ c.ens):Rch c e.pc 0
 | step {i h j h':Int} (r:Rch c i h) (hi:i < c.ins.length) (ho:Kj (AD c i) h) (hs:(j,h') ∈ BR (AD c i) i h):Rch c j h'
structure Good (c:Cd):Prop where
 fits:∀ i h,Rch c i h→i < c.ins.length∧h≤48∧Kj (AD c i) h
 one:∀ i h h',Rch c i h→Rch c i h'→h=h'
noncomputable def IP (c:Cd):Bool:=open Classical in decide (Good c)
theorem SF {c:Cd} (h:Good c):IP c=true:=by simp [IP,h]
theorem Ji {c:Cd} (h:¬ Good c):IP c=false:=by simp [IP,h]
theorem Ama {c:Cd} (h:IP c=true):Good c:=by simpa [IP] using h
theorem Ab8 {c:Cd} {i h:Int} (r:Rch c i h) (hi:¬ i < c.ins.length):IP c=false:=Ji fun g=>hi (g.fits i h r).1
theorem W4 {c:Cd} {i h:Int} (r:Rch c i h) (hh:¬ h≤48):IP c=false:=Ji fun g=>hh (g.fits i h r).2.1
theorem Yj {c:Cd} {i h:Int} (r:Rch c i h) (hh:¬ Kj (AD c i) h):IP c=false:=Ji fun g=>hh (g.fits i h r).2.2
theorem Ab9 {c:Cd} {i h h':Int} (r:Rch c i h) (r':Rch c i h') (hh:h≠h'):IP c=false:=Ji fun g=>hh (g.one i h h' r r')
def Eb (hs:List Int) (i:Int):Int:=hs.getD i.toNat (-1)
structure Lead (c:Cd):Prop where
 ent:∀ e ∈ c.ens,0≤e.pc
 ins:∀ i,i < c.ins.length→EP (c.ins.getD i default).op=true→0≤(c.ins.getD i default).a
theorem Aba {c:Cd} (h:Fu c=true):Lead c:=by
 simp only [Fu,AT,JK] at h
 obtain ⟨h1,h2⟩:=h
 refine ⟨fun e he=>?_,fun i hi hj=>?_⟩
 ·have:=lx97.1 h2 e he
  simp only [tgB,Hs,KT] at this
  exact (Gr.1 this).1
 ·have:=lx97.1 h1 _ (Cf hi)
  simp only [W3,hj,Gs,Hs,KT] at this
  exact (Gr.1 this).1
theorem Kk {c:Cd} (hl:Lead c) {i h j h':Int} (hi:0≤i) (hi':i < c.ins.length) (hs:(j,h') ∈ BR (AD c i) i h):0≤j:=by
 have hk:i.toNat < c.ins.length:=Ai
 have hx:=hl.ins i.toNat hk
 unfold BR at hs
 by_cases h1:(AD c i).op=31
 ·simp [h1] at hs
 by_cases h2:(AD c i).op=12
 ·simp [h1,h2] at hs
  have:=hx (show EP (AD c i).op=true by simp [EP,h2])
  rw [hs.1]; exact this
 by_cases h3:(AD c i).op=13
 ·simp [h1,h2,h3] at hs
  have:=hx (show EP (AD c i).op=true by simp [EP,h3])
  rcases hs with hs | hs
  ·omega
  ·rw [hs.1]; exact this
 by_cases h4:(AD c i).op=14
 ·simp [h1,h2,h3,h4] at hs
  have:=hx (show EP (AD c i).op=true by simp [EP,h4])
  rcases hs with hs | hs
  ·omega
  ·rw [hs.1]; exact this
 ·simp [h1,h2,h3,h4] at hs
  omega
theorem LB (op:Int):0≤(Bn op).1∧0≤(Bn op).2.1∧(Bn op).1≤2∧(Bn op).2.1≤1:=by
 have key:∀ {p:Int × Int × Int→Prop} (op:Int),(∀ k:Int,1≤k→k≤31→p (Bn k))→p (0,0,-1)→p (Bn op):=by
  intro p op h1 h2
  by_cases h:1≤op∧op≤31
  ·exact h1 op h.1 h.2
  ·have:Bn op=(0,0,-1):=by
    unfold Bn
    iterate 31 rw [if_neg (by omega)]
   rw [this]; exact h2
 refine key (p:=fun e=>0≤e.1∧0≤e.2.1∧e.1≤2∧e.2.1≤1) op (fun k h1 h2=>?_) (by decide)
 rcases DF k with h | h
 ·rcases h with rfl | rfl | rfl | rfl | rfl | rfl | rfl | rfl | rfl | rfl | rfl | rfl | rfl | rfl | rfl | rfl | rfl | rfl | rfl | rfl | rfl | rfl | rfl | rfl | rfl | rfl | rfl | rfl | rfl | rfl | rfl <;> decide
 ·have:=h k h1 h2
  simp at this
theorem Ard (op:Int) (h:op=14):(Bn op).1=1∧(Bn op).2.1=1:=by subst h; decide
theorem Are (op:Int) (h:op=13):(Bn op).1=1∧(Bn op).2.1=0:=by subst h; decide
theorem Bax (op:Int) (h:op=12):(Bn op).1=0∧(Bn op).2.1=0:=by subst h; decide
theorem IQ {x:In} {i h j h':Int} (ho:Kj x h) (hs:(j,h') ∈ BR x i h):0≤h':=by
 have h0:=LB x.op
 have ho1:=ho.1
 unfold BR at hs
 by_cases h1:x.op=31
 ·simp [h1] at hs
 by_cases h2:x.op=12
 ·simp [h1,h2] at hs
  omega
 by_cases h3:x.op=13
 ·have:=Are _ h3
  simp [h1,h2,h3] at hs
  omega
 by_cases h4:x.op=14
 ·have:=Ard _ h4
  simp [h1,h2,h3,h4] at hs
  omega
 ·simp [h1,h2,h3,h4] at hs
  omega
theorem N9 {c:Cd} {hs:List Int} (he:∀ e ∈ c.ens,e.pc < c.ins.length∧Eb hs e.pc=0)
  (hc:∀ i:Int,0≤i→i < c.ins.length→0≤Eb hs i→Eb hs i≤48∧Kj (AD c i) (Eb hs i)∧∀ j h',(j,h') ∈ BR (AD c i) i (Eb hs i)→j < c.ins.length∧Eb hs j=h')
  (hl:Lead c):Good c:=by
 have key:∀ i h,Rch c i h→0≤i∧i < c.ins.length∧Eb hs i=h∧0≤h:=by
  intro i h r
  induction r with
  | ent he'=>exact ⟨hl.ent _ he',(he _ he').1,(he _ he').2,Int.le_refl _⟩
  | step r hi ho hs' ih=>
   obtain ⟨g1,g2,g3,g4⟩:=ih
   have:=hc _ g1 g2 (by rw [g3]; exact g4)
   rw [g3] at this
   obtain ⟨k1,k2,k3⟩:=this
   exact ⟨Kk hl g1 g2 hs',(k3 _ _ hs').1,(k3 _ _ hs').2,IQ ho hs'⟩
 refine ⟨fun i h r=>?_,fun i h h' r r'=>?_⟩
 ·obtain ⟨g1,g2,g3,g4⟩:=key i h r
  have:=hc i g1 g2 (by rw [g3]; exact g4)
  rw [g3] at this
  exact ⟨g2,this.1,this.2.1⟩
 ·rw [←(key i h r).2.2.1,←(key i h' r').2.2.1]
end Go.Proofs.YtdjpkhjaibdogaaGreat
