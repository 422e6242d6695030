/-
  Lemmas towards ModesSteps (joined texts: BD, BE, BF, BG).
  Conditions: none.
-/
import Derived.Test.YtdjpkhjaibdogaaGreatL01
import Derived.Test.YtdjpkhjaibdogaaGreatL02
import Derived.Test.YtdjpkhjaibdogaaGreatL23
set_option linter.unusedSimpArgs false
set_option linter.unusedVariables false
set_option maxRecDepth 100000
set_option maxHeartbeats 8000000
namespace Go.Proofs.YtdjpkhjaibdogaaGreat
open Go Go.SX
attribute [local congr] ite_congr
def byN (b:ByteArray) (i:Nat):Nat:=(b.data.toList.getD i 0).toNat
theorem Nh (H:List Blk) (b:ByteArray) (ag sz by' z fl):Aid Tryz.prog 9 H (.sc (.string b)) (some ⟨ag,sz,by',z,none,none,fl⟩)=some (.sc (.int .i64 b.size)):=by
 have h:Cg Tryz.prog (Builtin.len_ #[9] 0 #[.string b])=some (goInt b.size):=by
  unfold Cg Builtin.len_
  simp [Ak,An,AG,un9]
 simp only [Aid,Cv,h]
 rfl
theorem Acr (b:ByteArray) (k:IntKind) (i:Nat) (h:decide (i < b.size)=true) (ag sz by' z fl):iaD Tryz.prog 9 (.sc (.string b)) (.sc (.int k i)) (some ⟨ag,sz,by',z,none,none,fl⟩)=some (.sc (.int .u8 (byN b i))):=by
 simp only [AN] at h
 have h:Cg Tryz.prog (Instr.index 9 (.string b) (.int k i))=some (.int .u8 (byN b i)):=by
  unfold Cg Instr.index
  have hl:i < b.data.toList.length:=h
  have h3:b[i]?=some (b.data.toList.getD i 0):=by
   rw [getElem?_pos b i h,lx80,lx51 hl,lx10]; rfl
  have h0:(0:Int)≤(i:Int):=NA i
  simp only [Ak,asIntOf,An,lx17,AG,un9,if_pos h0,Hp,h3,byN]
 simp only [iaD,Cv,h]
 rfl
def Rj (b:ByteArray) (i:Nat):Bool:=decide ((byN b i:Int) < 32) || decide ((126:Int) < (byN b i:Int))
def G8 (b:ByteArray):Bool:=!(List.range b.size).any (Rj b) && decide ((b.size:Int)≤32)
theorem Jc {p:Nat→Bool} {n:Nat}:(List.range n).any p=true↔∃ i,i < n∧p i=true:=Bc
theorem XI {b:ByteArray} {i:Nat} (hi:i < b.size) (h:Rj b i=true):G8 b=false:=by
 rw [G8,Jc.2 ⟨i,hi,h⟩]; rfl
theorem Af0 {b:ByteArray} (h:∀ i,i < b.size→Rj b i=false):G8 b=decide ((b.size:Int)≤32):=by
 have:(List.range b.size).any (Rj b)=false:=by
  rw [Lj]
  intro hc
  obtain ⟨i,hi,h2⟩:=Jc.1 hc
  rw [h i hi] at h2; cases h2
 rw [G8,this]; rfl
noncomputable def f187:=Ew (fun b:ByteArray=>b.size≤100000) (fun b=>[stA b]) (fun b=>bA (G8 b))
theorem Bd4 (b:ByteArray) (h:b.size≤100000):f187 [.sc (.string b)]=some (.sc (.bool (G8 b))):=
 (AK (q:=fun b:ByteArray=>b.size≤100000) (enc:=fun b=>[stA b]) (out:=fun b=>bA (G8 b)) b h (by intro y h; simp only [lx96,Ay] at h; rw [UC h]) :)
theorem Bd5:DC Tryz.prog 187 f187:=AF <| by
 rintro b hb
 refine Ac (Aq (.nil) (.nil)) rfl Tryz.func187 rfl (by decide) (by kernel_rfl) (by kernel_rfl) ?_
 simp only [Tryz.f187,Af,lx53,lx63,Nat.reduceAdd,Nat.reduceSub,List.replicate]
 refine Aa ?_
 simp (maxSteps:=10000000) +contextual -implicitDefEqProofs only [AY,AW,St.put,AZ,C4]
 refine Al (σ:=Nat) (fun r cnt=>⟨Bn 0 23 [(0,.sc (.string b)),(3,.sc (.int .i64 r))],[],cnt⟩)
  (fun r=>r≤b.size∧∀ j,j < r→Rj b j=false) (fun r=>b.size - r) 0 ⟨by omega,by omega⟩ ?_ trivial rfl ?_
 ·exact Gn
 rintro r cnt ⟨hr,hn⟩ ih
 refine Aa ?_
 by_cases hr':r < b.size
 ·have h1:decide ((r:Int) < (b.size:Int))=true:=by rw [AN]; omega
  have h2:decide (r < b.size)=true:=Ae
  have w1:IntKind.i64.wrap ((r:Int)+1)=((r+1:Nat):Int):=AA
  have hi:=Acr b .i64 r h2
  obtain ⟨v,hv⟩:∃ v,byN b r=v:=⟨_,rfl⟩
  have hd:=hn
  cases hb2:Rj b r with
  | true=>
   have e:=XI hr' hb2
   simp only [Rj,hv] at hb2
   cases c1:decide ((v:Int) < 32) with
   | true=>
    exact Aqo
   | false=>
    exact Aqb
  | false=>
   exact As8
 ·exact Ayn
theorem Bd6:DC Tryz.prog 147 f187:=AF <| by
 rintro b hb
 refine Ac (Aq (.nil) (.nil)) rfl Tryz.func147 rfl (by decide) (by kernel_rfl) (by kernel_rfl) ?_
 simp only [Tryz.f147,Af,lx53,lx63,Nat.reduceAdd,Nat.reduceSub,List.replicate]
 refine Aa ?_
 simp (maxSteps:=10000000) +contextual -implicitDefEqProofs only [AY,AW,St.put,AZ,C4]
 refine Al (σ:=Nat) (fun r cnt=>⟨Bn 0 23 [(0,.sc (.string b)),(3,.sc (.int .i64 r))],[],cnt⟩)
  (fun r=>r≤b.size∧∀ j,j < r→Rj b j=false) (fun r=>b.size - r) 0 ⟨by omega,by omega⟩ ?_ trivial rfl ?_
 ·exact Gn
 rintro r cnt ⟨hr,hn⟩ ih
 refine Aa ?_
 by_cases hr':r < b.size
 ·have h1:decide ((r:Int) < (b.size:Int))=true:=by rw [AN]; omega
  have h2:decide (r < b.size)=true:=Ae
  have w1:IntKind.i64.wrap ((r:Int)+1)=((r+1:Nat):Int):=AA
  have hi:=Acr b .i64 r h2
  obtain ⟨v,hv⟩:∃ v,byN b r=v:=⟨_,rfl⟩
  have hd:=hn
  cases hb2:Rj b r with
  | true=>
   have e:=XI hr' hb2
   simp only [Rj,hv] at hb2
   cases c1:decide ((v:Int) < 32) with
   | true=>
    exact Aqo
   | false=>
    exact Aqb
  | false=>
   exact As8
 ·exact Ayn
noncomputable def f186:=Ew (fun b:ByteArray=>b.size≤100000) (fun b=>[stA b]) (fun b=>bA (!G8 b))
theorem Bib (b:ByteArray) (h:b.size≤100000):f186 [stA b]=some (bA (!G8 b)):=
 (AK (q:=fun b:ByteArray=>b.size≤100000) (enc:=fun b=>[stA b]) (out:=fun b=>bA (!G8 b)) b h (by intro y h; simp only [lx96,Ay] at h; rw [UC h]) :)
theorem Bd7:DC Tryz.prog 186 f186:=AF <| by
 rintro b hb
 refine Ac (Aq ((.cons Bd5 .nil)) (.nil)) rfl Tryz.func186 rfl (by decide) (by kernel_rfl) (by kernel_rfl) ?_
 simp only [Tryz.f186,Af,lx53,lx63,Nat.reduceAdd,Nat.reduceSub,List.replicate]
 refine Aa ?_
 simp (maxSteps:=10000000) +contextual -implicitDefEqProofs only [AY,AW,St.put,Ap,Am,DO,pl,↓reduceIte,CK,AZ,C4,Bd4 b hb]
def Yl (x:Int):Bool:=!EU x 0 99
noncomputable def f188:=Ew (fun _:Int=>True) (fun x=>[kA .i64 x]) (fun x=>bA (Yl x))
theorem Bic (x:Int):f188 [kA .i64 x]=some (bA (Yl x)):=
 (AK (q:=fun _:Int=>True) (enc:=fun x=>[kA .i64 x]) (out:=fun x=>bA (Yl x)) x trivial (by intro y h; simp only [lx96,Ay] at h; rw [Bx h]) :)
theorem Bd8:DC Tryz.prog 188 f188:=AF <| by
 rintro x -
 refine Ac (Aq ((.cons Rh .nil)) (.nil)) rfl Tryz.func188 rfl (by decide) (by kernel_rfl) (by kernel_rfl) ?_
 simp only [Tryz.f188,Af,lx53,lx63,Nat.reduceAdd,Nat.reduceSub,List.replicate]
 refine Aa ?_
 simp (maxSteps:=10000000) +contextual -implicitDefEqProofs only [AY,AW,St.put,Ap,Am,DO,pl,↓reduceIte,CK,AB,AZ,OV,Yl]
def Y0 (x:Int):Bool:=!EU x (-2147483647) 2147483647
noncomputable def f189:=Ew (fun _:Int=>True) (fun x=>[kA .i64 x]) (fun x=>bA (Y0 x))
theorem Bid (x:Int):f189 [kA .i64 x]=some (bA (Y0 x)):=
 (AK (q:=fun _:Int=>True) (enc:=fun x=>[kA .i64 x]) (out:=fun x=>bA (Y0 x)) x trivial (by intro y h; simp only [lx96,Ay] at h; rw [Bx h]) :)
theorem Bd9:DC Tryz.prog 189 f189:=AF <| by
 rintro x -
 refine Ac (Aq ((.cons Rh .nil)) (.nil)) rfl Tryz.func189 rfl (by decide) (by kernel_rfl) (by kernel_rfl) ?_
 simp only [Tryz.f189,Af,lx53,lx63,Nat.reduceAdd,Nat.reduceSub,List.replicate]
 refine Aa ?_
 simp (maxSteps:=10000000) +contextual -implicitDefEqProofs only [AY,AW,St.put,Ap,Am,DO,pl,↓reduceIte,CK,AB,AZ,OV,Y0]
def KB (c:Cd) (e:En):Bool:=EU e.mo 0 (c.pri.length - 1) &&
 (if e.tr=1∨e.tr=2 then e.ix == 0 else if e.tr=3∨e.tr=4 then EU e.ix 0 63 else if e.tr=5 then EU e.ix 0 (c.tim - 1) else if e.tr=6 then EU e.ix 0 (c.evs - 1) else false)
noncomputable def f192:=Ew (fun p:Cd × En=>Fit p.1) (fun p=>[BP p.1,D8 p.2]) (fun p=>bA (KB p.1 p.2))
theorem Bda (c:Cd) (h:Fit c) (x:En):f192 [BP c,D8 x]=some (.sc (.bool (KB c x))):=
 (AK (q:=fun p:Cd × En=>Fit p.1) (enc:=fun p=>[BP p.1,D8 p.2]) (out:=fun p=>bA (KB p.1 p.2)) (c,x) h (by
  rintro ⟨a,b⟩ h
  simp only [lx96,Ay] at h
  rw [CT h.1,JJ h.2]) :)
theorem Bdb:DC Tryz.prog 192 f192:=AF <| by
 rintro ⟨c,⟨mo,tr,ix,pc⟩⟩ hq
 simp only at hq
 obtain ⟨w1,w2,w3,w4,w5,w6⟩:=Gy hq
 refine Ac (Aq ((.cons Rh .nil)) (.nil)) rfl Tryz.func192 rfl (by decide) (by kernel_rfl) (by kernel_rfl) ?_
 simp only [Tryz.f192,Af,lx53,lx63,Nat.reduceAdd,Nat.reduceSub,List.replicate]
 refine Aa ?_
 cases h0:EU mo 0 (c.pri.length - 1) with
 | false=>
  exact Azb
 | true=>
 rcases (by omega:tr=1∨tr=2∨tr=3∨tr=4∨tr=5∨tr=6∨(tr < 1∨6 < tr)) with rfl | rfl | rfl | rfl | rfl | rfl | h
 rotate_right
 ·exact Ayd
 all_goals exact Az4
theorem Bdc:DC Tryz.prog 148 f192:=AF <| by
 rintro ⟨c,⟨mo,tr,ix,pc⟩⟩ hq
 simp only at hq
 obtain ⟨w1,w2,w3,w4,w5,w6⟩:=Gy hq
 refine Ac (Aq ((.cons Aez .nil)) (.nil)) rfl Tryz.func148 rfl (by decide) (by kernel_rfl) (by kernel_rfl) ?_
 simp only [Tryz.f148,Af,lx53,lx63,Nat.reduceAdd,Nat.reduceSub,List.replicate]
 refine Aa ?_
 cases h0:EU mo 0 (c.pri.length - 1) with
 | false=>
  exact Azb
 | true=>
 rcases (by omega:tr=1∨tr=2∨tr=3∨tr=4∨tr=5∨tr=6∨(tr < 1∨6 < tr)) with rfl | rfl | rfl | rfl | rfl | rfl | h
 rotate_right
 ·exact Ayd
 all_goals exact Az4
noncomputable def f191:=Ew (fun p:En × Cd=>Fit p.2) (fun p=>[D8 p.1,.vp [BP p.2] 0 0]) (fun p=>bA (!KB p.2 p.1))
theorem Bie (c:Cd) (h:Fit c) (x:En):f191 [D8 x,.vp [BP c] 0 0]=some (bA (!KB c x)):=
 (AK (q:=fun p:En × Cd=>Fit p.2) (enc:=fun p=>[D8 p.1,.vp [BP p.2] 0 0]) (out:=fun p=>bA (!KB p.2 p.1)) (x,c) h (by
  rintro ⟨a,b⟩ h
  simp only [lx96,AV.vp.injEq,Ay] at h
  rw [CT h.2,JJ h.1]) :)
theorem Bdd:DC Tryz.prog 191 f191:=AF <| by
 rintro ⟨x,c⟩ hq
 simp only at hq
 have e1:=Bda c hq x
 simp only [Ab,BU] at e1
 refine Ac (Aq ((.cons Bdb .nil)) (.nil)) rfl Tryz.func191 rfl (by decide) (by kernel_rfl) (by kernel_rfl) ?_
 simp only [Tryz.f191,Af,lx53,lx63,Nat.reduceAdd,Nat.reduceSub,List.replicate]
 refine Aa ?_
 exact IU (a3 e1 @BU @Ab)
 all_goals done
def tgB (c:Cd) (e:En):Bool:=!EU e.pc 0 (c.ins.length - 1)
noncomputable def f195:=Ew (fun p:En × Cd=>Fit p.2) (fun p=>[D8 p.1,.vp [BP p.2] 0 0]) (fun p=>bA (tgB p.2 p.1))
theorem Bif (c:Cd) (h:Fit c) (x:En):f195 [D8 x,.vp [BP c] 0 0]=some (bA (tgB c x)):=
 (AK (q:=fun p:En × Cd=>Fit p.2) (enc:=fun p=>[D8 p.1,.vp [BP p.2] 0 0]) (out:=fun p=>bA (tgB p.2 p.1)) (x,c) h (by
  rintro ⟨a,b⟩ h
  simp only [lx96,AV.vp.injEq,Ay] at h
  rw [CT h.2,JJ h.1]) :)
theorem Bde:DC Tryz.prog 195 f195:=AF <| by
 rintro ⟨x,c⟩ hq
 simp only at hq
 obtain ⟨w1,w2,w3,w4,w5,w6⟩:=Gy hq
 refine Ac (Aq ((.cons Rh .nil)) (.nil)) rfl Tryz.func195 rfl (by decide) (by kernel_rfl) (by kernel_rfl) ?_
 simp only [Tryz.f195,Af,lx53,lx63,Nat.reduceAdd,Nat.reduceSub,List.replicate]
 refine Aa ?_
 simp (maxSteps:=10000000) +contextual -implicitDefEqProofs only [AY,AW,St.put,Ap,Am,DO,pl,↓reduceIte,reduceCtorEq,Nat.reduceAdd,Dc,Int.reduceAdd,CK,AZ,BU,Ab,AV.noref,OV,w4,tgB]
 all_goals done
def N2 (c:Cd):Bool:=decide ((c.ins.length:Int)≤4000) && decide ((c.strs.length:Int)≤200) && decide ((c.ens.length:Int)≤512) && decide ((c.pri.length:Int)≤16) && decide ((c.vars.length:Int)≤128) && EU c.tim 0 128 && EU c.evs 0 128
noncomputable def f142:=Ew Fit (fun c=>[BP c]) (fun c=>bA (N2 c))
theorem Big (c:Cd) (h:Fit c):f142 [BP c]=some (.sc (.bool (N2 c))):=
 (AK (q:=Fit) (enc:=fun c=>[BP c]) (out:=fun c=>bA (N2 c)) c h (by
  intro b h
  simp only [lx96,Ay] at h
  rw [CT h]) :)
theorem Atk:DC Tryz.prog 142 f142:=AF <| by
 rintro c hq
 refine Ac (Aq ((.cons Rh .nil)) (.nil)) rfl Tryz.func142 rfl (by decide) (by kernel_rfl) (by kernel_rfl) ?_
 simp only [Tryz.f142,Af,lx53,lx63,Nat.reduceAdd,Nat.reduceSub,List.replicate]
 refine Aa ?_
 simp (maxSteps:=10000000) +contextual -implicitDefEqProofs only [AY,AW,Au,St.put,Ap,Am,DO,pl,↓reduceIte,reduceCtorEq,Nat.reduceAdd,Dc,Int.reduceAdd,CK,AZ,Ab,OV,N2,lx1]
 all_goals done
theorem Acu {P:Program} {f:Nat} {a1 a2:List AV} {r1 r2:AV} (h1:C0 P f a1 r1) (h2:C0 P f a2 r2) (hne:a2≠a1):∃ F,DC P f F∧F a1=some r1∧F a2=some r2:=by
 refine ⟨fun a=>open Classical in if a=a1 then some r1 else if a=a2 then some r2 else none,?_,by simp,by simp [hne]⟩
 intro a v hv
 simp only at hv
 split at hv
 ·rename_i e; subst e; cases hv; exact h1
 ·split at hv
  ·rename_i e; subst e; cases hv; exact h2
  ·cases hv
def insP (c:Cd) (x:In):Bool:=!EY x.op && !EU x.a (DM c x.op).1 (DM c x.op).2
theorem Ao6 (c:Cd) (x:In):insP c x=!Ri c x:=by
 obtain ⟨op,a⟩:=x
 rcases DL op with (rfl | rfl | rfl | rfl | rfl | rfl | rfl | rfl | rfl | rfl | rfl | rfl | rfl | rfl | rfl | rfl | rfl | rfl | rfl | rfl | rfl | rfl | rfl | rfl | rfl | rfl | rfl | rfl | rfl | rfl | rfl) | h
 rotate_right
 have g:∀ k:Int,1≤k→k≤31→(op=k)=False:=fun k h1 h2=>by have:=h k h1 h2; simpa using this
 ·simp [insP,Ri,Br,DM,EY,EU,h,g]
  omega
 all_goals simp [insP,Ri,Br,DM,EY,EU]
 all_goals first | done | rw [Bool.eq_iff_iff]; simp; omega
def Y1 (c:Cd):Bool:=c.strs.any (fun b=>!G8 b) || c.pri.any Yl || c.vars.any Y0 || c.ens.any (fun e=>!KB c e)
def RO (c:Cd) (k:Nat):Bool:=Y1 c || (c.ins.take k).any (insP c)
def IE (c:Cd):Bool:=!(Y1 c || c.ins.any (insP c))
theorem Af1 (c:Cd):RO c 0=Y1 c:=by simp [RO]
theorem XJ {α:Type} [Inhabited α] {p:α→Bool} {l:List α} {k:Nat} (h:k < l.length):(l.take (k+1)).any p=((l.take k).any p || p (l.getD k default)):=by
 rw [lx115 h,List.any_append,lx80,lx51 h]; simp
theorem Af2 (c:Cd) {k:Nat} (h:k < c.ins.length):RO c (k+1)=(RO c k || insP c (c.ins.getD k default)):=by
 rw [RO,RO,XJ h,Bool.or_assoc]
theorem Ak7 (c:Cd):RO c c.ins.length=(Y1 c || c.ins.any (insP c)):=by rw [RO,lx74]
noncomputable def f143:=Ew Fit (fun c=>[BP c]) (fun c=>bA (IE c))
theorem Bdf (c:Cd) (h:Fit c):f143 [BP c]=some (.sc (.bool (IE c))):=
 (AK (q:=Fit) (enc:=fun c=>[BP c]) (out:=fun c=>bA (IE c)) c h (by
  intro b h
  simp only [lx96,Ay] at h
  rw [CT h]) :)
theorem Atl:DC Tryz.prog 143 f143:=AF <| by
 rintro c hq
 obtain ⟨q1,q2,q3,q4,q5,q6,q7,q8⟩:=hq
 have hq:Fit c:=⟨q1,q2,q3,q4,q5,q6,q7,q8⟩
 obtain ⟨F185,k185,e185⟩:=F9 (Bcx Bd7 (fun b=>!G8 b) c.zs c.strs (fun b hb=>Bib b (q8 b hb)) (by omega))
 obtain ⟨F116,k116,e116,e116'⟩:=Acu (Ati Bd8 Yl c.zp c.pri (fun b _=>Bic b) (by omega)) (Ati Bd9 Y0 c.zv c.vars (fun b _=>Bid b) (by omega)) (by simp)
 obtain ⟨F190,k190,e190⟩:=F9 (Ak6 Bdd (fun e=>!KB c e) [BP c] c.ze c.ens (fun b _=>Bie c hq b) (by omega))
 have x1:=fun op=>Bi9 c hq op
 simp only [Ab,AZ] at e190 e185 e116 e116' x1
 refine Ac (Aq ((.cons k185 (.cons k116 (.cons k190 (.cons Bd2 (.cons Rh (.cons Ath .nil))))))) (.nil)) rfl Tryz.func143 rfl (by decide) (by kernel_rfl) (by kernel_rfl) ?_
 simp only [Tryz.f143,Af,lx53,lx63,Nat.reduceAdd,Nat.reduceSub,List.replicate]
 refine Aa ?_
 have hp:Y1 c=(c.strs.any (fun b=>!G8 b) || c.pri.any Yl || c.vars.any Y0 || c.ens.any (fun e=>!KB c e)):=rfl
 have hpc:IE c=!RO c c.ins.length:=by rw [Ak7]; rfl
 rw [hpc]
 obtain ⟨b1,hb1⟩:∃ b,c.strs.any (fun b=>!G8 b)=b:=⟨_,rfl⟩
 obtain ⟨b2,hb2⟩:∃ b,c.pri.any Yl=b:=⟨_,rfl⟩
 obtain ⟨b3,hb3⟩:∃ b,c.vars.any Y0=b:=⟨_,rfl⟩
 obtain ⟨b4,hb4⟩:∃ b,c.ens.any (fun e=>!KB c e)=b:=⟨_,rfl⟩
 rw [hb1] at e185 hp
 rw [hb2] at e116 hp
 rw [hb3] at e116' hp
 rw [hb4] at e190 hp
 clear hb1 hb2 hb3 hb4 hpc
 have h0:=Af1 c
 rw [hp] at h0
 clear hp
 have hs:=fun k (hk:k < c.ins.length)=>Af2 c hk
 obtain ⟨W,hW⟩:∃ W,RO c=W:=⟨_,rfl⟩
 rw [hW] at h0 hs ⊢
 clear hW
 simp (maxSteps:=10000000) +contextual -implicitDefEqProofs only [AY,AW,Au,St.put,Ap,Am,DO,pl,↓reduceIte,reduceCtorEq,Nat.reduceAdd,Nat.reduceEqDiff,Dc,Int.reduceAdd,CK,AZ,Ab,e185,e116,e116',e190]
 refine Al (σ:=Nat) (fun k cnt=>⟨Bn 0 59 [(1,.pt 0 0 0 0),(3,.sc (.bool (W k))),(28,.vw c.zi (c.ins.map B9)),(29,.sc (.int .i64 c.ins.length)),(30,.sc (.int .i64 k))],[⟨true,0,36,7,[BP c],false⟩],cnt⟩)
  (fun k=>k≤c.ins.length) (fun k=>c.ins.length - k) 0 (Bu _) ?_ ?_ rfl ?_
 ·simp (maxSteps:=10000000) only [AY,AW,↓reduceIte,reduceCtorEq,Nat.reduceAdd,Nat.reduceEqDiff,Bn,Dj,h0]
 ·exact Jp
 rintro k cnt hk ih
 by_cases hk':k < c.ins.length
 rotate_left
 ·obtain rfl:k=c.ins.length:=by omega
  have h1:decide ((c.ins.length:Int) < (c.ins.length:Int))=false:=Bc
  refine Aa ?_
  refine Bq ?_
  simp (maxSteps:=10000000) +contextual -implicitDefEqProofs only [AY,AW,St.put,↓reduceIte,Ab,h1]
  all_goals done
 have h1:decide ((k:Int) < (c.ins.length:Int))=true:=Ae
 have h2:decide (k < c.ins.length)=true:=Ae
 have w1:IntKind.i64.wrap ((k:Int)+1)=((k+1:Nat):Int):=AA
 have hs:=hs k hk'
 have ih:=fun c=>ih (k+1) c hk' (by omega)
 rw [hs] at ih
 obtain ⟨⟨op,a⟩,hx⟩:∃ x,c.ins.getD k default=x:=⟨_,rfl⟩
 rw [hx] at ih
 have x1:=x1 op
 have x2:=Bcs op
 obtain ⟨w,hw⟩:∃ w,W k=w:=⟨_,rfl⟩
 rw [hw] at ih ⊢
 simp only [insP] at ih
 refine Aa ?_
 cases w with
 | true=>
  refine Bq ?_
  refine Jk (a8 h1 h2 hx x1 w1 @AM @Ab @AD) ?_
  exact JV
 | false=>
  cases hj:EY op with
  | true=>
   rw [hj] at x2 ih
   refine Bq ?_
   refine Jk (a9 h1 h2 hx x1 x2 w1 @AM @Ab @AD) ?_
   exact JV
  | false=>
   rw [hj] at x2 ih
   refine Bq ?_
   refine Jk (Hg h1 h2 hx x1 x2 w1 @AM @Ab @AD @OV) ?_
   exact JV
def XK (c:Cd) (x:In):Bool:=EY x.op && !EU x.a 0 (c.ins.length - 1)
def Ga (c:Cd):Bool:=!c.ins.any (XK c) && !c.ens.any (tgB c)
noncomputable def f144:=Ew Fit (fun c=>[BP c]) (fun c=>bA (Ga c))
theorem Bdg (c:Cd) (h:Fit c):f144 [BP c]=some (.sc (.bool (Ga c))):=
 (AK (q:=Fit) (enc:=fun c=>[BP c]) (out:=fun c=>bA (Ga c)) c h (by
  intro b h
  simp only [lx96,Ay] at h
  rw [CT h]) :)
theorem Atm:DC Tryz.prog 144 f144:=AF <| by
 rintro c hq
 obtain ⟨q1,q2,q3,q4,q5,q6,q7,q8⟩:=hq
 have hq:Fit c:=⟨q1,q2,q3,q4,q5,q6,q7,q8⟩
 obtain ⟨v1,v2,v3,v4,v5,v6⟩:=Gy hq
 obtain ⟨F190,k190,e190⟩:=F9 (Ak6 Bde (tgB c) [BP c] c.ze c.ens (fun b _=>Bif c hq b) (by omega))
 simp only [Ab,AZ] at e190
 refine Ac (Aq ((.cons k190 (.cons Rh (.cons Ath .nil)))) (.nil)) rfl Tryz.func144 rfl (by decide) (by kernel_rfl) (by kernel_rfl) ?_
 simp only [Tryz.f144,Af,lx53,lx63,Nat.reduceAdd,Nat.reduceSub,List.replicate]
 refine Aa ?_
 refine Jk @Ab ?_
 refine Al (σ:=Nat) (fun k cnt=>⟨Bn 0 31 [(1,.pt 0 0 0 0),(6,.vw c.zi (c.ins.map B9)),(7,.sc (.int .i64 c.ins.length)),(8,.sc (.int .i64 k))],[⟨true,0,36,7,[BP c],false⟩],cnt⟩)
  (fun k=>k≤c.ins.length∧∀ j,j < k→XK c (c.ins.getD j default)=false) (fun k=>c.ins.length - k) 0 ⟨by omega,by omega⟩ ?_ ?_ rfl ?_
 ·exact Gn
 ·exact Jp
 rintro k cnt ⟨hk,hn⟩ ih
 by_cases hk':k < c.ins.length
 rotate_left
 ·obtain rfl:k=c.ins.length:=by omega
  have h1:decide ((c.ins.length:Int) < (c.ins.length:Int))=false:=Bc
  have e:c.ins.any (XK c)=false:=IQ hn
  refine Aa ?_
  refine Bq ?_
  simp (maxSteps:=10000000) +contextual -implicitDefEqProofs only [AY,AW,St.put,Ap,Am,DO,pl,↓reduceIte,reduceCtorEq,Dc,CK,Ab,h1,e190,Ga,e]
  all_goals done
 have h1:decide ((k:Int) < (c.ins.length:Int))=true:=Ae
 have h2:decide (k < c.ins.length)=true:=Ae
 have w1:IntKind.i64.wrap ((k:Int)+1)=((k+1:Nat):Int):=AA
 have ih:=fun c=>ih (k+1) c
 have hat:=IP (p:=XK c) hk'
 have hne:=Bl hn (k:=k)
 obtain ⟨⟨op,a⟩,hx⟩:∃ x,c.ins.getD k default=x:=⟨_,rfl⟩
 rw [hx] at hat hne
 have x2:=Bcs op
 refine Aa ?_
 cases hj:EY op with
 | false=>
  rw [hj] at x2
  have ih:=fun c=>ih c ⟨by omega,hne (by simp [XK,hj])⟩ (by omega)
  refine Bq ?_
  refine Jk (a8 h1 h2 hx x2 w1 @AM @Ab @AD) ?_
  exact JV
 | true=>
  rw [hj] at x2
  cases hi:EU a 0 (c.ins.length - 1) with
  | true=>
   have ih:=fun c=>ih c ⟨by omega,hne (by simp [XK,hj,hi])⟩ (by omega)
   refine Bq ?_
   refine Jk (IL h1 h2 hx x2 v4 hi w1 @AM @Ab @AD @OV) ?_
   exact JV
  | false=>
   have e:=hat (by simp [XK,hj,hi])
   have e2:Ga c=false:=by rw [Ga,e]; rfl
   refine Bq ?_
   exact IU (IL h1 h2 hx x2 v4 hi e2 @AM @Ab @AD @OV)
   all_goals done
def txX (b:ByteArray):Bool:=!G8 b
def enX (c:Cd) (e:En):Bool:=!KB c e
def nmX (c:Cd) (i:In):Bool:=!Ri c i
def LF (c:Cd):Bool:=!(c.strs.any txX || c.pri.any Yl || c.vars.any Y0 || c.ens.any (enX c) || c.ins.any (nmX c))
theorem Ak8 (c:Cd):LF c=IE c:=by
 have:nmX c=insP c:=by funext i; rw [Ao6]; rfl
 rw [LF,IE,Y1,this]; rfl
theorem Ato:DC Tryz.prog 100 f143:=AF <| by
 rintro c hq
 rw [←Ak8]
 obtain ⟨q1,q2,q3,q4,q5,q6,q7,q8⟩:=hq
 have hq:Fit c:=⟨q1,q2,q3,q4,q5,q6,q7,q8⟩
 have y2:=fun x=>Bda c hq x
 have y3:=fun x=>Bia c hq x
 simp only [Ab] at y2 y3
 refine Ac (Aq ((.cons Bd6 (.cons Aez (.cons Bdc (.cons Bd3 .nil))))) (.nil)) rfl Tryz.func100 rfl (by decide) (by kernel_rfl) (by kernel_rfl) ?_
 simp only [Tryz.f100,Af,lx53,lx63,Nat.reduceAdd,Nat.reduceSub,List.replicate]
 refine Aa ?_
 refine Jk @Ab ?_
 refine Al (σ:=Nat) (fun k cnt=>⟨Bn 0 80 [(1,.pt 0 0 0 0),(3,.sc (.int .i64 k))],[⟨true,0,36,7,[BP c],false⟩],cnt⟩)
  (fun k=>k≤c.strs.length∧∀ j,j < k→(txX) (c.strs.getD j default)=false) (fun k=>c.strs.length - k) 0 ⟨by omega,by omega⟩ ?_ ?_ rfl ?_
 ·exact Gn
 ·exact Jp
 rintro k cnt ⟨hk,hn⟩ ih
 by_cases hk':k < c.strs.length
 ·have h1:decide ((k:Int) < (c.strs.length:Int))=true:=by rw [AN]; omega
  have h2:decide (k < c.strs.length)=true:=Ae
  have w1:IntKind.i64.wrap ((k:Int)+1)=((k+1:Nat):Int):=AA
  have ih:=fun c=>ih (k+1) c
  have hat:=IP (p:=txX) hk'
  have hne:=Bl hn (k:=k)
  have hm:=B7 hk'
  obtain ⟨x,hx⟩:∃ x,c.strs.getD k default=x:=⟨_,rfl⟩
  rw [hx] at hat hne hm
  have x1:=Bd4 x (q8 x hm)
  refine Aa ?_
  cases hb:(txX) x with
  | true=>
   have e:=hat hb
   have e2:LF c=false:=by rw [LF,e]; rfl
   have hb':G8 x=false:=by simpa [txX] using hb
   rw [hb'] at x1
   refine Bq ?_
   exact IU (a8 h1 h2 hx x1 e2 @C4 @Ab @HN)
   repeat' (first | exact Ad (by kernel_rfl) | refine ⟨Ad (by kernel_rfl),?_⟩ | refine And.intro ?_ ?_ | fail)
   all_goals done
  | false=>
   have ih:=fun c=>ih c ⟨by omega,hne hb⟩ (by omega)
   have hb':G8 x=true:=by simpa [txX] using hb
   rw [hb'] at x1
   refine Bq ?_
   refine Jk (a8 h1 h2 hx x1 w1 @C4 @Ab @HN) ?_
   exact MB
 have hkl:k=c.strs.length:=Ah
 subst hkl
 have h1:decide ((c.strs.length:Int) < (c.strs.length:Int))=false:=Bc
 have n3:c.strs.any (txX)=false:=IQ hn
 clear hn ih hk hk'
 refine Ae0 ?_
 refine Al (σ:=Nat) (fun k cnt=>⟨Bn 0 80 [(1,.pt 0 0 0 0),(4,.sc (.int .i64 k))],[⟨true,0,36,7,[BP c],false⟩],cnt⟩)
  (fun k=>k≤c.pri.length∧∀ j,j < k→(Yl) (c.pri.getD j default)=false) (fun k=>c.pri.length - k) 0 ⟨by omega,by omega⟩ ?_ ?_ rfl ?_
 ·exact Gn
 ·exact Jp
 rintro k cnt ⟨hk,hn⟩ ih
 by_cases hk':k < c.pri.length
 ·have h1:decide ((k:Int) < (c.pri.length:Int))=true:=by rw [AN]; omega
  have h2:decide (k < c.pri.length)=true:=Ae
  have w1:IntKind.i64.wrap ((k:Int)+1)=((k+1:Nat):Int):=AA
  have ih:=fun c=>ih (k+1) c
  have hat:=IP (p:=Yl) hk'
  have hne:=Bl hn (k:=k)
  have hm:=B7 hk'
  obtain ⟨x,hx⟩:∃ x,c.pri.getD k default=x:=⟨_,rfl⟩
  rw [hx] at hat hne hm
  skip
  refine Aa ?_
  cases hb:(Yl) x with
  | true=>
   have e:=hat hb
   have e2:LF c=false:=ZK
   have hb':EU x 0 99=false:=by simpa [Yl] using hb
   exact Az2
  | false=>
   have ih:=fun c=>ih c ⟨by omega,hne hb⟩ (by omega)
   have hb':EU x 0 99=true:=by simpa [Yl] using hb
   exact Asa
 have hkl:k=c.pri.length:=Ah
 subst hkl
 have h1:decide ((c.pri.length:Int) < (c.pri.length:Int))=false:=Bc
 have n4:c.pri.any (Yl)=false:=IQ hn
 clear hn ih hk hk'
 refine Ae0 ?_
 refine Al (σ:=Nat) (fun k cnt=>⟨Bn 0 80 [(1,.pt 0 0 0 0),(5,.sc (.int .i64 k))],[⟨true,0,36,7,[BP c],false⟩],cnt⟩)
  (fun k=>k≤c.vars.length∧∀ j,j < k→(Y0) (c.vars.getD j default)=false) (fun k=>c.vars.length - k) 0 ⟨by omega,by omega⟩ ?_ ?_ rfl ?_
 ·exact Gn
 ·exact Jp
 rintro k cnt ⟨hk,hn⟩ ih
 by_cases hk':k < c.vars.length
 ·have h1:decide ((k:Int) < (c.vars.length:Int))=true:=by rw [AN]; omega
  have h2:decide (k < c.vars.length)=true:=Ae
  have w1:IntKind.i64.wrap ((k:Int)+1)=((k+1:Nat):Int):=AA
  have ih:=fun c=>ih (k+1) c
  have hat:=IP (p:=Y0) hk'
  have hne:=Bl hn (k:=k)
  have hm:=B7 hk'
  obtain ⟨x,hx⟩:∃ x,c.vars.getD k default=x:=⟨_,rfl⟩
  rw [hx] at hat hne hm
  skip
  refine Aa ?_
  cases hb:(Y0) x with
  | true=>
   have e:=hat hb
   have e2:LF c=false:=ZK
   have hb':EU x (-2147483647) 2147483647=false:=by simpa [Y0] using hb
   exact Az2
  | false=>
   have ih:=fun c=>ih c ⟨by omega,hne hb⟩ (by omega)
   have hb':EU x (-2147483647) 2147483647=true:=by simpa [Y0] using hb
   exact Asa
 have hkl:k=c.vars.length:=Ah
 subst hkl
 have h1:decide ((c.vars.length:Int) < (c.vars.length:Int))=false:=Bc
 have n5:c.vars.any (Y0)=false:=IQ hn
 clear hn ih hk hk'
 refine Ae0 ?_
 refine Al (σ:=Nat) (fun k cnt=>⟨Bn 0 80 [(1,.pt 0 0 0 0),(6,.sc (.int .i64 k))],[⟨true,0,36,7,[BP c],false⟩],cnt⟩)
  (fun k=>k≤c.ens.length∧∀ j,j < k→(enX c) (c.ens.getD j default)=false) (fun k=>c.ens.length - k) 0 ⟨by omega,by omega⟩ ?_ ?_ rfl ?_
 ·exact Gn
 ·exact Jp
 rintro k cnt ⟨hk,hn⟩ ih
 by_cases hk':k < c.ens.length
 ·have h1:decide ((k:Int) < (c.ens.length:Int))=true:=by rw [AN]; omega
  have h2:decide (k < c.ens.length)=true:=Ae
  have w1:IntKind.i64.wrap ((k:Int)+1)=((k+1:Nat):Int):=AA
  have ih:=fun c=>ih (k+1) c
  have hat:=IP (p:=enX c) hk'
  have hne:=Bl hn (k:=k)
  have hm:=B7 hk'
  obtain ⟨x,hx⟩:∃ x,c.ens.getD k default=x:=⟨_,rfl⟩
  rw [hx] at hat hne hm
  have y2:=y2 x
  simp only [BU] at y2
  refine Aa ?_
  cases hb:(enX c) x with
  | true=>
   have e:=hat hb
   have e2:LF c=false:=ZK
   have hb':KB c x=false:=by simpa [enX] using hb
   rw [hb'] at y2
   refine Bq ?_
   exact IU (a8 h1 h2 hx y2 e2 @BU @Ab @Cu)
   repeat' (first | exact Ad (by kernel_rfl) | refine ⟨Ad (by kernel_rfl),?_⟩ | refine And.intro ?_ ?_ | fail)
   all_goals done
  | false=>
   have ih:=fun c=>ih c ⟨by omega,hne hb⟩ (by omega)
   have hb':KB c x=true:=by simpa [enX] using hb
   rw [hb'] at y2
   refine Bq ?_
   refine Jk (a8 h1 h2 hx y2 w1 @BU @Ab @Cu) ?_
   exact MB
 have hkl:k=c.ens.length:=Ah
 subst hkl
 have h1:decide ((c.ens.length:Int) < (c.ens.length:Int))=false:=Bc
 have n6:c.ens.any (enX c)=false:=IQ hn
 clear hn ih hk hk'
 refine Ae0 ?_
 refine Al (σ:=Nat) (fun k cnt=>⟨Bn 0 80 [(1,.pt 0 0 0 0),(7,.sc (.int .i64 k))],[⟨true,0,36,7,[BP c],false⟩],cnt⟩)
  (fun k=>k≤c.ins.length∧∀ j,j < k→(nmX c) (c.ins.getD j default)=false) (fun k=>c.ins.length - k) 0 ⟨by omega,by omega⟩ ?_ ?_ rfl ?_
 ·exact Gn
 ·exact Jp
 rintro k cnt ⟨hk,hn⟩ ih
 by_cases hk':k < c.ins.length
 ·have h1:decide ((k:Int) < (c.ins.length:Int))=true:=by rw [AN]; omega
  have h2:decide (k < c.ins.length)=true:=Ae
  have w1:IntKind.i64.wrap ((k:Int)+1)=((k+1:Nat):Int):=AA
  have ih:=fun c=>ih (k+1) c
  have hat:=IP (p:=nmX c) hk'
  have hne:=Bl hn (k:=k)
  have hm:=B7 hk'
  obtain ⟨x,hx⟩:∃ x,c.ins.getD k default=x:=⟨_,rfl⟩
  rw [hx] at hat hne hm
  have y3:=y3 x
  simp only [AM] at y3
  refine Aa ?_
  cases hb:(nmX c) x with
  | true=>
   have e:=hat hb
   have e2:LF c=false:=ZK
   have hb':Ri c x=false:=by simpa [nmX] using hb
   rw [hb'] at y3
   refine Bq ?_
   exact IU (a8 h1 h2 hx y3 e2 @AM @Ab @AD)
   repeat' (first | exact Ad (by kernel_rfl) | refine ⟨Ad (by kernel_rfl),?_⟩ | refine And.intro ?_ ?_ | fail)
   all_goals done
  | false=>
   have ih:=fun c=>ih c ⟨by omega,hne hb⟩ (by omega)
   have hb':Ri c x=true:=by simpa [nmX] using hb
   rw [hb'] at y3
   refine Bq ?_
   refine Jk (a8 h1 h2 hx y3 w1 @AM @Ab @AD) ?_
   exact MB
 have hkl:k=c.ins.length:=Ah
 subst hkl
 have h1:decide ((c.ins.length:Int) < (c.ins.length:Int))=false:=Bc
 have n7:c.ins.any (nmX c)=false:=IQ hn
 clear hn ih hk hk'
 refine Aa ?_
 refine Bq ?_
 simp (maxSteps:=10000000) +contextual -implicitDefEqProofs only [AY,AW,St.put,↓reduceIte,reduceCtorEq,Dc,CK,Ab,h1,LF,n3,n4,n5,n6,n7]
 all_goals done
theorem Bdh (op:Int):((Br op).2.2 == 7)=EY op:=by
 rcases DL op with (rfl | rfl | rfl | rfl | rfl | rfl | rfl | rfl | rfl | rfl | rfl | rfl | rfl | rfl | rfl | rfl | rfl | rfl | rfl | rfl | rfl | rfl | rfl | rfl | rfl | rfl | rfl | rfl | rfl | rfl | rfl) | h
 rotate_right
 have g:∀ k:Int,1≤k→k≤31→(op=k)=False:=fun k h1 h2=>by have:=h k h1 h2; simpa using this
 ·simp [Br,EY,h,g]
 all_goals rfl
theorem Atp:DC Tryz.prog 101 f144:=AF <| by
 rintro c hq
 obtain ⟨q1,q2,q3,q4,q5,q6,q7,q8⟩:=hq
 have hq:Fit c:=⟨q1,q2,q3,q4,q5,q6,q7,q8⟩
 obtain ⟨v1,v2,v3,v4,v5,v6⟩:=Gy hq
 refine Ac (Aq ((.cons Acq (.cons Aez .nil))) (.nil)) rfl Tryz.func101 rfl (by decide) (by kernel_rfl) (by kernel_rfl) ?_
 simp only [Tryz.f101,Af,lx53,lx63,Nat.reduceAdd,Nat.reduceSub,List.replicate]
 refine Aa ?_
 refine Jk @Ab ?_
 refine Al (σ:=Nat) (fun k cnt=>⟨Bn 0 61 [(1,.pt 0 0 0 0),(3,.sc (.int .i64 k))],[⟨true,0,36,7,[BP c],false⟩],cnt⟩)
  (fun k=>k≤c.ins.length∧∀ j,j < k→(XK c) (c.ins.getD j default)=false) (fun k=>c.ins.length - k) 0 ⟨by omega,by omega⟩ ?_ ?_ rfl ?_
 ·exact Gn
 ·exact Jp
 rintro k cnt ⟨hk,hn⟩ ih
 by_cases hk':k < c.ins.length
 ·have h1:decide ((k:Int) < (c.ins.length:Int))=true:=by rw [AN]; omega
  have h2:decide (k < c.ins.length)=true:=Ae
  have w1:IntKind.i64.wrap ((k:Int)+1)=((k+1:Nat):Int):=AA
  have ih:=fun c=>ih (k+1) c
  have hat:=IP (p:=XK c) hk'
  have hne:=Bl hn (k:=k)
  have hm:=B7 hk'
  obtain ⟨⟨op,a⟩,hx⟩:∃ x,c.ins.getD k default=x:=⟨_,rfl⟩
  rw [hx] at hat hne hm
  have x1:=Ao5 op
  have k7:=Bdh op
  refine Aa ?_
  cases hb:(XK c) ⟨op,a⟩ with
  | true=>
   have e:=hat hb
   have e2:Ga c=false:=by rw [Ga,e]; rfl
   simp only [XK,AX,J2] at hb
   obtain ⟨hb1,hb2⟩:=hb
   rw [hb1] at k7
   refine Bq ?_
   exact IU (G0 h1 h2 hx x1 v4 k7 hb2 e2 @AM @Ab @AD @OV)
   repeat' (first | exact Ad (by kernel_rfl) | refine ⟨Ad (by kernel_rfl),?_⟩ | refine And.intro ?_ ?_ | fail)
   all_goals done
  | false=>
   have ih:=fun c=>ih c ⟨by omega,hne hb⟩ (by omega)
   simp only [XK] at hb
   cases hb1:EY op with
   | false=>
    rw [hb1] at k7
    refine Bq ?_
    refine Jk (a9 h1 h2 hx x1 k7 w1 @AM @Ab @AD) ?_
    repeat' (first | exact Ad (by kernel_rfl) | refine ⟨Ad (by kernel_rfl),?_⟩ | refine And.intro ?_ ?_ | fail)
    refine Ao ?_ ?_ (Ar _) (ih _)
    all_goals simp (maxSteps:=10000000) only [AY,AW,↓reduceIte,reduceCtorEq,Nat.reduceAdd,Nat.reduceEqDiff,Bn,Dj,Ab]
   | true=>
   rw [hb1] at k7 hb
   have hb2:EU a 0 (c.ins.length - 1)=true:=by simpa using hb
   refine Bq ?_
   refine Jk (G0 h1 h2 hx x1 v4 k7 hb2 w1 @AM @Ab @AD @OV) ?_
   exact MB
 have hkl:k=c.ins.length:=Ah
 subst hkl
 have h1:decide ((c.ins.length:Int) < (c.ins.length:Int))=false:=Bc
 have n3:c.ins.any (XK c)=false:=IQ hn
 clear hn ih hk hk'
 refine Ae0 ?_
 refine Al (σ:=Nat) (fun k cnt=>⟨Bn 0 61 [(1,.pt 0 0 0 0),(7,.sc (.int .i64 k))],[⟨true,0,36,7,[BP c],false⟩],cnt⟩)
  (fun k=>k≤c.ens.length∧∀ j,j < k→(tgB c) (c.ens.getD j default)=false) (fun k=>c.ens.length - k) 0 ⟨by omega,by omega⟩ ?_ ?_ rfl ?_
 ·exact Gn
 ·exact Jp
 rintro k cnt ⟨hk,hn⟩ ih
 by_cases hk':k < c.ens.length
 ·have h1:decide ((k:Int) < (c.ens.length:Int))=true:=by rw [AN]; omega
  have h2:decide (k < c.ens.length)=true:=Ae
  have w1:IntKind.i64.wrap ((k:Int)+1)=((k+1:Nat):Int):=AA
  have ih:=fun c=>ih (k+1) c
  have hat:=IP (p:=tgB c) hk'
  have hne:=Bl hn (k:=k)
  have hm:=B7 hk'
  obtain ⟨x,hx⟩:∃ x,c.ens.getD k default=x:=⟨_,rfl⟩
  rw [hx] at hat hne hm
  skip
  refine Aa ?_
  cases hb:(tgB c) x with
  | true=>
   have e:=hat hb
   have e2:Ga c=false:=by rw [Ga,e]; simp
   have hb':EU x.pc 0 (c.ins.length - 1)=false:=by simpa [tgB] using hb
   refine Bq ?_
   exact IU (Hg h1 h2 hx v4 hb' e2 @BU @Ab @Cu @OV)
   repeat' (first | exact Ad (by kernel_rfl) | refine ⟨Ad (by kernel_rfl),?_⟩ | refine And.intro ?_ ?_ | fail)
   all_goals done
  | false=>
   have ih:=fun c=>ih c ⟨by omega,hne hb⟩ (by omega)
   have hb':EU x.pc 0 (c.ins.length - 1)=true:=by simpa [tgB] using hb
   refine Bq ?_
   refine Jk (Hg h1 h2 hx v4 hb' w1 @BU @Ab @Cu @OV) ?_
   exact MB
 have hkl:k=c.ens.length:=Ah
 subst hkl
 have h1:decide ((c.ens.length:Int) < (c.ens.length:Int))=false:=Bc
 have n7:c.ens.any (tgB c)=false:=IQ hn
 clear hn ih hk hk'
 refine Aa ?_
 refine Bq ?_
 simp (maxSteps:=10000000) +contextual -implicitDefEqProofs only [AY,AW,St.put,↓reduceIte,reduceCtorEq,Dc,CK,Ab,h1,Ga,n3,n7]
 all_goals done
end Go.Proofs.YtdjpkhjaibdogaaGreat
namespace Go.Proofs.YtdjpkhjaibdogaaGreat
open Go Go.SX
def BZ (x:In) (i h:Int):List (Int × Int):=
 if x.op=31 then [] else if x.op=12 then [(x.a,h)] else if x.op=13 then [(i+1,h - 1),(x.a,h - 1)] else if x.op=14 then [(i+1,h),(x.a,h - 1)]
 else [(i+1,h - (Br x.op).1+(Br x.op).2.1)]
def KC (x:In) (h:Int):Prop:=(Br x.op).1≤h∧(x.op=31→h=0)
def AE (c:Cd) (i:Int):In:=c.ins.getD i.toNat default
inductive Rch (c:Cd):Int→Int→Prop
 | ent {e:En} (h:e ∈ c.ens):Rch c e.pc 0
 | step {i h j h':Int} (r:Rch c i h) (hi:i < c.ins.length) (ho:KC (AE c i) h) (hs:(j,h') ∈ BZ (AE c i) i h):Rch c j h'
structure Good (c:Cd):Prop where
 fits:∀ i h,Rch c i h→i < c.ins.length∧h≤48∧KC (AE c i) h
 one:∀ i h h',Rch c i h→Rch c i h'→h=h'
noncomputable def Jd (c:Cd):Bool:=open Classical in decide (Good c)
theorem Ti {c:Cd} (h:Good c):Jd c=true:=by simp [Jd,h]
theorem JK {c:Cd} (h:¬ Good c):Jd c=false:=by simp [Jd,h]
theorem Ao7 {c:Cd} (h:Jd c=true):Good c:=by simpa [Jd] using h
theorem Acv {c:Cd} {i h:Int} (r:Rch c i h) (hi:¬ i < c.ins.length):Jd c=false:=JK fun g=>hi (g.fits i h r).1
theorem XL {c:Cd} {i h:Int} (r:Rch c i h) (hh:¬ h≤48):Jd c=false:=JK fun g=>hh (g.fits i h r).2.1
theorem Y2 {c:Cd} {i h:Int} (r:Rch c i h) (hh:¬ KC (AE c i) h):Jd c=false:=JK fun g=>hh (g.fits i h r).2.2
theorem Acw {c:Cd} {i h h':Int} (r:Rch c i h) (r':Rch c i h') (hh:h≠h'):Jd c=false:=JK fun g=>hh (g.one i h h' r r')
def Ei (hs:List Int) (i:Int):Int:=hs.getD i.toNat (-1)
structure Lead (c:Cd):Prop where
 ent:∀ e ∈ c.ens,0≤e.pc
 ins:∀ i,i < c.ins.length→EY (c.ins.getD i default).op=true→0≤(c.ins.getD i default).a
theorem Acx {c:Cd} (h:Ga c=true):Lead c:=by
 simp only [Ga,AX,J2] at h
 obtain ⟨h1,h2⟩:=h
 refine ⟨fun e he=>?_,fun i hi hj=>?_⟩
 ·have:=lx97.1 h2 e he
  simp only [tgB,Hq,Lk] at this
  exact (F8.1 this).1
 ·have:=lx97.1 h1 _ (B7 hi)
  simp only [XK,hj,GX,Hq,Lk] at this
  exact (F8.1 this).1
theorem KD {c:Cd} (hl:Lead c) {i h j h':Int} (hi:0≤i) (hi':i < c.ins.length) (hs:(j,h') ∈ BZ (AE c i) i h):0≤j:=by
 have hk:i.toNat < c.ins.length:=Ah
 have hx:=hl.ins i.toNat hk
 unfold BZ at hs
 by_cases h1:(AE c i).op=31
 ·simp [h1] at hs
 by_cases h2:(AE c i).op=12
 ·simp [h1,h2] at hs
  have:=hx (show EY (AE c i).op=true by simp [EY,h2])
  rw [hs.1]; exact this
 by_cases h3:(AE c i).op=13
 ·simp [h1,h2,h3] at hs
  have:=hx (show EY (AE c i).op=true by simp [EY,h3])
  rcases hs with hs | hs
  ·omega
  ·rw [hs.1]; exact this
 by_cases h4:(AE c i).op=14
 ·simp [h1,h2,h3,h4] at hs
  have:=hx (show EY (AE c i).op=true by simp [EY,h4])
  rcases hs with hs | hs
  ·omega
  ·rw [hs.1]; exact this
 ·simp [h1,h2,h3,h4] at hs
  omega
theorem Mf (op:Int):0≤(Br op).1∧0≤(Br op).2.1∧(Br op).1≤2∧(Br op).2.1≤1:=by
 have key:∀ {p:Int × Int × Int→Prop} (op:Int),(∀ k:Int,1≤k→k≤31→p (Br k))→p (0,0,-1)→p (Br op):=by
  intro p op h1 h2
  by_cases h:1≤op∧op≤31
  ·exact h1 op h.1 h.2
  ·have:Br op=(0,0,-1):=by
    unfold Br
    iterate 31 rw [if_neg (by omega)]
   rw [this]; exact h2
 refine key (p:=fun e=>0≤e.1∧0≤e.2.1∧e.1≤2∧e.2.1≤1) op (fun k h1 h2=>?_) (by decide)
 rcases DL k with h | h
 ·rcases h with rfl | rfl | rfl | rfl | rfl | rfl | rfl | rfl | rfl | rfl | rfl | rfl | rfl | rfl | rfl | rfl | rfl | rfl | rfl | rfl | rfl | rfl | rfl | rfl | rfl | rfl | rfl | rfl | rfl | rfl | rfl <;> decide
 ·have:=h k h1 h2
  simp at this
theorem Atq (op:Int) (h:op=14):(Br op).1=1∧(Br op).2.1=1:=by subst h; decide
theorem Atr (op:Int) (h:op=13):(Br op).1=1∧(Br op).2.1=0:=by subst h; decide
theorem Bdi (op:Int) (h:op=12):(Br op).1=0∧(Br op).2.1=0:=by subst h; decide
theorem Je {x:In} {i h j h':Int} (ho:KC x h) (hs:(j,h') ∈ BZ x i h):0≤h':=by
 have h0:=Mf x.op
 have ho1:=ho.1
 unfold BZ at hs
 by_cases h1:x.op=31
 ·simp [h1] at hs
 by_cases h2:x.op=12
 ·simp [h1,h2] at hs
  omega
 by_cases h3:x.op=13
 ·have:=Atr _ h3
  simp [h1,h2,h3] at hs
  omega
 by_cases h4:x.op=14
 ·have:=Atq _ h4
  simp [h1,h2,h3,h4] at hs
  omega
 ·simp [h1,h2,h3,h4] at hs
  omega
theorem OW {c:Cd} {hs:List Int} (he:∀ e ∈ c.ens,e.pc < c.ins.length∧Ei hs e.pc=0)
  (hc:∀ i:Int,0≤i→i < c.ins.length→0≤Ei hs i→Ei hs i≤48∧KC (AE c i) (Ei hs i)∧∀ j h',(j,h') ∈ BZ (AE c i) i (Ei hs i)→j < c.ins.length∧Ei hs j=h')
  (hl:Lead c):Good c:=by
 have key:∀ i h,Rch c i h→0≤i∧i < c.ins.length∧Ei hs i=h∧0≤h:=by
  intro i h r
  induction r with
  | ent he'=>exact ⟨hl.ent _ he',(he _ he').1,(he _ he').2,Int.le_refl _⟩
  | step r hi ho hs' ih=>
   obtain ⟨g1,g2,g3,g4⟩:=ih
   have:=hc _ g1 g2 (by rw [g3]; exact g4)
   rw [g3] at this
   obtain ⟨k1,k2,k3⟩:=this
   exact ⟨KD hl g1 g2 hs',(k3 _ _ hs').1,(k3 _ _ hs').2,Je ho hs'⟩
 refine ⟨fun i h r=>?_,fun i h h' r r'=>?_⟩
 ·obtain ⟨g1,g2,g3,g4⟩:=key i h r
  have:=hc i g1 g2 (by rw [g3]; exact g4)
  rw [g3] at this
  exact ⟨g2,this.1,this.2.1⟩
 ·rw [←(key i h r).2.2.1,←(key i h' r').2.2.1]
end Go.Proofs.YtdjpkhjaibdogaaGreat
