/-
  Lemmas towards ModesFaults (joined texts: BE, BF, BG, BH, BI).
  Conditions: none.
-/
import Derived.Test.YtdjpkhjaibdogaaGreatK01
import Derived.Test.YtdjpkhjaibdogaaGreatK02
import Derived.Test.YtdjpkhjaibdogaaGreatK23
import Derived.Test.YtdjpkhjaibdogaaGreatK18
set_option linter.unusedSimpArgs false
set_option linter.unusedVariables false
set_option maxRecDepth 100000
set_option maxHeartbeats 8000000
namespace Go.Proofs.YtdjpkhjaibdogaaGreat
open Go Go.SX
attribute [local congr] ite_congr
theorem Aa1 {P:Program} {f:Nat} {a1 a2:List AV} {r1 r2:AV} (h1:CO P f a1 r1) (h2:CO P f a2 r2) (hne:a2≠a1):∃ F,Eb P f F∧F a1=some r1∧F a2=some r2:=by
 refine ⟨fun a=>open Classical in if a=a1 then some r1 else if a=a2 then some r2 else none,?_,by simp,by simp [hne]⟩
 intro a v hv
 simp only at hv
 split at hv
 ·rename_i e; subst e; cases hv; exact h1
 ·split at hv
  ·rename_i e; subst e; cases hv; exact h2
  ·cases hv
def insP (c:Cd) (x:In):Bool:=!Eg x.op && !HD x.a (Dc c x.op).1 (Dc c x.op).2
def Wo (c:Cd):Bool:=c.strs.any (fun b=>!Gs b) || c.pri.any prB || c.vars.any vaB || c.ens.any (fun e=>!IB c e)
def Qn (c:Cd) (k:Nat):Bool:=Wo c || (c.ins.take k).any (insP c)
def IT (c:Cd):Bool:=!(Wo c || c.ins.any (insP c))
theorem Ac3 (c:Cd):Qn c 0=Wo c:=by simp [Qn]
theorem Ahg {α:Type} [Inhabited α] {p:α→Bool} {l:List α} {k:Nat} (h:k < l.length):(l.take (k+1)).any p=((l.take k).any p || p (l.getD k default)):=by
 rw [lx115 h,List.any_append,lx80,lx51 h]; simp
theorem Ac4 (c:Cd) {k:Nat} (h:k < c.ins.length):Qn c (k+1)=(Qn c k || insP c (c.ins.getD k default)):=by
 rw [Qn,Qn,Ahg h,Bool.or_assoc]
theorem Ahh (c:Cd):Qn c c.ins.length=(Wo c || c.ins.any (insP c)):=by rw [Qn,lx74]
noncomputable def f143:=EP Fit (fun c=>[B5 c]) (fun c=>bA (IT c))
theorem Beg (c:Cd) (h:Fit c):f143 [B5 c]=some (.sc (.bool (IT c))):=
 (AG (q:=Fit) (enc:=fun c=>[B5 c]) (out:=fun c=>bA (IT c)) c h (by
  intro b h
  simp only [lx96,Ay] at h
  rw [CV h]) :)
theorem Apz:Eb Tryz.prog 143 f143:=AQ <| by
 rintro c hq
 obtain ⟨q1,q2,q3,q4,q5,q6,q7,q8⟩:=hq
 have hq:Fit c:=⟨q1,q2,q3,q4,q5,q6,q7,q8⟩
 obtain ⟨F185,k185,e185⟩:=Fi (Ayp Ayw (fun b=>!Gs b) c.zs c.strs (fun b hb=>Be9 b (q8 b hb)) (by omega))
 obtain ⟨F116,k116,e116,e116'⟩:=Aa1 (Apw Ayx prB c.zp c.pri (fun b _=>Bea b) (by omega)) (Apw Ayy vaB c.zv c.vars (fun b _=>Beb b) (by omega)) (by simp)
 obtain ⟨F190,k190,e190⟩:=Fi (Ahe Az0 (fun e=>!IB c e) [B5 c] c.ze c.ens (fun b _=>Bed c hq b) (by omega))
 have x1:=fun op=>Be7 c hq op
 simp only [Ac,AU] at e190 e185 e116 e116' x1
 refine Ab (Aq ((.cons k185 (.cons k116 (.cons k190 (.cons Ayu (.cons PN (.cons Apv .nil))))))) (.nil)) rfl Tryz.func143 rfl (by decide) (by kernel_rfl) (by kernel_rfl) ?_
 simp only [Tryz.f143,Af,lx53,lx63,Nat.reduceAdd,Nat.reduceSub,List.replicate]
 refine Aa ?_
 have hp:Wo c=(c.strs.any (fun b=>!Gs b) || c.pri.any prB || c.vars.any vaB || c.ens.any (fun e=>!IB c e)):=rfl
 have hpc:IT c=!Qn c c.ins.length:=by rw [Ahh]; rfl
 rw [hpc]
 obtain ⟨b1,hb1⟩:∃ b,c.strs.any (fun b=>!Gs b)=b:=⟨_,rfl⟩
 obtain ⟨b2,hb2⟩:∃ b,c.pri.any prB=b:=⟨_,rfl⟩
 obtain ⟨b3,hb3⟩:∃ b,c.vars.any vaB=b:=⟨_,rfl⟩
 obtain ⟨b4,hb4⟩:∃ b,c.ens.any (fun e=>!IB c e)=b:=⟨_,rfl⟩
 rw [hb1] at e185 hp
 rw [hb2] at e116 hp
 rw [hb3] at e116' hp
 rw [hb4] at e190 hp
 clear hb1 hb2 hb3 hb4 hpc
 have h0:=Ac3 c
 rw [hp] at h0
 clear hp
 have hs:=fun k (hk:k < c.ins.length)=>Ac4 c hk
 obtain ⟨W,hW⟩:∃ W,Qn c=W:=⟨_,rfl⟩
 rw [hW] at h0 hs ⊢
 clear hW
 simp (maxSteps:=10000000) +contextual -implicitDefEqProofs only [Bk,Bg,Ao,St.put,Ap,Al,D8,pl,↓reduceIte,reduceCtorEq,Nat.reduceAdd,Nat.reduceEqDiff,D5,Int.reduceAdd,Dq,AU,Ac,e185,e116,e116',e190]
 refine Aw (σ:=Nat) (fun k cnt=>⟨Cg 0 59 [(1,.pt 0 0 0 0),(3,.sc (.bool (W k))),(28,.vw c.zi (c.ins.map BS)),(29,.sc (.int .i64 c.ins.length)),(30,.sc (.int .i64 k))],[⟨true,0,36,7,[B5 c],false⟩],cnt⟩)
  (fun k=>k≤c.ins.length) (fun k=>c.ins.length - k) 0 (BX _) ?_ ?_ rfl ?_
 ·simp (maxSteps:=10000000) only [Bk,Bg,↓reduceIte,reduceCtorEq,Nat.reduceAdd,Nat.reduceEqDiff,Cg,EX,h0]
 ·exact Aax
 rintro k cnt hk ih
 by_cases hk':k < c.ins.length
 rotate_left
 ·obtain rfl:k=c.ins.length:=by omega
  have h1:decide ((c.ins.length:Int) < (c.ins.length:Int))=false:=Br
  refine Aa ?_
  refine CL ?_
  simp (maxSteps:=10000000) +contextual -implicitDefEqProofs only [Bk,Bg,St.put,↓reduceIte,Ac,h1]
  all_goals done
 have h1:decide ((k:Int) < (c.ins.length:Int))=true:=Aj
 have h2:decide (k < c.ins.length)=true:=Aj
 have w1:IntKind.i64.wrap ((k:Int)+1)=((k+1:Nat):Int):=AK
 have hs:=hs k hk'
 have ih:=fun c=>ih (k+1) c hk' (by omega)
 rw [hs] at ih
 obtain ⟨⟨op,a⟩,hx⟩:∃ x,c.ins.getD k default=x:=⟨_,rfl⟩
 rw [hx] at ih
 have x1:=x1 op
 have x2:=Ayl op
 obtain ⟨w,hw⟩:∃ w,W k=w:=⟨_,rfl⟩
 rw [hw] at ih ⊢
 simp only [insP] at ih
 refine Aa ?_
 cases w with
 | true=>
  refine CL ?_
  refine Nw (a8 h1 h2 hx x1 w1 @AX @Ac @AJ) ?_
  exact I7
 | false=>
  cases hj:Eg op with
  | true=>
   rw [hj] at x2 ih
   refine CL ?_
   refine Nw (a9 h1 h2 hx x1 x2 w1 @AX @Ac @AJ) ?_
   exact I7
  | false=>
   rw [hj] at x2 ih
   refine CL ?_
   refine Nw (Hk h1 h2 hx x1 x2 w1 @AX @Ac @AJ @XE) ?_
   exact I7
def tgP (c:Cd) (x:In):Bool:=Eg x.op && !HD x.a 0 (c.ins.length - 1)
def G8 (c:Cd):Bool:=!c.ins.any (tgP c) && !c.ens.any (tgB c)
noncomputable def f144:=EP Fit (fun c=>[B5 c]) (fun c=>bA (G8 c))
theorem Beh (c:Cd) (h:Fit c):f144 [B5 c]=some (.sc (.bool (G8 c))):=
 (AG (q:=Fit) (enc:=fun c=>[B5 c]) (out:=fun c=>bA (G8 c)) c h (by
  intro b h
  simp only [lx96,Ay] at h
  rw [CV h]) :)
theorem Aq0:Eb Tryz.prog 144 f144:=AQ <| by
 rintro c hq
 obtain ⟨q1,q2,q3,q4,q5,q6,q7,q8⟩:=hq
 have hq:Fit c:=⟨q1,q2,q3,q4,q5,q6,q7,q8⟩
 obtain ⟨v1,v2,v3,v4,v5,v6⟩:=JY hq
 obtain ⟨F190,k190,e190⟩:=Fi (Ahe Az1 (tgB c) [B5 c] c.ze c.ens (fun b _=>Bee c hq b) (by omega))
 simp only [Ac,AU] at e190
 refine Ab (Aq ((.cons k190 (.cons PN (.cons Apv .nil)))) (.nil)) rfl Tryz.func144 rfl (by decide) (by kernel_rfl) (by kernel_rfl) ?_
 simp only [Tryz.f144,Af,lx53,lx63,Nat.reduceAdd,Nat.reduceSub,List.replicate]
 refine Aa ?_
 refine Nw @Ac ?_
 refine Aw (σ:=Nat) (fun k cnt=>⟨Cg 0 31 [(1,.pt 0 0 0 0),(6,.vw c.zi (c.ins.map BS)),(7,.sc (.int .i64 c.ins.length)),(8,.sc (.int .i64 k))],[⟨true,0,36,7,[B5 c],false⟩],cnt⟩)
  (fun k=>k≤c.ins.length∧∀ j,j < k→tgP c (c.ins.getD j default)=false) (fun k=>c.ins.length - k) 0 ⟨by omega,by omega⟩ ?_ ?_ rfl ?_
 ·exact IZ
 ·exact Aax
 rintro k cnt ⟨hk,hn⟩ ih
 by_cases hk':k < c.ins.length
 rotate_left
 ·obtain rfl:k=c.ins.length:=by omega
  have h1:decide ((c.ins.length:Int) < (c.ins.length:Int))=false:=Br
  have e:c.ins.any (tgP c)=false:=PM hn
  refine Aa ?_
  refine CL ?_
  simp (maxSteps:=10000000) +contextual -implicitDefEqProofs only [Bk,Bg,St.put,Ap,Al,D8,pl,↓reduceIte,reduceCtorEq,D5,Dq,Ac,h1,e190,G8,e]
  all_goals done
 have h1:decide ((k:Int) < (c.ins.length:Int))=true:=Aj
 have h2:decide (k < c.ins.length)=true:=Aj
 have w1:IntKind.i64.wrap ((k:Int)+1)=((k+1:Nat):Int):=AK
 have ih:=fun c=>ih (k+1) c
 have hat:=As6 (p:=tgP c) hk'
 have hne:=Cl hn (k:=k)
 obtain ⟨⟨op,a⟩,hx⟩:∃ x,c.ins.getD k default=x:=⟨_,rfl⟩
 rw [hx] at hat hne
 have x2:=Ayl op
 refine Aa ?_
 cases hj:Eg op with
 | false=>
  rw [hj] at x2
  have ih:=fun c=>ih c ⟨by omega,hne (by simp [tgP,hj])⟩ (by omega)
  refine CL ?_
  refine Nw (a8 h1 h2 hx x2 w1 @AX @Ac @AJ) ?_
  exact I7
 | true=>
  rw [hj] at x2
  cases hi:HD a 0 (c.ins.length - 1) with
  | true=>
   have ih:=fun c=>ih c ⟨by omega,hne (by simp [tgP,hj,hi])⟩ (by omega)
   refine CL ?_
   refine Nw (HH h1 h2 hx x2 v4 hi w1 @AX @Ac @AJ @XE) ?_
   exact I7
  | false=>
   have e:=hat (by simp [tgP,hj,hi])
   have e2:G8 c=false:=by rw [G8,e]; rfl
   refine CL ?_
   exact MU (HH h1 h2 hx x2 v4 hi e2 @AX @Ac @AJ @XE)
   all_goals done
end Go.Proofs.YtdjpkhjaibdogaaGreat
namespace Go.Proofs.YtdjpkhjaibdogaaGreat
open Go Go.SX
def Bz (x:In) (i h:Int):List (Int × Int):=
 if x.op=31 then [] else if x.op=12 then [(x.a,h)] else if x.op=13 then [(i+1,h - 1),(x.a,h - 1)] else if x.op=14 then [(i+1,h),(x.a,h - 1)]
 else [(i+1,h - (B6 x.op).1+(B6 x.op).2.1)]
def I2 (x:In) (h:Int):Prop:=(B6 x.op).1≤h∧(x.op=31→h=0)
def AF (c:Cd) (i:Int):In:=c.ins.getD i.toNat default
inductive Rch (c:Cd):Int→Int→Prop
 | ent {e:En} (h:e ∈ c.ens):Rch c e.pc 0
 | step {i h j h':Int} (r:Rch c i h) (hi:i < c.ins.length) (ho:I2 (AF c i) h) (hs:(j,h') ∈ Bz (AF c i) i h):Rch c j h'
structure Good (c:Cd):Prop where
 fits:∀ i h,Rch c i h→i < c.ins.length∧h≤48∧I2 (AF c i) h
 one:∀ i h h',Rch c i h→Rch c i h'→h=h'
noncomputable def I3 (c:Cd):Bool:=open Classical in decide (Good c)
theorem RV {c:Cd} (h:Good c):I3 c=true:=by simp [I3,h]
theorem IC {c:Cd} (h:¬ Good c):I3 c=false:=by simp [I3,h]
theorem Alp {c:Cd} (h:I3 c=true):Good c:=by simpa [I3] using h
theorem Alq {c:Cd} {i h:Int} (r:Rch c i h) (hi:¬ i < c.ins.length):I3 c=false:=IC fun g=>hi (g.fits i h r).1
theorem Ahi {c:Cd} {i h:Int} (r:Rch c i h) (hh:¬ h≤48):I3 c=false:=IC fun g=>hh (g.fits i h r).2.1
theorem As7 {c:Cd} {i h:Int} (r:Rch c i h) (hh:¬ I2 (AF c i) h):I3 c=false:=IC fun g=>hh (g.fits i h r).2.2
theorem Alr {c:Cd} {i h h':Int} (r:Rch c i h) (r':Rch c i h') (hh:h≠h'):I3 c=false:=IC fun g=>hh (g.one i h h' r r')
def Fj (hs:List Int) (i:Int):Int:=hs.getD i.toNat (-1)
structure Lead (c:Cd):Prop where
 ent:∀ e ∈ c.ens,0≤e.pc
 ins:∀ i,i < c.ins.length→Eg (c.ins.getD i default).op=true→0≤(c.ins.getD i default).a
theorem Als {c:Cd} (h:G8 c=true):Lead c:=by
 simp only [G8,AH,J6] at h
 obtain ⟨h1,h2⟩:=h
 refine ⟨fun e he=>?_,fun i hi hj=>?_⟩
 ·have:=lx97.1 h2 e he
  simp only [tgB,GY,Hj] at this
  exact (Du.1 this).1
 ·have:=lx97.1 h1 _ (CM hi)
  simp only [tgP,hj,Kw,GY,Hj] at this
  exact (Du.1 this).1
theorem PQ {c:Cd} (hl:Lead c) {i h j h':Int} (hi:0≤i) (hi':i < c.ins.length) (hs:(j,h') ∈ Bz (AF c i) i h):0≤j:=by
 have hk:i.toNat < c.ins.length:=Ah
 have hx:=hl.ins i.toNat hk
 unfold Bz at hs
 by_cases h1:(AF c i).op=31
 ·simp [h1] at hs
 by_cases h2:(AF c i).op=12
 ·simp [h1,h2] at hs
  have:=hx (show Eg (AF c i).op=true by simp [Eg,h2])
  rw [hs.1]; exact this
 by_cases h3:(AF c i).op=13
 ·simp [h1,h2,h3] at hs
  have:=hx (show Eg (AF c i).op=true by simp [Eg,h3])
  rcases hs with hs | hs
  ·omega
  ·rw [hs.1]; exact this
 by_cases h4:(AF c i).op=14
 ·simp [h1,h2,h3,h4] at hs
  have:=hx (show Eg (AF c i).op=true by simp [Eg,h4])
  rcases hs with hs | hs
  ·omega
  ·rw [hs.1]; exact this
 ·simp [h1,h2,h3,h4] at hs
  omega
theorem PR (op:Int):0≤(B6 op).1∧0≤(B6 op).2.1∧(B6 op).1≤2∧(B6 op).2.1≤1:=by
 have key:∀ {p:Int × Int × Int→Prop} (op:Int),(∀ k:Int,1≤k→k≤31→p (B6 k))→p (0,0,-1)→p (B6 op):=by
  intro p op h1 h2
  by_cases h:1≤op∧op≤31
  ·exact h1 op h.1 h.2
  ·have:B6 op=(0,0,-1):=by
    unfold B6
    iterate 31 rw [if_neg (by omega)]
   rw [this]; exact h2
 refine key (p:=fun e=>0≤e.1∧0≤e.2.1∧e.1≤2∧e.2.1≤1) op (fun k h1 h2=>?_) (by decide)
 rcases Gk k with h | h
 ·rcases h with rfl | rfl | rfl | rfl | rfl | rfl | rfl | rfl | rfl | rfl | rfl | rfl | rfl | rfl | rfl | rfl | rfl | rfl | rfl | rfl | rfl | rfl | rfl | rfl | rfl | rfl | rfl | rfl | rfl | rfl | rfl <;> decide
 ·have:=h k h1 h2
  simp at this
theorem Aq1 (op:Int) (h:op=14):(B6 op).1=1∧(B6 op).2.1=1:=by subst h; decide
theorem Aq2 (op:Int) (h:op=13):(B6 op).1=1∧(B6 op).2.1=0:=by subst h; decide
theorem Az2 (op:Int) (h:op=12):(B6 op).1=0∧(B6 op).2.1=0:=by subst h; decide
theorem ME {x:In} {i h j h':Int} (ho:I2 x h) (hs:(j,h') ∈ Bz x i h):0≤h':=by
 have h0:=PR x.op
 have ho1:=ho.1
 unfold Bz at hs
 by_cases h1:x.op=31
 ·simp [h1] at hs
 by_cases h2:x.op=12
 ·simp [h1,h2] at hs
  omega
 by_cases h3:x.op=13
 ·have:=Aq2 _ h3
  simp [h1,h2,h3] at hs
  omega
 by_cases h4:x.op=14
 ·have:=Aq1 _ h4
  simp [h1,h2,h3,h4] at hs
  omega
 ·simp [h1,h2,h3,h4] at hs
  omega
theorem Wp {c:Cd} {hs:List Int} (he:∀ e ∈ c.ens,e.pc < c.ins.length∧Fj hs e.pc=0)
  (hc:∀ i:Int,0≤i→i < c.ins.length→0≤Fj hs i→Fj hs i≤48∧I2 (AF c i) (Fj hs i)∧∀ j h',(j,h') ∈ Bz (AF c i) i (Fj hs i)→j < c.ins.length∧Fj hs j=h')
  (hl:Lead c):Good c:=by
 have key:∀ i h,Rch c i h→0≤i∧i < c.ins.length∧Fj hs i=h∧0≤h:=by
  intro i h r
  induction r with
  | ent he'=>exact ⟨hl.ent _ he',(he _ he').1,(he _ he').2,Int.le_refl _⟩
  | step r hi ho hs' ih=>
   obtain ⟨g1,g2,g3,g4⟩:=ih
   have:=hc _ g1 g2 (by rw [g3]; exact g4)
   rw [g3] at this
   obtain ⟨k1,k2,k3⟩:=this
   exact ⟨PQ hl g1 g2 hs',(k3 _ _ hs').1,(k3 _ _ hs').2,ME ho hs'⟩
 refine ⟨fun i h r=>?_,fun i h h' r r'=>?_⟩
 ·obtain ⟨g1,g2,g3,g4⟩:=key i h r
  have:=hc i g1 g2 (by rw [g3]; exact g4)
  rw [g3] at this
  exact ⟨g2,this.1,this.2.1⟩
 ·rw [←(key i h r).2.2.1,←(key i h' r').2.2.1]
end Go.Proofs.YtdjpkhjaibdogaaGreat
namespace Go.Proofs.YtdjpkhjaibdogaaGreat
open Go Go.SX
attribute [local congr] ite_congr
structure Rc where
 hs:List Int
 ws:List Int
 n:Nat
 v:Nat
def Dn (r:Rc) (i h:Int) (cnt:Nat):Bool × Rc:=
 if i < r.hs.length∧h≤48∧¬ (0≤Fj r.hs i∧Fj r.hs i≠h) then
  if Fj r.hs i < 0 then (true,⟨r.hs.set i.toNat h,r.ws.take r.n++[i],r.n+1,cnt+1⟩) else (true,r)
 else (false,r)
def Nr (b0 e:Blk) (v1 v2 v3:Nat) (r:Rc):List Blk:=
 [b0,⟨true,v1,3,1,r.hs.map (kA .i64),false⟩,⟨true,v2,34,1,[.sl 1 v1 0 r.hs.length],false⟩,⟨true,v3,34,1,[.sl 4 r.v 0 r.n],false⟩,⟨true,r.v,3,1,r.ws.map (kA .i64),false⟩,e]
theorem Ahj {hs:List Int} {i:Nat}:Fj hs (i:Int)=hs.getD i (-1):=by simp [Fj]
theorem Wq {hs:List Int} {i:Nat} (h:i < hs.length) (d:Int):hs.getD i default=hs.getD i d:=by
 rw [lx80,lx80,lx51 h]; rfl
theorem XF (i h:Int) (r:Rc) (b0 e:Blk) (v1 v2 v3 cnt:Nat) (hi:0≤i) (hn:r.n≤r.ws.length) (hl:r.n≤1000000) (hl2:r.hs.length≤1000000):
  HSpec Tryz.prog 196 [.sc (.int .i64 i),.sc (.int .i64 h),.pt 2 v2 0 0,.pt 3 v3 0 0] (Nr b0 e v1 v2 v3 r) cnt (.sc (.bool (Dn r i h cnt).1)) (Nr b0 e v1 v2 v3 (Dn r i h cnt).2) (cnt+2):=by
 obtain ⟨hs,ws,n,v⟩:=r
 simp only at hn hl hl2
 obtain ⟨k,rfl⟩:∃ k:Nat,i=(k:Int):=⟨i.toNat,by omega⟩
 refine Ag (Am (lit:=false) (pm:=fun _=>none) .nil .nil .nil .nil) rfl Tryz.func196 rfl (by decide) (by kernel_rfl) ?_
 simp only [Tryz.f196,Af,lx53,lx63,Nat.reduceAdd,Nat.reduceSub,List.replicate]
 unfold Nr
 simp only
 by_cases c1:k < hs.length
 rotate_left
 ·have h1:decide ((hs.length:Int)≤(k:Int))=true:=by rw [AR]; omega
  have e1:Dn ⟨hs,ws,n,v⟩ k h cnt=(false,⟨hs,ws,n,v⟩):=by
   rw [Dn,if_neg]; intro hh; have:=hh.1; simp only at this; omega
  rw [e1]
  refine Aa ?_
  refine Nw h1 ?_
  all_goals exact W2
 have h1:decide ((hs.length:Int)≤(k:Int))=false:=Ke
 by_cases c2:h≤48
 rotate_left
 ·have h2:decide ((48:Int) < h)=true:=by rw [AR]; omega
  have e1:Dn ⟨hs,ws,n,v⟩ k h cnt=(false,⟨hs,ws,n,v⟩):=by
   rw [Dn,if_neg]; intro hh; exact c2 hh.2.1
  rw [e1]
  refine Aa ?_
  refine Nw (a2 h1 h2) ?_
  all_goals exact W2
 have h2:decide ((48:Int) < h)=false:=Ke
 have g1:decide ((0:Int)≤(k:Int))=true:=Aj
 have g2:decide ((k:Int) < (hs.length:Int))=true:=Aj
 have g3:decide (k < hs.length)=true:=Aj
 obtain ⟨x,hx⟩:∃ x,hs.getD k default=x:=⟨_,rfl⟩
 have hx':Fj hs k=x:=by rw [Ahj,←hx,Wq c1]
 by_cases c3:0≤x
 ·have h3:decide ((0:Int)≤x)=true:=by rw [AR]; exact c3
  by_cases c4:x=h
  ·have h4:(x != h)=false:=by simp [c4]
   have h5:decide (x < (0:Int))=false:=Ke
   have e1:Dn ⟨hs,ws,n,v⟩ k h cnt=(true,⟨hs,ws,n,v⟩):=by
    rw [Dn,if_pos,if_neg]
    ·simp only [hx']; omega
    ·simp only [hx']; refine ⟨by omega,c2,by omega⟩
   rw [e1]
   refine Aa ?_
   refine Nw (a9 h1 h2 g2 g3 hx h3 h4 h5 @AA) ?_
   all_goals exact W2
  ·have h4:(x != h)=true:=by simpa using c4
   have e1:Dn ⟨hs,ws,n,v⟩ k h cnt=(false,⟨hs,ws,n,v⟩):=by
    rw [Dn,if_neg]; simp only [hx']; omega
   rw [e1]
   refine Aa ?_
   refine Nw (a8 h1 h2 g2 g3 hx h3 h4 @AA) ?_
   all_goals exact W2
 ·have h3:decide ((0:Int)≤x)=false:=by rw [BJ]; exact c3
  have h5:decide (x < (0:Int))=true:=Aj
  have e1:Dn ⟨hs,ws,n,v⟩ k h cnt=(true,⟨hs.set k h,ws.take n++[(k:Int)],n+1,cnt+1⟩):=by
   rw [Dn,if_pos,if_pos]
   ·simp
   ·simp only [hx']; omega
   ·simp only [hx']; refine ⟨by omega,c2,by omega⟩
  rw [e1]
  have ht:List.take n (ws.map (kA .i64))=(ws.take n).map (kA .i64):=by rw [List.map_take]
  have hsz:decide ((n+1) * 8≤140737488355328)=true:=Aj
  have hm:(hs.map (kA .i64)).set k (AV.sc (.int .i64 h))=(hs.set k h).map (kA .i64):=Ym
  have ha:(ws.take n).map (kA .i64)++[AV.sc (.int .i64 (k:Int))]=(ws.take n++[(k:Int)]).map (kA .i64):=Adw
  refine Aa ?_
  exact MU (Hd h1 h2 g2 g3 hx h3 h5 ht hsz hm ha @AA)
  all_goals exact W2
end Go.Proofs.YtdjpkhjaibdogaaGreat
namespace Go.Proofs.YtdjpkhjaibdogaaGreat
open Go Go.SX
def Qo (hs:List Int):Nat:=(hs.filter (fun x=>decide (x < 0))).length
theorem Alu (hs:List Int):Qo hs≤hs.length:=lx86 _ _
theorem Wr:∀ {hs:List Int} {k:Nat} {h:Int},k < hs.length→hs.getD k (-1) < 0→0≤h→Qo (hs.set k h)+1=Qo hs
 | [],k,h,hk,_,_=>by simp at hk
 | x::hs,0,h,_,hx,hh=>by
  simp at hx
  unfold Qo
  rw [lx117,List.filter_cons_of_neg (by simp; omega),List.filter_cons_of_pos (by simp; omega)]
  simp
 | x::hs,k+1,h,hk,hx,hh=>by
  have ih:=Wr (hs:=hs) (k:=k) (h:=h) (by simpa using hk) (by simpa using hx) hh
  unfold Qo at ih ⊢
  rw [lx11]
  by_cases c:x < 0
  ·rw [List.filter_cons_of_pos (by simpa using c),List.filter_cons_of_pos (by simpa using c)]
   simp only [lx53]; omega
  ·rw [List.filter_cons_of_neg (by simpa using c),List.filter_cons_of_neg (by simpa using c)]
   exact ih
theorem Alv {hs:List Int} {i j h:Int} (hi:0≤i) (hi':i < hs.length) (hj:0≤j):Fj (hs.set i.toNat h) j=if j=i then h else Fj hs j:=by
 unfold Fj
 rw [lx80,lx80,lx21]
 by_cases c:j=i
 ·subst c
  rw [if_pos rfl,if_pos (by omega),if_pos rfl]; rfl
 ·rw [if_neg (by omega),if_neg c]
def Clo (c:Cd) (hs:List Int) (i:Int):Prop:=I2 (AF c i) (Fj hs i)∧∀ j h',(j,h') ∈ Bz (AF c i) i (Fj hs i)→j < c.ins.length∧Fj hs j=h'
structure HI (c:Cd) (k:Nat) (ex:Int) (r:Rc):Prop where
 len:r.hs.length=c.ins.length
 nle:r.n≤r.ws.length
 mea:2 * Qo r.hs+r.n≤2 * c.ins.length
 mark:∀ i:Int,0≤i→i < c.ins.length→0≤Fj r.hs i→Rch c i (Fj r.hs i)∧Fj r.hs i≤48
 wait:∀ x ∈ r.ws.take r.n,0≤x∧x < c.ins.length∧0≤Fj r.hs x
 ents:∀ j,j < k→(c.ens.getD j default).pc < c.ins.length∧Fj r.hs (c.ens.getD j default).pc=0
 clos:∀ i:Int,0≤i→i < c.ins.length→0≤Fj r.hs i→i ∈ r.ws.take r.n∨i=ex∨Clo c r.hs i
theorem Ahk {c:Cd} (hl:Lead c) {hs hs':List Int} (hp:∀ j:Int,0≤j→0≤Fj hs j→Fj hs' j=Fj hs j) {i:Int} (hi:0≤i) (hi':i < c.ins.length) (h0:0≤Fj hs i) (h:Clo c hs i):Clo c hs' i:=by
 have e:=hp i hi h0
 refine ⟨by rw [e]; exact h.1,fun j h' hj=>?_⟩
 rw [e] at hj
 obtain ⟨g1,g2⟩:=h.2 j h' hj
 have h1:=ME h.1 hj
 have h2:=PQ hl hi hi' hj
 exact ⟨g1,by rw [hp j h2 (by rw [g2]; exact h1),g2]⟩
theorem RW {c:Cd} (hl:Lead c) {k:Nat} {ex:Int} {r:Rc} (hi:HI c k ex r) {i h:Int} (hr:Rch c i h) (h0:0≤i) (hh:0≤h) (cnt:Nat):
  ((Dn r i h cnt).1=false→I3 c=false)∧((Dn r i h cnt).1=true→HI c k ex (Dn r i h cnt).2∧i < c.ins.length∧Fj (Dn r i h cnt).2.hs i=h∧
   (∀ j:Int,0≤j→0≤Fj r.hs j→Fj (Dn r i h cnt).2.hs j=Fj r.hs j)∧2 * Qo (Dn r i h cnt).2.hs+(Dn r i h cnt).2.n≤2 * Qo r.hs+r.n):=by
 have hlen:=hi.len
 by_cases c1:i < c.ins.length
 rotate_left
 ·have e:Dn r i h cnt=(false,r):=by rw [Dn,if_neg]; intro hc; rw [hlen] at hc; exact c1 hc.1
  rw [e]
  exact ⟨fun _=>Alq hr c1,fun h=>by cases h⟩
 by_cases c2:h≤48
 rotate_left
 ·have e:Dn r i h cnt=(false,r):=by rw [Dn,if_neg]; intro hc; exact c2 hc.2.1
  rw [e]
  exact ⟨fun _=>Ahi hr c2,fun h=>by cases h⟩
 by_cases c3:0≤Fj r.hs i
 ·by_cases c4:Fj r.hs i=h
  ·have e:Dn r i h cnt=(true,r):=by
    rw [Dn,if_pos,if_neg]
    ·omega
    ·rw [hlen]; exact ⟨c1,c2,fun hc=>hc.2 c4⟩
   rw [e]
   exact ⟨fun h=>(by cases h),fun _=>⟨hi,c1,c4,fun j _ _=>rfl,Ax _⟩⟩
  ·have e:Dn r i h cnt=(false,r):=by rw [Dn,if_neg]; intro hc; exact hc.2.2 ⟨c3,c4⟩
   rw [e]
   exact ⟨fun _=>Alr hr (hi.mark i h0 c1 c3).1 (fun h=>c4 h.symm),fun h=>by cases h⟩
 ·have hi2:i < r.hs.length:=by rw [hlen]; exact c1
  have e:Dn r i h cnt=(true,⟨r.hs.set i.toNat h,r.ws.take r.n++[i],r.n+1,cnt+1⟩):=by
   rw [Dn,if_pos,if_pos]
   ·omega
   ·rw [hlen]; exact ⟨c1,c2,fun hc=>c3 hc.1⟩
  have hs':∀ j:Int,0≤j→Fj (r.hs.set i.toNat h) j=if j=i then h else Fj r.hs j:=fun j hj=>Alv h0 hi2 hj
  have hp:∀ j:Int,0≤j→0≤Fj r.hs j→Fj (r.hs.set i.toNat h) j=Fj r.hs j:=fun j hj h1=>by
   rw [hs' j hj,if_neg]; rintro rfl; exact c3 h1
  have hneg:=Wr (hs:=r.hs) (k:=i.toNat) (h:=h) (by omega) (by unfold Fj at c3; omega) hh
  have htk:(r.ws.take r.n++[i]).take (r.n+1)=r.ws.take r.n++[i]:=lx118 (by simp; omega)
  have hmea:=hi.mea
  rw [e]
  refine ⟨fun h=>(by cases h),fun _=>⟨⟨?_,?_,?_,?_,?_,?_,?_⟩,c1,?_,hp,?_⟩⟩
  ·simp [hlen]
  ·have:=hi.nle; simp; omega
  ·simp only; omega
  ·intro j hj hj' hj2
   simp only at hj2 ⊢
   rw [hs' j hj] at hj2 ⊢
   split
   ·rename_i hji; subst hji; exact ⟨hr,c2⟩
   ·rename_i hji
    rw [if_neg hji] at hj2
    exact hi.mark j hj hj' hj2
  ·intro x hx
   simp only [htk] at hx
   rcases lx76.1 hx with hx | hx
   ·obtain ⟨g1,g2,g3⟩:=hi.wait x hx
    exact ⟨g1,g2,by rw [hp x g1 g3]; exact g3⟩
   ·simp only [lx70] at hx
    subst hx
    exact ⟨h0,c1,by rw [hs' x h0,if_pos rfl]; exact hh⟩
  ·intro j hj
   obtain ⟨g1,g2⟩:=hi.ents j hj
   refine ⟨g1,?_⟩
   simp only
   by_cases hm:(c.ens.getD j default).pc < 0
   ·by_cases hj2:j < c.ens.length
    ·have:=hl.ent _ (CM hj2); omega
    ·rw [lx80,lx30 (by omega)] at hm
     simp [default,instInhabitedEn] at hm
   ·rw [hp _ (by omega) (by rw [g2]; omega),g2]
  ·intro j hj hj' hj2
   simp only [htk] at hj2 ⊢
   by_cases hji:j=i
   ·exact .inl (List.mem_append_right _ (lx70.2 hji))
   ·rw [hs' j hj,if_neg hji] at hj2
    rcases hi.clos j hj hj' hj2 with h1 | h1 | h1
    ·exact .inl (lx77 _ h1)
    ·exact .inr (.inl h1)
    ·exact .inr (.inr (Ahk hl hp hj hj' hj2 h1))
  ·simp only; rw [hs' i h0,if_pos rfl]
  ·simp only; omega
theorem Ahl (c:Cd) (v:Nat):HI c 0 (-1) ⟨List.replicate c.ins.length (-1),[],0,v⟩:=by
 have hm:∀ i:Int,Fj (List.replicate c.ins.length (-1)) i=-1:=fun i=>by
  exact Av1
 refine ⟨by simp,Ax _,?_,fun i _ _ h=>?_,fun x hx=>by simp at hx,fun j hj=>by omega,fun i _ _ h=>?_⟩
 ·have:=Alu (List.replicate c.ins.length (-1)); simp at this; simp only; omega
 ·simp only [hm] at h; omega
 ·simp only [hm] at h; omega
theorem As8 {c:Cd} {k:Nat} {r:Rc} (h:HI c k (-1) r) (hk:k < c.ens.length) (h1:(c.ens.getD k default).pc < c.ins.length∧Fj r.hs (c.ens.getD k default).pc=0):HI c (k+1) (-1) r:=
 ⟨h.len,h.nle,h.mea,h.mark,h.wait,fun j hj=>by
  rcases DF j k with h' | h'
  ·exact h.ents j h'
  ·obtain rfl:j=k:=by omega
   exact h1,h.clos⟩
theorem As9 {c:Cd} {k n:Nat} {r:Rc} (h:HI c k (-1) r) (hn:r.n=n+1):HI c k (r.ws.getD n default) ⟨r.hs,r.ws,n,r.v⟩∧0≤r.ws.getD n default∧r.ws.getD n default < c.ins.length∧0≤Fj r.hs (r.ws.getD n default):=by
 have hnl:=h.nle
 have hx:r.ws.getD n default=r.ws[n]'(by omega):=by rw [lx80,lx51 (by omega)]; rfl
 have ht:r.ws.take r.n=r.ws.take n++[r.ws.getD n default]:=by rw [hn,lx115 (by omega),hx]
 have hw:=h.wait (r.ws.getD n default) (by rw [ht]; exact List.mem_append_right _ (lx70.2 rfl))
 have hmea:=h.mea
 refine ⟨⟨h.len,by simp only; omega,by simp only; omega,h.mark,fun x hx'=>h.wait x (by rw [ht]; exact lx77 _ hx'),h.ents,fun i h0 h1 h2=>?_⟩,hw⟩
 rcases h.clos i h0 h1 h2 with h3 | h3 | h3
 ·rw [ht] at h3
  rcases lx76.1 h3 with h3 | h3
  ·exact .inl h3
  ·exact .inr (.inl (lx70.1 h3))
 ·omega
 ·exact .inr (.inr h3)
theorem Alw {c:Cd} {k:Nat} {ex:Int} {r:Rc} (h:HI c k ex r) (h1:Clo c r.hs ex):HI c k (-1) r:=
 ⟨h.len,h.nle,h.mea,h.mark,h.wait,h.ents,fun i h0 h2 h3=>by
  rcases h.clos i h0 h2 h3 with h4 | h4 | h4
  ·exact .inl h4
  ·exact .inr (.inr (by rw [h4]; exact h1))
  ·exact .inr (.inr h4)⟩
theorem Asa {c:Cd} (hl:Lead c) {r:Rc} (h:HI c c.ens.length (-1) r) (hn:r.n=0):I3 c=true:=by
 refine RV (Wp (hs:=r.hs) (fun e he=>?_) (fun i h0 h1 h2=>?_) hl)
 ·obtain ⟨j,hj,rfl⟩:=lx69 he
  have:=h.ents j hj
  rwa [lx80,lx51 hj] at this
 ·obtain ⟨g1,g2⟩:=h.mark i h0 h1 h2
  rcases h.clos i h0 h1 h2 with h3 | h3 | h3
  ·rw [hn] at h3; simp at h3
  ·omega
  ·exact ⟨g2,h3.1,h3.2⟩
end Go.Proofs.YtdjpkhjaibdogaaGreat
