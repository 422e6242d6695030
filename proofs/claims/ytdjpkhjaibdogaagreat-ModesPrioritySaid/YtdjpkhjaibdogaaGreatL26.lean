/-
  Lemmas towards ModesPriority (joined texts: BG, BH, BI, BK, BL).
  Conditions: none.
-/
import Derived.Test.YtdjpkhjaibdogaaGreatL01
import Derived.Test.YtdjpkhjaibdogaaGreatL25
import Derived.Test.YtdjpkhjaibdogaaGreatL02
import Derived.Test.YtdjpkhjaibdogaaGreatL20
set_option linter.unusedSimpArgs false
set_option linter.unusedVariables false
set_option maxRecDepth 100000
set_option maxHeartbeats 8000000
namespace Go.Proofs.YtdjpkhjaibdogaaGreat
open Go Go.SX
def Cz (x:In) (i h:Int):List (Int × Int):=
 if x.op=31 then [] else if x.op=12 then [(x.a,h)] else if x.op=13 then [(i+1,h - 1),(x.a,h - 1)] else if x.op=14 then [(i+1,h),(x.a,h - 1)]
 else [(i+1,h - (B5 x.op).1+(B5 x.op).2.1)]
def LK (x:In) (h:Int):Prop:=(B5 x.op).1≤h∧(x.op=31→h=0)
def AI (c:Cd) (i:Int):In:=c.ins.getD i.toNat default
inductive Rch (c:Cd):Int→Int→Prop
 | ent {e:En} (h:e ∈ c.ens):Rch c e.pc 0
 | step {i h j h':Int} (r:Rch c i h) (hi:i < c.ins.length) (ho:LK (AI c i) h) (hs:(j,h') ∈ Cz (AI c i) i h):Rch c j h'
structure Good (c:Cd):Prop where
 fits:∀ i h,Rch c i h→i < c.ins.length∧h≤48∧LK (AI c i) h
 one:∀ i h h',Rch c i h→Rch c i h'→h=h'
noncomputable def Jy (c:Cd):Bool:=open Classical in decide (Good c)
theorem UG {c:Cd} (h:Good c):Jy c=true:=by simp [Jy,h]
theorem Ja {c:Cd} (h:¬ Good c):Jy c=false:=by simp [Jy,h]
theorem Asf {c:Cd} (h:Jy c=true):Good c:=by simpa [Jy] using h
theorem Asg {c:Cd} {i h:Int} (r:Rch c i h) (hi:¬ i < c.ins.length):Jy c=false:=Ja fun g=>hi (g.fits i h r).1
theorem Ant {c:Cd} {i h:Int} (r:Rch c i h) (hh:¬ h≤48):Jy c=false:=Ja fun g=>hh (g.fits i h r).2.1
theorem Bah {c:Cd} {i h:Int} (r:Rch c i h) (hh:¬ LK (AI c i) h):Jy c=false:=Ja fun g=>hh (g.fits i h r).2.2
theorem Ash {c:Cd} {i h h':Int} (r:Rch c i h) (r':Rch c i h') (hh:h≠h'):Jy c=false:=Ja fun g=>hh (g.one i h h' r r')
def E5 (hs:List Int) (i:Int):Int:=hs.getD i.toNat (-1)
structure Lead (c:Cd):Prop where
 ent:∀ e ∈ c.ens,0≤e.pc
 ins:∀ i,i < c.ins.length→DB (c.ins.getD i default).op=true→0≤(c.ins.getD i default).a
theorem Asi {c:Cd} (h:Hk c=true):Lead c:=by
 simp only [Hk,AH,Jt] at h
 obtain ⟨h1,h2⟩:=h
 refine ⟨fun e he=>?_,fun i hi hj=>?_⟩
 ·have:=lx95.1 h2 e he
  simp only [tgB,Hw,Ow] at this
  exact (Fx.1 this).1
 ·have:=lx95.1 h1 _ (DJ hi)
  simp only [tgP,hj,KP,Hw,Ow] at this
  exact (Fx.1 this).1
theorem Sn {c:Cd} (hl:Lead c) {i h j h':Int} (hi:0≤i) (hi':i < c.ins.length) (hs:(j,h') ∈ Cz (AI c i) i h):0≤j:=by
 have hk:i.toNat < c.ins.length:=An
 have hx:=hl.ins i.toNat hk
 unfold Cz at hs
 by_cases h1:(AI c i).op=31
 ·simp [h1] at hs
 by_cases h2:(AI c i).op=12
 ·simp [h1,h2] at hs
  have:=hx (show DB (AI c i).op=true by simp [DB,h2])
  rw [hs.1]; exact this
 by_cases h3:(AI c i).op=13
 ·simp [h1,h2,h3] at hs
  have:=hx (show DB (AI c i).op=true by simp [DB,h3])
  rcases hs with hs | hs
  ·omega
  ·rw [hs.1]; exact this
 by_cases h4:(AI c i).op=14
 ·simp [h1,h2,h3,h4] at hs
  have:=hx (show DB (AI c i).op=true by simp [DB,h4])
  rcases hs with hs | hs
  ·omega
  ·rw [hs.1]; exact this
 ·simp [h1,h2,h3,h4] at hs
  omega
theorem So (op:Int):0≤(B5 op).1∧0≤(B5 op).2.1∧(B5 op).1≤2∧(B5 op).2.1≤1:=by
 have key:∀ {p:Int × Int × Int→Prop} (op:Int),(∀ k:Int,1≤k→k≤31→p (B5 k))→p (0,0,-1)→p (B5 op):=by
  intro p op h1 h2
  by_cases h:1≤op∧op≤31
  ·exact h1 op h.1 h.2
  ·have:B5 op=(0,0,-1):=by
    unfold B5
    iterate 31 rw [if_neg (by omega)]
   rw [this]; exact h2
 refine key (p:=fun e=>0≤e.1∧0≤e.2.1∧e.1≤2∧e.2.1≤1) op (fun k h1 h2=>?_) (by decide)
 rcases Ge k with h | h
 ·rcases h with rfl | rfl | rfl | rfl | rfl | rfl | rfl | rfl | rfl | rfl | rfl | rfl | rfl | rfl | rfl | rfl | rfl | rfl | rfl | rfl | rfl | rfl | rfl | rfl | rfl | rfl | rfl | rfl | rfl | rfl | rfl <;> decide
 ·have:=h k h1 h2
  simp at this
theorem Awz (op:Int) (h:op=14):(B5 op).1=1∧(B5 op).2.1=1:=by subst h; decide
theorem Ax0 (op:Int) (h:op=13):(B5 op).1=1∧(B5 op).2.1=0:=by subst h; decide
theorem Bh8 (op:Int) (h:op=12):(B5 op).1=0∧(B5 op).2.1=0:=by subst h; decide
theorem Ob {x:In} {i h j h':Int} (ho:LK x h) (hs:(j,h') ∈ Cz x i h):0≤h':=by
 have h0:=So x.op
 have ho1:=ho.1
 unfold Cz at hs
 by_cases h1:x.op=31
 ·simp [h1] at hs
 by_cases h2:x.op=12
 ·simp [h1,h2] at hs
  omega
 by_cases h3:x.op=13
 ·have:=Ax0 _ h3
  simp [h1,h2,h3] at hs
  omega
 by_cases h4:x.op=14
 ·have:=Awz _ h4
  simp [h1,h2,h3,h4] at hs
  omega
 ·simp [h1,h2,h3,h4] at hs
  omega
theorem ZD {c:Cd} {hs:List Int} (he:∀ e ∈ c.ens,e.pc < c.ins.length∧E5 hs e.pc=0)
  (hc:∀ i:Int,0≤i→i < c.ins.length→0≤E5 hs i→E5 hs i≤48∧LK (AI c i) (E5 hs i)∧∀ j h',(j,h') ∈ Cz (AI c i) i (E5 hs i)→j < c.ins.length∧E5 hs j=h')
  (hl:Lead c):Good c:=by
 have key:∀ i h,Rch c i h→0≤i∧i < c.ins.length∧E5 hs i=h∧0≤h:=by
  intro i h r
  induction r with
  | ent he'=>exact ⟨hl.ent _ he',(he _ he').1,(he _ he').2,Int.le_refl _⟩
  | step r hi ho hs' ih=>
   obtain ⟨g1,g2,g3,g4⟩:=ih
   have:=hc _ g1 g2 (by rw [g3]; exact g4)
   rw [g3] at this
   obtain ⟨k1,k2,k3⟩:=this
   exact ⟨Sn hl g1 g2 hs',(k3 _ _ hs').1,(k3 _ _ hs').2,Ob ho hs'⟩
 refine ⟨fun i h r=>?_,fun i h h' r r'=>?_⟩
 ·obtain ⟨g1,g2,g3,g4⟩:=key i h r
  have:=hc i g1 g2 (by rw [g3]; exact g4)
  rw [g3] at this
  exact ⟨g2,this.1,this.2.1⟩
 ·rw [←(key i h r).2.2.1,←(key i h' r').2.2.1]
end Go.Proofs.YtdjpkhjaibdogaaGreat
namespace Go.Proofs.YtdjpkhjaibdogaaGreat
open Go Go.SX
attribute [local congr] ite_congr
structure Rc where
 hs:List Int
 ws:List Int
 n:Nat
 v:Nat
def Dh (r:Rc) (i h:Int) (cnt:Nat):Bool × Rc:=
 if i < r.hs.length∧h≤48∧¬ (0≤E5 r.hs i∧E5 r.hs i≠h) then
  if E5 r.hs i < 0 then (true,⟨r.hs.set i.toNat h,r.ws.take r.n++[i],r.n+1,cnt+1⟩) else (true,r)
 else (false,r)
def O5 (b0 e:Blk) (v1 v2 v3:Nat) (r:Rc):List Blk:=
 [b0,⟨true,v1,3,1,r.hs.map (kA .i64),false⟩,⟨true,v2,34,1,[.sl 1 v1 0 r.hs.length],false⟩,⟨true,v3,34,1,[.sl 4 r.v 0 r.n],false⟩,⟨true,r.v,3,1,r.ws.map (kA .i64),false⟩,e]
theorem Anu {hs:List Int} {i:Nat}:E5 hs (i:Int)=hs.getD i (-1):=by simp [E5]
theorem ZE {hs:List Int} {i:Nat} (h:i < hs.length) (d:Int):hs.getD i default=hs.getD i d:=by
 rw [lx81,lx81,lx50 h]; rfl
theorem Abs (i h:Int) (r:Rc) (b0 e:Blk) (v1 v2 v3 cnt:Nat) (hi:0≤i) (hn:r.n≤r.ws.length) (hl:r.n≤1000000) (hl2:r.hs.length≤1000000):
  HSpec Tryz.prog 196 [.sc (.int .i64 i),.sc (.int .i64 h),.pt 2 v2 0 0,.pt 3 v3 0 0] (O5 b0 e v1 v2 v3 r) cnt (.sc (.bool (Dh r i h cnt).1)) (O5 b0 e v1 v2 v3 (Dh r i h cnt).2) (cnt+2):=by
 obtain ⟨hs,ws,n,v⟩:=r
 simp only at hn hl hl2
 obtain ⟨k,rfl⟩:∃ k:Nat,i=(k:Int):=⟨i.toNat,by omega⟩
 refine Ad (Af (lit:=false) (pm:=fun _=>none) .nil .nil .nil .nil) rfl Tryz.func196 rfl (by decide) (by kernel_rfl) ?_
 simp only [Tryz.f196,Ae,lx52,lx63,Nat.reduceAdd,Nat.reduceSub,List.replicate]
 unfold O5
 simp only
 by_cases c1:k < hs.length
 rotate_left
 ·have h1:decide ((hs.length:Int)≤(k:Int))=true:=by rw [Bw]; omega
  have e1:Dh ⟨hs,ws,n,v⟩ k h cnt=(false,⟨hs,ws,n,v⟩):=by
   rw [Dh,if_neg]; intro hh; have:=hh.1; simp only at this; omega
  rw [e1]
  refine Ac ?_
  refine Pb h1 ?_
  all_goals exact Aak
 have h1:decide ((hs.length:Int)≤(k:Int))=false:=L4
 by_cases c2:h≤48
 rotate_left
 ·have h2:decide ((48:Int) < h)=true:=by rw [Bw]; omega
  have e1:Dh ⟨hs,ws,n,v⟩ k h cnt=(false,⟨hs,ws,n,v⟩):=by
   rw [Dh,if_neg]; intro hh; exact c2 hh.2.1
  rw [e1]
  refine Ac ?_
  refine Pb (a2 h1 h2) ?_
  all_goals exact Aak
 have h2:decide ((48:Int) < h)=false:=L4
 have g1:decide ((0:Int)≤(k:Int))=true:=Au
 have g2:decide ((k:Int) < (hs.length:Int))=true:=Au
 have g3:decide (k < hs.length)=true:=Au
 obtain ⟨x,hx⟩:∃ x,hs.getD k default=x:=⟨_,rfl⟩
 have hx':E5 hs k=x:=by rw [Anu,←hx,ZE c1]
 by_cases c3:0≤x
 ·have h3:decide ((0:Int)≤x)=true:=by rw [Bw]; exact c3
  by_cases c4:x=h
  ·have h4:(x != h)=false:=by simp [c4]
   have h5:decide (x < (0:Int))=false:=L4
   have e1:Dh ⟨hs,ws,n,v⟩ k h cnt=(true,⟨hs,ws,n,v⟩):=by
    rw [Dh,if_pos,if_neg]
    ·simp only [hx']; omega
    ·simp only [hx']; refine ⟨by omega,c2,by omega⟩
   rw [e1]
   refine Ac ?_
   refine Pb (a9 h1 h2 g2 g3 hx h3 h4 h5 @AO) ?_
   all_goals exact Aak
  ·have h4:(x != h)=true:=by simpa using c4
   have e1:Dh ⟨hs,ws,n,v⟩ k h cnt=(false,⟨hs,ws,n,v⟩):=by
    rw [Dh,if_neg]; simp only [hx']; omega
   rw [e1]
   refine Ac ?_
   refine Pb (a8 h1 h2 g2 g3 hx h3 h4 @AO) ?_
   all_goals exact Aak
 ·have h3:decide ((0:Int)≤x)=false:=by rw [Cy]; exact c3
  have h5:decide (x < (0:Int))=true:=Au
  have e1:Dh ⟨hs,ws,n,v⟩ k h cnt=(true,⟨hs.set k h,ws.take n++[(k:Int)],n+1,cnt+1⟩):=by
   rw [Dh,if_pos,if_pos]
   ·simp
   ·simp only [hx']; omega
   ·simp only [hx']; refine ⟨by omega,c2,by omega⟩
  rw [e1]
  have ht:List.take n (ws.map (kA .i64))=(ws.take n).map (kA .i64):=by rw [List.map_take]
  have hsz:decide ((n+1) * 8≤140737488355328)=true:=Au
  have hm:(hs.map (kA .i64)).set k (AV.sc (.int .i64 h))=(hs.set k h).map (kA .i64):=by rw [List.map_set]; rfl
  have ha:(ws.take n).map (kA .i64)++[AV.sc (.int .i64 (k:Int))]=(ws.take n++[(k:Int)]).map (kA .i64):=by rw [lx10]; rfl
  refine Ac ?_
  exact Oy (Hp h1 h2 g2 g3 hx h3 h5 ht hsz hm ha @AO)
  all_goals exact Aak
end Go.Proofs.YtdjpkhjaibdogaaGreat
namespace Go.Proofs.YtdjpkhjaibdogaaGreat
open Go Go.SX
def Tc (hs:List Int):Nat:=(hs.filter (fun x=>decide (x < 0))).length
theorem Asj (hs:List Int):Tc hs≤hs.length:=List.length_filter_le _ _
theorem ZF:∀ {hs:List Int} {k:Nat} {h:Int},k < hs.length→hs.getD k (-1) < 0→0≤h→Tc (hs.set k h)+1=Tc hs
 | [],k,h,hk,_,_=>by simp at hk
 | x::hs,0,h,_,hx,hh=>by
  simp at hx
  unfold Tc
  rw [lx111,List.filter_cons_of_neg (by simp; omega),List.filter_cons_of_pos (by simp; omega)]
  simp
 | x::hs,k+1,h,hk,hx,hh=>by
  have ih:=ZF (hs:=hs) (k:=k) (h:=h) (by simpa using hk) (by simpa using hx) hh
  unfold Tc at ih ⊢
  rw [lx5]
  by_cases c:x < 0
  ·rw [List.filter_cons_of_pos (by simpa using c),List.filter_cons_of_pos (by simpa using c)]
   simp only [lx52]; omega
  ·rw [List.filter_cons_of_neg (by simpa using c),List.filter_cons_of_neg (by simpa using c)]
   exact ih
theorem Asl {hs:List Int} {i j h:Int} (hi:0≤i) (hi':i < hs.length) (hj:0≤j):E5 (hs.set i.toNat h) j=if j=i then h else E5 hs j:=by
 unfold E5
 rw [lx81,lx81,lx21]
 by_cases c:j=i
 ·subst c
  rw [if_pos rfl,if_pos (by omega),if_pos rfl]; rfl
 ·rw [if_neg (by omega),if_neg c]
def Clo (c:Cd) (hs:List Int) (i:Int):Prop:=LK (AI c i) (E5 hs i)∧∀ j h',(j,h') ∈ Cz (AI c i) i (E5 hs i)→j < c.ins.length∧E5 hs j=h'
structure HI (c:Cd) (k:Nat) (ex:Int) (r:Rc):Prop where
 len:r.hs.length=c.ins.length
 nle:r.n≤r.ws.length
 mea:2 * Tc r.hs+r.n≤2 * c.ins.length
 mark:∀ i:Int,0≤i→i < c.ins.length→0≤E5 r.hs i→Rch c i (E5 r.hs i)∧E5 r.hs i≤48
 wait:∀ x ∈ r.ws.take r.n,0≤x∧x < c.ins.length∧0≤E5 r.hs x
 ents:∀ j,j < k→(c.ens.getD j default).pc < c.ins.length∧E5 r.hs (c.ens.getD j default).pc=0
 clos:∀ i:Int,0≤i→i < c.ins.length→0≤E5 r.hs i→i ∈ r.ws.take r.n∨i=ex∨Clo c r.hs i
theorem Anv {c:Cd} (hl:Lead c) {hs hs':List Int} (hp:∀ j:Int,0≤j→0≤E5 hs j→E5 hs' j=E5 hs j) {i:Int} (hi:0≤i) (hi':i < c.ins.length) (h0:0≤E5 hs i) (h:Clo c hs i):Clo c hs' i:=by
 have e:=hp i hi h0
 refine ⟨by rw [e]; exact h.1,fun j h' hj=>?_⟩
 rw [e] at hj
 obtain ⟨g1,g2⟩:=h.2 j h' hj
 have h1:=Ob h.1 hj
 have h2:=Sn hl hi hi' hj
 exact ⟨g1,by rw [hp j h2 (by rw [g2]; exact h1),g2]⟩
theorem UH {c:Cd} (hl:Lead c) {k:Nat} {ex:Int} {r:Rc} (hi:HI c k ex r) {i h:Int} (hr:Rch c i h) (h0:0≤i) (hh:0≤h) (cnt:Nat):
  ((Dh r i h cnt).1=false→Jy c=false)∧((Dh r i h cnt).1=true→HI c k ex (Dh r i h cnt).2∧i < c.ins.length∧E5 (Dh r i h cnt).2.hs i=h∧
   (∀ j:Int,0≤j→0≤E5 r.hs j→E5 (Dh r i h cnt).2.hs j=E5 r.hs j)∧2 * Tc (Dh r i h cnt).2.hs+(Dh r i h cnt).2.n≤2 * Tc r.hs+r.n):=by
 have hlen:=hi.len
 by_cases c1:i < c.ins.length
 rotate_left
 ·have e:Dh r i h cnt=(false,r):=by rw [Dh,if_neg]; intro hc; rw [hlen] at hc; exact c1 hc.1
  rw [e]
  exact ⟨fun _=>Asg hr c1,fun h=>by cases h⟩
 by_cases c2:h≤48
 rotate_left
 ·have e:Dh r i h cnt=(false,r):=by rw [Dh,if_neg]; intro hc; exact c2 hc.2.1
  rw [e]
  exact ⟨fun _=>Ant hr c2,fun h=>by cases h⟩
 by_cases c3:0≤E5 r.hs i
 ·by_cases c4:E5 r.hs i=h
  ·have e:Dh r i h cnt=(true,r):=by
    rw [Dh,if_pos,if_neg]
    ·omega
    ·rw [hlen]; exact ⟨c1,c2,fun hc=>hc.2 c4⟩
   rw [e]
   exact ⟨fun h=>(by cases h),fun _=>⟨hi,c1,c4,fun j _ _=>rfl,Av _⟩⟩
  ·have e:Dh r i h cnt=(false,r):=by rw [Dh,if_neg]; intro hc; exact hc.2.2 ⟨c3,c4⟩
   rw [e]
   exact ⟨fun _=>Ash hr (hi.mark i h0 c1 c3).1 (fun h=>c4 h.symm),fun h=>by cases h⟩
 ·have hi2:i < r.hs.length:=by rw [hlen]; exact c1
  have e:Dh r i h cnt=(true,⟨r.hs.set i.toNat h,r.ws.take r.n++[i],r.n+1,cnt+1⟩):=by
   rw [Dh,if_pos,if_pos]
   ·omega
   ·rw [hlen]; exact ⟨c1,c2,fun hc=>c3 hc.1⟩
  have hs':∀ j:Int,0≤j→E5 (r.hs.set i.toNat h) j=if j=i then h else E5 r.hs j:=fun j hj=>Asl h0 hi2 hj
  have hp:∀ j:Int,0≤j→0≤E5 r.hs j→E5 (r.hs.set i.toNat h) j=E5 r.hs j:=fun j hj h1=>by
   rw [hs' j hj,if_neg]; rintro rfl; exact c3 h1
  have hneg:=ZF (hs:=r.hs) (k:=i.toNat) (h:=h) (by omega) (by unfold E5 at c3; omega) hh
  have htk:(r.ws.take r.n++[i]).take (r.n+1)=r.ws.take r.n++[i]:=lx12 (by simp; omega)
  have hmea:=hi.mea
  rw [e]
  refine ⟨fun h=>(by cases h),fun _=>⟨⟨?_,?_,?_,?_,?_,?_,?_⟩,c1,?_,hp,?_⟩⟩
  ·simp [hlen]
  ·have:=hi.nle; simp; omega
  ·simp only; omega
  ·intro j hj hj' hj2
   simp only at hj2 ⊢
   rw [hs' j hj] at hj2 ⊢
   split
   ·rename_i hji; subst hji; exact ⟨hr,c2⟩
   ·rename_i hji
    rw [if_neg hji] at hj2
    exact hi.mark j hj hj' hj2
  ·intro x hx
   simp only [htk] at hx
   rcases lx77.1 hx with hx | hx
   ·obtain ⟨g1,g2,g3⟩:=hi.wait x hx
    exact ⟨g1,g2,by rw [hp x g1 g3]; exact g3⟩
   ·simp only [lx70] at hx
    subst hx
    exact ⟨h0,c1,by rw [hs' x h0,if_pos rfl]; exact hh⟩
  ·intro j hj
   obtain ⟨g1,g2⟩:=hi.ents j hj
   refine ⟨g1,?_⟩
   simp only
   by_cases hm:(c.ens.getD j default).pc < 0
   ·by_cases hj2:j < c.ens.length
    ·have:=hl.ent _ (DJ hj2); omega
    ·rw [lx81,lx30 (by omega)] at hm
     simp [default,instInhabitedEn] at hm
   ·rw [hp _ (by omega) (by rw [g2]; omega),g2]
  ·intro j hj hj' hj2
   simp only [htk] at hj2 ⊢
   by_cases hji:j=i
   ·exact .inl (List.mem_append_right _ (lx70.2 hji))
   ·rw [hs' j hj,if_neg hji] at hj2
    rcases hi.clos j hj hj' hj2 with h1 | h1 | h1
    ·exact .inl (List.mem_append_left _ h1)
    ·exact .inr (.inl h1)
    ·exact .inr (.inr (Anv hl hp hj hj' hj2 h1))
  ·simp only; rw [hs' i h0,if_pos rfl]
  ·simp only; omega
theorem Anw (c:Cd) (v:Nat):HI c 0 (-1) ⟨List.replicate c.ins.length (-1),[],0,v⟩:=by
 have hm:∀ i:Int,E5 (List.replicate c.ins.length (-1)) i=-1:=fun i=>by
  unfold E5
  rw [lx81]
  by_cases h:i.toNat < c.ins.length
  ·rw [List.getElem?_replicate,if_pos h]; rfl
  ·rw [List.getElem?_replicate,if_neg h]; rfl
 refine ⟨by simp,Av _,?_,fun i _ _ h=>?_,fun x hx=>by simp at hx,fun j hj=>by omega,fun i _ _ h=>?_⟩
 ·have:=Asj (List.replicate c.ins.length (-1)); simp at this; simp only; omega
 ·simp only [hm] at h; omega
 ·simp only [hm] at h; omega
theorem Bai {c:Cd} {k:Nat} {r:Rc} (h:HI c k (-1) r) (hk:k < c.ens.length) (h1:(c.ens.getD k default).pc < c.ins.length∧E5 r.hs (c.ens.getD k default).pc=0):HI c (k+1) (-1) r:=
 ⟨h.len,h.nle,h.mea,h.mark,h.wait,fun j hj=>by
  rcases D0 j k with h' | h'
  ·exact h.ents j h'
  ·obtain rfl:j=k:=by omega
   exact h1,h.clos⟩
theorem Baj {c:Cd} {k n:Nat} {r:Rc} (h:HI c k (-1) r) (hn:r.n=n+1):HI c k (r.ws.getD n default) ⟨r.hs,r.ws,n,r.v⟩∧0≤r.ws.getD n default∧r.ws.getD n default < c.ins.length∧0≤E5 r.hs (r.ws.getD n default):=by
 have hnl:=h.nle
 have hx:r.ws.getD n default=r.ws[n]'(by omega):=Ajw
 have ht:r.ws.take r.n=r.ws.take n++[r.ws.getD n default]:=by rw [hn,lx109 (by omega),hx]
 have hw:=h.wait (r.ws.getD n default) (by rw [ht]; exact List.mem_append_right _ (lx70.2 rfl))
 have hmea:=h.mea
 refine ⟨⟨h.len,by simp only; omega,by simp only; omega,h.mark,fun x hx'=>h.wait x (by rw [ht]; exact List.mem_append_left _ hx'),h.ents,fun i h0 h1 h2=>?_⟩,hw⟩
 rcases h.clos i h0 h1 h2 with h3 | h3 | h3
 ·rw [ht] at h3
  rcases lx77.1 h3 with h3 | h3
  ·exact .inl h3
  ·exact .inr (.inl (lx70.1 h3))
 ·omega
 ·exact .inr (.inr h3)
theorem Asm {c:Cd} {k:Nat} {ex:Int} {r:Rc} (h:HI c k ex r) (h1:Clo c r.hs ex):HI c k (-1) r:=
 ⟨h.len,h.nle,h.mea,h.mark,h.wait,h.ents,fun i h0 h2 h3=>by
  rcases h.clos i h0 h2 h3 with h4 | h4 | h4
  ·exact .inl h4
  ·exact .inr (.inr (by rw [h4]; exact h1))
  ·exact .inr (.inr h4)⟩
theorem Bak {c:Cd} (hl:Lead c) {r:Rc} (h:HI c c.ens.length (-1) r) (hn:r.n=0):Jy c=true:=by
 refine UG (ZD (hs:=r.hs) (fun e he=>?_) (fun i h0 h1 h2=>?_) hl)
 ·obtain ⟨j,hj,rfl⟩:=lx69 he
  have:=h.ents j hj
  rwa [lx81,lx50 hj] at this
 ·obtain ⟨g1,g2⟩:=h.mark i h0 h1 h2
  rcases h.clos i h0 h1 h2 with h3 | h3 | h3
  ·rw [hn] at h3; simp at h3
  ·omega
  ·exact ⟨g2,h3.1,h3.2⟩
end Go.Proofs.YtdjpkhjaibdogaaGreat
namespace Go.Proofs.YtdjpkhjaibdogaaGreat
open Go Go.SX
attribute [local congr] ite_congr
theorem Dv (E:Env) (s:St) (d:Option Nat) (want:Bool) (args:List AV) (g:AV):Rf E s d want args g .un=gP s d want none g:=rfl
structure RcX where
 i:Int
 h:Int
 r:Rc
 b0:Blk
 e:Blk
 v1:Nat
 v2:Nat
 v3:Nat
 cnt:Nat
def rxQ (x:RcX):Prop:=0≤x.i∧x.r.n≤x.r.ws.length∧x.r.n≤1000000∧x.r.hs.length≤1000000
def rxE (x:RcX):List AV × List Blk × Nat:=([.sc (.int .i64 x.i),.sc (.int .i64 x.h),.pt 2 x.v2 0 0,.pt 3 x.v3 0 0],O5 x.b0 x.e x.v1 x.v2 x.v3 x.r,x.cnt)
noncomputable def rxO (x:RcX):AV × List Blk × Nat:=(.sc (.bool (Dh x.r x.i x.h x.cnt).1),O5 x.b0 x.e x.v1 x.v2 x.v3 (Dh x.r x.i x.h x.cnt).2,x.cnt+2)
theorem Asn {b0 e b0' e':Blk} {v1 v2 v3 v1' v2' v3':Nat} {r r':Rc} (h:O5 b0 e v1 v2 v3 r=O5 b0' e' v1' v2' v3' r'):b0=b0'∧e=e'∧v1=v1'∧v2=v2'∧v3=v3'∧r=r':=by
 obtain ⟨hs,ws,n,v⟩:=r
 obtain ⟨hs',ws',n',v'⟩:=r'
 simp only [O5,lx94,Blk.mk.injEq,AV.sl.injEq,AW,C5,Kh] at h
 obtain ⟨h1,⟨h2,h3⟩,⟨h4,h5⟩,⟨h6,h7,h8⟩,⟨h9,h10⟩,h11⟩:=h
 exact ⟨h1,h11,h2,h4,h6,by rw [h3,h8,h9,h10]⟩
noncomputable def f196:=mkH rxQ rxE rxO
theorem Abt (i h:Int) (r:Rc) (b0 e:Blk) (v1 v2 v3 cnt:Nat) (hi:0≤i) (hn:r.n≤r.ws.length) (hLd:r.n≤1000000) (hl2:r.hs.length≤1000000):
  f196 [.sc (.int .i64 i),.sc (.int .i64 h),.pt 2 v2 0 0,.pt 3 v3 0 0] (O5 b0 e v1 v2 v3 r) cnt=some (.sc (.bool (Dh r i h cnt).1),O5 b0 e v1 v2 v3 (Dh r i h cnt).2,cnt+2):=
 IT (q:=rxQ) (enc:=rxE) (out:=rxO) ⟨i,h,r,b0,e,v1,v2,v3,cnt⟩ ⟨hi,hn,hLd,hl2⟩ (by
  rintro ⟨i',h',r',b0',e',v1',v2',v3',cnt'⟩ - he
  simp only [rxE,lx40,lx94,AV.sc.injEq,Value.int.injEq,AV.pt.injEq,AW,C5] at he
  obtain ⟨⟨a1,a2,a3,a4⟩,a5,a6⟩:=he
  obtain ⟨c1,c2,c3,c4,c5,c6⟩:=Asn a5
  subst a1 a2 c1 c2 c3 c4 c5 c6 a6
  rfl)
theorem Bh9:Jo Tryz.prog 196 f196:=IU fun x ⟨h1,h2,h3,h4⟩=>Abs x.i x.h x.r x.b0 x.e x.v1 x.v2 x.v3 x.cnt h1 h2 h3 h4
theorem Aso {n k:Nat} (h:k < n):(List.replicate k (-1:Int)++List.replicate (n - k) 0).set k (-1)=List.replicate (k+1) (-1)++List.replicate (n - (k+1)) 0:=by
 obtain ⟨m,rfl⟩:∃ m,n=k+(m+1):=⟨n - k - 1,by omega⟩
 have e1:k+(m+1) - k=m+1:=An
 have e2:k+(m+1) - (k+1)=m:=An
 rw [e1,e2,List.replicate_succ (n:=m),List.set_append_right _ _ (by simp)]
 simp only [List.length_replicate,Nat.sub_self,lx111]
 rw [List.replicate_succ',lx6]; rfl
theorem Wg (c:Cd) (hq:Fit c) (hLd:Lead c):Ba Tryz.prog 146 [CI c] (.tu [.jk,bA (Jy c)]):=by
 obtain ⟨q1,q2,q3,q4,q5,q6,q7,q8⟩:=hq
 have hq:Fit c:=⟨q1,q2,q3,q4,q5,q6,q7,q8⟩
 refine BP (Af (lit:=false) (pm:=fun _=>none) (.cons Bgz .nil) .nil .nil (.cons Bh9 .nil)) rfl Tryz.func146 rfl (by decide) (by kernel_rfl) (by simp [bA,AV.noref,norefs]) ?_
 simp only [Tryz.f146,Ae,lx52,lx63,Nat.reduceAdd,Nat.reduceSub,List.replicate]
 have hsz:decide ((c.ins.length:Int) * 8≤140737488355328)=true:=Au
 have hsz2:decide ((c.ins.length:Int)≤(c.ins.length:Int))=true:=Au
 have g0:decide ((0:Int)≤(c.ins.length:Int))=true:=Au
 refine Ac ?_
 refine Pb (a3 hsz hsz2 @Ai) ?_
 obtain ⟨n,hn⟩:∃ n,c.ins.length=n:=⟨_,rfl⟩
 simp only [hn] at hsz hsz2 g0 q1 ⊢
 refine Az (σ:=Nat) (fun k cnt=>⟨CW 0 150 [(1,.pt 0 0 0 0),(4,.pt 2 2 0 0),(20,.sl 1 1 0 n),(21,.sc (.int .i64 n)),(22,.sc (.int .i64 k))],
   [⟨true,0,36,7,[CI c],false⟩,⟨true,1,3,1,(List.replicate k (-1)++List.replicate (n - k) 0).map (kA .i64),false⟩,⟨true,2,34,1,[.sl 1 1 0 n],false⟩],cnt⟩)
  (fun k=>k≤n) (fun k=>n - k) 0 (Bq _) ?_ ?_ rfl ?_
 ·exact Gm
 ·simp (maxSteps:=10000000) only [AX,AT,AL,Ai,List.map_replicate]
 rintro k cnt hk ih
 by_cases hk':k < n
 ·have h1:decide ((k:Int) < (n:Int))=true:=by rw [Bw]; omega
  have h2:decide ((0:Int)≤(k:Int))=true:=Au
  have w1:IntKind.i64.wrap ((k:Int)+1)=((k+1:Nat):Int):=CT
  have h3:decide (k < (List.replicate k (-1:Int)++List.replicate (n - k) 0).length)=true:=by rw [Bw]; simp; omega
  have hm:((List.replicate k (-1:Int)++List.replicate (n - k) 0).map (kA .i64)).set k (AV.sc (.int .i64 (-1)))=(List.replicate (k+1) (-1:Int)++List.replicate (n - (k+1)) 0).map (kA .i64):=by
   rw [←Aso hk',List.map_set]; rfl
  obtain ⟨L,hL⟩:∃ L,List.replicate k (-1:Int)++List.replicate (n - k) 0=L:=⟨_,rfl⟩
  rw [hL] at h3 hm ⊢
  refine Ac ?_
  refine Cb ?_
  refine Pb (a6 h1 h3 w1 hm @Ai @AO) ?_
  refine AB ?_ ?_ (Av _) (ih (k+1) _ (by omega) (by omega))
  all_goals simp (maxSteps:=10000000) only [AX,AT,↓reduceIte,reduceCtorEq,Nat.reduceAdd,Nat.reduceEqDiff,List.replicate_succ,CW,Jw,AL,Ai]
  all_goals done
 obtain rfl:k=n:=An
 clear ih hk hk' hsz hsz2 g0
 have h1:decide ((k:Int) < (k:Int))=false:=AZ
 rw [Nat.sub_self,List.replicate_zero,lx66]
 obtain ⟨R,hR⟩:∃ R,List.replicate k (-1:Int)=R:=⟨_,rfl⟩
 rw [hR]
 have hRl:R.length=k:=by rw [←hR]; simp
 refine Ac ?_
 refine Cb ?_
 refine Pb (a2 h1 @Ai) ?_
 refine HX (cnt+1) 3 1 (cnt+2) (by omega) (by omega) (Cr _ _ _) (H':=[⟨true,0,36,7,[CI c],false⟩,⟨true,1,3,1,R.map (kA .i64),false⟩,⟨true,2,34,1,[.sl 1 1 0 k],false⟩,⟨true,cnt,34,1,[.sl 4 (cnt+1) 0 0],false⟩]) ?_ ?_
 ·refine ⟨.inl rfl,.inl rfl,.inl rfl,?_,trivial⟩
  refine Ka _ _ _ _ _ _ _ _ _ _ ⟨?_,trivial⟩
  exact .nil
 obtain ⟨v3,hv3⟩:∃ v3,cnt=v3:=⟨_,rfl⟩
 rw [hv3]
 refine Ak0 ?_
 have hst:=Anw c (v3+1)
 rw [hn,hR] at hst
 refine Az (σ:=Nat × Rc) (fun y cnt=>⟨CW 0 150 [(1,.pt 0 0 0 0),(4,.pt 2 2 0 0),(6,.pt 3 v3 0 0),(7,.fn 196 [.pt 2 2 0 0,.pt 3 v3 0 0]),(31,.vw c.ze (c.ens.map Fw)),(32,.sc (.int .i64 c.ens.length)),(33,.sc (.int .i64 y.1))],
   (O5 ⟨true,0,36,7,[CI c],false⟩ dead 1 2 v3 y.2).take 5,cnt⟩)
  (fun y=>y.1≤c.ens.length∧HI c y.1 (-1) y.2) (fun y=>c.ens.length - y.1) (0,⟨R,[],0,v3+1⟩) ⟨Bq _,hst⟩ ?_ ?_ rfl ?_
 ·exact Gm
 ·simp only [O5]
  simp (maxSteps:=10000000) only [AX,AT,Ai,hRl]
 clear hst hR hRl hn q1
 rintro ⟨j,r⟩ cn ⟨hj,hI⟩ ih
 simp only at hj hI
 have hbd:=hI.mea
 have hnl:=hI.nle
 have hle:=hI.len
 have hins:=hq.ins
 by_cases hj':j < c.ens.length
 ·have h1:decide ((j:Int) < (c.ens.length:Int))=true:=by rw [Bw]; omega
  have h2:decide (j < c.ens.length)=true:=Au
  have w1:IntKind.i64.wrap ((j:Int)+1)=((j+1:Nat):Int):=CT
  have hm:=DJ hj'
  have hne:=fun r2 h=>Bai (r:=r2) (k:=j) (c:=c) h hj'
  obtain ⟨x,hx⟩:∃ x,c.ens.getD j default=x:=⟨_,rfl⟩
  rw [hx] at hm hne
  have hp:=hLd.ent x hm
  have E:=Abt x.pc 0 r ⟨true,0,36,7,[CI c],false⟩ ⟨true,cn,99,4,[Fw x],false⟩ 1 2 v3 (cn+1) hp hnl (by omega) (by omega)
  obtain ⟨k1,k2⟩:=UH hLd hI (.ent hm) hp (Int.le_refl 0) (cn+1)
  obtain ⟨⟨b,r2⟩,hr2⟩:∃ y,Dh r x.pc 0 (cn+1)=y:=⟨_,rfl⟩
  rw [hr2] at E k1 k2
  simp only [O5,Ai,Cv] at E
  simp only at k1 k2
  refine Ac ?_
  simp only [O5,lx91,lx42]
  cases b with
  | false=>
   have e:=k1 rfl
   refine Cb ?_
   exact Oy (a8 h1 h2 hx E e @Cv @Ai @Ez)
   all_goals done
  | true=>
   obtain ⟨g1,g2,g3,g4,g5⟩:=k2 rfl
   have ih:=fun c=>ih (j+1,r2) c ⟨by simp only; omega,hne r2 g1 ⟨g2,g3⟩⟩ (by simp only; omega)
   simp only [O5,lx91,lx42] at ih
   refine Cb ?_
   refine Pb (a8 h1 h2 hx E w1 @Cv @Ai @Ez) ?_
   exact Ji
 obtain rfl:j=c.ens.length:=An
 clear ih hj hj'
 have h1:decide ((c.ens.length:Int) < (c.ens.length:Int))=false:=AZ
 refine Ac ?_
 simp only [O5,lx91,lx42]
 refine Cb ?_
 simp (maxSteps:=10000000) +contextual -implicitDefEqProofs only [AX,AT,St.put,↓reduceIte,B9,Ai,h1]
 refine Az (σ:=Rc) (fun y cnt=>⟨CW 0 150 [(1,.pt 0 0 0 0),(4,.pt 2 2 0 0),(6,.pt 3 v3 0 0),(7,.fn 196 [.pt 2 2 0 0,.pt 3 v3 0 0])],
   (O5 ⟨true,0,36,7,[CI c],false⟩ dead 1 2 v3 y).take 5,cnt⟩)
  (fun y=>HI c c.ens.length (-1) y) (fun y=>2 * Tc y.hs+y.n) r hI ?_ ?_ rfl ?_
 ·exact Gm
 ·simp only [O5]
  exact Ajs
 clear hI hbd hnl hle h1
 rintro r cn hI ih
 have hbd:=hI.mea
 have hnl:=hI.nle
 have hle:=hI.len
 refine Ac ?_
 by_cases Kp:r.n=0
 ·have e:=Bak hLd hI Kp
  have h1:decide ((0:Int) < ((0:Nat):Int))=false:=by decide
  obtain ⟨hs,ws,n,v⟩:=r
  simp only at Kp
  subst Kp
  simp only [O5,lx91,lx42]
  refine Cb ?_
  exact Oy (a2 e @Ai)
  all_goals done
 obtain ⟨m,hm⟩:∃ m,r.n=m+1:=⟨r.n - 1,by omega⟩
 obtain ⟨hP,p0,p1,p2⟩:=Baj hI hm
 have hPm:=hP.mea
 obtain ⟨hs,ws,n,v⟩:=r
 simp only at hm hnl hle hbd hP p0 p1 p2 hPm ih
 subst hm
 obtain ⟨p,hp⟩:∃ p:Nat,ws.getD m default=(p:Int):=⟨(ws.getD m default).toNat,by omega⟩
 rw [hp] at hP p0 p1 p2
 have hR:=hP.mark p p0 p1 p2
 obtain ⟨x,hx⟩:∃ x,c.ins.getD p default=x:=⟨_,rfl⟩
 have hxi:AI c p=x:=by rw [AI,Pa]; exact hx
 obtain ⟨h,hh⟩:∃ h,hs.getD p default=h:=⟨_,rfl⟩
 have hh':E5 hs p=h:=by rw [Anu,←hh,ZE (by omega)]
 rw [hh'] at hR p2
 obtain ⟨hR,hR48⟩:=hR
 have hen:=So x.op
 have e1:=Bo2 x.op
 have hinv:=fun {ex} {r} (hI:HI c c.ens.length ex r) {i h} (hr:Rch c i h) h0 hh=>UH hLd hI (i:=i) (h:=h) hr h0 hh
 have hbad:∀ {q:Prop},¬ LK x h→Jy c=false:=fun hq'=>Bah hR (by rw [hxi]; exact hq')
 have Aw:∀ {j h'},LK x h→(j,h') ∈ Cz x p h→Rch c j h'∧0≤j∧0≤h':=fun ho hj=>
  ⟨.step hR p1 (by rw [hxi]; exact ho) (by rw [hxi]; exact hj),Sn hLd p0 p1 (by rw [hxi]; exact hj),Ob ho hj⟩
 have c1:decide ((0:Int) < ((m+1:Nat):Int))=true:=Au
 have w1:IntKind.i64.wrap (((m+1:Nat):Int) - 1)=(m:Int):=CT
 have c2:decide ((0:Int)≤(m:Int))=true:=Au
 have c3:decide ((m:Int) < ((m+1:Nat):Int))=true:=Au
 have c9:decide ((m:Int)≤((m+1:Nat):Int))=true:=Au
 have c10:decide ((p:Int) < (c.ins.length:Int))=true:=Au
 have c4:decide (m < ws.length)=true:=Au
 have c5:decide ((0:Int)≤(p:Int))=true:=Au
 have c6:decide (p < c.ins.length)=true:=Au
 have c7:decide ((p:Int) < (hs.length:Int))=true:=Au
 have c8:decide (p < hs.length)=true:=Au
 have w2:IntKind.i64.wrap (h - (B5 x.op).1)=h - (B5 x.op).1:=Acr
 have w3:IntKind.i64.wrap (h - (B5 x.op).1+(B5 x.op).2.1)=h - (B5 x.op).1+(B5 x.op).2.1:=Acr
 obtain ⟨A,hA⟩:∃ A,h - (B5 x.op).1+(B5 x.op).2.1=A:=⟨_,rfl⟩
 rw [hA] at w3
 have w4:IntKind.i64.wrap ((p:Int)+1)=(p:Int)+1:=Acr
 have w5:IntKind.i64.wrap (A - 1)=A - 1:=Acr
 have fin:∀ r2:Rc,HI c c.ens.length p r2→(∀ j:Int,0≤j→0≤E5 hs j→E5 r2.hs j=E5 hs j)→LK x h→(∀ j h',(j,h') ∈ Cz x p h→j < c.ins.length∧E5 r2.hs j=h')→HI c c.ens.length (-1) r2:=by
  intro r2 g1 g2 g3 g4
  have e:E5 r2.hs p=h:=by rw [g2 p p0 (by rw [hh']; exact p2),hh']
  refine Asm g1 ⟨?_,?_⟩
  ·rw [hxi,e]; exact g3
  ·rw [hxi,e]; exact g4
 simp only [O5,lx91,lx42] at ih ⊢
 by_cases a31:x.op=31
 ·have b31:(x.op == 31)=true:=by rw [lx86]; exact a31
  by_cases ho1:(B5 x.op).1≤h
  rotate_left
  ·have o1:decide ((B5 x.op).1≤h)=false:=by rw [Cy]; exact ho1
   have e:=hbad (q:=True) (fun hk=>ho1 hk.1)
   refine Cb ?_
   exact Oy (a23 c1 w1 c3 c4 hp c6 hx c7 c8 c9 c10 hh e1 w2 w3 hA b31 o1 e @BU @Ai @AU @AO)
   all_goals done
  have o1:decide ((B5 x.op).1≤h)=true:=WO
  by_cases hz:h=0
  rotate_left
  ·have o2:(h == 0)=false:=by rw [lx108]; exact hz
   have e:=hbad (q:=True) (fun hk=>hz (hk.2 a31))
   refine Cb ?_
   exact Oy (a24 c1 w1 c3 c4 hp c6 hx c7 c8 c9 c10 hh e1 w2 w3 hA b31 o1 o2 e @BU @Ai @AU @AO)
   all_goals done
  have o2:(h == 0)=true:=by rw [lx86]; exact hz
  have hI2:=fin _ hP (fun _ _ _=>rfl) ⟨ho1,fun _=>hz⟩ (fun j h' hj=>by simp [Cz,a31] at hj)
  have ih:=fun c=>ih ⟨hs,ws,m,v⟩ c hI2 (by simp only; omega)
  simp only at ih
  refine Cb ?_
  refine Pb (a23 c1 w1 c3 c4 hp c6 hx c7 c8 c9 c10 hh e1 w2 w3 hA b31 o1 o2 @BU @Ai @AU @AO) ?_
  exact Ji
 by_cases Hp:x.op=12
 ·have b31:(x.op == 31)=false:=by rw [lx108]; exact a31
  have b12:(x.op == 12)=true:=by rw [lx86]; exact Hp
  by_cases ho1:(B5 x.op).1≤h
  rotate_left
  ·have o1:decide ((B5 x.op).1≤h)=false:=by rw [Cy]; exact ho1
   have e:=hbad (q:=True) (fun hk=>ho1 hk.1)
   refine Cb ?_
   exact Oy (a25 c1 w1 c3 c4 hp c6 hx c7 c8 c9 c10 hh e1 w2 w3 hA b31 b12 o1 e @BU @Ai @Dv @AU @AO)
   all_goals done
  have o1:decide ((B5 x.op).1≤h)=true:=WO
  have ho:LK x h:=⟨ho1,fun hk=>absurd hk a31⟩
  have hef:=Bh8 _ Hp
  have hs0:=Aw (j:=x.a) (h':=A) ho (by simp [Cz,a31,Hp]; omega)
  have E0:=Abt x.a A ⟨hs,ws,m,v⟩ ⟨true,0,36,7,[CI c],false⟩ ⟨true,cn,102,2,[Gd x],false⟩ 1 2 v3 (cn+1) hs0.2.1 (by simp only; omega) (by simp only; omega) (by simp only; omega)
  obtain ⟨k1,k2⟩:=hinv hP hs0.1 hs0.2.1 hs0.2.2 (cn+1)
  obtain ⟨⟨b,r0⟩,Kp⟩:∃ y,Dh ⟨hs,ws,m,v⟩ x.a A (cn+1)=y:=⟨_,rfl⟩
  rw [Kp] at E0 k1 k2
  simp only [O5,Ai,BU] at E0
  simp only at k1 k2
  cases b with
  | false=>
   have e:=k1 rfl
   clear k1 k2 ih fin hinv
   refine Cb ?_
   exact Oy (a25 c1 w1 c3 c4 hp c6 hx c7 c8 c9 c10 hh e1 w2 w3 hA b31 b12 o1 E0 e @BU @Ai @AU @AO)
   all_goals done
  | true=>
  obtain ⟨g10,g20,g30,g40,g50⟩:=k2 rfl
  clear k1 k2
  have hI2:=fin _ g10 g40 ho (fun j h' hj=>by
   simp [Cz,a31,Hp] at hj
   obtain ⟨rfl,hj2⟩:=hj
   exact ⟨g20,by rw [g30]; omega⟩)
  have ih:=fun c=>ih r0 c hI2 (by omega)
  clear fin hinv
  refine Cb ?_
  refine Pb (a24 c1 w1 c3 c4 hp c6 hx c7 c8 c9 c10 hh e1 w2 w3 hA b31 b12 o1 E0 @BU @Ai @AU @AO) ?_
  exact Ji
 by_cases Jl:x.op=13
 ·have b31:(x.op == 31)=false:=by rw [lx108]; exact a31
  have b12:(x.op == 12)=false:=by rw [lx108]; exact Hp
  have b13:(x.op == 13)=true:=by rw [lx86]; exact Jl
  by_cases ho1:(B5 x.op).1≤h
  rotate_left
  ·have o1:decide ((B5 x.op).1≤h)=false:=by rw [Cy]; exact ho1
   have e:=hbad (q:=True) (fun hk=>ho1 hk.1)
   refine Cb ?_
   exact Oy (a26 c1 w1 c3 c4 hp c6 hx c7 c8 c9 c10 hh e1 w2 w3 hA b31 b12 b13 o1 e @BU @Ai @Dv @AU @AO)
   all_goals done
  have o1:decide ((B5 x.op).1≤h)=true:=WO
  have ho:LK x h:=⟨ho1,fun hk=>absurd hk a31⟩
  have hef:=Ax0 _ Jl
  have hs0:=Aw (j:=((p:Int)+1)) (h':=A) ho (by simp [Cz,a31,Hp,Jl]; omega)
  have hs1:=Aw (j:=x.a) (h':=A) ho (by simp [Cz,a31,Hp,Jl]; omega)
  have E0:=Abt ((p:Int)+1) A ⟨hs,ws,m,v⟩ ⟨true,0,36,7,[CI c],false⟩ ⟨true,cn,102,2,[Gd x],false⟩ 1 2 v3 (cn+1) hs0.2.1 (by simp only; omega) (by simp only; omega) (by simp only; omega)
  obtain ⟨k1,k2⟩:=hinv hP hs0.1 hs0.2.1 hs0.2.2 (cn+1)
  obtain ⟨⟨b,r0⟩,Kp⟩:∃ y,Dh ⟨hs,ws,m,v⟩ ((p:Int)+1) A (cn+1)=y:=⟨_,rfl⟩
  rw [Kp] at E0 k1 k2
  simp only [O5,Ai,BU] at E0
  simp only at k1 k2
  cases b with
  | false=>
   have e:=k1 rfl
   clear k1 k2 ih fin hinv
   refine Cb ?_
   exact Oy (a28 c1 w1 c3 c4 hp c6 hx c7 c8 c9 c10 hh e1 w2 w3 hA b31 b12 b13 o1 w4 E0 e @BU @Ai @Dv @AU @AO)
   all_goals done
  | true=>
  obtain ⟨g10,g20,g30,g40,g50⟩:=k2 rfl
  clear k1 k2
  have E1:=Abt x.a A r0 ⟨true,0,36,7,[CI c],false⟩ ⟨true,cn,102,2,[Gd x],false⟩ 1 2 v3 (cn+3) hs1.2.1 g10.nle (by have:=g10.mea; omega) (by have:=g10.len; omega)
  obtain ⟨k1,k2⟩:=hinv g10 hs1.1 hs1.2.1 hs1.2.2 (cn+3)
  obtain ⟨⟨b,r1⟩,hr1⟩:∃ y,Dh r0 x.a A (cn+3)=y:=⟨_,rfl⟩
  rw [hr1] at E1 k1 k2
  simp only [O5,Ai,BU] at E1
  simp only at k1 k2
  cases b with
  | false=>
   have e:=k1 rfl
   clear k1 k2 ih fin hinv
   refine Cb ?_
   exact Oy (a28 c1 w1 c3 c4 hp c6 hx c7 c8 c9 c10 hh e1 w2 w3 hA b31 b12 b13 o1 w4 E0 E1 e @BU @Ai @AU @AO)
   all_goals done
  | true=>
  obtain ⟨g11,g21,g31,g41,g51⟩:=k2 rfl
  clear k1 k2
  have hI2:=fin _ g11 (fun j h0 h1=>by rw [g41 j h0 (by rw [g40 j h0 h1]; exact h1),g40 j h0 h1]) ho (fun j h' hj=>by
   simp [Cz,a31,Hp,Jl] at hj
   rcases hj with ⟨rfl,hj2⟩ | ⟨rfl,hj2⟩
   ·exact ⟨g20,by rw [g41 _ (by omega) (by rw [g30]; exact hs0.2.2),g30]; omega⟩
   ·exact ⟨g21,by rw [g31]; omega⟩)
  have ih:=fun c=>ih r1 c hI2 (by omega)
  clear fin hinv
  refine Cb ?_
  refine Pb (a27 c1 w1 c3 c4 hp c6 hx c7 c8 c9 c10 hh e1 w2 w3 hA b31 b12 b13 o1 w4 E0 E1 @BU @Ai @AU @AO) ?_
  exact Ji
 by_cases Pf:x.op=14
 ·have b31:(x.op == 31)=false:=by rw [lx108]; exact a31
  have b12:(x.op == 12)=false:=by rw [lx108]; exact Hp
  have b13:(x.op == 13)=false:=by rw [lx108]; exact Jl
  have b14:(x.op == 14)=true:=by rw [lx86]; exact Pf
  by_cases ho1:(B5 x.op).1≤h
  rotate_left
  ·exact Bci
  have o1:decide ((B5 x.op).1≤h)=true:=WO
  have ho:LK x h:=⟨ho1,fun hk=>absurd hk a31⟩
  have hef:=Awz _ Pf
  have hs0:=Aw (j:=((p:Int)+1)) (h':=A) ho (by simp [Cz,a31,Hp,Jl,Pf]; omega)
  have hs1:=Aw (j:=x.a) (h':=(A - 1)) ho (by simp [Cz,a31,Hp,Jl,Pf]; omega)
  have E0:=Abt ((p:Int)+1) A ⟨hs,ws,m,v⟩ ⟨true,0,36,7,[CI c],false⟩ ⟨true,cn,102,2,[Gd x],false⟩ 1 2 v3 (cn+1) hs0.2.1 (by simp only; omega) (by simp only; omega) (by simp only; omega)
  obtain ⟨k1,k2⟩:=hinv hP hs0.1 hs0.2.1 hs0.2.2 (cn+1)
  obtain ⟨⟨b,r0⟩,Kp⟩:∃ y,Dh ⟨hs,ws,m,v⟩ ((p:Int)+1) A (cn+1)=y:=⟨_,rfl⟩
  rw [Kp] at E0 k1 k2
  simp only [O5,Ai,BU] at E0
  simp only at k1 k2
  cases b with
  | false=>
   have e:=k1 rfl
   clear k1 k2 ih fin hinv
   refine Cb ?_
   exact Oy (a29 c1 w1 c3 c4 hp c6 hx c7 c8 c9 c10 hh e1 w2 w3 hA b31 b12 b13 b14 o1 w4 E0 e @BU @Ai @Dv @AU @AO)
   all_goals done
  | true=>
  obtain ⟨g10,g20,g30,g40,g50⟩:=k2 rfl
  clear k1 k2
  have E1:=Abt x.a (A - 1) r0 ⟨true,0,36,7,[CI c],false⟩ ⟨true,cn,102,2,[Gd x],false⟩ 1 2 v3 (cn+3) hs1.2.1 g10.nle (by have:=g10.mea; omega) (by have:=g10.len; omega)
  obtain ⟨k1,k2⟩:=hinv g10 hs1.1 hs1.2.1 hs1.2.2 (cn+3)
  obtain ⟨⟨b,r1⟩,hr1⟩:∃ y,Dh r0 x.a (A - 1) (cn+3)=y:=⟨_,rfl⟩
  rw [hr1] at E1 k1 k2
  simp only [O5,Ai,BU] at E1
  simp only at k1 k2
  cases b with
  | false=>
   have e:=k1 rfl
   clear k1 k2 ih fin hinv
   refine Cb ?_
   exact Oy (a30 c1 w1 c3 c4 hp c6 hx c7 c8 c9 c10 hh e1 w2 w3 hA b31 b12 b13 b14 o1 w4 w5 E0 E1 e @BU @Ai @AU @AO)
   all_goals done
  | true=>
  obtain ⟨g11,g21,g31,g41,g51⟩:=k2 rfl
  clear k1 k2
  have hI2:=fin _ g11 (fun j h0 h1=>by rw [g41 j h0 (by rw [g40 j h0 h1]; exact h1),g40 j h0 h1]) ho (fun j h' hj=>by
   simp [Cz,a31,Hp,Jl,Pf] at hj
   rcases hj with ⟨rfl,hj2⟩ | ⟨rfl,hj2⟩
   ·exact ⟨g20,by rw [g41 _ (by omega) (by rw [g30]; exact hs0.2.2),g30]; omega⟩
   ·exact ⟨g21,by rw [g31]; omega⟩)
  have ih:=fun c=>ih r1 c hI2 (by omega)
  clear fin hinv
  refine Cb ?_
  refine Pb (a29 c1 w1 c3 c4 hp c6 hx c7 c8 c9 c10 hh e1 w2 w3 hA b31 b12 b13 b14 o1 w4 w5 E0 E1 @BU @Ai @AU @AO) ?_
  exact Ji
 have b31:(x.op == 31)=false:=by rw [lx108]; exact a31
 have b12:(x.op == 12)=false:=by rw [lx108]; exact Hp
 have b13:(x.op == 13)=false:=by rw [lx108]; exact Jl
 have b14:(x.op == 14)=false:=by rw [lx108]; exact Pf
 by_cases ho1:(B5 x.op).1≤h
 rotate_left
 ·exact Bci
 have o1:decide ((B5 x.op).1≤h)=true:=WO
 have ho:LK x h:=⟨ho1,fun hk=>absurd hk a31⟩
 have hs0:=Aw (j:=((p:Int)+1)) (h':=A) ho (by simp [Cz,a31,Hp,Jl,Pf]; omega)
 have E0:=Abt ((p:Int)+1) A ⟨hs,ws,m,v⟩ ⟨true,0,36,7,[CI c],false⟩ ⟨true,cn,102,2,[Gd x],false⟩ 1 2 v3 (cn+1) hs0.2.1 (by simp only; omega) (by simp only; omega) (by simp only; omega)
 obtain ⟨k1,k2⟩:=hinv hP hs0.1 hs0.2.1 hs0.2.2 (cn+1)
 obtain ⟨⟨b,r0⟩,Kp⟩:∃ y,Dh ⟨hs,ws,m,v⟩ ((p:Int)+1) A (cn+1)=y:=⟨_,rfl⟩
 rw [Kp] at E0 k1 k2
 simp only [O5,Ai,BU] at E0
 simp only at k1 k2
 cases b with
 | false=>
  have e:=k1 rfl
  clear k1 k2 ih fin hinv
  refine Cb ?_
  exact Oy (a28 c1 w1 c3 c4 hp c6 hx c7 c8 c9 c10 hh e1 w2 w3 hA b31 b12 b13 b14 o1 w4 E0 e @BU @Ai @AU @AO)
  all_goals done
 | true=>
 obtain ⟨g10,g20,g30,g40,g50⟩:=k2 rfl
 clear k1 k2
 have hI2:=fin _ g10 g40 ho (fun j h' hj=>by
  simp [Cz,a31,Hp,Jl,Pf] at hj
  obtain ⟨rfl,hj2⟩:=hj
  exact ⟨g20,by rw [g30]; omega⟩)
 have ih:=fun c=>ih r0 c hI2 (by omega)
 clear fin hinv
 refine Cb ?_
 refine Pb (a27 c1 w1 c3 c4 hp c6 hx c7 c8 c9 c10 hh e1 w2 w3 hA b31 b12 b13 b14 o1 w4 E0 @BU @Ai @AU @AO) ?_
 exact Ji
structure HJ (c:Cd) (k:Nat) (hs:List Int) (td:List (Int × Int)):Prop where
 len:hs.length=c.ins.length
 mea:3 * Tc hs+td.length≤3 * c.ins.length+k
 mark:∀ i:Int,0≤i→i < c.ins.length→0≤E5 hs i→Rch c i (E5 hs i)∧E5 hs i≤48∧LK (AI c i) (E5 hs i)
 wait:∀ x ∈ td,Rch c x.1 x.2∧0≤x.1∧0≤x.2
 ents:∀ j,j < k→((c.ens.getD j default).pc,0) ∈ td∨(c.ens.getD j default).pc < c.ins.length∧E5 hs (c.ens.getD j default).pc=0
 clos:∀ i:Int,0≤i→i < c.ins.length→0≤E5 hs i→∀ j h',(j,h') ∈ Cz (AI c i) i (E5 hs i)→(j,h') ∈ td∨j < c.ins.length∧E5 hs j=h'
end Go.Proofs.YtdjpkhjaibdogaaGreat
