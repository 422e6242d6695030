/-
  Lemmas towards ModesHandles (joined texts: BH, BI, BK, BL).
  Conditions: none.
-/
import Derived.Test.YtdjpkhjaibdogaaGreatM01
import Derived.Test.YtdjpkhjaibdogaaGreatM02
import Derived.Test.YtdjpkhjaibdogaaGreatM24
import Derived.Test.YtdjpkhjaibdogaaGreatM18
set_option linter.unusedSimpArgs false
set_option linter.unusedVariables false
set_option maxRecDepth 100000
set_option maxHeartbeats 8000000
namespace Go.Proofs.YtdjpkhjaibdogaaGreat
open Go Go.SX
attribute [local congr] ite_congr
structure Rc where
 hs:List Int
 ws:List Int
 n:Nat
 v:Nat
def DL (r:Rc) (i h:Int) (cnt:Nat):Bool × Rc:=
 if i < r.hs.length∧h≤48∧¬ (0≤Eb r.hs i∧Eb r.hs i≠h) then
  if Eb r.hs i < 0 then (true,⟨r.hs.set i.toNat h,r.ws.take r.n++[i],r.n+1,cnt+1⟩) else (true,r)
 else (false,r)
def Oa (b0 e:Blk) (v1 v2 v3:Nat) (r:Rc):List Blk:=
 [b0,⟨true,v1,3,1,r.hs.map (kA .i64),false⟩,⟨true,v2,34,1,[.sl 1 v1 0 r.hs.length],false⟩,⟨true,v3,34,1,[.sl 4 r.v 0 r.n],false⟩,⟨true,r.v,3,1,r.ws.map (kA .i64),false⟩,e]
theorem Yk {hs:List Int} {i:Nat}:Eb hs (i:Int)=hs.getD i (-1):=by simp [Eb]
theorem QJ {hs:List Int} {i:Nat} (h:i < hs.length) (d:Int):hs.getD i default=hs.getD i d:=by
 rw [lx80,lx80,lx51 h]; rfl
theorem Yl (i h:Int) (r:Rc) (b0 e:Blk) (v1 v2 v3 cnt:Nat) (hi:0≤i) (hn:r.n≤r.ws.length) (hl:r.n≤1000000) (hl2:r.hs.length≤1000000):
  HSpec Tryz.prog 196 [.sc (.int .i64 i),.sc (.int .i64 h),.pt 2 v2 0 0,.pt 3 v3 0 0] (Oa b0 e v1 v2 v3 r) cnt (.sc (.bool (DL r i h cnt).1)) (Oa b0 e v1 v2 v3 (DL r i h cnt).2) (cnt+2):=by
 obtain ⟨hs,ws,n,v⟩:=r
 simp only at hn hl hl2
 obtain ⟨k,rfl⟩:∃ k:Nat,i=(k:Int):=⟨i.toNat,by omega⟩
 refine Ag (Aj (lit:=false) (pm:=fun _=>none) .nil .nil .nil .nil) rfl Tryz.func196 rfl (by decide) (by kernel_rfl) ?_
 simp only [Tryz.f196,Af,lx53,lx63,Nat.reduceAdd,Nat.reduceSub,List.replicate]
 unfold Oa
 simp only
 by_cases c1:k < hs.length
 rotate_left
 ·have h1:decide ((hs.length:Int)≤(k:Int))=true:=by rw [AR]; omega
  have e1:DL ⟨hs,ws,n,v⟩ k h cnt=(false,⟨hs,ws,n,v⟩):=by
   rw [DL,if_neg]; intro hh; have:=hh.1; simp only at this; omega
  rw [e1]
  refine Ab ?_
  refine IX h1 ?_
  all_goals exact XC
 have h1:decide ((hs.length:Int)≤(k:Int))=false:=HY
 by_cases c2:h≤48
 rotate_left
 ·have h2:decide ((48:Int) < h)=true:=by rw [AR]; omega
  have e1:DL ⟨hs,ws,n,v⟩ k h cnt=(false,⟨hs,ws,n,v⟩):=by
   rw [DL,if_neg]; intro hh; exact c2 hh.2.1
  rw [e1]
  refine Ab ?_
  refine IX (a2 h1 h2) ?_
  all_goals exact XC
 have h2:decide ((48:Int) < h)=false:=HY
 have g1:decide ((0:Int)≤(k:Int))=true:=Ae
 have g2:decide ((k:Int) < (hs.length:Int))=true:=Ae
 have g3:decide (k < hs.length)=true:=Ae
 obtain ⟨x,hx⟩:∃ x,hs.getD k default=x:=⟨_,rfl⟩
 have hx':Eb hs k=x:=by rw [Yk,←hx,QJ c1]
 by_cases c3:0≤x
 ·have h3:decide ((0:Int)≤x)=true:=by rw [AR]; exact c3
  by_cases c4:x=h
  ·have h4:(x != h)=false:=by simp [c4]
   have h5:decide (x < (0:Int))=false:=HY
   have e1:DL ⟨hs,ws,n,v⟩ k h cnt=(true,⟨hs,ws,n,v⟩):=by
    rw [DL,if_pos,if_neg]
    ·simp only [hx']; omega
    ·simp only [hx']; refine ⟨by omega,c2,by omega⟩
   rw [e1]
   refine Ab ?_
   refine IX (a9 h1 h2 g2 g3 hx h3 h4 h5 @Ax) ?_
   all_goals exact XC
  ·have h4:(x != h)=true:=by simpa using c4
   have e1:DL ⟨hs,ws,n,v⟩ k h cnt=(false,⟨hs,ws,n,v⟩):=by
    rw [DL,if_neg]; simp only [hx']; omega
   rw [e1]
   refine Ab ?_
   refine IX (a8 h1 h2 g2 g3 hx h3 h4 @Ax) ?_
   all_goals exact XC
 ·have h3:decide ((0:Int)≤x)=false:=by rw [Bz]; exact c3
  have h5:decide (x < (0:Int))=true:=Ae
  have e1:DL ⟨hs,ws,n,v⟩ k h cnt=(true,⟨hs.set k h,ws.take n++[(k:Int)],n+1,cnt+1⟩):=by
   rw [DL,if_pos,if_pos]
   ·simp
   ·simp only [hx']; omega
   ·simp only [hx']; refine ⟨by omega,c2,by omega⟩
  rw [e1]
  have ht:List.take n (ws.map (kA .i64))=(ws.take n).map (kA .i64):=by rw [List.map_take]
  have hsz:decide ((n+1) * 8≤140737488355328)=true:=Ae
  have hm:(hs.map (kA .i64)).set k (AV.sc (.int .i64 h))=(hs.set k h).map (kA .i64):=Rp
  have ha:(ws.take n).map (kA .i64)++[AV.sc (.int .i64 (k:Int))]=(ws.take n++[(k:Int)]).map (kA .i64):=Rq
  refine Ab ?_
  exact Ir (G0 h1 h2 g2 g3 hx h3 h5 ht hsz hm ha @Ax)
  all_goals exact XC
end Go.Proofs.YtdjpkhjaibdogaaGreat
namespace Go.Proofs.YtdjpkhjaibdogaaGreat
open Go Go.SX
def Nl (hs:List Int):Nat:=(hs.filter (fun x=>decide (x < 0))).length
theorem Abb (hs:List Int):Nl hs≤hs.length:=lx86 _ _
theorem QK:∀ {hs:List Int} {k:Nat} {h:Int},k < hs.length→hs.getD k (-1) < 0→0≤h→Nl (hs.set k h)+1=Nl hs
 | [],k,h,hk,_,_=>by simp at hk
 | x::hs,0,h,_,hx,hh=>by
  simp at hx
  unfold Nl
  rw [lx117,List.filter_cons_of_neg (by simp; omega),List.filter_cons_of_pos (by simp; omega)]
  simp
 | x::hs,k+1,h,hk,hx,hh=>by
  have ih:=QK (hs:=hs) (k:=k) (h:=h) (by simpa using hk) (by simpa using hx) hh
  unfold Nl at ih ⊢
  rw [lx11]
  by_cases c:x < 0
  ·rw [List.filter_cons_of_pos (by simpa using c),List.filter_cons_of_pos (by simpa using c)]
   simp only [lx53]; omega
  ·rw [List.filter_cons_of_neg (by simpa using c),List.filter_cons_of_neg (by simpa using c)]
   exact ih
theorem Abc {hs:List Int} {i j h:Int} (hi:0≤i) (hi':i < hs.length) (hj:0≤j):Eb (hs.set i.toNat h) j=if j=i then h else Eb hs j:=by
 unfold Eb
 rw [lx80,lx80,lx21]
 by_cases c:j=i
 ·subst c
  rw [if_pos rfl,if_pos (by omega),if_pos rfl]; rfl
 ·rw [if_neg (by omega),if_neg c]
def Clo (c:Cd) (hs:List Int) (i:Int):Prop:=Kj (AD c i) (Eb hs i)∧∀ j h',(j,h') ∈ BR (AD c i) i (Eb hs i)→j < c.ins.length∧Eb hs j=h'
structure HI (c:Cd) (k:Nat) (ex:Int) (r:Rc):Prop where
 len:r.hs.length=c.ins.length
 nle:r.n≤r.ws.length
 mea:2 * Nl r.hs+r.n≤2 * c.ins.length
 mark:∀ i:Int,0≤i→i < c.ins.length→0≤Eb r.hs i→Rch c i (Eb r.hs i)∧Eb r.hs i≤48
 wait:∀ x ∈ r.ws.take r.n,0≤x∧x < c.ins.length∧0≤Eb r.hs x
 ents:∀ j,j < k→(c.ens.getD j default).pc < c.ins.length∧Eb r.hs (c.ens.getD j default).pc=0
 clos:∀ i:Int,0≤i→i < c.ins.length→0≤Eb r.hs i→i ∈ r.ws.take r.n∨i=ex∨Clo c r.hs i
theorem Aih {c:Cd} (hl:Lead c) {hs hs':List Int} (hp:∀ j:Int,0≤j→0≤Eb hs j→Eb hs' j=Eb hs j) {i:Int} (hi:0≤i) (hi':i < c.ins.length) (h0:0≤Eb hs i) (h:Clo c hs i):Clo c hs' i:=by
 have e:=hp i hi h0
 refine ⟨by rw [e]; exact h.1,fun j h' hj=>?_⟩
 rw [e] at hj
 obtain ⟨g1,g2⟩:=h.2 j h' hj
 have h1:=IQ h.1 hj
 have h2:=Kk hl hi hi' hj
 exact ⟨g1,by rw [hp j h2 (by rw [g2]; exact h1),g2]⟩
theorem SG {c:Cd} (hl:Lead c) {k:Nat} {ex:Int} {r:Rc} (hi:HI c k ex r) {i h:Int} (hr:Rch c i h) (h0:0≤i) (hh:0≤h) (cnt:Nat):
  ((DL r i h cnt).1=false→IP c=false)∧((DL r i h cnt).1=true→HI c k ex (DL r i h cnt).2∧i < c.ins.length∧Eb (DL r i h cnt).2.hs i=h∧
   (∀ j:Int,0≤j→0≤Eb r.hs j→Eb (DL r i h cnt).2.hs j=Eb r.hs j)∧2 * Nl (DL r i h cnt).2.hs+(DL r i h cnt).2.n≤2 * Nl r.hs+r.n):=by
 have hlen:=hi.len
 by_cases c1:i < c.ins.length
 rotate_left
 ·have e:DL r i h cnt=(false,r):=by rw [DL,if_neg]; intro hc; rw [hlen] at hc; exact c1 hc.1
  rw [e]
  exact ⟨fun _=>Ab8 hr c1,fun h=>by cases h⟩
 by_cases c2:h≤48
 rotate_left
 ·have e:DL r i h cnt=(false,r):=by rw [DL,if_neg]; intro hc; exact c2 hc.2.1
  rw [e]
  exact ⟨fun _=>W4 hr c2,fun h=>by cases h⟩
 by_cases c3:0≤Eb r.hs i
 ·by_cases c4:Eb r.hs i=h
  ·have e:DL r i h cnt=(true,r):=by
    rw [DL,if_pos,if_neg]
    ·omega
    ·rw [hlen]; exact ⟨c1,c2,fun hc=>hc.2 c4⟩
   rw [e]
   exact ⟨fun h=>(by cases h),fun _=>⟨hi,c1,c4,fun j _ _=>rfl,Aw _⟩⟩
  ·have e:DL r i h cnt=(false,r):=by rw [DL,if_neg]; intro hc; exact hc.2.2 ⟨c3,c4⟩
   rw [e]
   exact ⟨fun _=>Ab9 hr (hi.mark i h0 c1 c3).1 (fun h=>c4 h.symm),fun h=>by cases h⟩
 ·have hi2:i < r.hs.length:=by rw [hlen]; exact c1
  have e:DL r i h cnt=(true,⟨r.hs.set i.toNat h,r.ws.take r.n++[i],r.n+1,cnt+1⟩):=by
   rw [DL,if_pos,if_pos]
   ·omega
   ·rw [hlen]; exact ⟨c1,c2,fun hc=>c3 hc.1⟩
  have hs':∀ j:Int,0≤j→Eb (r.hs.set i.toNat h) j=if j=i then h else Eb r.hs j:=fun j hj=>Abc h0 hi2 hj
  have hp:∀ j:Int,0≤j→0≤Eb r.hs j→Eb (r.hs.set i.toNat h) j=Eb r.hs j:=fun j hj h1=>by
   rw [hs' j hj,if_neg]; rintro rfl; exact c3 h1
  have hneg:=QK (hs:=r.hs) (k:=i.toNat) (h:=h) (by omega) (by unfold Eb at c3; omega) hh
  have htk:(r.ws.take r.n++[i]).take (r.n+1)=r.ws.take r.n++[i]:=lx118 (by simp; omega)
  have hmea:=hi.mea
  rw [e]
  refine ⟨fun h=>(by cases h),fun _=>⟨⟨?_,?_,?_,?_,?_,?_,?_⟩,c1,?_,hp,?_⟩⟩
  ·simp [hlen]
  ·have:=hi.nle; simp; omega
  ·simp only; omega
  ·intro j hj hj' hj2
   simp only at hj2 ⊢
   rw [hs' j hj] at hj2 ⊢
   split
   ·rename_i hji; subst hji; exact ⟨hr,c2⟩
   ·rename_i hji
    rw [if_neg hji] at hj2
    exact hi.mark j hj hj' hj2
  ·intro x hx
   simp only [htk] at hx
   rcases lx76.1 hx with hx | hx
   ·obtain ⟨g1,g2,g3⟩:=hi.wait x hx
    exact ⟨g1,g2,by rw [hp x g1 g3]; exact g3⟩
   ·simp only [lx70] at hx
    subst hx
    exact ⟨h0,c1,by rw [hs' x h0,if_pos rfl]; exact hh⟩
  ·intro j hj
   obtain ⟨g1,g2⟩:=hi.ents j hj
   refine ⟨g1,?_⟩
   simp only
   by_cases hm:(c.ens.getD j default).pc < 0
   ·by_cases hj2:j < c.ens.length
    ·have:=hl.ent _ (Cf hj2); omega
    ·rw [lx80,lx30 (by omega)] at hm
     simp [default,instInhabitedEn] at hm
   ·rw [hp _ (by omega) (by rw [g2]; omega),g2]
  ·intro j hj hj' hj2
   simp only [htk] at hj2 ⊢
   by_cases hji:j=i
   ·exact .inl (List.mem_append_right _ (lx70.2 hji))
   ·rw [hs' j hj,if_neg hji] at hj2
    rcases hi.clos j hj hj' hj2 with h1 | h1 | h1
    ·exact .inl (lx77 _ h1)
    ·exact .inr (.inl h1)
    ·exact .inr (.inr (Aih hl hp hj hj' hj2 h1))
  ·simp only; rw [hs' i h0,if_pos rfl]
  ·simp only; omega
theorem Aii (c:Cd) (v:Nat):HI c 0 (-1) ⟨List.replicate c.ins.length (-1),[],0,v⟩:=by
 have hm:∀ i:Int,Eb (List.replicate c.ins.length (-1)) i=-1:=fun i=>by
  exact Aoc
 refine ⟨by simp,Aw _,?_,fun i _ _ h=>?_,fun x hx=>by simp at hx,fun j hj=>by omega,fun i _ _ h=>?_⟩
 ·have:=Abb (List.replicate c.ins.length (-1)); simp at this; simp only; omega
 ·simp only [hm] at h; omega
 ·simp only [hm] at h; omega
theorem Atw {c:Cd} {k:Nat} {r:Rc} (h:HI c k (-1) r) (hk:k < c.ens.length) (h1:(c.ens.getD k default).pc < c.ins.length∧Eb r.hs (c.ens.getD k default).pc=0):HI c (k+1) (-1) r:=
 ⟨h.len,h.nle,h.mea,h.mark,h.wait,fun j hj=>by
  rcases Ec j k with h' | h'
  ·exact h.ents j h'
  ·obtain rfl:j=k:=by omega
   exact h1,h.clos⟩
theorem Atx {c:Cd} {k n:Nat} {r:Rc} (h:HI c k (-1) r) (hn:r.n=n+1):HI c k (r.ws.getD n default) ⟨r.hs,r.ws,n,r.v⟩∧0≤r.ws.getD n default∧r.ws.getD n default < c.ins.length∧0≤Eb r.hs (r.ws.getD n default):=by
 have hnl:=h.nle
 have hx:r.ws.getD n default=r.ws[n]'(by omega):=by rw [lx80,lx51 (by omega)]; rfl
 have ht:r.ws.take r.n=r.ws.take n++[r.ws.getD n default]:=by rw [hn,lx115 (by omega),hx]
 have hw:=h.wait (r.ws.getD n default) (by rw [ht]; exact List.mem_append_right _ (lx70.2 rfl))
 have hmea:=h.mea
 refine ⟨⟨h.len,by simp only; omega,by simp only; omega,h.mark,fun x hx'=>h.wait x (by rw [ht]; exact lx77 _ hx'),h.ents,fun i h0 h1 h2=>?_⟩,hw⟩
 rcases h.clos i h0 h1 h2 with h3 | h3 | h3
 ·rw [ht] at h3
  rcases lx76.1 h3 with h3 | h3
  ·exact .inl h3
  ·exact .inr (.inl (lx70.1 h3))
 ·omega
 ·exact .inr (.inr h3)
theorem Amb {c:Cd} {k:Nat} {ex:Int} {r:Rc} (h:HI c k ex r) (h1:Clo c r.hs ex):HI c k (-1) r:=
 ⟨h.len,h.nle,h.mea,h.mark,h.wait,h.ents,fun i h0 h2 h3=>by
  rcases h.clos i h0 h2 h3 with h4 | h4 | h4
  ·exact .inl h4
  ·exact .inr (.inr (by rw [h4]; exact h1))
  ·exact .inr (.inr h4)⟩
theorem Aty {c:Cd} (hl:Lead c) {r:Rc} (h:HI c c.ens.length (-1) r) (hn:r.n=0):IP c=true:=by
 refine SF (N9 (hs:=r.hs) (fun e he=>?_) (fun i h0 h1 h2=>?_) hl)
 ·obtain ⟨j,hj,rfl⟩:=lx69 he
  have:=h.ents j hj
  rwa [lx80,lx51 hj] at this
 ·obtain ⟨g1,g2⟩:=h.mark i h0 h1 h2
  rcases h.clos i h0 h1 h2 with h3 | h3 | h3
  ·rw [hn] at h3; simp at h3
  ·omega
  ·exact ⟨g2,h3.1,h3.2⟩
end Go.Proofs.YtdjpkhjaibdogaaGreat
namespace Go.Proofs.YtdjpkhjaibdogaaGreat
open Go Go.SX
attribute [local congr] ite_congr
theorem Ex (E:Env) (s:St) (d:Option Nat) (want:Bool) (args:List AV) (g:AV):Ps E s d want args g .un=gP s d want none g:=rfl
structure RcX where
 i:Int
 h:Int
 r:Rc
 b0:Blk
 e:Blk
 v1:Nat
 v2:Nat
 v3:Nat
 cnt:Nat
def rxQ (x:RcX):Prop:=0≤x.i∧x.r.n≤x.r.ws.length∧x.r.n≤1000000∧x.r.hs.length≤1000000
def rxE (x:RcX):List AV × List Blk × Nat:=([.sc (.int .i64 x.i),.sc (.int .i64 x.h),.pt 2 x.v2 0 0,.pt 3 x.v3 0 0],Oa x.b0 x.e x.v1 x.v2 x.v3 x.r,x.cnt)
noncomputable def rxO (x:RcX):AV × List Blk × Nat:=(.sc (.bool (DL x.r x.i x.h x.cnt).1),Oa x.b0 x.e x.v1 x.v2 x.v3 (DL x.r x.i x.h x.cnt).2,x.cnt+2)
theorem Amc {b0 e b0' e':Blk} {v1 v2 v3 v1' v2' v3':Nat} {r r':Rc} (h:Oa b0 e v1 v2 v3 r=Oa b0' e' v1' v2' v3' r'):b0=b0'∧e=e'∧v1=v1'∧v2=v2'∧v3=v3'∧r=r':=by
 obtain ⟨hs,ws,n,v⟩:=r
 obtain ⟨hs',ws',n',v'⟩:=r'
 simp only [Oa,lx96,Blk.mk.injEq,AV.sl.injEq,Az,Du,IM] at h
 obtain ⟨h1,⟨h2,h3⟩,⟨h4,h5⟩,⟨h6,h7,h8⟩,⟨h9,h10⟩,h11⟩:=h
 exact ⟨h1,h11,h2,h4,h6,by rw [h3,h8,h9,h10]⟩
noncomputable def f196:=Xz rxQ rxE rxO
theorem Ym (i h:Int) (r:Rc) (b0 e:Blk) (v1 v2 v3 cnt:Nat) (hi:0≤i) (hn:r.n≤r.ws.length) (hLd:r.n≤1000000) (hl2:r.hs.length≤1000000):
  f196 [.sc (.int .i64 i),.sc (.int .i64 h),.pt 2 v2 0 0,.pt 3 v3 0 0] (Oa b0 e v1 v2 v3 r) cnt=some (.sc (.bool (DL r i h cnt).1),Oa b0 e v1 v2 v3 (DL r i h cnt).2,cnt+2):=
 G5 (q:=rxQ) (enc:=rxE) (out:=rxO) ⟨i,h,r,b0,e,v1,v2,v3,cnt⟩ ⟨hi,hn,hLd,hl2⟩ (by
  rintro ⟨i',h',r',b0',e',v1',v2',v3',cnt'⟩ - he
  simp only [rxE,lx40,lx96,AV.sc.injEq,Value.int.injEq,AV.pt.injEq,Az,Du] at he
  obtain ⟨⟨a1,a2,a3,a4⟩,a5,a6⟩:=he
  obtain ⟨c1,c2,c3,c4,c5,c6⟩:=Amc a5
  subst a1 a2 c1 c2 c3 c4 c5 c6 a6
  rfl)
theorem Bay:M8 Tryz.prog 196 f196:=G6 fun x ⟨h1,h2,h3,h4⟩=>Yl x.i x.h x.r x.b0 x.e x.v1 x.v2 x.v3 x.cnt h1 h2 h3 h4
theorem Amd {n k:Nat} (h:k < n):(List.replicate k (-1:Int)++List.replicate (n - k) 0).set k (-1)=List.replicate (k+1) (-1)++List.replicate (n - (k+1)) 0:=by
 obtain ⟨m,rfl⟩:∃ m,n=k+(m+1):=⟨n - k - 1,by omega⟩
 have e1:k+(m+1) - k=m+1:=Ai
 have e2:k+(m+1) - (k+1)=m:=Ai
 rw [e1,e2,List.replicate_succ (n:=m),lx119 _ _ (by simp)]
 simp only [List.length_replicate,OV,lx117]
 rw [List.replicate_succ',lx4]; rfl
theorem TW (c:Cd) (hq:Fit c) (hLd:Lead c):C1 Tryz.prog 146 [Bv c] (.tu [.jk,bA (IP c)]):=by
 obtain ⟨q1,q2,q3,q4,q5,q6,q7,q8⟩:=hq
 have hq:Fit c:=⟨q1,q2,q3,q4,q5,q6,q7,q8⟩
 refine BO (Aj (lit:=false) (pm:=fun _=>none) (.cons Bag .nil) .nil .nil (.cons Bay .nil)) rfl Tryz.func146 rfl (by decide) (by kernel_rfl) (by simp [bA,AV.noref,norefs]) ?_
 simp only [Tryz.f146,Af,lx53,lx63,Nat.reduceAdd,Nat.reduceSub,List.replicate]
 have hsz:decide ((c.ins.length:Int) * 8≤140737488355328)=true:=Ae
 have hsz2:decide ((c.ins.length:Int)≤(c.ins.length:Int))=true:=Ae
 have g0:decide ((0:Int)≤(c.ins.length:Int))=true:=Ae
 refine Ab ?_
 refine IX (a3 hsz hsz2 @Aa) ?_
 obtain ⟨n,hn⟩:∃ n,c.ins.length=n:=⟨_,rfl⟩
 simp only [hn] at hsz hsz2 g0 q1 ⊢
 refine Am (σ:=Nat) (fun k cnt=>⟨Bm 0 150 [(1,.pt 0 0 0 0),(4,.pt 2 2 0 0),(20,.sl 1 1 0 n),(21,.sc (.int .i64 n)),(22,.sc (.int .i64 k))],
   [⟨true,0,36,7,[Bv c],false⟩,⟨true,1,3,1,(List.replicate k (-1)++List.replicate (n - k) 0).map (kA .i64),false⟩,⟨true,2,34,1,[.sl 1 1 0 n],false⟩],cnt⟩)
  (fun k=>k≤n) (fun k=>n - k) 0 (BT _) ?_ ?_ rfl ?_
 ·exact F4
 ·simp (maxSteps:=10000000) only [AX,AW,AA,Aa,List.map_replicate]
 rintro k cnt hk ih
 by_cases hk':k < n
 ·exact Avr
 obtain rfl:k=n:=Ai
 clear ih hk hk' hsz hsz2 g0
 have h1:decide ((k:Int) < (k:Int))=false:=Bc
 rw [OV,List.replicate_zero,lx66]
 obtain ⟨R,hR⟩:∃ R,List.replicate k (-1:Int)=R:=⟨_,rfl⟩
 rw [hR]
 have hRl:R.length=k:=by rw [←hR]; simp
 refine Ac6 ?_
 refine E6 (cnt+1) 3 1 (cnt+2) (by omega) (by omega) (BP _ _ _) (H':=[⟨true,0,36,7,[Bv c],false⟩,⟨true,1,3,1,R.map (kA .i64),false⟩,⟨true,2,34,1,[.sl 1 1 0 k],false⟩,⟨true,cnt,34,1,[.sl 4 (cnt+1) 0 0],false⟩]) ?_ ?_
 ·refine ⟨.inl rfl,.inl rfl,.inl rfl,?_,trivial⟩
  refine Fp _ _ _ _ _ _ _ _ _ _ ⟨?_,trivial⟩
  exact .nil
 obtain ⟨v3,hv3⟩:∃ v3,cnt=v3:=⟨_,rfl⟩
 rw [hv3]
 refine Ac5 ?_
 have hst:=Aii c (v3+1)
 rw [hn,hR] at hst
 refine Am (σ:=Nat × Rc) (fun y cnt=>⟨Bm 0 150 [(1,.pt 0 0 0 0),(4,.pt 2 2 0 0),(6,.pt 3 v3 0 0),(7,.fn 196 [.pt 2 2 0 0,.pt 3 v3 0 0]),(31,.vw c.ze (c.ens.map D3)),(32,.sc (.int .i64 c.ens.length)),(33,.sc (.int .i64 y.1))],
   (Oa ⟨true,0,36,7,[Bv c],false⟩ dead 1 2 v3 y.2).take 5,cnt⟩)
  (fun y=>y.1≤c.ens.length∧HI c y.1 (-1) y.2) (fun y=>c.ens.length - y.1) (0,⟨R,[],0,v3+1⟩) ⟨BT _,hst⟩ ?_ ?_ rfl ?_
 ·exact F4
 ·simp only [Oa]
  simp (maxSteps:=10000000) only [AX,AW,Aa,hRl]
 clear hst hR hRl hn q1
 rintro ⟨j,r⟩ cn ⟨hj,hI⟩ ih
 simp only at hj hI
 have hbd:=hI.mea
 have hnl:=hI.nle
 have hle:=hI.len
 have hins:=hq.ins
 by_cases hj':j < c.ens.length
 ·have h1:decide ((j:Int) < (c.ens.length:Int))=true:=by rw [AR]; omega
  have h2:decide (j < c.ens.length)=true:=Ae
  have w1:IntKind.i64.wrap ((j:Int)+1)=((j+1:Nat):Int):=Ay
  have hm:=Cf hj'
  have hne:=fun r2 h=>Atw (r:=r2) (k:=j) (c:=c) h hj'
  obtain ⟨x,hx⟩:∃ x,c.ens.getD j default=x:=⟨_,rfl⟩
  rw [hx] at hm hne
  have hp:=hLd.ent x hm
  have E:=Ym x.pc 0 r ⟨true,0,36,7,[Bv c],false⟩ ⟨true,cn,99,4,[D3 x],false⟩ 1 2 v3 (cn+1) hp hnl (by omega) (by omega)
  obtain ⟨k1,k2⟩:=SG hLd hI (.ent hm) hp (Int.le_refl 0) (cn+1)
  obtain ⟨⟨b,r2⟩,hr2⟩:∃ y,DL r x.pc 0 (cn+1)=y:=⟨_,rfl⟩
  rw [hr2] at E k1 k2
  simp only [Oa,Aa,Bw] at E
  simp only at k1 k2
  refine Ab ?_
  simp only [Oa,lx92,lx42]
  cases b with
  | false=>
   have e:=k1 rfl
   refine BJ ?_
   exact Ir (a8 h1 h2 hx E e @Bw @Aa @Cq)
   all_goals done
  | true=>
   obtain ⟨g1,g2,g3,g4,g5⟩:=k2 rfl
   have ih:=fun c=>ih (j+1,r2) c ⟨by simp only; omega,hne r2 g1 ⟨g2,g3⟩⟩ (by simp only; omega)
   simp only [Oa,lx92,lx42] at ih
   refine BJ ?_
   refine IX (a8 h1 h2 hx E w1 @Bw @Aa @Cq) ?_
   exact Jw
 obtain rfl:j=c.ens.length:=Ai
 clear ih hj hj'
 have h1:decide ((c.ens.length:Int) < (c.ens.length:Int))=false:=Bc
 refine Ab ?_
 simp only [Oa,lx92,lx42]
 refine BJ ?_
 simp (maxSteps:=10000000) +contextual -implicitDefEqProofs only [AX,AW,St.put,↓reduceIte,CO,Aa,h1]
 refine Am (σ:=Rc) (fun y cnt=>⟨Bm 0 150 [(1,.pt 0 0 0 0),(4,.pt 2 2 0 0),(6,.pt 3 v3 0 0),(7,.fn 196 [.pt 2 2 0 0,.pt 3 v3 0 0])],
   (Oa ⟨true,0,36,7,[Bv c],false⟩ dead 1 2 v3 y).take 5,cnt⟩)
  (fun y=>HI c c.ens.length (-1) y) (fun y=>2 * Nl y.hs+y.n) r hI ?_ ?_ rfl ?_
 ·exact F4
 ·simp only [Oa]
  exact I1
 clear hI hbd hnl hle h1
 rintro r cn hI ih
 have hbd:=hI.mea
 have hnl:=hI.nle
 have hle:=hI.len
 refine Ab ?_
 by_cases IY:r.n=0
 ·have e:=Aty hLd hI IY
  have h1:decide ((0:Int) < ((0:Nat):Int))=false:=by decide
  obtain ⟨hs,ws,n,v⟩:=r
  simp only at IY
  subst IY
  simp only [Oa,lx92,lx42]
  exact Ap1
 obtain ⟨m,hm⟩:∃ m,r.n=m+1:=⟨r.n - 1,by omega⟩
 obtain ⟨hP,p0,p1,p2⟩:=Atx hI hm
 have hPm:=hP.mea
 obtain ⟨hs,ws,n,v⟩:=r
 simp only at hm hnl hle hbd hP p0 p1 p2 hPm ih
 subst hm
 obtain ⟨p,hp⟩:∃ p:Nat,ws.getD m default=(p:Int):=⟨(ws.getD m default).toNat,by omega⟩
 rw [hp] at hP p0 p1 p2
 have hR:=hP.mark p p0 p1 p2
 obtain ⟨x,hx⟩:∃ x,c.ins.getD p default=x:=⟨_,rfl⟩
 have hxi:AD c p=x:=by rw [AD,Ha]; exact hx
 obtain ⟨h,hh⟩:∃ h,hs.getD p default=h:=⟨_,rfl⟩
 have hh':Eb hs p=h:=by rw [Yk,←hh,QJ (by omega)]
 rw [hh'] at hR p2
 obtain ⟨hR,hR48⟩:=hR
 have hen:=LB x.op
 have e1:=Bfn x.op
 have hinv:=fun {ex} {r} (hI:HI c c.ens.length ex r) {i h} (hr:Rch c i h) h0 hh=>SG hLd hI (i:=i) (h:=h) hr h0 hh
 have hbad:∀ {q:Prop},¬ Kj x h→IP c=false:=fun hq'=>Yj hR (by rw [hxi]; exact hq')
 have AG:∀ {j h'},Kj x h→(j,h') ∈ BR x p h→Rch c j h'∧0≤j∧0≤h':=fun ho hj=>
  ⟨.step hR p1 (by rw [hxi]; exact ho) (by rw [hxi]; exact hj),Kk hLd p0 p1 (by rw [hxi]; exact hj),IQ ho hj⟩
 have c1:decide ((0:Int) < ((m+1:Nat):Int))=true:=Ae
 have w1:IntKind.i64.wrap (((m+1:Nat):Int) - 1)=(m:Int):=Ay
 have c2:decide ((0:Int)≤(m:Int))=true:=Ae
 have c3:decide ((m:Int) < ((m+1:Nat):Int))=true:=Ae
 have c9:decide ((m:Int)≤((m+1:Nat):Int))=true:=Ae
 have c10:decide ((p:Int) < (c.ins.length:Int))=true:=Ae
 have c4:decide (m < ws.length)=true:=Ae
 have c5:decide ((0:Int)≤(p:Int))=true:=Ae
 have c6:decide (p < c.ins.length)=true:=Ae
 have c7:decide ((p:Int) < (hs.length:Int))=true:=Ae
 have c8:decide (p < hs.length)=true:=Ae
 have w2:IntKind.i64.wrap (h - (Bn x.op).1)=h - (Bn x.op).1:=Nz
 have w3:IntKind.i64.wrap (h - (Bn x.op).1+(Bn x.op).2.1)=h - (Bn x.op).1+(Bn x.op).2.1:=Nz
 obtain ⟨A,hA⟩:∃ A,h - (Bn x.op).1+(Bn x.op).2.1=A:=⟨_,rfl⟩
 rw [hA] at w3
 have w4:IntKind.i64.wrap ((p:Int)+1)=(p:Int)+1:=Nz
 have w5:IntKind.i64.wrap (A - 1)=A - 1:=Nz
 have fin:∀ r2:Rc,HI c c.ens.length p r2→(∀ j:Int,0≤j→0≤Eb hs j→Eb r2.hs j=Eb hs j)→Kj x h→(∀ j h',(j,h') ∈ BR x p h→j < c.ins.length∧Eb r2.hs j=h')→HI c c.ens.length (-1) r2:=by
  intro r2 g1 g2 g3 g4
  have e:Eb r2.hs p=h:=by rw [g2 p p0 (by rw [hh']; exact p2),hh']
  refine Amb g1 ⟨?_,?_⟩
  ·rw [hxi,e]; exact g3
  ·rw [hxi,e]; exact g4
 simp only [Oa,lx92,lx42] at ih ⊢
 by_cases MR:x.op=31
 ·have b31:(x.op == 31)=true:=by rw [lx85]; exact MR
  by_cases ho1:(Bn x.op).1≤h
  rotate_left
  ·have o1:decide ((Bn x.op).1≤h)=false:=by rw [Bz]; exact ho1
   have e:=hbad (q:=True) (fun hk=>ho1 hk.1)
   refine BJ ?_
   exact Ir (a23 c1 w1 c3 c4 hp c6 hx c7 c8 c9 c10 hh e1 w2 w3 hA b31 o1 e @AK @Aa @AB @Ax)
   all_goals done
  have o1:decide ((Bn x.op).1≤h)=true:=Ux
  by_cases hz:h=0
  rotate_left
  ·have o2:(h == 0)=false:=by rw [lx113]; exact hz
   have e:=hbad (q:=True) (fun hk=>hz (hk.2 MR))
   refine BJ ?_
   exact Ir (a24 c1 w1 c3 c4 hp c6 hx c7 c8 c9 c10 hh e1 w2 w3 hA b31 o1 o2 e @AK @Aa @AB @Ax)
   all_goals done
  have o2:(h == 0)=true:=by rw [lx85]; exact hz
  have hI2:=fin _ hP (fun _ _ _=>rfl) ⟨ho1,fun _=>hz⟩ (fun j h' hj=>by simp [BR,MR] at hj)
  have ih:=fun c=>ih ⟨hs,ws,m,v⟩ c hI2 (by simp only; omega)
  simp only at ih
  refine BJ ?_
  refine IX (a23 c1 w1 c3 c4 hp c6 hx c7 c8 c9 c10 hh e1 w2 w3 hA b31 o1 o2 @AK @Aa @AB @Ax) ?_
  exact Jw
 by_cases G0:x.op=12
 ·have b31:(x.op == 31)=false:=by rw [lx113]; exact MR
  have b12:(x.op == 12)=true:=by rw [lx85]; exact G0
  by_cases ho1:(Bn x.op).1≤h
  rotate_left
  ·have o1:decide ((Bn x.op).1≤h)=false:=by rw [Bz]; exact ho1
   have e:=hbad (q:=True) (fun hk=>ho1 hk.1)
   refine BJ ?_
   exact Ir (a25 c1 w1 c3 c4 hp c6 hx c7 c8 c9 c10 hh e1 w2 w3 hA b31 b12 o1 e @AK @Aa @Ex @AB @Ax)
   all_goals done
  have o1:decide ((Bn x.op).1≤h)=true:=Ux
  have ho:Kj x h:=⟨ho1,fun hk=>absurd hk MR⟩
  have hef:=Bax _ G0
  have hs0:=AG (j:=x.a) (h':=A) ho (by simp [BR,MR,G0]; omega)
  have E0:=Ym x.a A ⟨hs,ws,m,v⟩ ⟨true,0,36,7,[Bv c],false⟩ ⟨true,cn,102,2,[BY x],false⟩ 1 2 v3 (cn+1) hs0.2.1 (by simp only; omega) (by simp only; omega) (by simp only; omega)
  obtain ⟨k1,k2⟩:=hinv hP hs0.1 hs0.2.1 hs0.2.2 (cn+1)
  obtain ⟨⟨b,r0⟩,IY⟩:∃ y,DL ⟨hs,ws,m,v⟩ x.a A (cn+1)=y:=⟨_,rfl⟩
  rw [IY] at E0 k1 k2
  simp only [Oa,Aa,AK] at E0
  simp only at k1 k2
  cases b with
  | false=>
   have e:=k1 rfl
   clear k1 k2 ih fin hinv
   refine BJ ?_
   exact Ir (a25 c1 w1 c3 c4 hp c6 hx c7 c8 c9 c10 hh e1 w2 w3 hA b31 b12 o1 E0 e @AK @Aa @AB @Ax)
   all_goals done
  | true=>
  obtain ⟨g10,g20,g30,g40,g50⟩:=k2 rfl
  clear k1 k2
  have hI2:=fin _ g10 g40 ho (fun j h' hj=>by
   simp [BR,MR,G0] at hj
   obtain ⟨rfl,hj2⟩:=hj
   exact ⟨g20,by rw [g30]; omega⟩)
  have ih:=fun c=>ih r0 c hI2 (by omega)
  clear fin hinv
  refine BJ ?_
  refine IX (a24 c1 w1 c3 c4 hp c6 hx c7 c8 c9 c10 hh e1 w2 w3 hA b31 b12 o1 E0 @AK @Aa @AB @Ax) ?_
  exact Jw
 by_cases Ix:x.op=13
 ·have b31:(x.op == 31)=false:=by rw [lx113]; exact MR
  have b12:(x.op == 12)=false:=Y4
  have b13:(x.op == 13)=true:=by rw [lx85]; exact Ix
  by_cases ho1:(Bn x.op).1≤h
  rotate_left
  ·have o1:decide ((Bn x.op).1≤h)=false:=by rw [Bz]; exact ho1
   have e:=hbad (q:=True) (fun hk=>ho1 hk.1)
   refine BJ ?_
   exact Ir (a26 c1 w1 c3 c4 hp c6 hx c7 c8 c9 c10 hh e1 w2 w3 hA b31 b12 b13 o1 e @AK @Aa @Ex @AB @Ax)
   all_goals done
  have o1:decide ((Bn x.op).1≤h)=true:=Ux
  have ho:Kj x h:=⟨ho1,fun hk=>absurd hk MR⟩
  have hef:=Are _ Ix
  have hs0:=AG (j:=((p:Int)+1)) (h':=A) ho (by simp [BR,MR,G0,Ix]; omega)
  have hs1:=AG (j:=x.a) (h':=A) ho (by simp [BR,MR,G0,Ix]; omega)
  have E0:=Ym ((p:Int)+1) A ⟨hs,ws,m,v⟩ ⟨true,0,36,7,[Bv c],false⟩ ⟨true,cn,102,2,[BY x],false⟩ 1 2 v3 (cn+1) hs0.2.1 (by simp only; omega) (by simp only; omega) (by simp only; omega)
  obtain ⟨k1,k2⟩:=hinv hP hs0.1 hs0.2.1 hs0.2.2 (cn+1)
  obtain ⟨⟨b,r0⟩,IY⟩:∃ y,DL ⟨hs,ws,m,v⟩ ((p:Int)+1) A (cn+1)=y:=⟨_,rfl⟩
  rw [IY] at E0 k1 k2
  simp only [Oa,Aa,AK] at E0
  simp only at k1 k2
  cases b with
  | false=>
   have e:=k1 rfl
   clear k1 k2 ih fin hinv
   refine BJ ?_
   exact Ir (a28 c1 w1 c3 c4 hp c6 hx c7 c8 c9 c10 hh e1 w2 w3 hA b31 b12 b13 o1 w4 E0 e @AK @Aa @Ex @AB @Ax)
   all_goals done
  | true=>
  obtain ⟨g10,g20,g30,g40,g50⟩:=k2 rfl
  clear k1 k2
  have E1:=Ym x.a A r0 ⟨true,0,36,7,[Bv c],false⟩ ⟨true,cn,102,2,[BY x],false⟩ 1 2 v3 (cn+3) hs1.2.1 g10.nle (by have:=g10.mea; omega) (by have:=g10.len; omega)
  obtain ⟨k1,k2⟩:=hinv g10 hs1.1 hs1.2.1 hs1.2.2 (cn+3)
  obtain ⟨⟨b,r1⟩,hr1⟩:∃ y,DL r0 x.a A (cn+3)=y:=⟨_,rfl⟩
  rw [hr1] at E1 k1 k2
  simp only [Oa,Aa,AK] at E1
  simp only at k1 k2
  cases b with
  | false=>
   have e:=k1 rfl
   clear k1 k2 ih fin hinv
   refine BJ ?_
   exact Ir (a28 c1 w1 c3 c4 hp c6 hx c7 c8 c9 c10 hh e1 w2 w3 hA b31 b12 b13 o1 w4 E0 E1 e @AK @Aa @AB @Ax)
   all_goals done
  | true=>
  obtain ⟨g11,g21,g31,g41,g51⟩:=k2 rfl
  clear k1 k2
  have hI2:=fin _ g11 (fun j h0 h1=>by rw [g41 j h0 (by rw [g40 j h0 h1]; exact h1),g40 j h0 h1]) ho (fun j h' hj=>by
   simp [BR,MR,G0,Ix] at hj
   rcases hj with ⟨rfl,hj2⟩ | ⟨rfl,hj2⟩
   ·exact ⟨g20,by rw [g41 _ (by omega) (by rw [g30]; exact hs0.2.2),g30]; omega⟩
   ·exact ⟨g21,by rw [g31]; omega⟩)
  have ih:=fun c=>ih r1 c hI2 (by omega)
  clear fin hinv
  refine BJ ?_
  refine IX (a27 c1 w1 c3 c4 hp c6 hx c7 c8 c9 c10 hh e1 w2 w3 hA b31 b12 b13 o1 w4 E0 E1 @AK @Aa @AB @Ax) ?_
  exact Jw
 by_cases a14:x.op=14
 ·have b31:(x.op == 31)=false:=by rw [lx113]; exact MR
  have b12:(x.op == 12)=false:=Y4
  have b13:(x.op == 13)=false:=by rw [lx113]; exact Ix
  have b14:(x.op == 14)=true:=by rw [lx85]; exact a14
  by_cases ho1:(Bn x.op).1≤h
  rotate_left
  ·exact Avz
  have o1:decide ((Bn x.op).1≤h)=true:=Ux
  have ho:Kj x h:=⟨ho1,fun hk=>absurd hk MR⟩
  have hef:=Ard _ a14
  have hs0:=AG (j:=((p:Int)+1)) (h':=A) ho (by simp [BR,MR,G0,Ix,a14]; omega)
  have hs1:=AG (j:=x.a) (h':=(A - 1)) ho (by simp [BR,MR,G0,Ix,a14]; omega)
  have E0:=Ym ((p:Int)+1) A ⟨hs,ws,m,v⟩ ⟨true,0,36,7,[Bv c],false⟩ ⟨true,cn,102,2,[BY x],false⟩ 1 2 v3 (cn+1) hs0.2.1 (by simp only; omega) (by simp only; omega) (by simp only; omega)
  obtain ⟨k1,k2⟩:=hinv hP hs0.1 hs0.2.1 hs0.2.2 (cn+1)
  obtain ⟨⟨b,r0⟩,IY⟩:∃ y,DL ⟨hs,ws,m,v⟩ ((p:Int)+1) A (cn+1)=y:=⟨_,rfl⟩
  rw [IY] at E0 k1 k2
  simp only [Oa,Aa,AK] at E0
  simp only at k1 k2
  cases b with
  | false=>
   have e:=k1 rfl
   clear k1 k2 ih fin hinv
   refine BJ ?_
   exact Ir (a29 c1 w1 c3 c4 hp c6 hx c7 c8 c9 c10 hh e1 w2 w3 hA b31 b12 b13 b14 o1 w4 E0 e @AK @Aa @Ex @AB @Ax)
   all_goals done
  | true=>
  obtain ⟨g10,g20,g30,g40,g50⟩:=k2 rfl
  clear k1 k2
  have E1:=Ym x.a (A - 1) r0 ⟨true,0,36,7,[Bv c],false⟩ ⟨true,cn,102,2,[BY x],false⟩ 1 2 v3 (cn+3) hs1.2.1 g10.nle (by have:=g10.mea; omega) (by have:=g10.len; omega)
  obtain ⟨k1,k2⟩:=hinv g10 hs1.1 hs1.2.1 hs1.2.2 (cn+3)
  obtain ⟨⟨b,r1⟩,hr1⟩:∃ y,DL r0 x.a (A - 1) (cn+3)=y:=⟨_,rfl⟩
  rw [hr1] at E1 k1 k2
  simp only [Oa,Aa,AK] at E1
  simp only at k1 k2
  cases b with
  | false=>
   have e:=k1 rfl
   clear k1 k2 ih fin hinv
   refine BJ ?_
   exact Ir (a30 c1 w1 c3 c4 hp c6 hx c7 c8 c9 c10 hh e1 w2 w3 hA b31 b12 b13 b14 o1 w4 w5 E0 E1 e @AK @Aa @AB @Ax)
   all_goals done
  | true=>
  obtain ⟨g11,g21,g31,g41,g51⟩:=k2 rfl
  clear k1 k2
  have hI2:=fin _ g11 (fun j h0 h1=>by rw [g41 j h0 (by rw [g40 j h0 h1]; exact h1),g40 j h0 h1]) ho (fun j h' hj=>by
   simp [BR,MR,G0,Ix,a14] at hj
   rcases hj with ⟨rfl,hj2⟩ | ⟨rfl,hj2⟩
   ·exact ⟨g20,by rw [g41 _ (by omega) (by rw [g30]; exact hs0.2.2),g30]; omega⟩
   ·exact ⟨g21,by rw [g31]; omega⟩)
  have ih:=fun c=>ih r1 c hI2 (by omega)
  clear fin hinv
  refine BJ ?_
  refine IX (a29 c1 w1 c3 c4 hp c6 hx c7 c8 c9 c10 hh e1 w2 w3 hA b31 b12 b13 b14 o1 w4 w5 E0 E1 @AK @Aa @AB @Ax) ?_
  exact Jw
 have b31:(x.op == 31)=false:=by rw [lx113]; exact MR
 have b12:(x.op == 12)=false:=Y4
 have b13:(x.op == 13)=false:=by rw [lx113]; exact Ix
 have b14:(x.op == 14)=false:=by rw [lx113]; exact a14
 by_cases ho1:(Bn x.op).1≤h
 rotate_left
 ·exact Avz
 have o1:decide ((Bn x.op).1≤h)=true:=Ux
 have ho:Kj x h:=⟨ho1,fun hk=>absurd hk MR⟩
 have hs0:=AG (j:=((p:Int)+1)) (h':=A) ho (by simp [BR,MR,G0,Ix,a14]; omega)
 have E0:=Ym ((p:Int)+1) A ⟨hs,ws,m,v⟩ ⟨true,0,36,7,[Bv c],false⟩ ⟨true,cn,102,2,[BY x],false⟩ 1 2 v3 (cn+1) hs0.2.1 (by simp only; omega) (by simp only; omega) (by simp only; omega)
 obtain ⟨k1,k2⟩:=hinv hP hs0.1 hs0.2.1 hs0.2.2 (cn+1)
 obtain ⟨⟨b,r0⟩,IY⟩:∃ y,DL ⟨hs,ws,m,v⟩ ((p:Int)+1) A (cn+1)=y:=⟨_,rfl⟩
 rw [IY] at E0 k1 k2
 simp only [Oa,Aa,AK] at E0
 simp only at k1 k2
 cases b with
 | false=>
  have e:=k1 rfl
  clear k1 k2 ih fin hinv
  refine BJ ?_
  exact Ir (a28 c1 w1 c3 c4 hp c6 hx c7 c8 c9 c10 hh e1 w2 w3 hA b31 b12 b13 b14 o1 w4 E0 e @AK @Aa @AB @Ax)
  all_goals done
 | true=>
 obtain ⟨g10,g20,g30,g40,g50⟩:=k2 rfl
 clear k1 k2
 have hI2:=fin _ g10 g40 ho (fun j h' hj=>by
  simp [BR,MR,G0,Ix,a14] at hj
  obtain ⟨rfl,hj2⟩:=hj
  exact ⟨g20,by rw [g30]; omega⟩)
 have ih:=fun c=>ih r0 c hI2 (by omega)
 clear fin hinv
 refine BJ ?_
 refine IX (a27 c1 w1 c3 c4 hp c6 hx c7 c8 c9 c10 hh e1 w2 w3 hA b31 b12 b13 b14 o1 w4 E0 @AK @Aa @AB @Ax) ?_
 exact Jw
def TX (p:Int × Int):AV:=.ag [kA .i64 p.1,kA .i64 p.2]
theorem G7 (p:Int × Int):TX p=.ag [.sc (.int .i64 p.1),.sc (.int .i64 p.2)]:=rfl
theorem SH (l:List (Int × Int)):Db 2 (l.map TX)=true:=D7 (f:=TX) (fun _=>rfl) l
theorem LC (l:List (Int × Int)):norefs (l.map TX)=true:=C4 (f:=TX) (fun _=>by simp [TX,kA,AV.noref,norefs]) l
def afQ (p:In × Int × Int):Prop:=(0≤p.2.1∧p.2.1≤1000000)∧-1000≤p.2.2∧p.2.2≤1000
noncomputable def f151:=Er afQ (fun p=>[BY p.1,kA .i64 p.2.1,kA .i64 p.2.2]) (fun p=>.vw false ((BR p.1 p.2.1 p.2.2).map TX))
theorem Bfy (x:In) (i h:Int) (hq:afQ (x,i,h)):f151 [BY x,.sc (.int .i64 i),.sc (.int .i64 h)]=some (.vw false ((BR x i h).map TX)):=
 (AJ (q:=afQ) (enc:=fun p=>[BY p.1,kA .i64 p.2.1,kA .i64 p.2.2]) (out:=fun p=>.vw false ((BR p.1 p.2.1 p.2.2).map TX)) (x,i,h) hq (by
  rintro ⟨a,b,d⟩ h
  simp only [lx96,Az] at h
  rw [OJ h.1,Bt h.2.1,Bt h.2.2]) :)
theorem Baz:VOk Tryz.prog 151 f151:=Lr <| by
 rintro ⟨x,i,h⟩ ⟨⟨q1,q2⟩,q3,q4⟩
 simp only at q1 q2 q3 q4 ⊢
 have hen:=LB x.op
 have w1:IntKind.i64.wrap (i+1)=i+1:=Nz
 have w2:IntKind.i64.wrap (h - 1)=h - 1:=Nz
 have w3:IntKind.i64.wrap (h - (Bn x.op).1)=h - (Bn x.op).1:=Nz
 have w4:IntKind.i64.wrap (h - (Bn x.op).1+(Bn x.op).2.1)=h - (Bn x.op).1+(Bn x.op).2.1:=Nz
 have x1:=Am8 x.op
 refine BO (Aj (lit:=false) (pm:=fun _=>none) (.cons Ab4 .nil) .nil .nil .nil) rfl Tryz.func151 rfl (by decide) (by kernel_rfl) (by simp [AV.noref,LC]) ?_
 simp only [Tryz.f151,Af,lx53,lx63,Nat.reduceAdd,Nat.reduceSub,List.replicate]
 refine Ab ?_
 by_cases MR:x.op=31
 ·have b31:(x.op == 31)=true:=by rw [lx85]; exact MR
  have hs:BR x i h=[]:=by simp [BR,MR]
  rw [hs]
  exact Ir (a3 x1 b31 @AK)
  all_goals done
 have b31:(x.op == 31)=false:=by rw [lx113]; exact MR
 by_cases G0:x.op=12
 ·have b12:(x.op == 12)=true:=by rw [lx85]; exact G0
  have hs:BR x i h=[(x.a,h)]:=by simp [BR,G0]
  rw [hs]
  exact Ir (a5 x1 b31 b12 @AK @G7)
  all_goals done
 have b12:(x.op == 12)=false:=Y4
 by_cases Ix:x.op=13
 ·have b13:(x.op == 13)=true:=by rw [lx85]; exact Ix
  have hs:BR x i h=[(i+1,h - 1),(x.a,h - 1)]:=by simp [BR,Ix]
  rw [hs]
  exact Ir (a8 x1 b31 b12 b13 w1 w2 @AK @G7)
  all_goals done
 have b13:(x.op == 13)=false:=by rw [lx113]; exact Ix
 by_cases a14:x.op=14
 ·have b14:(x.op == 14)=true:=by rw [lx85]; exact a14
  have hs:BR x i h=[(i+1,h),(x.a,h - 1)]:=by simp [BR,a14]
  rw [hs]
  exact Ir (a9 x1 b31 b12 b13 b14 w1 w2 @AK @G7)
  all_goals done
 have b14:(x.op == 14)=false:=by rw [lx113]; exact a14
 have hs:BR x i h=[(i+1,h - (Bn x.op).1+(Bn x.op).2.1)]:=by simp [BR,MR,G0,Ix,a14]
 rw [hs]
 exact Ir (Gv x1 b31 b12 b13 b14 w1 w3 w4 @AK @G7)
 all_goals done
structure HJ (c:Cd) (k:Nat) (hs:List Int) (td:List (Int × Int)):Prop where
 len:hs.length=c.ins.length
 mea:3 * Nl hs+td.length≤3 * c.ins.length+k
 mark:∀ i:Int,0≤i→i < c.ins.length→0≤Eb hs i→Rch c i (Eb hs i)∧Eb hs i≤48∧Kj (AD c i) (Eb hs i)
 wait:∀ x ∈ td,Rch c x.1 x.2∧0≤x.1∧0≤x.2
 ents:∀ j,j < k→((c.ens.getD j default).pc,0) ∈ td∨(c.ens.getD j default).pc < c.ins.length∧Eb hs (c.ens.getD j default).pc=0
 clos:∀ i:Int,0≤i→i < c.ins.length→0≤Eb hs i→∀ j h',(j,h') ∈ BR (AD c i) i (Eb hs i)→(j,h') ∈ td∨j < c.ins.length∧Eb hs j=h'
theorem Aij (c:Cd):HJ c 0 (List.replicate c.ins.length (-1)) []:=by
 have hm:∀ i:Int,Eb (List.replicate c.ins.length (-1)) i=-1:=fun i=>by
  exact Aoc
 refine ⟨by simp,?_,fun i _ _ h=>?_,fun x hx=>by simp at hx,fun j hj=>by omega,fun i _ _ h=>?_⟩
 ·have:=Abb (List.replicate c.ins.length (-1)); simp at this; simp; omega
 ·rw [hm] at h; omega
 ·rw [hm] at h; omega
theorem Atz {c:Cd} (hL:Lead c) {k:Nat} {hs:List Int} {td:List (Int × Int)} (h:HJ c k hs td) (hk:k < c.ens.length):HJ c (k+1) hs (td++[((c.ens.getD k default).pc,0)]):=by
 have hmea:=h.mea
 refine ⟨h.len,by simp; omega,h.mark,fun x hx=>?_,fun j hj=>?_,fun i h0 h1 h2 j h' hj=>?_⟩
 ·rcases lx76.1 hx with hx | hx
  ·exact h.wait x hx
  ·simp only [lx70] at hx
   subst hx
   exact ⟨.ent (Cf hk),hL.ent _ (Cf hk),Int.le_refl _⟩
 ·rcases Ec j k with hj' | hj'
  ·exact (h.ents j hj').imp (lx77 _) id
  ·obtain rfl:j=k:=by omega
   exact .inl (List.mem_append_right _ (lx70.2 rfl))
 ·exact (h.clos i h0 h1 h2 j h' hj).imp (lx77 _) id
theorem Au0 {c:Cd} (hL:Lead c) {hs:List Int} (h:HJ c c.ens.length hs []):IP c=true:=by
 refine SF (N9 (hs:=hs) (fun e he=>?_) (fun i h0 h1 h2=>?_) hL)
 ·obtain ⟨j,hj,rfl⟩:=lx69 he
  have:=h.ents j hj
  rw [lx80,lx51 hj] at this
  rcases this with h1 | h1
  ·cases h1
  ·exact h1
 ·obtain ⟨g1,g2,g3⟩:=h.mark i h0 h1 h2
  exact ⟨g2,g3,fun j h' hj=>by
   rcases h.clos i h0 h1 h2 j h' hj with h1 | h1
   ·cases h1
   ·exact h1⟩
theorem Ame {c:Cd} {k:Nat} {hs:List Int} {td:List (Int × Int)} {i h:Int} (hJ:HJ c k hs (td++[(i,h)])) (h1:i < c.ins.length) (h2:Eb hs i=h):HJ c k hs td:=by
 have hmea:=hJ.mea
 have key:∀ {j h':Int},(j,h') ∈ td++[(i,h)]∨j < c.ins.length∧Eb hs j=h'→(j,h') ∈ td∨j < c.ins.length∧Eb hs j=h':=by
  intro j h' hh
  rcases hh with hh | hh
  ·rcases lx76.1 hh with hh | hh
   ·exact .inl hh
   ·simp only [lx70,lx40] at hh
    rw [hh.1,hh.2]; exact .inr ⟨h1,h2⟩
  ·exact .inr hh
 refine ⟨hJ.len,by simp at hmea; omega,hJ.mark,fun x hx=>hJ.wait x (lx77 _ hx),fun j hj=>key (hJ.ents j hj),fun i' g0 g1 g2 j h' hj=>key (hJ.clos i' g0 g1 g2 j h' hj)⟩
theorem Amf {c:Cd} (hL:Lead c) {k:Nat} {hs:List Int} {td:List (Int × Int)} {i h:Int} (hJ:HJ c k hs (td++[(i,h)])) (h1:i < c.ins.length) (h2:h≤48) (h3:¬ 0≤Eb hs i) (ho:Kj (AD c i) h):
  HJ c k (hs.set i.toNat h) (td++BR (AD c i) i h)∧Nl (hs.set i.toNat h)+1=Nl hs:=by
 have hmea:=hJ.mea
 obtain ⟨hr,hi,hh⟩:=hJ.wait (i,h) (List.mem_append_right _ (lx70.2 rfl))
 simp only at hr hi hh
 have hl:=hJ.len
 have hneg:=QK (hs:=hs) (k:=i.toNat) (h:=h) (by omega) (by unfold Eb at h3; omega) hh
 have hs':∀ j:Int,0≤j→Eb (hs.set i.toNat h) j=if j=i then h else Eb hs j:=fun j hj=>Abc hi (by omega) hj
 have hp:∀ j:Int,0≤j→0≤Eb hs j→Eb (hs.set i.toNat h) j=Eb hs j:=fun j hj g=>by
  rw [hs' j hj,if_neg]; rintro rfl; exact h3 g
 have hsl:(BR (AD c i) i h).length≤2:=by
  unfold BR
  split
  ·simp
  ·split
   ·simp
   ·split
    ·simp
    ·split <;> simp
 have key:∀ {j h':Int},0≤j→0≤h'→(j,h') ∈ td++[(i,h)]∨j < c.ins.length∧Eb hs j=h'→(j,h') ∈ td++BR (AD c i) i h∨j < c.ins.length∧Eb (hs.set i.toNat h) j=h':=by
  intro j h' g0 g0' hx
  rcases hx with hx | hx
  ·rcases lx76.1 hx with hx | hx
   ·exact .inl (lx77 _ hx)
   ·simp only [lx70,lx40] at hx
    rw [hx.1,hx.2]; exact .inr ⟨h1,by rw [hs' i hi,if_pos rfl]⟩
  ·exact .inr ⟨hx.1,by rw [hp j g0 (by rw [hx.2]; exact g0'),hx.2]⟩
 refine ⟨⟨by simp [hl],by simp at hmea ⊢; omega,?_,?_,?_,?_⟩,hneg⟩
 ·intro j hj hj' hj2
  rw [hs' j hj] at hj2 ⊢
  split
  ·rename_i hji; subst hji; exact ⟨hr,h2,ho⟩
  ·rename_i hji
   rw [if_neg hji] at hj2
   exact hJ.mark j hj hj' hj2
 ·intro x hx
  rcases lx76.1 hx with hx | hx
  ·exact hJ.wait x (lx77 _ hx)
  ·obtain ⟨j,h'⟩:=x
   exact ⟨.step hr h1 ho hx,Kk hL hi h1 hx,IQ ho hx⟩
 ·intro j hj
  by_cases hj2:j < c.ens.length
  ·exact key (hL.ent _ (Cf hj2)) (Int.le_refl _) (hJ.ents j hj)
  ·have e0:(c.ens.getD j default).pc=0:=by rw [lx80,lx30 (by omega)]; rfl
   rw [e0]
   have:=hJ.ents j hj
   rw [e0] at this
   exact key (Int.le_refl _) (Int.le_refl _) this
 ·intro j hj hj' hj2 q h' hq
  rw [hs' j hj] at hj2 hq
  by_cases hji:j=i
  ·subst hji
   rw [if_pos rfl] at hq
   exact .inl (List.mem_append_right _ hq)
  ·rw [if_neg hji] at hq hj2
   obtain ⟨g1,g2,g3⟩:=hJ.mark j hj hj' hj2
   exact key (Kk hL hj hj' hq) (IQ g3 hq) (hJ.clos j hj hj' hj2 q h' hq)
end Go.Proofs.YtdjpkhjaibdogaaGreat
